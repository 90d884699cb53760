/-
  A part of the proof that the evaluator is sound: what it finds, the machine does, whatever the tape; conditions as each theorem names them.
-/
import Derived.Test.YtodboimcfpefhaaGreatDoorAe3
namespace Go.AE
open Go

section
variable {mk nt : FuncId → Nat} {P : Program}

theorem cells_read {β : Be} {w : World} {b base tot : Nat} {cs : List AV} {rd : Bool} {lo hi : Nat} {anc : List Pos} (h : ObjR mk nt β w.heap b base tot (.cells cs rd lo hi anc)) {off n : Nat} (hn : off + n ≤ cs.length) :
    ∃ l', VRs β ((cs.drop off).take n) l' ∧ l'.length = n ∧ base + off + n ≤ base + tot ∧ ∀ j v, l'[j]? = some v → w.cell? (Addr.add ⟨b, base + off, none⟩ j) = some v := by
  obtain ⟨c, ty, fr, h1, h2, ⟨k, h3, h3'⟩, h4⟩ := h
  have hlen : cs.length = k := by
    have := h3'.length
    rw [this, List.length_take, List.length_drop, Array.length_toList]; omega
  refine ⟨(((c.toList.drop base).take k).drop off).take n, (h3'.drop off).take n, ?_, by omega, fun j v hj => ?_⟩
  · simp only [List.length_take, List.length_drop, Array.length_toList]; omega
  · have hjn : j < n := by
      have := (List.getElem?_eq_some_iff.1 hj).1
      simp only [List.length_take] at this; omega
    have hlt : off + j < k := by omega
    rw [List.getElem?_take, if_pos hjn, List.getElem?_drop, List.getElem?_take, if_pos hlt, List.getElem?_drop] at hj
    have e : Addr.add ⟨b, base + off, none⟩ j = ⟨b, base + (off + j), none⟩ := by
      unfold Addr.add
      split
      · subst j; rfl
      · simp [Nat.add_assoc]
    rw [e]
    simp only [World.cell?, h1, Option.isSome_none, Bool.false_eq_true, if_false]
    simpa using hj

/-! questions to the heap -/
def PtrEqH (h : HO) (i : Pos) (o : Nat) (j : Pos) (q : Nat) (t : Bool) : Prop :=
  (i = j ∧ t = decide (o = q)) ∨ (i ≠ j ∧ t = false ∧ (∃ cs lo hi anc, h i = some (.cells cs false lo hi anc) ∧ lo = hi) ∧ ∃ cs lo hi anc, h j = some (.cells cs false lo hi anc) ∧ lo = hi)
def KeyEqH (h : HO) (kk : Nat) (a b : AV) (t : Bool) : Prop :=
  eqv kk a b = some t ∨ (kk = 3 ∧ ∃ i o j q, a = .ptr i o ∧ b = .ptr j q ∧ PtrEqH h i o j q t)
def FindH (h : HO) (kk : Nat) (k : AV) : List (AV × AV) → Option AV → Prop
  | [], r => r = none
  | e :: es, r => ∃ t, KeyEqH h kk k e.1 t ∧ (if t = true then r = some e.2 else FindH h kk k es r)
def RqH (h : HO) : RQ → Prop
  | .cells id off n cs => ∃ os rd lo hi anc, h id = some (.cells os rd lo hi anc) ∧ off + n ≤ os.length ∧ (os.drop off).take n = cs
  | .look kk id k r => ∃ es, h id = some (.map es) ∧ FindH h kk k es r
  | .obj id o => h id = some o

theorem ptrEq_spec {σ : Heap} {i j : Pos} {o q : Nat} {c : Bool → Prop} (h : ptrEq σ i o j q c) : ∃ t, c t ∧ PtrEqH (hof σ) i o j q t := by
  unfold ptrEq at h
  rw [ite'_eq] at h
  by_cases e : i = j
  · rw [if_pos ((Pos.beq_iff i j).2 e), forceBool_eq, beq_dec] at h
    exact ⟨_, h, .inl ⟨e, rfl⟩⟩
  · rw [if_neg (fun x => e ((Pos.beq_iff i j).1 x))] at h
    obtain ⟨x, hx, h⟩ := withObj_spec h
    obtain ⟨y, hy, h⟩ := withObj_spec h
    rcases x with ⟨cs, r1, l1, h1, a1⟩ | _ | _ | _ | _ | _
    · rcases y with ⟨cs2, r2, l2, h2, a2⟩ | _ | _ | _ | _ | _
      · have h' : ite' (!r1 && !r2 && Nat.beq l1 h1 && Nat.beq l2 h2) (c false) False := h
        obtain ⟨hq, hc⟩ := ite'_true h'
        simp only [Bool.and_eq_true, beq_dec, decide_eq_true_eq, Bool.not_eq_true'] at hq
        obtain ⟨⟨⟨rfl, rfl⟩, rfl⟩, rfl⟩ := hq
        exact ⟨false, hc, .inr ⟨e, rfl, ⟨_, _, _, _, hx, rfl⟩, ⟨_, _, _, _, hy, rfl⟩⟩⟩
      all_goals exact h.elim
    all_goals exact h.elim
theorem keyEq_spec {σ : Heap} {kk : Nat} {a b : AV} {c : Bool → Prop} (h : keyEq σ kk a b c) : ∃ t, c t ∧ KeyEqH (hof σ) kk a b t := by
  unfold keyEq at h
  split at h
  · obtain ⟨t, h1, h2⟩ := ptrEq_spec h
    exact ⟨t, h1, .inr ⟨rfl, _, _, _, _, rfl, rfl, h2⟩⟩
  · split at h
    · exact ⟨_, h, .inl ‹_›⟩
    · exact h.elim
theorem findK_spec {σ : Heap} {kk : Nat} {k : AV} : ∀ {es : List (AV × AV)} {c : Option AV → Prop}, findK σ kk k es c → ∃ r, c r ∧ FindH (hof σ) kk k es r
  | [], c, h => ⟨none, h, rfl⟩
  | e :: es, c, h => by
    have h' : keyEq σ kk k e.1 fun t => ite' t (c (some e.2)) (findK σ kk k es c) := h
    obtain ⟨t, h1, h2⟩ := keyEq_spec h'
    cases t with
    | true => exact ⟨_, h1, true, h2, rfl⟩
    | false =>
      obtain ⟨r, h3, h4⟩ := findK_spec (es := es) (c := c) h1
      exact ⟨r, h3, false, h2, h4⟩
theorem mapFind_spec {σ : Heap} {kk : Nat} {id : Pos} {k : AV} {c : Option AV → Prop} (h : mapFind σ kk id k c) : ∃ r, c r ∧ RqH (hof σ) (.look kk id k r) := by
  unfold mapFind at h
  obtain ⟨o, ho, h⟩ := withObj_spec h
  cases o
  case map es =>
    obtain ⟨r, h1, h2⟩ := findK_spec (es := es) h
    exact ⟨r, h1, es, ho, h2⟩
  all_goals exact h.elim

/-- pointers as the machine compares them -/
theorem ptrEq_run {P : Program} {β : Be} {h : HO} {w : World} (R : Rel mk nt β h w) {i j : Pos} {o q : Nat} {t : Bool} (hp : PtrEqH h i o j q t) {b1 s1 t1 b2 s2 t2 : Nat}
    (hi : β i = some (b1, s1, t1)) (hj : β j = some (b2, s2, t2)) : (sameAddr ⟨b1, s1 + o, none⟩ ⟨b2, s2 + q, none⟩).run P w = .ok t w := by
  rcases hp with ⟨rfl, rfl⟩ | ⟨hne, rfl, ⟨c1, l1, h1, a1, g1, e1⟩, ⟨c2, l2, h2, a2, g2, e2⟩⟩
  · rw [hi] at hj
    simp only [Option.some.injEq, Prod.mk.injEq] at hj
    obtain ⟨rfl, rfl, rfl⟩ := hj
    have : (({ block := b1, off := s1 + o } : Addr) == { block := b1, off := s1 + q }) = decide (o = q) := by
      by_cases h : o = q
      · subst h; simp
      · simp [h]
    simp [sameAddr, this]
  · have hb : b1 ≠ b2 := by
      intro hb
      have := R.sep i j _ _ _ _ hne g1 g2 hi hj hb
      simp [Share] at this
    obtain ⟨d1, ty1, f1, q1, z1, _, _, n1⟩ := R.obj i _ _ g1 hi
    obtain ⟨d2, ty2, f2, q2, z2, _, _, n2⟩ := R.obj j _ _ g2 hj
    have m1 := n1 (by omega)
    have m2 := n2 (by omega)
    simp only at q1 q2
    have x1 : ∀ x, w.frozen? ⟨b1, x, none⟩ = false := by
      intro x; simp only [World.frozen?, q1]; simp; omega
    have x2 : ∀ x, w.frozen? ⟨b2, x, none⟩ = false := by
      intro x; simp only [World.frozen?, q2]; simp; omega
    simp [sameAddr, hb, x1, x2, q1, q2, noView, viewAt, World.shape?, mayBeOne, stringish]
theorem keyKind_cases {d : TypeDesc} {kk : Nat} (hk : keyKind P d = some kk) : (plainKind d = some kk) ∨ (kk = 3 ∧ ∃ e n, d = .pointer e ∧ sizeT P e = some (n + 1)) := by
  unfold keyKind at hk
  split at hk
  · split at hk
    · cases hk; exact .inr ⟨rfl, _, _, rfl, ‹_›⟩
    · cases hk
  · exact .inl hk
theorem plainKind_ne3 {d : TypeDesc} (h : plainKind d = some 3) : False := by cases d <;> simp [plainKind] at h
/-- keys as the machine compares them -/
theorem keyEq_run {P : Program} {β : Be} {h : HO} {w : World} (R : Rel mk nt β h w) {kt : TypeId} {d : TypeDesc} {kk : Nat} (hd : und P kt = some d) (hk : keyKind P d = some kk) {a b : AV} {a' b' : Value} {t : Bool}
    (hp : KeyEqH h kk a b t) (ha : VR β a a') (hb : VR β b b') : (Op.equal kt a' b').run P w = .ok t w := by
  rcases keyKind_cases hk with hpk | ⟨rfl, e, n, rfl, hz⟩
  · rcases hp with hp | ⟨rfl, _⟩
    · exact equal_of fun n => eqv_spec hp ha hb (und_spec hd) hpk n w
    · exact (plainKind_ne3 hpk).elim
  · rcases hp with hp | ⟨_, i, o, j, q, rfl, rfl, hp⟩
    · cases a <;> cases b <;> simp [eqv] at hp
    · obtain ⟨b1, s1, t1, h1, rfl⟩ := ha.ptr_inv
      obtain ⟨b2, s2, t2, h2, rfl⟩ := hb.ptr_inv
      refine equal_of fun k => ?_
      simp [Op.equalIn, run_underlying hd, run_sizeOf hz, ptrEq_run R hp h1 h2]
theorem findAsking_run {P : Program} {β : Be} {h : HO} {w : World} (R : Rel mk nt β h w) {kt : TypeId} {d : TypeDesc} {kk : Nat} (hd : und P kt = some d) (hk : keyKind P d = some kk) {k : AV} {k' : Value} (hkv : VR β k k') :
    ∀ {es : List (AV × AV)} {es' : List MapEntry} {r : Option AV} (i : Nat), EsR β es es' → FindH h kk k es r →
      (r = none ∧ (Instr.findAsking kt k' es' i).run P w = .ok none w) ∨ ∃ v j e', r = some v ∧ (Instr.findAsking kt k' es' i).run P w = .ok (some (i + j, e'.val)) w ∧ VR β v e'.val ∧ es'[j]? = some e'
  | _, _, r, i, .nil, hf => .inl ⟨hf, by simp [Instr.findAsking]⟩
  | _, _, r, i, .cons a v e' l l' ha hv hs, hf => by
    obtain ⟨t, h1, h2⟩ := hf
    have hq := keyEq_run R hd hk h1 hkv ha
    cases t with
    | true =>
      simp only [if_true] at h2
      exact .inr ⟨v, 0, e', h2, by simp [Instr.findAsking, hq], hv, rfl⟩
    | false =>
      simp only [Bool.false_eq_true, if_false] at h2
      rcases findAsking_run R hd hk hkv (i + 1) hs h2 with ⟨h3, h4⟩ | ⟨v', j, e2, h3, h4, h5, h6⟩
      · exact .inl ⟨h3, by simp [Instr.findAsking, hq, h4]⟩
      · exact .inr ⟨v', j + 1, e2, h3, by simp [Instr.findAsking, hq, h4]; omega, h5, by simpa using h6⟩

theorem sameNow_spec {β : Be} {d : TypeDesc} {kk : Nat} (hk : plainKind d = some kk) {a b : AV} {a' b' : Value} {t : Bool} (h : eqv kk a b = some t) (ha : VR β a a') (hb : VR β b b') : Instr.sameNow d a' b' = some t := by
  unfold eqv at h
  split at h
  · obtain rfl := ha.bool_inv
    obtain rfl := hb.bool_inv
    cases d <;> simp [plainKind] at hk
    simpa [Instr.sameNow] using h
  · obtain rfl := ha.int_inv
    obtain rfl := hb.int_inv
    cases d <;> simp [plainKind] at hk
    rename_i k x k' y _
    by_cases hkk : keq k k' = true
    · have := (keq_iff k k').1 hkk
      subst this
      rw [hkk, ieq_iff] at h
      simpa [Instr.sameNow] using h
    · simp only [Bool.not_eq_true] at hkk
      rw [hkk] at h; cases h
  · obtain ⟨s, rfl, rfl⟩ := ha.str_inv
    obtain ⟨s', rfl, rfl⟩ := hb.str_inv
    cases d <;> simp [plainKind] at hk
    rw [seq_iff, map_inj_beq, ← bytes_beq] at h
    simpa [Instr.sameNow] using h
  · cases h

theorem findNow_run {β : Be} {h : HO} {d : TypeDesc} {kk : Nat} (hk : plainKind d = some kk) {k : AV} {k' : Value} (hkv : VR β k k') :
    ∀ {es : List (AV × AV)} {es' : List MapEntry} {r : Option AV} (i : Nat), EsR β es es' → FindH h kk k es r →
      (r = none ∧ Instr.findNow d k' es' i = some none) ∨ ∃ v j e', r = some v ∧ Instr.findNow d k' es' i = some (some (i + j, e'.val)) ∧ VR β v e'.val ∧ es'[j]? = some e'
  | _, _, r, i, .nil, hf => .inl ⟨hf, by simp [Instr.findNow]⟩
  | _, _, r, i, .cons a v e' l l' ha hv hs, hf => by
    obtain ⟨t, h1, h2⟩ := hf
    have hq : Instr.sameNow d k' e'.key = some t := by
      rcases h1 with h1 | ⟨rfl, _⟩
      · exact sameNow_spec hk h1 hkv ha
      · exact (plainKind_ne3 hk).elim
    cases t with
    | true =>
      simp only [if_true] at h2
      exact .inr ⟨v, 0, e', h2, by simp [Instr.findNow, hq], hv, rfl⟩
    | false =>
      simp only [Bool.false_eq_true, if_false] at h2
      rcases findNow_run hk hkv (i + 1) hs h2 with ⟨h3, h4⟩ | ⟨v', j, e2, h3, h4, h5, h6⟩
      · exact .inl ⟨h3, by simp [Instr.findNow, hq, h4]⟩
      · exact .inr ⟨v', j + 1, e2, h3, by simp [Instr.findNow, hq, h4]; omega, h5, by simpa using h6⟩

theorem findKey_run {β : Be} {h : HO} {w : World} (R : Rel mk nt β h w) {kt : TypeId} {d : TypeDesc} {kk : Nat} (hd : und P kt = some d) (hk : keyKind P d = some kk) {k : AV} {k' : Value} (hkv : VR β k k')
    {es : List (AV × AV)} {es' : List MapEntry} {r : Option AV} (he : EsR β es es') (hf : FindH h kk k es r) :
      (r = none ∧ (Instr.findKey kt k' es').run P w = .ok none w) ∨ ∃ v j e', r = some v ∧ (Instr.findKey kt k' es').run P w = .ok (some (j, e'.val)) w ∧ VR β v e'.val ∧ es'[j]? = some e' := by
  rcases keyKind_cases hk with hpk | ⟨rfl, e, n, rfl, hz⟩
  · rcases findNow_run hpk hkv 0 he hf with ⟨h1, h2⟩ | ⟨v, j, e', h1, h2, h3, h4⟩
    · exact .inl ⟨h1, by simp [Instr.findKey, run_underlying hd, h2]⟩
    · exact .inr ⟨v, j, e', h1, by simp [Instr.findKey, run_underlying hd, h2], h3, h4⟩
  · have hs : ∀ a b, Instr.sameNow (.pointer e) a b = none := by intro a b; simp [Instr.sameNow]
    cases es' with
    | nil =>
      rcases findAsking_run R hd hk hkv 0 he hf with ⟨h1, h2⟩ | ⟨v, j, e', h1, h2, h3, h4⟩
      · exact .inl ⟨h1, by simp [Instr.findKey, run_underlying hd, Instr.findNow]⟩
      · simp at h4
    | cons e1 l =>
      rcases findAsking_run R hd hk hkv 0 he hf with ⟨h1, h2⟩ | ⟨v, j, e', h1, h2, h3, h4⟩
      · exact .inl ⟨h1, by simp [Instr.findKey, run_underlying hd, Instr.findNow, hs, h2]⟩
      · exact .inr ⟨v, j, e', h1, by simp [Instr.findKey, run_underlying hd, Instr.findNow, hs, h2], h3, h4⟩
theorem checkKey_run {w : World} {kt : TypeId} {d : TypeDesc} {kk : Nat} (hd : und P kt = some d) (hk : keyKind P d = some kk) (emp : Bool) (n : Nat) (k' : Value) : (Instr.checkKey emp (n + 1) kt k').run P w = .ok () w := by
  have : (∀ ms, d ≠ .interface ms) ∧ (∀ a b, d ≠ .array a b) ∧ ∀ fs, d ≠ .struct fs := by
    rcases keyKind_cases hk with hpk | ⟨rfl, e, n, rfl, hz⟩
    · cases d <;> simp [plainKind] at hpk <;> simp
    · simp
  obtain ⟨h1, h2, h3⟩ := this
  unfold Instr.checkKey
  rw [Sem.run_bind, run_underlying hd]
  simp only [Result.andThen]
  cases d <;> simp at h1 h2 h3 <;> simp
end
end Go.AE
namespace Go.AE
open Go

section
variable {mk nt : FuncId → Nat} {P : Program} {m : Nat} {l : Loc} {e : Env} {dst : Option Tmp} {ty : TypeId} {pos : String} {aft : Array Edge} {gd : Option (Nat × Bool)}

/-- an operation that reads comes to v -/
def ReadAt (mk nt : FuncId → Nat) (P : Program) (m : Nat) (l : Loc) (e : Env) (o : Oper) (h : HO) (v : AV) : Prop :=
  ∀ β a w, Rel mk nt β h w → OpdsR β m l e a o.op → ∃ v', VR β v v' ∧ (execOp a.eval o).run P w = .ok (.value v') w

theorem VRs.one_inv {β : Be} {v : AV} {l' : List Value} (h : VRs β [v] l') : ∃ v', l' = [v'] ∧ VR β v v' := by
  cases h with
  | cons _ v' _ _ h hs => cases hs; exact ⟨v', rfl, h⟩

theorem load_at {x : Operand} {t : TypeId} {n : Nat} {g : Bool} {id : Pos} {off : Nat} {cs : List AV} {h : HO} (hz : sizeT P t = some n) (hg : isAggT P t = some g)
    (hx : GetOk m l e x (.ptr id off)) (hq : ∃ k, RqH h (.cells id off k cs) ∧ (g = true → k = n)) {v : AV} (hv : (g = true ∧ v = .agg cs) ∨ (g = false ∧ cs = [v])) :
    ReadAt mk nt P m l e ⟨dst, .load t x, ty, pos, aft, gd⟩ h v := by
  intro β a w R ho
  obtain ⟨k, ⟨os, rd, lo, hi, anc, h1, h2, h3⟩, hk⟩ := hq
  obtain ⟨b, base, tot, hb, he⟩ := (hx β a R.g0 (ho x (by simp [Op.operands]))).ptr_inv
  obtain ⟨l', hl, hn, _, hc⟩ := cells_read (R.obj id _ _ h1 hb) h2
  rw [h3] at hl
  rcases hv with ⟨rfl, rfl⟩ | ⟨rfl, rfl⟩
  · have hk := hk rfl
    subst hk
    refine ⟨.agg ⟨l'⟩, .agg _ _ hl, ?_⟩
    have := run_loadCells_list (P := P) w ⟨b, base + off, none⟩ l' hc
    rw [hn] at this
    simp [execOp, Instr.loadAt, Instr.sureAddr, he, loadVar, run_isAgg hg, run_sizeOf hz, this]
  · obtain ⟨v', rfl, hvv⟩ := hl.one_inv
    refine ⟨v', hvv, ?_⟩
    have := hc 0 v' rfl
    have e0 : (Addr.add ⟨b, base + off, none⟩ 0) = ⟨b, base + off, none⟩ := rfl
    rw [e0] at this
    simp [execOp, Instr.loadAt, Instr.sureAddr, he, loadVar, run_isAgg hg, this]

/-- what a lookup comes to -/
def LookV (ok : Bool) (z : AV) (r : Option AV) : AV := match r with
  | some v => if ok then .tuple [v, .bool true] else v
  | none => if ok then .tuple [z, .bool false] else z
theorem okK_spec {ok : Bool} {v : AV} {t : Bool} {c : AV → Prop} (h : okK ok v t c) : c (if ok then .tuple [v, .bool t] else v) := by
  unfold okK at h; rw [ite'_eq] at h; split at h <;> simp_all

theorem look_at {x i : Operand} {t kt et : TypeId} {kd : TypeDesc} {kk : Nat} {z k : AV} {ok : Bool} {h : HO} (hu : und P t = some (.map kt et)) (hkd : und P kt = some kd) (hz : zeroT P et = some z) (hk : keyKind P kd = some kk)
    {mv : AV} (hx : GetOk m l e x mv) (hi : GetOk m l e i k) {r : Option AV} (hq : (mv = .nilmap ∧ r = none) ∨ ∃ id, mv = .map id ∧ RqH h (.look kk id k r)) :
    ReadAt mk nt P m l e ⟨dst, .lookup t x i ok, ty, pos, aft, gd⟩ h (LookV ok z r) := by
  intro β a w R ho
  have hkv := hi β a R.g0 (ho i (by simp [Op.operands]))
  have hmv := hx β a R.g0 (ho x (by simp [Op.operands]))
  obtain ⟨z', hz1, hz2, _⟩ := run_zero hz w
  have hzv := ofVal_spec β 4 z' z hz2
  have ck := fun b => checkKey_run (w := w) hkd hk b 9999 (a.eval i)
  rcases hq with ⟨rfl, rfl⟩ | ⟨id, rfl, es, h1, h2⟩
  · have he := hmv.nilmap_inv
    refine ⟨if ok then .tuple #[z', .bool false] else z', ?_, ?_⟩
    · simp only [LookV]; cases ok
      · exact hzv
      · exact .tuple _ [z', .bool false] (.cons _ _ _ _ hzv (.cons _ _ _ _ (.bool _) .nil))
    · have hf : (Instr.findKey kt (a.eval i) []).run P w = .ok none w := by simp [Instr.findKey, run_underlying hkd, Instr.findNow]
      simp [execOp, Instr.lookup, run_underlying hu, he, ck, hf, hz1]
  · obtain ⟨b, y, he, hb⟩ := hmv.map_inv
    obtain ⟨es', clk, g1, g2⟩ := R.obj id _ _ h1 hb
    simp only at g1
    have hget : (getObj b).run P w = .ok (.map es' clk) w := by simp [getObj, Sem.run, g1]
    rcases findKey_run R hkd hk hkv g2 h2 with ⟨rfl, h3⟩ | ⟨v, j, e', rfl, h3, h4, _⟩
    · refine ⟨if ok then .tuple #[z', .bool false] else z', ?_, ?_⟩
      · simp only [LookV]; cases ok
        · exact hzv
        · exact .tuple _ [z', .bool false] (.cons _ _ _ _ hzv (.cons _ _ _ _ (.bool _) .nil))
      · simp [execOp, Instr.lookup, run_underlying hu, he, hget, ck, h3, hz1]
    · refine ⟨if ok then .tuple #[e'.val, .bool true] else e'.val, ?_, ?_⟩
      · simp only [LookV]; cases ok
        · exact h4
        · exact .tuple _ [e'.val, .bool true] (.cons _ _ _ _ h4 (.cons _ _ _ _ (.bool _) .nil))
      · simp [execOp, Instr.lookup, run_underlying hu, he, hget, ck, h3]

/-- a key that is a struct of plain fields may be hashed -/
theorem checkStruct {fs : List Field} {offs : List (Nat × Nat)} (ho : eqOffs P fs = some offs) {cs : List Value} (hlt : ∀ p ∈ offs, p.1 < cs.length) (emp : Bool) (n : Nat) (w : World) :
    ((forIn fs PUnit.unit fun f _ =>
      if f.name = "_" then (pure (ForInStep.yield PUnit.unit) : Sem (ForInStep PUnit))
      else do
        let v ← part f.type ⟨cs⟩ f.offset
        Instr.checkKey emp (n + 1) f.type v
        pure (ForInStep.yield PUnit.unit)).run P w) = .ok PUnit.unit w := by
  induction fs generalizing offs with
  | nil => simp
  | cons f r ih =>
    have hname : f.name ≠ "_" := by
      intro hn; simp [eqOffs, hn] at ho
    simp only [eqOffs] at ho
    have hb : (f.name == "_") = false := by simpa using hname
    rw [hb] at ho
    simp only [cond_false] at ho
    cases hu : und P f.type with
    | none => simp [hu] at ho
    | some d =>
      simp only [hu] at ho
      cases hk : plainKind d with
      | none => simp [hk] at ho
      | some k =>
        cases hr : eqOffs P r with
        | none => simp [hk, hr] at ho
        | some l =>
          simp only [hk, hr, Option.some.injEq] at ho
          subst ho
          have hagg : isAggT P f.type = some false := by
            unfold isAggT; rw [hu]; cases d <;> simp_all [plainKind]
          have h0 : f.offset < cs.length := hlt (f.offset, k) (by simp)
          have hpart : (part f.type ⟨cs⟩ f.offset).run P w = .ok cs[f.offset] w := by
            simp [part, run_isAgg hagg, h0]
          have hck : (Instr.checkKey emp (n + 1) f.type cs[f.offset]).run P w = .ok () w := by
            have hne : (∀ ms, d ≠ .interface ms) ∧ (∀ a b, d ≠ .array a b) ∧ ∀ fs, d ≠ .struct fs := by
              cases d <;> simp [plainKind] at hk <;> simp
            obtain ⟨h1, h2, h3⟩ := hne
            unfold Instr.checkKey
            rw [Sem.run_bind, run_underlying hu]
            simp only [Result.andThen]
            cases d <;> simp at h1 h2 h3 <;> simp
          have := ih hr (fun p hp => hlt p (by simp [hp]))
          simp only [List.forIn_cons, if_neg hname, Sem.run_bind, hpart, hck, Result.andThen_ok, Sem.run_pure]
          exact this

theorem structKey_spec {kt : TypeId} {kd : TypeDesc} {n : Nat} (h : structKey P kt kd = some n) : ∃ fs offs, kd = .struct fs ∧ eqOffs P fs.toList = some offs ∧ ∀ p ∈ offs, p.1 < n := by
  unfold structKey at h
  split at h
  · rename_i fs
    split at h
    · rename_i offs n' ho hn
      cases hq : offs.all (fun p => Nat.blt p.1 n') with
      | false => rw [hq] at h; cases h
      | true =>
        rw [hq] at h
        cases h
        refine ⟨fs, offs, rfl, ho, fun p hp => ?_⟩
        have := List.all_eq_true.1 hq p hp
        simpa [blt_iff] using this
    · cases h
  · cases h

theorem lookE_spec {ok : Bool} {z mv : AV} {σ : Heap} {c : AV → Prop} (h : lookE ok z mv σ c) : c (LookV ok z none) ∧ (mv = .nilmap ∨ ∃ id, mv = .map id ∧ hof σ id = some (.map [])) := by
  cases mv <;> (try exact h.elim)
  · exact ⟨okK_spec h, .inl rfl⟩
  · rename_i id
    have h' : withObj σ id fun o => (match o with | .map [] => okK ok z false c | _ => False) := h
    obtain ⟨o, ho, h1⟩ := withObj_spec h'
    rcases o with _ | es | _ | _ | _ | _ <;> (try exact h1.elim)
    cases es with
    | nil => exact ⟨okK_spec h1, .inr ⟨id, rfl, ho⟩⟩
    | cons a l => exact h1.elim

theorem lookE_at {x i : Operand} {t kt et : TypeId} {kd : TypeDesc} {n : Nat} {z k : AV} {ok : Bool} {σ : Heap} (hu : und P t = some (.map kt et)) (hkd : und P kt = some kd) (hz : zeroT P et = some z) (hk : structKey P kt kd = some n)
    {mv : AV} (hx : GetOk m l e x mv) (hi : GetOk m l e i k) {c : AV → Prop} (h : lookEK n ok z mv k σ c) :
    ∃ v, c v ∧ ReadAt mk nt P m l e ⟨dst, .lookup t x i ok, ty, pos, aft, gd⟩ (hof σ) v := by
  cases k <;> (try exact h.elim)
  rename_i cs
  obtain ⟨hq, h1⟩ := ite'_true (show ite' (Nat.beq (lenK cs) n) (lookE ok z mv σ c) False from h)
  rw [beq_dec, decide_eq_true_eq, lenK_eq] at hq
  obtain ⟨h2, h3⟩ := lookE_spec h1
  refine ⟨_, h2, fun β a w R ho => ?_⟩
  obtain ⟨fs, offs, rfl, ho2, hlt⟩ := structKey_spec hk
  obtain ⟨cs', hke, hcs⟩ := (hi β a R.g0 (ho i (by simp [Op.operands]))).agg_inv
  have hmv := hx β a R.g0 (ho x (by simp [Op.operands]))
  obtain ⟨z', hz1, hz2, _⟩ := run_zero hz w
  have hzv := ofVal_spec β 4 z' z hz2
  have ck : ∀ b, (Instr.checkKey b 10000 kt (a.eval i)).run P w = .ok () w := by
    intro b
    rw [hke]
    show (Instr.checkKey b (9998 + 1 + 1) kt _).run P w = _
    unfold Instr.checkKey
    rw [Sem.run_bind, run_underlying hkd]
    simp only [Result.andThen_ok]
    rw [← Array.forIn_toList]
    have hl : ∀ p ∈ offs, p.1 < cs'.length := fun p hp => by have := hlt p hp; have := hcs.length; omega
    have := checkStruct (P := P) (cs := cs') ho2 hl b 9998 w
    simpa using this
  have hf : (Instr.findKey kt (a.eval i) []).run P w = .ok none w := by simp [Instr.findKey, run_underlying hkd, Instr.findNow]
  have hval : VR β (LookV ok z none) (if ok then .tuple #[z', .bool false] else z') := by
    simp only [LookV]; cases ok
    · exact hzv
    · exact .tuple _ [z', .bool false] (.cons _ _ _ _ hzv (.cons _ _ _ _ (.bool _) .nil))
  rcases h3 with rfl | ⟨id, rfl, h4⟩
  · have he := hmv.nilmap_inv
    exact ⟨_, hval, by simp [execOp, Instr.lookup, run_underlying hu, he, ck, hf, hz1]⟩
  · obtain ⟨b, y, he, hb⟩ := hmv.map_inv
    obtain ⟨es', clk, g1, g2⟩ := R.obj id _ _ h4 hb
    simp only at g1
    have hes : es' = #[] := by
      cases g3 : es'.toList with
      | nil => apply Array.ext'; simpa using g3
      | cons a l => rw [g3] at g2; cases g2
    subst hes
    have hget : (getObj b).run P w = .ok (.map #[] clk) w := by simp [getObj, Sem.run, g1]
    exact ⟨_, hval, by simp [execOp, Instr.lookup, run_underlying hu, he, hget, ck, hf, hz1]⟩
end
end Go.AE
namespace Go.AE
open Go

section
variable {mk nt : FuncId → Nat} {P : Program} {m : Nat} {l : Loc} {e : Env} {dst : Option Tmp} {ty : TypeId} {pos : String} {aft : Array Edge} {gd : Option (Nat × Bool)}

theorem peq_spec {op : BinOp} {neg : Bool} {x y : Operand} {t el : TypeId} {n : Nat} {yt : TypeId} {σ : Heap} {c : AV → Prop} (hop : (op = .eql ∧ neg = false) ∨ (op = .neq ∧ neg = true)) (hd : und P t = some (.pointer el)) (hz : sizeT P el = some (n + 1))
    (h : (get (xo m x)).run l e fun a => (get (xo m y)).run l e fun b => peqK neg a b σ c) : ∃ v, c v ∧ ReadAt mk nt P m l e ⟨dst, .binOp op t x y yt, ty, pos, aft, gd⟩ (hof σ) v := by
  obtain ⟨a, h, hx⟩ := get_spec m l e x h
  obtain ⟨b, h, hy⟩ := get_spec m l e y h
  have fin : ∀ (r : Bool) (β : Be) (ac : Act) (w : World), (∃ p, ac.eval x = .pointer p) → (∃ p, ac.eval y = .pointer p) → (Op.equal t (ac.eval x) (ac.eval y)).run P w = .ok r w →
      (execOp ac.eval ⟨dst, .binOp op t x y yt, ty, pos, aft, gd⟩).run P w = .ok (.value (.bool (neg != r))) w := by
    intro r β ac w ⟨p, hp⟩ ⟨q, hq⟩ hr
    rw [hp, hq] at hr
    rcases hop with ⟨rfl, rfl⟩ | ⟨rfl, rfl⟩
    · simp [execOp, eqGuard, binOp, hp, hq, hr]
    · simp [execOp, eqGuard, binOp, hp, hq, hr]
  cases a <;> cases b <;> (try exact h.elim)
  · simp only [peqK, mkBool_eq] at h
    refine ⟨_, h, fun β a w R ho => ⟨_, .bool _, ?_⟩⟩
    have h1 := (hx β a R.g0 (ho x (by simp [Op.operands]))).nilptr_inv
    have h2 := (hy β a R.g0 (ho y (by simp [Op.operands]))).nilptr_inv
    rw [fin true β a w ⟨_, h1⟩ ⟨_, h2⟩ ?_]
    · simp
    · rw [h1, h2]; exact equal_of fun k => by simp [Op.equalIn, run_underlying hd]
  · simp only [peqK, mkBool_eq] at h
    refine ⟨_, h, fun β a w R ho => ⟨_, .bool _, ?_⟩⟩
    have h1 := (hx β a R.g0 (ho x (by simp [Op.operands]))).nilptr_inv
    obtain ⟨b, base, tot, hb, h2⟩ := (hy β a R.g0 (ho y (by simp [Op.operands]))).ptr_inv
    rw [fin false β a w ⟨_, h1⟩ ⟨_, h2⟩ ?_]
    · simp
    · rw [h1, h2]; exact equal_of fun k => by simp [Op.equalIn, run_underlying hd]
  · simp only [peqK, mkBool_eq] at h
    refine ⟨_, h, fun β a w R ho => ⟨_, .bool _, ?_⟩⟩
    have h2 := (hy β a R.g0 (ho y (by simp [Op.operands]))).nilptr_inv
    obtain ⟨b, base, tot, hb, h1⟩ := (hx β a R.g0 (ho x (by simp [Op.operands]))).ptr_inv
    rw [fin false β a w ⟨_, h1⟩ ⟨_, h2⟩ ?_]
    · simp
    · rw [h1, h2]; exact equal_of fun k => by simp [Op.equalIn, run_underlying hd]
  · simp only [peqK] at h
    obtain ⟨r, h, hp⟩ := ptrEq_spec h
    rw [mkBool_eq] at h
    refine ⟨_, h, fun β a w R ho => ⟨_, .bool _, ?_⟩⟩
    obtain ⟨b1, base1, tot1, hb1, h1⟩ := (hx β a R.g0 (ho x (by simp [Op.operands]))).ptr_inv
    obtain ⟨b2, base2, tot2, hb2, h2⟩ := (hy β a R.g0 (ho y (by simp [Op.operands]))).ptr_inv
    refine fin r β a w ⟨_, h1⟩ ⟨_, h2⟩ ?_
    rw [h1, h2]
    exact equal_of fun k => by simp [Op.equalIn, run_underlying hd, run_sizeOf hz, ptrEq_run R hp hb1 hb2]

theorem maplen_spec {x : Operand} {t kt et : TypeId} {ats : Array TypeId} {σ : Heap} {c : AV → Prop} (hd : und P t = some (.map kt et)) (hat : ats[0]? = some t)
    (h : (get (xo m x)).run l e fun v => maplenK v σ c) : ∃ v, c v ∧ ReadAt mk nt P m l e ⟨dst, .call ⟨.builtin .len, #[x], ats⟩, ty, pos, aft, gd⟩ (hof σ) v := by
  obtain ⟨a, h, hx⟩ := get_spec m l e x h
  cases a <;> (try exact h.elim)
  · simp only [maplenK] at h
    refine ⟨_, h, fun β a w R ho => ⟨_, .int _ _, ?_⟩⟩
    have h1 := (hx β a R.g0 (ho x (by simp [Op.operands, Call.operands]))).nilmap_inv
    simp [execOp, resolve, invoke, builtin, Builtin.len_, hat, h1, run_underlying hd, goInt]
  · simp only [maplenK] at h
    obtain ⟨o, ho, h⟩ := withObj_spec h
    rcases o with _ | es | _ | _ | _ | _ <;> (try exact h.elim)
    simp only [forceNat_eq, lenK_eq] at h
    refine ⟨_, h, fun β a w R hop => ⟨_, .int _ _, ?_⟩⟩
    obtain ⟨b, y, he, hb⟩ := (hx β a R.g0 (hop x (by simp [Op.operands, Call.operands]))).map_inv
    obtain ⟨es', clk, g1, g2⟩ := R.obj _ _ _ ho hb
    simp only at g1
    have hget : (getObj b).run P w = .ok (.map es' clk) w := by simp [getObj, Sem.run, g1]
    have hl : es.length = es'.size := by
      have : ∀ {a : List (AV × AV)} {b : List MapEntry}, EsR β a b → a.length = b.length := by
        intro a b h
        induction h with
        | nil => rfl
        | cons _ _ _ _ _ _ _ _ ih => simp [ih]
      simpa using this g2
    simp [execOp, resolve, invoke, builtin, Builtin.len_, hat, he, run_underlying hd, goInt, hget, hl]

theorem bytesK_spec : ∀ {vs : List AV} {c : List Nat → Prop}, bytesK vs c → ∃ ns : List Nat, c ns ∧ (∀ n ∈ ns, n < 256) ∧ vs = ns.map fun n => .int .u8 (.ofNat n)
  | [], c, h => ⟨[], h, by simp, rfl⟩
  | .int k n :: vs, c, h => by
    cases k <;> (try exact h.elim)
    cases n <;> (try exact h.elim)
    rename_i n
    have h' : ite' (Nat.blt n 256) (bytesK vs (fun r => c (n :: r))) False := h
    obtain ⟨h0, h1⟩ := ite'_true h'
    rw [blt_iff, decide_eq_true_eq] at h0
    obtain ⟨ns, h1, h2, h3⟩ := bytesK_spec h1
    refine ⟨_, h1, ?_, by simp [h3]⟩
    intro x hx
    rcases List.mem_cons.1 hx with rfl | hx
    · exact h0
    · exact h2 x hx
  | .bool _ :: _, _, h | .str _ :: _, _, h | .nilptr :: _, _, h | .ptr .. :: _, _, h | .nilslice :: _, _, h | .slice .. :: _, _, h | .nilmap :: _, _, h | .map _ :: _, _, h | .nilfunc :: _, _, h
  | .func .. :: _, _, h | .yld _ :: _, _, h | .nilIface :: _, _, h | .iface .. :: _, _, h | .agg _ :: _, _, h | .tuple _ :: _, _, h => by exact False.elim h

theorem b2s_loop (f : Value → ByteArray → Sem (ForInStep ByteArray)) (hf : ∀ n s, f (.int .u8 n) s = pure (ForInStep.yield (s.push (UInt8.ofNat n.toNat)))) (w : World) :
    ∀ (vs : List Value) (ns : List Nat) (s : ByteArray), (∀ n ∈ ns, n < 256) → vs = (ns.map fun n => Value.int .u8 (.ofNat n)) →
    ∃ s' : ByteArray, s'.data.toList = s.data.toList ++ ns.map UInt8.ofNat ∧ (forIn vs s f).run P w = .ok s' w
  | _, [], s, _, rfl => ⟨s, by simp, by simp⟩
  | _, n :: ns, s, hn, rfl => by
    obtain ⟨s', h1, h2⟩ := b2s_loop f hf w (ns.map fun n => Value.int .u8 (.ofNat n)) ns (s.push (UInt8.ofNat n)) (fun x hx => hn x (by simp [hx])) rfl
    refine ⟨s', by simp [h1, ByteArray.data_push], ?_⟩
    simp only [List.map_cons, List.forIn_cons, hf]
    simpa using h2
theorem b2s_shape : ∃ f : Value → ByteArray → Sem (ForInStep ByteArray), (∀ a len cap, Conv.bytesToString (.slice (some a) len cap) = (do let cs ← loadCells a len; let s ← forIn cs ByteArray.empty f; pure (.string s))) ∧
    ∀ n s, f (.int .u8 n) s = pure (ForInStep.yield (s.push (UInt8.ofNat n.toNat))) := by
  refine ⟨_, fun _ _ _ => rfl, fun _ _ => rfl⟩
theorem run_b2s {w : World} {a : Addr} {n cap : Nat} {l' : List Value} {ns : List Nat} (h : (loadCells a n).run P w = .ok l'.toArray w) (hn : ∀ n ∈ ns, n < 256) (hl' : l' = ns.map fun n => Value.int .u8 (.ofNat n)) :
    ∃ s' : ByteArray, s'.data.toList.map UInt8.toNat = ns ∧ (Conv.bytesToString (.slice (some a) n cap)).run P w = .ok (.string s') w := by
  obtain ⟨f, h1, h2⟩ := b2s_shape
  obtain ⟨s', h3, h4⟩ := b2s_loop (P := P) f h2 w l' ns ByteArray.empty hn hl'
  refine ⟨s', ?_, ?_⟩
  · rw [h3]
    simp only [List.map_append, List.map_map]
    have : (ByteArray.empty.data.toList.map UInt8.toNat) = [] := rfl
    rw [this, List.nil_append]
    have : ns.map (UInt8.toNat ∘ UInt8.ofNat) = ns.map id := by
      apply List.map_congr_left
      intro n hnm
      have := hn n hnm
      simp; omega
    rw [this, List.map_id]
  · rw [h1, Sem.run_bind, h]
    simp [h4]
theorem b2s_spec {x : Operand} {s d et : TypeId} {σ : Heap} {c : AV → Prop} (hs : und P s = some (.slice et)) (he : und P et = some (.int .u8)) (hd : und P d = some .string)
    (h : (get (xo m x)).run l e fun v => b2sK v σ c) : ∃ v, c v ∧ ReadAt mk nt P m l e ⟨dst, .convert s d x, ty, pos, aft, gd⟩ (hof σ) v := by
  obtain ⟨a, h, hx⟩ := get_spec m l e x h
  cases a <;> (try exact h.elim)
  · simp only [b2sK] at h
    refine ⟨_, h, fun β a w R ho => ⟨_, .str ByteArray.empty, ?_⟩⟩
    have h1 := (hx β a R.g0 (ho x (by simp [Op.operands]))).nilslice_inv
    simp [execOp, convert, h1, run_underlying hs, run_underlying hd, run_underlying he, Conv.bytesToString]
  · rename_i id off len cap es
    simp only [b2sK] at h
    obtain ⟨h0, h⟩ := ite'_true h
    obtain ⟨cs, rd, lo, hi, anc, h1, h2, h⟩ := readCells_spec h
    obtain ⟨ns, hc, hn, heq⟩ := bytesK_spec h
    refine ⟨_, hc, fun β a w R ho => ?_⟩
    rcases (hx β a R.g0 (ho x (by simp [Op.operands]))).slice_inv with ⟨b, base, tot, cc, he', hb, _⟩ | ⟨ad, had, he', rfl, _⟩
    · obtain ⟨l', hl, hlen, _, hcell⟩ := cells_read (R.obj id _ _ h1 hb) h2
      have hrun := run_loadCells_list (P := P) w ⟨b, base + off, none⟩ l' hcell
      rw [hlen] at hrun
      have hl' : l' = ns.map fun n => Value.int .u8 (.ofNat n) := by
        rw [heq] at hl
        clear heq hcell hrun hlen hn hc h
        induction ns generalizing l' with
        | nil => cases hl; rfl
        | cons n ns ih =>
          cases hl with
          | cons _ v' _ l2 hv hs' => rw [hv.int_inv, ih _ hs']; rfl
      obtain ⟨s', hs1, hs2⟩ := run_b2s (P := P) (cap := cc) hrun hn hl'
      refine ⟨.string s', ?_, ?_⟩
      · rw [← hs1]; exact .str s'
      · simp [execOp, convert, he', run_underlying hs, run_underlying hd, run_underlying he, hs2]
    · simp only [List.take_zero] at heq
      have : ns = [] := by cases ns with
        | nil => rfl
        | cons => simp at heq
      subst this
      refine ⟨_, .str ByteArray.empty, ?_⟩
      obtain ⟨s', hs1, hs2⟩ := run_b2s (P := P) (w := w) (a := ad) (n := 0) (cap := 0) (l' := []) (ns := []) rfl (by simp) rfl
      have hse : s' = ByteArray.empty := by
        have : s'.data.toList = [] := List.map_eq_nil_iff.1 hs1
        cases s' with
        | mk d => congr 1; exact Array.toList_eq_nil_iff.1 this
      simp [execOp, convert, he', run_underlying hs, run_underlying hd, run_underlying he, hs2, hse]
end
end Go.AE
namespace Go.AE
open Go

section
variable {mk nt : FuncId → Nat} {P : Program} {m : Nat} {l : Loc} {e : Env}

theorem lookupK_spec {kk : Nat} {ok : Bool} {z mv k : AV} {σ : Heap} {c : AV → Prop} (h : lookupK kk ok z mv k σ c) :
    ∃ r, c (LookV ok z r) ∧ ((mv = .nilmap ∧ r = none) ∨ ∃ id, mv = .map id ∧ RqH (hof σ) (.look kk id k r)) := by
  cases mv <;> (try exact h.elim)
  · exact ⟨none, okK_spec h, .inl ⟨rfl, rfl⟩⟩
  · rename_i id
    have h' : mapFind σ kk id k fun r => (match r with | some v => okK ok v true c | none => okK ok z false c) := h
    obtain ⟨r, h1, h2⟩ := mapFind_spec h'
    refine ⟨r, ?_, .inr ⟨id, rfl, h2⟩⟩
    cases r with
    | none => exact okK_spec h1
    | some v => exact okK_spec h1

theorem comp_read (o : Oper) {rx : RX} {σ : Heap} {c : AV → Prop} (hcomp : comp P m o.op = .r rx) (hr : (opR rx).run l e σ c) :
    ∃ v, c v ∧ ReadAt mk nt P m l e o (hof σ) v := by
  have hs := comp_shape (P := P) (m := m) o.op
  rw [hcomp] at hs
  clear hcomp
  obtain ⟨dst, op, ty, pos, aft, gd⟩ := o
  simp only at hs
  cases hs with
  | load t y n g hz hg =>
    cases g with
    | true =>
      obtain ⟨v, h, hx⟩ := get_spec m l e y hr
      obtain ⟨id, off, rfl, h⟩ := onPtr_spec h
      obtain ⟨cs, rd, lo, hi, anc, h1, h2, h3⟩ := readCells_spec h
      exact ⟨_, h3, load_at hz hg hx ⟨n, ⟨cs, rd, lo, hi, anc, h1, h2, rfl⟩, fun _ => rfl⟩ (.inl ⟨rfl, rfl⟩)⟩
    | false =>
      obtain ⟨v, h, hx⟩ := get_spec m l e y hr
      obtain ⟨id, off, rfl, h⟩ := onPtr_spec h
      obtain ⟨cs, rd, lo, hi, anc, v, h1, h2, h3⟩ := readCell_spec h
      have hlt := (List.getElem?_eq_some_iff.1 h2).1
      refine ⟨v, h3, load_at (cs := [v]) hz hg hx ⟨1, ⟨cs, rd, lo, hi, anc, h1, by omega, ?_⟩, fun h => by cases h⟩ (.inr ⟨rfl, rfl⟩)⟩
      rw [List.take_one, List.head?_drop, h2]; rfl
  | lookup t y j ok kt et kd z kk hu hkd hz hkk =>
    obtain ⟨mv, h, hx⟩ := get_spec m l e y hr
    obtain ⟨k, h, hi⟩ := get_spec m l e j h
    obtain ⟨r, h1, h2⟩ := lookupK_spec h
    exact ⟨_, h1, look_at hu hkd hz hkk hx hi h2⟩
  | lookupE t y j ok kt et kd z n hu hkd hz hk =>
    obtain ⟨mv, h, hx⟩ := get_spec m l e y hr
    obtain ⟨k, h, hi⟩ := get_spec m l e j h
    exact lookE_at hu hkd hz hk hx hi h
  | peq op neg t el n x y yt hop hu hz => exact peq_spec hop hu hz hr
  | maplen x t kt et ats hu hat => exact maplen_spec hu hat hr
  | b2s s d et x hs he hd => exact b2s_spec hs he hd hr
end
end Go.AE
namespace Go.AE
open Go

def bset (β : Be) (id : Pos) (x : Nat × Nat × Nat) : Be := fun q => if q = id then some x else β q
theorem bset_le {β : Be} {id : Pos} {x : Nat × Nat × Nat} (h : β id = none) : β.le (bset β id x) := by
  intro q y hq
  unfold bset
  split
  · rename_i e; subst e; rw [h] at hq; cases hq
  · exact hq
theorem bset_same {β : Be} {id : Pos} {x : Nat × Nat × Nat} : bset β id x id = some x := by simp [bset]
theorem bset_ne {β : Be} {id q : Pos} {x : Nat × Nat × Nat} (h : q ≠ id) : bset β id x q = β q := by simp [bset, h]

section
variable {mk nt : FuncId → Nat} {P : Program} {m : Nat} {l : Loc} {e : Env} {dst : Option Tmp} {ty : TypeId} {pos : String} {aft : Array Edge} {gd : Option (Nat × Bool)}

/-- the world has one block more -/
structure Grown (w w' : World) : Prop where
  size : w'.heap.size = w.heap.size + 1
  keep : ∀ b, b < w.heap.size → w'.heap[b]? = w.heap[b]?
  os : w'.os = w.os
  tape : w'.tape = w.tape
  output : w'.output = w.output

theorem Grown.push (w : World) (o : Obj) : Grown w { w with heap := w.heap.push o } :=
  ⟨by simp, fun b hb => by simp [Array.getElem?_push, Nat.ne_of_lt hb], rfl, rfl, rfl⟩

theorem grown_rel {β : Be} {h : HO} {w w' : World} (R : Rel mk nt β h w) (G : Grown w w') {id : Pos} (hid : β id = none) {tot : Nat} {o : AObj}
    (ho : ObjR mk nt (bset β id (w.heap.size, 0, tot)) w'.heap w.heap.size 0 tot o) : Rel mk nt (bset β id (w.heap.size, 0, tot)) (upd h id (some o)) w' := by
  have hle := bset_le (x := (w.heap.size, 0, tot)) hid
  have hge := new_ge R.g0 hid
  refine ⟨R.g0.mono hle, ?_, ?_, ?_⟩
  · intro q p x hq hx
    by_cases e : q = id
    · subst e
      simp only [upd, if_true, Option.some.injEq] at hq
      rw [bset_same] at hx
      simp only [Option.some.injEq] at hx
      subst hq; subst hx; exact ho
    · simp only [upd, e, if_false] at hq
      rw [bset_ne e] at hx
      have := R.obj q p x hq hx
      exact (this.mono hle).heap (G.keep _ this.lt)
  · intro i j oi oj xi xj hne hi hj bi bj hb
    by_cases ei : i = id
    · subst ei
      have ej : j ≠ i := fun h => hne h.symm
      rw [bset_same] at bi
      simp only [Option.some.injEq] at bi
      rw [bset_ne ej] at bj
      simp only [upd, ej, if_false] at hj
      have := (R.obj j oj xj hj bj).lt
      subst bi; simp only at hb; omega
    · by_cases ej : j = id
      · subst ej
        rw [bset_same] at bj
        simp only [Option.some.injEq] at bj
        rw [bset_ne ei] at bi
        simp only [upd, ei, if_false] at hi
        have := (R.obj i oi xi hi bi).lt
        subst bj; simp only at hb; omega
      · rw [bset_ne ei] at bi
        rw [bset_ne ej] at bj
        simp only [upd, ei, ej, if_false] at hi hj
        exact R.sep i j oi oj xi xj hne hi hj bi bj hb
  · intro i p x hlt hi bi
    have ei : i ≠ id := by intro h; subst h; omega
    rw [bset_ne ei] at bi
    simp only [upd, ei, if_false] at hi
    obtain ⟨g1, g2⟩ := R.glob i p x hlt hi bi
    refine ⟨g1, fun j oj xj hne hj bj => ?_⟩
    by_cases ej : j = id
    · subst ej
      rw [bset_same] at bj
      simp only [Option.some.injEq] at bj
      have := (R.obj i p x hi bi).lt
      subst bj; simp only; omega
    · rw [bset_ne ej] at bj
      simp only [upd, ej, if_false] at hj
      exact g2 j oj xj hne hj bj
theorem grown_fr {β : Be} {h : HO} {w w' : World} (G : Grown w w') {id : Pos} (hge : 1000 ≤ id.toNat) {tot : Nat} {o : AObj} :
    Fr β h w id (bset β id (w.heap.size, 0, tot)) (upd h id (some o)) w' id.succ := by
  refine ⟨by rw [Pos.toNat_succ]; omega, ?_, by have := G.size; omega, fun b hb _ => G.keep b hb, ?_, G.os, G.tape, G.output, ?_⟩
  · intro q hq
    refine bset_ne fun e => hq ?_
    subst e; rw [Pos.toNat_succ]; omega
  · intro b hb ⟨q, p, x, hgq, hq, hx, hxb⟩
    by_cases e : q = id
    · subst e
      rw [bset_same] at hx
      simp only [Option.some.injEq] at hx
      subst hx; simp only at hxb; omega
    · rw [bset_ne e] at hx
      simp only [upd, e, if_false] at hq
      exact ⟨q, p, x, hgq, hq, hx, hxb⟩
  · intro q p hlt hq
    have e : q ≠ id := by intro h; subst h; omega
    simp only [upd, e, if_false] at hq
    exact ⟨p, hq⟩

/-- an allocation: the value, the object -/
def AllocAt (mk nt : FuncId → Nat) (P : Program) (m : Nat) (l : Loc) (e : Env) (o : Oper) (id : Pos) (v : AV) (ob : AObj) : Prop :=
  ∀ β a w, G0 β → OpdsR β m l e a o.op → β id = none → ∃ v' w' tot, (execOp a.eval o).run P w = .ok (.value v') w' ∧ Grown w w' ∧
    VR (bset β id (w.heap.size, 0, tot)) v v' ∧ ObjR mk nt (bset β id (w.heap.size, 0, tot)) w'.heap w.heap.size 0 tot ob

/-- a new row of cells -/
theorem newObj_at {β : Be} {w : World} {cs : List AV} {cs' : Array Value} {ty : TypeId} (h : VRs β cs cs'.toList) :
    ObjR mk nt β (w.heap.push (.cells cs' ty)) w.heap.size 0 cs'.size (newObj cs) := by
  refine ⟨cs', ty, (0, 0), by simp, by simp, ⟨cs'.size, Nat.le_refl _, ?_⟩, by intro i h1 h2; simp at h2, by simp⟩
  simpa [← Array.length_toList] using h

theorem alloc_spec {t : TypeId} {z : AV} (hz : zeroT P t = some z) (id : Pos) : AllocAt mk nt P m l e ⟨dst, .alloc t, ty, pos, aft, gd⟩ id (.ptr id 0) (newObj z.cells) := by
  intro β a w hG ho hid
  obtain ⟨z', h1, h2, _⟩ := run_zero hz w
  have hv := (ofVal_spec (bset β id (w.heap.size, 0, z'.cells.size)) 4 z' z h2).cells
  refine ⟨_, _, z'.cells.size, ?_, Grown.push w (.cells z'.cells t), .ptr id 0 w.heap.size 0 z'.cells.size bset_same, newObj_at hv⟩
  simp [execOp, Instr.alloc, h1, newVar, newRow]

theorem box_spec {t : TypeId} {x : Operand} {n : Nat} (_ : sizeT P t = some n) (id : Pos) {c : AV → AObj → Prop} (h : (opA (.box n (xo m x))).run l e id c) :
    ∃ v o, c v o ∧ AllocAt mk nt P m l e ⟨dst, .box t x, ty, pos, aft, gd⟩ id v o := by
  obtain ⟨v, h, hx⟩ := get_spec m l e x h
  obtain ⟨_, h⟩ := ite'_true h
  refine ⟨_, _, h, fun β a w hG ho hid => ?_⟩
  have hv := (hx β a hG (ho x (by simp [Op.operands]))).mono (bset_le (x := (w.heap.size, 0, (a.eval x).cells.size)) hid)
  refine ⟨_, _, (a.eval x).cells.size, ?_, Grown.push w (.cells (a.eval x).cells t), .ptr id 0 w.heap.size 0 _ bset_same, newObj_at hv.cells⟩
  simp [execOp, Instr.box, newVar, newRow]

theorem mkmap_spec {t : TypeId} {r : Option Operand} (hr : r = none ∨ ∃ kt et k n, und P t = some (.map kt et) ∧ r = some (.const (.int k n))) (id : Pos) :
    AllocAt mk nt P m l e ⟨dst, .makeMap t r, ty, pos, aft, gd⟩ id (.map id) (.map []) := by
  intro β a w hG ho hid
  refine ⟨_, _, 0, ?_, Grown.push w (.map #[] 0), .map id w.heap.size (0, 0) bset_same, ⟨#[], 0, by simp, .nil⟩⟩
  rcases hr with rfl | ⟨kt, et, k, n, hu, rfl⟩
  · simp [execOp, Instr.makeMap]
  · simp [execOp, Instr.makeMap, run_underlying hu, Act.eval, asInt, asIntOf]
end
end Go.AE
namespace Go.AE
open Go

theorem rep_length {α : Type} (l : List α) (n : Nat) : (rep l n).length = n * l.length := by
  induction n with
  | zero => simp [rep]
  | succ n ih => simp [rep, ih, Nat.add_mul]; omega
theorem rep_get {α : Type} (l : List α) : ∀ (n i : Nat), i < n * l.length → (rep l n)[i]? = l[i % l.length]?
  | 0, i, h => by simp at h
  | n + 1, i, h => by
    simp only [rep]
    by_cases hi : i < l.length
    · rw [List.getElem?_append_left hi, Nat.mod_eq_of_lt hi]
    · rw [List.getElem?_append_right (by omega), rep_get l n (i - l.length) (by rw [Nat.add_mul] at h; omega)]
      congr 1
      exact (Nat.mod_eq_sub_mod (by omega)).symm
theorem range_rep (z : Array Value) (n : Nat) : ((Array.range (n * z.size)).map fun i => z[i % z.size]!).toList = rep z.toList n := by
  apply List.ext_getElem?
  intro i
  by_cases hi : i < n * z.size
  · have hz : 0 < z.size := by
      rcases Nat.eq_zero_or_pos z.size with h | h
      · rw [h] at hi; simp at hi
      · exact h
    rw [rep_get _ _ _ (by simpa using hi)]
    have hlt : i % z.size < z.size := Nat.mod_lt _ hz
    simp [hi, hlt]
  · have h2 : (rep z.toList n).length ≤ i := by rw [rep_length]; simp; omega
    rw [List.getElem?_eq_none h2]
    simp; omega
theorem zeroCells_rep (z : Array Value) (n : Nat) : (Builtin.zeroCells z n).toList = rep z.toList n := by
  have := range_rep z n
  simpa [Builtin.zeroCells] using this

section
variable {mk nt : FuncId → Nat} {P : Program} {m : Nat} {l : Loc} {e : Env} {dst : Option Tmp} {ty : TypeId} {pos : String} {aft : Array Edge} {gd : Option (Nat × Bool)}

theorem rowOk_spec {i : TypeInfo} {z : AV} (h : rowOk i z = true) : 0 < i.size ∧ 0 < i.bytes ∧ z.cells.length = i.size := by
  unfold rowOk at h
  simp only [Bool.and_eq_true, blt_iff, beq_dec, lenK_eq, decide_eq_true_eq] at h
  exact ⟨h.1.1, h.1.2, h.2⟩
theorem zero_size {z : AV} {z' : Value} (h : ofVal 4 z' = some z) : z.cells.length = z'.cells.size := by
  have := (ofVal_spec (fun _ => none) 4 z' z h).cells.length
  simpa using this

theorem wrap64 {n : Nat} (h : n < 9223372036854775808) : IntKind.i64.wrap (n : Int) = (n : Int) := by
  rw [← fwrap_eq]
  show (bif Nat.blt n 9223372036854775808 then (Int.ofNat n) else _) = _
  rw [blt_iff, decide_eq_true h]; rfl
theorem mkslice_spec {t et : TypeId} {i : TypeInfo} {z : AV} {x y : Operand} (hu : und P t = some (.slice et)) (hi : tinf P et = some i) (hzv : zeroT P et = some z) (h0 : rowOk i z = true) (id : Pos) {c : AV → AObj → Prop}
    (h : (opA (.mkslice i.size i.bytes z.cells (xo m x) (xo m y))).run l e id c) : ∃ v o, c v o ∧ AllocAt mk nt P m l e ⟨dst, .makeSlice t x y, ty, pos, aft, gd⟩ id v o := by
  obtain ⟨hs, hb, hzl⟩ := rowOk_spec h0
  obtain ⟨v, g1, hx⟩ := get_spec m l e x h
  obtain ⟨u, g2, hy⟩ := get_spec m l e y g1
  unfold mksliceK at g2
  obtain ⟨k1, n, hv1, g3⟩ := asNat_spec g2
  obtain ⟨k2, cp, hv2, g4⟩ := asNat_spec g3
  obtain ⟨hq, g5⟩ := ite'_true g4
  subst hv1 hv2
  simp only [Bool.and_eq_true, ble_iff, blt_iff, decide_eq_true_eq] at hq
  obtain ⟨hle, hlt⟩ := hq
  have hcp : cp < 4294967296 := by
    rcases Nat.lt_or_ge cp 4294967296 with h | h
    · exact h
    · have : 4294967296 * 1 ≤ cp * i.bytes := Nat.mul_le_mul h hb
      omega
  refine ⟨_, _, g5, fun β a w hG ho hid => ?_⟩
  obtain ⟨z', h1, h2, _⟩ := run_zero hzv w
  have e1 := (hx β a hG (ho x (by simp [Op.operands]))).int_inv
  have e2 := (hy β a hG (ho y (by simp [Op.operands]))).int_inv
  have hzs : z'.cells.size = i.size := by rw [← zero_size h2, hzl]
  have hvr := rep_spec (ofVal_spec (bset β id (w.heap.size, 0, cp * i.size)) 4 z' z h2) cp
  rw [← range_rep, hzs] at hvr
  have hob : ObjR mk nt (bset β id (w.heap.size, 0, cp * i.size)) (w.heap.push (.cells ((Array.range (cp * i.size)).map fun j => z'.cells[j % i.size]!) et)) w.heap.size 0 (cp * i.size) (newObj (rep z.cells cp)) := by
    have := newObj_at (mk := mk) (nt := nt) (w := w) (ty := et) hvr
    simpa using this
  refine ⟨.slice (some ⟨w.heap.size, 0, none⟩) n cp, _, cp * i.size, ?_, Grown.push w (.cells ((Array.range (cp * i.size)).map fun j => z'.cells[j % i.size]!) et), .slice id 0 n (some cp) i.size w.heap.size 0 (cp * i.size) cp bset_same hle (by simp) (by simp), hob⟩
  have w1 : IntKind.i64.wrap (n : Int) = (n : Int) := wrap64 (by omega)
  have w2 : IntKind.i64.wrap (cp : Int) = (cp : Int) := wrap64 (by omega)
  have hinf : (typeInfo et).run P w = .ok i w := by simp [typeInfo, tinf_spec hi]
  have hsz : (sizeOf et).run P w = .ok i.size w := by simp [sizeOf, hinf]
  have c1 : ¬ ((cp : Int) < 0) := by omega
  have c2 : ¬ ((281474976710656 : Int) < (i.bytes : Int) * (cp : Int)) := by
    have : (i.bytes : Int) * (cp : Int) = ((cp * i.bytes : Nat) : Int) := by rw [Nat.mul_comm]; simp
    rw [this]; omega
  have c3 : ¬ ((n : Int) < 0) := by omega
  have c4 : ¬ ((cp : Int) < (n : Int)) := by omega
  simp only [execOp, Instr.makeSlice]
  by_cases h00 : cp * i.size = 0
  · have : cp = 0 := by
      rcases Nat.mul_eq_zero.1 h00 with h | h
      · exact h
      · omega
    subst this
    have : n = 0 := by omega
    subst this
    have w0 : IntKind.i64.wrap 0 = 0 := w1
    simp [run_underlying hu, e1, e2, asInt, asIntOf, hinf, w0, hsz, newRow]
    have : Array.range 0 = #[] := rfl
    simp [this]
  · simp [run_underlying hu, e1, e2, asInt, asIntOf, hinf, w1, w2, c1, c2, c3, c4, hsz, h00, h1, newRow, hzs]

theorem bslice_spec {t et : TypeId} {len n : Nat} {z : AV} {parts : Array (Nat × Operand)} (hu : und P t = some (.slice et)) (hz : sizeT P et = some (n + 1)) (hzv : zeroT P et = some z)
    (hlen : (Nat.blt (len * (n + 1)) 65536 && Nat.beq (lenK z.cells) (n + 1)) = true) (id : Pos) {c : AV → AObj → Prop}
    (h : (opA (.bslice (n + 1) len (rep z.cells len) (parts.toList.map fun (i, x) => (i * (n + 1), n + 1, xo m x)))).run l e id c) :
    ∃ v o, c v o ∧ AllocAt mk nt P m l e ⟨dst, .buildSlice t len parts, ty, pos, aft, gd⟩ id v o := by
  simp only [Bool.and_eq_true, blt_iff, beq_dec, lenK_eq, decide_eq_true_eq] at hlen
  obtain ⟨hl1, hl2⟩ := hlen
  have h' : fillK (parts.toList.map fun (i, x) => (i * (n + 1), n + 1, xo m x)) l e (rep z.cells len) fun cs => c (.slice id 0 len (some len) (n + 1)) (newObj cs) := h
  obtain ⟨cs2, hc, hcl, hfin⟩ := fill_spec (m := m) (fun i => some (i * (n + 1), n + 1)) parts.toList _ (by simp) (fun j i x hj => ⟨i * (n + 1), n + 1, by simp [hj], rfl⟩) _ _ h'
  refine ⟨_, _, hc, fun β a w hG ho hid => ?_⟩
  obtain ⟨z', h1, h2, _⟩ := run_zero hzv w
  have hzs : z'.cells.size = n + 1 := by rw [← zero_size h2, hl2]
  have hle := bset_le (x := (w.heap.size, 0, len * (n + 1))) hid
  have hvr := rep_spec (ofVal_spec β 4 z' z h2) len
  obtain ⟨cs2', h3, h4⟩ := hfin β a hG (fun p hp => ho p.2 (by simp [Op.operands]; exact ⟨p.1, by simpa using hp⟩)) _ hvr
  have hsz : cs2'.length = len * (n + 1) := by rw [← h3.length, hcl, rep_length, hl2]
  have hob : ObjR mk nt (bset β id (w.heap.size, 0, len * (n + 1))) (w.heap.push (.cells ⟨cs2'⟩ et)) w.heap.size 0 (len * (n + 1)) (newObj cs2) := by
    have := newObj_at (mk := mk) (nt := nt) (w := w) (ty := et) (cs' := ⟨cs2'⟩) (h3.mono hle)
    simpa [hsz] using this
  refine ⟨.slice (some ⟨w.heap.size, 0, none⟩) len len, _, len * (n + 1), ?_, Grown.push w (.cells ⟨cs2'⟩ et), .slice id 0 len (some len) (n + 1) w.heap.size 0 (len * (n + 1)) len bset_same (Nat.le_refl _) (by simp) (by simp), hob⟩
  have c1 : ¬ (16777216 < len * (n + 1)) := by omega
  have e1 : (parts.map fun x => match x with | (i, x) => (i, a.eval x)).toList = parts.toList.map fun p => (p.1, a.eval p.2) := by simp
  have e2 : ∀ zz : Array Value, (zz = z'.cells ∨ len * (n + 1) = 0) → (Array.range (len * (n + 1))).map (fun i => zz[i % zz.size]!) = ⟨rep z'.cells.toList len⟩ := by
    intro zz hz
    rcases hz with rfl | h0
    · apply Array.ext'
      rw [← hzs, range_rep]
    · have : len = 0 := by
        rcases Nat.mul_eq_zero.1 h0 with h | h
        · exact h
        · omega
      subst this
      simp [rep]
  have hrun : ∀ ps, ps.toList = parts.toList.map (fun p => (p.1, a.eval p.2)) → (Instr.buildSlice t len ps).run P w = .ok (.slice (some ⟨w.heap.size, 0, none⟩) len len) { w with heap := w.heap.push (.cells ⟨cs2'⟩ et) } := by
    intro ps hps
    simp only [Instr.buildSlice, Sem.run_bind, run_underlying hu, Result.andThen_ok, run_sizeOf hz, hps]
    have c2 : ¬ (len * (n + 1) > 2 ^ 24) := by omega
    rw [if_neg c2]
    by_cases h00 : len * (n + 1) = 0
    · rw [if_pos h00, Sem.run_bind, Sem.run_pure, Result.andThen_ok, e2 #[] (.inr h00), h4]
      rfl
    · rw [if_neg h00, Sem.run_bind, h1, Result.andThen_ok, Sem.run_bind, Sem.run_pure, Result.andThen_ok, e2 z'.cells (.inl rfl), h4]
      rfl
  simp only [execOp, Sem.run_bind]
  rw [hrun _ e1]
  rfl

theorem s2b_spec {s d et : TypeId} {x : Operand} (hs : und P s = some .string) (hd : und P d = some (.slice et)) (he : und P et = some (.int .u8)) (id : Pos) {c : AV → AObj → Prop}
    (h : (opA (.s2b (xo m x))).run l e id c) : ∃ v o, c v o ∧ AllocAt mk nt P m l e ⟨dst, .convert s d x, ty, pos, aft, gd⟩ id v o := by
  obtain ⟨v, g1, hx⟩ := get_spec m l e x h
  cases v <;> (try exact g1.elim)
  rename_i str
  have g2 : forceNat (lenK str) fun n => c (.slice id 0 n none 1) (.cells (str.map fun b => .int .u8 (.ofNat b)) false n (n + 1) []) := g1
  rw [forceNat_eq, lenK_eq] at g2
  refine ⟨_, _, g2, fun β a w hG ho hid => ?_⟩
  obtain ⟨bs, hv, rfl⟩ := (hx β a hG (ho x (by simp [Op.operands]))).str_inv
  have hcap : ∃ cap, bs.size ≤ cap ∧ (choose (.appendCap bs.size 0 et)).run P w = .ok cap { w with drawn := w.drawn + 1 } :=
    ⟨_, Nat.le_add_right _ _, rfl⟩
  obtain ⟨cap, hle, hch⟩ := hcap
  let cells : Array Value := (bs.data.map fun b => Value.int .u8 b.toNat) ++ Array.replicate (cap - bs.size) (.int .u8 0)
  have hds : bs.data.size = bs.size := rfl
  have hcs : cells.size = cap := by
    simp only [cells, Array.size_append, Array.size_map, Array.size_replicate, hds]; omega
  have hls : (bs.data.toList.map UInt8.toNat).length = bs.size := by
    rw [List.length_map, Array.length_toList]; rfl
  let w1 : World := { w with drawn := w.drawn + 1, heap := w.heap.push (.cells cells et (cap, cap + 1)) }
  refine ⟨.slice (some ⟨w.heap.size, 0, none⟩) bs.size cap, w1, cap, ?_, ?_, ?_, ?_⟩
  · have hv' : (convert s d (a.eval x)).run P w = .ok (.slice (some ⟨w.heap.size, 0, none⟩) bs.size cap) w1 := by
      rw [hv]
      have hst : (Conv.stringToBytes et bs).run P w = .ok (.slice (some ⟨w.heap.size, 0, none⟩) bs.size cap) w1 := by
        unfold Conv.stringToBytes
        rw [Sem.run_bind, hch]
        simp only [Result.andThen_ok, Sem.run_bind, newRow, run_newObj, Sem.run_pure]
        have hm : (markStringish ⟨w.heap.size, 0, none⟩).run P { w with drawn := w.drawn + 1, heap := w.heap.push (.cells cells et) } = .ok () w1 := by
          have h1 : (w.heap.push (Obj.cells cells et))[w.heap.size]? = some (.cells cells et) := by simp
          simp only [markStringish, Sem.run_bind, run_shape, World.shape?, h1, Result.andThen_ok, run_freeze, World.freeze]
          rw [if_neg (by omega)]
          simp only [hcs, w1]
          congr 2
          apply Array.ext_getElem?
          intro i
          rw [Array.getElem?_modify]
          by_cases hi : w.heap.size = i
          · subst hi; simp
          · have hi' : ¬ i = w.heap.size := fun h => hi h.symm
            simp [hi, hi', Array.getElem?_push]
        simp only [cells] at hm
        rw [hm]
        rfl
      simp [convert, run_underlying hs, run_underlying hd, run_underlying he, hst]
    simp only [execOp, Sem.run_bind]
    rw [hv']
    rfl
  · exact ⟨by simp [w1], fun b hb => by simp [w1, Array.getElem?_push, Nat.ne_of_lt hb], rfl, rfl, rfl⟩
  · rw [hls]
    exact .slice id 0 bs.size none 1 w.heap.size 0 cap cap bset_same hle (by simp) (by simp)
  · refine ⟨cells, et, (cap, cap + 1), by simp [w1], by simp [hcs], ⟨bs.size, hle, ?_⟩, ?_, ?_⟩
    · have : (cells.toList.drop 0).take bs.size = bs.data.toList.map fun b => Value.int .u8 b.toNat := by
        simp only [List.drop_zero, cells, Array.toList_append, Array.toList_map]
        rw [List.take_append_of_le_length (by rw [List.length_map, Array.length_toList]; exact Nat.le_refl _)]
        rw [List.take_of_length_le (by rw [List.length_map, Array.length_toList]; exact Nat.le_refl _)]
      rw [this, List.map_map]
      generalize bs.data.toList = bl
      induction bl with
      | nil => exact .nil
      | cons b bl ih => exact .cons _ _ _ _ (.int _ _) ih
    · intro i h1 h2 h3; omega
    · intro h; omega

theorem comp_alloc (o : Oper) {ax : AX} {id : Pos} {c : AV → AObj → Prop} (hcomp : comp P m o.op = .a ax) (hr : (opA ax).run l e id c) :
    ∃ v ob, c v ob ∧ AllocAt mk nt P m l e o id v ob := by
  have hs := comp_shape (P := P) (m := m) o.op
  rw [hcomp] at hs
  clear hcomp
  obtain ⟨dst, op, ty, pos, aft, gd⟩ := o
  simp only at hs
  cases hs with
  | alloc t z hz => exact ⟨_, _, hr, alloc_spec hz id⟩
  | box t x n hz => exact box_spec hz id hr
  | bslice t et len n z parts hu hz hzv hlen => exact bslice_spec hu hz hzv hlen id hr
  | mkslice t et i z x y hu hi hzv h0 => exact mkslice_spec hu hi hzv h0 id hr
  | mkmap0 t => exact ⟨_, _, hr, mkmap_spec (.inl rfl) id⟩
  | mkmap1 t kt et k n hu => exact ⟨_, _, hr, mkmap_spec (.inr ⟨kt, et, k, n, hu, rfl⟩) id⟩
  | s2b s d et x hs hd he => exact s2b_spec hs hd he id hr
end
end Go.AE
namespace Go.AE
open Go

theorem VR.one {β : Be} {v : AV} {v' : Value} (h : VR β v v') (h1 : v.one = true) : v'.oneCell' = true := by
  cases h <;> first | rfl | (simp [AV.one] at h1)

theorem patch_drop {α : Type} (l vs : List α) (base off : Nat) (h : base + off + vs.length ≤ l.length) :
    (l.take (base + off) ++ vs ++ l.drop (base + off + vs.length)).drop base = (l.drop base).take off ++ vs ++ (l.drop base).drop (off + vs.length) := by
  have h1 : (l.take (base + off)).length = base + off := by simp; omega
  rw [List.append_assoc, List.drop_append_of_le_length (by omega), List.drop_take, List.drop_drop]
  rw [show base + off - base = off by omega, show base + (off + vs.length) = base + off + vs.length by omega, List.append_assoc]
theorem patch_take {α : Type} (l vs : List α) (off k : Nat) (h : off + vs.length ≤ k) (hk : k ≤ l.length) :
    (l.take off ++ vs ++ l.drop (off + vs.length)).take k = (l.take k).take off ++ vs ++ (l.take k).drop (off + vs.length) := by
  have h1 : (l.take off ++ vs).length = off + vs.length := by simp; omega
  rw [List.take_append, h1, List.take_of_length_le (by omega), List.take_take, Nat.min_eq_left (by omega), List.drop_take]

/-- a row of writes into a block -/
theorem storeCells_run {P : Program} (b : Nat) (ty : TypeId) (fr : Nat × Nat) : ∀ (vs : List Value) (w : World) (c : Array Value) (o i : Nat), w.heap[b]? = some (.cells c ty fr) → o + i + vs.length ≤ c.size → (∀ v ∈ vs, v.oneCell' = true) →
    (∀ j, o + i ≤ j → j < o + i + vs.length → ¬ (fr.1 ≤ j ∧ j < fr.2)) →
    ∃ w' : World, (storeCells ⟨b, o, none⟩ vs i).run P w = .ok () w' ∧ w'.heap.size = w.heap.size ∧ (∃ c' : Array Value, w'.heap[b]? = some (.cells c' ty fr) ∧ c'.toList = c.toList.take (o + i) ++ vs ++ c.toList.drop (o + i + vs.length)) ∧
      (∀ b', b' ≠ b → w'.heap[b']? = w.heap[b']?) ∧ w'.os = w.os ∧ w'.tape = w.tape ∧ w'.output = w.output
  | [], w, c, o, i, hc, _, _, _ => ⟨w, rfl, rfl, ⟨c, hc, by simp⟩, fun _ _ => rfl, rfl, rfl, rfl⟩
  | v :: vs, w, c, o, i, hc, hs, h1, hf => by
    simp only [List.length_cons] at hs hf
    have ea : (Addr.add ⟨b, o, none⟩ i) = ⟨b, o + i, none⟩ := by
      unfold Addr.add; split
      · subst i; rfl
      · rfl
    have hlt : o + i < c.size := by omega
    have hcell : w.cell? ⟨b, o + i, none⟩ = some c[o + i] := by simp [World.cell?, hc, hlt]
    have hfr : w.frozen? ⟨b, o + i, none⟩ = false := by
      have := hf (o + i) (by omega) (by omega)
      simp only [World.frozen?, hc]
      simp only [Bool.and_eq_false_iff, decide_eq_false_iff_not]
      omega
    have hst : (store ⟨b, o + i, none⟩ v).run P w = .ok () (w.setCell ⟨b, o + i, none⟩ v) := by
      rw [run_store P w _ v .plain (h1 v (by simp)), hcell]
      simp [hfr]
    have hb : b < w.heap.size := (Array.getElem?_eq_some_iff.1 hc).1
    have hc2 : (w.setCell ⟨b, o + i, none⟩ v).heap[b]? = some (.cells (c.setIfInBounds (o + i) v) ty fr) := by
      simp only [World.setCell, Array.getElem?_modify, hc]
      simp
    obtain ⟨w', r1, r2, ⟨c', r3, r4⟩, r5, r6, r7, r8⟩ := storeCells_run b ty fr vs (w.setCell ⟨b, o + i, none⟩ v) (c.setIfInBounds (o + i) v) o (i + 1) hc2 (by simp; omega) (fun x hx => h1 x (by simp [hx]))
      (fun j h1 h2 => hf j (by omega) (by omega))
    refine ⟨w', ?_, ?_, ⟨c', r3, ?_⟩, ?_, r6, r7, r8⟩
    · simp only [storeCells, Sem.run_bind, ea, hst, Result.andThen_ok]
      exact r1
    · rw [r2]; simp [World.setCell]
    · rw [r4]
      have e1 : o + (i + 1) = (o + i) + 1 := by omega
      have e2 : o + i + (v :: vs).length = o + i + 1 + vs.length := by simp; omega
      rw [e1, e2]
      have hlt : o + i < c.toList.length := by simpa using hlt
      simp only [Array.toList_setIfInBounds]
      rw [List.take_succ_eq_append_getElem (by simpa using hlt)]
      simp
      rw [List.drop_set_of_lt (by omega), List.take_set_of_le (Nat.le_refl _)]
    · intro b' hb'
      rw [r5 b' hb']
      simp only [World.setCell, Array.getElem?_modify]
      rw [if_neg (fun h => hb' h.symm)]

def kill (h : HO) (anc : List Pos) : HO := fun q => if q ∈ anc then none else h q
theorem killAnc_spec : ∀ (anc : List Pos) {σ : Heap} {c : Heap → Prop}, killAnc anc σ c → ∃ σ', c σ' ∧ hof σ' = kill (hof σ) anc
  | [], σ, c, h => ⟨σ, h, by funext q; simp [kill]⟩
  | i :: anc, σ, c, h => by
    have h' : T.set i σ none fun σ => killAnc anc σ c := h
    obtain ⟨σ1, h1, h2⟩ := T.set_spec _ _ _ _ h'
    obtain ⟨σ', h3, h4⟩ := killAnc_spec anc h1
    refine ⟨σ', h3, ?_⟩
    rw [h4]
    funext q
    simp only [kill, hof, h2, List.mem_cons]
    by_cases hq : q ∈ anc
    · simp [hq]
    · by_cases hi : q = i
      · simp [hi]
      · simp [hi]
theorem set_spec {σ : Heap} {id : Pos} {v : Option AObj} {c : Heap → Prop} (h : T.set id σ v c) : ∃ σ', c σ' ∧ hof σ' = upd (hof σ) id v := by
  obtain ⟨σ', h1, h2⟩ := T.set_spec _ _ _ _ h
  exact ⟨σ', h1, by funext q; simp only [hof, upd, h2]⟩

section
variable {mk nt : FuncId → Nat} {P : Program}

theorem write_rel {β : Be} {h : HO} {w : World} (R : Rel mk nt β h w) {id : Pos} {cs : List AV} {lo hi : Nat} {anc : List Pos} (hid : h id = some (.cells cs false lo hi anc)) {b base tot : Nat} (hb : β id = some (b, base, tot))
    {off : Nat} {vs : List AV} {vs' : List Value} (hf : hi ≤ lo ∨ hi ≤ off ∨ off + vs.length ≤ lo) (hlen : off + vs.length ≤ cs.length) (h1 : ∀ v ∈ vs, v.one = true) (hv : VRs β vs vs') :
    ∃ w', (storeCells ⟨b, base + off, none⟩ vs').run P w = .ok () w' ∧
      Rel mk nt β (upd (kill h anc) id (some (.cells (cs.take off ++ vs ++ cs.drop (off + vs.length)) false lo hi []))) w' ∧ w'.heap.size = w.heap.size ∧ (∀ b', b' ≠ b → w'.heap[b']? = w.heap[b']?) ∧
      w'.os = w.os ∧ w'.tape = w.tape ∧ w'.output = w.output := by
  obtain ⟨c, ty, fr, q1, q2, ⟨k, q3, q4⟩, q5, q6⟩ := R.obj id _ _ hid hb
  simp only at q1 q2 q3 q4 q5
  have hl := hv.length
  have hkl : cs.length = k := by rw [q4.length, List.length_take, List.length_drop, Array.length_toList]; omega
  have hone : ∀ v ∈ vs', v.oneCell' = true := by
    clear q4 hlen hf hl
    induction vs generalizing vs' with
    | nil => cases hv; simp
    | cons v vs ih =>
      cases hv with
      | cons _ v' _ l' hv hs =>
        intro x hx
        rcases List.mem_cons.1 hx with rfl | hx
        · exact hv.one (h1 v (by simp))
        · exact ih (fun y hy => h1 y (by simp [hy])) hs x hx
  obtain ⟨w', r1, r2, ⟨c', r3, r4⟩, r5, r6, r7, r8⟩ := storeCells_run (P := P) b ty fr vs' w c (base + off) 0 q1 (by omega) hone (by
    intro j h1 h2 ⟨h3, h4⟩
    have h5 := q5 j h3 h4 (by omega)
    rcases hf with hf | hf | hf
    · omega
    · omega
    · omega)
  refine ⟨w', r1, ?_, r2, r5, r6, r7, r8⟩
  have hsz : c'.size = c.size := by
    have := congrArg List.length r4
    simp at this; omega
  refine ⟨R.g0, ?_, ?_, ?_⟩
  · intro q o x hq hx
    by_cases e : q = id
    · subst e
      simp only [upd, if_true, Option.some.injEq] at hq
      rw [hb] at hx
      simp only [Option.some.injEq] at hx
      subst hq; subst hx
      refine ⟨c', ty, fr, r3, (by show c'.size = base + tot; omega), ⟨k, q3, ?_⟩, fun i a1 a2 a3 => q5 i a1 a2 (by omega), q6⟩
      simp only [Nat.add_zero] at r4
      have hcl : c.toList.length = c.size := Array.length_toList
      have p1 := patch_drop c.toList vs' base off (by omega)
      have p2 := patch_take (c.toList.drop base) vs' off k (by omega) (by rw [List.length_drop]; omega)
      rw [r4, p1, p2]
      have a1 := (q4.take off).append hv
      rw [← hl]
      exact a1.append (q4.drop _)
    · simp only [upd, e, if_false, kill] at hq
      by_cases ha : q ∈ anc
      · simp [ha] at hq
      · simp only [ha, if_false] at hq
        have ob := R.obj q o x hq hx
        refine ob.heap (r5 _ fun hbb => ?_)
        have := R.sep id q _ _ _ _ (fun h => e h.symm) hid hq hb hx hbb.symm
        cases o <;> simp [Share] at this
        exact ha this.2.1
  · intro i j oi oj xi xj hne hhi hj bi bj hbb
    have back : ∀ q oq, upd (kill h anc) id (some (.cells (cs.take off ++ vs ++ cs.drop (off + vs.length)) false lo hi [])) q = some oq → q ≠ id → q ∉ anc ∧ h q = some oq := by
      intro q oq hq hn
      simp only [upd, hn, if_false, kill] at hq
      by_cases ha : q ∈ anc
      · simp [ha] at hq
      · simp only [ha, if_false] at hq; exact ⟨ha, hq⟩
    by_cases ei : i = id
    · subst ei
      obtain ⟨ha, hj⟩ := back j oj hj (fun h => hne h.symm)
      have := R.sep i j _ _ _ _ hne hid hj bi bj hbb
      cases oj <;> simp [Share] at this
      exact (ha this.2.1).elim
    · by_cases ej : j = id
      · subst ej
        obtain ⟨ha, hi'⟩ := back i oi hhi ei
        have := R.sep j i _ _ _ _ (fun h => hne h.symm) hid hi' bj bi hbb.symm
        cases oi <;> simp [Share] at this
        exact (ha this.2.1).elim
      · exact R.sep i j oi oj xi xj hne (back i oi hhi ei).2 (back j oj hj ej).2 bi bj hbb
  · intro i p x hlt hq bi
    have hge := R.ge hid hb (by simp)
    have back : ∀ q oq, upd (kill h anc) id (some (.cells (cs.take off ++ vs ++ cs.drop (off + vs.length)) false lo hi [])) q = some oq → ∃ o', h q = some o' ∧ (q ≠ id → o' = oq) := by
      intro q oq hq
      by_cases hn : q = id
      · subst hn; exact ⟨_, hid, fun h => (h rfl).elim⟩
      · simp only [upd, hn, if_false, kill] at hq
        by_cases ha : q ∈ anc
        · simp [ha] at hq
        · simp only [ha, if_false] at hq; exact ⟨oq, hq, fun _ => rfl⟩
    have ei : i ≠ id := by intro h; subst h; omega
    obtain ⟨o1, k1, k2⟩ := back i p hq
    have := k2 ei
    subst this
    obtain ⟨g1, g2⟩ := R.glob i o1 x hlt k1 bi
    refine ⟨g1, fun j oj xj hne hj bj => ?_⟩
    obtain ⟨o2, k3, _⟩ := back j oj hj
    exact g2 j o2 xj hne k3 bj

/-- the cells that are read, as values -/
theorem writeCells_spec {σ : Heap} {id : Pos} {off : Nat} {vs : List AV} {c : Heap → Prop} (h : writeCells σ id off vs c) :
    ∃ cs lo hi anc σ', hof σ id = some (.cells cs false lo hi anc) ∧ (hi ≤ lo ∨ hi ≤ off ∨ off + vs.length ≤ lo) ∧ off + vs.length ≤ cs.length ∧ (∀ v ∈ vs, v.one = true) ∧ c σ' ∧
      hof σ' = upd (kill (hof σ) anc) id (some (.cells (cs.take off ++ vs ++ cs.drop (off + vs.length)) false lo hi [])) := by
  obtain ⟨o, ho, h⟩ := withObj_spec h
  rcases o with ⟨cs, rd, lo, hi, anc⟩ | _ | _ | _ | _ | _ <;> (try exact h.elim)
  unfold writeObj at h
  cases rd with
  | true => exact h.elim
  | false =>
    have h' : ite' (Nat.ble hi lo || Nat.ble hi off || Nat.ble (off + lenK vs) lo) (patchK vs off cs fun cs => killAnc anc σ fun σ => T.set id σ (some (.cells cs false lo hi [])) c) False := h
    obtain ⟨hq, h1⟩ := ite'_true h'
    obtain ⟨h2, h3, h4⟩ := patchK_spec _ _ _ _ h1
    obtain ⟨σ1, h5, h6⟩ := killAnc_spec _ h4
    obtain ⟨σ2, h7, h8⟩ := set_spec h5
    refine ⟨cs, lo, hi, anc, σ2, ho, ?_, h2, h3, h7, by rw [h8, h6]⟩
    simp only [Bool.or_eq_true, ble_iff, lenK_eq, decide_eq_true_eq] at hq
    rcases hq with (h | h) | h
    · exact .inl h
    · exact .inr (.inl h)
    · exact .inr (.inr h)
theorem write_fr {β : Be} {h : HO} {w w' : World} {nx : Pos} {id : Pos} {o o' : AObj} {anc : List Pos} (hid : h id = some o) {b base tot : Nat} (hb : β id = some (b, base, tot)) (hge : 1000 ≤ id.toNat)
    (h1 : w'.heap.size = w.heap.size) (h2 : ∀ b', b' ≠ b → w'.heap[b']? = w.heap[b']?) (h3 : w'.os = w.os) (h4 : w'.tape = w.tape) (h5 : w'.output = w.output) :
    Fr β h w nx β (upd (kill h anc) id (some o')) w' nx := by
  refine ⟨Nat.le_refl _, fun _ _ => rfl, by omega, ?_, ?_, h3, h4, h5, ?_⟩
  · intro b' _ hc
    refine h2 b' fun e => hc ?_
    exact ⟨id, o, _, hge, hid, hb, e.symm⟩
  · intro b' _ ⟨q, p, x, hgq, hq, hx, hxb⟩
    by_cases e : q = id
    · subst e; exact ⟨q, o, x, hgq, hid, hx, hxb⟩
    · simp only [upd, e, if_false, kill] at hq
      by_cases ha : q ∈ anc
      · simp [ha] at hq
      · simp only [ha, if_false] at hq; exact ⟨q, p, x, hgq, hq, hx, hxb⟩
  · intro q p hlt hq
    have e : q ≠ id := by intro h; subst h; omega
    simp only [upd, e, if_false, kill] at hq
    by_cases ha : q ∈ anc
    · simp [ha] at hq
    · simp only [ha, if_false] at hq; exact ⟨p, hq⟩
end
end Go.AE
