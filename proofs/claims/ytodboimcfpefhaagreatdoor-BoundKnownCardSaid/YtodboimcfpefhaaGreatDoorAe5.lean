/-
  A part of the proof that the evaluator is sound: what it finds, the machine does, whatever the tape; conditions as each theorem names them.
-/
import Derived.Deep.AppendSrc
import Derived.AtR
import Derived.Test.YtodboimcfpefhaaGreatDoorAe4
namespace Go.AE
open Go

section
variable {mk nt : FuncId → Nat} {P : Program} {m : Nat} {l : Loc} {e : Env} {dst : Option Tmp} {ty : TypeId} {pos : String} {aft : Array Edge} {gd : Option (Nat × Bool)}

/-- an operation gives its frame a value -/
def Gives (P : Program) (s : Sem Next) (w : World) (v' : Value) (w' : World) : Prop :=
  s.run P w = .ok (.value v') w' ∨ (v' = undef ∧ s.run P w = .ok .skip w')

/-- an operation that acts on the memory alone -/
def EffAt (mk nt : FuncId → Nat) (P : Program) (m : Nat) (l : Loc) (e : Env) (o : Oper) (σ : Heap) (nx : Pos) (v : AV) (σ' : Heap) (nx' : Pos) : Prop :=
  nx.toNat ≤ nx'.toNat ∧ ∀ β a w, Rel mk nt β (hof σ) w → Free β nx nx' → OpdsR β m l e a o.op →
    ∃ β' w' v', Gives P (execOp a.eval o) w v' w' ∧ VR β' v v' ∧ Rel mk nt β' (hof σ') w' ∧ Fr β (hof σ) w nx β' (hof σ') w' nx'

/-- an object that is no row of cells is changed -/
theorem set_rel {β : Be} {h : HO} {w w' : World} (R : Rel mk nt β h w) {id : Pos} {o o' : AObj} (hid : h id = some o) {x : Nat × Nat × Nat} (hb : β id = some x) (ho : ∀ cs rd lo hi anc, o ≠ .cells cs rd lo hi anc)
    (ho' : ObjR mk nt β w'.heap x.1 x.2.1 x.2.2 o') (hk : ∀ b', b' ≠ x.1 → w'.heap[b']? = w.heap[b']?) : Rel mk nt β (upd h id (some o')) w' := by
  have apart : ∀ j oj xj, j ≠ id → h j = some oj → β j = some xj → xj.1 ≠ x.1 := by
    intro j oj xj hne hj hbj hbb
    have := R.sep id j _ _ _ _ (fun h => hne h.symm) hid hj hb hbj hbb.symm
    cases o <;> first | exact ho _ _ _ _ _ rfl | simp [Share] at this
  have hge := R.ge hid hb (fun cs lo hi anc h => ho cs true lo hi anc h)
  refine ⟨R.g0, ?_, ?_, ?_⟩
  · intro q p y hq hy
    by_cases e : q = id
    · subst e
      simp only [upd, if_true, Option.some.injEq] at hq
      rw [hb] at hy
      simp only [Option.some.injEq] at hy
      subst hq; subst hy; exact ho'
    · simp only [upd, e, if_false] at hq
      exact (R.obj q p y hq hy).heap (hk _ (apart q p y e hq hy))
  · intro i j oi oj xi xj hne hi hj bi bj hbb
    by_cases ei : i = id
    · subst ei
      have ej : j ≠ i := fun h => hne h.symm
      simp only [upd, ej, if_false] at hj
      rw [hb] at bi
      simp only [Option.some.injEq] at bi
      subst bi
      exact (apart j oj xj ej hj bj hbb.symm).elim
    · by_cases ej : j = id
      · subst ej
        simp only [upd, ei, if_false] at hi
        rw [hb] at bj
        simp only [Option.some.injEq] at bj
        subst bj
        exact (apart i oi xi ei hi bi hbb).elim
      · simp only [upd, ei, ej, if_false] at hi hj
        exact R.sep i j oi oj xi xj hne hi hj bi bj hbb
  · intro i p y hlt hq bi
    have ei : i ≠ id := by intro h; subst h; omega
    simp only [upd, ei, if_false] at hq
    obtain ⟨g1, g2⟩ := R.glob i p y hlt hq bi
    refine ⟨g1, fun j oj xj hne hj bj => ?_⟩
    by_cases ej : j = id
    · subst ej; exact g2 j _ xj hne hid bj
    · simp only [upd, ej, if_false] at hj; exact g2 j oj xj hne hj bj
theorem set_fr {β : Be} {h : HO} {w w' : World} {nx : Pos} {id : Pos} {o o' : AObj} (hid : h id = some o) {x : Nat × Nat × Nat} (hb : β id = some x) (hge : 1000 ≤ id.toNat)
    (h1 : w'.heap.size = w.heap.size) (h2 : ∀ b', b' ≠ x.1 → w'.heap[b']? = w.heap[b']?) (h3 : w'.os = w.os) (h4 : w'.tape = w.tape) (h5 : w'.output = w.output) :
    Fr β h w nx β (upd h id (some o')) w' nx := by
  refine ⟨Nat.le_refl _, fun _ _ => rfl, by omega, ?_, ?_, h3, h4, h5, ?_⟩
  · intro b' _ hc
    exact h2 b' fun e => hc ⟨id, o, _, hge, hid, hb, e.symm⟩
  · intro b' _ ⟨q, p, y, hgq, hq, hy, hyb⟩
    by_cases e : q = id
    · subst e; exact ⟨q, o, y, hgq, hid, hy, hyb⟩
    · simp only [upd, e, if_false] at hq; exact ⟨q, p, y, hgq, hq, hy, hyb⟩
  · intro q p hlt hq
    have e : q ≠ id := by intro h; subst h; omega
    simp only [upd, e, if_false] at hq
    exact ⟨p, hq⟩

theorem store_spec {t : TypeId} {x y : Operand} {n : Nat} {σ : Heap} {nx : Pos} (hz : sizeT P t = some n) {c : Heap → Prop} (h : (get (xo m x)).run l e fun a => (get (xo m y)).run l e fun v => storeK n a v σ c) :
    ∃ σ', c σ' ∧ EffAt mk nt P m l e ⟨dst, .store t x y, ty, pos, aft, gd⟩ σ nx (.tuple []) σ' nx := by
  obtain ⟨a, g1, hx⟩ := get_spec m l e x h
  obtain ⟨v, g2, hy⟩ := get_spec m l e y g1
  cases a <;> (try exact g2.elim)
  rename_i id off
  have g3 : ite' (Nat.beq (lenK v.cells) n) (writeCells σ id off v.cells c) False := g2
  obtain ⟨hq, g4⟩ := ite'_true g3
  rw [beq_dec, decide_eq_true_eq, lenK_eq] at hq
  obtain ⟨cs, lo, hi, anc, σ', k1, k2, k3, k4, k5, k6⟩ := writeCells_spec g4
  refine ⟨σ', k5, Nat.le_refl _, fun β a w R _ ho => ?_⟩
  obtain ⟨b, base, tot, hb, he⟩ := (hx β a R.g0 (ho x (by simp [Op.operands]))).ptr_inv
  have hv := (hy β a R.g0 (ho y (by simp [Op.operands]))).cells
  obtain ⟨w', r1, r2, r3, r4, r5, r6, r7⟩ := write_rel (P := P) R k1 hb k2 k3 k4 hv
  refine ⟨β, w', undef, .inr ⟨rfl, ?_⟩, .tuple _ [] .nil, by rw [k6]; exact r2, by rw [k6]; exact write_fr k1 hb (R.ge k1 hb (by simp)) r3 r4 r5 r6 r7⟩
  have hsz : (a.eval y).cells.size = n := by rw [← hq, hv.length]; simp
  simp [execOp, Instr.storeAt, Instr.sureAddr, he, storeVar, run_sizeOf hz, hsz, r1]

theorem range_spec {t : TypeId} {x : Operand} {σ : Heap} {nx : Pos} (hu : und P t = some .string) {c : AV → Heap → Pos → Prop} (h : (get (xo m x)).run l e fun v => rangeK v σ nx c) :
    ∃ v σ' nx', c v σ' nx' ∧ EffAt mk nt P m l e ⟨dst, .range t x, ty, pos, aft, gd⟩ σ nx v σ' nx' := by
  obtain ⟨v, g1, hx⟩ := get_spec m l e x h
  cases v <;> (try exact g1.elim)
  rename_i s
  obtain ⟨σ', g2, g3⟩ := set_spec g1
  refine ⟨_, σ', _, g2, by rw [Pos.toNat_succ]; omega, fun β a w R hf ho => ?_⟩
  obtain ⟨bs, hv, rfl⟩ := (hx β a R.g0 (ho x (by simp [Op.operands]))).str_inv
  have hid : β nx = none := hf nx (Nat.le_refl _) (by rw [Pos.toNat_succ]; omega)
  have G := Grown.push w (.stringIter bs 0)
  refine ⟨bset β nx (w.heap.size, 0, 0), { w with heap := w.heap.push (.stringIter bs 0) }, .pointer (some ⟨w.heap.size, 0, none⟩), .inl ?_, .ptr nx 0 w.heap.size 0 0 bset_same, ?_, ?_⟩
  · simp [execOp, Instr.range, run_underlying hu, hv]
  · rw [g3]
    exact grown_rel R G hid ⟨rfl, bs, by simp, by simp⟩
  · rw [g3]; exact grown_fr G (new_ge R.g0 hid)

theorem next_spec {x : Operand} {σ : Heap} {nx : Pos} {c : AV → Heap → Prop} (h : (get (xo m x)).run l e fun v => nextK v σ c) :
    ∃ v σ', c v σ' ∧ EffAt mk nt P m l e ⟨dst, .next x true, ty, pos, aft, gd⟩ σ nx v σ' nx := by
  obtain ⟨v, g1, hx⟩ := get_spec m l e x h
  cases v <;> (try exact g1.elim)
  rename_i id off
  have g2 : ite' (Nat.beq off 0) (withObj σ id fun o => nextO o id σ c) False := g1
  obtain ⟨h0, g3⟩ := ite'_true g2
  rw [beq_dec, decide_eq_true_eq] at h0
  subst h0
  obtain ⟨o, ho, g4⟩ := withObj_spec g3
  rcases o with _ | _ | _ | _ | ⟨s, p⟩ | _ <;> (try exact g4.elim)
  cases s with
  | nil =>
    refine ⟨_, σ, g4, Nat.le_refl _, fun β a w R hf hop => ?_⟩
    obtain ⟨b, base, tot, hb, he⟩ := (hx β a R.g0 (hop x (by simp [Op.operands]))).ptr_inv
    obtain ⟨q0, bs, q1, q2⟩ := R.obj id _ _ ho hb
    simp only at q0 q1; subst q0
    refine ⟨β, w, .tuple #[.bool false], .inl ?_, .tuple _ [.bool false] (.cons _ _ _ _ (.bool _) .nil), R, Fr.refl _ _ _ _⟩
    have hle : ¬ p < bs.size := by
      have := congrArg List.length q2
      simp only [List.length_drop, List.length_map, Array.length_toList, List.length_nil] at this
      have : bs.data.size = bs.size := rfl
      omega
    have hget : (getObj b).run P w = .ok (.stringIter bs p) w := by simp [getObj, Sem.run, q1]
    simp [execOp, Instr.next, he, hget, hle]
  | cons b0 r =>
    have g5 : ite' (Nat.blt b0 128) (T.set id σ (some (.siter r (Nat.succ p))) fun σ => c (.tuple [.bool true, .int .i64 (.ofNat p), .int .i32 (.ofNat b0)]) σ) False := g4
    obtain ⟨h0, g6⟩ := ite'_true g5
    rw [blt_iff, decide_eq_true_eq] at h0
    obtain ⟨σ', g7, g8⟩ := set_spec g6
    refine ⟨_, σ', g7, Nat.le_refl _, fun β a w R hf hop => ?_⟩
    obtain ⟨b, base, tot, hb, he⟩ := (hx β a R.g0 (hop x (by simp [Op.operands]))).ptr_inv
    obtain ⟨q0, bs, q1, q2⟩ := R.obj id _ _ ho hb
    simp only at q0 q1; subst q0
    have hds : bs.data.size = bs.size := rfl
    have hlt : p < bs.size := by
      have := congrArg List.length q2
      simp only [List.length_drop, List.length_map, Array.length_toList, List.length_cons] at this
      omega
    have hget : (getObj b).run P w = .ok (.stringIter bs p) w := by simp [getObj, Sem.run, q1]
    have hbyte : (bs.get! p).toNat = b0 := by
      have h1 : ((bs.data.toList.map UInt8.toNat).drop p)[0]? = some b0 := by rw [q2]; rfl
      rw [List.getElem?_drop] at h1
      simp only [Nat.add_zero, List.getElem?_map, Option.map_eq_some_iff] at h1
      obtain ⟨u, h2, h3⟩ := h1
      have h4 : bs.data[p]? = some u := by simpa using h2
      have : bs.get! p = u := by
        show bs.data[p]! = u
        rw [getElem!_def, h4]
      rw [this, h3]
    have hdec : Utf8.decode bs p = (b0, 1) := by
      unfold Utf8.decode
      simp only [Nat.add_zero, hbyte]
      rw [if_pos h0]
    let w' : World := { w with heap := w.heap.setIfInBounds b (.stringIter bs (p + 1)) }
    have hbs : b < w.heap.size := (Array.getElem?_eq_some_iff.1 q1).1
    have hset : (setObj b (.stringIter bs (p + 1))).run P w = .ok () w' := by simp [setObj, Sem.run, q1, w']
    have hoth : ∀ b', b' ≠ b → w'.heap[b']? = w.heap[b']? := by
      intro b' hne
      simp only [w', Array.getElem?_setIfInBounds]
      rw [if_neg (fun h => hne h.symm)]
    refine ⟨β, w', .tuple #[.bool true, .int .i64 p, .int .i32 b0], .inl ?_, .tuple _ [.bool true, .int .i64 p, .int .i32 b0] (.cons _ _ _ _ (.bool _) (.cons _ _ _ _ (.int _ _) (.cons _ _ _ _ (.int _ _) .nil))), ?_, ?_⟩
    · simp [execOp, Instr.next, he, hget, hlt, hdec, hset, goInt]
    · rw [g8]
      refine set_rel R ho hb (by simp) ?_ hoth
      refine ⟨rfl, bs, by simp [w', hbs], ?_⟩
      have := congrArg (List.drop 1) q2
      rw [List.drop_drop] at this
      simpa [Nat.add_comm] using this
    · rw [g8]
      exact set_fr ho hb (R.ge ho hb (by simp)) (by simp [w']) hoth rfl rfl rfl

theorem rangem_spec {t kt et : TypeId} {x : Operand} {σ : Heap} {nx : Pos} (hu : und P t = some (.map kt et)) {c : AV → Heap → Pos → Prop} (h : (get (xo m x)).run l e fun v => rangemK v σ nx c) :
    ∃ v σ' nx', c v σ' nx' ∧ EffAt mk nt P m l e ⟨dst, .range t x, ty, pos, aft, gd⟩ σ nx v σ' nx' := by
  obtain ⟨v, g1, hx⟩ := get_spec m l e x h
  cases v <;> (try exact g1.elim)
  · obtain ⟨σ', g2, g3⟩ := set_spec g1
    refine ⟨_, σ', _, g2, by rw [Pos.toNat_succ]; omega, fun β a w R hf ho => ?_⟩
    have hv := (hx β a R.g0 (ho x (by simp [Op.operands]))).nilmap_inv
    have hid : β nx = none := hf nx (Nat.le_refl _) (by rw [Pos.toNat_succ]; omega)
    have G := Grown.push w (.mapIter none 0 #[] 0)
    refine ⟨bset β nx (w.heap.size, 0, 0), { w with heap := w.heap.push (.mapIter none 0 #[] 0) }, .pointer (some ⟨w.heap.size, 0, none⟩), .inl ?_, .ptr nx 0 w.heap.size 0 0 bset_same, ?_, ?_⟩
    · simp [execOp, Instr.range, run_underlying hu, hv]
    · rw [g3]
      exact grown_rel R G hid ⟨rfl, none, 0, 0, by simp, .inl ⟨rfl, rfl⟩⟩
    · rw [g3]; exact grown_fr G (new_ge R.g0 hid)
  · rename_i id
    have g2 : withObj σ id fun o => (match o with | .map _ => T.set nx σ (some (.miter (some id))) fun σ => c (.ptr nx 0) σ nx.succ | _ => False) := g1
    obtain ⟨o, ho0, g3⟩ := withObj_spec g2
    rcases o with _ | es | _ | _ | _ | _ <;> (try exact g3.elim)
    obtain ⟨σ', g4, g5⟩ := set_spec g3
    refine ⟨_, σ', _, g4, by rw [Pos.toNat_succ]; omega, fun β a w R hf ho => ?_⟩
    obtain ⟨b, y, hv, hb⟩ := (hx β a R.g0 (ho x (by simp [Op.operands]))).map_inv
    obtain ⟨es', clk, q1, q2⟩ := R.obj id _ _ ho0 hb
    simp only at q1
    have hid : β nx = none := hf nx (Nat.le_refl _) (by rw [Pos.toNat_succ]; omega)
    have G := Grown.push w (.mapIter (some b) clk #[] clk)
    have hget : (getObj b).run P w = .ok (.map es' clk) w := by simp [getObj, Sem.run, q1]
    refine ⟨bset β nx (w.heap.size, 0, 0), { w with heap := w.heap.push (.mapIter (some b) clk #[] clk) }, .pointer (some ⟨w.heap.size, 0, none⟩), .inl ?_, .ptr nx 0 w.heap.size 0 0 bset_same, ?_, ?_⟩
    · simp [execOp, Instr.range, run_underlying hu, hv, hget]
    · rw [g5]
      exact grown_rel R G hid ⟨rfl, some b, clk, clk, by simp, .inr ⟨id, b, y, rfl, rfl, bset_le hid _ _ hb⟩⟩
    · rw [g5]; exact grown_fr G (new_ge R.g0 hid)

theorem nextm_spec {x : Operand} {σ : Heap} {nx : Pos} {c : AV → Prop} (h : (get (xo m x)).run l e fun v => nextmK v σ c) :
    ∃ v, c v ∧ EffAt mk nt P m l e ⟨dst, .next x false, ty, pos, aft, gd⟩ σ nx v σ nx := by
  obtain ⟨v, g1, hx⟩ := get_spec m l e x h
  cases v <;> (try exact g1.elim)
  rename_i id off
  have g2 : ite' (Nat.beq off 0) (withObj σ id fun o => nextmO o σ c) False := g1
  obtain ⟨h0, g3⟩ := ite'_true g2
  rw [beq_dec, decide_eq_true_eq] at h0
  subst h0
  obtain ⟨o, ho, g4⟩ := withObj_spec g3
  rcases o with _ | _ | _ | _ | _ | mm <;> (try exact g4.elim)
  have hov : VR (fun _ => none) (.tuple [.bool false]) (.tuple #[.bool false]) := .tuple _ [.bool false] (.cons _ _ _ _ (.bool _) .nil)
  cases mm with
  | none =>
    refine ⟨_, g4, Nat.le_refl _, fun β a w R hf hop => ?_⟩
    obtain ⟨b, base, tot, hb, he⟩ := (hx β a R.g0 (hop x (by simp [Op.operands]))).ptr_inv
    obtain ⟨q0, o, since, last, q1, q2⟩ := R.obj id _ _ ho hb
    simp only at q0 q1; subst q0
    have ho' : o = none := by
      rcases q2 with ⟨_, h⟩ | ⟨_, _, _, h, _⟩
      · exact h
      · cases h
    subst ho'
    have hget : (getObj b).run P w = .ok (.mapIter none since #[] last) w := by simp [getObj, Sem.run, q1]
    refine ⟨β, w, .tuple #[.bool false], .inl ?_, hov.mono (fun _ _ h => by cases h), R, Fr.refl _ _ _ _⟩
    simp [execOp, Instr.next, he, hget]
  | some id2 =>
    have g5 : withObj σ id2 fun o => (match o with | .map [] => c (.tuple [.bool false]) | _ => False) := g4
    obtain ⟨o2, ho2, g6⟩ := withObj_spec g5
    rcases o2 with _ | es | _ | _ | _ | _ <;> (try exact g6.elim)
    cases es with
    | cons a l => exact g6.elim
    | nil =>
      refine ⟨_, g6, Nat.le_refl _, fun β a w R hf hop => ?_⟩
      obtain ⟨b, base, tot, hb, he⟩ := (hx β a R.g0 (hop x (by simp [Op.operands]))).ptr_inv
      obtain ⟨q0, o, since, last, q1, q2⟩ := R.obj id _ _ ho hb
      simp only at q0 q1; subst q0
      rcases q2 with ⟨h, _⟩ | ⟨id3, bm, y, h, ho3, hb3⟩
      · cases h
      cases h
      subst ho3
      obtain ⟨es', clk, k1, k2⟩ := R.obj id2 _ _ ho2 hb3
      simp only at k1
      have hes : es' = #[] := by
        cases g3 : es'.toList with
        | nil => apply Array.ext'; simpa using g3
        | cons a l => rw [g3] at k2; cases k2
      subst hes
      have hget : (getObj b).run P w = .ok (.mapIter (some bm) since #[] last) w := by simp [getObj, Sem.run, q1]
      have hget2 : (getObj bm).run P w = .ok (.map #[] clk) w := by simp [getObj, Sem.run, k1]
      have hch : ∃ k, (choose (.mapNext 1)).run P w = .ok 0 { w with drawn := w.drawn + k } := by
        first
          | exact ⟨0, by simp [choose, Sem.run, Question.forced, Question.cut]⟩
          | exact ⟨1, by simp [choose, Sem.run, Question.forced, Question.cut]⟩
      obtain ⟨k, hch⟩ := hch
      refine ⟨β, { w with drawn := w.drawn + k }, .tuple #[.bool false], .inl ?_, hov.mono (fun _ _ h => by cases h), ⟨R.g0, R.obj, R.sep, R.glob⟩, ⟨Nat.le_refl _, fun _ _ => rfl, Nat.le_refl _, fun _ _ _ => rfl, fun _ _ h => h, rfl, rfl, rfl, fun _ o _ h => ⟨o, h⟩⟩⟩
      simp [execOp, Instr.next, he, hget, hget2, hch]
end
end Go.AE
namespace Go.AE
open Go

section
variable {mk nt : FuncId → Nat} {P : Program} {m : Nat} {l : Loc} {e : Env} {dst : Option Tmp} {ty : TypeId} {pos : String} {aft : Array Edge} {gd : Option (Nat × Bool)}

def UpdH (h : HO) (kk : Nat) (k v : AV) : List (AV × AV) → List (AV × AV) → Prop
  | [], r => r = [(k, v)]
  | e :: es, r => ∃ t, KeyEqH h kk k e.1 t ∧ (if t = true then r = (k, v) :: es else ∃ r', r = e :: r' ∧ UpdH h kk k v es r')
theorem updK_spec {σ : Heap} {kk : Nat} {k v : AV} : ∀ {es : List (AV × AV)} {c : List (AV × AV) → Prop}, updK σ kk k v es c → ∃ r, c r ∧ UpdH (hof σ) kk k v es r
  | [], c, h => ⟨_, h, rfl⟩
  | e :: es, c, h => by
    have h' : keyEq σ kk k e.1 fun t => ite' t (c ((k, v) :: es)) (updK σ kk k v es fun r => c (e :: r)) := h
    obtain ⟨t, h1, h2⟩ := keyEq_spec h'
    cases t with
    | true => exact ⟨_, h1, true, h2, rfl⟩
    | false =>
      obtain ⟨r, h3, h4⟩ := updK_spec (es := es) h1
      exact ⟨_, h3, false, h2, r, rfl, h4⟩

theorem EsR.push {β : Be} {k v : AV} {e : MapEntry} (hk : VR β k e.key) (hv : VR β v e.val) : ∀ {l : List (AV × AV)} {l' : List MapEntry}, EsR β l l' → EsR β (l ++ [(k, v)]) (l' ++ [e])
  | _, _, .nil => .cons _ _ _ _ _ hk hv .nil
  | _, _, .cons a b e' l l' ha hb hs => .cons a b e' _ _ ha hb (EsR.push hk hv hs)

/-- where an entry is found, and what becomes of the list -/
theorem upd_asking {β : Be} {h : HO} {w : World} (R : Rel mk nt β h w) {kt : TypeId} {d : TypeDesc} {kk : Nat} (hd : und P kt = some d) (hk : keyKind P d = some kk) {k v : AV} {k' v' : Value} (hkv : VR β k k') (hvv : VR β v v') :
    ∀ {es : List (AV × AV)} {es' : List MapEntry} {r : List (AV × AV)} (i : Nat), EsR β es es' → UpdH h kk k v es r →
      ((Instr.findAsking kt k' es' i).run P w = .ok none w ∧ r = es ++ [(k, v)]) ∨
      ∃ j e', (Instr.findAsking kt k' es' i).run P w = .ok (some (i + j, e'.val)) w ∧ es'[j]? = some e' ∧ (∃ a, KeyEqH h kk k a true ∧ VR β a e'.key) ∧ EsR β r (es'.modify j fun e => { e with key := k', val := v' })
  | _, _, r, i, .nil, hf => .inl ⟨by simp [Instr.findAsking], hf⟩
  | _, _, r, i, .cons a b e' l l' ha hb hs, hf => by
    obtain ⟨t, h1, h2⟩ := hf
    have hq := keyEq_run R hd hk h1 hkv ha
    cases t with
    | true =>
      simp only [if_true] at h2
      subst h2
      exact .inr ⟨0, e', by simp [Instr.findAsking, hq], rfl, ⟨a, h1, ha⟩, by simpa using EsR.cons _ _ { e' with key := k', val := v' } _ _ hkv hvv hs⟩
    | false =>
      simp only [Bool.false_eq_true, if_false] at h2
      obtain ⟨r', rfl, h2⟩ := h2
      rcases upd_asking R hd hk hkv hvv (i + 1) hs h2 with ⟨h3, h4⟩ | ⟨j, e2, h3, h4, h5, h6⟩
      · exact .inl ⟨by simp [Instr.findAsking, hq, h3], by rw [h4]; rfl⟩
      · exact .inr ⟨j + 1, e2, by simp [Instr.findAsking, hq, h3]; omega, by simpa using h4, h5, by simpa using EsR.cons _ _ _ _ _ ha hb h6⟩
theorem upd_now {β : Be} {h : HO} {d : TypeDesc} {kk : Nat} (hk : plainKind d = some kk) {k v : AV} {k' v' : Value} (hkv : VR β k k') (hvv : VR β v v') :
    ∀ {es : List (AV × AV)} {es' : List MapEntry} {r : List (AV × AV)} (i : Nat), EsR β es es' → UpdH h kk k v es r →
      (Instr.findNow d k' es' i = some none ∧ r = es ++ [(k, v)]) ∨
      ∃ j e', Instr.findNow d k' es' i = some (some (i + j, e'.val)) ∧ es'[j]? = some e' ∧ (∃ a, KeyEqH h kk k a true ∧ VR β a e'.key) ∧ EsR β r (es'.modify j fun e => { e with key := k', val := v' })
  | _, _, r, i, .nil, hf => .inl ⟨by simp [Instr.findNow], hf⟩
  | _, _, r, i, .cons a b e' l l' ha hb hs, hf => by
    obtain ⟨t, h1, h2⟩ := hf
    have hq : Instr.sameNow d k' e'.key = some t := by
      rcases h1 with h1 | ⟨rfl, _⟩
      · exact sameNow_spec hk h1 hkv ha
      · exact (plainKind_ne3 hk).elim
    cases t with
    | true =>
      simp only [if_true] at h2
      subst h2
      exact .inr ⟨0, e', by simp [Instr.findNow, hq], rfl, ⟨a, h1, ha⟩, by simpa using EsR.cons _ _ { e' with key := k', val := v' } _ _ hkv hvv hs⟩
    | false =>
      simp only [Bool.false_eq_true, if_false] at h2
      obtain ⟨r', rfl, h2⟩ := h2
      rcases upd_now hk hkv hvv (i + 1) hs h2 with ⟨h3, h4⟩ | ⟨j, e2, h3, h4, h5, h6⟩
      · exact .inl ⟨by simp [Instr.findNow, hq, h3], by rw [h4]; rfl⟩
      · exact .inr ⟨j + 1, e2, by simp [Instr.findNow, hq, h3]; omega, by simpa using h4, h5, by simpa using EsR.cons _ _ _ _ _ ha hb h6⟩
theorem upd_key {β : Be} {h : HO} {w : World} (R : Rel mk nt β h w) {kt : TypeId} {d : TypeDesc} {kk : Nat} (hd : und P kt = some d) (hk : keyKind P d = some kk) {k v : AV} {k' v' : Value} (hkv : VR β k k') (hvv : VR β v v')
    {es : List (AV × AV)} {es' : List MapEntry} {r : List (AV × AV)} (he : EsR β es es') (hf : UpdH h kk k v es r) :
      ((Instr.findKey kt k' es').run P w = .ok none w ∧ r = es ++ [(k, v)]) ∨
      ∃ j e', (Instr.findKey kt k' es').run P w = .ok (some (j, e'.val)) w ∧ es'[j]? = some e' ∧ (∃ a, KeyEqH h kk k a true ∧ VR β a e'.key) ∧ EsR β r (es'.modify j fun e => { e with key := k', val := v' }) := by
  rcases keyKind_cases hk with hpk | ⟨rfl, e, n, rfl, hz⟩
  · rcases upd_now hpk hkv hvv 0 he hf with ⟨h1, h2⟩ | ⟨j, e', h1, h2⟩
    · exact .inl ⟨by simp [Instr.findKey, run_underlying hd, h1], h2⟩
    · exact .inr ⟨j, e', by simp [Instr.findKey, run_underlying hd, h1], h2⟩
  · have hs : ∀ a b, Instr.sameNow (.pointer e) a b = none := by intro a b; simp [Instr.sameNow]
    cases es' with
    | nil =>
      rcases upd_asking R hd hk hkv hvv 0 he hf with ⟨h1, h2⟩ | ⟨j, e', h1, h2, _⟩
      · exact .inl ⟨by simp [Instr.findKey, run_underlying hd, Instr.findNow], h2⟩
      · simp at h2
    | cons e1 l =>
      rcases upd_asking R hd hk hkv hvv 0 he hf with ⟨h1, h2⟩ | ⟨j, e', h1, h2⟩
      · exact .inl ⟨by simp [Instr.findKey, run_underlying hd, Instr.findNow, hs, h1], h2⟩
      · exact .inr ⟨j, e', by simp [Instr.findKey, run_underlying hd, Instr.findNow, hs, h1], h2⟩

/-- the key stays -/
theorem sameBits_of {β : Be} {h : HO} {kk : Nat} {k a : AV} {k' a' : Value} (hq : KeyEqH h kk k a true) (hk : VR β k k') (ha : VR β a a') (n : Nat) : Instr.sameBits n a' k' = true := by
  rcases hq with hq | ⟨rfl, i, o, j, q, rfl, rfl, hp⟩
  · unfold eqv at hq
    split at hq
    · obtain rfl := hk.bool_inv
      obtain rfl := ha.bool_inv
      simp at hq
      simp [Instr.sameBits, hq]
    · obtain rfl := hk.int_inv
      obtain rfl := ha.int_inv
      rename_i k1 x k2 y
      by_cases hkk : keq k1 k2 = true
      · have := (keq_iff k1 k2).1 hkk
        subst this
        rw [hkk, ieq_iff] at hq
        simp at hq
        simp [Instr.sameBits, hq]
      · simp only [Bool.not_eq_true] at hkk
        rw [hkk] at hq; cases hq
    · obtain ⟨s, rfl, rfl⟩ := hk.str_inv
      obtain ⟨s', rfl, rfl⟩ := ha.str_inv
      rw [seq_iff, map_inj_beq] at hq
      have hq' : (s'.data.toList == s.data.toList) = true := by
        have := eq_of_beq (Option.some.inj hq)
        rw [this]; exact beq_self_eq_true _
      rw [← bytes_beq] at hq'
      simp [Instr.sameBits, hq']
    · cases hq
  · rcases hp with ⟨rfl, ht⟩ | ⟨_, ht, _⟩
    · obtain ⟨b1, s1, t1, h1, rfl⟩ := hk.ptr_inv
      obtain ⟨b2, s2, t2, h2, rfl⟩ := ha.ptr_inv
      rw [h1] at h2
      simp only [Option.some.injEq, Prod.mk.injEq] at h2
      obtain ⟨rfl, rfl, rfl⟩ := h2
      have : o = q := by simpa using ht
      subst this
      simp [Instr.sameBits]
    · cases ht

theorem mapupd_spec {t kt et : TypeId} {kd : TypeDesc} {kk : Nat} {x y z : Operand} {σ : Heap} {nx : Pos} (hu : und P t = some (.map kt et)) (hkd : und P kt = some kd) (hk : keyKind P kd = some kk) {c : Heap → Prop}
    (h : (get (xo m x)).run l e fun mv => (get (xo m y)).run l e fun k => (get (xo m z)).run l e fun v => mapupdK kk mv k v σ c) :
    ∃ σ', c σ' ∧ EffAt mk nt P m l e ⟨dst, .mapUpdate t x y z, ty, pos, aft, gd⟩ σ nx (.tuple []) σ' nx := by
  obtain ⟨mv, g1, hx⟩ := get_spec m l e x h
  obtain ⟨k, g2, hy⟩ := get_spec m l e y g1
  obtain ⟨v, g3, hz⟩ := get_spec m l e z g2
  cases mv <;> (try exact g3.elim)
  rename_i id
  have g4 : withObj σ id fun o => (match o with | .map es => updK σ kk k v es fun es => T.set id σ (some (.map es)) c | _ => False) := g3
  obtain ⟨o, ho, g5⟩ := withObj_spec g4
  rcases o with _ | es | _ | _ | _ | _ <;> (try exact g5.elim)
  obtain ⟨r, g6, hupd⟩ := updK_spec (es := es) g5
  obtain ⟨σ', g7, g8⟩ := set_spec g6
  refine ⟨σ', g7, Nat.le_refl _, fun β a w R hf hop => ?_⟩
  obtain ⟨b, w0, he, hb⟩ := (hx β a R.g0 (hop x (by simp [Op.operands]))).map_inv
  have hkv := hy β a R.g0 (hop y (by simp [Op.operands]))
  have hvv := hz β a R.g0 (hop z (by simp [Op.operands]))
  obtain ⟨es', clk, q1, q2⟩ := R.obj id _ _ ho hb
  simp only at q1
  have hget : (getObj b).run P w = .ok (.map es' clk) w := by simp [getObj, Sem.run, q1]
  have ck := checkKey_run (w := w) hkd hk false 9999 (a.eval y)
  have hbs : b < w.heap.size := (Array.getElem?_eq_some_iff.1 q1).1
  have hset : ∀ o' : Obj, (setObj b o').run P w = .ok () { w with heap := w.heap.setIfInBounds b o' } := by intro o'; simp [setObj, Sem.run, q1]
  have fin : ∀ (es2 : Array MapEntry) (clk2 : Nat), EsR β r es2.toList → (Instr.mapUpdate t (a.eval x) (a.eval y) (a.eval z)).run P w = .ok () { w with heap := w.heap.setIfInBounds b (.map es2 clk2) } →
      ∃ β' w' v', Gives P (execOp a.eval ⟨dst, .mapUpdate t x y z, ty, pos, aft, gd⟩) w v' w' ∧ VR β' (.tuple []) v' ∧ Rel mk nt β' (hof σ') w' ∧ Fr β (hof σ) w nx β' (hof σ') w' nx := by
    intro es2 clk2 hes hrun
    have hoth : ∀ b', b' ≠ b → ({ w with heap := w.heap.setIfInBounds b (.map es2 clk2) } : World).heap[b']? = w.heap[b']? := by
      intro b' hne
      simp only [Array.getElem?_setIfInBounds]
      rw [if_neg (fun h => hne h.symm)]
    refine ⟨β, { w with heap := w.heap.setIfInBounds b (.map es2 clk2) }, undef, .inr ⟨rfl, ?_⟩, .tuple _ [] .nil, ?_, ?_⟩
    · simp only [execOp, Sem.run_bind]; rw [hrun]; rfl
    · rw [g8]
      exact set_rel R ho hb (by simp) ⟨es2, clk2, by simp [hbs], hes⟩ hoth
    · rw [g8]
      exact set_fr ho hb (R.ge ho hb (by simp)) (by simp) hoth rfl rfl rfl
  rcases upd_key R hkd hk hkv hvv q2 hupd with ⟨h3, rfl⟩ | ⟨j, e', h3, h4, ⟨ak, h5, h6⟩, h7⟩
  · refine fin (es'.push { key := a.eval y, val := a.eval z, born := clk }) (clk + 1) ?_ ?_
    · rw [Array.toList_push]; exact EsR.push hkv hvv q2
    · simp [Instr.mapUpdate, run_underlying hu, he, hget, ck, h3, hset]
  · refine fin (es'.modify j fun e => { e with key := a.eval y, val := a.eval z }) clk ?_ ?_
    · rw [Array.toList_modify]; exact h7
    · have hsb := sameBits_of h5 hkv h6 10000
      have hks : (Instr.keyThatStays e'.key (a.eval y)).run P w = .ok (a.eval y) w := by simp [Instr.keyThatStays, hsb]
      have h4' : es'[j]? = some e' := by simpa using h4
      simp [Instr.mapUpdate, run_underlying hu, he, hget, ck, h3, h4', hks, hset]
end
end Go.AE
namespace Go.AE
open Go

section
variable {mk nt : FuncId → Nat} {P : Program} {m : Nat} {l : Loc} {e : Env} {dst : Option Tmp} {ty : TypeId} {pos : String} {aft : Array Edge} {gd : Option (Nat × Bool)}

/-- what an argument of append or copy yields -/
def SrcR (mk nt : FuncId → Nat) (P : Program) (σ : Heap) (es : Nat) (xv : AV) (n : Nat) (new : List AV) : Prop :=
  ∀ β w x', Rel mk nt β (hof σ) w → VR β xv x' → (∀ w', (Builtin.lenOf x').run P w' = .ok n w') ∧
    ∀ k, k ≤ n → ∃ arr : Array Value, (∀ d, (Builtin.firstCells es k x').run P { w with drawn := d } = .ok arr { w with drawn := d }) ∧ VRs β (new.take (k * es)) arr.toList

theorem src_spec {σ : Heap} {es : Nat} {xv : AV} {c : Nat → List AV → Prop} (h : srcCells σ es xv c) : ∃ n new, c n new ∧ new.length = n * es ∧ SrcR mk nt P σ es xv n new := by
  cases xv <;> (try exact h.elim)
  · rename_i s
    have h' : ite' (Nat.beq es 1) (forceNat (lenK s) fun n => byteVals s fun l => c n l) False := h
    obtain ⟨h0, h1⟩ := ite'_true h'
    rw [beq_dec, decide_eq_true_eq] at h0
    subst h0
    rw [forceNat_eq, lenK_eq, byteVals_eq] at h1
    refine ⟨_, _, h1, by simp, fun β w x' R hx => ?_⟩
    obtain ⟨bs, rfl, rfl⟩ := hx.str_inv
    have hsz : (bs.data.toList.map UInt8.toNat).length = bs.size := by rw [List.length_map, Array.length_toList]; rfl
    rw [hsz]
    refine ⟨fun w' => rfl, fun k hk => ?_⟩
    refine ⟨(bs.extract 0 k).data.map fun b => .int .u8 b.toNat, fun d => rfl, ?_⟩
    rw [Array.toList_map, extract_list, List.map_map, ← List.map_take, Nat.mul_one, Nat.sub_zero, List.drop_zero]
    generalize bs.data.toList.take k = bl
    induction bl with
    | nil => exact .nil
    | cons b bl ih => exact .cons _ _ _ _ (.int _ _) ih
  · refine ⟨0, [], h, by simp, fun β w x' R hx => ?_⟩
    obtain rfl := hx.nilslice_inv
    exact ⟨fun w' => rfl, fun k hk => ⟨#[], fun d => rfl, by simp; exact .nil⟩⟩
  · rename_i id off len cap es'
    have h' : ite' (Nat.beq es es') (ite' (Nat.beq len 0) (c 0 []) (readCells σ id off (len * es) fun l => c len l)) False := h
    obtain ⟨h0, h1⟩ := ite'_true h'
    rw [beq_dec, decide_eq_true_eq] at h0
    subst h0
    rw [ite'_eq, beq_dec] at h1
    by_cases hl : len = 0
    · subst hl
      simp only [decide_true, if_true] at h1
      refine ⟨0, [], h1, by simp, fun β w x' R hx => ?_⟩
      rcases hx.slice_inv with ⟨b, base, tot, cc, rfl, hb, _⟩ | ⟨ad, had, rfl, _, _⟩
      · exact ⟨fun w' => rfl, fun k hk => ⟨#[], fun d => by
          have : k = 0 := by omega
          subst this; simp [Builtin.firstCells, loadCells, loadCellsFrom], by simp; exact .nil⟩⟩
      · exact ⟨fun w' => rfl, fun k hk => ⟨#[], fun d => by
          have : k = 0 := by omega
          subst this; simp [Builtin.firstCells, loadCells, loadCellsFrom], by simp; exact .nil⟩⟩
    · simp only [hl, decide_false, Bool.false_eq_true, if_false] at h1
      obtain ⟨cs, rd, lo, hi, anc, h1, h2, h3⟩ := readCells_spec h1
      refine ⟨len, _, h3, by simp; omega, fun β w x' R hx => ?_⟩
      rcases hx.slice_inv with ⟨b, base, tot, cc, rfl, hb, _⟩ | ⟨ad, had, _, hl0, _⟩
      · refine ⟨fun w' => rfl, fun k hk => ?_⟩
        have hkl : k * es ≤ len * es := Nat.mul_le_mul_right _ hk
        obtain ⟨l', q1, q2, _, q4⟩ := cells_read (R.obj id _ _ h1 hb) (off := off) (n := k * es) (by omega)
        refine ⟨l'.toArray, fun d => ?_, ?_⟩
        · have := run_loadCells_list (P := P) { w with drawn := d } ⟨b, base + off, none⟩ l' (fun j v hj => q4 j v hj)
          rw [q2] at this
          simp [Builtin.firstCells, this]
        · rw [List.take_take, Nat.min_eq_left hkl]; exact q1
      · exact (hl hl0).elim

theorem run_append_in {st xt et : TypeId} {xd : TypeDesc} {i : TypeInfo} {ats : Array TypeId} {w w' : World} {base : Option Addr} {sLen sCap n : Nat} {x' : Value} {arr : Array Value} (hat : ats.toList = [st, xt]) (hu : und P st = some (.slice et)) (hx : und P xt = some xd)
    (hxd : (∃ e, xd = .slice e) ∨ xd = .string) (hi : tinf P et = some i) (hl : (Builtin.lenOf x').run P w = .ok n w) (hf : (Builtin.firstCells i.size n x').run P w = .ok arr w) (hle : sLen + n ≤ sCap)
    (hst : ∀ a, base = some a → (storeCells (a.add (sLen * i.size)) arr.toList).run P w = .ok () w') (hno : base = none → w' = w) :
    (Builtin.append_ ats ty #[.slice base sLen sCap, x']).run P w = .ok (.slice base (sLen + n) sCap) w' := by
  cases two_list hat
  cases base with
  | none =>
    cases hno rfl
    rcases hxd with ⟨e', rfl⟩ | rfl <;> simp [Builtin.append_, run_underlying hu, run_underlying hx, sizeOf, typeInfo, tinf_spec hi, hl, hle, hf]
  | some a =>
    have := hst a rfl
    rcases hxd with ⟨e', rfl⟩ | rfl <;> simp [Builtin.append_, run_underlying hu, run_underlying hx, sizeOf, typeInfo, tinf_spec hi, hl, hle, hf, this]

theorem run_append_grow' {st xt et : TypeId} {xd : TypeDesc} {i : TypeInfo} {z : Value} {ats : Array TypeId} {w : World} {base : Option Addr} {sLen sCap n : Nat} {x' : Value} {arr olds : Array Value} (hat : ats.toList = [st, xt]) (hu : und P st = some (.slice et)) (hx : und P xt = some xd)
    (hxd : (∃ e, xd = .slice e) ∨ xd = .string) (hi : tinf P et = some i) (hz : i.zero = some z) (hl : ∀ w', (Builtin.lenOf x').run P w' = .ok n w') (hf : (Builtin.firstCells i.size n x').run P w.drew = .ok arr w.drew)
    (ho : (Builtin.firstCells i.size sLen (.slice base sLen sCap)).run P w.drew = .ok olds w.drew) (hg : sCap < sLen + n) (hb : 0 < i.bytes) (hbd : (sLen + n) * i.bytes < 1073741824) :
    ∃ cap, sLen + n ≤ cap ∧ (Builtin.append_ ats ty #[.slice base sLen sCap, x']).run P w = .ok (.slice (some ⟨w.heap.size, 0, none⟩) (sLen + n) cap)
        (w.drew.alloc (.cells (olds ++ arr ++ Builtin.zeroCells z.cells (cap - (sLen + n))) et)) := by
  have hfit : Builtin.nextslicecap (sLen + n) sCap * i.bytes ≤ 281474976710656 := growslice_fits hg (by omega)
  have h63 : ((sLen + n : Nat) : Int) ≤ 9223372036854775807 := by
    have : (sLen + n) * 1 ≤ (sLen + n) * i.bytes := Nat.mul_le_mul_left _ hb
    omega
  have hn : ¬ (sLen + n ≤ sCap) := by omega
  have h63' : ¬ (9223372036854775807 < ((sLen : Int) + (n : Int))) := by omega
  have h48' : ¬ (281474976710656 < Builtin.nextslicecap (sLen + n) sCap * i.bytes) := by omega
  refine ⟨grownCap w (sLen + n) sCap et, grownCap_ge _ _ _ _, ?_⟩
  cases two_list hat
  rcases hxd with ⟨e', rfl⟩ | rfl <;>
    simp [Builtin.append_, run_underlying hu, run_underlying hx, sizeOf, typeInfo, zeroValue, tinf_spec hi, hz, hl, hn, h63', h48', Question.forced, hf, ho, newRow, grownCap]
end
end Go.AE
namespace Go.AE
open Go

section
variable {mk nt : FuncId → Nat} {P : Program} {m : Nat} {l : Loc} {e : Env} {dst : Option Tmp} {ty : TypeId} {pos : String} {aft : Array Edge} {gd : Option (Nat × Bool)}

theorem rd_rel {β : Be} {h : HO} {w : World} (R : Rel mk nt β h w) {id : Pos} {cs : List AV} {rd : Bool} {lo hi : Nat} {anc : List Pos} (hid : h id = some (.cells cs rd lo hi anc)) :
    Rel mk nt β (upd h id (some (.cells cs true lo hi anc))) w := by
  refine ⟨R.g0, ?_, ?_, ?_⟩
  · intro q p y hq hy
    by_cases e : q = id
    · subst e
      simp only [upd, if_true, Option.some.injEq] at hq
      subst hq; exact (R.obj q _ y hid hy : ObjR mk nt β w.heap y.1 y.2.1 y.2.2 (.cells cs rd lo hi anc))
    · simp only [upd, e, if_false] at hq; exact R.obj q p y hq hy
  · intro i j oi oj xi xj hne hhi hj bi bj hbb
    by_cases ei : i = id
    · subst ei
      have ej : j ≠ i := fun h => hne h.symm
      simp only [upd, ej, if_false] at hj
      simp only [upd, if_true, Option.some.injEq] at hhi
      have := R.sep i j _ _ _ _ hne hid hj bi bj hbb
      subst hhi
      cases oj <;> simp [Share] at this ⊢
      rcases this with h | h | h
      · exact .inl h.2
      · exact .inr (.inl h.2)
      · exact .inl h.1
    · by_cases ej : j = id
      · subst ej
        simp only [upd, ei, if_false] at hhi
        simp only [upd, if_true, Option.some.injEq] at hj
        have := R.sep i j _ _ _ _ hne hhi hid bi bj hbb
        subst hj
        cases oi <;> simp [Share] at this ⊢
        rcases this with h | h | h
        · exact .inl h.1
        · exact .inl h.1
        · exact .inr (.inr h.2)
      · simp only [upd, ei, ej, if_false] at hhi hj
        exact R.sep i j oi oj xi xj hne hhi hj bi bj hbb
  · intro i p y hlt hq bi
    have hb2 : ∃ o1, h i = some o1 ∧ (i ≠ id → o1 = p) := by
      by_cases e : i = id
      · subst e; exact ⟨_, hid, fun h => (h rfl).elim⟩
      · simp only [upd, e, if_false] at hq; exact ⟨p, hq, fun _ => rfl⟩
    obtain ⟨o1, k1, k2⟩ := hb2
    obtain ⟨g1, g2⟩ := R.glob i o1 y hlt k1 bi
    refine ⟨?_, fun j oj xj hne hj bj => ?_⟩
    · by_cases e : i = id
      · subst e
        simp only [upd, if_true, Option.some.injEq] at hq
        exact ⟨_, _, _, _, hq.symm⟩
      · rw [← k2 e]; exact g1
    · by_cases ej : j = id
      · subst ej; exact g2 j _ xj hne hid bj
      · simp only [upd, ej, if_false] at hj; exact g2 j oj xj hne hj bj
theorem rd_cov {β : Be} {h : HO} {id : Pos} {o o' : AObj} (hid : h id = some o) (b : Nat) : Cov β (upd h id (some o')) b → Cov β h b := by
  intro ⟨q, p, x, hgq, hq, hx, hxb⟩
  by_cases e : q = id
  · subst e; exact ⟨q, o, x, hgq, hid, hx, hxb⟩
  · simp only [upd, e, if_false] at hq; exact ⟨q, p, x, hgq, hq, hx, hxb⟩

theorem rd_gl {h : HO} {id : Pos} {o o' : AObj} (hid : h id = some o) : ∀ q p, Pos.toNat q < 1000 → upd h id (some o') q = some p → ∃ p', h q = some p' := by
  intro q p _ hq
  by_cases e : q = id
  · subst e; exact ⟨o, hid⟩
  · simp only [upd, e, if_false] at hq; exact ⟨p, hq⟩

theorem drew_grown (w : World) (o : Obj) : Grown w (w.drew.alloc o) := Grown.mk (by show (w.heap.push o).size = _; simp)
  (fun b hb => by show (w.heap.push o)[b]? = _; simp [Array.getElem?_push, Nat.ne_of_lt hb]) rfl rfl rfl

/-- a new row, longer than what is known of it -/
theorem row_at {β : Be} {w : World} {cs : List AV} {anc : List Pos} {cells : Array Value} {et : TypeId} {n : Nat} (h : VRs β cs (cells.toList.take n)) (hn : n ≤ cells.size) :
    ObjR mk nt β (w.drew.alloc (.cells cells et)).heap w.heap.size 0 cells.size (.cells cs false 0 0 anc) := by
  exact ⟨cells, et, (0, 0), (by show (w.heap.push (Obj.cells cells et))[w.heap.size]? = _; simp), by simp, ⟨n, hn, by simpa using h⟩, by intro i h1 h2; simp at h2, by simp⟩

theorem onesK_spec : ∀ {vs : List AV} {c : Prop}, onesK vs c → (∀ v ∈ vs, v.one = true) ∧ c
  | [], c, h => ⟨by simp, h⟩
  | v :: vs, c, h => by
    obtain ⟨h0, h1⟩ := one1_spec (v := v) (c := onesK vs c) h
    obtain ⟨h2, h3⟩ := onesK_spec h1
    refine ⟨?_, h3⟩
    intro x hx
    rcases List.mem_cons.1 hx with rfl | hx
    · exact h0
    · exact h2 x hx
theorem ones_run {β : Be} : ∀ {vs : List AV} {vs' : List Value}, VRs β vs vs' → (∀ v ∈ vs, v.one = true) → ∀ v ∈ vs', v.oneCell' = true
  | _, _, .nil, _ => by simp
  | _, _, .cons v v' l l' h hs, h1 => by
    intro x hx
    rcases List.mem_cons.1 hx with rfl | hx
    · exact h.one (h1 v (by simp))
    · exact ones_run hs (fun y hy => h1 y (by simp [hy])) x hx

theorem tip_rel {β : Be} {h : HO} {w : World} (R : Rel mk nt β h w) {id nx : Pos} {cs : List AV} {lo hi : Nat} {anc : List Pos} (hid : h id = some (.cells cs false lo hi anc)) (hlo : hi ≤ lo) {b base tot : Nat} (hb : β id = some (b, base, tot))
    (hnx : β nx = none) {vs : List AV} {vs' : List Value} (hv : VRs β vs vs') (h1 : ∀ v ∈ vs, v.one = true) (hroom : cs.length + vs.length ≤ tot) :
    ∃ w', (storeCells ⟨b, base + cs.length, none⟩ vs').run P w = .ok () w' ∧
      Rel mk nt (bset β nx (b, base, tot)) (upd (upd h id (some (.cells cs true lo hi anc))) nx (some (.cells (cs ++ vs) false 0 0 (id :: anc)))) w' ∧
      Fr β h w nx (bset β nx (b, base, tot)) (upd (upd h id (some (.cells cs true lo hi anc))) nx (some (.cells (cs ++ vs) false 0 0 (id :: anc)))) w' nx.succ := by
  obtain ⟨c, ty, fr, q1, q2, ⟨k, q3, q4⟩, q5, q6⟩ := R.obj id _ _ hid hb
  simp only at q1 q2 q3 q4 q5
  have hl := hv.length
  have hcl : c.toList.length = c.size := Array.length_toList
  have hkl : cs.length = k := by rw [q4.length, List.length_take, List.length_drop]; omega
  have hfr := q6 hlo
  obtain ⟨w', r1, r2, ⟨c', r3, r4⟩, r5, r6, r7, r8⟩ := storeCells_run (P := P) b ty fr vs' w c (base + cs.length) 0 q1 (by omega) (ones_run hv h1) (by
    intro j h1 h2 ⟨h3, h4⟩; omega)
  simp only [Nat.add_zero] at r4
  have hcl' : c'.toList.length = c'.size := Array.length_toList
  have hsz : c'.size = c.size := by
    have := congrArg List.length r4
    simp only [List.length_append, List.length_take, List.length_drop] at this; omega
  have hle := bset_le (x := (b, base, tot)) hnx
  have hin : id ≠ nx := by intro e; rw [e, hnx] at hb; cases hb
  have p1 := patch_drop c.toList vs' base cs.length (by omega)
  have pre : ∀ j, j ≤ cs.length → (c'.toList.drop base).take j = (c.toList.drop base).take j := by
    intro j hj
    rw [r4, p1, List.append_assoc, List.take_append_of_le_length (by rw [List.length_take, List.length_drop]; omega), List.take_take, Nat.min_eq_left hj]
  have shr : ∀ j oj xj, j ≠ id → h j = some oj → β j = some xj → xj.1 = b → ∃ cj lj hj aj, oj = .cells cj true lj hj aj ∧ j ∈ anc ∧ xj = (b, base, tot) ∧ cj.length ≤ cs.length := by
    intro j oj xj hne hj bj hbb
    have := R.sep id j _ _ _ _ (fun h => hne h.symm) hid hj hb bj hbb.symm
    cases oj <;> simp [Share] at this
    rename_i cj rj lj hij aj
    obtain ⟨rfl, h2, h3, h4⟩ := this
    exact ⟨cj, lj, hij, aj, rfl, h2, h3.symm, h4⟩
  have hge := R.ge hid hb (by simp)
  have hgn := new_ge R.g0 hnx
  refine ⟨w', r1, ⟨R.g0.mono hle, ?_, ?_, ?_⟩, ?_⟩
  · intro q p y hq hy
    by_cases e : q = nx
    · subst e
      simp only [upd, if_true, Option.some.injEq] at hq
      rw [bset_same] at hy
      simp only [Option.some.injEq] at hy
      subst hq; subst hy
      refine ⟨c', ty, fr, r3, (by show c'.size = base + tot; omega), ⟨k + vs'.length, (by show k + vs'.length ≤ tot; omega), ?_⟩, fun i a1 a2 a3 => (by omega), fun _ => hfr⟩
      have p2 : (c'.toList.drop base).take (k + vs'.length) = (c.toList.drop base).take k ++ vs' := by
        rw [r4, p1, List.take_append_of_le_length (by rw [List.length_append, List.length_take, List.length_drop]; omega), List.take_of_length_le (by rw [List.length_append, List.length_take, List.length_drop]; omega), hkl]
      show VRs _ (cs ++ vs) ((c'.toList.drop base).take (k + vs'.length))
      rw [p2]
      exact (q4.append hv).mono hle
    · rw [bset_ne e] at hy
      by_cases ei : q = id
      · subst ei
        simp only [upd, e, if_false, if_true, Option.some.injEq] at hq
        rw [hb] at hy
        simp only [Option.some.injEq] at hy
        subst hq; subst hy
        refine ⟨c', ty, fr, r3, (by show c'.size = base + tot; omega), ⟨k, q3, ?_⟩, fun i a1 a2 a3 => (by omega), fun _ => hfr⟩
        show VRs _ cs ((c'.toList.drop base).take k)
        rw [pre k (by omega)]
        exact q4.mono hle
      · simp only [upd, e, ei, if_false] at hq
        have ob := R.obj q p y hq hy
        by_cases hbb : y.1 = b
        · obtain ⟨cj, lj, hj, aj, rfl, _, rfl, hlen⟩ := shr q p y ei hq hy hbb
          obtain ⟨c2, ty2, fr2, s1, s2, ⟨k2, s3, s4⟩, s5, s6⟩ := ob
          simp only at s1 s2 s3 s4
          rw [q1] at s1
          simp only [Option.some.injEq, Obj.cells.injEq] at s1
          obtain ⟨rfl, rfl, rfl⟩ := s1
          have hk2 : k2 = cj.length := by rw [s4.length, List.length_take, List.length_drop]; omega
          refine ⟨c', ty, fr, r3, (by show c'.size = base + tot; omega), ⟨k2, s3, ?_⟩, fun i a1 a2 a3 => (by omega), fun _ => hfr⟩
          show VRs _ cj ((c'.toList.drop base).take k2)
          rw [pre k2 (by omega)]
          exact s4.mono hle
        · exact (ob.mono hle).heap (r5 _ hbb)
  · have R2 := (rd_rel R hid).sep
    have nxs : ∀ j oj xj, j ≠ nx → upd (upd h id (some (.cells cs true lo hi anc))) nx (some (.cells (cs ++ vs) false 0 0 (id :: anc))) j = some oj → bset β nx (b, base, tot) j = some xj → xj.1 = b →
        ∃ cj lj hj aj, oj = .cells cj true lj hj aj ∧ j ∈ id :: anc ∧ xj = (b, base, tot) ∧ cj.length ≤ (cs ++ vs).length := by
      intro j oj xj hne hj bj hbb
      rw [bset_ne hne] at bj
      by_cases ei : j = id
      · subst ei
        simp only [upd, hne, if_false, if_true, Option.some.injEq] at hj
        rw [hb] at bj
        simp only [Option.some.injEq] at bj
        exact ⟨cs, lo, hi, anc, hj.symm, by simp, bj.symm, by simp⟩
      · simp only [upd, hne, ei, if_false] at hj
        obtain ⟨cj, lj, hj', aj, h1, h2, h3, h4⟩ := shr j oj xj ei hj bj hbb
        exact ⟨cj, lj, hj', aj, h1, by simp [h2], h3, by simp; omega⟩
    intro i j oi oj xi xj hne hhi hj bi bj hbb
    by_cases ei : i = nx
    · subst ei
      have ej : j ≠ i := fun h => hne h.symm
      simp only [upd, if_true, Option.some.injEq] at hhi
      rw [bset_same] at bi
      simp only [Option.some.injEq] at bi
      subst hhi; subst bi
      obtain ⟨cj, lj, hj', aj, rfl, h2, rfl, h4⟩ := nxs j oj xj ej hj bj hbb.symm
      exact .inr (.inr ⟨rfl, h2, rfl, h4⟩)
    · by_cases ej : j = nx
      · subst ej
        simp only [upd, if_true, Option.some.injEq] at hj
        rw [bset_same] at bj
        simp only [Option.some.injEq] at bj
        subst hj; subst bj
        obtain ⟨cj, lj, hj', aj, rfl, h2, rfl, h4⟩ := nxs i oi xi ei hhi bi hbb
        exact .inr (.inl ⟨rfl, h2, rfl, h4⟩)
      · rw [bset_ne ei] at bi
        rw [bset_ne ej] at bj
        have e1 : upd (upd h id (some (.cells cs true lo hi anc))) nx (some (.cells (cs ++ vs) false 0 0 (id :: anc))) i = upd h id (some (.cells cs true lo hi anc)) i := by simp [upd, ei]
        have e2 : upd (upd h id (some (.cells cs true lo hi anc))) nx (some (.cells (cs ++ vs) false 0 0 (id :: anc))) j = upd h id (some (.cells cs true lo hi anc)) j := by simp [upd, ej]
        rw [e1] at hhi
        rw [e2] at hj
        exact R2 i j oi oj xi xj hne hhi hj bi bj hbb
  · intro i p y hlt hq bi
    have e1 : i ≠ nx := by intro h; subst h; omega
    have e2 : i ≠ id := by intro h; subst h; omega
    rw [bset_ne e1] at bi
    simp only [upd, e1, e2, if_false] at hq
    obtain ⟨g1, g2⟩ := R.glob i p y hlt hq bi
    refine ⟨g1, fun j oj xj hne hj bj => ?_⟩
    by_cases ej : j = nx
    · subst ej
      rw [bset_same] at bj
      simp only [Option.some.injEq] at bj
      subst bj
      exact g2 id _ (b, base, tot) (fun h => e2 h.symm) hid hb
    · rw [bset_ne ej] at bj
      by_cases ek : j = id
      · subst ek; exact g2 j _ xj hne hid bj
      · simp only [upd, ej, ek, if_false] at hj; exact g2 j oj xj hne hj bj
  · refine ⟨by rw [Pos.toNat_succ]; omega, ?_, by omega, ?_, ?_, r6, r7, r8, ?_⟩
    · intro q hq
      refine bset_ne fun e => hq ?_
      subst e; rw [Pos.toNat_succ]; omega
    · intro b' _ hc
      exact r5 b' fun e => hc ⟨id, _, _, hge, hid, hb, e.symm⟩
    · intro b' _ ⟨q, p, x, hgq, hq, hx, hxb⟩
      by_cases e : q = nx
      · subst e
        rw [bset_same] at hx
        simp only [Option.some.injEq] at hx
        subst hx
        exact ⟨id, _, _, hge, hid, hb, hxb⟩
      · rw [bset_ne e] at hx
        by_cases ei : q = id
        · subst ei; exact ⟨q, _, x, hgq, hid, hx, hxb⟩
        · simp only [upd, e, ei, if_false] at hq; exact ⟨q, p, x, hgq, hq, hx, hxb⟩
    · intro q p hlt hq
      have e : q ≠ nx := by intro h; subst h; omega
      have ei : q ≠ id := by intro h; subst h; omega
      simp only [upd, e, ei, if_false] at hq
      exact ⟨p, hq⟩

theorem zeroT_info {t : TypeId} {z : AV} {i : TypeInfo} (hi : tinf P t = some i) (hz : zeroT P t = some z) : ∃ z', i.zero = some z' ∧ ofVal 4 z' = some z := by
  unfold zeroT at hz
  rw [hi] at hz
  simp only [Option.bind_some, Option.bind_eq_some_iff] at hz
  exact hz

theorem append_spec {s x : Operand} {st xt et : TypeId} {xd : TypeDesc} {i : TypeInfo} {ats : Array TypeId} {z : AV} {σ : Heap} {nx : Pos} (hat : ats.toList = [st, xt]) (hu : und P st = some (.slice et)) (hx : und P xt = some xd)
    (hxd : (∃ e, xd = .slice e) ∨ xd = .string) (hi : tinf P et = some i) (hzv : zeroT P et = some z) (h0 : rowOk i z = true) {c : AV → Heap → Pos → Prop}
    (h : (get (xo m s)).run l e fun sv => (get (xo m x)).run l e fun xv => appendK i.size i.bytes sv xv σ nx c) :
    ∃ v σ' nx', c v σ' nx' ∧ EffAt mk nt P m l e ⟨dst, .call ⟨.builtin .append, #[s, x], ats⟩, ty, pos, aft, gd⟩ σ nx v σ' nx' := by
  obtain ⟨hs, hb, hzl⟩ := rowOk_spec h0
  obtain ⟨z', hz1, hz2⟩ := zeroT_info hi hzv
  have hzs : z'.cells.size = i.size := by rw [← zero_size hz2, hzl]
  obtain ⟨sv, g1, hsv⟩ := get_spec m l e s h
  obtain ⟨xv, g2, hxv⟩ := get_spec m l e x g1
  obtain ⟨n, new, g3, hnl, hsrc⟩ := src_spec (mk := mk) (nt := nt) (P := P) g2
  -- the run of the operation
  have lift : ∀ (a : Act) (w w' : World) (sv' v' : Value), a.eval s = sv' → (Builtin.append_ ats ty #[sv', a.eval x]).run P w = .ok v' w' →
      Gives P (execOp a.eval ⟨dst, .call ⟨.builtin .append, #[s, x], ats⟩, ty, pos, aft, gd⟩) w v' w' := by
    intro a w w' sv' v' he hr
    refine .inl ?_
    subst he
    simp [execOp, resolve, invoke, builtin, hr]
  -- growth
  have grow : ∀ (β : Be) (a : Act) (w : World) (h1 : HO) (anc : List Pos) (base : Option Addr) (len cap : Nat) (olds : Array Value) (old : List AV), Rel mk nt β h1 w → (∀ b, Cov β h1 b → Cov β (hof σ) b) → (∀ id o, Pos.toNat id < 1000 → h1 id = some o → ∃ o', hof σ id = some o') → β nx = none →
      OpdsR β m l e a (Op.call ⟨.builtin .append, #[s, x], ats⟩) → Rel mk nt β (hof σ) w → a.eval s = .slice base len cap → (Builtin.firstCells i.size len (.slice base len cap)).run P w.drew = .ok olds w.drew → VRs β old olds.toList → old.length = len * i.size →
      cap < len + n → (len + n) * i.bytes < 1073741824 →
      ∃ β' w' v', Gives P (execOp a.eval ⟨dst, .call ⟨.builtin .append, #[s, x], ats⟩, ty, pos, aft, gd⟩) w v' w' ∧ VR β' (.slice nx 0 (len + n) none i.size) v' ∧
        Rel mk nt β' (upd h1 nx (some (.cells (old ++ new) false 0 0 anc))) w' ∧ Fr β (hof σ) w nx β' (upd h1 nx (some (.cells (old ++ new) false 0 0 anc))) w' nx.succ := by
    intro β a w h1 anc base len cap olds old R1 hcov hglo hnx ho R he hold hov hol hlt hbd
    obtain ⟨hlen, hcells⟩ := hsrc β w (a.eval x) R (hxv β a R.g0 (ho x (by simp [Op.operands, Call.operands])))
    obtain ⟨arr, ha1, ha2⟩ := hcells n (Nat.le_refl _)
    rw [← hnl, List.take_length] at ha2
    obtain ⟨cap', hc1, hc2⟩ := run_append_grow' (ty := ty) hat hu hx hxd hi hz1 hlen (ha1 (w.drawn + 1)) hold hlt hb hbd
    let cells : Array Value := olds ++ arr ++ Builtin.zeroCells z'.cells (cap' - (len + n))
    have hl1 := hov.length
    have hl2 := ha2.length
    have hcs : cells.size = cap' * i.size := by
      simp only [cells, Array.size_append, size_zeroCells, hzs]
      have e1 : olds.size = len * i.size := by rw [← hol, hl1]; simp
      have e2 : arr.size = n * i.size := by rw [← hnl, hl2]; simp
      rw [e1, e2, ← Nat.add_mul, ← Nat.add_mul]
      congr 1; omega
    have hle := bset_le (x := (w.heap.size, 0, cap' * i.size)) hnx
    have G := drew_grown w (.cells cells et)
    have hob : ObjR mk nt (bset β nx (w.heap.size, 0, cap' * i.size)) (w.drew.alloc (.cells cells et)).heap w.heap.size 0 (cap' * i.size) (.cells (old ++ new) false 0 0 anc) := by
      rw [← hcs]
      refine row_at (n := (olds ++ arr).size) ?_ (by simp only [cells, Array.size_append]; omega)
      have : cells.toList.take (olds ++ arr).size = olds.toList ++ arr.toList := by
        simp only [cells, Array.toList_append]
        rw [List.take_append_of_le_length (by simp), List.take_of_length_le (by simp)]
      rw [this]
      exact ((hov.append ha2).mono (by rw [hcs]; exact hle))
    refine ⟨bset β nx (w.heap.size, 0, cap' * i.size), _, _, lift a w _ _ _ he hc2, .slice nx 0 (len + n) none i.size w.heap.size 0 (cap' * i.size) cap' bset_same hc1 (by simp) (by simp), grown_rel R1 G hnx hob, ?_⟩
    have F := grown_fr (β := β) (h := h1) G (id := nx) (new_ge R.g0 hnx) (tot := cap' * i.size) (o := .cells (old ++ new) false 0 0 anc)
    exact ⟨F.le, F.out, F.size, fun b hb _ => G.keep b hb, fun b hb hc => hcov b (F.cov b hb hc), F.os, F.tape, F.output, fun id o hlt h => (let ⟨o1, k1⟩ := F.gl id o hlt h; hglo id o1 hlt k1)⟩
  -- with no growth
  have inpl : ∀ (β : Be) (a : Act) (w w' : World) (base : Option Addr) (len cap : Nat) (arr : Array Value), OpdsR β m l e a (Op.call ⟨.builtin .append, #[s, x], ats⟩) → Rel mk nt β (hof σ) w → a.eval s = .slice base len cap →
      (Builtin.firstCells i.size n (a.eval x)).run P w = .ok arr w → len + n ≤ cap → (∀ ad, base = some ad → (storeCells (ad.add (len * i.size)) arr.toList).run P w = .ok () w') → (base = none → w' = w) →
      Gives P (execOp a.eval ⟨dst, .call ⟨.builtin .append, #[s, x], ats⟩, ty, pos, aft, gd⟩) w (.slice base (len + n) cap) w' := by
    intro β a w w' base len cap arr ho R he hf hle hst hno
    obtain ⟨hlen, _⟩ := hsrc β w (a.eval x) R (hxv β a R.g0 (ho x (by simp [Op.operands, Call.operands])))
    exact lift a w w' _ _ he (run_append_in (ty := ty) hat hu hx hxd hi (hlen w) hf hle hst hno)
  have first : ∀ (β : Be) (a : Act) (w : World), OpdsR β m l e a (Op.call ⟨.builtin .append, #[s, x], ats⟩) → Rel mk nt β (hof σ) w → ∃ arr : Array Value, (Builtin.firstCells i.size n (a.eval x)).run P w = .ok arr w ∧ VRs β new arr.toList := by
    intro β a w ho R
    obtain ⟨_, hcells⟩ := hsrc β w (a.eval x) R (hxv β a R.g0 (ho x (by simp [Op.operands, Call.operands])))
    obtain ⟨arr, ha1, ha2⟩ := hcells n (Nat.le_refl _)
    rw [← hnl, List.take_length] at ha2
    exact ⟨arr, ha1 w.drawn, ha2⟩
  have addr : ∀ (b o k : Nat), ({ block := b, off := o } : Addr).add k = ⟨b, o + k, none⟩ := by
    intro b o k; unfold Addr.add; split <;> simp_all
  have free : ∀ β : Be, Free β nx nx.succ → β nx = none := fun β hf => hf nx (Nat.le_refl _) (by rw [Pos.toNat_succ]; omega)
  have svr : ∀ β a, G0 β → OpdsR β m l e a (Op.call ⟨.builtin .append, #[s, x], ats⟩) → VR β sv (a.eval s) := fun β a hG ho => hsv β a hG (ho s (by simp [Op.operands, Call.operands]))
  cases sv <;> (try exact g3.elim)
  case nilslice =>
    have g4 : ite' (Nat.beq n 0) (c .nilslice σ nx) (ite' (Nat.blt (n * i.bytes) 1073741824) (growNew i.size n new [] σ nx c) False) := g3
    rw [ite'_eq, beq_dec] at g4
    by_cases hn : n = 0
    · simp only [hn, decide_true, if_true] at g4
      refine ⟨_, σ, nx, g4, Nat.le_refl _, fun β a w R hf ho => ?_⟩
      have he := (svr β a R.g0 ho).nilslice_inv
      obtain ⟨arr, ha1, _⟩ := first β a w ho R
      refine ⟨β, w, _, inpl β a w w none 0 0 arr ho R he ha1 (by omega) (fun _ h => by cases h) (fun _ => rfl), ?_, R, Fr.refl _ _ _ _⟩
      rw [hn]; exact .nilslice
    · simp only [hn, decide_false, Bool.false_eq_true, if_false] at g4
      obtain ⟨hbd, g5⟩ := ite'_true g4
      rw [blt_iff, decide_eq_true_eq] at hbd
      obtain ⟨σ', g6, g7⟩ := set_spec g5
      refine ⟨_, σ', _, g6, by rw [Pos.toNat_succ]; omega, fun β a w R hf ho => ?_⟩
      have he := (svr β a R.g0 ho).nilslice_inv
      obtain ⟨β', w', v', k1, k2, k3, k4⟩ := grow β a w (hof σ) [] none 0 0 #[] [] R (fun _ h => h) (fun _ o _ h => ⟨o, h⟩) (free β hf) ho R he (run_firstCells_none w.drew i.size 0 0 0) .nil (by simp) (by omega) (by simpa using hbd)
      rw [g7]
      simp only [Nat.zero_add, List.nil_append] at k2 k3 k4
      exact ⟨β', w', v', k1, k2, k3, k4⟩
  case slice id off len cap es' =>
    obtain ⟨hes, g5⟩ := ite'_true (show ite' (Nat.beq i.size es') _ False from g3)
    clear g3
    rw [beq_dec, decide_eq_true_eq] at hes
    subst hes
    rw [ite'_eq, beq_dec] at g5
    by_cases hn : n = 0
    · simp only [hn, decide_true, if_true] at g5
      refine ⟨_, σ, nx, g5, Nat.le_refl _, fun β a w R hf ho => ?_⟩
      have hv := svr β a R.g0 ho
      obtain ⟨arr, ha1, ha2⟩ := first β a w ho R
      have hae : arr.toList = [] := by
        have := ha2.length
        rw [hnl, hn] at this
        simpa using this.symm
      have hst : ∀ (ad : Addr), (storeCells (ad.add (len * i.size)) arr.toList).run P w = .ok () w := by intro ad; rw [hae]; rfl
      rcases hv.slice_inv with ⟨b, base, tot, cc, he, hb', hle, q1, q2⟩ | ⟨ad, had, he, rfl, q1⟩
      · refine ⟨β, w, _, inpl β a w w _ len cc arr ho R he ha1 (by omega) (fun ad _ => hst ad) (fun _ => rfl), ?_, R, Fr.refl _ _ _ _⟩
        rw [hn, Nat.add_zero, ← he]; exact hv
      · refine ⟨β, w, _, inpl β a w w _ 0 0 arr ho R he ha1 (by omega) (fun ad _ => hst ad) (fun _ => rfl), ?_, R, Fr.refl _ _ _ _⟩
        rw [hn, Nat.add_zero, ← he]; exact hv
    · simp only [hn, decide_false, Bool.false_eq_true, if_false, forceNat_eq] at g5
      obtain ⟨hbd, g6⟩ := ite'_true g5
      rw [blt_iff, decide_eq_true_eq] at hbd
      cases cap with
      | some cp =>
        simp only at g6
        rw [ite'_eq, ble_iff] at g6
        by_cases hcp : len + n ≤ cp
        · simp only [hcp, decide_true, if_true] at g6
          obtain ⟨cs, lo, hi', anc, σ', k1, k2, k3, k4, k5, k6⟩ := writeCells_spec g6
          refine ⟨_, σ', nx, k5, Nat.le_refl _, fun β a w R hf ho => ?_⟩
          obtain ⟨arr, ha1, ha2⟩ := first β a w ho R
          rcases (svr β a R.g0 ho).slice_inv with ⟨b, base, tot, cc, he, hb', hle, q1, q2⟩ | ⟨ad, had, he, rfl, q1⟩
          · have hcc := q2 cp rfl
            subst hcc
            obtain ⟨w', r1, r2, r3, r4, r5, r6, r7⟩ := write_rel (P := P) R k1 hb' k2 k3 k4 ha2
            refine ⟨β, w', _, inpl β a w w' _ len cc arr ho R he ha1 hcp (fun ad h => ?_) (fun h => by cases h), .slice id off (len + n) (some cc) i.size b base tot cc hb' hcp (by simp) (by simp), by rw [k6]; exact r2, by rw [k6]; exact write_fr k1 hb' (R.ge k1 hb' (by simp)) r3 r4 r5 r6 r7⟩
            simp only [Option.some.injEq] at h
            subst h
            rw [addr, Nat.add_assoc]
            exact r1
          · rcases q1 with ⟨h, _⟩ | h
            · cases h
            · simp only [Option.some.injEq] at h; omega
        · simp only [hcp, decide_false, Bool.false_eq_true, if_false] at g6
          obtain ⟨cs, rd, lo, hi', anc, k1, k2, k3⟩ := readCells_spec g6
          rw [catK_eq] at k3
          obtain ⟨σ', k4, k5⟩ := set_spec k3
          refine ⟨_, σ', _, k4, by rw [Pos.toNat_succ]; omega, fun β a w R hf ho => ?_⟩
          rcases (svr β a R.g0 ho).slice_inv with ⟨b, base, tot, cc, he, hb', hle, q1, q2⟩ | ⟨ad, had, he, rfl, q1⟩
          · have hcc := q2 cp rfl
            subst hcc
            obtain ⟨l', z1, z2, _, z4⟩ := cells_read (R.obj id _ _ k1 hb') k2
            have hfc : (Builtin.firstCells i.size len (.slice (some ⟨b, base + off, none⟩) len cc)).run P w.drew = .ok l'.toArray w.drew :=
              run_firstCells_some w.drew i.size len _ len cc l' z2 (fun j v hj => z4 j v hj)
            obtain ⟨β', w', v', y1, y2, y3, y4⟩ := grow β a w (hof σ) [] _ len cc l'.toArray _ R (fun _ h => h) (fun _ o _ h => ⟨o, h⟩) (free β hf) ho R he hfc (by simpa using z1) (by simp; omega) (by omega) hbd
            rw [k5]
            exact ⟨β', w', v', y1, y2, y3, y4⟩
          · have hfc : (Builtin.firstCells i.size 0 (.slice (some ad) 0 0)).run P w.drew = .ok #[] w.drew := by simp [Builtin.firstCells, loadCells, loadCellsFrom]
            obtain ⟨β', w', v', y1, y2, y3, y4⟩ := grow β a w (hof σ) [] _ 0 0 #[] [] R (fun _ h => h) (fun _ o _ h => ⟨o, h⟩) (free β hf) ho R he hfc .nil (by simp) (by omega) hbd
            rw [k5]
            simp only [Nat.zero_mul, List.take_zero] at y3 y4 ⊢
            exact ⟨β', w', v', y1, y2, y3, y4⟩
      | none =>
        simp only at g6
        obtain ⟨o, ho', g7⟩ := withObj_spec g6
        rcases o with ⟨cs, rd, lo, hi', anc⟩ | _ | _ | _ | _ | _ <;> (try exact g7.elim)
        unfold appTip at g7
        dsimp only at g7
        rw [ite'_eq] at g7
        by_cases hq : (rd || Nat.blt lo hi') = true
        · simp only [hq, if_true] at g7
        · simp only [hq, forceNat_eq, lenK_eq] at g7
          simp only [Bool.or_eq_true, not_or, Bool.not_eq_true, blt_iff, decide_eq_false_iff_not] at hq
          obtain ⟨rfl, hlo⟩ := hq
          rw [ite'_eq, ble_iff] at g7
          have bound : ∀ {β : Be} {w : World} {x : Nat × Nat × Nat}, Rel mk nt β (hof σ) w → β id = some x → cs.length ≤ x.2.2 := by
            intro β w x R hx
            obtain ⟨c0, ty0, fr0, _, s2, ⟨k, s3, s4⟩, _⟩ := R.obj id _ _ ho' hx
            have := s4.length
            rw [List.length_take] at this
            omega
          by_cases hin : off + (len + n) * i.size ≤ cs.length
          · simp only [hin, decide_true, if_true] at g7
            have g8 : writeCells σ id (off + len * i.size) new fun σ => c (.slice id off (len + n) none i.size) σ nx := by
              unfold writeCells withObj
              rw [ho']; exact g7
            obtain ⟨cs2, lo2, hi2, anc2, σ', k1, k2, k3, k4, k5, k6⟩ := writeCells_spec g8
            refine ⟨_, σ', nx, k5, Nat.le_refl _, fun β a w R hf ho => ?_⟩
            obtain ⟨arr, ha1, ha2⟩ := first β a w ho R
            rcases (svr β a R.g0 ho).slice_inv with ⟨b, base, tot, cc, he, hb', hle, q1, q2⟩ | ⟨ad, had, he, rfl, q1⟩
            · have hbnd := bound R hb'
              simp only at hbnd
              have hq1 := q1 rfl
              have hle2 : len + n ≤ cc := by
                have : (len + n) * i.size ≤ cc * i.size := by omega
                exact Nat.le_of_mul_le_mul_right this hs
              obtain ⟨w', r1, r2, r3, r4, r5, r6, r7⟩ := write_rel (P := P) R k1 hb' k2 k3 k4 ha2
              refine ⟨β, w', _, inpl β a w w' _ len cc arr ho R he ha1 hle2 (fun ad h => ?_) (fun h => by cases h), .slice id off (len + n) none i.size b base tot cc hb' hle2 (fun _ => hq1) (by simp), by rw [k6]; exact r2, by rw [k6]; exact write_fr k1 hb' (R.ge k1 hb' (by simp)) r3 r4 r5 r6 r7⟩
              simp only [Option.some.injEq] at h
              subst h
              rw [addr, Nat.add_assoc]
              exact r1
            · rcases q1 with ⟨_, b, base, hb'⟩ | h
              · have hbnd := bound R hb'
                simp only at hbnd
                have : 0 < (0 + n) * i.size := Nat.mul_pos (by omega) hs
                omega
              · cases h
          · simp only [hin, decide_false, Bool.false_eq_true, if_false] at g7
            obtain ⟨ht, g8⟩ := ite'_true g7
            simp only [Bool.and_eq_true, beq_dec, decide_eq_true_eq] at ht
            obtain ⟨ht1, rfl⟩ := ht
            obtain ⟨hones, g9⟩ := onesK_spec g8
            rw [catK_eq] at g9
            obtain ⟨σ1, g10, g11⟩ := set_spec g9
            obtain ⟨σ', g12, g13⟩ := set_spec g10
            rw [g11] at g13
            refine ⟨_, σ', _, g12, by rw [Pos.toNat_succ]; omega, fun β a w R hf ho => ?_⟩
            have hnx := free β hf
            rcases (svr β a R.g0 ho).slice_inv with ⟨b, base, tot, cc, he, hb', hle, q1, q2⟩ | ⟨ad, had, he, rfl, q1⟩
            · have hq1 := q1 rfl
              simp only [Nat.zero_add] at hq1 ht1
              by_cases hcc : len + n ≤ cc
              · obtain ⟨arr, ha1, ha2⟩ := first β a w ho R
                have hroom : cs.length + new.length ≤ tot := by
                  rw [← ht1, hnl, ← Nat.add_mul, ← hq1]
                  exact Nat.mul_le_mul_right _ hcc
                obtain ⟨w', r1, r2, r3⟩ := tip_rel (P := P) R ho' (by omega) hb' hnx ha2 hones hroom
                refine ⟨_, w', _, inpl β a w w' _ len cc arr ho R he ha1 hcc (fun ad h => ?_) (fun h => by cases h), .slice nx 0 (len + n) none i.size b base tot cc bset_same hcc (fun _ => by omega) (by simp), by rw [g13]; exact r2, by rw [g13]; exact r3⟩
                simp only [Option.some.injEq] at h
                subst h
                rw [addr, Nat.add_zero, ht1]
                exact r1
              · obtain ⟨l', z1, z2, _, z4⟩ := cells_read (R.obj id _ _ ho' hb') (off := 0) (n := len * i.size) (by omega)
                have hfc : (Builtin.firstCells i.size len (.slice (some ⟨b, base + 0, none⟩) len cc)).run P w.drew = .ok l'.toArray w.drew :=
                  run_firstCells_some w.drew i.size len _ len cc l' z2 (fun j v hj => z4 j v hj)
                rw [List.drop_zero, ht1, List.take_length] at z1
                obtain ⟨β', w', v', y1, y2, y3, y4⟩ := grow β a w _ (id :: anc) _ len cc l'.toArray cs (rd_rel R ho') (rd_cov ho') (rd_gl ho') hnx ho R he hfc (by simpa using z1) ht1.symm (by omega) hbd
                rw [g13]
                exact ⟨β', w', v', y1, y2, y3, y4⟩
            · rcases q1 with ⟨_, b, base, hb'⟩ | h
              · have hbnd := bound R hb'
                simp only at hbnd
                have hcs : cs = [] := List.length_eq_zero_iff.1 (by omega)
                have hfc : (Builtin.firstCells i.size 0 (.slice (some ad) 0 0)).run P w.drew = .ok #[] w.drew := by simp [Builtin.firstCells, loadCells, loadCellsFrom]
                obtain ⟨β', w', v', y1, y2, y3, y4⟩ := grow β a w _ (id :: anc) _ 0 0 #[] [] (rd_rel R ho') (rd_cov ho') (rd_gl ho') hnx ho R he hfc .nil (by simp) (by omega) hbd
                rw [g13]
                subst hcs
                exact ⟨β', w', v', y1, y2, y3, y4⟩
              · cases h
end
end Go.AE
namespace Go.AE
open Go

section
variable {mk nt : FuncId → Nat} {P : Program} {m : Nat} {l : Loc} {e : Env} {dst : Option Tmp} {ty : TypeId} {pos : String} {aft : Array Edge} {gd : Option (Nat × Bool)}

theorem copy_spec {d s : Operand} {t st et : TypeId} {sz : Nat} {ats : Array TypeId} {σ : Heap} {nx : Pos} (hat : ats.toList = [t, st]) (hu : und P t = some (.slice et)) (hz : sizeT P et = some (sz + 1)) {c : AV → Heap → Prop}
    (h : (get (xo m d)).run l e fun dv => (get (xo m s)).run l e fun xv => srcCells σ (sz + 1) xv fun n new => copyK (sz + 1) dv n new σ c) :
    ∃ v σ', c v σ' ∧ EffAt mk nt P m l e ⟨dst, .call ⟨.builtin .copy, #[d, s], ats⟩, ty, pos, aft, gd⟩ σ nx v σ' nx := by
  obtain ⟨dv, g1, hdv⟩ := get_spec m l e d h
  obtain ⟨xv, g2, hxv⟩ := get_spec m l e s g1
  obtain ⟨n, new, g3, hnl, hsrc⟩ := src_spec (mk := mk) (nt := nt) (P := P) g2
  have run : ∀ (a : Act) (w w' : World) (base : Option Addr) (len cap : Nat) (arr : Array Value), a.eval d = .slice base len cap → (Builtin.lenOf (a.eval s)).run P w = .ok n w → (Builtin.firstCells (sz + 1) (Nat.min n len) (a.eval s)).run P w = .ok arr w →
      (∀ ad, base = some ad → (storeCells ad arr.toList).run P w = .ok () w') → (base = none → w' = w) →
      Gives P (execOp a.eval ⟨dst, .call ⟨.builtin .copy, #[d, s], ats⟩, ty, pos, aft, gd⟩) w (.int .i64 (Nat.min n len : Nat)) w' := by
    intro a w w' base len cap arr he hl hf hst hno
    cases two_list hat
    refine .inl ?_
    cases base with
    | none =>
      cases hno rfl
      simp [execOp, resolve, invoke, builtin, Builtin.copy_, he, run_underlying hu, run_sizeOf hz, hl, hf, goInt]
    | some ad =>
      have := hst ad rfl
      simp [execOp, resolve, invoke, builtin, Builtin.copy_, he, run_underlying hu, run_sizeOf hz, hl, hf, this, goInt]
  have cells : ∀ (β : Be) (a : Act) (w : World) (k : Nat), k ≤ n → OpdsR β m l e a (Op.call ⟨.builtin .copy, #[d, s], ats⟩) → Rel mk nt β (hof σ) w →
      (Builtin.lenOf (a.eval s)).run P w = .ok n w ∧ ∃ arr : Array Value, (Builtin.firstCells (sz + 1) k (a.eval s)).run P w = .ok arr w ∧ VRs β (new.take (k * (sz + 1))) arr.toList := by
    intro β a w k hk ho R
    obtain ⟨hlen, hcells⟩ := hsrc β w (a.eval s) R (hxv β a R.g0 (ho s (by simp [Op.operands, Call.operands])))
    obtain ⟨arr, ha1, ha2⟩ := hcells k hk
    exact ⟨hlen w, arr, ha1 w.drawn, ha2⟩
  have dvr : ∀ β a, G0 β → OpdsR β m l e a (Op.call ⟨.builtin .copy, #[d, s], ats⟩) → VR β dv (a.eval d) := fun β a hG ho => hdv β a hG (ho d (by simp [Op.operands, Call.operands]))
  cases dv <;> (try exact g3.elim)
  · refine ⟨_, σ, g3, Nat.le_refl _, fun β a w R hf ho => ?_⟩
    have he := (dvr β a R.g0 ho).nilslice_inv
    obtain ⟨hl, arr, h1, _⟩ := cells β a w 0 (Nat.zero_le _) ho R
    have := run a w w none 0 0 arr he hl (by rw [show Nat.min n 0 = 0 from Nat.min_eq_right (Nat.zero_le _)]; exact h1) (fun _ h => by cases h) (fun _ => rfl)
    rw [show Nat.min n 0 = 0 from Nat.min_eq_right (Nat.zero_le _)] at this
    exact ⟨β, w, _, this, .int _ _, R, Fr.refl _ _ _ _⟩
  · rename_i id off len cap es'
    obtain ⟨hes, g4⟩ := ite'_true (show ite' (Nat.beq (sz + 1) es') _ False from g3)
    clear g3
    rw [beq_dec, decide_eq_true_eq] at hes
    subst hes
    rw [forceNat_eq, ite'_eq, beq_dec] at g4
    by_cases h0 : Nat.min n len = 0
    · simp only [h0, decide_true, if_true] at g4
      refine ⟨_, σ, g4, Nat.le_refl _, fun β a w R hf ho => ?_⟩
      obtain ⟨hl, arr, h1, h2⟩ := cells β a w 0 (Nat.zero_le _) ho R
      have hae : arr.toList = [] := by
        have := h2.length
        simp only [Nat.zero_mul, List.take_zero, List.length_nil] at this
        exact List.length_eq_zero_iff.1 this.symm
      have fin : ∀ base len' cap', a.eval d = .slice base len' cap' → Nat.min n len' = 0 → ∃ β' w' v', Gives P (execOp a.eval ⟨dst, .call ⟨.builtin .copy, #[d, s], ats⟩, ty, pos, aft, gd⟩) w v' w' ∧ VR β' (.int .i64 0) v' ∧ Rel mk nt β' (hof σ) w' ∧ Fr β (hof σ) w nx β' (hof σ) w' nx := by
        intro base len' cap' he h0'
        have := run a w w base len' cap' arr he hl (by rw [h0']; exact h1) (fun _ _ => by rw [hae]; rfl) (fun _ => rfl)
        rw [h0'] at this
        exact ⟨β, w, _, this, .int _ _, R, Fr.refl _ _ _ _⟩
      rcases (dvr β a R.g0 ho).slice_inv with ⟨b, base, tot, cc, he, _⟩ | ⟨ad, had, he, rfl, _⟩
      · exact fin _ _ _ he h0
      · exact fin _ _ _ he h0
    · simp only [h0, decide_false, Bool.false_eq_true, if_false] at g4
      obtain ⟨hle, g5⟩ := takeK_spec _ _ _ g4
      obtain ⟨cs, lo, hi', anc, σ', k1, k2, k3, k4, k5, k6⟩ := writeCells_spec g5
      refine ⟨_, σ', k5, Nat.le_refl _, fun β a w R hf ho => ?_⟩
      obtain ⟨hl, arr, h1, h2⟩ := cells β a w (Nat.min n len) (Nat.min_le_left _ _) ho R
      rcases (dvr β a R.g0 ho).slice_inv with ⟨b, base, tot, cc, he, hb', _⟩ | ⟨ad, had, he, rfl, _⟩
      · obtain ⟨w', r1, r2, r3, r4, r5, r6, r7⟩ := write_rel (P := P) R k1 hb' k2 k3 k4 h2
        refine ⟨β, w', _, run a w w' _ len cc arr he hl h1 (fun ad h => ?_) (fun h => by cases h), .int _ _, by rw [k6]; exact r2, by rw [k6]; exact write_fr k1 hb' (R.ge k1 hb' (by simp)) r3 r4 r5 r6 r7⟩
        simp only [Option.some.injEq] at h
        subst h
        exact r1
      · exact (h0 (Nat.min_eq_right (Nat.zero_le _))).elim
end
end Go.AE
namespace Go.AE
open Go

/-! ## frames -/
/-- the frame below, in another mode -/
def withMode : Option FrameMode → List Frame → List Frame
  | some md, c :: r => { c with mode := md } :: r
  | _, cs => cs

inductive ChR (β : Be) : List (AV × Bool) → List PanicEntry → Prop
  | nil : ChR β [] []
  | cons (v : AV) (v' : Value) (t : Bool) (l : List (AV × Bool)) (l' : List PanicEntry) (h : VR β v v') (hs : ChR β l l') : ChR β ((v, t) :: l) ({ v := v', recovered := t } :: l')
theorem ChR.mono {β β' : Be} (hb : β.le β') : ∀ {l : List (AV × Bool)} {l' : List PanicEntry}, ChR β l l' → ChR β' l l'
  | _, _, .nil => .nil
  | _, _, .cons v v' t l l' h hs => .cons v v' t l l' (h.mono hb) (ChR.mono hb hs)
theorem ChR.append {β : Be} : ∀ {l : List (AV × Bool)} {l' : List PanicEntry}, ChR β l l' → ∀ {r : List (AV × Bool)} {r' : List PanicEntry}, ChR β r r' → ChR β (l ++ r) (l' ++ r')
  | _, _, .nil, _, _, h => h
  | _, _, .cons v v' t l l' h hs, _, _, h2 => .cons v v' t _ _ h (ChR.append hs h2)

def ModeR (β : Be) : Option (List (AV × Bool)) → FrameMode → Prop
  | none, md => md = .returning
  | some ch, md => ∃ ch', md = .panicking ch' ∧ ChR β ch ch'
theorem ModeR.mono {β β' : Be} (hb : β.le β') {m : Option (List (AV × Bool))} {md : FrameMode} (h : ModeR β m md) : ModeR β' m md := by
  cases m with
  | none => exact h
  | some ch => obtain ⟨ch', h1, h2⟩ := h; exact ⟨ch', h1, h2.mono hb⟩

/-- of whom is this frame a deferred call? -/
def UR (β : Be) (u : U) (kind : CallKind) (md : Option FrameMode) (cs0 : List Frame) : Prop :=
  match u with
  | none => kind = .normal ∧ md = none
  | some m => kind = .deferred ∧ cs0 ≠ [] ∧ ∃ x, md = some x ∧ ModeR β m x
theorem UR.mono {β β' : Be} (hb : β.le β') {u : U} {kind : CallKind} {md : Option FrameMode} {cs0 : List Frame} (h : UR β u kind md cs0) : UR β' u kind md cs0 := by
  cases u with
  | none => exact h
  | some m => obtain ⟨h1, h2, x, h3, h4⟩ := h; exact ⟨h1, h2, x, h3, h4.mono hb⟩

inductive DfR (β : Be) : List DF → List Deferred → Prop
  | nil : DfR β [] []
  | call (f : FuncId) (x c args : List AV) (x' c' args' : List Value) (l : List DF) (l' : List Deferred) (hx : VRs β x x') (hc : VRs β c c') (ha : VRs β args args') (hs : DfR β l l') :
      DfR β (.call (.func (.func f) x c) args :: l) ({ target := .fn (.func f) ⟨c'⟩, args := ⟨x' ++ args'⟩ } :: l')
  | coll (id : Pos) (r : Nat) (y : Nat × Nat) (l : List DF) (l' : List Deferred) (h : β id = some (r, y)) (hs : DfR β l l') : DfR β (.coll id :: l) ({ target := .collected r, args := #[] } :: l')
theorem DfR.mono {β β' : Be} (hb : β.le β') : ∀ {l : List DF} {l' : List Deferred}, DfR β l l' → DfR β' l l'
  | _, _, .nil => .nil
  | _, _, .call f x c args x' c' args' l l' hx hc ha hs => .call f x c args x' c' args' l l' (hx.mono hb) (hc.mono hb) (ha.mono hb) (DfR.mono hb hs)
  | _, _, .coll id r y l l' h hs => .coll id r y l l' (hb _ _ h) (DfR.mono hb hs)

def RndR (β : Be) : Option Pos → Option Nat → Prop
  | none, r => r = none
  | some l, r => ∃ b x, r = some b ∧ β l = some (b, x)
theorem RndR.mono {β β' : Be} (hb : β.le β') {l : Option Pos} {r : Option Nat} (h : RndR β l r) : RndR β' l r := by
  cases l with
  | none => exact h
  | some l => obtain ⟨b, x, h1, h2⟩ := h; exact ⟨b, x, h1, hb _ _ h2⟩

/-! ## temporaries -/
theorem put_spec {m : Nat} {d : Option Tmp} {v : AV} {l : Loc} {e : Env} {c : Loc → Env → Prop} (h : (put (dst m d)).run v l e c) :
    ∃ l' e', c l' e' ∧ ∀ (β : Be) (a : Act) (v' : Value), EnvR β m l e a.tmps → VR β v v' → (∀ t, d = some t → t < a.tmps.size) → EnvR β m l' e' (a.put d v').tmps := by
  cases d with
  | none => exact ⟨l, e, h, fun β a v' he _ _ => he⟩
  | some t =>
    simp only [dst] at h
    by_cases hb : bit m t = true
    · rw [hb] at h
      obtain ⟨e', h1, h2⟩ := T.set_spec _ _ _ _ h
      refine ⟨l, e', h1, fun β a v' he hv hd => ?_⟩
      have hlt := hd t rfl
      intro t' x hx
      simp only [Act.put]
      unfold look at hx
      by_cases ht : t' = t
      · subst ht
        rw [if_pos hb, h2, if_pos rfl] at hx
        simp only [Option.some.injEq] at hx
        subst hx
        exact ⟨v', by simp [hlt], hv⟩
      · have hne : ¬ Pos.ofNat t' = Pos.ofNat t := fun h => ht (Pos.ofNat_inj h)
        have hx' : look m l e t' = some x := by
          unfold look
          by_cases hb' : bit m t' = true
          · rw [if_pos hb'] at hx ⊢; rw [h2, if_neg hne] at hx; exact hx
          · rw [if_neg hb'] at hx ⊢; exact hx
        obtain ⟨x', q1, q2⟩ := he t' x hx'
        refine ⟨x', ?_, q2⟩
        rw [Array.getElem?_setIfInBounds, if_neg (fun h => ht h.symm)]
        exact q1
    · have hb' : bit m t = false := by simpa using hb
      rw [hb'] at h
      refine ⟨.cons t v l, e, h, fun β a v' he hv hd => ?_⟩
      have hlt := hd t rfl
      intro t' x hx
      simp only [Act.put]
      unfold look at hx
      by_cases ht : t' = t
      · subst ht
        rw [if_neg hb] at hx
        simp only [Loc.get, if_true, Option.some.injEq] at hx
        subst hx
        exact ⟨v', by simp [hlt], hv⟩
      · have hx' : look m l e t' = some x := by
          unfold look
          by_cases hb' : bit m t' = true
          · rw [if_pos hb'] at hx ⊢; exact hx
          · rw [if_neg hb'] at hx ⊢; simpa [Loc.get, ht] using hx
        obtain ⟨x', q1, q2⟩ := he t' x hx'
        refine ⟨x', ?_, q2⟩
        rw [Array.getElem?_setIfInBounds, if_neg (fun h => ht h.symm)]
        exact q1
theorem put_defers (a : Act) (d : Option Tmp) (v : Value) : (a.put d v).defers = a.defers := by cases d <;> rfl
theorem put_size (a : Act) (d : Option Tmp) (v : Value) : (a.put d v).tmps.size = a.tmps.size := by cases d <;> simp [Act.put]

/-- operands, from the whole of the temporaries -/
theorem EnvR.opds {β : Be} {m : Nat} {l : Loc} {e : Env} {a : Act} (h : EnvR β m l e a.tmps) (o : Op) : OpdsR β m l e a o := by
  intro x _ t v hx hv
  subst hx
  exact h t v hv
theorem EnvR.opd {β : Be} {m : Nat} {l : Loc} {e : Env} {a : Act} (h : EnvR β m l e a.tmps) (x : Operand) : OpdR β m l e a x := by
  intro t v hx hv
  subst hx
  exact h t v hv

/-! ## the state of a frame -/
structure St where
  l : Loc
  e : Env
  dfs : List DF
  u : U
  σ : Heap
  nx : Pos

/-- the machine's frame stands as the evaluator's -/
structure StR (P : Program) (fi : FI) (s : St) (β : Be) (b : Frame) (a : Act) (md : Option FrameMode) (cs0 : List Frame) (w : World) : Prop where
  fn : b.fn = fi.fid
  rnd : RndR β fi.rnd b.roundOf
  u : UR β s.u b.kind md cs0
  env : EnvR β (maskOf P fi.fid) s.l s.e a.tmps
  size : a.tmps.size = ntmpsOf P fi.fid
  dfs : DfR β s.dfs a.defers
  rel : Rel (maskOf P) (ntmpsOf P) β (hof s.σ) w

/-- from one state to another, over steps of the machine -/
def Goes (P : Program) (fi : FI) (s s' : St) (T T' : List Item) : Prop :=
  s.nx.toNat ≤ s'.nx.toNat ∧ ∀ β b a md cs0 w, StR P fi s β b a md cs0 w → Free β s.nx s'.nx →
    ∃ β' a' md' w', Steps P (lone (b.atR a T) (withMode md cs0) w) (lone (b.atR a' T') (withMode md' cs0) w') ∧ StR P fi s' β' b a' md' cs0 w' ∧ Fr β (hof s.σ) w s.nx β' (hof s'.σ) w' s'.nx

theorem Goes.refl (P : Program) (fi : FI) (s : St) (T : List Item) : Goes P fi s s T T :=
  ⟨Nat.le_refl _, fun β _ a md _ w h _ => ⟨β, a, md, w, Steps.refl _ _, h, Fr.refl _ _ _ _⟩⟩
theorem Goes.trans {P : Program} {fi : FI} {s s1 s2 : St} {T T1 T2 : List Item} (h : Goes P fi s s1 T T1) (h' : Goes P fi s1 s2 T1 T2) : Goes P fi s s2 T T2 := by
  refine ⟨Nat.le_trans h.1 h'.1, fun β b a md cs0 w hs hf => ?_⟩
  obtain ⟨β1, a1, md1, w1, q1, q2, q3⟩ := h.2 β b a md cs0 w hs (hf.left h'.1)
  obtain ⟨β2, a2, md2, w2, r1, r2, r3⟩ := h'.2 β1 b a1 md1 cs0 w1 q2 (hf.right q3)
  exact ⟨β2, a2, md2, w2, q1.trans r1, r2, q3.trans r3⟩
end Go.AE
