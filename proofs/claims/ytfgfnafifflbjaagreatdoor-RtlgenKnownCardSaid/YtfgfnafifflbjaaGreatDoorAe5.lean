/-
  A part of the proof that the evaluator is sound: what it finds, the machine does, whatever the tape; conditions as each theorem names them.
-/
import Derived.AtR
import Derived.Test.YtfgfnafifflbjaaGreatDoorAe4
namespace Go.AE
open Go

section
variable {mk nt : FuncId → Nat} {P : Program} {m : Nat} {l : Loc} {e : Env} {dst : Option Tmp} {ty : TypeId} {pos : String} {aft : Array Edge} {gd : Option (Nat × Bool)}

theorem rd_rel {β : Be} {h : HO} {w : World} (R : Rel mk nt β h w) {id : Pos} {cs : List AV} {rd : Bool} {lo hi : Nat} {anc : List Pos} (hid : h id = some (.cells cs rd lo hi anc)) :
    Rel mk nt β (upd h id (some (.cells cs true lo hi anc))) w := by
  refine ⟨R.g0, ?_, ?_⟩
  · intro q p y hq hy
    by_cases e : q = id
    · subst e
      simp only [upd, if_true, Option.some.injEq] at hq
      subst hq; exact (R.obj q _ y hid hy : ObjR mk nt β w.heap y.1 y.2.1 y.2.2 (.cells cs rd lo hi anc))
    · simp only [upd, e, if_false] at hq; exact R.obj q p y hq hy
  · intro i j oi oj xi xj hne hhi hj bi bj hbb
    by_cases ei : i = id
    · subst ei
      have ej : j ≠ i := fun h => hne h.symm
      simp only [upd, ej, if_false] at hj
      simp only [upd, if_true, Option.some.injEq] at hhi
      have := R.sep i j _ _ _ _ hne hid hj bi bj hbb
      subst hhi
      cases oj <;> simp [Share] at this ⊢
      rcases this with h | h | h
      · exact .inl h.2
      · exact .inr (.inl h.2)
      · exact .inl h.1
    · by_cases ej : j = id
      · subst ej
        simp only [upd, ei, if_false] at hhi
        simp only [upd, if_true, Option.some.injEq] at hj
        have := R.sep i j _ _ _ _ hne hhi hid bi bj hbb
        subst hj
        cases oi <;> simp [Share] at this ⊢
        rcases this with h | h | h
        · exact .inl h.1
        · exact .inl h.1
        · exact .inr (.inr h.2)
      · simp only [upd, ei, ej, if_false] at hhi hj
        exact R.sep i j oi oj xi xj hne hhi hj bi bj hbb
theorem rd_cov {β : Be} {h : HO} {id : Pos} {o o' : AObj} (hid : h id = some o) (b : Nat) : Cov β (upd h id (some o')) b → Cov β h b := by
  intro ⟨q, p, x, hq, hx, hxb⟩
  by_cases e : q = id
  · subst e; exact ⟨q, o, x, hid, hx, hxb⟩
  · simp only [upd, e, if_false] at hq; exact ⟨q, p, x, hq, hx, hxb⟩

theorem drew_grown (w : World) (o : Obj) : Grown w (w.drew.alloc o) := Grown.mk (by show (w.heap.push o).size = _; simp)
  (fun b hb => by show (w.heap.push o)[b]? = _; simp [Array.getElem?_push, Nat.ne_of_lt hb]) rfl rfl rfl

/-- a new row, longer than what is known of it -/
theorem row_at {β : Be} {w : World} {cs : List AV} {anc : List Pos} {cells : Array Value} {et : TypeId} {n : Nat} (h : VRs β cs (cells.toList.take n)) (hn : n ≤ cells.size) :
    ObjR mk nt β (w.drew.alloc (.cells cells et)).heap w.heap.size 0 cells.size (.cells cs false 0 0 anc) := by
  exact ⟨cells, et, (0, 0), (by show (w.heap.push (Obj.cells cells et))[w.heap.size]? = _; simp), by simp, ⟨n, hn, by simpa using h⟩, by intro i h1 h2; simp at h2, by simp⟩

theorem onesK_spec : ∀ {vs : List AV} {c : Prop}, onesK vs c → (∀ v ∈ vs, v.one = true) ∧ c
  | [], c, h => ⟨by simp, h⟩
  | v :: vs, c, h => by
    obtain ⟨h0, h1⟩ := one1_spec (v := v) (c := onesK vs c) h
    obtain ⟨h2, h3⟩ := onesK_spec h1
    refine ⟨?_, h3⟩
    intro x hx
    rcases List.mem_cons.1 hx with rfl | hx
    · exact h0
    · exact h2 x hx
theorem ones_run {β : Be} : ∀ {vs : List AV} {vs' : List Value}, VRs β vs vs' → (∀ v ∈ vs, v.one = true) → ∀ v ∈ vs', v.oneCell' = true
  | _, _, .nil, _ => by simp
  | _, _, .cons v v' l l' h hs, h1 => by
    intro x hx
    rcases List.mem_cons.1 hx with rfl | hx
    · exact h.one (h1 v (by simp))
    · exact ones_run hs (fun y hy => h1 y (by simp [hy])) x hx

theorem tip_rel {β : Be} {h : HO} {w : World} (R : Rel mk nt β h w) {id nx : Pos} {cs : List AV} {lo hi : Nat} {anc : List Pos} (hid : h id = some (.cells cs false lo hi anc)) (hlo : hi ≤ lo) {b base tot : Nat} (hb : β id = some (b, base, tot))
    (hnx : β nx = none) {vs : List AV} {vs' : List Value} (hv : VRs β vs vs') (h1 : ∀ v ∈ vs, v.one = true) (hroom : cs.length + vs.length ≤ tot) :
    ∃ w', (storeCells ⟨b, base + cs.length, none⟩ vs').run P w = .ok () w' ∧
      Rel mk nt (bset β nx (b, base, tot)) (upd (upd h id (some (.cells cs true lo hi anc))) nx (some (.cells (cs ++ vs) false 0 0 (id :: anc)))) w' ∧
      Fr β h w nx (bset β nx (b, base, tot)) (upd (upd h id (some (.cells cs true lo hi anc))) nx (some (.cells (cs ++ vs) false 0 0 (id :: anc)))) w' nx.succ := by
  obtain ⟨c, ty, fr, q1, q2, ⟨k, q3, q4⟩, q5, q6⟩ := R.obj id _ _ hid hb
  simp only at q1 q2 q3 q4 q5
  have hl := hv.length
  have hcl : c.toList.length = c.size := Array.length_toList
  have hkl : cs.length = k := by rw [q4.length, List.length_take, List.length_drop]; omega
  have hfr := q6 hlo
  obtain ⟨w', r1, r2, ⟨c', r3, r4⟩, r5, r6, r7, r8⟩ := storeCells_run (P := P) b ty fr vs' w c (base + cs.length) 0 q1 (by omega) (ones_run hv h1) (by
    intro j h1 h2 ⟨h3, h4⟩; omega)
  simp only [Nat.add_zero] at r4
  have hcl' : c'.toList.length = c'.size := Array.length_toList
  have hsz : c'.size = c.size := by
    have := congrArg List.length r4
    simp only [List.length_append, List.length_take, List.length_drop] at this; omega
  have hle := bset_le (x := (b, base, tot)) hnx
  have hin : id ≠ nx := by intro e; rw [e, hnx] at hb; cases hb
  have p1 := patch_drop c.toList vs' base cs.length (by omega)
  have pre : ∀ j, j ≤ cs.length → (c'.toList.drop base).take j = (c.toList.drop base).take j := by
    intro j hj
    rw [r4, p1, List.append_assoc, List.take_append_of_le_length (by rw [List.length_take, List.length_drop]; omega), List.take_take, Nat.min_eq_left hj]
  have shr : ∀ j oj xj, j ≠ id → h j = some oj → β j = some xj → xj.1 = b → ∃ cj lj hj aj, oj = .cells cj true lj hj aj ∧ j ∈ anc ∧ xj = (b, base, tot) ∧ cj.length ≤ cs.length := by
    intro j oj xj hne hj bj hbb
    have := R.sep id j _ _ _ _ (fun h => hne h.symm) hid hj hb bj hbb.symm
    cases oj <;> simp [Share] at this
    rename_i cj rj lj hij aj
    obtain ⟨rfl, h2, h3, h4⟩ := this
    exact ⟨cj, lj, hij, aj, rfl, h2, h3.symm, h4⟩
  refine ⟨w', r1, ⟨R.g0.mono hle, ?_, ?_⟩, ?_⟩
  · intro q p y hq hy
    by_cases e : q = nx
    · subst e
      simp only [upd, if_true, Option.some.injEq] at hq
      rw [bset_same] at hy
      simp only [Option.some.injEq] at hy
      subst hq; subst hy
      refine ⟨c', ty, fr, r3, (by show c'.size = base + tot; omega), ⟨k + vs'.length, (by show k + vs'.length ≤ tot; omega), ?_⟩, fun i a1 a2 a3 => (by omega), fun _ => hfr⟩
      have p2 : (c'.toList.drop base).take (k + vs'.length) = (c.toList.drop base).take k ++ vs' := by
        rw [r4, p1, List.take_append_of_le_length (by rw [List.length_append, List.length_take, List.length_drop]; omega), List.take_of_length_le (by rw [List.length_append, List.length_take, List.length_drop]; omega), hkl]
      show VRs _ (cs ++ vs) ((c'.toList.drop base).take (k + vs'.length))
      rw [p2]
      exact (q4.append hv).mono hle
    · rw [bset_ne e] at hy
      by_cases ei : q = id
      · subst ei
        simp only [upd, e, if_false, if_true, Option.some.injEq] at hq
        rw [hb] at hy
        simp only [Option.some.injEq] at hy
        subst hq; subst hy
        refine ⟨c', ty, fr, r3, (by show c'.size = base + tot; omega), ⟨k, q3, ?_⟩, fun i a1 a2 a3 => (by omega), fun _ => hfr⟩
        show VRs _ cs ((c'.toList.drop base).take k)
        rw [pre k (by omega)]
        exact q4.mono hle
      · simp only [upd, e, ei, if_false] at hq
        have ob := R.obj q p y hq hy
        by_cases hbb : y.1 = b
        · obtain ⟨cj, lj, hj, aj, rfl, _, rfl, hlen⟩ := shr q p y ei hq hy hbb
          obtain ⟨c2, ty2, fr2, s1, s2, ⟨k2, s3, s4⟩, s5, s6⟩ := ob
          simp only at s1 s2 s3 s4
          rw [q1] at s1
          simp only [Option.some.injEq, Obj.cells.injEq] at s1
          obtain ⟨rfl, rfl, rfl⟩ := s1
          have hk2 : k2 = cj.length := by rw [s4.length, List.length_take, List.length_drop]; omega
          refine ⟨c', ty, fr, r3, (by show c'.size = base + tot; omega), ⟨k2, s3, ?_⟩, fun i a1 a2 a3 => (by omega), fun _ => hfr⟩
          show VRs _ cj ((c'.toList.drop base).take k2)
          rw [pre k2 (by omega)]
          exact s4.mono hle
        · exact (ob.mono hle).heap (r5 _ hbb)
  · have R2 := (rd_rel R hid).sep
    have nxs : ∀ j oj xj, j ≠ nx → upd (upd h id (some (.cells cs true lo hi anc))) nx (some (.cells (cs ++ vs) false 0 0 (id :: anc))) j = some oj → bset β nx (b, base, tot) j = some xj → xj.1 = b →
        ∃ cj lj hj aj, oj = .cells cj true lj hj aj ∧ j ∈ id :: anc ∧ xj = (b, base, tot) ∧ cj.length ≤ (cs ++ vs).length := by
      intro j oj xj hne hj bj hbb
      rw [bset_ne hne] at bj
      by_cases ei : j = id
      · subst ei
        simp only [upd, hne, if_false, if_true, Option.some.injEq] at hj
        rw [hb] at bj
        simp only [Option.some.injEq] at bj
        exact ⟨cs, lo, hi, anc, hj.symm, by simp, bj.symm, by simp⟩
      · simp only [upd, hne, ei, if_false] at hj
        obtain ⟨cj, lj, hj', aj, h1, h2, h3, h4⟩ := shr j oj xj ei hj bj hbb
        exact ⟨cj, lj, hj', aj, h1, by simp [h2], h3, by simp; omega⟩
    intro i j oi oj xi xj hne hhi hj bi bj hbb
    by_cases ei : i = nx
    · subst ei
      have ej : j ≠ i := fun h => hne h.symm
      simp only [upd, if_true, Option.some.injEq] at hhi
      rw [bset_same] at bi
      simp only [Option.some.injEq] at bi
      subst hhi; subst bi
      obtain ⟨cj, lj, hj', aj, rfl, h2, rfl, h4⟩ := nxs j oj xj ej hj bj hbb.symm
      exact .inr (.inr ⟨rfl, h2, rfl, h4⟩)
    · by_cases ej : j = nx
      · subst ej
        simp only [upd, if_true, Option.some.injEq] at hj
        rw [bset_same] at bj
        simp only [Option.some.injEq] at bj
        subst hj; subst bj
        obtain ⟨cj, lj, hj', aj, rfl, h2, rfl, h4⟩ := nxs i oi xi ei hhi bi hbb
        exact .inr (.inl ⟨rfl, h2, rfl, h4⟩)
      · rw [bset_ne ei] at bi
        rw [bset_ne ej] at bj
        have e1 : upd (upd h id (some (.cells cs true lo hi anc))) nx (some (.cells (cs ++ vs) false 0 0 (id :: anc))) i = upd h id (some (.cells cs true lo hi anc)) i := by simp [upd, ei]
        have e2 : upd (upd h id (some (.cells cs true lo hi anc))) nx (some (.cells (cs ++ vs) false 0 0 (id :: anc))) j = upd h id (some (.cells cs true lo hi anc)) j := by simp [upd, ej]
        rw [e1] at hhi
        rw [e2] at hj
        exact R2 i j oi oj xi xj hne hhi hj bi bj hbb
  · refine ⟨by rw [Pos.toNat_succ]; omega, ?_, by omega, ?_, ?_, r6, r7, r8⟩
    · intro q hq
      refine bset_ne fun e => hq ?_
      subst e; rw [Pos.toNat_succ]; omega
    · intro b' _ hc
      exact r5 b' fun e => hc ⟨id, _, _, hid, hb, e.symm⟩
    · intro b' _ ⟨q, p, x, hq, hx, hxb⟩
      by_cases e : q = nx
      · subst e
        rw [bset_same] at hx
        simp only [Option.some.injEq] at hx
        subst hx
        exact ⟨id, _, _, hid, hb, hxb⟩
      · rw [bset_ne e] at hx
        by_cases ei : q = id
        · subst ei; exact ⟨q, _, x, hid, hx, hxb⟩
        · simp only [upd, e, ei, if_false] at hq; exact ⟨q, p, x, hq, hx, hxb⟩

theorem zeroT_info {t : TypeId} {z : AV} {i : TypeInfo} (hi : tinf P t = some i) (hz : zeroT P t = some z) : ∃ z', i.zero = some z' ∧ ofVal 4 z' = some z := by
  unfold zeroT at hz
  rw [hi] at hz
  simp only [Option.bind_some, Option.bind_eq_some_iff] at hz
  exact hz

theorem append_spec {s x : Operand} {st xt et : TypeId} {xd : TypeDesc} {i : TypeInfo} {ats : Array TypeId} {z : AV} {σ : Heap} {nx : Pos} (hat : ats.toList = [st, xt]) (hu : und P st = some (.slice et)) (hx : und P xt = some xd)
    (hxd : (∃ e, xd = .slice e) ∨ xd = .string) (hi : tinf P et = some i) (hzv : zeroT P et = some z) (h0 : rowOk i z = true) {c : AV → Heap → Pos → Prop}
    (h : (get (xo m s)).run l e fun sv => (get (xo m x)).run l e fun xv => appendK i.size i.bytes sv xv σ nx c) :
    ∃ v σ' nx', c v σ' nx' ∧ EffAt mk nt P m l e ⟨dst, .call ⟨.builtin .append, #[s, x], ats⟩, ty, pos, aft, gd⟩ σ nx v σ' nx' := by
  obtain ⟨hs, hb, hzl⟩ := rowOk_spec h0
  obtain ⟨z', hz1, hz2⟩ := zeroT_info hi hzv
  have hzs : z'.cells.size = i.size := by rw [← zero_size hz2, hzl]
  obtain ⟨sv, g1, hsv⟩ := get_spec m l e s h
  obtain ⟨xv, g2, hxv⟩ := get_spec m l e x g1
  obtain ⟨n, new, g3, hnl, hsrc⟩ := src_spec (mk := mk) (nt := nt) (P := P) g2
  -- the run of the operation
  have lift : ∀ (a : Act) (w w' : World) (sv' v' : Value), a.eval s = sv' → (Builtin.append_ ats ty #[sv', a.eval x]).run P w = .ok v' w' →
      Gives P (execOp a.eval ⟨dst, .call ⟨.builtin .append, #[s, x], ats⟩, ty, pos, aft, gd⟩) w v' w' := by
    intro a w w' sv' v' he hr
    refine .inl ?_
    subst he
    simp [execOp, resolve, invoke, builtin, hr]
  -- growth
  have grow : ∀ (β : Be) (a : Act) (w : World) (h1 : HO) (anc : List Pos) (base : Option Addr) (len cap : Nat) (olds : Array Value) (old : List AV), Rel mk nt β h1 w → (∀ b, Cov β h1 b → Cov β (hof σ) b) → β nx = none →
      OpdsR β m l e a (Op.call ⟨.builtin .append, #[s, x], ats⟩) → Rel mk nt β (hof σ) w → a.eval s = .slice base len cap → (Builtin.firstCells i.size len (.slice base len cap)).run P w.drew = .ok olds w.drew → VRs β old olds.toList → old.length = len * i.size →
      cap < len + n → (len + n) * i.bytes < 1073741824 →
      ∃ β' w' v', Gives P (execOp a.eval ⟨dst, .call ⟨.builtin .append, #[s, x], ats⟩, ty, pos, aft, gd⟩) w v' w' ∧ VR β' (.slice nx 0 (len + n) none i.size) v' ∧
        Rel mk nt β' (upd h1 nx (some (.cells (old ++ new) false 0 0 anc))) w' ∧ Fr β (hof σ) w nx β' (upd h1 nx (some (.cells (old ++ new) false 0 0 anc))) w' nx.succ := by
    intro β a w h1 anc base len cap olds old R1 hcov hnx ho R he hold hov hol hlt hbd
    obtain ⟨hlen, hcells⟩ := hsrc β w (a.eval x) R (hxv β a R.g0 (ho x (by simp [Op.operands, Call.operands])))
    obtain ⟨arr, ha1, ha2⟩ := hcells n (Nat.le_refl _)
    rw [← hnl, List.take_length] at ha2
    obtain ⟨cap', hc1, hc2⟩ := run_append_grow' (ty := ty) hat hu hx hxd hi hz1 hlen (ha1 (w.drawn + 1)) hold hlt hb hbd
    let cells : Array Value := olds ++ arr ++ Builtin.zeroCells z'.cells (cap' - (len + n))
    have hl1 := hov.length
    have hl2 := ha2.length
    have hcs : cells.size = cap' * i.size := by
      simp only [cells, Array.size_append, size_zeroCells, hzs]
      have e1 : olds.size = len * i.size := by rw [← hol, hl1]; simp
      have e2 : arr.size = n * i.size := by rw [← hnl, hl2]; simp
      rw [e1, e2, ← Nat.add_mul, ← Nat.add_mul]
      congr 1; omega
    have hle := bset_le (x := (w.heap.size, 0, cap' * i.size)) hnx
    have G := drew_grown w (.cells cells et)
    have hob : ObjR mk nt (bset β nx (w.heap.size, 0, cap' * i.size)) (w.drew.alloc (.cells cells et)).heap w.heap.size 0 (cap' * i.size) (.cells (old ++ new) false 0 0 anc) := by
      rw [← hcs]
      refine row_at (n := (olds ++ arr).size) ?_ (by simp only [cells, Array.size_append]; omega)
      have : cells.toList.take (olds ++ arr).size = olds.toList ++ arr.toList := by
        simp only [cells, Array.toList_append]
        rw [List.take_append_of_le_length (by simp), List.take_of_length_le (by simp)]
      rw [this]
      exact ((hov.append ha2).mono (by rw [hcs]; exact hle))
    refine ⟨bset β nx (w.heap.size, 0, cap' * i.size), _, _, lift a w _ _ _ he hc2, .slice nx 0 (len + n) none i.size w.heap.size 0 (cap' * i.size) cap' bset_same hc1 (by simp) (by simp), grown_rel R1 G hnx hob, ?_⟩
    have F := grown_fr (β := β) (h := h1) G (id := nx) (tot := cap' * i.size) (o := .cells (old ++ new) false 0 0 anc)
    exact ⟨F.le, F.out, F.size, fun b hb _ => G.keep b hb, fun b hb hc => hcov b (F.cov b hb hc), F.os, F.tape, F.output⟩
  -- with no growth
  have inpl : ∀ (β : Be) (a : Act) (w w' : World) (base : Option Addr) (len cap : Nat) (arr : Array Value), OpdsR β m l e a (Op.call ⟨.builtin .append, #[s, x], ats⟩) → Rel mk nt β (hof σ) w → a.eval s = .slice base len cap →
      (Builtin.firstCells i.size n (a.eval x)).run P w = .ok arr w → len + n ≤ cap → (∀ ad, base = some ad → (storeCells (ad.add (len * i.size)) arr.toList).run P w = .ok () w') → (base = none → w' = w) →
      Gives P (execOp a.eval ⟨dst, .call ⟨.builtin .append, #[s, x], ats⟩, ty, pos, aft, gd⟩) w (.slice base (len + n) cap) w' := by
    intro β a w w' base len cap arr ho R he hf hle hst hno
    obtain ⟨hlen, _⟩ := hsrc β w (a.eval x) R (hxv β a R.g0 (ho x (by simp [Op.operands, Call.operands])))
    exact lift a w w' _ _ he (run_append_in (ty := ty) hat hu hx hxd hi (hlen w) hf hle hst hno)
  have first : ∀ (β : Be) (a : Act) (w : World), OpdsR β m l e a (Op.call ⟨.builtin .append, #[s, x], ats⟩) → Rel mk nt β (hof σ) w → ∃ arr : Array Value, (Builtin.firstCells i.size n (a.eval x)).run P w = .ok arr w ∧ VRs β new arr.toList := by
    intro β a w ho R
    obtain ⟨_, hcells⟩ := hsrc β w (a.eval x) R (hxv β a R.g0 (ho x (by simp [Op.operands, Call.operands])))
    obtain ⟨arr, ha1, ha2⟩ := hcells n (Nat.le_refl _)
    rw [← hnl, List.take_length] at ha2
    exact ⟨arr, ha1 w.drawn, ha2⟩
  have addr : ∀ (b o k : Nat), ({ block := b, off := o } : Addr).add k = ⟨b, o + k, none⟩ := by
    intro b o k; unfold Addr.add; split <;> simp_all
  have free : ∀ β : Be, Free β nx nx.succ → β nx = none := fun β hf => hf nx (Nat.le_refl _) (by rw [Pos.toNat_succ]; omega)
  have svr : ∀ β a, G0 β → OpdsR β m l e a (Op.call ⟨.builtin .append, #[s, x], ats⟩) → VR β sv (a.eval s) := fun β a hG ho => hsv β a hG (ho s (by simp [Op.operands, Call.operands]))
  cases sv <;> (try exact g3.elim)
  case nilslice =>
    have g4 : ite' (Nat.beq n 0) (c .nilslice σ nx) (ite' (Nat.blt (n * i.bytes) 1073741824) (growNew i.size n new [] σ nx c) False) := g3
    rw [ite'_eq, beq_dec] at g4
    by_cases hn : n = 0
    · simp only [hn, decide_true, if_true] at g4
      refine ⟨_, σ, nx, g4, Nat.le_refl _, fun β a w R hf ho => ?_⟩
      have he := (svr β a R.g0 ho).nilslice_inv
      obtain ⟨arr, ha1, _⟩ := first β a w ho R
      refine ⟨β, w, _, inpl β a w w none 0 0 arr ho R he ha1 (by omega) (fun _ h => by cases h) (fun _ => rfl), ?_, R, Fr.refl _ _ _ _⟩
      rw [hn]; exact .nilslice
    · simp only [hn, decide_false, Bool.false_eq_true, if_false] at g4
      obtain ⟨hbd, g5⟩ := ite'_true g4
      rw [blt_iff, decide_eq_true_eq] at hbd
      obtain ⟨σ', g6, g7⟩ := set_spec g5
      refine ⟨_, σ', _, g6, by rw [Pos.toNat_succ]; omega, fun β a w R hf ho => ?_⟩
      have he := (svr β a R.g0 ho).nilslice_inv
      obtain ⟨β', w', v', k1, k2, k3, k4⟩ := grow β a w (hof σ) [] none 0 0 #[] [] R (fun _ h => h) (free β hf) ho R he (run_firstCells_none w.drew i.size 0 0 0) .nil (by simp) (by omega) (by simpa using hbd)
      rw [g7]
      simp only [Nat.zero_add, List.nil_append] at k2 k3 k4
      exact ⟨β', w', v', k1, k2, k3, k4⟩
  case slice id off len cap es' =>
    obtain ⟨hes, g5⟩ := ite'_true (show ite' (Nat.beq i.size es') _ False from g3)
    clear g3
    rw [beq_dec, decide_eq_true_eq] at hes
    subst hes
    rw [ite'_eq, beq_dec] at g5
    by_cases hn : n = 0
    · simp only [hn, decide_true, if_true] at g5
      refine ⟨_, σ, nx, g5, Nat.le_refl _, fun β a w R hf ho => ?_⟩
      have hv := svr β a R.g0 ho
      obtain ⟨arr, ha1, ha2⟩ := first β a w ho R
      have hae : arr.toList = [] := by
        have := ha2.length
        rw [hnl, hn] at this
        simpa using this.symm
      have hst : ∀ (ad : Addr), (storeCells (ad.add (len * i.size)) arr.toList).run P w = .ok () w := by intro ad; rw [hae]; rfl
      rcases hv.slice_inv with ⟨b, base, tot, cc, he, hb', hle, q1, q2⟩ | ⟨ad, had, he, rfl, q1⟩
      · refine ⟨β, w, _, inpl β a w w _ len cc arr ho R he ha1 (by omega) (fun ad _ => hst ad) (fun _ => rfl), ?_, R, Fr.refl _ _ _ _⟩
        rw [hn, Nat.add_zero, ← he]; exact hv
      · refine ⟨β, w, _, inpl β a w w _ 0 0 arr ho R he ha1 (by omega) (fun ad _ => hst ad) (fun _ => rfl), ?_, R, Fr.refl _ _ _ _⟩
        rw [hn, Nat.add_zero, ← he]; exact hv
    · simp only [hn, decide_false, Bool.false_eq_true, if_false, forceNat_eq] at g5
      obtain ⟨hbd, g6⟩ := ite'_true g5
      rw [blt_iff, decide_eq_true_eq] at hbd
      cases cap with
      | some cp =>
        simp only at g6
        rw [ite'_eq, ble_iff] at g6
        by_cases hcp : len + n ≤ cp
        · simp only [hcp, decide_true, if_true] at g6
          obtain ⟨cs, lo, hi', anc, σ', k1, k2, k3, k4, k5, k6⟩ := writeCells_spec g6
          refine ⟨_, σ', nx, k5, Nat.le_refl _, fun β a w R hf ho => ?_⟩
          obtain ⟨arr, ha1, ha2⟩ := first β a w ho R
          rcases (svr β a R.g0 ho).slice_inv with ⟨b, base, tot, cc, he, hb', hle, q1, q2⟩ | ⟨ad, had, he, rfl, q1⟩
          · have hcc := q2 cp rfl
            subst hcc
            obtain ⟨w', r1, r2, r3, r4, r5, r6, r7⟩ := write_rel (P := P) R k1 hb' k2 k3 k4 ha2
            refine ⟨β, w', _, inpl β a w w' _ len cc arr ho R he ha1 hcp (fun ad h => ?_) (fun h => by cases h), .slice id off (len + n) (some cc) i.size b base tot cc hb' hcp (by simp) (by simp), by rw [k6]; exact r2, by rw [k6]; exact write_fr k1 hb' r3 r4 r5 r6 r7⟩
            simp only [Option.some.injEq] at h
            subst h
            rw [addr, Nat.add_assoc]
            exact r1
          · rcases q1 with ⟨h, _⟩ | h
            · cases h
            · simp only [Option.some.injEq] at h; omega
        · simp only [hcp, decide_false, Bool.false_eq_true, if_false] at g6
          obtain ⟨cs, rd, lo, hi', anc, k1, k2, k3⟩ := readCells_spec g6
          rw [catK_eq] at k3
          obtain ⟨σ', k4, k5⟩ := set_spec k3
          refine ⟨_, σ', _, k4, by rw [Pos.toNat_succ]; omega, fun β a w R hf ho => ?_⟩
          rcases (svr β a R.g0 ho).slice_inv with ⟨b, base, tot, cc, he, hb', hle, q1, q2⟩ | ⟨ad, had, he, rfl, q1⟩
          · have hcc := q2 cp rfl
            subst hcc
            obtain ⟨l', z1, z2, _, z4⟩ := cells_read (R.obj id _ _ k1 hb') k2
            have hfc : (Builtin.firstCells i.size len (.slice (some ⟨b, base + off, none⟩) len cc)).run P w.drew = .ok l'.toArray w.drew :=
              run_firstCells_some w.drew i.size len _ len cc l' z2 (fun j v hj => z4 j v hj)
            obtain ⟨β', w', v', y1, y2, y3, y4⟩ := grow β a w (hof σ) [] _ len cc l'.toArray _ R (fun _ h => h) (free β hf) ho R he hfc (by simpa using z1) (by simp; omega) (by omega) hbd
            rw [k5]
            exact ⟨β', w', v', y1, y2, y3, y4⟩
          · have hfc : (Builtin.firstCells i.size 0 (.slice (some ad) 0 0)).run P w.drew = .ok #[] w.drew := by simp [Builtin.firstCells, loadCells, loadCellsFrom]
            obtain ⟨β', w', v', y1, y2, y3, y4⟩ := grow β a w (hof σ) [] _ 0 0 #[] [] R (fun _ h => h) (free β hf) ho R he hfc .nil (by simp) (by omega) hbd
            rw [k5]
            simp only [Nat.zero_mul, List.take_zero] at y3 y4 ⊢
            exact ⟨β', w', v', y1, y2, y3, y4⟩
      | none =>
        simp only at g6
        obtain ⟨o, ho', g7⟩ := withObj_spec g6
        rcases o with ⟨cs, rd, lo, hi', anc⟩ | _ | _ | _ | _ <;> (try exact g7.elim)
        unfold appTip at g7
        dsimp only at g7
        rw [ite'_eq] at g7
        by_cases hq : (rd || Nat.blt lo hi') = true
        · simp only [hq, if_true] at g7
        · simp only [hq, forceNat_eq, lenK_eq] at g7
          simp only [Bool.or_eq_true, not_or, Bool.not_eq_true, blt_iff, decide_eq_false_iff_not] at hq
          obtain ⟨rfl, hlo⟩ := hq
          rw [ite'_eq, ble_iff] at g7
          have bound : ∀ {β : Be} {w : World} {x : Nat × Nat × Nat}, Rel mk nt β (hof σ) w → β id = some x → cs.length ≤ x.2.2 := by
            intro β w x R hx
            obtain ⟨c0, ty0, fr0, _, s2, ⟨k, s3, s4⟩, _⟩ := R.obj id _ _ ho' hx
            have := s4.length
            rw [List.length_take] at this
            omega
          by_cases hin : off + (len + n) * i.size ≤ cs.length
          · simp only [hin, decide_true, if_true] at g7
            have g8 : writeCells σ id (off + len * i.size) new fun σ => c (.slice id off (len + n) none i.size) σ nx := by
              unfold writeCells withObj
              rw [ho']; exact g7
            obtain ⟨cs2, lo2, hi2, anc2, σ', k1, k2, k3, k4, k5, k6⟩ := writeCells_spec g8
            refine ⟨_, σ', nx, k5, Nat.le_refl _, fun β a w R hf ho => ?_⟩
            obtain ⟨arr, ha1, ha2⟩ := first β a w ho R
            rcases (svr β a R.g0 ho).slice_inv with ⟨b, base, tot, cc, he, hb', hle, q1, q2⟩ | ⟨ad, had, he, rfl, q1⟩
            · have hbnd := bound R hb'
              simp only at hbnd
              have hq1 := q1 rfl
              have hle2 : len + n ≤ cc := by
                have : (len + n) * i.size ≤ cc * i.size := by omega
                exact Nat.le_of_mul_le_mul_right this hs
              obtain ⟨w', r1, r2, r3, r4, r5, r6, r7⟩ := write_rel (P := P) R k1 hb' k2 k3 k4 ha2
              refine ⟨β, w', _, inpl β a w w' _ len cc arr ho R he ha1 hle2 (fun ad h => ?_) (fun h => by cases h), .slice id off (len + n) none i.size b base tot cc hb' hle2 (fun _ => hq1) (by simp), by rw [k6]; exact r2, by rw [k6]; exact write_fr k1 hb' r3 r4 r5 r6 r7⟩
              simp only [Option.some.injEq] at h
              subst h
              rw [addr, Nat.add_assoc]
              exact r1
            · rcases q1 with ⟨_, b, base, hb'⟩ | h
              · have hbnd := bound R hb'
                simp only at hbnd
                have : 0 < (0 + n) * i.size := Nat.mul_pos (by omega) hs
                omega
              · cases h
          · simp only [hin, decide_false, Bool.false_eq_true, if_false] at g7
            obtain ⟨ht, g8⟩ := ite'_true g7
            simp only [Bool.and_eq_true, beq_dec, decide_eq_true_eq] at ht
            obtain ⟨ht1, rfl⟩ := ht
            obtain ⟨hones, g9⟩ := onesK_spec g8
            rw [catK_eq] at g9
            obtain ⟨σ1, g10, g11⟩ := set_spec g9
            obtain ⟨σ', g12, g13⟩ := set_spec g10
            rw [g11] at g13
            refine ⟨_, σ', _, g12, by rw [Pos.toNat_succ]; omega, fun β a w R hf ho => ?_⟩
            have hnx := free β hf
            rcases (svr β a R.g0 ho).slice_inv with ⟨b, base, tot, cc, he, hb', hle, q1, q2⟩ | ⟨ad, had, he, rfl, q1⟩
            · have hq1 := q1 rfl
              simp only [Nat.zero_add] at hq1 ht1
              by_cases hcc : len + n ≤ cc
              · obtain ⟨arr, ha1, ha2⟩ := first β a w ho R
                have hroom : cs.length + new.length ≤ tot := by
                  rw [← ht1, hnl, ← Nat.add_mul, ← hq1]
                  exact Nat.mul_le_mul_right _ hcc
                obtain ⟨w', r1, r2, r3⟩ := tip_rel (P := P) R ho' (by omega) hb' hnx ha2 hones hroom
                refine ⟨_, w', _, inpl β a w w' _ len cc arr ho R he ha1 hcc (fun ad h => ?_) (fun h => by cases h), .slice nx 0 (len + n) none i.size b base tot cc bset_same hcc (fun _ => by omega) (by simp), by rw [g13]; exact r2, by rw [g13]; exact r3⟩
                simp only [Option.some.injEq] at h
                subst h
                rw [addr, Nat.add_zero, ht1]
                exact r1
              · obtain ⟨l', z1, z2, _, z4⟩ := cells_read (R.obj id _ _ ho' hb') (off := 0) (n := len * i.size) (by omega)
                have hfc : (Builtin.firstCells i.size len (.slice (some ⟨b, base + 0, none⟩) len cc)).run P w.drew = .ok l'.toArray w.drew :=
                  run_firstCells_some w.drew i.size len _ len cc l' z2 (fun j v hj => z4 j v hj)
                rw [List.drop_zero, ht1, List.take_length] at z1
                obtain ⟨β', w', v', y1, y2, y3, y4⟩ := grow β a w _ (id :: anc) _ len cc l'.toArray cs (rd_rel R ho') (rd_cov ho') hnx ho R he hfc (by simpa using z1) ht1.symm (by omega) hbd
                rw [g13]
                exact ⟨β', w', v', y1, y2, y3, y4⟩
            · rcases q1 with ⟨_, b, base, hb'⟩ | h
              · have hbnd := bound R hb'
                simp only at hbnd
                have hcs : cs = [] := List.length_eq_zero_iff.1 (by omega)
                have hfc : (Builtin.firstCells i.size 0 (.slice (some ad) 0 0)).run P w.drew = .ok #[] w.drew := by simp [Builtin.firstCells, loadCells, loadCellsFrom]
                obtain ⟨β', w', v', y1, y2, y3, y4⟩ := grow β a w _ (id :: anc) _ 0 0 #[] [] (rd_rel R ho') (rd_cov ho') hnx ho R he hfc .nil (by simp) (by omega) hbd
                rw [g13]
                subst hcs
                exact ⟨β', w', v', y1, y2, y3, y4⟩
              · cases h
end
end Go.AE
namespace Go.AE
open Go

section
variable {mk nt : FuncId → Nat} {P : Program} {m : Nat} {l : Loc} {e : Env} {dst : Option Tmp} {ty : TypeId} {pos : String} {aft : Array Edge} {gd : Option (Nat × Bool)}

theorem copy_spec {d s : Operand} {t st et : TypeId} {sz : Nat} {ats : Array TypeId} {σ : Heap} {nx : Pos} (hat : ats.toList = [t, st]) (hu : und P t = some (.slice et)) (hz : sizeT P et = some (sz + 1)) {c : AV → Heap → Prop}
    (h : (get (xo m d)).run l e fun dv => (get (xo m s)).run l e fun xv => srcCells σ (sz + 1) xv fun n new => copyK (sz + 1) dv n new σ c) :
    ∃ v σ', c v σ' ∧ EffAt mk nt P m l e ⟨dst, .call ⟨.builtin .copy, #[d, s], ats⟩, ty, pos, aft, gd⟩ σ nx v σ' nx := by
  obtain ⟨dv, g1, hdv⟩ := get_spec m l e d h
  obtain ⟨xv, g2, hxv⟩ := get_spec m l e s g1
  obtain ⟨n, new, g3, hnl, hsrc⟩ := src_spec (mk := mk) (nt := nt) (P := P) g2
  have run : ∀ (a : Act) (w w' : World) (base : Option Addr) (len cap : Nat) (arr : Array Value), a.eval d = .slice base len cap → (Builtin.lenOf (a.eval s)).run P w = .ok n w → (Builtin.firstCells (sz + 1) (Nat.min n len) (a.eval s)).run P w = .ok arr w →
      (∀ ad, base = some ad → (storeCells ad arr.toList).run P w = .ok () w') → (base = none → w' = w) →
      Gives P (execOp a.eval ⟨dst, .call ⟨.builtin .copy, #[d, s], ats⟩, ty, pos, aft, gd⟩) w (.int .i64 (Nat.min n len : Nat)) w' := by
    intro a w w' base len cap arr he hl hf hst hno
    cases two_list hat
    refine .inl ?_
    cases base with
    | none =>
      cases hno rfl
      simp [execOp, resolve, invoke, builtin, Builtin.copy_, he, run_underlying hu, run_sizeOf hz, hl, hf, goInt]
    | some ad =>
      have := hst ad rfl
      simp [execOp, resolve, invoke, builtin, Builtin.copy_, he, run_underlying hu, run_sizeOf hz, hl, hf, this, goInt]
  have cells : ∀ (β : Be) (a : Act) (w : World) (k : Nat), k ≤ n → OpdsR β m l e a (Op.call ⟨.builtin .copy, #[d, s], ats⟩) → Rel mk nt β (hof σ) w →
      (Builtin.lenOf (a.eval s)).run P w = .ok n w ∧ ∃ arr : Array Value, (Builtin.firstCells (sz + 1) k (a.eval s)).run P w = .ok arr w ∧ VRs β (new.take (k * (sz + 1))) arr.toList := by
    intro β a w k hk ho R
    obtain ⟨hlen, hcells⟩ := hsrc β w (a.eval s) R (hxv β a R.g0 (ho s (by simp [Op.operands, Call.operands])))
    obtain ⟨arr, ha1, ha2⟩ := hcells k hk
    exact ⟨hlen w, arr, ha1 w.drawn, ha2⟩
  have dvr : ∀ β a, G0 β → OpdsR β m l e a (Op.call ⟨.builtin .copy, #[d, s], ats⟩) → VR β dv (a.eval d) := fun β a hG ho => hdv β a hG (ho d (by simp [Op.operands, Call.operands]))
  cases dv <;> (try exact g3.elim)
  · refine ⟨_, σ, g3, Nat.le_refl _, fun β a w R hf ho => ?_⟩
    have he := (dvr β a R.g0 ho).nilslice_inv
    obtain ⟨hl, arr, h1, _⟩ := cells β a w 0 (Nat.zero_le _) ho R
    have := run a w w none 0 0 arr he hl (by rw [show Nat.min n 0 = 0 from Nat.min_eq_right (Nat.zero_le _)]; exact h1) (fun _ h => by cases h) (fun _ => rfl)
    rw [show Nat.min n 0 = 0 from Nat.min_eq_right (Nat.zero_le _)] at this
    exact ⟨β, w, _, this, .int _ _, R, Fr.refl _ _ _ _⟩
  · rename_i id off len cap es'
    obtain ⟨hes, g4⟩ := ite'_true (show ite' (Nat.beq (sz + 1) es') _ False from g3)
    clear g3
    rw [beq_dec, decide_eq_true_eq] at hes
    subst hes
    rw [forceNat_eq, ite'_eq, beq_dec] at g4
    by_cases h0 : Nat.min n len = 0
    · simp only [h0, decide_true, if_true] at g4
      refine ⟨_, σ, g4, Nat.le_refl _, fun β a w R hf ho => ?_⟩
      obtain ⟨hl, arr, h1, h2⟩ := cells β a w 0 (Nat.zero_le _) ho R
      have hae : arr.toList = [] := by
        have := h2.length
        simp only [Nat.zero_mul, List.take_zero, List.length_nil] at this
        exact List.length_eq_zero_iff.1 this.symm
      have fin : ∀ base len' cap', a.eval d = .slice base len' cap' → Nat.min n len' = 0 → ∃ β' w' v', Gives P (execOp a.eval ⟨dst, .call ⟨.builtin .copy, #[d, s], ats⟩, ty, pos, aft, gd⟩) w v' w' ∧ VR β' (.int .i64 0) v' ∧ Rel mk nt β' (hof σ) w' ∧ Fr β (hof σ) w nx β' (hof σ) w' nx := by
        intro base len' cap' he h0'
        have := run a w w base len' cap' arr he hl (by rw [h0']; exact h1) (fun _ _ => by rw [hae]; rfl) (fun _ => rfl)
        rw [h0'] at this
        exact ⟨β, w, _, this, .int _ _, R, Fr.refl _ _ _ _⟩
      rcases (dvr β a R.g0 ho).slice_inv with ⟨b, base, tot, cc, he, _⟩ | ⟨ad, had, he, rfl, _⟩
      · exact fin _ _ _ he h0
      · exact fin _ _ _ he h0
    · simp only [h0, decide_false, Bool.false_eq_true, if_false] at g4
      obtain ⟨hle, g5⟩ := takeK_spec _ _ _ g4
      obtain ⟨cs, lo, hi', anc, σ', k1, k2, k3, k4, k5, k6⟩ := writeCells_spec g5
      refine ⟨_, σ', k5, Nat.le_refl _, fun β a w R hf ho => ?_⟩
      obtain ⟨hl, arr, h1, h2⟩ := cells β a w (Nat.min n len) (Nat.min_le_left _ _) ho R
      rcases (dvr β a R.g0 ho).slice_inv with ⟨b, base, tot, cc, he, hb', _⟩ | ⟨ad, had, he, rfl, _⟩
      · obtain ⟨w', r1, r2, r3, r4, r5, r6, r7⟩ := write_rel (P := P) R k1 hb' k2 k3 k4 h2
        refine ⟨β, w', _, run a w w' _ len cc arr he hl h1 (fun ad h => ?_) (fun h => by cases h), .int _ _, by rw [k6]; exact r2, by rw [k6]; exact write_fr k1 hb' r3 r4 r5 r6 r7⟩
        simp only [Option.some.injEq] at h
        subst h
        exact r1
      · exact (h0 (Nat.min_eq_right (Nat.zero_le _))).elim
end
end Go.AE
namespace Go.AE
open Go

/-! ## frames -/
/-- the frame below, in another mode -/
def withMode : Option FrameMode → List Frame → List Frame
  | some md, c :: r => { c with mode := md } :: r
  | _, cs => cs

inductive ChR (β : Be) : List (AV × Bool) → List PanicEntry → Prop
  | nil : ChR β [] []
  | cons (v : AV) (v' : Value) (t : Bool) (l : List (AV × Bool)) (l' : List PanicEntry) (h : VR β v v') (hs : ChR β l l') : ChR β ((v, t) :: l) ({ v := v', recovered := t } :: l')
theorem ChR.mono {β β' : Be} (hb : β.le β') : ∀ {l : List (AV × Bool)} {l' : List PanicEntry}, ChR β l l' → ChR β' l l'
  | _, _, .nil => .nil
  | _, _, .cons v v' t l l' h hs => .cons v v' t l l' (h.mono hb) (ChR.mono hb hs)
theorem ChR.append {β : Be} : ∀ {l : List (AV × Bool)} {l' : List PanicEntry}, ChR β l l' → ∀ {r : List (AV × Bool)} {r' : List PanicEntry}, ChR β r r' → ChR β (l ++ r) (l' ++ r')
  | _, _, .nil, _, _, h => h
  | _, _, .cons v v' t l l' h hs, _, _, h2 => .cons v v' t _ _ h (ChR.append hs h2)

def ModeR (β : Be) : Option (List (AV × Bool)) → FrameMode → Prop
  | none, md => md = .returning
  | some ch, md => ∃ ch', md = .panicking ch' ∧ ChR β ch ch'
theorem ModeR.mono {β β' : Be} (hb : β.le β') {m : Option (List (AV × Bool))} {md : FrameMode} (h : ModeR β m md) : ModeR β' m md := by
  cases m with
  | none => exact h
  | some ch => obtain ⟨ch', h1, h2⟩ := h; exact ⟨ch', h1, h2.mono hb⟩

/-- of whom is this frame a deferred call? -/
def UR (β : Be) (u : U) (kind : CallKind) (md : Option FrameMode) (cs0 : List Frame) : Prop :=
  match u with
  | none => kind = .normal ∧ md = none
  | some m => kind = .deferred ∧ cs0 ≠ [] ∧ ∃ x, md = some x ∧ ModeR β m x
theorem UR.mono {β β' : Be} (hb : β.le β') {u : U} {kind : CallKind} {md : Option FrameMode} {cs0 : List Frame} (h : UR β u kind md cs0) : UR β' u kind md cs0 := by
  cases u with
  | none => exact h
  | some m => obtain ⟨h1, h2, x, h3, h4⟩ := h; exact ⟨h1, h2, x, h3, h4.mono hb⟩

inductive DfR (β : Be) : List DF → List Deferred → Prop
  | nil : DfR β [] []
  | call (f : FuncId) (x c args : List AV) (x' c' args' : List Value) (l : List DF) (l' : List Deferred) (hx : VRs β x x') (hc : VRs β c c') (ha : VRs β args args') (hs : DfR β l l') :
      DfR β (.call (.func (.func f) x c) args :: l) ({ target := .fn (.func f) ⟨c'⟩, args := ⟨x' ++ args'⟩ } :: l')
  | coll (id : Pos) (r : Nat) (y : Nat × Nat) (l : List DF) (l' : List Deferred) (h : β id = some (r, y)) (hs : DfR β l l') : DfR β (.coll id :: l) ({ target := .collected r, args := #[] } :: l')
theorem DfR.mono {β β' : Be} (hb : β.le β') : ∀ {l : List DF} {l' : List Deferred}, DfR β l l' → DfR β' l l'
  | _, _, .nil => .nil
  | _, _, .call f x c args x' c' args' l l' hx hc ha hs => .call f x c args x' c' args' l l' (hx.mono hb) (hc.mono hb) (ha.mono hb) (DfR.mono hb hs)
  | _, _, .coll id r y l l' h hs => .coll id r y l l' (hb _ _ h) (DfR.mono hb hs)

def RndR (β : Be) : Option Pos → Option Nat → Prop
  | none, r => r = none
  | some l, r => ∃ b x, r = some b ∧ β l = some (b, x)
theorem RndR.mono {β β' : Be} (hb : β.le β') {l : Option Pos} {r : Option Nat} (h : RndR β l r) : RndR β' l r := by
  cases l with
  | none => exact h
  | some l => obtain ⟨b, x, h1, h2⟩ := h; exact ⟨b, x, h1, hb _ _ h2⟩

/-! ## temporaries -/
theorem put_spec {m : Nat} {d : Option Tmp} {v : AV} {l : Loc} {e : Env} {c : Loc → Env → Prop} (h : (put (dst m d)).run v l e c) :
    ∃ l' e', c l' e' ∧ ∀ (β : Be) (a : Act) (v' : Value), EnvR β m l e a.tmps → VR β v v' → (∀ t, d = some t → t < a.tmps.size) → EnvR β m l' e' (a.put d v').tmps := by
  cases d with
  | none => exact ⟨l, e, h, fun β a v' he _ _ => he⟩
  | some t =>
    simp only [dst] at h
    by_cases hb : bit m t = true
    · rw [hb] at h
      obtain ⟨e', h1, h2⟩ := T.set_spec _ _ _ _ h
      refine ⟨l, e', h1, fun β a v' he hv hd => ?_⟩
      have hlt := hd t rfl
      intro t' x hx
      simp only [Act.put]
      unfold look at hx
      by_cases ht : t' = t
      · subst ht
        rw [if_pos hb, h2, if_pos rfl] at hx
        simp only [Option.some.injEq] at hx
        subst hx
        exact ⟨v', by simp [hlt], hv⟩
      · have hne : ¬ Pos.ofNat t' = Pos.ofNat t := fun h => ht (Pos.ofNat_inj h)
        have hx' : look m l e t' = some x := by
          unfold look
          by_cases hb' : bit m t' = true
          · rw [if_pos hb'] at hx ⊢; rw [h2, if_neg hne] at hx; exact hx
          · rw [if_neg hb'] at hx ⊢; exact hx
        obtain ⟨x', q1, q2⟩ := he t' x hx'
        refine ⟨x', ?_, q2⟩
        rw [Array.getElem?_setIfInBounds, if_neg (fun h => ht h.symm)]
        exact q1
    · have hb' : bit m t = false := by simpa using hb
      rw [hb'] at h
      refine ⟨.cons t v l, e, h, fun β a v' he hv hd => ?_⟩
      have hlt := hd t rfl
      intro t' x hx
      simp only [Act.put]
      unfold look at hx
      by_cases ht : t' = t
      · subst ht
        rw [if_neg hb] at hx
        simp only [Loc.get, if_true, Option.some.injEq] at hx
        subst hx
        exact ⟨v', by simp [hlt], hv⟩
      · have hx' : look m l e t' = some x := by
          unfold look
          by_cases hb' : bit m t' = true
          · rw [if_pos hb'] at hx ⊢; exact hx
          · rw [if_neg hb'] at hx ⊢; simpa [Loc.get, ht] using hx
        obtain ⟨x', q1, q2⟩ := he t' x hx'
        refine ⟨x', ?_, q2⟩
        rw [Array.getElem?_setIfInBounds, if_neg (fun h => ht h.symm)]
        exact q1
theorem put_defers (a : Act) (d : Option Tmp) (v : Value) : (a.put d v).defers = a.defers := by cases d <;> rfl
theorem put_size (a : Act) (d : Option Tmp) (v : Value) : (a.put d v).tmps.size = a.tmps.size := by cases d <;> simp [Act.put]

/-- operands, from the whole of the temporaries -/
theorem EnvR.opds {β : Be} {m : Nat} {l : Loc} {e : Env} {a : Act} (h : EnvR β m l e a.tmps) (o : Op) : OpdsR β m l e a o := by
  intro x _ t v hx hv
  subst hx
  exact h t v hv
theorem EnvR.opd {β : Be} {m : Nat} {l : Loc} {e : Env} {a : Act} (h : EnvR β m l e a.tmps) (x : Operand) : OpdR β m l e a x := by
  intro t v hx hv
  subst hx
  exact h t v hv

/-! ## the state of a frame -/
structure St where
  l : Loc
  e : Env
  dfs : List DF
  u : U
  σ : Heap
  nx : Pos

/-- the machine's frame stands as the evaluator's -/
structure StR (P : Program) (fi : FI) (s : St) (β : Be) (b : Frame) (a : Act) (md : Option FrameMode) (cs0 : List Frame) (w : World) : Prop where
  fn : b.fn = fi.fid
  rnd : RndR β fi.rnd b.roundOf
  u : UR β s.u b.kind md cs0
  env : EnvR β (maskOf P fi.fid) s.l s.e a.tmps
  size : a.tmps.size = ntmpsOf P fi.fid
  dfs : DfR β s.dfs a.defers
  rel : Rel (maskOf P) (ntmpsOf P) β (hof s.σ) w

/-- from one state to another, over steps of the machine -/
def Goes (P : Program) (fi : FI) (s s' : St) (T T' : List Item) : Prop :=
  s.nx.toNat ≤ s'.nx.toNat ∧ ∀ β b a md cs0 w, StR P fi s β b a md cs0 w → Free β s.nx s'.nx →
    ∃ β' a' md' w', Steps P (lone (b.atR a T) (withMode md cs0) w) (lone (b.atR a' T') (withMode md' cs0) w') ∧ StR P fi s' β' b a' md' cs0 w' ∧ Fr β (hof s.σ) w s.nx β' (hof s'.σ) w' s'.nx

theorem Goes.refl (P : Program) (fi : FI) (s : St) (T : List Item) : Goes P fi s s T T :=
  ⟨Nat.le_refl _, fun β _ a md _ w h _ => ⟨β, a, md, w, Steps.refl _ _, h, Fr.refl _ _ _ _⟩⟩
theorem Goes.trans {P : Program} {fi : FI} {s s1 s2 : St} {T T1 T2 : List Item} (h : Goes P fi s s1 T T1) (h' : Goes P fi s1 s2 T1 T2) : Goes P fi s s2 T T2 := by
  refine ⟨Nat.le_trans h.1 h'.1, fun β b a md cs0 w hs hf => ?_⟩
  obtain ⟨β1, a1, md1, w1, q1, q2, q3⟩ := h.2 β b a md cs0 w hs (hf.left h'.1)
  obtain ⟨β2, a2, md2, w2, r1, r2, r3⟩ := h'.2 β1 b a1 md1 cs0 w1 q2 (hf.right q3)
  exact ⟨β2, a2, md2, w2, q1.trans r1, r2, q3.trans r3⟩
end Go.AE
namespace Go.AE
open Go

section
variable {P : Program} {b : Frame} {a : Act} {k : List Item} {cs : List Frame} {w w' : World} {ops : Array Oper} {i : Nat} {rest : List Nat} {o : Oper}

/-- an operation that gives a value -/
theorem stepR_gives (ho : ops[i]? = some o) (hw : Region.wanted o (yielded ops a.tmps) = true) (hd : ∀ c, o.op ≠ .defer c) {v' : Value} (h : Gives P (execOp a.eval o) w v' w') :
    step P (lone (b.atR a (.inRegion ops (i :: rest) :: k)) cs w) = .next (lone (b.atR (a.put o.dst v') (.inRegion ops rest :: k)) cs w') := by
  have hf := Frame.finish_atR b a ops i rest k v'
  rw [ho] at hf
  simp only [Option.bind_some] at hf
  rw [← hf]
  refine step_lone_go ?_
  rw [stepGR_op ho hw, Oper.semAt_eq _ _ _ hd]
  rcases h with h | ⟨rfl, h⟩
  · simp [stepG.apply, Sem.runT_eq, h]
  · simp [stepG.apply, Sem.runT_eq, h]

/-- an operation that is not asked for -/
theorem stepR_not (ho : ops[i]? = some o) (hw : Region.wanted o (yielded ops a.tmps) = false) :
    step P (lone (b.atR a (.inRegion ops (i :: rest) :: k)) cs w) = .next (lone (b.atR (a.put o.dst undef) (.inRegion ops rest :: k)) cs w) := by
  have := stepR_op_skip (P := P) (b := b) (a := a) (k := k) (cs := cs) (w := w) (ops := ops) (i := i) (rest := rest) (by rw [ho]; simpa using hw)
  rw [ho] at this
  exact this
end

/-- the value goes into the temporary, the rest of the state stays or is replaced -/
theorem StR.put {P : Program} {fi : FI} {s : St} {β β' : Be} {b : Frame} {a : Act} {md : Option FrameMode} {cs0 : List Frame} {w w' : World} (h : StR P fi s β b a md cs0 w) (hb : β.le β') {d : Option Tmp} {v : AV} {v' : Value}
    (hv : VR β' v v') (hd : ∀ t, d = some t → t < ntmpsOf P fi.fid) {l' : Loc} {e' : Env} (he : ∀ (β : Be) (a : Act) (v' : Value), EnvR β (maskOf P fi.fid) s.l s.e a.tmps → VR β v v' → (∀ t, d = some t → t < a.tmps.size) → EnvR β (maskOf P fi.fid) l' e' (a.put d v').tmps)
    {σ' : Heap} (hr : Rel (maskOf P) (ntmpsOf P) β' (hof σ') w') {nx' : Pos} : StR P fi ⟨l', e', s.dfs, s.u, σ', nx'⟩ β' b (a.put d v') md cs0 w' :=
  ⟨h.fn, h.rnd.mono hb, h.u.mono hb, he β' a v' (h.env.mono hb) hv (fun t ht => by rw [h.size]; exact hd t ht), by rw [put_size]; exact h.size, by rw [put_defers]; exact h.dfs.mono hb, hr⟩

section
variable {P : Program} {fi : FI} {ops : Array Oper} {i : Nat} {rest : List Nat} {o : Oper} {k : List Item}

/-- the frame's operation, wherever it is asked for -/
def Wants (P : Program) (fi : FI) (s : St) (ops : Array Oper) (o : Oper) (t : Bool) : Prop :=
  ∀ β (a : Act), G0 β → EnvR β (maskOf P fi.fid) s.l s.e a.tmps → Region.wanted o (yielded ops a.tmps) = t

theorem goes_pure {s : St} (ho : ops[i]? = some o) (hw : Wants P fi s ops o true) (hdst : ∀ t, o.dst = some t → t < ntmpsOf P fi.fid) (hnd : ∀ c, o.op ≠ .defer c) {v : AV} (hv : PureOk P (maskOf P fi.fid) s.l s.e o v) {l' : Loc} {e' : Env}
    (he : ∀ (β : Be) (a : Act) (v' : Value), EnvR β (maskOf P fi.fid) s.l s.e a.tmps → VR β v v' → (∀ t, o.dst = some t → t < a.tmps.size) → EnvR β (maskOf P fi.fid) l' e' (a.put o.dst v').tmps) :
    Goes P fi s ⟨l', e', s.dfs, s.u, s.σ, s.nx⟩ (.inRegion ops (i :: rest) :: k) (.inRegion ops rest :: k) := by
  refine ⟨Nat.le_refl _, fun β b a md cs0 w h _ => ?_⟩
  obtain ⟨v', h1, h2⟩ := hv β a h.rel.g0 (h.env.opds o.op)
  exact ⟨β, a.put o.dst v', md, w, .one (stepR_gives ho (hw β a h.rel.g0 h.env) hnd (.inl (h2 w))), h.put (fun _ _ h => h) h1 hdst he h.rel, Fr.refl _ _ _ _⟩

theorem goes_read {s : St} (ho : ops[i]? = some o) (hw : Wants P fi s ops o true) (hdst : ∀ t, o.dst = some t → t < ntmpsOf P fi.fid) (hnd : ∀ c, o.op ≠ .defer c) {v : AV}
    (hv : ReadAt (maskOf P) (ntmpsOf P) P (maskOf P fi.fid) s.l s.e o (hof s.σ) v) {l' : Loc} {e' : Env}
    (he : ∀ (β : Be) (a : Act) (v' : Value), EnvR β (maskOf P fi.fid) s.l s.e a.tmps → VR β v v' → (∀ t, o.dst = some t → t < a.tmps.size) → EnvR β (maskOf P fi.fid) l' e' (a.put o.dst v').tmps) :
    Goes P fi s ⟨l', e', s.dfs, s.u, s.σ, s.nx⟩ (.inRegion ops (i :: rest) :: k) (.inRegion ops rest :: k) := by
  refine ⟨Nat.le_refl _, fun β b a md cs0 w h _ => ?_⟩
  obtain ⟨v', h1, h2⟩ := hv β a w h.rel (h.env.opds o.op)
  exact ⟨β, a.put o.dst v', md, w, .one (stepR_gives ho (hw β a h.rel.g0 h.env) hnd (.inl h2)), h.put (fun _ _ h => h) h1 hdst he h.rel, Fr.refl _ _ _ _⟩

theorem goes_alloc {s : St} (ho : ops[i]? = some o) (hw : Wants P fi s ops o true) (hdst : ∀ t, o.dst = some t → t < ntmpsOf P fi.fid) (hnd : ∀ c, o.op ≠ .defer c) {v : AV} {ob : AObj}
    (hv : AllocAt (maskOf P) (ntmpsOf P) P (maskOf P fi.fid) s.l s.e o s.nx v ob) {l' : Loc} {e' : Env} {σ' : Heap} (hσ : hof σ' = upd (hof s.σ) s.nx (some ob))
    (he : ∀ (β : Be) (a : Act) (v' : Value), EnvR β (maskOf P fi.fid) s.l s.e a.tmps → VR β v v' → (∀ t, o.dst = some t → t < a.tmps.size) → EnvR β (maskOf P fi.fid) l' e' (a.put o.dst v').tmps) :
    Goes P fi s ⟨l', e', s.dfs, s.u, σ', s.nx.succ⟩ (.inRegion ops (i :: rest) :: k) (.inRegion ops rest :: k) := by
  refine ⟨by show s.nx.toNat ≤ s.nx.succ.toNat; rw [Pos.toNat_succ]; omega, fun β b a md cs0 w h hf => ?_⟩
  have hnx : β s.nx = none := hf s.nx (Nat.le_refl _) (by show s.nx.toNat < s.nx.succ.toNat; rw [Pos.toNat_succ]; omega)
  obtain ⟨v', w', tot, h1, G, h2, h3⟩ := hv β a w h.rel.g0 (h.env.opds o.op) hnx
  have R := grown_rel h.rel G hnx h3
  have F := grown_fr (β := β) (h := hof s.σ) G (id := s.nx) (tot := tot) (o := ob)
  rw [← hσ] at R F
  exact ⟨_, a.put o.dst v', md, w', .one (stepR_gives ho (hw β a h.rel.g0 h.env) hnd (.inl h1)), h.put (bset_le hnx) h2 hdst he R, F⟩

theorem goes_eff {s : St} (ho : ops[i]? = some o) (hw : Wants P fi s ops o true) (hdst : ∀ t, o.dst = some t → t < ntmpsOf P fi.fid) (hnd : ∀ c, o.op ≠ .defer c) {v : AV} {σ' : Heap} {nx' : Pos}
    (hv : EffAt (maskOf P) (ntmpsOf P) P (maskOf P fi.fid) s.l s.e o s.σ s.nx v σ' nx') {l' : Loc} {e' : Env}
    (he : ∀ (β : Be) (a : Act) (v' : Value), EnvR β (maskOf P fi.fid) s.l s.e a.tmps → VR β v v' → (∀ t, o.dst = some t → t < a.tmps.size) → EnvR β (maskOf P fi.fid) l' e' (a.put o.dst v').tmps) :
    Goes P fi s ⟨l', e', s.dfs, s.u, σ', nx'⟩ (.inRegion ops (i :: rest) :: k) (.inRegion ops rest :: k) := by
  refine ⟨hv.1, fun β b a md cs0 w h hf => ?_⟩
  obtain ⟨β', w', v', h1, h2, h3, h4⟩ := hv.2 β a w h.rel hf (h.env.opds o.op)
  exact ⟨β', a.put o.dst v', md, w', .one (stepR_gives ho (hw β a h.rel.g0 h.env) hnd h1), h.put (h4.mono hf) h2 hdst he h3, h4⟩

theorem goes_skip {s : St} (ho : ops[i]? = some o) (hw : Wants P fi s ops o false) (hdst : ∀ t, o.dst = some t → t < ntmpsOf P fi.fid) {l' : Loc} {e' : Env}
    (he : ∀ (β : Be) (a : Act) (v' : Value), EnvR β (maskOf P fi.fid) s.l s.e a.tmps → VR β (.tuple []) v' → (∀ t, o.dst = some t → t < a.tmps.size) → EnvR β (maskOf P fi.fid) l' e' (a.put o.dst v').tmps) :
    Goes P fi s ⟨l', e', s.dfs, s.u, s.σ, s.nx⟩ (.inRegion ops (i :: rest) :: k) (.inRegion ops rest :: k) := by
  refine ⟨Nat.le_refl _, fun β b a md cs0 w h _ => ?_⟩
  exact ⟨β, a.put o.dst undef, md, w, .one (stepR_not ho (hw β a h.rel.g0 h.env)), h.put (fun _ _ h => h) (.tuple [] [] .nil) hdst he h.rel, Fr.refl _ _ _ _⟩

/-- guards -/
theorem wants_none {s : St} (hg : o.guard = none) : Wants P fi s ops o true := by
  intro β a _ _
  simp [Region.wanted, hg]
theorem wants_some {s : St} {j : Nat} {want : Bool} {t : Tmp} (hg : o.guard = some (j, want)) (ht : (ops[j]?).bind (·.dst) = some t) {g : AV} (hget : GetOk (maskOf P fi.fid) s.l s.e (.tmp t) g) {r : Bool}
    (hr : (∃ bb, g = .bool bb ∧ r = (bb == want)) ∨ (g = .tuple [] ∧ r = false)) : Wants P fi s ops o r := by
  intro β a hG he
  have hv := hget β a hG (he.opd (.tmp t))
  simp only [Region.wanted, hg, yielded, ht, Option.bind_some]
  have hev : a.eval (.tmp t) = a.tmps.getD t undef := rfl
  rw [hev] at hv
  rcases hr with ⟨bb, rfl, rfl⟩ | ⟨rfl, rfl⟩
  · have h1 := hv.bool_inv
    cases hq : a.tmps[t]? with
    | none =>
      rw [Array.getD_eq_getD_getElem?, hq] at h1
      simp [undef] at h1
    | some x =>
      rw [Array.getD_eq_getD_getElem?, hq] at h1
      simp only [Option.getD_some] at h1
      subst h1
      simp
  · obtain ⟨cs', h1, h2⟩ := hv.tuple_inv
    cases hq : a.tmps[t]? with
    | none => simp
    | some x =>
      rw [Array.getD_eq_getD_getElem?, hq] at h1
      simp only [Option.getD_some] at h1
      subst h1
      simp
end
end Go.AE
namespace Go.AE
open Go

/-! ## what a level of the evaluator says of the machine -/
/-- where a code is left -/
def ArrR (P : Program) (m : Machine) (b : Frame) (k : List Item) (cs : List Frame) (β : Be) (e : AExit) (a : Act) (w : World) : Prop :=
  match e with
  | .normal => Steps P m (lone (b.atR a k) cs w)
  | .exit id => ∃ k2, exitTo id k2 = exitTo id k ∧ Steps P m (lone (b.atR a (.code (.exit id) :: k2)) cs w)
  | .ret => ∃ k2, Steps P m (lone (b.atR a (.code .ret :: k2)) cs w)
  | .panic ch => ∃ todo ch', ChR β ch ch' ∧ Steps P m (lone { b.atR a todo with mode := .panicking ch' } cs w)
theorem ArrR.of_steps {P : Program} {m m1 : Machine} {b : Frame} {k : List Item} {cs : List Frame} {β : Be} {e : AExit} {a : Act} {w : World} (h : Steps P m m1) (h' : ArrR P m1 b k cs β e a w) : ArrR P m b k cs β e a w := by
  cases e with
  | normal => exact h.trans h'
  | exit id => obtain ⟨k2, h1, h2⟩ := h'; exact ⟨k2, h1, h.trans h2⟩
  | ret => obtain ⟨k2, h2⟩ := h'; exact ⟨k2, h.trans h2⟩
  | panic ch => obtain ⟨t, c, h1, h2⟩ := h'; exact ⟨t, c, h1, h.trans h2⟩

/-- from the list of items T, with k behind it -/
def ExecFrom (P : Program) (fi : FI) (T : List Item → List Item) (s : St) (e : AExit) (s' : St) : Prop :=
  s.nx.toNat ≤ s'.nx.toNat ∧ ∀ β b a md cs0 w k, StR P fi s β b a md cs0 w → Free β s.nx s'.nx →
    ∃ β' a' md' w', ArrR P (lone (b.atR a (T k)) (withMode md cs0) w) b k (withMode md' cs0) β' e a' w' ∧ StR P fi s' β' b a' md' cs0 w' ∧ Fr β (hof s.σ) w s.nx β' (hof s'.σ) w' s'.nx
/-- a loop that goes on does what the loop does -/
def LoopOk (P : Program) (fi : FI) (code : Code) (s : St) (e : AExit) (s' : St) : Prop := ∀ x, code = .loop x → ExecFrom P fi (fun k => .inLoop x :: k) s e s'
abbrev ExecOk (P : Program) (fi : FI) (code : Code) (s : St) (e : AExit) (s' : St) : Prop := ExecFrom P fi (fun k => .code code :: k) s e s'

def EndR (P : Program) (f : FuncId) (kind : CallKind) (r : Ret) (β : Be) (fr : Frame) (w : World) : Prop :=
  fr.fn = f ∧ fr.defers = [] ∧ fr.kind = kind ∧ ∃ fn, P.funcs[f]? = some fn ∧ match r with
    | .ret v => fr.mode = .returning ∧ ∃ v', VR β v v' ∧ (results fn fr.tmps).run P w = .ok v' w
    | .pan ch => ∃ ch', ChR β ch ch' ∧ fr.mode = .panicking ch'

def CallOk (P : Program) (f : FuncId) (args : List AV) (u : U) (σ : Heap) (nx : Pos) (r : Ret) (u' : U) (σ' : Heap) (nx' : Pos) : Prop :=
  nx.toNat ≤ nx'.toNat ∧ ∀ β w args' kind md cs0, VRs β args args' → Rel (maskOf P) (ntmpsOf P) β (hof σ) w → UR β u kind md cs0 → Free β nx nx' →
    ∃ β' md' w', Rel (maskOf P) (ntmpsOf P) β' (hof σ') w' ∧ UR β' u' kind md' cs0 ∧ Fr β (hof σ) w nx β' (hof σ') w' nx' ∧
      ((∃ v v', r = .ret v ∧ VR β' v v' ∧ (callFunc f ⟨args'⟩).run P w = .ok (.value v') w' ∧ md' = md) ∨
       ((callFunc f ⟨args'⟩).run P w = .ok (.enter f ⟨args'⟩) w ∧ ∃ fr, Steps P (lone (Frame.enter P f ⟨args'⟩ kind) (withMode md cs0) w) (lone fr (withMode md' cs0) w') ∧ EndR P f kind r β' fr w'))

def YieldOk (P : Program) (l : Pos) (args : List AV) (σ : Heap) (nx : Pos) (v : AV) (σ' : Heap) (nx' : Pos) : Prop :=
  nx.toNat ≤ nx'.toNat ∧ ∀ β w args' bl x (c : Frame) (cs : List Frame), β l = some (bl, x) → VRs β args args' → Rel (maskOf P) (ntmpsOf P) β (hof σ) w → Free β nx nx' →
    ∃ β' w' v', Rel (maskOf P) (ntmpsOf P) β' (hof σ') w' ∧ Fr β (hof σ) w nx β' (hof σ') w' nx' ∧ VR β' v v' ∧
      ∃ fid tmps assign body, (Instr.yield bl ⟨args'⟩).run P w = .ok (.round bl fid tmps assign body) w ∧
        Steps P (lone (Frame.round bl fid tmps assign body .normal) (c :: cs) w) (lone (c.finish v') cs w')

structure LvOk (P : Program) (L : Lv) : Prop where
  exec : ∀ fi code env dfs u σ nx K, L.exec fi code env (.mk dfs u σ nx) K → ∃ e env' dfs' u' σ' nx', K e env' (.mk dfs' u' σ' nx') ∧ ExecOk P fi code ⟨.nil, env, dfs, u, σ, nx⟩ e ⟨.nil, env', dfs', u', σ', nx'⟩ ∧
    LoopOk P fi code ⟨.nil, env, dfs, u, σ, nx⟩ e ⟨.nil, env', dfs', u', σ', nx'⟩
  call : ∀ f args u σ nx c, L.call f args u σ nx c → ∃ r u' σ' nx', c r u' σ' nx' ∧ CallOk P f args u σ nx r u' σ' nx'
  yield : ∀ l args σ nx c, L.yield l args σ nx c → ∃ v σ' nx', c v σ' nx' ∧ YieldOk P l args σ nx v σ' nx'

/-! ## calls -/
section
variable {P : Program} {b : Frame} {a : Act} {k : List Item} {cs : List Frame} {w w' : World} {ops : Array Oper} {i : Nat} {rest : List Nat} {o : Oper}

theorem stepR_enter (ho : ops[i]? = some o) (hw : Region.wanted o (yielded ops a.tmps) = true) (hd : ∀ c, o.op ≠ .defer c) {f : FuncId} {args : Array Value} (h : (execOp a.eval o).run P w = .ok (.enter f args) w') :
    step P (lone (b.atR a (.inRegion ops (i :: rest) :: k)) cs w) = .next (lone (Frame.enter P f args .normal) (b.atR a (.inRegion ops (i :: rest) :: k) :: cs) w') := by
  refine step_lone_go ?_
  rw [stepGR_op ho hw, Oper.semAt_eq _ _ _ hd]
  simp [stepG.apply, Sem.runT_eq, h, Frame.atR]
theorem stepR_round (ho : ops[i]? = some o) (hw : Region.wanted o (yielded ops a.tmps) = true) (hd : ∀ c, o.op ≠ .defer c) {l : Nat} {f : FuncId} {tmps : Array Value} {assign body : Code}
    (h : (execOp a.eval o).run P w = .ok (.round l f tmps assign body) w') :
    step P (lone (b.atR a (.inRegion ops (i :: rest) :: k)) cs w) = .next (lone (Frame.round l f tmps assign body .normal) (b.atR a (.inRegion ops (i :: rest) :: k) :: cs) w') := by
  refine step_lone_go ?_
  rw [stepGR_op ho hw, Oper.semAt_eq _ _ _ hd]
  simp [stepG.apply, Sem.runT_eq, h]
end

/-- to a panic of the frame -/
def GoesP (P : Program) (fi : FI) (s s' : St) (T : List Item) (ch : List (AV × Bool)) : Prop :=
  s.nx.toNat ≤ s'.nx.toNat ∧ ∀ β b a md cs0 w, StR P fi s β b a md cs0 w → Free β s.nx s'.nx →
    ∃ β' a' md' w' todo ch', ChR β' ch ch' ∧ Steps P (lone (b.atR a T) (withMode md cs0) w) (lone { b.atR a' todo with mode := .panicking ch' } (withMode md' cs0) w') ∧ StR P fi s' β' b a' md' cs0 w' ∧ Fr β (hof s.σ) w s.nx β' (hof s'.σ) w' s'.nx
theorem Goes.panic {P : Program} {fi : FI} {s s1 s2 : St} {T T1 : List Item} {ch : List (AV × Bool)} (h : Goes P fi s s1 T T1) (h' : GoesP P fi s1 s2 T1 ch) : GoesP P fi s s2 T ch := by
  refine ⟨Nat.le_trans h.1 h'.1, fun β b a md cs0 w hs hf => ?_⟩
  obtain ⟨β1, a1, md1, w1, q1, q2, q3⟩ := h.2 β b a md cs0 w hs (hf.left h'.1)
  obtain ⟨β2, a2, md2, w2, todo, ch', r0, r1, r2, r3⟩ := h'.2 β1 b a1 md1 cs0 w1 q2 (hf.right q3)
  exact ⟨β2, a2, md2, w2, todo, ch', r0, q1.trans r1, r2, q3.trans r3⟩

section
variable {P : Program} {fi : FI} {ops : Array Oper} {i : Nat} {rest : List Nat} {o : Oper} {k : List Item}

/-- the frame goes on with the same temporaries -/
theorem StR.back {s : St} {β β' : Be} {b : Frame} {a : Act} {md : Option FrameMode} {cs0 : List Frame} {w w' : World} (h : StR P fi s β b a md cs0 w) (hb : β.le β') {σ' : Heap} (hr : Rel (maskOf P) (ntmpsOf P) β' (hof σ') w') {nx' : Pos} :
    StR P fi ⟨s.l, s.e, s.dfs, s.u, σ', nx'⟩ β' b a md cs0 w' :=
  ⟨h.fn, h.rnd.mono hb, h.u.mono hb, h.env.mono hb, h.size, h.dfs.mono hb, hr⟩

/-- a call that is entered -/
theorem call_ret {s : St} (ho : ops[i]? = some o) (hw : Wants P fi s ops o true) (hdst : ∀ t, o.dst = some t → t < ntmpsOf P fi.fid) (hnd : ∀ c, o.op ≠ .defer c) {f : FuncId} {args : List AV}
    (hop : ∀ (β : Be) (a : Act), G0 β → EnvR β (maskOf P fi.fid) s.l s.e a.tmps → ∃ args', VRs β args args' ∧ ∀ w, (execOp a.eval o).run P w = (callFunc f ⟨args'⟩).run P w) {r : Ret} {u' : U} {σ' : Heap} {nx' : Pos} (hc : CallOk P f args none s.σ s.nx r u' σ' nx') :
    (∀ v l' e', r = .ret v → (∀ (β : Be) (a : Act) (v' : Value), EnvR β (maskOf P fi.fid) s.l s.e a.tmps → VR β v v' → (∀ t, o.dst = some t → t < a.tmps.size) → EnvR β (maskOf P fi.fid) l' e' (a.put o.dst v').tmps) →
      Goes P fi s ⟨l', e', s.dfs, s.u, σ', nx'⟩ (.inRegion ops (i :: rest) :: k) (.inRegion ops rest :: k)) ∧
    (∀ ch, r = .pan ch → GoesP P fi s ⟨s.l, s.e, s.dfs, s.u, σ', nx'⟩ (.inRegion ops (i :: rest) :: k) ch) := by
  constructor
  · intro v l' e' hr he
    subst hr
    refine ⟨hc.1, fun β b a md cs0 w h hf => ?_⟩
    obtain ⟨args', h1, h2⟩ := hop β a h.rel.g0 h.env
    obtain ⟨β', md', w', R, U', F, hcase⟩ := hc.2 β w args' .normal none (b.atR a (.inRegion ops (i :: rest) :: k) :: withMode md cs0) h1 h.rel ⟨rfl, rfl⟩ hf
    have hb := F.mono hf
    rcases hcase with ⟨v0, v', hr, hv, hrun, _⟩ | ⟨hrun, fr, hst, hend⟩
    · cases hr
      exact ⟨β', a.put o.dst v', md, w', .one (stepR_gives ho (hw β a h.rel.g0 h.env) hnd (.inl (by rw [h2]; exact hrun))), h.put hb hv hdst he R, F⟩
    · obtain ⟨e1, e2, e3, fn, e4, e5, v', hv, e6⟩ := hend
      have hmd : md' = none ∨ ∃ m, u' = some m := by
        cases u' with
        | none => exact .inl U'.2
        | some m => exact .inr ⟨m, rfl⟩
      have hmd : md' = none := by
        rcases hmd with h | ⟨m, rfl⟩
        · exact h
        · exact absurd U'.1 (by simp)
      subst hmd
      have l1 : fr.leaving P w' (.returned v') := ⟨e5, e2, e3, fn, by rw [e1]; exact e4, e6⟩
      have st2 := step_leave_returned (c := b.atR a (.inRegion ops (i :: rest) :: k)) (cs := withMode md cs0) l1
      have hfin := Frame.finish_atR b a ops i rest k v'
      rw [ho] at hfin
      simp only [Option.bind_some] at hfin
      rw [hfin] at st2
      refine ⟨β', a.put o.dst v', md, w', ?_, h.put hb hv hdst he R, F⟩
      exact Steps.head (stepR_enter ho (hw β a h.rel.g0 h.env) hnd (by rw [h2]; exact hrun)) (hst.trans (.one st2))
  · intro ch hr
    subst hr
    refine ⟨hc.1, fun β b a md cs0 w h hf => ?_⟩
    obtain ⟨args', h1, h2⟩ := hop β a h.rel.g0 h.env
    obtain ⟨β', md', w', R, U', F, hcase⟩ := hc.2 β w args' .normal none (b.atR a (.inRegion ops (i :: rest) :: k) :: withMode md cs0) h1 h.rel ⟨rfl, rfl⟩ hf
    have hb := F.mono hf
    rcases hcase with ⟨v0, v', hr, hv, hrun, _⟩ | ⟨hrun, fr, hst, hend⟩
    · cases hr
    · obtain ⟨e1, e2, e3, fn, e4, ch', hch, e5⟩ := hend
      have hmd : md' = none := by
        cases u' with
        | none => exact U'.2
        | some m => exact absurd U'.1 (by simp)
      subst hmd
      have l1 : fr.leaving P w' (.panicked ch') := ⟨e5, e2, fn, by rw [e1]; exact e4⟩
      have st2 := step_leave_panicked (c := b.atR a (.inRegion ops (i :: rest) :: k)) (cs := withMode md cs0) l1
      rw [Frame.raise_atR] at st2
      refine ⟨β', a, md, w', .inRegion ops (i :: rest) :: k, ch', hch, ?_, h.back hb R, F⟩
      exact Steps.head (stepR_enter ho (hw β a h.rel.g0 h.env) hnd (by rw [h2]; exact hrun)) (hst.trans (.one st2))

/-- a call of a loop's body -/
theorem yield_ret {s : St} (ho : ops[i]? = some o) (hw : Wants P fi s ops o true) (hdst : ∀ t, o.dst = some t → t < ntmpsOf P fi.fid) (hnd : ∀ c, o.op ≠ .defer c) {l : Pos} {args : List AV}
    (hop : ∀ (β : Be) (a : Act), G0 β → EnvR β (maskOf P fi.fid) s.l s.e a.tmps → ∃ bl x args', β l = some (bl, x) ∧ VRs β args args' ∧ ∀ w, (execOp a.eval o).run P w = (Instr.yield bl ⟨args'⟩).run P w) {v : AV} {σ' : Heap} {nx' : Pos} (hc : YieldOk P l args s.σ s.nx v σ' nx')
    {l' : Loc} {e' : Env} (he : ∀ (β : Be) (a : Act) (v' : Value), EnvR β (maskOf P fi.fid) s.l s.e a.tmps → VR β v v' → (∀ t, o.dst = some t → t < a.tmps.size) → EnvR β (maskOf P fi.fid) l' e' (a.put o.dst v').tmps) :
      Goes P fi s ⟨l', e', s.dfs, s.u, σ', nx'⟩ (.inRegion ops (i :: rest) :: k) (.inRegion ops rest :: k) := by
  refine ⟨hc.1, fun β b a md cs0 w h hf => ?_⟩
  obtain ⟨bl, x, args', hbl, h1, h2⟩ := hop β a h.rel.g0 h.env
  obtain ⟨β', w', v', R, F, hv, fid, tmps, assign, body, hy, st⟩ := hc.2 β w args' bl x (b.atR a (.inRegion ops (i :: rest) :: k)) (withMode md cs0) hbl h1 h.rel hf
  have hb := F.mono hf
  have hfin := Frame.finish_atR b a ops i rest k v'
  rw [ho] at hfin
  simp only [Option.bind_some] at hfin
  rw [hfin] at st
  exact ⟨β', a.put o.dst v', md, w', Steps.head (stepR_round ho (hw β a h.rel.g0 h.env) hnd (by rw [h2]; exact hy)) st, h.put hb hv hdst he R, F⟩
end
end Go.AE
namespace Go.AE
open Go

/-- what is no destination stays -/
def Agree (m : Nat) (d : Option Tmp) (e e' : Env) : Prop := ∀ p, (∀ t, d = some t → bit m t = true → p ≠ Pos.ofNat t) → T.get p e' = T.get p e
theorem put_agree {m : Nat} {d : Option Tmp} {v : AV} {l : Loc} {e : Env} {c : Loc → Env → Prop} (h : (put (dst m d)).run v l e c) :
    ∃ l' e', c l' e' ∧ Agree m d e e' ∧ ∀ (β : Be) (a : Act) (v' : Value), EnvR β m l e a.tmps → VR β v v' → (∀ t, d = some t → t < a.tmps.size) → EnvR β m l' e' (a.put d v').tmps := by
  obtain ⟨l', e', ⟨h1, h3⟩, h2⟩ := put_spec (c := fun l' e' => c l' e' ∧ Agree m d e e') (m := m) (d := d) (v := v) (l := l) (e := e) (by
    cases d with
    | none => exact ⟨h, fun p _ => rfl⟩
    | some t =>
      simp only [dst] at h ⊢
      by_cases hb : bit m t = true
      · rw [hb] at h ⊢
        simp only [cond_true] at h ⊢
        have h' : T.set (Pos.ofNat t) e (some v) fun env => c l env := h
        show T.set (Pos.ofNat t) e (some v) fun env => c l env ∧ Agree m (some t) e env
        have key : ∀ (p : Pos) (tr : T AV) (c : T AV → Prop) (Q : T AV → Prop), (∀ t', (∀ q, T.get q t' = if q = p then some v else T.get q tr) → Q t') → T.set p tr (some v) c → T.set p tr (some v) fun t' => c t' ∧ Q t' := by
          intro p
          induction p with
          | h =>
            intro tr c Q hq hs
            cases tr with
            | lf => exact ⟨hs, hq _ fun q => by cases q <;> simp [T.get_h, T.get_o, T.get_i, T.get_lf]⟩
            | nd l x r => exact ⟨hs, hq _ fun q => by cases q <;> simp [T.get_h, T.get_o, T.get_i]⟩
          | o p ih =>
            intro tr c Q hq hs
            cases tr with
            | lf => exact ih .lf (fun l' => c (.nd l' none .lf)) (fun l' => Q (.nd l' none .lf)) (fun t' ht => hq _ fun q => by cases q <;> simp [T.get_h, T.get_o, T.get_i, T.get_lf, ht]) hs
            | nd l x r => exact ih l (fun l' => c (.nd l' x r)) (fun l' => Q (.nd l' x r)) (fun t' ht => hq _ fun q => by cases q <;> simp [T.get_h, T.get_o, T.get_i, ht]) hs
          | i p ih =>
            intro tr c Q hq hs
            cases tr with
            | lf => exact ih .lf (fun l' => c (.nd .lf none l')) (fun l' => Q (.nd .lf none l')) (fun t' ht => hq _ fun q => by cases q <;> simp [T.get_h, T.get_o, T.get_i, T.get_lf, ht]) hs
            | nd l x r => exact ih r (fun l' => c (.nd l x l')) (fun l' => Q (.nd l x l')) (fun t' ht => hq _ fun q => by cases q <;> simp [T.get_h, T.get_o, T.get_i, ht]) hs
        exact key (Pos.ofNat t) e (fun env => c l env) _ (fun t' ht p hp => by rw [ht, if_neg (hp t rfl hb)]) h'
      · have hb' : bit m t = false := by simpa using hb
        rw [hb'] at h ⊢
        exact ⟨h, fun p _ => rfl⟩)
  exact ⟨l', e', h1, h3, h2⟩

theorem comp_defer {P : Program} {m : Nat} (c : Call) : (∃ e, comp P m (.defer c) = .e e) ∨ ∃ o, comp P m (.defer c) = .bad o := by
  obtain ⟨cal, args, ats⟩ := c
  cases cal with
  | value f => exact .inl ⟨_, rfl⟩
  | invoke _ _ => exact .inr ⟨_, rfl⟩
  | builtin b => exact .inr ⟨_, rfl⟩

section
variable {P : Program} {L : Lv} {fi : FI} {ops : Array Oper} {i : Nat} {o : Oper}

/-- what an operation of a region comes to -/
def OpOut (P : Program) (fi : FI) (ops : Array Oper) (i : Nat) (o : Oper) (s : St) (K : Loc → Env → W → Prop) (pan : KP) : Prop :=
  (∃ l' e' dfs' u' σ' nx', K l' e' (.mk dfs' u' σ' nx') ∧ Agree (maskOf P fi.fid) o.dst s.e e' ∧ ∀ rest k, Goes P fi s ⟨l', e', dfs', u', σ', nx'⟩ (.inRegion ops (i :: rest) :: k) (.inRegion ops rest :: k)) ∨
  (∃ ch dfs' u' σ' nx', pan ch (.mk dfs' u' σ' nx') ∧ ∀ rest k, GoesP P fi s ⟨s.l, s.e, dfs', u', σ', nx'⟩ (.inRegion ops (i :: rest) :: k) ch)

theorem opX_p {s : St} (ho : ops[i]? = some o) (hw : Wants P fi s ops o true) (hdst : ∀ t, o.dst = some t → t < ntmpsOf P fi.fid) {px : PX} (hx : comp P (maskOf P fi.fid) o.op = .p px) {K : Loc → Env → W → Prop} {pan : KP}
    (h : (opX (dst (maskOf P fi.fid) o.dst) (.p px)).run L fi s.l s.e (.mk s.dfs s.u s.σ s.nx) K pan) : OpOut P fi ops i o s K pan := by
  have h' : (opP px).run s.l s.e fun v => (put (dst (maskOf P fi.fid) o.dst)).run v s.l s.e fun l e => K l e (.mk s.dfs s.u s.σ s.nx) := by
    cases px <;> exact h
  have hnd : ∀ c, o.op ≠ .defer c := by
    intro c hc
    rw [hc] at hx
    rcases comp_defer (P := P) (m := maskOf P fi.fid) c with ⟨e, h⟩ | ⟨e, h⟩ <;> rw [h] at hx <;> cases hx
  obtain ⟨v, h1, h2⟩ := comp_pure o hx h'
  obtain ⟨l', e', h3, h4, h5⟩ := put_agree h1
  exact .inl ⟨l', e', s.dfs, s.u, s.σ, s.nx, h3, h4, fun rest k => goes_pure ho hw hdst hnd h2 h5⟩

theorem opX_r {s : St} (ho : ops[i]? = some o) (hw : Wants P fi s ops o true) (hdst : ∀ t, o.dst = some t → t < ntmpsOf P fi.fid) {rx : RX} (hx : comp P (maskOf P fi.fid) o.op = .r rx) {K : Loc → Env → W → Prop} {pan : KP}
    (h : (opX (dst (maskOf P fi.fid) o.dst) (.r rx)).run L fi s.l s.e (.mk s.dfs s.u s.σ s.nx) K pan) : OpOut P fi ops i o s K pan := by
  have hnd : ∀ c, o.op ≠ .defer c := by
    intro c hc
    rw [hc] at hx
    rcases comp_defer (P := P) (m := maskOf P fi.fid) c with ⟨e, h⟩ | ⟨e, h⟩ <;> rw [h] at hx <;> cases hx
  obtain ⟨v, h1, h2⟩ := comp_read (mk := maskOf P) (nt := ntmpsOf P) o hx h
  obtain ⟨l', e', h3, h4, h5⟩ := put_agree h1
  exact .inl ⟨l', e', s.dfs, s.u, s.σ, s.nx, h3, h4, fun rest k => goes_read ho hw hdst hnd h2 h5⟩

theorem opX_a {s : St} (ho : ops[i]? = some o) (hw : Wants P fi s ops o true) (hdst : ∀ t, o.dst = some t → t < ntmpsOf P fi.fid) {ax : AX} (hx : comp P (maskOf P fi.fid) o.op = .a ax) {K : Loc → Env → W → Prop} {pan : KP}
    (h : (opX (dst (maskOf P fi.fid) o.dst) (.a ax)).run L fi s.l s.e (.mk s.dfs s.u s.σ s.nx) K pan) : OpOut P fi ops i o s K pan := by
  have hnd : ∀ c, o.op ≠ .defer c := by
    intro c hc
    rw [hc] at hx
    rcases comp_defer (P := P) (m := maskOf P fi.fid) c with ⟨e, h⟩ | ⟨e, h⟩ <;> rw [h] at hx <;> cases hx
  obtain ⟨v, ob, h1, h2⟩ := comp_alloc (mk := maskOf P) (nt := ntmpsOf P) o hx h
  obtain ⟨σ', h3, h4⟩ := set_spec h1
  obtain ⟨l', e', h5, h6, h7⟩ := put_agree h3
  exact .inl ⟨l', e', s.dfs, s.u, σ', s.nx.succ, h5, h6, fun rest k => goes_alloc ho hw hdst hnd h2 h4 h7⟩

theorem eff_out {s : St} (ho : ops[i]? = some o) (hw : Wants P fi s ops o true) (hdst : ∀ t, o.dst = some t → t < ntmpsOf P fi.fid) (hnd : ∀ c, o.op ≠ .defer c) {v : AV} {σ' : Heap} {nx' : Pos}
    (h2 : EffAt (maskOf P) (ntmpsOf P) P (maskOf P fi.fid) s.l s.e o s.σ s.nx v σ' nx') {K : Loc → Env → W → Prop} {pan : KP} (h : (put (dst (maskOf P fi.fid) o.dst)).run v s.l s.e fun l e => K l e (.mk s.dfs s.u σ' nx')) : OpOut P fi ops i o s K pan := by
  obtain ⟨l', e', h3, h4, h5⟩ := put_agree h
  exact .inl ⟨l', e', s.dfs, s.u, σ', nx', h3, h4, fun rest k => goes_eff ho hw hdst hnd h2 h5⟩
end
end Go.AE
