/-
  A part of the proof that the evaluator is sound: what it finds, the machine does, whatever the tape; conditions as each theorem names them.
-/
import Derived.Laws.StructEq
import Derived.Laws.Cells
import Derived.Test.YtodboimcfpefhaaGreatDoorAe2
namespace Go.AE
open Go
section
variable {P : Program} {m : Nat} {l : Loc} {e : Env} {dst : Option Tmp} {ty : TypeId} {pos : String} {aft : Array Edge} {gd : Option (Nat × Bool)}

theorem pure_slca {x : Operand} {t el : TypeId} {N es : Nat} {lo hi mx : Option Operand} {c : AV → Prop} (hd : und P t = some (.array N el)) (hz : sizeT P el = some (es + 1)) (hmx : mx.isSome = true → hi.isSome = true)
    (h : (get (xo m x)).run l e fun v => slcaK l e N (es + 1) v (lo.map (xo m)) (hi.map (xo m)) (mx.map (xo m)) c) :
    ∃ v, c v ∧ PureOk P m l e ⟨dst, .slice t x lo hi mx, ty, pos, aft, gd⟩ v := by
  obtain ⟨v, hc, hx⟩ := get_spec m l e x h
  have oL : ∀ y, lo = some y → y ∈ (Op.slice t x lo hi mx).operands := by intro y hy; subst hy; simp [Op.operands]
  have oH : ∀ y, hi = some y → y ∈ (Op.slice t x lo hi mx).operands := by intro y hy; subst hy; simp [Op.operands]
  have oM : ∀ y, mx = some y → y ∈ (Op.slice t x lo hi mx).operands := by intro y hy; subst hy; simp [Op.operands]
  have addr : ∀ (b n i : Nat), ({ block := b, off := n } : Addr).add (i * (es + 1)) = ⟨b, n + i * (es + 1), none⟩ := by
    intro b n i; unfold Addr.add; split <;> simp_all
  cases v
  case ptr id off =>
    simp only [slcaK] at hc
    obtain ⟨k, hc1, hk⟩ := onat_bound mx N hc
    obtain ⟨j, hc2, hj⟩ := onat_bound hi N hc1
    obtain ⟨i, hc3, hi'⟩ := onat_bound lo 0 hc2
    obtain ⟨hq, hc4⟩ := ite'_true hc3
    simp only [Bool.and_eq_true, ble_iff, decide_eq_true_eq] at hq
    simp only [slcTo, forceNat_eq] at hc4
    refine ⟨_, hc4, fun β a hG ho => ?_⟩
    obtain ⟨b, base, tot, hb, he⟩ := (hx β a hG (ho x (by simp [Op.operands]))).ptr_inv
    refine ⟨.slice (some (if k = i then ⟨b, base + off, none⟩ else (⟨b, base + off, none⟩ : Addr).add (i * (es + 1)))) (j - i) (k - i), ?_, fun w => ?_⟩
    · rw [beq_dec]
      by_cases hki : k = i
      · simp only [hki, decide_true, cond_true, if_true]
        exact .slice id off (j - i) (some (i - i)) (es + 1) b base tot (i - i) hb (by omega) (by simp) (by simp)
      · simp only [hki, decide_false, cond_false, if_false, addr, Nat.add_assoc]
        exact .slice id (off + i * (es + 1)) (j - i) (some (k - i)) (es + 1) b base tot (k - i) hb (by omega) (by simp) (by simp)
    · simp only [execOp, Instr.sliceAt]
      simp [run_underlying hd, he, Instr.sureAddr, run_bounds (hi' β a hG fun y hy => ho y (oL y hy)) (hj β a hG fun y hy => ho y (oH y hy)) (hk β a hG fun y hy => ho y (oM y hy)) hq.1.1 hq.1.2 hq.2 (by simpa using hmx), run_sizeOf hz]
  all_goals exact hc.elim

theorem extract_list (s : ByteArray) (i j : Nat) : (s.extract i j).data.toList = (s.data.toList.drop i).take (j - i) := by
  rw [ByteArray.data_extract, Array.toList_extract, List.extract_eq_take_drop]

theorem pure_slcs {x : Operand} {t : TypeId} {lo hi : Option Operand} {c : AV → Prop} (hd : und P t = some .string)
    (h : (get (xo m x)).run l e fun v => slcsK l e v (lo.map (xo m)) (hi.map (xo m)) c) :
    ∃ v, c v ∧ PureOk P m l e ⟨dst, .slice t x lo hi none, ty, pos, aft, gd⟩ v := by
  obtain ⟨v, hc, hx⟩ := get_spec m l e x h
  have oL : ∀ y, lo = some y → y ∈ (Op.slice t x lo hi none).operands := by intro y hy; subst hy; simp [Op.operands]
  have oH : ∀ y, hi = some y → y ∈ (Op.slice t x lo hi none).operands := by intro y hy; subst hy; simp [Op.operands]
  have run : ∀ (a : Act) (s : ByteArray) (i j : Nat) w, a.eval x = .string s → BoundIs (lo.map a.eval) 0 i → BoundIs (hi.map a.eval) s.size j → j ≤ s.size → i ≤ j →
      (execOp a.eval ⟨dst, .slice t x lo hi none, ty, pos, aft, gd⟩).run P w = .ok (.value (.string (s.extract i j))) w := by
    intro a s i j w he h1 h2 b1 b2
    simp only [execOp, Instr.sliceAt]
    simp [run_underlying hd, Instr.slice, he, run_bounds (mx := none) h1 h2 (.inl ⟨rfl, rfl⟩) (Nat.le_refl _) b1 b2 (by simp)]
  cases v
  case str s =>
    rcases hi with _ | y
    · simp only [slcsK, Option.map_none] at hc
      obtain ⟨i, hc1, hi'⟩ := onat_bound lo 0 hc
      obtain ⟨hle, hc2⟩ := dropK_spec _ _ _ hc1
      refine ⟨_, hc2, fun β a hG ho => ?_⟩
      obtain ⟨s', he, hs⟩ := (hx β a hG (ho x (by simp [Op.operands]))).str_inv
      have hlen : s.length = s'.size := by rw [hs]; simp
      refine ⟨_, ?_, fun w => run a s' i s'.size w he (hi' β a hG fun y hy => ho y (oL y hy)) (.inl ⟨rfl, rfl⟩) (Nat.le_refl _) (by omega)⟩
      have e1 : s.drop i = (s'.extract i s'.size).data.toList.map UInt8.toNat := by
        rw [extract_list, hs, List.map_take, List.map_drop, List.take_of_length_le]
        simp
      rw [e1]; exact .str _
    · simp only [slcsK, Option.map_some] at hc
      obtain ⟨j, hc0, hj⟩ := onat_bound (some y) 0 hc
      obtain ⟨i, hc1, hi'⟩ := onat_bound lo 0 hc0
      obtain ⟨hq, hc2⟩ := ite'_true hc1
      rw [ble_iff, decide_eq_true_eq] at hq
      obtain ⟨hle, hc3⟩ := dropK_spec _ _ _ hc2
      obtain ⟨hle2, hc4⟩ := takeK_spec _ _ _ hc3
      refine ⟨_, hc4, fun β a hG ho => ?_⟩
      obtain ⟨s', he, hs⟩ := (hx β a hG (ho x (by simp [Op.operands]))).str_inv
      have hlen : s.length = s'.size := by rw [hs]; simp
      rw [List.length_drop] at hle2
      have hj' : BoundIs ((some y).map a.eval) s'.size j := by
        rcases hj β a hG fun y hy => ho y (oH y hy) with ⟨h1, _⟩ | h1
        · simp at h1
        · exact .inr h1
      refine ⟨_, ?_, fun w => run a s' i j w he (hi' β a hG fun y hy => ho y (oL y hy)) hj' (by omega) hq⟩
      have e1 : (s.drop i).take (j - i) = (s'.extract i j).data.toList.map UInt8.toNat := by
        rw [extract_list, hs, List.map_take, List.map_drop]
      rw [e1]; exact .str _
  all_goals exact hc.elim

theorem part_spec {t : TypeId} {g : Bool} {n off : Nat} {cs : List AV} {cs' : List Value} {c : AV → Prop} (hz : sizeT P t = some n) (hg : isAggT P t = some g) (h : partK cs off n g c) :
    ∃ v, c v ∧ ∀ β, VRs β cs cs' → ∃ v', VR β v v' ∧ ∀ w, (part t ⟨cs'⟩ off).run P w = .ok v' w := by
  unfold partK at h
  rw [ite'_eq] at h
  by_cases hg' : g = true
  · rw [if_pos hg'] at h
    obtain ⟨h1, h⟩ := dropK_spec _ _ _ h
    obtain ⟨h2, h⟩ := takeK_spec _ _ _ h
    refine ⟨_, h, fun β hv => ⟨.agg ⟨(cs'.drop off).take n⟩, .agg _ _ ((hv.drop off).take n), fun w => ?_⟩⟩
    simp [part, run_isAgg hg, hg', run_sizeOf hz]
  · rw [if_neg hg'] at h
    obtain ⟨v, hv, h⟩ := nth_spec _ _ _ h
    refine ⟨v, h, fun β hvs => ?_⟩
    obtain ⟨v', h1, h2⟩ := hvs.get hv
    refine ⟨v', h2, fun w => ?_⟩
    simp [part, run_isAgg hg, hg', h1]

theorem pure_fld {x : Operand} {s : TypeId} {f n : Nat} {g : Bool} {fs : Array Field} {fd : Field} {c : AV → Prop} (hs : und P s = some (.struct fs)) (hf : fs[f]? = some fd)
    (hz : sizeT P fd.type = some n) (hg : isAggT P fd.type = some g) (h : (get (xo m x)).run l e fun v => fldK fd.offset n g v c) :
    ∃ v, c v ∧ PureOk P m l e ⟨dst, .field s x f, ty, pos, aft, gd⟩ v := by
  obtain ⟨v, hc, hx⟩ := get_spec m l e x h
  cases v
  case agg cs =>
    simp only [fldK] at hc
    have hex : ∃ r, c r ∧ ∀ cs', ∀ β, VRs β cs cs' → ∃ v', VR β r v' ∧ ∀ w, (part fd.type ⟨cs'⟩ fd.offset).run P w = .ok v' w := by
      unfold partK at hc
      rw [ite'_eq] at hc
      by_cases hg' : g = true
      · rw [if_pos hg'] at hc
        obtain ⟨h1, h2⟩ := dropK_spec _ _ _ hc
        obtain ⟨h3, h4⟩ := takeK_spec _ _ _ h2
        refine ⟨_, h4, fun cs' β hv => ⟨.agg ⟨(cs'.drop fd.offset).take n⟩, .agg _ _ ((hv.drop _).take n), fun w => ?_⟩⟩
        simp [part, run_isAgg hg, hg', run_sizeOf hz]
      · rw [if_neg hg'] at hc
        obtain ⟨v, hv, h⟩ := nth_spec _ _ _ hc
        refine ⟨v, h, fun cs' β hvs => ?_⟩
        obtain ⟨v', h1, h2⟩ := hvs.get hv
        refine ⟨v', h2, fun w => ?_⟩
        simp [part, run_isAgg hg, hg', h1]
    obtain ⟨r, hr, hp⟩ := hex
    refine ⟨r, hr, fun β a hG ho => ?_⟩
    obtain ⟨cs', he, hvs⟩ := (hx β a hG (ho x (by simp [Op.operands]))).agg_inv
    obtain ⟨v', h1, h2⟩ := hp cs' β hvs
    refine ⟨v', h1, fun w => ?_⟩
    simp [execOp, Instr.field, run_underlying hs, hf, he, asAgg, h2]
  all_goals exact hc.elim

theorem pure_idxa {x y : Operand} {t el : TypeId} {N es : Nat} {g : Bool} {c : AV → Prop} (hd : und P t = some (.array N el)) (hz : sizeT P el = some es) (hg : isAggT P el = some g)
    (h : (get (xo m x)).run l e fun v => (get (xo m y)).run l e fun i => idxaK N es g v i c) :
    ∃ v, c v ∧ PureOk P m l e ⟨dst, .index t x y, ty, pos, aft, gd⟩ v := by
  obtain ⟨v, h, hx⟩ := get_spec m l e x h
  obtain ⟨u, hc, hy⟩ := get_spec m l e y h
  cases v
  case agg cs =>
    simp only [idxaK] at hc
    obtain ⟨k, i, hv, hc1⟩ := asNat_spec hc
    subst hv
    obtain ⟨hq, hc2⟩ := ite'_true hc1
    rw [blt_iff, decide_eq_true_eq] at hq
    have hex : ∃ r, c r ∧ ∀ cs', ∀ β, VRs β cs cs' → ∃ v', VR β r v' ∧ ∀ w, (part el ⟨cs'⟩ (i * es)).run P w = .ok v' w := by
      unfold partK at hc2
      rw [ite'_eq] at hc2
      by_cases hg' : g = true
      · rw [if_pos hg'] at hc2
        obtain ⟨h1, h2⟩ := dropK_spec _ _ _ hc2
        obtain ⟨h3, h4⟩ := takeK_spec _ _ _ h2
        refine ⟨_, h4, fun cs' β hv => ⟨.agg ⟨(cs'.drop (i * es)).take es⟩, .agg _ _ ((hv.drop _).take es), fun w => ?_⟩⟩
        simp [part, run_isAgg hg, hg', run_sizeOf hz]
      · rw [if_neg hg'] at hc2
        obtain ⟨v, hv, h⟩ := nth_spec _ _ _ hc2
        refine ⟨v, h, fun cs' β hvs => ?_⟩
        obtain ⟨v', h1, h2⟩ := hvs.get hv
        refine ⟨v', h2, fun w => ?_⟩
        simp [part, run_isAgg hg, hg', h1]
    obtain ⟨r, hr, hp⟩ := hex
    refine ⟨r, hr, fun β a hG ho => ?_⟩
    obtain ⟨cs', he, hvs⟩ := (hx β a hG (ho x (by simp [Op.operands]))).agg_inv
    have e2 := (hy β a hG (ho y (by simp [Op.operands]))).int_inv
    obtain ⟨v', h1, h2⟩ := hp cs' β hvs
    refine ⟨v', h1, fun w => ?_⟩
    have h0 : (0 : Int) ≤ (i : Int) := by omega
    have hl : (i : Int) < (N : Int) := by omega
    simp [execOp, he, e2, Instr.index, asIntOf, run_underlying hd, h0, run_sizeOf hz, h2, hq]
  all_goals exact hc.elim

theorem equal_of {t : TypeId} {x y : Value} {r : Bool} {w : World} (h : ∀ d, (Op.equalIn (d + 1) t x y).run P w = .ok r w) : (Op.equal t x y).run P w = .ok r w := h 9999

theorem pure_eq {op : BinOp} {neg : Bool} {k : EK} {x y : Operand} {t yt : TypeId} {d : TypeDesc} {c : AV → Prop} (hop : (op = .eql ∧ neg = false) ∨ (op = .neq ∧ neg = true)) (hd : und P t = some d)
    (hk : match k with | .bool => d = .bool | .slice => ∃ e, d = .slice e | .map => ∃ a b, d = .map a b | .func => ∃ a b v, d = .func a b v | .iface => (∃ ms, d = .interface ms) ∧ ((∃ u, x = .const u) ∨ ∃ u, y = .const u))
    (h : (get (xo m x)).run l e fun a => (get (xo m y)).run l e fun b => eqK k neg a b c) :
    ∃ v, c v ∧ PureOk P m l e ⟨dst, .binOp op t x y yt, ty, pos, aft, gd⟩ v := by
  obtain ⟨u, h, hx⟩ := get_spec m l e x h
  obtain ⟨v, hc, hy⟩ := get_spec m l e y h
  have step : ∀ (a : Act) (w : World) (r : Bool), (∀ cs, a.eval x ≠ .agg cs) → (a.eval x = .nilIface → ((∃ u, x = .const u) ∨ ∃ u, y = .const u)) →
      (∀ k n, a.eval x ≠ .int k n) → (∀ k n, a.eval x ≠ .float k n) → (∀ k p q, a.eval x ≠ .complex k p q) → (∀ s, a.eval x ≠ .string s) →
      (Op.equal t (a.eval x) (a.eval y)).run P w = .ok r w →
      (execOp a.eval ⟨dst, .binOp op t x y yt, ty, pos, aft, gd⟩).run P w = .ok (.value (.bool (neg != r))) w := by
    intro a w r h1 h2 h3 h4 h5 h6 h7
    have grd : (eqGuard op t x y (a.eval x) (a.eval y)).run P w = .ok () w := by
      unfold eqGuard
      rcases hop with ⟨rfl, _⟩ | ⟨rfl, _⟩
      all_goals
        cases hxe : a.eval x with
        | agg cs => exact absurd hxe (h1 cs)
        | nilIface =>
          rcases h2 hxe with ⟨u, rfl⟩ | ⟨u, rfl⟩ <;> cases a.eval _ <;> simp
        | _ => simp
    have bo : (binOp op t (a.eval x) (a.eval y)).run P w = .ok (.bool (neg != r)) w := by
      rcases hop with ⟨rfl, rfl⟩ | ⟨rfl, rfl⟩
      all_goals
        cases hxe : a.eval x with
        | int k n => exact absurd hxe (h3 k n)
        | float k n => exact absurd hxe (h4 k n)
        | complex k p q => exact absurd hxe (h5 k p q)
        | string s => exact absurd hxe (h6 s)
        | _ => rw [hxe] at h7; simp [binOp, h7]
    simp [execOp, grd, bo]
  have fin : ∀ (r : Bool), c (.bool (neg != r)) → (∀ β a, G0 β → OpdsR β m l e a (.binOp op t x y yt) →
      (∀ cs, a.eval x ≠ .agg cs) ∧ (a.eval x = .nilIface → ((∃ u, x = .const u) ∨ ∃ u, y = .const u)) ∧ (∀ k n, a.eval x ≠ .int k n) ∧ (∀ k n, a.eval x ≠ .float k n) ∧
      (∀ k p q, a.eval x ≠ .complex k p q) ∧ (∀ s, a.eval x ≠ .string s) ∧ ∀ w, (Op.equal t (a.eval x) (a.eval y)).run P w = .ok r w) →
      ∃ v, c v ∧ PureOk P m l e ⟨dst, .binOp op t x y yt, ty, pos, aft, gd⟩ v := by
    intro r hr hall
    refine ⟨_, hr, fun β a hG ho => ⟨_, .bool _, fun w => ?_⟩⟩
    obtain ⟨h1, h2, h3, h4, h5, h6, h7⟩ := hall β a hG ho
    exact step a w r h1 h2 h3 h4 h5 h6 (h7 w)
  have hu := und_spec hd
  have vx : ∀ β a, G0 β → OpdsR β m l e a (.binOp op t x y yt) → VR β u (a.eval x) := fun β a hG ho => hx β a hG (ho x (by simp [Op.operands]))
  have vy : ∀ β a, G0 β → OpdsR β m l e a (.binOp op t x y yt) → VR β v (a.eval y) := fun β a hG ho => hy β a hG (ho y (by simp [Op.operands]))
  unfold eqK at hc
  split at hc <;> simp only [mkBool_eq] at hc
  · rename_i p q _
    subst hk
    refine fin (p == q) hc fun β a hG ho => ?_
    rw [(vx β a hG ho).bool_inv, (vy β a hG ho).bool_inv]
    refine ⟨by simp, by simp, by simp, by simp, by simp, by simp, fun w => equal_of fun d => by simp [Op.equalIn, underlying, hu]⟩
  · obtain ⟨el, rfl⟩ := hk
    refine fin true (by simpa using hc) fun β a hG ho => ?_
    rw [(vx β a hG ho).nilslice_inv, (vy β a hG ho).nilslice_inv]
    exact ⟨by simp, by simp, by simp, by simp, by simp, by simp, fun w => equal_of fun d => by simp [Op.equalIn, underlying, hu]⟩
  · obtain ⟨el, rfl⟩ := hk
    refine fin false (by simpa using hc) fun β a hG ho => ?_
    rw [(vx β a hG ho).nilslice_inv]
    rcases (vy β a hG ho).slice_inv with ⟨_, _, _, _, he, _⟩ | ⟨_, _, he, _⟩ <;> rw [he] <;>
      exact ⟨by simp, by simp, by simp, by simp, by simp, by simp, fun w => equal_of fun d => by simp [Op.equalIn, underlying, hu]⟩
  · obtain ⟨el, rfl⟩ := hk
    refine fin false (by simpa using hc) fun β a hG ho => ?_
    rw [(vy β a hG ho).nilslice_inv]
    rcases (vx β a hG ho).slice_inv with ⟨_, _, _, _, he, _⟩ | ⟨_, _, he, _⟩ <;> rw [he] <;>
      exact ⟨by simp, by simp, by simp, by simp, by simp, by simp, fun w => equal_of fun d => by simp [Op.equalIn, underlying, hu]⟩
  · obtain ⟨k1, e1, rfl⟩ := hk
    refine fin true (by simpa using hc) fun β a hG ho => ?_
    rw [(vx β a hG ho).nilmap_inv, (vy β a hG ho).nilmap_inv]
    exact ⟨by simp, by simp, by simp, by simp, by simp, by simp, fun w => equal_of fun d => by simp [Op.equalIn, underlying, hu]⟩
  · obtain ⟨k1, e1, rfl⟩ := hk
    refine fin false (by simpa using hc) fun β a hG ho => ?_
    obtain ⟨b, _, he, _⟩ := (vy β a hG ho).map_inv
    rw [(vx β a hG ho).nilmap_inv, he]
    exact ⟨by simp, by simp, by simp, by simp, by simp, by simp, fun w => equal_of fun d => by simp [Op.equalIn, underlying, hu]⟩
  · obtain ⟨k1, e1, rfl⟩ := hk
    refine fin false (by simpa using hc) fun β a hG ho => ?_
    obtain ⟨b, _, he, _⟩ := (vx β a hG ho).map_inv
    rw [(vy β a hG ho).nilmap_inv, he]
    exact ⟨by simp, by simp, by simp, by simp, by simp, by simp, fun w => equal_of fun d => by simp [Op.equalIn, underlying, hu]⟩
  · obtain ⟨k1, k2, k3, rfl⟩ := hk
    refine fin true (by simpa using hc) fun β a hG ho => ?_
    rw [(vx β a hG ho).nilfunc_inv, (vy β a hG ho).nilfunc_inv]
    exact ⟨by simp, by simp, by simp, by simp, by simp, by simp, fun w => equal_of fun d => by simp [Op.equalIn, underlying, hu]⟩
  · obtain ⟨k1, k2, k3, rfl⟩ := hk
    refine fin false (by simpa using hc) fun β a hG ho => ?_
    obtain ⟨_, _, _, _, he, _⟩ := (vy β a hG ho).func_inv
    rw [(vx β a hG ho).nilfunc_inv, he]
    exact ⟨by simp, by simp, by simp, by simp, by simp, by simp, fun w => equal_of fun d => by simp [Op.equalIn, underlying, hu]⟩
  · obtain ⟨k1, k2, k3, rfl⟩ := hk
    refine fin false (by simpa using hc) fun β a hG ho => ?_
    obtain ⟨_, _, _, _, he, _⟩ := (vx β a hG ho).func_inv
    rw [(vy β a hG ho).nilfunc_inv, he]
    exact ⟨by simp, by simp, by simp, by simp, by simp, by simp, fun w => equal_of fun d => by simp [Op.equalIn, underlying, hu]⟩
  · obtain ⟨⟨ms, rfl⟩, hk⟩ := hk
    refine fin true (by simpa using hc) fun β a hG ho => ?_
    rw [(vx β a hG ho).nilIface_inv, (vy β a hG ho).nilIface_inv]
    exact ⟨by simp, fun _ => hk, by simp, by simp, by simp, by simp, fun w => equal_of fun d => by simp [Op.equalIn, underlying, hu]⟩
  · obtain ⟨⟨ms, rfl⟩, hk⟩ := hk
    refine fin false (by simpa using hc) fun β a hG ho => ?_
    obtain ⟨_, he, _⟩ := (vy β a hG ho).iface_inv
    rw [(vx β a hG ho).nilIface_inv, he]
    exact ⟨by simp, fun _ => hk, by simp, by simp, by simp, by simp, fun w => equal_of fun d => by simp [Op.equalIn, underlying, hu]⟩
  · obtain ⟨⟨ms, rfl⟩, hk⟩ := hk
    refine fin false (by simpa using hc) fun β a hG ho => ?_
    obtain ⟨_, he, _⟩ := (vx β a hG ho).iface_inv
    rw [(vy β a hG ho).nilIface_inv, he]
    exact ⟨by simp, fun _ => hk, by simp, by simp, by simp, by simp, fun w => equal_of fun d => by simp [Op.equalIn, underlying, hu]⟩
end
end Go.AE
namespace Go.AE
open Go
section
variable {P : Program} {m : Nat} {l : Loc} {e : Env} {dst : Option Tmp} {ty : TypeId} {pos : String} {aft : Array Edge} {gd : Option (Nat × Bool)}

theorem bytes_beq (a b : ByteArray) : (a == b) = (a.data.toList == b.data.toList) := by
  rw [beq_toListBytes, ByteArray.toList_eq, ByteArray.toList_eq]

theorem eqv_spec {k : Nat} {x y : AV} {r : Bool} (h : eqv k x y = some r) {β : Be} {x' y' : Value} (hx : VR β x x') (hy : VR β y y') {t : TypeId} {d : TypeDesc} (hd : P.underlying t = some d) (hk : plainKind d = some k) (n : Nat) (w : World) :
    (Op.equalIn (n + 1) t x' y').run P w = .ok r w := by
  unfold eqv at h
  split at h
  · have : d = .bool := by cases d <;> simp_all [plainKind]
    subst this
    rw [hx.bool_inv, hy.bool_inv]
    simp at h; subst h
    simp [Op.equalIn, underlying, hd]
  · have : ∃ k, d = .int k := by cases d <;> simp_all [plainKind]
    obtain ⟨k0, rfl⟩ := this
    rw [hx.int_inv, hy.int_inv]
    rename_i k1 a k2 b
    by_cases hkk : keq k1 k2 = true
    · rw [hkk] at h
      have := (keq_iff _ _).1 hkk
      subst this
      simp [ieq_iff] at h; subst h
      simp [Op.equalIn, underlying, hd]
    · have : keq k1 k2 = false := by simpa using hkk
      rw [this] at h; simp at h
  · have : d = .string := by cases d <;> simp_all [plainKind]
    subst this
    obtain ⟨s1, e1, d1⟩ := hx.str_inv
    obtain ⟨s2, e2, d2⟩ := hy.str_inv
    rw [d1, d2, seq_iff, map_inj_beq] at h
    simp only [Option.some.injEq] at h; subst h
    rw [e1, e2]
    simp [Op.equalIn, underlying, hd, bytes_beq]
  · cases h

theorem eqs_run {fs : List Field} : ∀ {offs : List (Nat × Nat)}, eqOffs P fs = some offs → ∀ {xs ys : List AV} {c : Bool → Prop}, eqsK offs xs ys c →
    ∃ r, c r ∧ ∀ β (xs' ys' : List Value), VRs β xs xs' → VRs β ys ys' → ∀ (n : Nat) (w : World),
      ((forIn fs ((none : Option Bool), ()) fun f (_ : Option Bool × Unit) =>
        if f.name = "_" then (pure (ForInStep.yield (none, ())) : Sem (ForInStep (Option Bool × Unit)))
        else do
          let a ← part f.type ⟨xs'⟩ f.offset
          let b ← part f.type ⟨ys'⟩ f.offset
          let z ← Op.equalIn (n + 1) f.type a b
          if z = false then pure (ForInStep.done (some false, ())) else pure (ForInStep.yield (none, ()))).run P w) = .ok (if r = true then (none, ()) else (some false, ())) w := by
  induction fs with
  | nil =>
    intro offs h xs ys c hc
    simp [eqOffs] at h; subst h
    exact ⟨true, hc, fun β xs' ys' _ _ n w => by simp⟩
  | cons f r ih =>
    intro offs h xs ys c hc
    have hname : f.name ≠ "_" := by
      intro hn; simp [eqOffs, hn] at h
    simp only [eqOffs] at h
    have hb : (f.name == "_") = false := by simpa using hname
    rw [hb] at h
    simp only [cond_false] at h
    cases hu : und P f.type with
    | none => simp [hu] at h
    | some d =>
      simp only [hu] at h
      cases hk : plainKind d with
      | none => simp [hk] at h
      | some k =>
        cases ho : eqOffs P r with
        | none => simp [hk, ho] at h
        | some l =>
          simp only [hk, ho, Option.some.injEq] at h
          subst h
          have hc' : nth xs f.offset fun x => nth ys f.offset fun y => match eqv k x y with | some true => eqsK l xs ys c | some false => c false | none => False := hc
          obtain ⟨x, hx, hc1⟩ := nth_spec _ _ _ hc'
          obtain ⟨y, hy, hc2⟩ := nth_spec _ _ _ hc1
          have hagg : isAggT P f.type = some false := by
            unfold isAggT; rw [hu]; cases d <;> simp_all [plainKind]
          have hpart : ∀ (zs' : List Value) (z' : Value) w, zs'[f.offset]? = some z' → (part f.type ⟨zs'⟩ f.offset).run P w = .ok z' w := by
            intro zs' z' w hz; simp [part, run_isAgg hagg, hz]
          cases he : eqv k x y with
          | none => simp [he] at hc2
          | some b =>
            cases b with
            | true =>
              simp only [he] at hc2
              obtain ⟨q, hq, hrun⟩ := ih ho hc2
              refine ⟨q, hq, fun β xs' ys' hxs hys n w => ?_⟩
              obtain ⟨x', hx1, hx2⟩ := hxs.get hx
              obtain ⟨y', hy1, hy2⟩ := hys.get hy
              have h1 := hrun β xs' ys' hxs hys n w
              simp only [List.forIn_cons, if_neg hname, Sem.run_bind, hpart _ _ _ hx1, hpart _ _ _ hy1, Result.andThen_ok, eqv_spec he hx2 hy2 (und_spec hu) hk]
              simpa using h1
            | false =>
              simp only [he] at hc2
              refine ⟨false, hc2, fun β xs' ys' hxs hys n w => ?_⟩
              obtain ⟨x', hx1, hx2⟩ := hxs.get hx
              obtain ⟨y', hy1, hy2⟩ := hys.get hy
              simp only [List.forIn_cons, if_neg hname, Sem.run_bind, hpart _ _ _ hx1, hpart _ _ _ hy1, Result.andThen_ok, eqv_spec he hx2 hy2 (und_spec hu) hk]
              simp

theorem pure_eqs {op : BinOp} {neg : Bool} {x y : Operand} {t yt : TypeId} {fs : Array Field} {offs : List (Nat × Nat)} {c : AV → Prop} (hop : (op = .eql ∧ neg = false) ∨ (op = .neq ∧ neg = true))
    (hd : und P t = some (.struct fs)) (ho : eqOffs P fs.toList = some offs) (hst : P.stoodInHeld t = false) (hgd : P.eqGuardType P.depth t = false)
    (h : (get (xo m x)).run l e fun a => (get (xo m y)).run l e fun b => eqs2K neg offs a b c) :
    ∃ v, c v ∧ PureOk P m l e ⟨dst, .binOp op t x y yt, ty, pos, aft, gd⟩ v := by
  obtain ⟨u, h, hx⟩ := get_spec m l e x h
  obtain ⟨v, hc, hy⟩ := get_spec m l e y h
  cases u
  case agg xs =>
    cases v
    case agg ys =>
      simp only [eqs2K] at hc
      obtain ⟨r, hr, hrun⟩ := eqs_run ho hc
      rw [mkBool_eq] at hr
      refine ⟨_, hr, fun β a hG hop' => ⟨_, .bool _, fun w => ?_⟩⟩
      obtain ⟨xs', hxe, hxs⟩ := (hx β a hG (hop' x (by simp [Op.operands]))).agg_inv
      obtain ⟨ys', hye, hys⟩ := (hy β a hG (hop' y (by simp [Op.operands]))).agg_inv
      have heq : (Op.equal t (.agg ⟨xs'⟩) (.agg ⟨ys'⟩)).run P w = .ok r w := by
        refine (show (Op.equalIn (9998 + 1 + 1) t (.agg ⟨xs'⟩) (.agg ⟨ys'⟩)).run P w = .ok r w from ?_)
        unfold Op.equalIn
        simp [underlying, und_spec hd, hst]
        rw [← Array.forIn_toList]
        have := hrun β xs' ys' hxs hys 9998 w
        rw [this]
        cases r <;> simp
      have grd : (eqGuard op t x y (.agg ⟨xs'⟩) (.agg ⟨ys'⟩)).run P w = .ok () w := by
        unfold eqGuard
        rcases hop with ⟨rfl, _⟩ | ⟨rfl, _⟩ <;> simp [hgd]
      rcases hop with ⟨rfl, rfl⟩ | ⟨rfl, rfl⟩
      · simp [execOp, hxe, hye, grd, binOp, heq]
      · simp [execOp, hxe, hye, grd, binOp, heq]
    all_goals exact hc.elim
  all_goals exact hc.elim
end
end Go.AE
namespace Go.AE
open Go

theorem foldl_set (off : Nat) : ∀ (vs : List Value) (k : Nat) (arr : Array Value), off + k + vs.length ≤ arr.size →
    ((vs.zipIdx k).foldl (fun (cs : Array Value) (p : Value × Nat) => cs.setIfInBounds (off + p.2) p.1) arr).toList = arr.toList.take (off + k) ++ vs ++ arr.toList.drop (off + k + vs.length)
  | [], k, arr, h => by simp
  | v :: vs, k, arr, h => by
    simp only [List.zipIdx_cons, List.foldl_cons]
    rw [foldl_set off vs (k + 1) _ (by simp at h ⊢; omega)]
    simp only [List.length_cons] at h
    have e1 : off + (k + 1) = (off + k) + 1 := by omega
    have e2 : off + k + (v :: vs).length = off + k + 1 + vs.length := by simp; omega
    rw [e1, e2]
    have hlt : off + k < arr.toList.length := by simp; omega
    simp only [Array.toList_setIfInBounds]
    rw [List.take_succ_eq_append_getElem (by simpa using hlt)]
    simp
    rw [List.drop_set_of_lt (by omega), List.take_set_of_le (Nat.le_refl _)]

section
variable {P : Program} {m : Nat} {l : Loc} {e : Env} {dst : Option Tmp} {ty : TypeId} {pos : String} {aft : Array Edge} {gd : Option (Nat × Bool)}

theorem fill_spec (place : Nat → Option (Nat × Nat)) : ∀ (ps : List (Nat × Operand)) (pl : List (Nat × Nat × XO)),
    pl.length = ps.length → (∀ (j : Nat) i x, ps[j]? = some (i, x) → ∃ off sz, pl[j]? = some (off, sz, xo m x) ∧ place i = some (off, sz)) →
    ∀ (cs : List AV) (c : List AV → Prop), fillK pl l e cs c → ∃ cs2, c cs2 ∧ cs2.length = cs.length ∧ ∀ β a, G0 β → (∀ p ∈ ps, OpdR β m l e a p.2) → ∀ cs', VRs β cs cs' →
      ∃ cs2', VRs β cs2 cs2' ∧ Instr.fill place ⟨cs'⟩ (ps.map fun p => (p.1, a.eval p.2)) = some ⟨cs2'⟩
  | [], [], _, _, cs, c, h => ⟨cs, h, rfl, fun β a _ _ cs' hv => ⟨cs', hv, rfl⟩⟩
  | [], _ :: _, hl, _, _, _, _ => by simp at hl
  | _ :: _, [], hl, _, _, _, _ => by simp at hl
  | (i, x) :: ps, p :: pl, hl, hp, cs, c, h => by
    obtain ⟨off, sz, h1, h2⟩ := hp 0 i x rfl
    simp only [List.getElem?_cons_zero, Option.some.injEq] at h1
    subst h1
    have h' : (get (xo m x)).run l e fun v => ite' (Nat.beq (lenK v.cells) sz) (patchK v.cells off cs fun cs => fillK pl l e cs c) False := h
    obtain ⟨v, hv, hx⟩ := get_spec m l e x h'
    obtain ⟨hq, hv2⟩ := ite'_true hv
    rw [beq_dec, decide_eq_true_eq, lenK_eq] at hq
    obtain ⟨hle, _, hv3⟩ := patchK_spec _ _ _ _ hv2
    obtain ⟨cs2, hc, hlen, hrest⟩ := fill_spec place ps pl (by simpa using hl) (fun j i x hj => hp (j + 1) i x (by simpa using hj)) _ c hv3
    refine ⟨cs2, hc, ?_, fun β a hG ho cs' hcs => ?_⟩
    · rw [hlen]; simp; omega
    · have hxv := hx β a hG (ho (i, x) (by simp))
      have hcl := hxv.cells
      have hl1 := hcl.length
      have hl2 := hcs.length
      have hnew : VRs β (cs.take off ++ v.cells ++ cs.drop (off + v.cells.length)) (cs'.take off ++ (a.eval x).cells.toList ++ cs'.drop (off + v.cells.length)) :=
        ((hcs.take off).append hcl).append (hcs.drop _)
      obtain ⟨cs2', h3, h4⟩ := hrest β a hG (fun p hp => ho p (by simp [hp])) _ hnew
      refine ⟨cs2', h3, ?_⟩
      simp only [List.map_cons, Instr.fill, h2]
      have hsz : (a.eval x).cells.size = v.cells.length := by rw [hl1]; simp
      have hno : ¬ (((a.eval x).cells.size ≠ sz || off + (a.eval x).cells.size > (Array.mk cs').size) = true) := by
        simp only [Bool.or_eq_true, decide_eq_true_eq, not_or, List.size_toArray]
        exact ⟨by simp; omega, by omega⟩
      simp only [decide_not, Bool.or_eq_true, not_or] at hno
      have hfold : Array.foldl (fun (cs : Array Value) (p : Value × Nat) => cs.setIfInBounds (off + p.2) p.1) ⟨cs'⟩ (a.eval x).cells.zipIdx = ⟨cs'.take off ++ (a.eval x).cells.toList ++ cs'.drop (off + v.cells.length)⟩ := by
        apply Array.ext'
        rw [← Array.foldl_toList]
        have := foldl_set off (a.eval x).cells.toList 0 ⟨cs'⟩ (by simp; omega)
        simp only [Nat.add_zero, Array.length_toList, hsz] at this
        simpa using this
      rw [if_neg (by simpa using hno)]
      rw [show (fun (cs : Array Value) (x : Value × Nat) => match x with | (c, j) => cs.setIfInBounds (off + j) c) = (fun cs p => cs.setIfInBounds (off + p.2) p.1) from rfl]
      rw [hfold]
      exact h4

theorem rep_spec {β : Be} {v : Value} {z : AV} (h : VR β z v) (n : Nat) : VRs β (rep z.cells n) (rep v.cells.toList n) := by
  induction n with
  | zero => exact .nil
  | succ n ih => exact h.cells.append ih

theorem placesOf_spec {fs : List Field} : ∀ {parts : List (Nat × Operand)} {pl : List (Nat × Nat × XO)}, placesOf P m fs parts = some pl →
    pl.length = parts.length ∧ ∀ (j : Nat) i x, parts[j]? = some (i, x) → ∃ f sz, fs[i]? = some f ∧ sizeT P f.type = some sz ∧ pl[j]? = some (f.offset, sz, xo m x)
  | [], pl, h => by simp [placesOf] at h; subst h; exact ⟨rfl, by simp⟩
  | (i, x) :: parts, pl, h => by
    simp only [placesOf, List.mapM_cons, Option.bind_eq_bind, Option.bind_eq_some_iff] at h
    obtain ⟨p, ⟨f, hf, s, hs, hp⟩, r, hr, he⟩ := h
    simp at hp he
    subst hp; subst he
    obtain ⟨h1, h2⟩ := placesOf_spec (fs := fs) (parts := parts) (pl := r) hr
    refine ⟨by simp [h1], fun j i' x' hj => ?_⟩
    cases j with
    | zero =>
      simp at hj
      obtain ⟨rfl, rfl⟩ := hj
      exact ⟨f, s, hf, hs, rfl⟩
    | succ j => exact h2 j i' x' (by simpa using hj)

theorem run_places (fs : Array Field) (hall : ∀ f ∈ fs.toList, ∃ n, sizeT P f.type = some n) :
    ∃ pl : Array (Nat × Nat), (∀ w, (fs.mapM fun f => do pure (f.offset, ← sizeOf f.type) : Sem (Array (Nat × Nat))).run P w = .ok pl w) ∧
      ∀ (i : Nat) f n, fs[i]? = some f → sizeT P f.type = some n → pl[i]? = some (f.offset, n) := by
  rw [Array.mapM_eq_mapM_toList]
  have key : ∀ (l : List Field), (∀ f ∈ l, ∃ n, sizeT P f.type = some n) → ∃ pl : List (Nat × Nat),
      (∀ w, (l.mapM fun f => do pure (f.offset, ← sizeOf f.type) : Sem (List (Nat × Nat))).run P w = .ok pl w) ∧
      ∀ (i : Nat) f n, l[i]? = some f → sizeT P f.type = some n → pl[i]? = some (f.offset, n) := by
    intro l
    induction l with
    | nil => intro _; exact ⟨[], by simp, by simp⟩
    | cons f l ih =>
      intro h
      obtain ⟨n, hn⟩ := h f (by simp)
      obtain ⟨pl, h1, h2⟩ := ih fun g hg => h g (by simp [hg])
      refine ⟨(f.offset, n) :: pl, ?_, ?_⟩
      · intro w
        simp only [List.mapM_cons]
        simp [run_sizeOf hn]
        have h1' := h1 w
        simp at h1'
        simp [h1']
      · intro i g k hi hk
        cases i with
        | zero => simp at hi; subst hi; rw [hn] at hk; simp at hk; subst hk; rfl
        | succ i => exact h2 i g k (by simpa using hi) hk
  obtain ⟨pl, h1, h2⟩ := key fs.toList hall
  refine ⟨⟨pl⟩, ?_, fun i f n hi hn => ?_⟩
  · intro w
    have h1' := h1 w
    simp at h1' ⊢
    simp [h1']
  · have := h2 i f n (by simpa using hi) hn
    simpa using this

theorem pure_bld {t : TypeId} {parts : Array (Nat × Operand)} {z : AV} {fs : Array Field} {ps : List (Nat × Nat × XO)} {c : AV → Prop} (hd : und P t = some (.struct fs)) (hz : zeroT P t = some z)
    (hall : ∀ f ∈ fs.toList, ∃ n, sizeT P f.type = some n) (hp : placesOf P m fs.toList parts.toList = some ps) (h : fillK ps l e z.cells fun cs => c (.agg cs)) :
    ∃ v, c v ∧ PureOk P m l e ⟨dst, .build t parts, ty, pos, aft, gd⟩ v := by
  obtain ⟨zv, hzr, hzo, hzw⟩ := run_zero (P := P) hz default
  obtain ⟨hlen, hpl⟩ := placesOf_spec hp
  obtain ⟨pl, hrun, hget⟩ := run_places (P := P) fs hall
  obtain ⟨cs2, hc, _, hfin⟩ := fill_spec (pl[·]?) parts.toList ps hlen (fun j i x hj => by
    obtain ⟨f, sz, h1, h2, h3⟩ := hpl j i x hj
    exact ⟨f.offset, sz, h3, hget i f sz (by simpa using h1) h2⟩) _ _ h
  refine ⟨_, hc, fun β a hG ho => ?_⟩
  obtain ⟨cs2', h1, h2⟩ := hfin β a hG (fun p hp => ho p.2 (by simp [Op.operands]; exact ⟨p.1, by simpa using hp⟩)) _ (ofVal_spec β 4 zv z hzo).cells
  refine ⟨_, .agg _ _ h1, fun w => ?_⟩
  have hrun' := hrun w
  have e1 : (parts.map fun x => match x with | (i, x) => (i, a.eval x)).toList = parts.toList.map fun p => (p.1, a.eval p.2) := by simp
  simp only [execOp, Instr.build]
  simp only [Sem.run_bind, hzw w, Result.andThen_ok, run_underlying hd]
  rw [show (fs.mapM fun f => do pure (f.offset, ← sizeOf f.type) : Sem (Array (Nat × Nat))).run P w = .ok pl w from hrun']
  simp only [Result.andThen_ok, e1]
  have h2' : Instr.fill (fun x => pl[x]?) zv.cells (parts.toList.map fun p => (p.1, a.eval p.2)) = some ⟨cs2'⟩ := h2
  simp only [h2']
  simp

theorem pure_blda {t el : TypeId} {N n : Nat} {parts : Array (Nat × Operand)} {z : AV} {c : AV → Prop} (hd : und P t = some (.array N el)) (hz : zeroT P t = some z)
    (hn : sizeT P el = some n) (h : fillK (parts.toList.map fun (i, x) => (i * n, n, xo m x)) l e z.cells fun cs => c (.agg cs)) :
    ∃ v, c v ∧ PureOk P m l e ⟨dst, .build t parts, ty, pos, aft, gd⟩ v := by
  obtain ⟨zv, hzr, hzo, hzw⟩ := run_zero (P := P) hz default
  obtain ⟨cs2, hc, _, hfin⟩ := fill_spec (m := m) (fun i => some (i * n, n)) parts.toList _ (by simp) (fun j i x hj => by
    refine ⟨i * n, n, ?_, rfl⟩
    simp only [List.getElem?_map, hj, Option.map_some]) _ _ h
  refine ⟨_, hc, fun β a hG ho => ?_⟩
  obtain ⟨cs2', h1, h2⟩ := hfin β a hG (fun p hp => ho p.2 (by simp [Op.operands]; exact ⟨p.1, by simpa using hp⟩)) _ (ofVal_spec β 4 zv z hzo).cells
  refine ⟨_, .agg _ _ h1, fun w => ?_⟩
  have e1 : (parts.map fun x => match x with | (i, x) => (i, a.eval x)).toList = parts.toList.map fun p => (p.1, a.eval p.2) := by simp
  have h2' : Instr.fill (fun i => some (i * n, n)) zv.cells (parts.toList.map fun p => (p.1, a.eval p.2)) = some ⟨cs2'⟩ := h2
  simp only [execOp, Instr.build]
  simp only [Sem.run_bind, hzw w, Result.andThen_ok, run_underlying hd, run_sizeOf hn, e1, h2']
  simp

theorem minmax_spec {mx : Bool} : ∀ (vs : List AV) (x : AV) {c : AV → Prop}, minmaxK mx vs x c → ∃ r, c r ∧ ∀ β (vs' : List Value) (x' : Value), VR β x x' → VRs β vs vs' →
    ∃ r', VR β r r' ∧ ∀ w, (vs'.foldlM (if mx then Builtin.max2 else Builtin.min2) x').run P w = .ok r' w
  | [], x, c, h => ⟨x, h, fun β vs' x' hx hvs => ⟨x', hx, fun w => by cases hvs; simp⟩⟩
  | y :: vs, x, c, h => by
    have h' : min2K mx x y fun m => minmaxK mx vs m c := h
    have one : ∃ q, minmaxK mx vs q c ∧ ∀ β (x' y' : Value), VR β x x' → VR β y y' → ∃ q', VR β q q' ∧ ∀ w, ((if mx then Builtin.max2 else Builtin.min2) x' y').run P w = .ok q' w := by
      unfold min2K at h'
      split at h'
      · rename_i k a k2 b
        simp only [ite'_eq, ilt_iff, decide_eq_true_eq] at h'
        cases mx with
        | true =>
          simp only [if_true] at h'
          by_cases hab : a < b
          · rw [if_pos hab] at h'
            refine ⟨_, h', fun β x' y' hx hy => ⟨_, .int _ _, fun w => ?_⟩⟩
            rw [hx.int_inv, hy.int_inv]
            have : b > a := hab
            simp [Builtin.max2, this]
          · rw [if_neg hab] at h'
            refine ⟨_, h', fun β x' y' hx hy => ⟨_, .int _ _, fun w => ?_⟩⟩
            rw [hx.int_inv, hy.int_inv]
            simp [Builtin.max2, hab]
        | false =>
          simp only [Bool.false_eq_true, if_false] at h'
          by_cases hab : b < a
          · rw [if_pos hab] at h'
            refine ⟨_, h', fun β x' y' hx hy => ⟨_, .int _ _, fun w => ?_⟩⟩
            rw [hx.int_inv, hy.int_inv]
            simp [Builtin.min2, hab]
          · rw [if_neg hab] at h'
            refine ⟨_, h', fun β x' y' hx hy => ⟨_, .int _ _, fun w => ?_⟩⟩
            rw [hx.int_inv, hy.int_inv]
            simp [Builtin.min2, hab]
      · exact h'.elim
    obtain ⟨q, hq, hq2⟩ := one
    obtain ⟨r, hr, hr2⟩ := minmax_spec vs q hq
    refine ⟨r, hr, fun β vs' x' hx hvs => ?_⟩
    cases hvs with
    | cons _ y' _ vs'' hy hs =>
      obtain ⟨q', h1, h2⟩ := hq2 β x' y' hx hy
      obtain ⟨r', h3, h4⟩ := hr2 β vs'' q' h1 hs
      refine ⟨r', h3, fun w => ?_⟩
      simp only [List.foldlM_cons, Sem.run_bind, h2 w, Result.andThen_ok]
      exact h4 w

theorem pure_minmax {mx : Bool} {xs : Array Operand} {ats : Array TypeId} {c : AV → Prop} (h : evs (xs.toList.map (xo m)) l e fun vs => mm1K mx vs c) :
    ∃ v, c v ∧ PureOk P m l e ⟨dst, .call { callee := .builtin (if mx then .max else .min), args := xs, argTypes := ats }, ty, pos, aft, gd⟩ v := by
  obtain ⟨vs, hc, hvs⟩ := evs_spec m l e xs.toList h
  unfold mm1K at hc
  split at hc
  · rename_i x r
    obtain ⟨q, hq, hq2⟩ := minmax_spec (P := P) r x hc
    refine ⟨q, hq, fun β a hG ho => ?_⟩
    have hv := hvs β a hG fun y hy => ho y (by simp [Op.operands, Call.operands]; simpa using hy)
    generalize hg : xs.toList.map a.eval = ws at hv
    cases hv with
    | cons _ x' _ r' hx hr =>
      obtain ⟨q', h1, h2⟩ := hq2 β r' x' hx hr
      refine ⟨q', h1, fun w => ?_⟩
      have hl : (xs.map a.eval).toList = x' :: r' := by simpa using hg
      cases mx with
      | true =>
        have h3 := h2 w
        simp only [if_true] at h3
        have hm : ∀ k, Builtin.max_ ats k (xs.map a.eval) = r'.foldlM Builtin.max2 x' := by intro k; unfold Builtin.max_; rw [hl]
        simp [execOp, resolve, invoke, builtin, hm, h3]
      | false =>
        have h3 := h2 w
        simp only [Bool.false_eq_true, if_false] at h3
        have hm : ∀ k, Builtin.min_ ats k (xs.map a.eval) = r'.foldlM Builtin.min2 x' := by intro k; unfold Builtin.min_; rw [hl]
        simp [execOp, resolve, invoke, builtin, hm, h3]
  · exact hc.elim

theorem pure_tas {ok : Bool} {x : Operand} {t xt : TypeId} {z : AV} {d : TypeDesc} {c : AV → Prop} (hd : und P t = some d) (hi : ∀ ms, d ≠ .interface ms) (hz : zeroT P t = some z)
    (h : (get (xo m x)).run l e fun v => tasK ok t z v c) : ∃ v, c v ∧ PureOk P m l e ⟨dst, .typeAssert x xt t ok, ty, pos, aft, gd⟩ v := by
  obtain ⟨v, hc, hx⟩ := get_spec m l e x h
  obtain ⟨zv, _, hzo, hzw⟩ := run_zero (P := P) hz default
  unfold tasK at hc
  split at hc
  · rename_i t' u
    rw [ite'_eq, beq_dec] at hc
    by_cases htt : t = t'
    · subst htt
      rw [if_pos (by simp)] at hc
      refine ⟨_, hc, fun β a hG ho => ?_⟩
      obtain ⟨y, he, hy⟩ := (hx β a hG (ho x (by simp [Op.operands]))).iface_inv
      cases ok with
      | true =>
        refine ⟨_, .tuple _ _ (.cons _ _ _ _ hy (.cons _ _ _ _ (.bool true) .nil)), fun w => ?_⟩
        simp only [execOp, Instr.typeAssert, he]
        cases d with
        | interface ms => exact absurd rfl (hi ms)
        | _ => simp [run_underlying hd]
      | false =>
        refine ⟨_, hy, fun w => ?_⟩
        simp only [execOp, Instr.typeAssert, he]
        cases d with
        | interface ms => exact absurd rfl (hi ms)
        | _ => simp [run_underlying hd]
    · rw [if_neg (by simpa using htt)] at hc
      obtain ⟨hok, hc2⟩ := ite'_true hc
      subst hok
      refine ⟨_, hc2, fun β a hG ho => ?_⟩
      obtain ⟨y, he, hy⟩ := (hx β a hG (ho x (by simp [Op.operands]))).iface_inv
      refine ⟨_, .tuple _ _ (.cons _ _ _ _ (ofVal_spec β 4 zv z hzo) (.cons _ _ _ _ (.bool false) .nil)), fun w => ?_⟩
      have htt' : ¬ t' = t := fun h => htt h.symm
      simp only [execOp, Instr.typeAssert, he]
      cases d with
      | interface ms => exact absurd rfl (hi ms)
      | _ => simp [run_underlying hd, htt', hzw]
  · obtain ⟨hok, hc2⟩ := ite'_true hc
    subst hok
    refine ⟨_, hc2, fun β a hG ho => ?_⟩
    have he := (hx β a hG (ho x (by simp [Op.operands]))).nilIface_inv
    refine ⟨_, .tuple _ _ (.cons _ _ _ _ (ofVal_spec β 4 zv z hzo) (.cons _ _ _ _ (.bool false) .nil)), fun w => ?_⟩
    simp only [execOp, Instr.typeAssert, he]
    cases d with
    | interface ms => exact absurd rfl (hi ms)
    | _ => simp [run_underlying hd, hzw]
  · exact hc.elim
end
end Go.AE
namespace Go.AE
open Go

theorem allSized_spec {P : Program} : ∀ {fs : List Field}, allSized P fs = true → ∀ f ∈ fs, ∃ n, sizeT P f.type = some n
  | [], _, f, hf => by simp at hf
  | g :: fs, h, f, hf => by
    simp only [allSized] at h
    cases hg : sizeT P g.type with
    | none => simp [hg] at h
    | some n =>
      simp only [hg] at h
      rcases List.mem_cons.1 hf with rfl | hf
      · exact ⟨n, hg⟩
      · exact allSized_spec h f hf

theorem compField_p {P : Program} {o : Op} {s : TypeId} {f : Nat} {k : Field → X} {x : X} (h : compField P o s f k = x) (hx : ∀ o, x ≠ .bad o) :
    ∃ fs fd, und P s = some (.struct fs) ∧ fs[f]? = some fd ∧ k fd = x := by
  unfold compField at h
  split at h
  · rename_i fs hu
    split at h
    · rename_i fd hf; exact ⟨fs, fd, hu, hf, h⟩
    · exact absurd h.symm (hx _)
  · exact absurd h.symm (hx _)

theorem comp_pure {P : Program} {m : Nat} {l : Loc} {e : Env} (o : Oper) {px : PX} {c : AV → Prop} (hcomp : comp P m o.op = .p px) (hr : (opP px).run l e c) :
    ∃ v, c v ∧ PureOk P m l e o v := by
  obtain ⟨dst, op, ty, pos, aft, gd⟩ := o
  cases op <;> simp only [comp] at hcomp
  case move x => cases hcomp; obtain ⟨v, h1, h2, _⟩ := pure_mv hr; exact ⟨v, h1, h2⟩
  case assign x => cases hcomp; obtain ⟨v, h1, _, h2⟩ := pure_mv hr; exact ⟨v, h1, h2⟩
  case pick x y z => cases hcomp; exact pure_pick hr
  case alloc t => split at hcomp <;> cases hcomp
  case box t x => split at hcomp <;> cases hcomp
  case build t parts =>
    split at hcomp
    · rename_i fs z hu hz
      split at hcomp
      · rename_i ps hp hal; cases hcomp; exact pure_bld hu hz (allSized_spec hal) hp hr
      · cases hcomp
    · rename_i n el z hu hz
      split at hcomp
      · rename_i k hk; cases hcomp; exact pure_blda hu hz hk hr
      · cases hcomp
    · cases hcomp
  case buildSlice => (repeat' split at hcomp) <;> cases hcomp
  case load => split at hcomp <;> cases hcomp
  case store => split at hcomp <;> cases hcomp
  case nilCheck x => cases hcomp; exact pure_nchk hr
  case binOp op t x y yt =>
    cases op <;> simp only [] at hcomp
    case shl => cases hcomp; exact pure_sh (.inl rfl) hr
    case shr => cases hcomp; exact pure_sh (.inr rfl) hr
    case eql =>
      unfold compEq at hcomp
      split at hcomp
      · cases hcomp; exact pure_bin (by simp) hr
      · cases hcomp; exact pure_bin (by simp) hr
      · rename_i hu; cases hcomp; exact pure_eq (.inl ⟨rfl, rfl⟩) (k := .bool) hu rfl hr
      · split at hcomp <;> cases hcomp
      · rename_i hu; cases hcomp; exact pure_eq (.inl ⟨rfl, rfl⟩) (k := .slice) hu ⟨_, rfl⟩ hr
      · rename_i hu; cases hcomp; exact pure_eq (.inl ⟨rfl, rfl⟩) (k := .map) hu ⟨_, _, rfl⟩ hr
      · rename_i hu; cases hcomp; exact pure_eq (.inl ⟨rfl, rfl⟩) (k := .func) hu ⟨_, _, _, rfl⟩ hr
      · rename_i hu
        split at hcomp
        · cases hcomp; exact pure_eq (.inl ⟨rfl, rfl⟩) (k := .iface) hu ⟨⟨_, rfl⟩, .inl ⟨_, rfl⟩⟩ hr
        · cases hcomp; exact pure_eq (.inl ⟨rfl, rfl⟩) (k := .iface) hu ⟨⟨_, rfl⟩, .inr ⟨_, rfl⟩⟩ hr
        · cases hcomp
      · rename_i hu
        split at hcomp
        · rename_i offs ho
          split at hcomp
          · cases hcomp
          · rename_i hn
            cases hcomp
            simp only [Bool.or_eq_true, not_or, Bool.not_eq_true] at hn
            exact pure_eqs (.inl ⟨rfl, rfl⟩) hu ho hn.1 hn.2 hr
        · cases hcomp
      · cases hcomp
    case neq =>
      unfold compEq at hcomp
      split at hcomp
      · cases hcomp; exact pure_bin (by simp) hr
      · cases hcomp; exact pure_bin (by simp) hr
      · rename_i hu; cases hcomp; exact pure_eq (.inr ⟨rfl, rfl⟩) (k := .bool) hu rfl hr
      · split at hcomp <;> cases hcomp
      · rename_i hu; cases hcomp; exact pure_eq (.inr ⟨rfl, rfl⟩) (k := .slice) hu ⟨_, rfl⟩ hr
      · rename_i hu; cases hcomp; exact pure_eq (.inr ⟨rfl, rfl⟩) (k := .map) hu ⟨_, _, rfl⟩ hr
      · rename_i hu; cases hcomp; exact pure_eq (.inr ⟨rfl, rfl⟩) (k := .func) hu ⟨_, _, _, rfl⟩ hr
      · rename_i hu
        split at hcomp
        · cases hcomp; exact pure_eq (.inr ⟨rfl, rfl⟩) (k := .iface) hu ⟨⟨_, rfl⟩, .inl ⟨_, rfl⟩⟩ hr
        · cases hcomp; exact pure_eq (.inr ⟨rfl, rfl⟩) (k := .iface) hu ⟨⟨_, rfl⟩, .inr ⟨_, rfl⟩⟩ hr
        · cases hcomp
      · rename_i hu
        split at hcomp
        · rename_i offs ho
          split at hcomp
          · cases hcomp
          · rename_i hn
            cases hcomp
            simp only [Bool.or_eq_true, not_or, Bool.not_eq_true] at hn
            exact pure_eqs (.inr ⟨rfl, rfl⟩) hu ho hn.1 hn.2 hr
        · cases hcomp
      · cases hcomp
    all_goals (cases hcomp; exact pure_bin (by simp) hr)
  case unOp op t x =>
    cases op <;> simp only [] at hcomp
    case not => cases hcomp; exact pure_not hr
    case neg => cases hcomp; exact pure_un hr
    case xor => cases hcomp; exact pure_un hr
    case plus => cases hcomp
  case convert s d x =>
    unfold compConv at hcomp
    split at hcomp
    · rename_i hs hd; cases hcomp; exact pure_conv hs hd hr
    · rename_i hs hd; cases hcomp; exact pure_convs hs hd hr
    · split at hcomp <;> cases hcomp
    · split at hcomp <;> cases hcomp
    · cases hcomp
  case makeInterface t x =>
    split at hcomp
    · cases hcomp
    · rename_i d hd hu; cases hcomp; exact pure_iface hu (fun ms h => hd ms h) hr
    · cases hcomp
  case makeFunc fn f cs =>
    split at hcomp
    · cases hcomp; exact pure_mkf hr
    · cases hcomp
  case makeMap => (repeat' split at hcomp) <;> cases hcomp
  case makeSlice => (repeat' split at hcomp) <;> cases hcomp
  case slice t x lo hi mx =>
    split at hcomp
    · cases hcomp
    · rename_i hno
      have hmx : mx.isSome = true → hi.isSome = true := by
        intro h
        cases mx with
        | none => simp at h
        | some y => cases hi with
          | none => exact (hno y rfl rfl).elim
          | some z => rfl
      split at hcomp
      · rename_i hu
        split at hcomp
        · cases hcomp; exact pure_slcs hu hr
        · cases hcomp
      · rename_i hu
        split at hcomp
        · rename_i n hn; cases hcomp; exact pure_slc hu hn hmx hr
        · cases hcomp
      · rename_i hu
        split at hcomp
        · rename_i n hn; cases hcomp; exact pure_slca hu hn hmx hr
        · cases hcomp
      · cases hcomp
  case fieldAddr s x f =>
    obtain ⟨fs, fd, h1, h2, h3⟩ := compField_p hcomp (by simp)
    split at h3
    · rename_i n hn; cases h3; exact pure_faddr h1 h2 hn hr
    · cases h3
  case field s x f =>
    obtain ⟨fs, fd, h1, h2, h3⟩ := compField_p hcomp (by simp)
    split at h3
    · rename_i n g hn hg; cases h3; exact pure_fld h1 h2 hn hg hr
    · cases h3
  case indexAddr t x i =>
    split at hcomp
    · rename_i hu
      split at hcomp
      · rename_i n hn; cases hcomp; exact pure_iaddr hu (.inl ⟨rfl, rfl⟩) hn hr
      · cases hcomp
    · rename_i hu
      split at hcomp
      · rename_i n hn; cases hcomp; exact pure_iaddr hu (.inr ⟨_, rfl, rfl⟩) hn hr
      · cases hcomp
    · cases hcomp
  case index t x i =>
    split at hcomp
    · rename_i hu; cases hcomp; exact pure_idxs hu hr
    · rename_i hu
      split at hcomp
      · rename_i n g hn hg; cases hcomp; exact pure_idxa hu hn hg hr
      · cases hcomp
    · cases hcomp
  case lookup => (repeat' split at hcomp) <;> cases hcomp
  case mapUpdate => (repeat' split at hcomp) <;> cases hcomp
  case range => split at hcomp <;> cases hcomp
  case next => split at hcomp <;> cases hcomp
  case typeAssert x xt t ok =>
    split at hcomp
    · cases hcomp
    · rename_i d z hd hu hz; cases hcomp; exact pure_tas hu (fun ms h => hd ms h) hz hr
    · cases hcomp
  case extract x i => cases hcomp; exact pure_ext hr
  case call cl =>
    obtain ⟨cal, args, ats⟩ := cl
    unfold compCall at hcomp
    cases cal with
    | value f => cases f <;> cases hcomp
    | invoke _ _ => cases hcomp
    | builtin b =>
      cases b <;> simp only [] at hcomp
      case append => (repeat' split at hcomp) <;> cases hcomp
      case len =>
        split at hcomp
        · rename_i x t ha hat
          have ea : args = #[x] := by apply Array.ext'; simpa using ha
          have eat : ats[0]? = some t := by rw [← Array.getElem?_toList, hat]; rfl
          subst ea
          split at hcomp
          · rename_i hu; cases hcomp; exact pure_len hu (.inl ⟨rfl, rfl⟩) eat hr
          · rename_i hu; cases hcomp; exact pure_len hu (.inr ⟨rfl, _, rfl⟩) eat hr
          · rename_i hu; cases hcomp; exact pure_lenk hu eat hr
          all_goals cases hcomp
        · cases hcomp
      case max => cases hcomp; exact pure_minmax (mx := true) hr
      case min => cases hcomp; exact pure_minmax (mx := false) hr
      case copy => (repeat' split at hcomp) <;> cases hcomp
      all_goals cases hcomp
  case defer cl =>
    obtain ⟨cal, args, ats⟩ := cl
    cases cal <;> cases hcomp
  all_goals cases hcomp
end Go.AE
namespace Go.AE
open Go

/-- what an operation that is not pure is compiled to -/
inductive Shape (P : Program) (m : Nat) : Op → X → Prop
  | p (o : Op) (px : PX) : Shape P m o (.p px)
  | bad (o o' : Op) : Shape P m o (.bad o')
  | load (t : TypeId) (x : Operand) (n : Nat) (g : Bool) (hz : sizeT P t = some n) (hg : isAggT P t = some g) : Shape P m (.load t x) (.r (.load n g (xo m x)))
  | lookup (t : TypeId) (x i : Operand) (ok : Bool) (kt et : TypeId) (kd : TypeDesc) (z : AV) (kk : Nat) (hu : und P t = some (.map kt et)) (hkd : und P kt = some kd) (hz : zeroT P et = some z) (hk : keyKind P kd = some kk) :
      Shape P m (.lookup t x i ok) (.r (.lookup kk ok z (xo m x) (xo m i)))
  | peq (op : BinOp) (neg : Bool) (t el : TypeId) (n : Nat) (x y : Operand) (yt : TypeId) (hop : (op = .eql ∧ neg = false) ∨ (op = .neq ∧ neg = true)) (hu : und P t = some (.pointer el)) (hz : sizeT P el = some (n + 1)) :
      Shape P m (.binOp op t x y yt) (.r (.peq neg (xo m x) (xo m y)))
  | maplen (x : Operand) (t kt et : TypeId) (ats : Array TypeId) (hu : und P t = some (.map kt et)) (hat : ats[0]? = some t) : Shape P m (.call ⟨.builtin .len, #[x], ats⟩) (.r (.maplen (xo m x)))
  | b2s (s d et : TypeId) (x : Operand) (hs : und P s = some (.slice et)) (he : und P et = some (.int .u8)) (hd : und P d = some .string) : Shape P m (.convert s d x) (.r (.b2s (xo m x)))
  | alloc (t : TypeId) (z : AV) (hz : zeroT P t = some z) : Shape P m (.alloc t) (.a (.alloc z.cells))
  | box (t : TypeId) (x : Operand) (n : Nat) (hz : sizeT P t = some n) : Shape P m (.box t x) (.a (.box n (xo m x)))
  | bslice (t et : TypeId) (len n : Nat) (z : AV) (parts : Array (Nat × Operand)) (hu : und P t = some (.slice et)) (hz : sizeT P et = some (n + 1)) (hzv : zeroT P et = some z) (hlen : (Nat.blt (len * (n + 1)) 65536 && Nat.beq (lenK z.cells) (n + 1)) = true) :
      Shape P m (.buildSlice t len parts) (.a (.bslice (n + 1) len (rep z.cells len) (parts.toList.map fun (i, x) => (i * (n + 1), n + 1, xo m x))))
  | mkslice (t et : TypeId) (i : TypeInfo) (z : AV) (x y : Operand) (hu : und P t = some (.slice et)) (hi : tinf P et = some i) (hzv : zeroT P et = some z) (h0 : rowOk i z = true) :
      Shape P m (.makeSlice t x y) (.a (.mkslice i.size i.bytes z.cells (xo m x) (xo m y)))
  | mkmap0 (t : TypeId) : Shape P m (.makeMap t none) (.a .mkmap)
  | mkmap1 (t kt et : TypeId) (k : IntKind) (n : Int) (hu : und P t = some (.map kt et)) : Shape P m (.makeMap t (some (.const (.int k n)))) (.a .mkmap)
  | s2b (s d et : TypeId) (x : Operand) (hs : und P s = some .string) (hd : und P d = some (.slice et)) (he : und P et = some (.int .u8)) : Shape P m (.convert s d x) (.a (.s2b (xo m x)))
  | store (t : TypeId) (a v : Operand) (n : Nat) (hz : sizeT P t = some n) : Shape P m (.store t a v) (.e (.store n (xo m a) (xo m v)))
  | append (s x : Operand) (st xt et : TypeId) (xd : TypeDesc) (i : TypeInfo) (ats : Array TypeId) (hat : ats.toList = [st, xt]) (hu : und P st = some (.slice et)) (hx : und P xt = some xd) (hxd : (∃ e, xd = .slice e) ∨ xd = .string) (hi : tinf P et = some i) (z : AV) (hzv : zeroT P et = some z) (h0 : rowOk i z = true) :
      Shape P m (.call ⟨.builtin .append, #[s, x], ats⟩) (.e (.append i.size i.bytes (xo m s) (xo m x)))
  | copy (d s : Operand) (t st et : TypeId) (n : Nat) (ats : Array TypeId) (hat : ats.toList = [t, st]) (hu : und P t = some (.slice et)) (hz : sizeT P et = some (n + 1)) : Shape P m (.call ⟨.builtin .copy, #[d, s], ats⟩) (.e (.copy (n + 1) (xo m d) (xo m s)))
  | mapupd (t kt et : TypeId) (kd : TypeDesc) (kk : Nat) (mp k v : Operand) (hu : und P t = some (.map kt et)) (hkd : und P kt = some kd) (hk : keyKind P kd = some kk) : Shape P m (.mapUpdate t mp k v) (.e (.mapupd kk (xo m mp) (xo m k) (xo m v)))
  | call (f : FuncId) (args : Array Operand) (ats : Array TypeId) : Shape P m (.call ⟨.value (.func f), args, ats⟩) (.e (.call f (args.toList.map (xo m))))
  | callv (f : Operand) (args : Array Operand) (ats : Array TypeId) : Shape P m (.call ⟨.value f, args, ats⟩) (.e (.callv (xo m f) (args.toList.map (xo m))))
  | recover (args : Array Operand) (ats : Array TypeId) : Shape P m (.call ⟨.builtin .recover, args, ats⟩) (.e .recover)
  | defer (f : Operand) (args : Array Operand) (ats : Array TypeId) : Shape P m (.defer ⟨.value f, args, ats⟩) (.e (.defer (xo m f) (args.toList.map (xo m))))
  | range (t : TypeId) (x : Operand) (hu : und P t = some .string) : Shape P m (.range t x) (.e (.range (xo m x)))
  | next (x : Operand) : Shape P m (.next x true) (.e (.next (xo m x)))
  | rangem (t kt et : TypeId) (x : Operand) (hu : und P t = some (.map kt et)) : Shape P m (.range t x) (.e (.rangem (xo m x)))
  | nextm (x : Operand) : Shape P m (.next x false) (.e (.nextm (xo m x)))
  | lookupE (t : TypeId) (x i : Operand) (ok : Bool) (kt et : TypeId) (kd : TypeDesc) (z : AV) (n : Nat) (hu : und P t = some (.map kt et)) (hkd : und P kt = some kd) (hz : zeroT P et = some z) (hk : structKey P kt kd = some n) :
      Shape P m (.lookup t x i ok) (.r (.lookupE n ok z (xo m x) (xo m i)))

theorem two_list {α : Type} {a : Array α} {x y : α} (h : a.toList = [x, y]) : a = #[x, y] := by apply Array.ext'; simpa using h
theorem one_list {α : Type} {a : Array α} {x : α} (h : a.toList = [x]) : a = #[x] := by apply Array.ext'; simpa using h

theorem comp_shape {P : Program} {m : Nat} (o : Op) : Shape P m o (comp P m o) := by
  cases o <;> simp only [comp]
  case binOp op t x y yt =>
    cases op <;> simp only []
    case eql =>
      unfold compEq
      split <;> (try exact .p _ _)
      · split
        · exact .peq _ _ _ _ _ _ _ _ (.inl ⟨rfl, rfl⟩) ‹_› ‹_›
        · exact .bad _ _
      all_goals (repeat' split) <;> first | exact .p _ _ | exact .bad _ _
    case neq =>
      unfold compEq
      split <;> (try exact .p _ _)
      · split
        · exact .peq _ _ _ _ _ _ _ _ (.inr ⟨rfl, rfl⟩) ‹_› ‹_›
        · exact .bad _ _
      all_goals (repeat' split) <;> first | exact .p _ _ | exact .bad _ _
    all_goals exact .p _ _
  case unOp op t x => cases op <;> first | exact .p _ _ | exact .bad _ _
  case convert s d x =>
    unfold compConv
    split <;> (try exact .p _ _)
    · split
      · exact .s2b _ _ _ _ ‹_› ‹_› ‹_›
      · exact .bad _ _
    · split
      · exact .b2s _ _ _ _ ‹_› ‹_› ‹_›
      · exact .bad _ _
    · exact .bad _ _
  case alloc t =>
    split
    · exact .alloc _ _ ‹_›
    · exact .bad _ _
  case box t x =>
    split
    · exact .box _ _ _ ‹_›
    · exact .bad _ _
  case load t x =>
    split
    · exact .load _ _ _ _ ‹_› ‹_›
    · exact .bad _ _
  case store t x y =>
    split
    · exact .store _ _ _ _ ‹_›
    · exact .bad _ _
  case lookup t x i ok =>
    split
    · split
      · split
        · exact .lookup _ _ _ _ _ _ _ _ _ ‹_› ‹_› ‹_› ‹_›
        · split
          · exact .lookupE _ _ _ _ _ _ _ _ _ ‹_› ‹_› ‹_› ‹_›
          · exact .bad _ _
      · exact .bad _ _
    · exact .bad _ _
  case mapUpdate t x i v =>
    split
    · split
      · split
        · exact .mapupd _ _ _ _ _ _ _ _ ‹_› ‹_› ‹_›
        · exact .bad _ _
      · exact .bad _ _
    · exact .bad _ _
  case buildSlice t len parts =>
    split
    · split
      · split
        · exact .bslice _ _ _ _ _ _ ‹_› ‹_› ‹_› ‹_›
        · exact .bad _ _
      · exact .bad _ _
    · exact .bad _ _
  case makeSlice t x y =>
    split
    · split
      · split
        · exact .mkslice _ _ _ _ _ _ ‹_› ‹_› ‹_› ‹_›
        · exact .bad _ _
      · exact .bad _ _
    · exact .bad _ _
  case makeMap t r =>
    split
    · exact .mkmap0 _
    · split
      · exact .mkmap1 _ _ _ _ _ ‹_›
      · exact .bad _ _
    · exact .bad _ _
  case range t x =>
    split
    · exact .range _ _ ‹_›
    · exact .rangem _ _ _ _ ‹_›
    · exact .bad _ _
  case next x isS =>
    cases isS
    · exact .nextm _
    · exact .next _
  case fieldAddr =>
    unfold compField
    split
    · split
      · dsimp only
        split <;> first | exact .p _ _ | exact .bad _ _
      · exact .bad _ _
    · exact .bad _ _
  case field =>
    unfold compField
    split
    · split
      · dsimp only
        split <;> first | exact .p _ _ | exact .bad _ _
      · exact .bad _ _
    · exact .bad _ _
  case call cl =>
    obtain ⟨cal, args, ats⟩ := cl
    unfold compCall
    cases cal with
    | value f => cases f <;> first | exact .call _ _ _ | exact .callv _ _ _
    | invoke _ _ => exact .bad _ _
    | builtin b =>
      cases b <;> simp only []
      case append =>
        split
        · rename_i s x st xt ha hat
          cases two_list ha
          split
          · rename_i et xd hu hx
            split
            · split
              · split
                · exact .append _ _ _ _ _ _ _ _ hat hu hx (.inl ⟨_, rfl⟩) ‹_› _ ‹_› ‹_›
                · exact .bad _ _
              · exact .bad _ _
            · split
              · split
                · exact .append _ _ _ _ _ _ _ _ hat hu hx (.inr rfl) ‹_› _ ‹_› ‹_›
                · exact .bad _ _
              · exact .bad _ _
            · exact .bad _ _
          · exact .bad _ _
        · exact .bad _ _
      case len =>
        split
        · rename_i x t ha hat
          cases one_list ha
          have eat : ats[0]? = some t := by rw [← Array.getElem?_toList, hat]; rfl
          split <;> first | exact .p _ _ | exact .maplen _ _ _ _ _ ‹_› eat | exact .bad _ _
        · exact .bad _ _
      case copy =>
        split
        · rename_i d s t st ha hat
          cases two_list ha
          split
          · split
            · exact .copy _ _ _ _ _ _ _ hat ‹_› ‹_›
            · exact .bad _ _
          · exact .bad _ _
        · exact .bad _ _
      case recover => exact .recover _ _
      all_goals first | exact .p _ _ | exact .bad _ _
  case defer cl =>
    obtain ⟨cal, args, ats⟩ := cl
    cases cal with
    | value f => exact .defer _ _ _
    | invoke _ _ => exact .bad _ _
    | builtin b => exact .bad _ _
  case slice =>
    split
    · exact .bad _ _
    · (repeat' split) <;> first | exact .p _ _ | exact .bad _ _
  all_goals first | exact .p _ _ | exact .bad _ _ | ((repeat' split) <;> first | exact .p _ _ | exact .bad _ _)
end Go.AE
namespace Go.AE
open Go

/-! ## the heap's relation -/
abbrev HO := Pos → Option AObj
noncomputable def hof (σ : Heap) : HO := fun p => T.get p σ
def upd (h : HO) (p : Pos) (v : Option AObj) : HO := fun q => if q = p then v else h q

/-- entries of a map -/
inductive EsR (β : Be) : List (AV × AV) → List MapEntry → Prop
  | nil : EsR β [] []
  | cons (k v : AV) (e : MapEntry) (l : List (AV × AV)) (l' : List MapEntry) (hk : VR β k e.key) (hv : VR β v e.val) (hs : EsR β l l') : EsR β ((k, v) :: l) (e :: l')
theorem EsR.mono {β β' : Be} (hb : β.le β') : ∀ {l : List (AV × AV)} {l' : List MapEntry}, EsR β l l' → EsR β' l l'
  | _, _, .nil => .nil
  | _, _, .cons k v e l l' hk hv hs => .cons k v e l l' (hk.mono hb) (hv.mono hb) (EsR.mono hb hs)

def CellsAt (H : Array Obj) (b base tot : Nat) (lo hi : Nat) (k : List Value → Prop) : Prop :=
  ∃ (c : Array Value) (ty : TypeId) (fr : Nat × Nat), H[b]? = some (.cells c ty fr) ∧ c.size = base + tot ∧ k (c.toList.drop base) ∧
    (∀ i, fr.1 ≤ i → i < fr.2 → i < c.size → base + lo ≤ i ∧ i < base + hi) ∧ (hi ≤ lo → fr.2 ≤ fr.1)

def ObjR (mk : FuncId → Nat) (nt : FuncId → Nat) (β : Be) (H : Array Obj) (b base tot : Nat) : AObj → Prop
  | .cells cs _ lo hi _ => CellsAt H b base tot lo hi fun l => ∃ k, k ≤ tot ∧ VRs β cs (l.take k)
  | .map es => ∃ es' clk, H[b]? = some (.map es' clk) ∧ EsR β es es'.toList
  | .loop lo => ∃ l : Loop, H[b]? = some (.loop l) ∧ lo.state = l.state ∧ lo.pending = l.pending ∧ lo.fid = l.fn ∧ EnvR β (mk lo.fid) .nil lo.env l.tmps ∧ l.tmps.size = nt lo.fid ∧
      lo.params = l.params.toList ∧ (∀ t ∈ lo.params, t < nt lo.fid) ∧ lo.assign = l.assign ∧ lo.body = l.body ∧ ∃ x, β lo.defers = some (l.defers, x)
  | .dfr => H[b]? = some (.deferred (some []))
  | .siter s pos => base = 0 ∧ ∃ bs : ByteArray, H[b]? = some (.stringIter bs pos) ∧ (bs.data.toList.map UInt8.toNat).drop pos = s
  | .miter m => base = 0 ∧ ∃ o since last, H[b]? = some (.mapIter o since #[] last) ∧ ((m = none ∧ o = none) ∨ ∃ id bm x, m = some id ∧ o = some bm ∧ β id = some (bm, x))

theorem ObjR.mono {mk nt : FuncId → Nat} {β β' : Be} (hb : β.le β') {H : Array Obj} {b base tot : Nat} {o : AObj} (h : ObjR mk nt β H b base tot o) : ObjR mk nt β' H b base tot o := by
  cases o with
  | cells cs rd lo hi anc =>
    obtain ⟨c, ty, fr, h1, h2, ⟨k, h3, h3'⟩, h4⟩ := h
    exact ⟨c, ty, fr, h1, h2, ⟨k, h3, h3'.mono hb⟩, h4⟩
  | map es => obtain ⟨es', clk, h1, h2⟩ := h; exact ⟨es', clk, h1, h2.mono hb⟩
  | loop lo =>
    obtain ⟨l, h1, h2, h3, h4, h5, h6, h7, h8, h9, h10, x, h11⟩ := h
    exact ⟨l, h1, h2, h3, h4, h5.mono hb, h6, h7, h8, h9, h10, x, hb _ _ h11⟩
  | dfr => exact h
  | siter s pos => exact h
  | miter m =>
    obtain ⟨h0, o, since, last, h1, h2⟩ := h
    refine ⟨h0, o, since, last, h1, ?_⟩
    rcases h2 with h2 | ⟨id, bm, x, h3, h4, h5⟩
    · exact .inl h2
    · exact .inr ⟨id, bm, x, h3, h4, hb _ _ h5⟩
/-- an object hangs on its own block alone -/
theorem ObjR.heap {mk nt : FuncId → Nat} {β : Be} {H H' : Array Obj} {b base tot : Nat} {o : AObj} (h : ObjR mk nt β H b base tot o) (he : H'[b]? = H[b]?) : ObjR mk nt β H' b base tot o := by
  cases o <;> simp only [ObjR, CellsAt, he] at h ⊢ <;> exact h
theorem ObjR.lt {mk nt : FuncId → Nat} {β : Be} {H : Array Obj} {b base tot : Nat} {o : AObj} (h : ObjR mk nt β H b base tot o) : b < H.size := by
  have : ∃ x, H[b]? = some x := by
    cases o with
    | cells => obtain ⟨c, ty, fr, h1, _⟩ := h; exact ⟨_, h1⟩
    | map => obtain ⟨_, _, h1, _⟩ := h; exact ⟨_, h1⟩
    | loop => obtain ⟨_, h1, _⟩ := h; exact ⟨_, h1⟩
    | dfr => exact ⟨_, h⟩
    | siter => obtain ⟨_, _, h1, _⟩ := h; exact ⟨_, h1⟩
    | miter => obtain ⟨_, _, _, _, h1, _⟩ := h; exact ⟨_, h1⟩
  obtain ⟨x, hx⟩ := this
  exact (Array.getElem?_eq_some_iff.1 hx).1

/-- may two objects share a block? -/
def Share (i : Pos) (oi : AObj) (xi : Nat × Nat × Nat) (j : Pos) (oj : AObj) (xj : Nat × Nat × Nat) : Prop :=
  match oi, oj with
  | .cells ci ri _ _ ai, .cells cj rj _ _ aj => (ri = true ∧ rj = true) ∨ (ri = true ∧ i ∈ aj ∧ xi = xj ∧ ci.length ≤ cj.length) ∨ (rj = true ∧ j ∈ ai ∧ xi = xj ∧ cj.length ≤ ci.length)
  | _, _ => False

structure Rel (mk nt : FuncId → Nat) (β : Be) (h : HO) (w : World) : Prop where
  g0 : G0 β
  obj : ∀ id o x, h id = some o → β id = some x → ObjR mk nt β w.heap x.1 x.2.1 x.2.2 o
  sep : ∀ i j oi oj xi xj, i ≠ j → h i = some oi → h j = some oj → β i = some xi → β j = some xj → xi.1 = xj.1 → Share i oi xi j oj xj
  glob : ∀ i o x, i.toNat < 1000 → h i = some o → β i = some x → (∃ cs lo hi anc, o = .cells cs true lo hi anc) ∧ ∀ j oj xj, j ≠ i → h j = some oj → β j = some xj → xj.1 ≠ x.1
theorem Rel.ge {mk nt : FuncId → Nat} {β : Be} {h : HO} {w : World} (R : Rel mk nt β h w) {i : Pos} {o : AObj} {x : Nat × Nat × Nat} (hi : h i = some o) (hb : β i = some x) (ho : ∀ cs lo hi anc, o ≠ .cells cs true lo hi anc) : 1000 ≤ i.toNat := by
  rcases Nat.lt_or_ge i.toNat 1000 with hlt | hge
  · obtain ⟨⟨cs, lo, hi', anc, h1⟩, _⟩ := R.glob i o x hlt hi hb
    exact (ho _ _ _ _ h1).elim
  · exact hge
theorem new_ge {β : Be} (hG : G0 β) {id : Pos} (hid : β id = none) : 1000 ≤ id.toNat := by
  rcases Nat.lt_or_ge id.toNat 1000 with hlt | hge
  · obtain ⟨x, hx⟩ := hG id.toNat hlt
    have : Pos.ofNat id.toNat = id := Pos.toNat_inj (Pos.toNat_ofNat _)
    rw [this, hid] at hx; cases hx
  · exact hge

def Cov (β : Be) (h : HO) (b : Nat) : Prop := ∃ id o x, 1000 ≤ Pos.toNat id ∧ h id = some o ∧ β id = some x ∧ x.1 = b
/-- what an execution leaves as it was -/
structure Fr (β : Be) (h : HO) (w : World) (nx : Pos) (β' : Be) (h' : HO) (w' : World) (nx' : Pos) : Prop where
  le : nx.toNat ≤ nx'.toNat
  out : ∀ id, ¬ (nx.toNat ≤ id.toNat ∧ id.toNat < nx'.toNat) → β' id = β id
  size : w.heap.size ≤ w'.heap.size
  keep : ∀ b, b < w.heap.size → ¬ Cov β h b → w'.heap[b]? = w.heap[b]?
  cov : ∀ b, b < w.heap.size → Cov β' h' b → Cov β h b
  os : w'.os = w.os
  tape : w'.tape = w.tape
  output : w'.output = w.output
  gl : ∀ id o, Pos.toNat id < 1000 → h' id = some o → ∃ o', h id = some o'
/-- numbers not given yet -/
def Free (β : Be) (nx nx' : Pos) : Prop := ∀ id : Pos, nx.toNat ≤ id.toNat → id.toNat < nx'.toNat → β id = none

theorem Fr.refl (β : Be) (h : HO) (w : World) (nx : Pos) : Fr β h w nx β h w nx :=
  ⟨Nat.le_refl _, fun _ _ => rfl, Nat.le_refl _, fun _ _ _ => rfl, fun _ _ h => h, rfl, rfl, rfl, fun _ o _ h => ⟨o, h⟩⟩
theorem Fr.trans {β β1 β2 : Be} {h h1 h2 : HO} {w w1 w2 : World} {nx nx1 nx2 : Pos} (a : Fr β h w nx β1 h1 w1 nx1) (b : Fr β1 h1 w1 nx1 β2 h2 w2 nx2) : Fr β h w nx β2 h2 w2 nx2 := by
  have hs := a.size
  refine ⟨Nat.le_trans a.le b.le, fun id hid => ?_, Nat.le_trans a.size b.size, fun k hk hc => ?_, fun k hk hc => a.cov k hk (b.cov k (by omega) hc), b.os.trans a.os, b.tape.trans a.tape, b.output.trans a.output, fun id o hlt ho => (let ⟨o1, h1⟩ := b.gl id o hlt ho; a.gl id o1 hlt h1)⟩
  · have h1 := a.le
    have h2 := b.le
    rw [b.out id (by omega), a.out id (by omega)]
  · rw [b.keep k (by omega) (fun h => hc (a.cov k hk h)), a.keep k hk hc]
theorem Fr.mono {β β' : Be} {h h' : HO} {w w' : World} {nx nx' : Pos} (a : Fr β h w nx β' h' w' nx') (hf : Free β nx nx') : β.le β' := by
  intro id x hx
  rw [a.out id, hx]
  intro ⟨h1, h2⟩
  rw [hf id h1 h2] at hx; cases hx
theorem Free.left {β : Be} {nx nx1 nx2 : Pos} (h : Free β nx nx2) (h2 : nx1.toNat ≤ nx2.toNat) : Free β nx nx1 := fun id a b => h id a (by omega)
theorem Free.right {β β1 : Be} {h h1 : HO} {w w1 : World} {nx nx1 nx2 : Pos} (hf : Free β nx nx2) (a : Fr β h w nx β1 h1 w1 nx1) : Free β1 nx1 nx2 := by
  intro id h1 h2
  have := a.le
  rw [a.out id (by omega)]
  exact hf id (by omega) h2
theorem G0.mono {β β' : Be} (h : G0 β) (hb : β.le β') : G0 β' := fun g hg => let ⟨x, hx⟩ := h g hg; ⟨x, hb _ _ hx⟩
end Go.AE
