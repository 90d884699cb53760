/-
  A part of the proof that the evaluator is sound: what it finds, the machine does, whatever the tape; conditions as each theorem names them.
-/
import Derived.Deep.AppendSrc
import Derived.Test.YtfgfnafifflbjaaGreatDoorAe3
namespace Go.AE
open Go

section
variable {mk nt : FuncId → Nat} {P : Program} {m : Nat} {l : Loc} {e : Env} {dst : Option Tmp} {ty : TypeId} {pos : String} {aft : Array Edge} {gd : Option (Nat × Bool)}

/-- an operation that reads comes to v -/
def ReadAt (mk nt : FuncId → Nat) (P : Program) (m : Nat) (l : Loc) (e : Env) (o : Oper) (h : HO) (v : AV) : Prop :=
  ∀ β a w, Rel mk nt β h w → OpdsR β m l e a o.op → ∃ v', VR β v v' ∧ (execOp a.eval o).run P w = .ok (.value v') w

theorem VRs.one_inv {β : Be} {v : AV} {l' : List Value} (h : VRs β [v] l') : ∃ v', l' = [v'] ∧ VR β v v' := by
  cases h with
  | cons _ v' _ _ h hs => cases hs; exact ⟨v', rfl, h⟩

theorem load_at {x : Operand} {t : TypeId} {n : Nat} {g : Bool} {id : Pos} {off : Nat} {cs : List AV} {h : HO} (hz : sizeT P t = some n) (hg : isAggT P t = some g)
    (hx : GetOk m l e x (.ptr id off)) (hq : ∃ k, RqH h (.cells id off k cs) ∧ (g = true → k = n)) {v : AV} (hv : (g = true ∧ v = .agg cs) ∨ (g = false ∧ cs = [v])) :
    ReadAt mk nt P m l e ⟨dst, .load t x, ty, pos, aft, gd⟩ h v := by
  intro β a w R ho
  obtain ⟨k, ⟨os, rd, lo, hi, anc, h1, h2, h3⟩, hk⟩ := hq
  obtain ⟨b, base, tot, hb, he⟩ := (hx β a R.g0 (ho x (by simp [Op.operands]))).ptr_inv
  obtain ⟨l', hl, hn, _, hc⟩ := cells_read (R.obj id _ _ h1 hb) h2
  rw [h3] at hl
  rcases hv with ⟨rfl, rfl⟩ | ⟨rfl, rfl⟩
  · have hk := hk rfl
    subst hk
    refine ⟨.agg ⟨l'⟩, .agg _ _ hl, ?_⟩
    have := run_loadCells_list (P := P) w ⟨b, base + off, none⟩ l' hc
    rw [hn] at this
    simp [execOp, Instr.loadAt, Instr.sureAddr, he, loadVar, run_isAgg hg, run_sizeOf hz, this]
  · obtain ⟨v', rfl, hvv⟩ := hl.one_inv
    refine ⟨v', hvv, ?_⟩
    have := hc 0 v' rfl
    have e0 : (Addr.add ⟨b, base + off, none⟩ 0) = ⟨b, base + off, none⟩ := rfl
    rw [e0] at this
    simp [execOp, Instr.loadAt, Instr.sureAddr, he, loadVar, run_isAgg hg, this]

/-- what a lookup comes to -/
def LookV (ok : Bool) (z : AV) (r : Option AV) : AV := match r with
  | some v => if ok then .tuple [v, .bool true] else v
  | none => if ok then .tuple [z, .bool false] else z
theorem okK_spec {ok : Bool} {v : AV} {t : Bool} {c : AV → Prop} (h : okK ok v t c) : c (if ok then .tuple [v, .bool t] else v) := by
  unfold okK at h; rw [ite'_eq] at h; split at h <;> simp_all

theorem look_at {x i : Operand} {t kt et : TypeId} {kd : TypeDesc} {kk : Nat} {z k : AV} {ok : Bool} {h : HO} (hu : und P t = some (.map kt et)) (hkd : und P kt = some kd) (hz : zeroT P et = some z) (hk : keyKind P kd = some kk)
    {mv : AV} (hx : GetOk m l e x mv) (hi : GetOk m l e i k) {r : Option AV} (hq : (mv = .nilmap ∧ r = none) ∨ ∃ id, mv = .map id ∧ RqH h (.look kk id k r)) :
    ReadAt mk nt P m l e ⟨dst, .lookup t x i ok, ty, pos, aft, gd⟩ h (LookV ok z r) := by
  intro β a w R ho
  have hkv := hi β a R.g0 (ho i (by simp [Op.operands]))
  have hmv := hx β a R.g0 (ho x (by simp [Op.operands]))
  obtain ⟨z', hz1, hz2, _⟩ := run_zero hz w
  have hzv := ofVal_spec β 4 z' z hz2
  have ck := fun b => checkKey_run (w := w) hkd hk b 9999 (a.eval i)
  rcases hq with ⟨rfl, rfl⟩ | ⟨id, rfl, es, h1, h2⟩
  · have he := hmv.nilmap_inv
    refine ⟨if ok then .tuple #[z', .bool false] else z', ?_, ?_⟩
    · simp only [LookV]; cases ok
      · exact hzv
      · exact .tuple _ [z', .bool false] (.cons _ _ _ _ hzv (.cons _ _ _ _ (.bool _) .nil))
    · have hf : (Instr.findKey kt (a.eval i) []).run P w = .ok none w := by simp [Instr.findKey, run_underlying hkd, Instr.findNow]
      simp [execOp, Instr.lookup, run_underlying hu, he, ck, hf, hz1]
  · obtain ⟨b, y, he, hb⟩ := hmv.map_inv
    obtain ⟨es', clk, g1, g2⟩ := R.obj id _ _ h1 hb
    simp only at g1
    have hget : (getObj b).run P w = .ok (.map es' clk) w := by simp [getObj, Sem.run, g1]
    rcases findKey_run R hkd hk hkv g2 h2 with ⟨rfl, h3⟩ | ⟨v, j, e', rfl, h3, h4, _⟩
    · refine ⟨if ok then .tuple #[z', .bool false] else z', ?_, ?_⟩
      · simp only [LookV]; cases ok
        · exact hzv
        · exact .tuple _ [z', .bool false] (.cons _ _ _ _ hzv (.cons _ _ _ _ (.bool _) .nil))
      · simp [execOp, Instr.lookup, run_underlying hu, he, hget, ck, h3, hz1]
    · refine ⟨if ok then .tuple #[e'.val, .bool true] else e'.val, ?_, ?_⟩
      · simp only [LookV]; cases ok
        · exact h4
        · exact .tuple _ [e'.val, .bool true] (.cons _ _ _ _ h4 (.cons _ _ _ _ (.bool _) .nil))
      · simp [execOp, Instr.lookup, run_underlying hu, he, hget, ck, h3]
end
end Go.AE
namespace Go.AE
open Go

section
variable {mk nt : FuncId → Nat} {P : Program} {m : Nat} {l : Loc} {e : Env} {dst : Option Tmp} {ty : TypeId} {pos : String} {aft : Array Edge} {gd : Option (Nat × Bool)}

theorem peq_spec {op : BinOp} {neg : Bool} {x y : Operand} {t el : TypeId} {n : Nat} {yt : TypeId} {σ : Heap} {c : AV → Prop} (hop : (op = .eql ∧ neg = false) ∨ (op = .neq ∧ neg = true)) (hd : und P t = some (.pointer el)) (hz : sizeT P el = some (n + 1))
    (h : (get (xo m x)).run l e fun a => (get (xo m y)).run l e fun b => peqK neg a b σ c) : ∃ v, c v ∧ ReadAt mk nt P m l e ⟨dst, .binOp op t x y yt, ty, pos, aft, gd⟩ (hof σ) v := by
  obtain ⟨a, h, hx⟩ := get_spec m l e x h
  obtain ⟨b, h, hy⟩ := get_spec m l e y h
  have fin : ∀ (r : Bool) (β : Be) (ac : Act) (w : World), (∃ p, ac.eval x = .pointer p) → (∃ p, ac.eval y = .pointer p) → (Op.equal t (ac.eval x) (ac.eval y)).run P w = .ok r w →
      (execOp ac.eval ⟨dst, .binOp op t x y yt, ty, pos, aft, gd⟩).run P w = .ok (.value (.bool (neg != r))) w := by
    intro r β ac w ⟨p, hp⟩ ⟨q, hq⟩ hr
    rw [hp, hq] at hr
    rcases hop with ⟨rfl, rfl⟩ | ⟨rfl, rfl⟩
    · simp [execOp, eqGuard, binOp, hp, hq, hr]
    · simp [execOp, eqGuard, binOp, hp, hq, hr]
  cases a <;> cases b <;> (try exact h.elim)
  · simp only [peqK, mkBool_eq] at h
    refine ⟨_, h, fun β a w R ho => ⟨_, .bool _, ?_⟩⟩
    have h1 := (hx β a R.g0 (ho x (by simp [Op.operands]))).nilptr_inv
    have h2 := (hy β a R.g0 (ho y (by simp [Op.operands]))).nilptr_inv
    rw [fin true β a w ⟨_, h1⟩ ⟨_, h2⟩ ?_]
    · simp
    · rw [h1, h2]; exact equal_of fun k => by simp [Op.equalIn, run_underlying hd]
  · simp only [peqK, mkBool_eq] at h
    refine ⟨_, h, fun β a w R ho => ⟨_, .bool _, ?_⟩⟩
    have h1 := (hx β a R.g0 (ho x (by simp [Op.operands]))).nilptr_inv
    obtain ⟨b, base, tot, hb, h2⟩ := (hy β a R.g0 (ho y (by simp [Op.operands]))).ptr_inv
    rw [fin false β a w ⟨_, h1⟩ ⟨_, h2⟩ ?_]
    · simp
    · rw [h1, h2]; exact equal_of fun k => by simp [Op.equalIn, run_underlying hd]
  · simp only [peqK, mkBool_eq] at h
    refine ⟨_, h, fun β a w R ho => ⟨_, .bool _, ?_⟩⟩
    have h2 := (hy β a R.g0 (ho y (by simp [Op.operands]))).nilptr_inv
    obtain ⟨b, base, tot, hb, h1⟩ := (hx β a R.g0 (ho x (by simp [Op.operands]))).ptr_inv
    rw [fin false β a w ⟨_, h1⟩ ⟨_, h2⟩ ?_]
    · simp
    · rw [h1, h2]; exact equal_of fun k => by simp [Op.equalIn, run_underlying hd]
  · simp only [peqK] at h
    obtain ⟨r, h, hp⟩ := ptrEq_spec h
    rw [mkBool_eq] at h
    refine ⟨_, h, fun β a w R ho => ⟨_, .bool _, ?_⟩⟩
    obtain ⟨b1, base1, tot1, hb1, h1⟩ := (hx β a R.g0 (ho x (by simp [Op.operands]))).ptr_inv
    obtain ⟨b2, base2, tot2, hb2, h2⟩ := (hy β a R.g0 (ho y (by simp [Op.operands]))).ptr_inv
    refine fin r β a w ⟨_, h1⟩ ⟨_, h2⟩ ?_
    rw [h1, h2]
    exact equal_of fun k => by simp [Op.equalIn, run_underlying hd, run_sizeOf hz, ptrEq_run R hp hb1 hb2]

theorem maplen_spec {x : Operand} {t kt et : TypeId} {ats : Array TypeId} {σ : Heap} {c : AV → Prop} (hd : und P t = some (.map kt et)) (hat : ats[0]? = some t)
    (h : (get (xo m x)).run l e fun v => maplenK v σ c) : ∃ v, c v ∧ ReadAt mk nt P m l e ⟨dst, .call ⟨.builtin .len, #[x], ats⟩, ty, pos, aft, gd⟩ (hof σ) v := by
  obtain ⟨a, h, hx⟩ := get_spec m l e x h
  cases a <;> (try exact h.elim)
  · simp only [maplenK] at h
    refine ⟨_, h, fun β a w R ho => ⟨_, .int _ _, ?_⟩⟩
    have h1 := (hx β a R.g0 (ho x (by simp [Op.operands, Call.operands]))).nilmap_inv
    simp [execOp, resolve, invoke, builtin, Builtin.len_, hat, h1, run_underlying hd, goInt]
  · simp only [maplenK] at h
    obtain ⟨o, ho, h⟩ := withObj_spec h
    rcases o with _ | es | _ | _ | _ <;> (try exact h.elim)
    simp only [forceNat_eq, lenK_eq] at h
    refine ⟨_, h, fun β a w R hop => ⟨_, .int _ _, ?_⟩⟩
    obtain ⟨b, y, he, hb⟩ := (hx β a R.g0 (hop x (by simp [Op.operands, Call.operands]))).map_inv
    obtain ⟨es', clk, g1, g2⟩ := R.obj _ _ _ ho hb
    simp only at g1
    have hget : (getObj b).run P w = .ok (.map es' clk) w := by simp [getObj, Sem.run, g1]
    have hl : es.length = es'.size := by
      have : ∀ {a : List (AV × AV)} {b : List MapEntry}, EsR β a b → a.length = b.length := by
        intro a b h
        induction h with
        | nil => rfl
        | cons _ _ _ _ _ _ _ _ ih => simp [ih]
      simpa using this g2
    simp [execOp, resolve, invoke, builtin, Builtin.len_, hat, he, run_underlying hd, goInt, hget, hl]

theorem bytesK_spec : ∀ {vs : List AV} {c : List Nat → Prop}, bytesK vs c → ∃ ns : List Nat, c ns ∧ (∀ n ∈ ns, n < 256) ∧ vs = ns.map fun n => .int .u8 (.ofNat n)
  | [], c, h => ⟨[], h, by simp, rfl⟩
  | .int k n :: vs, c, h => by
    cases k <;> (try exact h.elim)
    cases n <;> (try exact h.elim)
    rename_i n
    have h' : ite' (Nat.blt n 256) (bytesK vs (fun r => c (n :: r))) False := h
    obtain ⟨h0, h1⟩ := ite'_true h'
    rw [blt_iff, decide_eq_true_eq] at h0
    obtain ⟨ns, h1, h2, h3⟩ := bytesK_spec h1
    refine ⟨_, h1, ?_, by simp [h3]⟩
    intro x hx
    rcases List.mem_cons.1 hx with rfl | hx
    · exact h0
    · exact h2 x hx
  | .bool _ :: _, _, h | .str _ :: _, _, h | .nilptr :: _, _, h | .ptr .. :: _, _, h | .nilslice :: _, _, h | .slice .. :: _, _, h | .nilmap :: _, _, h | .map _ :: _, _, h | .nilfunc :: _, _, h
  | .func .. :: _, _, h | .yld _ :: _, _, h | .nilIface :: _, _, h | .iface .. :: _, _, h | .agg _ :: _, _, h | .tuple _ :: _, _, h => by exact False.elim h

theorem b2s_loop (f : Value → ByteArray → Sem (ForInStep ByteArray)) (hf : ∀ n s, f (.int .u8 n) s = pure (ForInStep.yield (s.push (UInt8.ofNat n.toNat)))) (w : World) :
    ∀ (vs : List Value) (ns : List Nat) (s : ByteArray), (∀ n ∈ ns, n < 256) → vs = (ns.map fun n => Value.int .u8 (.ofNat n)) →
    ∃ s' : ByteArray, s'.data.toList = s.data.toList ++ ns.map UInt8.ofNat ∧ (forIn vs s f).run P w = .ok s' w
  | _, [], s, _, rfl => ⟨s, by simp, by simp⟩
  | _, n :: ns, s, hn, rfl => by
    obtain ⟨s', h1, h2⟩ := b2s_loop f hf w (ns.map fun n => Value.int .u8 (.ofNat n)) ns (s.push (UInt8.ofNat n)) (fun x hx => hn x (by simp [hx])) rfl
    refine ⟨s', by simp [h1, ByteArray.data_push], ?_⟩
    simp only [List.map_cons, List.forIn_cons, hf]
    simpa using h2
theorem b2s_shape : ∃ f : Value → ByteArray → Sem (ForInStep ByteArray), (∀ a len cap, Conv.bytesToString (.slice (some a) len cap) = (do let cs ← loadCells a len; let s ← forIn cs ByteArray.empty f; pure (.string s))) ∧
    ∀ n s, f (.int .u8 n) s = pure (ForInStep.yield (s.push (UInt8.ofNat n.toNat))) := by
  refine ⟨_, fun _ _ _ => rfl, fun _ _ => rfl⟩
theorem run_b2s {w : World} {a : Addr} {n cap : Nat} {l' : List Value} {ns : List Nat} (h : (loadCells a n).run P w = .ok l'.toArray w) (hn : ∀ n ∈ ns, n < 256) (hl' : l' = ns.map fun n => Value.int .u8 (.ofNat n)) :
    ∃ s' : ByteArray, s'.data.toList.map UInt8.toNat = ns ∧ (Conv.bytesToString (.slice (some a) n cap)).run P w = .ok (.string s') w := by
  obtain ⟨f, h1, h2⟩ := b2s_shape
  obtain ⟨s', h3, h4⟩ := b2s_loop (P := P) f h2 w l' ns ByteArray.empty hn hl'
  refine ⟨s', ?_, ?_⟩
  · rw [h3]
    simp only [List.map_append, List.map_map]
    have : (ByteArray.empty.data.toList.map UInt8.toNat) = [] := rfl
    rw [this, List.nil_append]
    have : ns.map (UInt8.toNat ∘ UInt8.ofNat) = ns.map id := by
      apply List.map_congr_left
      intro n hnm
      have := hn n hnm
      simp; omega
    rw [this, List.map_id]
  · rw [h1, Sem.run_bind, h]
    simp [h4]
theorem b2s_spec {x : Operand} {s d et : TypeId} {σ : Heap} {c : AV → Prop} (hs : und P s = some (.slice et)) (he : und P et = some (.int .u8)) (hd : und P d = some .string)
    (h : (get (xo m x)).run l e fun v => b2sK v σ c) : ∃ v, c v ∧ ReadAt mk nt P m l e ⟨dst, .convert s d x, ty, pos, aft, gd⟩ (hof σ) v := by
  obtain ⟨a, h, hx⟩ := get_spec m l e x h
  cases a <;> (try exact h.elim)
  · simp only [b2sK] at h
    refine ⟨_, h, fun β a w R ho => ⟨_, .str ByteArray.empty, ?_⟩⟩
    have h1 := (hx β a R.g0 (ho x (by simp [Op.operands]))).nilslice_inv
    simp [execOp, convert, h1, run_underlying hs, run_underlying hd, run_underlying he, Conv.bytesToString]
  · rename_i id off len cap es
    simp only [b2sK] at h
    obtain ⟨h0, h⟩ := ite'_true h
    obtain ⟨cs, rd, lo, hi, anc, h1, h2, h⟩ := readCells_spec h
    obtain ⟨ns, hc, hn, heq⟩ := bytesK_spec h
    refine ⟨_, hc, fun β a w R ho => ?_⟩
    rcases (hx β a R.g0 (ho x (by simp [Op.operands]))).slice_inv with ⟨b, base, tot, cc, he', hb, _⟩ | ⟨ad, had, he', rfl, _⟩
    · obtain ⟨l', hl, hlen, _, hcell⟩ := cells_read (R.obj id _ _ h1 hb) h2
      have hrun := run_loadCells_list (P := P) w ⟨b, base + off, none⟩ l' hcell
      rw [hlen] at hrun
      have hl' : l' = ns.map fun n => Value.int .u8 (.ofNat n) := by
        rw [heq] at hl
        clear heq hcell hrun hlen hn hc h
        induction ns generalizing l' with
        | nil => cases hl; rfl
        | cons n ns ih =>
          cases hl with
          | cons _ v' _ l2 hv hs' => rw [hv.int_inv, ih _ hs']; rfl
      obtain ⟨s', hs1, hs2⟩ := run_b2s (P := P) (cap := cc) hrun hn hl'
      refine ⟨.string s', ?_, ?_⟩
      · rw [← hs1]; exact .str s'
      · simp [execOp, convert, he', run_underlying hs, run_underlying hd, run_underlying he, hs2]
    · simp only [List.take_zero] at heq
      have : ns = [] := by cases ns with
        | nil => rfl
        | cons => simp at heq
      subst this
      refine ⟨_, .str ByteArray.empty, ?_⟩
      obtain ⟨s', hs1, hs2⟩ := run_b2s (P := P) (w := w) (a := ad) (n := 0) (cap := 0) (l' := []) (ns := []) rfl (by simp) rfl
      have hse : s' = ByteArray.empty := by
        have : s'.data.toList = [] := List.map_eq_nil_iff.1 hs1
        cases s' with
        | mk d => congr 1; exact Array.toList_eq_nil_iff.1 this
      simp [execOp, convert, he', run_underlying hs, run_underlying hd, run_underlying he, hs2, hse]
end
end Go.AE
namespace Go.AE
open Go

section
variable {mk nt : FuncId → Nat} {P : Program} {m : Nat} {l : Loc} {e : Env}

theorem lookupK_spec {kk : Nat} {ok : Bool} {z mv k : AV} {σ : Heap} {c : AV → Prop} (h : lookupK kk ok z mv k σ c) :
    ∃ r, c (LookV ok z r) ∧ ((mv = .nilmap ∧ r = none) ∨ ∃ id, mv = .map id ∧ RqH (hof σ) (.look kk id k r)) := by
  cases mv <;> (try exact h.elim)
  · exact ⟨none, okK_spec h, .inl ⟨rfl, rfl⟩⟩
  · rename_i id
    have h' : mapFind σ kk id k fun r => (match r with | some v => okK ok v true c | none => okK ok z false c) := h
    obtain ⟨r, h1, h2⟩ := mapFind_spec h'
    refine ⟨r, ?_, .inr ⟨id, rfl, h2⟩⟩
    cases r with
    | none => exact okK_spec h1
    | some v => exact okK_spec h1

theorem comp_read (o : Oper) {rx : RX} {σ : Heap} {c : AV → Prop} (hcomp : comp P m o.op = .r rx) (hr : (opR rx).run l e σ c) :
    ∃ v, c v ∧ ReadAt mk nt P m l e o (hof σ) v := by
  have hs := comp_shape (P := P) (m := m) o.op
  rw [hcomp] at hs
  clear hcomp
  obtain ⟨dst, op, ty, pos, aft, gd⟩ := o
  simp only at hs
  cases hs with
  | load t y n g hz hg =>
    cases g with
    | true =>
      obtain ⟨v, h, hx⟩ := get_spec m l e y hr
      obtain ⟨id, off, rfl, h⟩ := onPtr_spec h
      obtain ⟨cs, rd, lo, hi, anc, h1, h2, h3⟩ := readCells_spec h
      exact ⟨_, h3, load_at hz hg hx ⟨n, ⟨cs, rd, lo, hi, anc, h1, h2, rfl⟩, fun _ => rfl⟩ (.inl ⟨rfl, rfl⟩)⟩
    | false =>
      obtain ⟨v, h, hx⟩ := get_spec m l e y hr
      obtain ⟨id, off, rfl, h⟩ := onPtr_spec h
      obtain ⟨cs, rd, lo, hi, anc, v, h1, h2, h3⟩ := readCell_spec h
      have hlt := (List.getElem?_eq_some_iff.1 h2).1
      refine ⟨v, h3, load_at (cs := [v]) hz hg hx ⟨1, ⟨cs, rd, lo, hi, anc, h1, by omega, ?_⟩, fun h => by cases h⟩ (.inr ⟨rfl, rfl⟩)⟩
      rw [List.take_one, List.head?_drop, h2]; rfl
  | lookup t y j ok kt et kd z kk hu hkd hz hkk =>
    obtain ⟨mv, h, hx⟩ := get_spec m l e y hr
    obtain ⟨k, h, hi⟩ := get_spec m l e j h
    obtain ⟨r, h1, h2⟩ := lookupK_spec h
    exact ⟨_, h1, look_at hu hkd hz hkk hx hi h2⟩
  | peq op neg t el n x y yt hop hu hz => exact peq_spec hop hu hz hr
  | maplen x t kt et ats hu hat => exact maplen_spec hu hat hr
  | b2s s d et x hs he hd => exact b2s_spec hs he hd hr
end
end Go.AE
namespace Go.AE
open Go

def bset (β : Be) (id : Pos) (x : Nat × Nat × Nat) : Be := fun q => if q = id then some x else β q
theorem bset_le {β : Be} {id : Pos} {x : Nat × Nat × Nat} (h : β id = none) : β.le (bset β id x) := by
  intro q y hq
  unfold bset
  split
  · rename_i e; subst e; rw [h] at hq; cases hq
  · exact hq
theorem bset_same {β : Be} {id : Pos} {x : Nat × Nat × Nat} : bset β id x id = some x := by simp [bset]
theorem bset_ne {β : Be} {id q : Pos} {x : Nat × Nat × Nat} (h : q ≠ id) : bset β id x q = β q := by simp [bset, h]

section
variable {mk nt : FuncId → Nat} {P : Program} {m : Nat} {l : Loc} {e : Env} {dst : Option Tmp} {ty : TypeId} {pos : String} {aft : Array Edge} {gd : Option (Nat × Bool)}

/-- the world has one block more -/
structure Grown (w w' : World) : Prop where
  size : w'.heap.size = w.heap.size + 1
  keep : ∀ b, b < w.heap.size → w'.heap[b]? = w.heap[b]?
  os : w'.os = w.os
  tape : w'.tape = w.tape
  output : w'.output = w.output

theorem Grown.push (w : World) (o : Obj) : Grown w { w with heap := w.heap.push o } :=
  ⟨by simp, fun b hb => by simp [Array.getElem?_push, Nat.ne_of_lt hb], rfl, rfl, rfl⟩

theorem grown_rel {β : Be} {h : HO} {w w' : World} (R : Rel mk nt β h w) (G : Grown w w') {id : Pos} (hid : β id = none) {tot : Nat} {o : AObj}
    (ho : ObjR mk nt (bset β id (w.heap.size, 0, tot)) w'.heap w.heap.size 0 tot o) : Rel mk nt (bset β id (w.heap.size, 0, tot)) (upd h id (some o)) w' := by
  have hle := bset_le (x := (w.heap.size, 0, tot)) hid
  refine ⟨R.g0.mono hle, ?_, ?_⟩
  · intro q p x hq hx
    by_cases e : q = id
    · subst e
      simp only [upd, if_true, Option.some.injEq] at hq
      rw [bset_same] at hx
      simp only [Option.some.injEq] at hx
      subst hq; subst hx; exact ho
    · simp only [upd, e, if_false] at hq
      rw [bset_ne e] at hx
      have := R.obj q p x hq hx
      exact (this.mono hle).heap (G.keep _ this.lt)
  · intro i j oi oj xi xj hne hi hj bi bj hb
    by_cases ei : i = id
    · subst ei
      have ej : j ≠ i := fun h => hne h.symm
      rw [bset_same] at bi
      simp only [Option.some.injEq] at bi
      rw [bset_ne ej] at bj
      simp only [upd, ej, if_false] at hj
      have := (R.obj j oj xj hj bj).lt
      subst bi; simp only at hb; omega
    · by_cases ej : j = id
      · subst ej
        rw [bset_same] at bj
        simp only [Option.some.injEq] at bj
        rw [bset_ne ei] at bi
        simp only [upd, ei, if_false] at hi
        have := (R.obj i oi xi hi bi).lt
        subst bj; simp only at hb; omega
      · rw [bset_ne ei] at bi
        rw [bset_ne ej] at bj
        simp only [upd, ei, ej, if_false] at hi hj
        exact R.sep i j oi oj xi xj hne hi hj bi bj hb
theorem grown_fr {β : Be} {h : HO} {w w' : World} (G : Grown w w') {id : Pos} {tot : Nat} {o : AObj} :
    Fr β h w id (bset β id (w.heap.size, 0, tot)) (upd h id (some o)) w' id.succ := by
  refine ⟨by rw [Pos.toNat_succ]; omega, ?_, by have := G.size; omega, fun b hb _ => G.keep b hb, ?_, G.os, G.tape, G.output⟩
  · intro q hq
    refine bset_ne fun e => hq ?_
    subst e; rw [Pos.toNat_succ]; omega
  · intro b hb ⟨q, p, x, hq, hx, hxb⟩
    by_cases e : q = id
    · subst e
      rw [bset_same] at hx
      simp only [Option.some.injEq] at hx
      subst hx; simp only at hxb; omega
    · rw [bset_ne e] at hx
      simp only [upd, e, if_false] at hq
      exact ⟨q, p, x, hq, hx, hxb⟩

/-- an allocation: the value, the object -/
def AllocAt (mk nt : FuncId → Nat) (P : Program) (m : Nat) (l : Loc) (e : Env) (o : Oper) (id : Pos) (v : AV) (ob : AObj) : Prop :=
  ∀ β a w, G0 β → OpdsR β m l e a o.op → β id = none → ∃ v' w' tot, (execOp a.eval o).run P w = .ok (.value v') w' ∧ Grown w w' ∧
    VR (bset β id (w.heap.size, 0, tot)) v v' ∧ ObjR mk nt (bset β id (w.heap.size, 0, tot)) w'.heap w.heap.size 0 tot ob

/-- a new row of cells -/
theorem newObj_at {β : Be} {w : World} {cs : List AV} {cs' : Array Value} {ty : TypeId} (h : VRs β cs cs'.toList) :
    ObjR mk nt β (w.heap.push (.cells cs' ty)) w.heap.size 0 cs'.size (newObj cs) := by
  refine ⟨cs', ty, (0, 0), by simp, by simp, ⟨cs'.size, Nat.le_refl _, ?_⟩, by intro i h1 h2; simp at h2, by simp⟩
  simpa [← Array.length_toList] using h

theorem alloc_spec {t : TypeId} {z : AV} (hz : zeroT P t = some z) (id : Pos) : AllocAt mk nt P m l e ⟨dst, .alloc t, ty, pos, aft, gd⟩ id (.ptr id 0) (newObj z.cells) := by
  intro β a w hG ho hid
  obtain ⟨z', h1, h2, _⟩ := run_zero hz w
  have hv := (ofVal_spec (bset β id (w.heap.size, 0, z'.cells.size)) 4 z' z h2).cells
  refine ⟨_, _, z'.cells.size, ?_, Grown.push w (.cells z'.cells t), .ptr id 0 w.heap.size 0 z'.cells.size bset_same, newObj_at hv⟩
  simp [execOp, Instr.alloc, h1, newVar, newRow]

theorem box_spec {t : TypeId} {x : Operand} {n : Nat} (_ : sizeT P t = some n) (id : Pos) {c : AV → AObj → Prop} (h : (opA (.box n (xo m x))).run l e id c) :
    ∃ v o, c v o ∧ AllocAt mk nt P m l e ⟨dst, .box t x, ty, pos, aft, gd⟩ id v o := by
  obtain ⟨v, h, hx⟩ := get_spec m l e x h
  obtain ⟨_, h⟩ := ite'_true h
  refine ⟨_, _, h, fun β a w hG ho hid => ?_⟩
  have hv := (hx β a hG (ho x (by simp [Op.operands]))).mono (bset_le (x := (w.heap.size, 0, (a.eval x).cells.size)) hid)
  refine ⟨_, _, (a.eval x).cells.size, ?_, Grown.push w (.cells (a.eval x).cells t), .ptr id 0 w.heap.size 0 _ bset_same, newObj_at hv.cells⟩
  simp [execOp, Instr.box, newVar, newRow]

theorem mkmap_spec {t : TypeId} {r : Option Operand} (hr : r = none ∨ ∃ kt et k n, und P t = some (.map kt et) ∧ r = some (.const (.int k n))) (id : Pos) :
    AllocAt mk nt P m l e ⟨dst, .makeMap t r, ty, pos, aft, gd⟩ id (.map id) (.map []) := by
  intro β a w hG ho hid
  refine ⟨_, _, 0, ?_, Grown.push w (.map #[] 0), .map id w.heap.size (0, 0) bset_same, ⟨#[], 0, by simp, .nil⟩⟩
  rcases hr with rfl | ⟨kt, et, k, n, hu, rfl⟩
  · simp [execOp, Instr.makeMap]
  · simp [execOp, Instr.makeMap, run_underlying hu, Act.eval, asInt, asIntOf]
end
end Go.AE
namespace Go.AE
open Go

theorem rep_length {α : Type} (l : List α) (n : Nat) : (rep l n).length = n * l.length := by
  induction n with
  | zero => simp [rep]
  | succ n ih => simp [rep, ih, Nat.add_mul]; omega
theorem rep_get {α : Type} (l : List α) : ∀ (n i : Nat), i < n * l.length → (rep l n)[i]? = l[i % l.length]?
  | 0, i, h => by simp at h
  | n + 1, i, h => by
    simp only [rep]
    by_cases hi : i < l.length
    · rw [List.getElem?_append_left hi, Nat.mod_eq_of_lt hi]
    · rw [List.getElem?_append_right (by omega), rep_get l n (i - l.length) (by rw [Nat.add_mul] at h; omega)]
      congr 1
      exact (Nat.mod_eq_sub_mod (by omega)).symm
theorem range_rep (z : Array Value) (n : Nat) : ((Array.range (n * z.size)).map fun i => z[i % z.size]!).toList = rep z.toList n := by
  apply List.ext_getElem?
  intro i
  by_cases hi : i < n * z.size
  · have hz : 0 < z.size := by
      rcases Nat.eq_zero_or_pos z.size with h | h
      · rw [h] at hi; simp at hi
      · exact h
    rw [rep_get _ _ _ (by simpa using hi)]
    have hlt : i % z.size < z.size := Nat.mod_lt _ hz
    simp [hi, hlt]
  · have h2 : (rep z.toList n).length ≤ i := by rw [rep_length]; simp; omega
    rw [List.getElem?_eq_none h2]
    simp; omega
theorem zeroCells_rep (z : Array Value) (n : Nat) : (Builtin.zeroCells z n).toList = rep z.toList n := by
  have := range_rep z n
  simpa [Builtin.zeroCells] using this

section
variable {mk nt : FuncId → Nat} {P : Program} {m : Nat} {l : Loc} {e : Env} {dst : Option Tmp} {ty : TypeId} {pos : String} {aft : Array Edge} {gd : Option (Nat × Bool)}

theorem rowOk_spec {i : TypeInfo} {z : AV} (h : rowOk i z = true) : 0 < i.size ∧ 0 < i.bytes ∧ z.cells.length = i.size := by
  unfold rowOk at h
  simp only [Bool.and_eq_true, blt_iff, beq_dec, lenK_eq, decide_eq_true_eq] at h
  exact ⟨h.1.1, h.1.2, h.2⟩
theorem zero_size {z : AV} {z' : Value} (h : ofVal 4 z' = some z) : z.cells.length = z'.cells.size := by
  have := (ofVal_spec (fun _ => none) 4 z' z h).cells.length
  simpa using this

theorem wrap64 {n : Nat} (h : n < 9223372036854775808) : IntKind.i64.wrap (n : Int) = (n : Int) := by
  rw [← fwrap_eq]
  show (bif Nat.blt n 9223372036854775808 then (Int.ofNat n) else _) = _
  rw [blt_iff, decide_eq_true h]; rfl
theorem mkslice_spec {t et : TypeId} {i : TypeInfo} {z : AV} {x y : Operand} (hu : und P t = some (.slice et)) (hi : tinf P et = some i) (hzv : zeroT P et = some z) (h0 : rowOk i z = true) (id : Pos) {c : AV → AObj → Prop}
    (h : (opA (.mkslice i.size i.bytes z.cells (xo m x) (xo m y))).run l e id c) : ∃ v o, c v o ∧ AllocAt mk nt P m l e ⟨dst, .makeSlice t x y, ty, pos, aft, gd⟩ id v o := by
  obtain ⟨hs, hb, hzl⟩ := rowOk_spec h0
  obtain ⟨v, g1, hx⟩ := get_spec m l e x h
  obtain ⟨u, g2, hy⟩ := get_spec m l e y g1
  unfold mksliceK at g2
  obtain ⟨k1, n, hv1, g3⟩ := asNat_spec g2
  obtain ⟨k2, cp, hv2, g4⟩ := asNat_spec g3
  obtain ⟨hq, g5⟩ := ite'_true g4
  subst hv1 hv2
  simp only [Bool.and_eq_true, ble_iff, blt_iff, decide_eq_true_eq] at hq
  obtain ⟨hle, hlt⟩ := hq
  have hcp : cp < 4294967296 := by
    rcases Nat.lt_or_ge cp 4294967296 with h | h
    · exact h
    · have : 4294967296 * 1 ≤ cp * i.bytes := Nat.mul_le_mul h hb
      omega
  refine ⟨_, _, g5, fun β a w hG ho hid => ?_⟩
  obtain ⟨z', h1, h2, _⟩ := run_zero hzv w
  have e1 := (hx β a hG (ho x (by simp [Op.operands]))).int_inv
  have e2 := (hy β a hG (ho y (by simp [Op.operands]))).int_inv
  have hzs : z'.cells.size = i.size := by rw [← zero_size h2, hzl]
  have hvr := rep_spec (ofVal_spec (bset β id (w.heap.size, 0, cp * i.size)) 4 z' z h2) cp
  rw [← range_rep, hzs] at hvr
  have hob : ObjR mk nt (bset β id (w.heap.size, 0, cp * i.size)) (w.heap.push (.cells ((Array.range (cp * i.size)).map fun j => z'.cells[j % i.size]!) et)) w.heap.size 0 (cp * i.size) (newObj (rep z.cells cp)) := by
    have := newObj_at (mk := mk) (nt := nt) (w := w) (ty := et) hvr
    simpa using this
  refine ⟨.slice (some ⟨w.heap.size, 0, none⟩) n cp, _, cp * i.size, ?_, Grown.push w (.cells ((Array.range (cp * i.size)).map fun j => z'.cells[j % i.size]!) et), .slice id 0 n (some cp) i.size w.heap.size 0 (cp * i.size) cp bset_same hle (by simp) (by simp), hob⟩
  have w1 : IntKind.i64.wrap (n : Int) = (n : Int) := wrap64 (by omega)
  have w2 : IntKind.i64.wrap (cp : Int) = (cp : Int) := wrap64 (by omega)
  have hinf : (typeInfo et).run P w = .ok i w := by simp [typeInfo, tinf_spec hi]
  have hsz : (sizeOf et).run P w = .ok i.size w := by simp [sizeOf, hinf]
  have c1 : ¬ ((cp : Int) < 0) := by omega
  have c2 : ¬ ((281474976710656 : Int) < (i.bytes : Int) * (cp : Int)) := by
    have : (i.bytes : Int) * (cp : Int) = ((cp * i.bytes : Nat) : Int) := by rw [Nat.mul_comm]; simp
    rw [this]; omega
  have c3 : ¬ ((n : Int) < 0) := by omega
  have c4 : ¬ ((cp : Int) < (n : Int)) := by omega
  simp only [execOp, Instr.makeSlice]
  by_cases h00 : cp * i.size = 0
  · have : cp = 0 := by
      rcases Nat.mul_eq_zero.1 h00 with h | h
      · exact h
      · omega
    subst this
    have : n = 0 := by omega
    subst this
    have w0 : IntKind.i64.wrap 0 = 0 := w1
    simp [run_underlying hu, e1, e2, asInt, asIntOf, hinf, w0, hsz, newRow]
    have : Array.range 0 = #[] := rfl
    simp [this]
  · simp [run_underlying hu, e1, e2, asInt, asIntOf, hinf, w1, w2, c1, c2, c3, c4, hsz, h00, h1, newRow, hzs]

theorem bslice_spec {t et : TypeId} {len n : Nat} {z : AV} {parts : Array (Nat × Operand)} (hu : und P t = some (.slice et)) (hz : sizeT P et = some (n + 1)) (hzv : zeroT P et = some z)
    (hlen : (Nat.blt (len * (n + 1)) 65536 && Nat.beq (lenK z.cells) (n + 1)) = true) (id : Pos) {c : AV → AObj → Prop}
    (h : (opA (.bslice (n + 1) len (rep z.cells len) (parts.toList.map fun (i, x) => (i * (n + 1), n + 1, xo m x)))).run l e id c) :
    ∃ v o, c v o ∧ AllocAt mk nt P m l e ⟨dst, .buildSlice t len parts, ty, pos, aft, gd⟩ id v o := by
  simp only [Bool.and_eq_true, blt_iff, beq_dec, lenK_eq, decide_eq_true_eq] at hlen
  obtain ⟨hl1, hl2⟩ := hlen
  have h' : fillK (parts.toList.map fun (i, x) => (i * (n + 1), n + 1, xo m x)) l e (rep z.cells len) fun cs => c (.slice id 0 len (some len) (n + 1)) (newObj cs) := h
  obtain ⟨cs2, hc, hcl, hfin⟩ := fill_spec (m := m) (fun i => some (i * (n + 1), n + 1)) parts.toList _ (by simp) (fun j i x hj => ⟨i * (n + 1), n + 1, by simp [hj], rfl⟩) _ _ h'
  refine ⟨_, _, hc, fun β a w hG ho hid => ?_⟩
  obtain ⟨z', h1, h2, _⟩ := run_zero hzv w
  have hzs : z'.cells.size = n + 1 := by rw [← zero_size h2, hl2]
  have hle := bset_le (x := (w.heap.size, 0, len * (n + 1))) hid
  have hvr := rep_spec (ofVal_spec β 4 z' z h2) len
  obtain ⟨cs2', h3, h4⟩ := hfin β a hG (fun p hp => ho p.2 (by simp [Op.operands]; exact ⟨p.1, by simpa using hp⟩)) _ hvr
  have hsz : cs2'.length = len * (n + 1) := by rw [← h3.length, hcl, rep_length, hl2]
  have hob : ObjR mk nt (bset β id (w.heap.size, 0, len * (n + 1))) (w.heap.push (.cells ⟨cs2'⟩ et)) w.heap.size 0 (len * (n + 1)) (newObj cs2) := by
    have := newObj_at (mk := mk) (nt := nt) (w := w) (ty := et) (cs' := ⟨cs2'⟩) (h3.mono hle)
    simpa [hsz] using this
  refine ⟨.slice (some ⟨w.heap.size, 0, none⟩) len len, _, len * (n + 1), ?_, Grown.push w (.cells ⟨cs2'⟩ et), .slice id 0 len (some len) (n + 1) w.heap.size 0 (len * (n + 1)) len bset_same (Nat.le_refl _) (by simp) (by simp), hob⟩
  have c1 : ¬ (16777216 < len * (n + 1)) := by omega
  have e1 : (parts.map fun x => match x with | (i, x) => (i, a.eval x)).toList = parts.toList.map fun p => (p.1, a.eval p.2) := by simp
  have e2 : ∀ zz : Array Value, (zz = z'.cells ∨ len * (n + 1) = 0) → (Array.range (len * (n + 1))).map (fun i => zz[i % zz.size]!) = ⟨rep z'.cells.toList len⟩ := by
    intro zz hz
    rcases hz with rfl | h0
    · apply Array.ext'
      rw [← hzs, range_rep]
    · have : len = 0 := by
        rcases Nat.mul_eq_zero.1 h0 with h | h
        · exact h
        · omega
      subst this
      simp [rep]
  have hrun : ∀ ps, ps.toList = parts.toList.map (fun p => (p.1, a.eval p.2)) → (Instr.buildSlice t len ps).run P w = .ok (.slice (some ⟨w.heap.size, 0, none⟩) len len) { w with heap := w.heap.push (.cells ⟨cs2'⟩ et) } := by
    intro ps hps
    simp only [Instr.buildSlice, Sem.run_bind, run_underlying hu, Result.andThen_ok, run_sizeOf hz, hps]
    have c2 : ¬ (len * (n + 1) > 2 ^ 24) := by omega
    rw [if_neg c2]
    by_cases h00 : len * (n + 1) = 0
    · rw [if_pos h00, Sem.run_bind, Sem.run_pure, Result.andThen_ok, e2 #[] (.inr h00), h4]
      rfl
    · rw [if_neg h00, Sem.run_bind, h1, Result.andThen_ok, Sem.run_bind, Sem.run_pure, Result.andThen_ok, e2 z'.cells (.inl rfl), h4]
      rfl
  simp only [execOp, Sem.run_bind]
  rw [hrun _ e1]
  rfl

theorem s2b_spec {s d et : TypeId} {x : Operand} (hs : und P s = some .string) (hd : und P d = some (.slice et)) (he : und P et = some (.int .u8)) (id : Pos) {c : AV → AObj → Prop}
    (h : (opA (.s2b (xo m x))).run l e id c) : ∃ v o, c v o ∧ AllocAt mk nt P m l e ⟨dst, .convert s d x, ty, pos, aft, gd⟩ id v o := by
  obtain ⟨v, g1, hx⟩ := get_spec m l e x h
  cases v <;> (try exact g1.elim)
  rename_i str
  have g2 : forceNat (lenK str) fun n => c (.slice id 0 n none 1) (.cells (str.map fun b => .int .u8 (.ofNat b)) false n (n + 1) []) := g1
  rw [forceNat_eq, lenK_eq] at g2
  refine ⟨_, _, g2, fun β a w hG ho hid => ?_⟩
  obtain ⟨bs, hv, rfl⟩ := (hx β a hG (ho x (by simp [Op.operands]))).str_inv
  have hcap : ∃ cap, bs.size ≤ cap ∧ (choose (.appendCap bs.size 0 et)).run P w = .ok cap { w with drawn := w.drawn + 1 } :=
    ⟨_, Nat.le_add_right _ _, rfl⟩
  obtain ⟨cap, hle, hch⟩ := hcap
  let cells : Array Value := (bs.data.map fun b => Value.int .u8 b.toNat) ++ Array.replicate (cap - bs.size) (.int .u8 0)
  have hds : bs.data.size = bs.size := rfl
  have hcs : cells.size = cap := by
    simp only [cells, Array.size_append, Array.size_map, Array.size_replicate, hds]; omega
  have hls : (bs.data.toList.map UInt8.toNat).length = bs.size := by
    rw [List.length_map, Array.length_toList]; rfl
  let w1 : World := { w with drawn := w.drawn + 1, heap := w.heap.push (.cells cells et (cap, cap + 1)) }
  refine ⟨.slice (some ⟨w.heap.size, 0, none⟩) bs.size cap, w1, cap, ?_, ?_, ?_, ?_⟩
  · have hv' : (convert s d (a.eval x)).run P w = .ok (.slice (some ⟨w.heap.size, 0, none⟩) bs.size cap) w1 := by
      rw [hv]
      have hst : (Conv.stringToBytes et bs).run P w = .ok (.slice (some ⟨w.heap.size, 0, none⟩) bs.size cap) w1 := by
        unfold Conv.stringToBytes
        rw [Sem.run_bind, hch]
        simp only [Result.andThen_ok, Sem.run_bind, newRow, run_newObj, Sem.run_pure]
        have hm : (markStringish ⟨w.heap.size, 0, none⟩).run P { w with drawn := w.drawn + 1, heap := w.heap.push (.cells cells et) } = .ok () w1 := by
          have h1 : (w.heap.push (Obj.cells cells et))[w.heap.size]? = some (.cells cells et) := by simp
          simp only [markStringish, Sem.run_bind, run_shape, World.shape?, h1, Result.andThen_ok, run_freeze, World.freeze]
          rw [if_neg (by omega)]
          simp only [hcs, w1]
          congr 2
          apply Array.ext_getElem?
          intro i
          rw [Array.getElem?_modify]
          by_cases hi : w.heap.size = i
          · subst hi; simp
          · have hi' : ¬ i = w.heap.size := fun h => hi h.symm
            simp [hi, hi', Array.getElem?_push]
        simp only [cells] at hm
        rw [hm]
        rfl
      simp [convert, run_underlying hs, run_underlying hd, run_underlying he, hst]
    simp only [execOp, Sem.run_bind]
    rw [hv']
    rfl
  · exact ⟨by simp [w1], fun b hb => by simp [w1, Array.getElem?_push, Nat.ne_of_lt hb], rfl, rfl, rfl⟩
  · rw [hls]
    exact .slice id 0 bs.size none 1 w.heap.size 0 cap cap bset_same hle (by simp) (by simp)
  · refine ⟨cells, et, (cap, cap + 1), by simp [w1], by simp [hcs], ⟨bs.size, hle, ?_⟩, ?_, ?_⟩
    · have : (cells.toList.drop 0).take bs.size = bs.data.toList.map fun b => Value.int .u8 b.toNat := by
        simp only [List.drop_zero, cells, Array.toList_append, Array.toList_map]
        rw [List.take_append_of_le_length (by rw [List.length_map, Array.length_toList]; exact Nat.le_refl _)]
        rw [List.take_of_length_le (by rw [List.length_map, Array.length_toList]; exact Nat.le_refl _)]
      rw [this, List.map_map]
      generalize bs.data.toList = bl
      induction bl with
      | nil => exact .nil
      | cons b bl ih => exact .cons _ _ _ _ (.int _ _) ih
    · intro i h1 h2 h3; omega
    · intro h; omega

theorem comp_alloc (o : Oper) {ax : AX} {id : Pos} {c : AV → AObj → Prop} (hcomp : comp P m o.op = .a ax) (hr : (opA ax).run l e id c) :
    ∃ v ob, c v ob ∧ AllocAt mk nt P m l e o id v ob := by
  have hs := comp_shape (P := P) (m := m) o.op
  rw [hcomp] at hs
  clear hcomp
  obtain ⟨dst, op, ty, pos, aft, gd⟩ := o
  simp only at hs
  cases hs with
  | alloc t z hz => exact ⟨_, _, hr, alloc_spec hz id⟩
  | box t x n hz => exact box_spec hz id hr
  | bslice t et len n z parts hu hz hzv hlen => exact bslice_spec hu hz hzv hlen id hr
  | mkslice t et i z x y hu hi hzv h0 => exact mkslice_spec hu hi hzv h0 id hr
  | mkmap0 t => exact ⟨_, _, hr, mkmap_spec (.inl rfl) id⟩
  | mkmap1 t kt et k n hu => exact ⟨_, _, hr, mkmap_spec (.inr ⟨kt, et, k, n, hu, rfl⟩) id⟩
  | s2b s d et x hs hd he => exact s2b_spec hs hd he id hr
end
end Go.AE
namespace Go.AE
open Go

theorem VR.one {β : Be} {v : AV} {v' : Value} (h : VR β v v') (h1 : v.one = true) : v'.oneCell' = true := by
  cases h <;> first | rfl | (simp [AV.one] at h1)

theorem patch_drop {α : Type} (l vs : List α) (base off : Nat) (h : base + off + vs.length ≤ l.length) :
    (l.take (base + off) ++ vs ++ l.drop (base + off + vs.length)).drop base = (l.drop base).take off ++ vs ++ (l.drop base).drop (off + vs.length) := by
  have h1 : (l.take (base + off)).length = base + off := by simp; omega
  rw [List.append_assoc, List.drop_append_of_le_length (by omega), List.drop_take, List.drop_drop]
  rw [show base + off - base = off by omega, show base + (off + vs.length) = base + off + vs.length by omega, List.append_assoc]
theorem patch_take {α : Type} (l vs : List α) (off k : Nat) (h : off + vs.length ≤ k) (hk : k ≤ l.length) :
    (l.take off ++ vs ++ l.drop (off + vs.length)).take k = (l.take k).take off ++ vs ++ (l.take k).drop (off + vs.length) := by
  have h1 : (l.take off ++ vs).length = off + vs.length := by simp; omega
  rw [List.take_append, h1, List.take_of_length_le (by omega), List.take_take, Nat.min_eq_left (by omega), List.drop_take]

/-- a row of writes into a block -/
theorem storeCells_run {P : Program} (b : Nat) (ty : TypeId) (fr : Nat × Nat) : ∀ (vs : List Value) (w : World) (c : Array Value) (o i : Nat), w.heap[b]? = some (.cells c ty fr) → o + i + vs.length ≤ c.size → (∀ v ∈ vs, v.oneCell' = true) →
    (∀ j, o + i ≤ j → j < o + i + vs.length → ¬ (fr.1 ≤ j ∧ j < fr.2)) →
    ∃ w' : World, (storeCells ⟨b, o, none⟩ vs i).run P w = .ok () w' ∧ w'.heap.size = w.heap.size ∧ (∃ c' : Array Value, w'.heap[b]? = some (.cells c' ty fr) ∧ c'.toList = c.toList.take (o + i) ++ vs ++ c.toList.drop (o + i + vs.length)) ∧
      (∀ b', b' ≠ b → w'.heap[b']? = w.heap[b']?) ∧ w'.os = w.os ∧ w'.tape = w.tape ∧ w'.output = w.output
  | [], w, c, o, i, hc, _, _, _ => ⟨w, rfl, rfl, ⟨c, hc, by simp⟩, fun _ _ => rfl, rfl, rfl, rfl⟩
  | v :: vs, w, c, o, i, hc, hs, h1, hf => by
    simp only [List.length_cons] at hs hf
    have ea : (Addr.add ⟨b, o, none⟩ i) = ⟨b, o + i, none⟩ := by
      unfold Addr.add; split
      · subst i; rfl
      · rfl
    have hlt : o + i < c.size := by omega
    have hcell : w.cell? ⟨b, o + i, none⟩ = some c[o + i] := by simp [World.cell?, hc, hlt]
    have hfr : w.frozen? ⟨b, o + i, none⟩ = false := by
      have := hf (o + i) (by omega) (by omega)
      simp only [World.frozen?, hc]
      simp only [Bool.and_eq_false_iff, decide_eq_false_iff_not]
      omega
    have hst : (store ⟨b, o + i, none⟩ v).run P w = .ok () (w.setCell ⟨b, o + i, none⟩ v) := by
      rw [run_store P w _ v .plain (h1 v (by simp)), hcell]
      simp [hfr]
    have hb : b < w.heap.size := (Array.getElem?_eq_some_iff.1 hc).1
    have hc2 : (w.setCell ⟨b, o + i, none⟩ v).heap[b]? = some (.cells (c.setIfInBounds (o + i) v) ty fr) := by
      simp only [World.setCell, Array.getElem?_modify, hc]
      simp
    obtain ⟨w', r1, r2, ⟨c', r3, r4⟩, r5, r6, r7, r8⟩ := storeCells_run b ty fr vs (w.setCell ⟨b, o + i, none⟩ v) (c.setIfInBounds (o + i) v) o (i + 1) hc2 (by simp; omega) (fun x hx => h1 x (by simp [hx]))
      (fun j h1 h2 => hf j (by omega) (by omega))
    refine ⟨w', ?_, ?_, ⟨c', r3, ?_⟩, ?_, r6, r7, r8⟩
    · simp only [storeCells, Sem.run_bind, ea, hst, Result.andThen_ok]
      exact r1
    · rw [r2]; simp [World.setCell]
    · rw [r4]
      have e1 : o + (i + 1) = (o + i) + 1 := by omega
      have e2 : o + i + (v :: vs).length = o + i + 1 + vs.length := by simp; omega
      rw [e1, e2]
      have hlt : o + i < c.toList.length := by simpa using hlt
      simp only [Array.toList_setIfInBounds]
      rw [List.take_succ_eq_append_getElem (by simpa using hlt)]
      simp
      rw [List.drop_set_of_lt (by omega), List.take_set_of_le (Nat.le_refl _)]
    · intro b' hb'
      rw [r5 b' hb']
      simp only [World.setCell, Array.getElem?_modify]
      rw [if_neg (fun h => hb' h.symm)]

def kill (h : HO) (anc : List Pos) : HO := fun q => if q ∈ anc then none else h q
theorem killAnc_spec : ∀ (anc : List Pos) {σ : Heap} {c : Heap → Prop}, killAnc anc σ c → ∃ σ', c σ' ∧ hof σ' = kill (hof σ) anc
  | [], σ, c, h => ⟨σ, h, by funext q; simp [kill]⟩
  | i :: anc, σ, c, h => by
    have h' : T.set i σ none fun σ => killAnc anc σ c := h
    obtain ⟨σ1, h1, h2⟩ := T.set_spec _ _ _ _ h'
    obtain ⟨σ', h3, h4⟩ := killAnc_spec anc h1
    refine ⟨σ', h3, ?_⟩
    rw [h4]
    funext q
    simp only [kill, hof, h2, List.mem_cons]
    by_cases hq : q ∈ anc
    · simp [hq]
    · by_cases hi : q = i
      · simp [hi]
      · simp [hi]
theorem set_spec {σ : Heap} {id : Pos} {v : Option AObj} {c : Heap → Prop} (h : T.set id σ v c) : ∃ σ', c σ' ∧ hof σ' = upd (hof σ) id v := by
  obtain ⟨σ', h1, h2⟩ := T.set_spec _ _ _ _ h
  exact ⟨σ', h1, by funext q; simp only [hof, upd, h2]⟩

section
variable {mk nt : FuncId → Nat} {P : Program}

theorem write_rel {β : Be} {h : HO} {w : World} (R : Rel mk nt β h w) {id : Pos} {cs : List AV} {lo hi : Nat} {anc : List Pos} (hid : h id = some (.cells cs false lo hi anc)) {b base tot : Nat} (hb : β id = some (b, base, tot))
    {off : Nat} {vs : List AV} {vs' : List Value} (hf : hi ≤ lo ∨ hi ≤ off ∨ off + vs.length ≤ lo) (hlen : off + vs.length ≤ cs.length) (h1 : ∀ v ∈ vs, v.one = true) (hv : VRs β vs vs') :
    ∃ w', (storeCells ⟨b, base + off, none⟩ vs').run P w = .ok () w' ∧
      Rel mk nt β (upd (kill h anc) id (some (.cells (cs.take off ++ vs ++ cs.drop (off + vs.length)) false lo hi []))) w' ∧ w'.heap.size = w.heap.size ∧ (∀ b', b' ≠ b → w'.heap[b']? = w.heap[b']?) ∧
      w'.os = w.os ∧ w'.tape = w.tape ∧ w'.output = w.output := by
  obtain ⟨c, ty, fr, q1, q2, ⟨k, q3, q4⟩, q5, q6⟩ := R.obj id _ _ hid hb
  simp only at q1 q2 q3 q4 q5
  have hl := hv.length
  have hkl : cs.length = k := by rw [q4.length, List.length_take, List.length_drop, Array.length_toList]; omega
  have hone : ∀ v ∈ vs', v.oneCell' = true := by
    clear q4 hlen hf hl
    induction vs generalizing vs' with
    | nil => cases hv; simp
    | cons v vs ih =>
      cases hv with
      | cons _ v' _ l' hv hs =>
        intro x hx
        rcases List.mem_cons.1 hx with rfl | hx
        · exact hv.one (h1 v (by simp))
        · exact ih (fun y hy => h1 y (by simp [hy])) hs x hx
  obtain ⟨w', r1, r2, ⟨c', r3, r4⟩, r5, r6, r7, r8⟩ := storeCells_run (P := P) b ty fr vs' w c (base + off) 0 q1 (by omega) hone (by
    intro j h1 h2 ⟨h3, h4⟩
    have h5 := q5 j h3 h4 (by omega)
    rcases hf with hf | hf | hf
    · omega
    · omega
    · omega)
  refine ⟨w', r1, ?_, r2, r5, r6, r7, r8⟩
  have hsz : c'.size = c.size := by
    have := congrArg List.length r4
    simp at this; omega
  refine ⟨R.g0, ?_, ?_⟩
  · intro q o x hq hx
    by_cases e : q = id
    · subst e
      simp only [upd, if_true, Option.some.injEq] at hq
      rw [hb] at hx
      simp only [Option.some.injEq] at hx
      subst hq; subst hx
      refine ⟨c', ty, fr, r3, (by show c'.size = base + tot; omega), ⟨k, q3, ?_⟩, fun i a1 a2 a3 => q5 i a1 a2 (by omega), q6⟩
      simp only [Nat.add_zero] at r4
      have hcl : c.toList.length = c.size := Array.length_toList
      have p1 := patch_drop c.toList vs' base off (by omega)
      have p2 := patch_take (c.toList.drop base) vs' off k (by omega) (by rw [List.length_drop]; omega)
      rw [r4, p1, p2]
      have a1 := (q4.take off).append hv
      rw [← hl]
      exact a1.append (q4.drop _)
    · simp only [upd, e, if_false, kill] at hq
      by_cases ha : q ∈ anc
      · simp [ha] at hq
      · simp only [ha, if_false] at hq
        have ob := R.obj q o x hq hx
        refine ob.heap (r5 _ fun hbb => ?_)
        have := R.sep id q _ _ _ _ (fun h => e h.symm) hid hq hb hx hbb.symm
        cases o <;> simp [Share] at this
        exact ha this.2.1
  · intro i j oi oj xi xj hne hhi hj bi bj hbb
    have back : ∀ q oq, upd (kill h anc) id (some (.cells (cs.take off ++ vs ++ cs.drop (off + vs.length)) false lo hi [])) q = some oq → q ≠ id → q ∉ anc ∧ h q = some oq := by
      intro q oq hq hn
      simp only [upd, hn, if_false, kill] at hq
      by_cases ha : q ∈ anc
      · simp [ha] at hq
      · simp only [ha, if_false] at hq; exact ⟨ha, hq⟩
    by_cases ei : i = id
    · subst ei
      obtain ⟨ha, hj⟩ := back j oj hj (fun h => hne h.symm)
      have := R.sep i j _ _ _ _ hne hid hj bi bj hbb
      cases oj <;> simp [Share] at this
      exact (ha this.2.1).elim
    · by_cases ej : j = id
      · subst ej
        obtain ⟨ha, hi'⟩ := back i oi hhi ei
        have := R.sep j i _ _ _ _ (fun h => hne h.symm) hid hi' bj bi hbb.symm
        cases oi <;> simp [Share] at this
        exact (ha this.2.1).elim
      · exact R.sep i j oi oj xi xj hne (back i oi hhi ei).2 (back j oj hj ej).2 bi bj hbb

/-- the cells that are read, as values -/
theorem writeCells_spec {σ : Heap} {id : Pos} {off : Nat} {vs : List AV} {c : Heap → Prop} (h : writeCells σ id off vs c) :
    ∃ cs lo hi anc σ', hof σ id = some (.cells cs false lo hi anc) ∧ (hi ≤ lo ∨ hi ≤ off ∨ off + vs.length ≤ lo) ∧ off + vs.length ≤ cs.length ∧ (∀ v ∈ vs, v.one = true) ∧ c σ' ∧
      hof σ' = upd (kill (hof σ) anc) id (some (.cells (cs.take off ++ vs ++ cs.drop (off + vs.length)) false lo hi [])) := by
  obtain ⟨o, ho, h⟩ := withObj_spec h
  rcases o with ⟨cs, rd, lo, hi, anc⟩ | _ | _ | _ | _ <;> (try exact h.elim)
  unfold writeObj at h
  cases rd with
  | true => exact h.elim
  | false =>
    have h' : ite' (Nat.ble hi lo || Nat.ble hi off || Nat.ble (off + lenK vs) lo) (patchK vs off cs fun cs => killAnc anc σ fun σ => T.set id σ (some (.cells cs false lo hi [])) c) False := h
    obtain ⟨hq, h1⟩ := ite'_true h'
    obtain ⟨h2, h3, h4⟩ := patchK_spec _ _ _ _ h1
    obtain ⟨σ1, h5, h6⟩ := killAnc_spec _ h4
    obtain ⟨σ2, h7, h8⟩ := set_spec h5
    refine ⟨cs, lo, hi, anc, σ2, ho, ?_, h2, h3, h7, by rw [h8, h6]⟩
    simp only [Bool.or_eq_true, ble_iff, lenK_eq, decide_eq_true_eq] at hq
    rcases hq with (h | h) | h
    · exact .inl h
    · exact .inr (.inl h)
    · exact .inr (.inr h)
theorem write_fr {β : Be} {h : HO} {w w' : World} {nx : Pos} {id : Pos} {o o' : AObj} {anc : List Pos} (hid : h id = some o) {b base tot : Nat} (hb : β id = some (b, base, tot))
    (h1 : w'.heap.size = w.heap.size) (h2 : ∀ b', b' ≠ b → w'.heap[b']? = w.heap[b']?) (h3 : w'.os = w.os) (h4 : w'.tape = w.tape) (h5 : w'.output = w.output) :
    Fr β h w nx β (upd (kill h anc) id (some o')) w' nx := by
  refine ⟨Nat.le_refl _, fun _ _ => rfl, by omega, ?_, ?_, h3, h4, h5⟩
  · intro b' _ hc
    refine h2 b' fun e => hc ?_
    exact ⟨id, o, _, hid, hb, e.symm⟩
  · intro b' _ ⟨q, p, x, hq, hx, hxb⟩
    by_cases e : q = id
    · subst e; exact ⟨q, o, x, hid, hx, hxb⟩
    · simp only [upd, e, if_false, kill] at hq
      by_cases ha : q ∈ anc
      · simp [ha] at hq
      · simp only [ha, if_false] at hq; exact ⟨q, p, x, hq, hx, hxb⟩
end
end Go.AE
namespace Go.AE
open Go

section
variable {mk nt : FuncId → Nat} {P : Program} {m : Nat} {l : Loc} {e : Env} {dst : Option Tmp} {ty : TypeId} {pos : String} {aft : Array Edge} {gd : Option (Nat × Bool)}

/-- an operation gives its frame a value -/
def Gives (P : Program) (s : Sem Next) (w : World) (v' : Value) (w' : World) : Prop :=
  s.run P w = .ok (.value v') w' ∨ (v' = undef ∧ s.run P w = .ok .skip w')

/-- an operation that acts on the memory alone -/
def EffAt (mk nt : FuncId → Nat) (P : Program) (m : Nat) (l : Loc) (e : Env) (o : Oper) (σ : Heap) (nx : Pos) (v : AV) (σ' : Heap) (nx' : Pos) : Prop :=
  nx.toNat ≤ nx'.toNat ∧ ∀ β a w, Rel mk nt β (hof σ) w → Free β nx nx' → OpdsR β m l e a o.op →
    ∃ β' w' v', Gives P (execOp a.eval o) w v' w' ∧ VR β' v v' ∧ Rel mk nt β' (hof σ') w' ∧ Fr β (hof σ) w nx β' (hof σ') w' nx'

/-- an object that is no row of cells is changed -/
theorem set_rel {β : Be} {h : HO} {w w' : World} (R : Rel mk nt β h w) {id : Pos} {o o' : AObj} (hid : h id = some o) {x : Nat × Nat × Nat} (hb : β id = some x) (ho : ∀ cs rd lo hi anc, o ≠ .cells cs rd lo hi anc)
    (ho' : ObjR mk nt β w'.heap x.1 x.2.1 x.2.2 o') (hk : ∀ b', b' ≠ x.1 → w'.heap[b']? = w.heap[b']?) : Rel mk nt β (upd h id (some o')) w' := by
  have apart : ∀ j oj xj, j ≠ id → h j = some oj → β j = some xj → xj.1 ≠ x.1 := by
    intro j oj xj hne hj hbj hbb
    have := R.sep id j _ _ _ _ (fun h => hne h.symm) hid hj hb hbj hbb.symm
    cases o <;> first | exact ho _ _ _ _ _ rfl | simp [Share] at this
  refine ⟨R.g0, ?_, ?_⟩
  · intro q p y hq hy
    by_cases e : q = id
    · subst e
      simp only [upd, if_true, Option.some.injEq] at hq
      rw [hb] at hy
      simp only [Option.some.injEq] at hy
      subst hq; subst hy; exact ho'
    · simp only [upd, e, if_false] at hq
      exact (R.obj q p y hq hy).heap (hk _ (apart q p y e hq hy))
  · intro i j oi oj xi xj hne hi hj bi bj hbb
    by_cases ei : i = id
    · subst ei
      have ej : j ≠ i := fun h => hne h.symm
      simp only [upd, ej, if_false] at hj
      rw [hb] at bi
      simp only [Option.some.injEq] at bi
      subst bi
      exact (apart j oj xj ej hj bj hbb.symm).elim
    · by_cases ej : j = id
      · subst ej
        simp only [upd, ei, if_false] at hi
        rw [hb] at bj
        simp only [Option.some.injEq] at bj
        subst bj
        exact (apart i oi xi ei hi bi hbb).elim
      · simp only [upd, ei, ej, if_false] at hi hj
        exact R.sep i j oi oj xi xj hne hi hj bi bj hbb
theorem set_fr {β : Be} {h : HO} {w w' : World} {nx : Pos} {id : Pos} {o o' : AObj} (hid : h id = some o) {x : Nat × Nat × Nat} (hb : β id = some x)
    (h1 : w'.heap.size = w.heap.size) (h2 : ∀ b', b' ≠ x.1 → w'.heap[b']? = w.heap[b']?) (h3 : w'.os = w.os) (h4 : w'.tape = w.tape) (h5 : w'.output = w.output) :
    Fr β h w nx β (upd h id (some o')) w' nx := by
  refine ⟨Nat.le_refl _, fun _ _ => rfl, by omega, ?_, ?_, h3, h4, h5⟩
  · intro b' _ hc
    exact h2 b' fun e => hc ⟨id, o, _, hid, hb, e.symm⟩
  · intro b' _ ⟨q, p, y, hq, hy, hyb⟩
    by_cases e : q = id
    · subst e; exact ⟨q, o, y, hid, hy, hyb⟩
    · simp only [upd, e, if_false] at hq; exact ⟨q, p, y, hq, hy, hyb⟩

theorem store_spec {t : TypeId} {x y : Operand} {n : Nat} {σ : Heap} {nx : Pos} (hz : sizeT P t = some n) {c : Heap → Prop} (h : (get (xo m x)).run l e fun a => (get (xo m y)).run l e fun v => storeK n a v σ c) :
    ∃ σ', c σ' ∧ EffAt mk nt P m l e ⟨dst, .store t x y, ty, pos, aft, gd⟩ σ nx (.tuple []) σ' nx := by
  obtain ⟨a, g1, hx⟩ := get_spec m l e x h
  obtain ⟨v, g2, hy⟩ := get_spec m l e y g1
  cases a <;> (try exact g2.elim)
  rename_i id off
  have g3 : ite' (Nat.beq (lenK v.cells) n) (writeCells σ id off v.cells c) False := g2
  obtain ⟨hq, g4⟩ := ite'_true g3
  rw [beq_dec, decide_eq_true_eq, lenK_eq] at hq
  obtain ⟨cs, lo, hi, anc, σ', k1, k2, k3, k4, k5, k6⟩ := writeCells_spec g4
  refine ⟨σ', k5, Nat.le_refl _, fun β a w R _ ho => ?_⟩
  obtain ⟨b, base, tot, hb, he⟩ := (hx β a R.g0 (ho x (by simp [Op.operands]))).ptr_inv
  have hv := (hy β a R.g0 (ho y (by simp [Op.operands]))).cells
  obtain ⟨w', r1, r2, r3, r4, r5, r6, r7⟩ := write_rel (P := P) R k1 hb k2 k3 k4 hv
  refine ⟨β, w', undef, .inr ⟨rfl, ?_⟩, .tuple _ [] .nil, by rw [k6]; exact r2, by rw [k6]; exact write_fr k1 hb r3 r4 r5 r6 r7⟩
  have hsz : (a.eval y).cells.size = n := by rw [← hq, hv.length]; simp
  simp [execOp, Instr.storeAt, Instr.sureAddr, he, storeVar, run_sizeOf hz, hsz, r1]

theorem range_spec {t : TypeId} {x : Operand} {σ : Heap} {nx : Pos} (hu : und P t = some .string) {c : AV → Heap → Pos → Prop} (h : (get (xo m x)).run l e fun v => rangeK v σ nx c) :
    ∃ v σ' nx', c v σ' nx' ∧ EffAt mk nt P m l e ⟨dst, .range t x, ty, pos, aft, gd⟩ σ nx v σ' nx' := by
  obtain ⟨v, g1, hx⟩ := get_spec m l e x h
  cases v <;> (try exact g1.elim)
  rename_i s
  obtain ⟨σ', g2, g3⟩ := set_spec g1
  refine ⟨_, σ', _, g2, by rw [Pos.toNat_succ]; omega, fun β a w R hf ho => ?_⟩
  obtain ⟨bs, hv, rfl⟩ := (hx β a R.g0 (ho x (by simp [Op.operands]))).str_inv
  have hid : β nx = none := hf nx (Nat.le_refl _) (by rw [Pos.toNat_succ]; omega)
  have G := Grown.push w (.stringIter bs 0)
  refine ⟨bset β nx (w.heap.size, 0, 0), { w with heap := w.heap.push (.stringIter bs 0) }, .pointer (some ⟨w.heap.size, 0, none⟩), .inl ?_, .ptr nx 0 w.heap.size 0 0 bset_same, ?_, ?_⟩
  · simp [execOp, Instr.range, run_underlying hu, hv]
  · rw [g3]
    exact grown_rel R G hid ⟨rfl, bs, by simp, by simp⟩
  · rw [g3]; exact grown_fr G

theorem next_spec {x : Operand} {σ : Heap} {nx : Pos} {c : AV → Heap → Prop} (h : (get (xo m x)).run l e fun v => nextK v σ c) :
    ∃ v σ', c v σ' ∧ EffAt mk nt P m l e ⟨dst, .next x true, ty, pos, aft, gd⟩ σ nx v σ' nx := by
  obtain ⟨v, g1, hx⟩ := get_spec m l e x h
  cases v <;> (try exact g1.elim)
  rename_i id off
  have g2 : ite' (Nat.beq off 0) (withObj σ id fun o => nextO o id σ c) False := g1
  obtain ⟨h0, g3⟩ := ite'_true g2
  rw [beq_dec, decide_eq_true_eq] at h0
  subst h0
  obtain ⟨o, ho, g4⟩ := withObj_spec g3
  rcases o with _ | _ | _ | _ | ⟨s, p⟩ <;> (try exact g4.elim)
  cases s with
  | nil =>
    refine ⟨_, σ, g4, Nat.le_refl _, fun β a w R hf hop => ?_⟩
    obtain ⟨b, base, tot, hb, he⟩ := (hx β a R.g0 (hop x (by simp [Op.operands]))).ptr_inv
    obtain ⟨q0, bs, q1, q2⟩ := R.obj id _ _ ho hb
    simp only at q0 q1; subst q0
    refine ⟨β, w, .tuple #[.bool false], .inl ?_, .tuple _ [.bool false] (.cons _ _ _ _ (.bool _) .nil), R, Fr.refl _ _ _ _⟩
    have hle : ¬ p < bs.size := by
      have := congrArg List.length q2
      simp only [List.length_drop, List.length_map, Array.length_toList, List.length_nil] at this
      have : bs.data.size = bs.size := rfl
      omega
    have hget : (getObj b).run P w = .ok (.stringIter bs p) w := by simp [getObj, Sem.run, q1]
    simp [execOp, Instr.next, he, hget, hle]
  | cons b0 r =>
    have g5 : ite' (Nat.blt b0 128) (T.set id σ (some (.siter r (Nat.succ p))) fun σ => c (.tuple [.bool true, .int .i64 (.ofNat p), .int .i32 (.ofNat b0)]) σ) False := g4
    obtain ⟨h0, g6⟩ := ite'_true g5
    rw [blt_iff, decide_eq_true_eq] at h0
    obtain ⟨σ', g7, g8⟩ := set_spec g6
    refine ⟨_, σ', g7, Nat.le_refl _, fun β a w R hf hop => ?_⟩
    obtain ⟨b, base, tot, hb, he⟩ := (hx β a R.g0 (hop x (by simp [Op.operands]))).ptr_inv
    obtain ⟨q0, bs, q1, q2⟩ := R.obj id _ _ ho hb
    simp only at q0 q1; subst q0
    have hds : bs.data.size = bs.size := rfl
    have hlt : p < bs.size := by
      have := congrArg List.length q2
      simp only [List.length_drop, List.length_map, Array.length_toList, List.length_cons] at this
      omega
    have hget : (getObj b).run P w = .ok (.stringIter bs p) w := by simp [getObj, Sem.run, q1]
    have hbyte : (bs.get! p).toNat = b0 := by
      have h1 : ((bs.data.toList.map UInt8.toNat).drop p)[0]? = some b0 := by rw [q2]; rfl
      rw [List.getElem?_drop] at h1
      simp only [Nat.add_zero, List.getElem?_map, Option.map_eq_some_iff] at h1
      obtain ⟨u, h2, h3⟩ := h1
      have h4 : bs.data[p]? = some u := by simpa using h2
      have : bs.get! p = u := by
        show bs.data[p]! = u
        rw [getElem!_def, h4]
      rw [this, h3]
    have hdec : Utf8.decode bs p = (b0, 1) := by
      unfold Utf8.decode
      simp only [Nat.add_zero, hbyte]
      rw [if_pos h0]
    let w' : World := { w with heap := w.heap.setIfInBounds b (.stringIter bs (p + 1)) }
    have hbs : b < w.heap.size := (Array.getElem?_eq_some_iff.1 q1).1
    have hset : (setObj b (.stringIter bs (p + 1))).run P w = .ok () w' := by simp [setObj, Sem.run, q1, w']
    have hoth : ∀ b', b' ≠ b → w'.heap[b']? = w.heap[b']? := by
      intro b' hne
      simp only [w', Array.getElem?_setIfInBounds]
      rw [if_neg (fun h => hne h.symm)]
    refine ⟨β, w', .tuple #[.bool true, .int .i64 p, .int .i32 b0], .inl ?_, .tuple _ [.bool true, .int .i64 p, .int .i32 b0] (.cons _ _ _ _ (.bool _) (.cons _ _ _ _ (.int _ _) (.cons _ _ _ _ (.int _ _) .nil))), ?_, ?_⟩
    · simp [execOp, Instr.next, he, hget, hlt, hdec, hset, goInt]
    · rw [g8]
      refine set_rel R ho hb (by simp) ?_ hoth
      refine ⟨rfl, bs, by simp [w', hbs], ?_⟩
      have := congrArg (List.drop 1) q2
      rw [List.drop_drop] at this
      simpa [Nat.add_comm] using this
    · rw [g8]
      exact set_fr ho hb (by simp [w']) hoth rfl rfl rfl
end
end Go.AE
namespace Go.AE
open Go

section
variable {mk nt : FuncId → Nat} {P : Program} {m : Nat} {l : Loc} {e : Env} {dst : Option Tmp} {ty : TypeId} {pos : String} {aft : Array Edge} {gd : Option (Nat × Bool)}

def UpdH (h : HO) (kk : Nat) (k v : AV) : List (AV × AV) → List (AV × AV) → Prop
  | [], r => r = [(k, v)]
  | e :: es, r => ∃ t, KeyEqH h kk k e.1 t ∧ (if t = true then r = (k, v) :: es else ∃ r', r = e :: r' ∧ UpdH h kk k v es r')
theorem updK_spec {σ : Heap} {kk : Nat} {k v : AV} : ∀ {es : List (AV × AV)} {c : List (AV × AV) → Prop}, updK σ kk k v es c → ∃ r, c r ∧ UpdH (hof σ) kk k v es r
  | [], c, h => ⟨_, h, rfl⟩
  | e :: es, c, h => by
    have h' : keyEq σ kk k e.1 fun t => ite' t (c ((k, v) :: es)) (updK σ kk k v es fun r => c (e :: r)) := h
    obtain ⟨t, h1, h2⟩ := keyEq_spec h'
    cases t with
    | true => exact ⟨_, h1, true, h2, rfl⟩
    | false =>
      obtain ⟨r, h3, h4⟩ := updK_spec (es := es) h1
      exact ⟨_, h3, false, h2, r, rfl, h4⟩

theorem EsR.push {β : Be} {k v : AV} {e : MapEntry} (hk : VR β k e.key) (hv : VR β v e.val) : ∀ {l : List (AV × AV)} {l' : List MapEntry}, EsR β l l' → EsR β (l ++ [(k, v)]) (l' ++ [e])
  | _, _, .nil => .cons _ _ _ _ _ hk hv .nil
  | _, _, .cons a b e' l l' ha hb hs => .cons a b e' _ _ ha hb (EsR.push hk hv hs)

/-- where an entry is found, and what becomes of the list -/
theorem upd_asking {β : Be} {h : HO} {w : World} (R : Rel mk nt β h w) {kt : TypeId} {d : TypeDesc} {kk : Nat} (hd : und P kt = some d) (hk : keyKind P d = some kk) {k v : AV} {k' v' : Value} (hkv : VR β k k') (hvv : VR β v v') :
    ∀ {es : List (AV × AV)} {es' : List MapEntry} {r : List (AV × AV)} (i : Nat), EsR β es es' → UpdH h kk k v es r →
      ((Instr.findAsking kt k' es' i).run P w = .ok none w ∧ r = es ++ [(k, v)]) ∨
      ∃ j e', (Instr.findAsking kt k' es' i).run P w = .ok (some (i + j, e'.val)) w ∧ es'[j]? = some e' ∧ (∃ a, KeyEqH h kk k a true ∧ VR β a e'.key) ∧ EsR β r (es'.modify j fun e => { e with key := k', val := v' })
  | _, _, r, i, .nil, hf => .inl ⟨by simp [Instr.findAsking], hf⟩
  | _, _, r, i, .cons a b e' l l' ha hb hs, hf => by
    obtain ⟨t, h1, h2⟩ := hf
    have hq := keyEq_run R hd hk h1 hkv ha
    cases t with
    | true =>
      simp only [if_true] at h2
      subst h2
      exact .inr ⟨0, e', by simp [Instr.findAsking, hq], rfl, ⟨a, h1, ha⟩, by simpa using EsR.cons _ _ { e' with key := k', val := v' } _ _ hkv hvv hs⟩
    | false =>
      simp only [Bool.false_eq_true, if_false] at h2
      obtain ⟨r', rfl, h2⟩ := h2
      rcases upd_asking R hd hk hkv hvv (i + 1) hs h2 with ⟨h3, h4⟩ | ⟨j, e2, h3, h4, h5, h6⟩
      · exact .inl ⟨by simp [Instr.findAsking, hq, h3], by rw [h4]; rfl⟩
      · exact .inr ⟨j + 1, e2, by simp [Instr.findAsking, hq, h3]; omega, by simpa using h4, h5, by simpa using EsR.cons _ _ _ _ _ ha hb h6⟩
theorem upd_now {β : Be} {h : HO} {d : TypeDesc} {kk : Nat} (hk : plainKind d = some kk) {k v : AV} {k' v' : Value} (hkv : VR β k k') (hvv : VR β v v') :
    ∀ {es : List (AV × AV)} {es' : List MapEntry} {r : List (AV × AV)} (i : Nat), EsR β es es' → UpdH h kk k v es r →
      (Instr.findNow d k' es' i = some none ∧ r = es ++ [(k, v)]) ∨
      ∃ j e', Instr.findNow d k' es' i = some (some (i + j, e'.val)) ∧ es'[j]? = some e' ∧ (∃ a, KeyEqH h kk k a true ∧ VR β a e'.key) ∧ EsR β r (es'.modify j fun e => { e with key := k', val := v' })
  | _, _, r, i, .nil, hf => .inl ⟨by simp [Instr.findNow], hf⟩
  | _, _, r, i, .cons a b e' l l' ha hb hs, hf => by
    obtain ⟨t, h1, h2⟩ := hf
    have hq : Instr.sameNow d k' e'.key = some t := by
      rcases h1 with h1 | ⟨rfl, _⟩
      · exact sameNow_spec hk h1 hkv ha
      · exact (plainKind_ne3 hk).elim
    cases t with
    | true =>
      simp only [if_true] at h2
      subst h2
      exact .inr ⟨0, e', by simp [Instr.findNow, hq], rfl, ⟨a, h1, ha⟩, by simpa using EsR.cons _ _ { e' with key := k', val := v' } _ _ hkv hvv hs⟩
    | false =>
      simp only [Bool.false_eq_true, if_false] at h2
      obtain ⟨r', rfl, h2⟩ := h2
      rcases upd_now hk hkv hvv (i + 1) hs h2 with ⟨h3, h4⟩ | ⟨j, e2, h3, h4, h5, h6⟩
      · exact .inl ⟨by simp [Instr.findNow, hq, h3], by rw [h4]; rfl⟩
      · exact .inr ⟨j + 1, e2, by simp [Instr.findNow, hq, h3]; omega, by simpa using h4, h5, by simpa using EsR.cons _ _ _ _ _ ha hb h6⟩
theorem upd_key {β : Be} {h : HO} {w : World} (R : Rel mk nt β h w) {kt : TypeId} {d : TypeDesc} {kk : Nat} (hd : und P kt = some d) (hk : keyKind P d = some kk) {k v : AV} {k' v' : Value} (hkv : VR β k k') (hvv : VR β v v')
    {es : List (AV × AV)} {es' : List MapEntry} {r : List (AV × AV)} (he : EsR β es es') (hf : UpdH h kk k v es r) :
      ((Instr.findKey kt k' es').run P w = .ok none w ∧ r = es ++ [(k, v)]) ∨
      ∃ j e', (Instr.findKey kt k' es').run P w = .ok (some (j, e'.val)) w ∧ es'[j]? = some e' ∧ (∃ a, KeyEqH h kk k a true ∧ VR β a e'.key) ∧ EsR β r (es'.modify j fun e => { e with key := k', val := v' }) := by
  rcases keyKind_cases hk with hpk | ⟨rfl, e, n, rfl, hz⟩
  · rcases upd_now hpk hkv hvv 0 he hf with ⟨h1, h2⟩ | ⟨j, e', h1, h2⟩
    · exact .inl ⟨by simp [Instr.findKey, run_underlying hd, h1], h2⟩
    · exact .inr ⟨j, e', by simp [Instr.findKey, run_underlying hd, h1], h2⟩
  · have hs : ∀ a b, Instr.sameNow (.pointer e) a b = none := by intro a b; simp [Instr.sameNow]
    cases es' with
    | nil =>
      rcases upd_asking R hd hk hkv hvv 0 he hf with ⟨h1, h2⟩ | ⟨j, e', h1, h2, _⟩
      · exact .inl ⟨by simp [Instr.findKey, run_underlying hd, Instr.findNow], h2⟩
      · simp at h2
    | cons e1 l =>
      rcases upd_asking R hd hk hkv hvv 0 he hf with ⟨h1, h2⟩ | ⟨j, e', h1, h2⟩
      · exact .inl ⟨by simp [Instr.findKey, run_underlying hd, Instr.findNow, hs, h1], h2⟩
      · exact .inr ⟨j, e', by simp [Instr.findKey, run_underlying hd, Instr.findNow, hs, h1], h2⟩

/-- the key stays -/
theorem sameBits_of {β : Be} {h : HO} {kk : Nat} {k a : AV} {k' a' : Value} (hq : KeyEqH h kk k a true) (hk : VR β k k') (ha : VR β a a') (n : Nat) : Instr.sameBits n a' k' = true := by
  rcases hq with hq | ⟨rfl, i, o, j, q, rfl, rfl, hp⟩
  · unfold eqv at hq
    split at hq
    · obtain rfl := hk.bool_inv
      obtain rfl := ha.bool_inv
      simp at hq
      simp [Instr.sameBits, hq]
    · obtain rfl := hk.int_inv
      obtain rfl := ha.int_inv
      rename_i k1 x k2 y
      by_cases hkk : keq k1 k2 = true
      · have := (keq_iff k1 k2).1 hkk
        subst this
        rw [hkk, ieq_iff] at hq
        simp at hq
        simp [Instr.sameBits, hq]
      · simp only [Bool.not_eq_true] at hkk
        rw [hkk] at hq; cases hq
    · obtain ⟨s, rfl, rfl⟩ := hk.str_inv
      obtain ⟨s', rfl, rfl⟩ := ha.str_inv
      rw [seq_iff, map_inj_beq] at hq
      have hq' : (s'.data.toList == s.data.toList) = true := by
        have := eq_of_beq (Option.some.inj hq)
        rw [this]; exact beq_self_eq_true _
      rw [← bytes_beq] at hq'
      simp [Instr.sameBits, hq']
    · cases hq
  · rcases hp with ⟨rfl, ht⟩ | ⟨_, ht, _⟩
    · obtain ⟨b1, s1, t1, h1, rfl⟩ := hk.ptr_inv
      obtain ⟨b2, s2, t2, h2, rfl⟩ := ha.ptr_inv
      rw [h1] at h2
      simp only [Option.some.injEq, Prod.mk.injEq] at h2
      obtain ⟨rfl, rfl, rfl⟩ := h2
      have : o = q := by simpa using ht
      subst this
      simp [Instr.sameBits]
    · cases ht

theorem mapupd_spec {t kt et : TypeId} {kd : TypeDesc} {kk : Nat} {x y z : Operand} {σ : Heap} {nx : Pos} (hu : und P t = some (.map kt et)) (hkd : und P kt = some kd) (hk : keyKind P kd = some kk) {c : Heap → Prop}
    (h : (get (xo m x)).run l e fun mv => (get (xo m y)).run l e fun k => (get (xo m z)).run l e fun v => mapupdK kk mv k v σ c) :
    ∃ σ', c σ' ∧ EffAt mk nt P m l e ⟨dst, .mapUpdate t x y z, ty, pos, aft, gd⟩ σ nx (.tuple []) σ' nx := by
  obtain ⟨mv, g1, hx⟩ := get_spec m l e x h
  obtain ⟨k, g2, hy⟩ := get_spec m l e y g1
  obtain ⟨v, g3, hz⟩ := get_spec m l e z g2
  cases mv <;> (try exact g3.elim)
  rename_i id
  have g4 : withObj σ id fun o => (match o with | .map es => updK σ kk k v es fun es => T.set id σ (some (.map es)) c | _ => False) := g3
  obtain ⟨o, ho, g5⟩ := withObj_spec g4
  rcases o with _ | es | _ | _ | _ <;> (try exact g5.elim)
  obtain ⟨r, g6, hupd⟩ := updK_spec (es := es) g5
  obtain ⟨σ', g7, g8⟩ := set_spec g6
  refine ⟨σ', g7, Nat.le_refl _, fun β a w R hf hop => ?_⟩
  obtain ⟨b, w0, he, hb⟩ := (hx β a R.g0 (hop x (by simp [Op.operands]))).map_inv
  have hkv := hy β a R.g0 (hop y (by simp [Op.operands]))
  have hvv := hz β a R.g0 (hop z (by simp [Op.operands]))
  obtain ⟨es', clk, q1, q2⟩ := R.obj id _ _ ho hb
  simp only at q1
  have hget : (getObj b).run P w = .ok (.map es' clk) w := by simp [getObj, Sem.run, q1]
  have ck := checkKey_run (w := w) hkd hk false 9999 (a.eval y)
  have hbs : b < w.heap.size := (Array.getElem?_eq_some_iff.1 q1).1
  have hset : ∀ o' : Obj, (setObj b o').run P w = .ok () { w with heap := w.heap.setIfInBounds b o' } := by intro o'; simp [setObj, Sem.run, q1]
  have fin : ∀ (es2 : Array MapEntry) (clk2 : Nat), EsR β r es2.toList → (Instr.mapUpdate t (a.eval x) (a.eval y) (a.eval z)).run P w = .ok () { w with heap := w.heap.setIfInBounds b (.map es2 clk2) } →
      ∃ β' w' v', Gives P (execOp a.eval ⟨dst, .mapUpdate t x y z, ty, pos, aft, gd⟩) w v' w' ∧ VR β' (.tuple []) v' ∧ Rel mk nt β' (hof σ') w' ∧ Fr β (hof σ) w nx β' (hof σ') w' nx := by
    intro es2 clk2 hes hrun
    have hoth : ∀ b', b' ≠ b → ({ w with heap := w.heap.setIfInBounds b (.map es2 clk2) } : World).heap[b']? = w.heap[b']? := by
      intro b' hne
      simp only [Array.getElem?_setIfInBounds]
      rw [if_neg (fun h => hne h.symm)]
    refine ⟨β, { w with heap := w.heap.setIfInBounds b (.map es2 clk2) }, undef, .inr ⟨rfl, ?_⟩, .tuple _ [] .nil, ?_, ?_⟩
    · simp only [execOp, Sem.run_bind]; rw [hrun]; rfl
    · rw [g8]
      exact set_rel R ho hb (by simp) ⟨es2, clk2, by simp [hbs], hes⟩ hoth
    · rw [g8]
      exact set_fr ho hb (by simp) hoth rfl rfl rfl
  rcases upd_key R hkd hk hkv hvv q2 hupd with ⟨h3, rfl⟩ | ⟨j, e', h3, h4, ⟨ak, h5, h6⟩, h7⟩
  · refine fin (es'.push { key := a.eval y, val := a.eval z, born := clk }) (clk + 1) ?_ ?_
    · rw [Array.toList_push]; exact EsR.push hkv hvv q2
    · simp [Instr.mapUpdate, run_underlying hu, he, hget, ck, h3, hset]
  · refine fin (es'.modify j fun e => { e with key := a.eval y, val := a.eval z }) clk ?_ ?_
    · rw [Array.toList_modify]; exact h7
    · have hsb := sameBits_of h5 hkv h6 10000
      have hks : (Instr.keyThatStays e'.key (a.eval y)).run P w = .ok (a.eval y) w := by simp [Instr.keyThatStays, hsb]
      have h4' : es'[j]? = some e' := by simpa using h4
      simp [Instr.mapUpdate, run_underlying hu, he, hget, ck, h3, h4', hks, hset]
end
end Go.AE
namespace Go.AE
open Go

section
variable {mk nt : FuncId → Nat} {P : Program} {m : Nat} {l : Loc} {e : Env} {dst : Option Tmp} {ty : TypeId} {pos : String} {aft : Array Edge} {gd : Option (Nat × Bool)}

/-- what an argument of append or copy yields -/
def SrcR (mk nt : FuncId → Nat) (P : Program) (σ : Heap) (es : Nat) (xv : AV) (n : Nat) (new : List AV) : Prop :=
  ∀ β w x', Rel mk nt β (hof σ) w → VR β xv x' → (∀ w', (Builtin.lenOf x').run P w' = .ok n w') ∧
    ∀ k, k ≤ n → ∃ arr : Array Value, (∀ d, (Builtin.firstCells es k x').run P { w with drawn := d } = .ok arr { w with drawn := d }) ∧ VRs β (new.take (k * es)) arr.toList

theorem src_spec {σ : Heap} {es : Nat} {xv : AV} {c : Nat → List AV → Prop} (h : srcCells σ es xv c) : ∃ n new, c n new ∧ new.length = n * es ∧ SrcR mk nt P σ es xv n new := by
  cases xv <;> (try exact h.elim)
  · rename_i s
    have h' : ite' (Nat.beq es 1) (forceNat (lenK s) fun n => byteVals s fun l => c n l) False := h
    obtain ⟨h0, h1⟩ := ite'_true h'
    rw [beq_dec, decide_eq_true_eq] at h0
    subst h0
    rw [forceNat_eq, lenK_eq, byteVals_eq] at h1
    refine ⟨_, _, h1, by simp, fun β w x' R hx => ?_⟩
    obtain ⟨bs, rfl, rfl⟩ := hx.str_inv
    have hsz : (bs.data.toList.map UInt8.toNat).length = bs.size := by rw [List.length_map, Array.length_toList]; rfl
    rw [hsz]
    refine ⟨fun w' => rfl, fun k hk => ?_⟩
    refine ⟨(bs.extract 0 k).data.map fun b => .int .u8 b.toNat, fun d => rfl, ?_⟩
    rw [Array.toList_map, extract_list, List.map_map, ← List.map_take, Nat.mul_one, Nat.sub_zero, List.drop_zero]
    generalize bs.data.toList.take k = bl
    induction bl with
    | nil => exact .nil
    | cons b bl ih => exact .cons _ _ _ _ (.int _ _) ih
  · refine ⟨0, [], h, by simp, fun β w x' R hx => ?_⟩
    obtain rfl := hx.nilslice_inv
    exact ⟨fun w' => rfl, fun k hk => ⟨#[], fun d => rfl, by simp; exact .nil⟩⟩
  · rename_i id off len cap es'
    have h' : ite' (Nat.beq es es') (ite' (Nat.beq len 0) (c 0 []) (readCells σ id off (len * es) fun l => c len l)) False := h
    obtain ⟨h0, h1⟩ := ite'_true h'
    rw [beq_dec, decide_eq_true_eq] at h0
    subst h0
    rw [ite'_eq, beq_dec] at h1
    by_cases hl : len = 0
    · subst hl
      simp only [decide_true, if_true] at h1
      refine ⟨0, [], h1, by simp, fun β w x' R hx => ?_⟩
      rcases hx.slice_inv with ⟨b, base, tot, cc, rfl, hb, _⟩ | ⟨ad, had, rfl, _, _⟩
      · exact ⟨fun w' => rfl, fun k hk => ⟨#[], fun d => by
          have : k = 0 := by omega
          subst this; simp [Builtin.firstCells, loadCells, loadCellsFrom], by simp; exact .nil⟩⟩
      · exact ⟨fun w' => rfl, fun k hk => ⟨#[], fun d => by
          have : k = 0 := by omega
          subst this; simp [Builtin.firstCells, loadCells, loadCellsFrom], by simp; exact .nil⟩⟩
    · simp only [hl, decide_false, Bool.false_eq_true, if_false] at h1
      obtain ⟨cs, rd, lo, hi, anc, h1, h2, h3⟩ := readCells_spec h1
      refine ⟨len, _, h3, by simp; omega, fun β w x' R hx => ?_⟩
      rcases hx.slice_inv with ⟨b, base, tot, cc, rfl, hb, _⟩ | ⟨ad, had, _, hl0, _⟩
      · refine ⟨fun w' => rfl, fun k hk => ?_⟩
        have hkl : k * es ≤ len * es := Nat.mul_le_mul_right _ hk
        obtain ⟨l', q1, q2, _, q4⟩ := cells_read (R.obj id _ _ h1 hb) (off := off) (n := k * es) (by omega)
        refine ⟨l'.toArray, fun d => ?_, ?_⟩
        · have := run_loadCells_list (P := P) { w with drawn := d } ⟨b, base + off, none⟩ l' (fun j v hj => q4 j v hj)
          rw [q2] at this
          simp [Builtin.firstCells, this]
        · rw [List.take_take, Nat.min_eq_left hkl]; exact q1
      · exact (hl hl0).elim

theorem run_append_in {st xt et : TypeId} {xd : TypeDesc} {i : TypeInfo} {ats : Array TypeId} {w w' : World} {base : Option Addr} {sLen sCap n : Nat} {x' : Value} {arr : Array Value} (hat : ats.toList = [st, xt]) (hu : und P st = some (.slice et)) (hx : und P xt = some xd)
    (hxd : (∃ e, xd = .slice e) ∨ xd = .string) (hi : tinf P et = some i) (hl : (Builtin.lenOf x').run P w = .ok n w) (hf : (Builtin.firstCells i.size n x').run P w = .ok arr w) (hle : sLen + n ≤ sCap)
    (hst : ∀ a, base = some a → (storeCells (a.add (sLen * i.size)) arr.toList).run P w = .ok () w') (hno : base = none → w' = w) :
    (Builtin.append_ ats ty #[.slice base sLen sCap, x']).run P w = .ok (.slice base (sLen + n) sCap) w' := by
  cases two_list hat
  cases base with
  | none =>
    cases hno rfl
    rcases hxd with ⟨e', rfl⟩ | rfl <;> simp [Builtin.append_, run_underlying hu, run_underlying hx, sizeOf, typeInfo, tinf_spec hi, hl, hle, hf]
  | some a =>
    have := hst a rfl
    rcases hxd with ⟨e', rfl⟩ | rfl <;> simp [Builtin.append_, run_underlying hu, run_underlying hx, sizeOf, typeInfo, tinf_spec hi, hl, hle, hf, this]

theorem run_append_grow' {st xt et : TypeId} {xd : TypeDesc} {i : TypeInfo} {z : Value} {ats : Array TypeId} {w : World} {base : Option Addr} {sLen sCap n : Nat} {x' : Value} {arr olds : Array Value} (hat : ats.toList = [st, xt]) (hu : und P st = some (.slice et)) (hx : und P xt = some xd)
    (hxd : (∃ e, xd = .slice e) ∨ xd = .string) (hi : tinf P et = some i) (hz : i.zero = some z) (hl : ∀ w', (Builtin.lenOf x').run P w' = .ok n w') (hf : (Builtin.firstCells i.size n x').run P w.drew = .ok arr w.drew)
    (ho : (Builtin.firstCells i.size sLen (.slice base sLen sCap)).run P w.drew = .ok olds w.drew) (hg : sCap < sLen + n) (hb : 0 < i.bytes) (hbd : (sLen + n) * i.bytes < 1073741824) :
    ∃ cap, sLen + n ≤ cap ∧ (Builtin.append_ ats ty #[.slice base sLen sCap, x']).run P w = .ok (.slice (some ⟨w.heap.size, 0, none⟩) (sLen + n) cap)
        (w.drew.alloc (.cells (olds ++ arr ++ Builtin.zeroCells z.cells (cap - (sLen + n))) et)) := by
  have hfit : Builtin.nextslicecap (sLen + n) sCap * i.bytes ≤ 281474976710656 := growslice_fits hg (by omega)
  have h63 : ((sLen + n : Nat) : Int) ≤ 9223372036854775807 := by
    have : (sLen + n) * 1 ≤ (sLen + n) * i.bytes := Nat.mul_le_mul_left _ hb
    omega
  have hn : ¬ (sLen + n ≤ sCap) := by omega
  have h63' : ¬ (9223372036854775807 < ((sLen : Int) + (n : Int))) := by omega
  have h48' : ¬ (281474976710656 < Builtin.nextslicecap (sLen + n) sCap * i.bytes) := by omega
  refine ⟨grownCap w (sLen + n) sCap et, grownCap_ge _ _ _ _, ?_⟩
  cases two_list hat
  rcases hxd with ⟨e', rfl⟩ | rfl <;>
    simp [Builtin.append_, run_underlying hu, run_underlying hx, sizeOf, typeInfo, zeroValue, tinf_spec hi, hz, hl, hn, h63', h48', Question.forced, hf, ho, newRow, grownCap]
end
end Go.AE
