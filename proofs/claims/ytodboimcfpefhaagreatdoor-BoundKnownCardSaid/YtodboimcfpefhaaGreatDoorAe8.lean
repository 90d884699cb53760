/-
  A part of the proof that the evaluator is sound: what it finds, the machine does, whatever the tape; conditions as each theorem names them.
-/
import Derived.Test.YtodboimcfpefhaaGreatDoorAe7
namespace Go.AE
open Go

section
variable {P : Program} {fi : FI} {ops : Array Oper} {st : Nat → St} {F : Nat → Fact} {bf : Nat → Nat → Prop}
variable {β0 : Be} {w0 : World} {b : Frame} {cs0 : List Frame} {D : Nat → Bool} {c0 : Nat} {β : Be} {H : HO} {a : Act} {md : Option FrameMode} {w : World} {i : Nat} {o : Oper}

theorem put_act (a : Act) : ({ a with defers := a.defers } : Act) = a := rfl

/-- one more that leaves the memory -/
theorem Inv.value (I : Inv P fi ops st F bf β0 w0 b cs0 D c0 β H a md w) (T : Tr P fi ops st F bf) (ho : ops[i]? = some o) (hi : D i = false) (hb : ∀ x, bf i x → D x = true) (hne : (F i).isE = false) (hna : ∀ v ob, F i ≠ .alloc v ob) {v' : Value}
    (hv : VR (res β (nxa st (max c0 (i + 1))) (nxa st ops.size)) (F i).val v') : Inv P fi ops st F bf β0 w0 b cs0 (setD D i) c0 β H (a.put o.dst v') md w := by
  refine { I with effD := ?_, late := ?_, closed := ?_, h2 := ?_, h3 := ?_, dfs := ?_, size := ?_, env := ?_ }
  · intro e he hE
    have : e ≠ i := by intro h; subst h; rw [hne] at hE; cases hE
    rw [setD_ne this]; exact I.effD e he hE
  · intro j v ob hj hF hDj
    have : j ≠ i := by intro h; subst h; exact hna _ _ hF
    rw [setD_ne this] at hDj
    exact I.late j v ob hj hF hDj
  · intro j hj x hx
    by_cases e : j = i
    · subst e; exact setD_mono (hb x hx)
    · rw [setD_ne e] at hj; exact setD_mono (I.closed j hj x hx)
  · intro j v ob h1 h2 h3 hF
    have : j ≠ i := by intro h; subst h; exact hna _ _ hF
    rw [setD_ne this] at h3
    exact I.h2 j v ob h1 h2 h3 hF
  · intro id x h1 h2 h3
    obtain ⟨j, v, ob, q1, q2, q3, q4⟩ := I.h3 id x h1 h2 h3
    exact ⟨j, v, ob, q1, q2, setD_mono q3, q4⟩
  · rw [put_defers]; exact I.dfs
  · rw [put_size]; exact I.size
  · exact I.env_put T ho hi (Nat.le_refl _) (fun p _ => fun _ _ h => h) hv (dd := a.defers)

/-- what an operation finds done -/
theorem Inv.after (I : Inv P fi ops st F bf β0 w0 b cs0 D c0 β H a md w) (T : Tr P fi ops st F bf) (ho : ops[i]? = some o) (hi : D i = false) (hE : ∀ v, kindOk (F i) (.eff v) = false) : c0 ≤ i := by
  rcases Nat.lt_or_ge i c0 with h | h
  · rcases I.last with h0 | ⟨e, v, h0, hF⟩
    · omega
    · have hlt : e < ops.size := by have := I.c0le; omega
      have hDe : D e = true := (I.effD e hlt (by rw [hF]; rfl)).2 (by omega)
      by_cases e2 : i = e
      · subst e2; rw [hi] at hDe; cases hDe
      · obtain ⟨oe, hoe⟩ := getOp hlt
        rcases T.pair i e o oe (by omega) ho hoe with h1 | h1
        · have := I.closed e hDe i h1; rw [hi] at this; cases this
        · have := h1.2.2.2; rw [hF, hE] at this; cases this
  · exact h
theorem Inv.noE (I : Inv P fi ops st F bf β0 w0 b cs0 D c0 β H a md w) (T : Tr P fi ops st F bf) (ho : ops[i]? = some o) (hb : ∀ x, bf i x → D x = true) (hE : ∀ v, kindOk (.eff v) (F i) = false) : NoE F c0 i := by
  intro e h1 h2
  cases hF : F e with
  | eff v =>
    have hlt : e < ops.size := by have := lt_size ho; omega
    obtain ⟨oe, hoe⟩ := getOp hlt
    rcases T.pair e i oe o h2 hoe ho with h3 | h3
    · have := (I.effD e hlt (by rw [hF]; rfl)).1 (hb e h3); omega
    · have := h3.2.2.2; rw [hF, hE] at this; cases this
  | _ => rfl

/-- one more that allocates, no effect behind it done -/
theorem Inv.allocE (I : Inv P fi ops st F bf β0 w0 b cs0 D c0 β H a md w) (T : Tr P fi ops st F bf) (ho : ops[i]? = some o) (hi : D i = false) (hb : ∀ x, bf i x → D x = true) {v : AV} {ob : AObj} (hF : F i = .alloc v ob) (hci : c0 ≤ i) :
    ∃ β1 H1 v' w', (execOp a.eval o).run P w = .ok (.value v') w' ∧ Inv P fi ops st F bf β0 w0 b cs0 (setD D i) c0 β1 H1 (a.put o.dst v') md w' := by
  have hlt := lt_size ho
  have hfact := T.fact i o ho
  rw [hF] at hfact
  obtain ⟨_, _, hat, _, hnx, _, _⟩ := hfact
  have hmax : max c0 i = i := by omega
  have hnam := I.nam T ho hi hb
  rw [hmax] at hnam
  have hnxi := T.alloc_nx hF hlt
  have hN : nxa st i < nxa st ops.size := alloc_lt T hF hlt (Nat.le_refl _)
  have hc0 : nxa st c0 ≤ nxa st i := T.nx_le hci (by omega)
  -- the number is free
  have hnone : β (st i).nx = none := by
    cases hx : β (st i).nx with
    | none => rfl
    | some x =>
      obtain ⟨j, v2, ob2, q1, q2, q3, q4, q5⟩ := I.h3 (st i).nx x hc0 hN hx
      have hji : j = i := by
        have e5 : nxa st j = nxa st i := congrArg Pos.toNat q5
        rcases Nat.lt_trichotomy j i with h | h | h
        · have := alloc_lt T q4 h (by omega); omega
        · exact h
        · have := alloc_lt T hF h (by omega); omega
      subst hji
      rw [hi] at q3; cases q3
  have hin : nxa st i ≤ (st i).nx.toNat ∧ (st i).nx.toNat < nxa st ops.size := ⟨Nat.le_refl _, hN⟩
  obtain ⟨v', w', tot, hrun, G, hv, hob⟩ := hat (res β (nxa st i) (nxa st ops.size)) a w (I.rel i hci (by omega)).g0 hnam.opds (res_in hin)
  have hle := bset_le (x := (w.heap.size, 0, tot)) hnone
  -- from the restricted to the wider
  have hwide : ∀ k, i < k → k ≤ ops.size → (bset (res β (nxa st i) (nxa st ops.size)) (st i).nx (w.heap.size, 0, tot)).le (res (bset β (st i).nx (w.heap.size, 0, tot)) (nxa st k) (nxa st ops.size)) := by
    intro k hk hkn id x hx
    have hlk := alloc_lt T hF hk hkn
    by_cases e : id = (st i).nx
    · subst e
      rw [bset_same] at hx
      rw [res_eq (by intro c; have := c.1; unfold nxa at *; omega), bset_same, hx]
    · rw [bset_ne e] at hx
      obtain ⟨h1, h2⟩ := res_some hx
      rw [res_eq (fun c => h1 ⟨by omega, c.2⟩), bset_ne e, h2]
  refine ⟨bset β (st i).nx (w.heap.size, 0, tot), upd H (st i).nx (some ob), v', w', hrun, ?_⟩
  constructor
  · exact I.c0le
  · intro e he hE
    have : e ≠ i := by intro h; subst h; rw [hF] at hE; cases hE
    rw [setD_ne this]; exact I.effD e he hE
  · intro j v2 ob2 hj hF2 hDj
    have hji : j ≠ i := by omega
    rw [setD_ne hji] at hDj
    have hne : (st j).nx ≠ (st i).nx := by
      intro h
      have e5 : nxa st j = nxa st i := congrArg Pos.toNat h
      have := alloc_lt T hF2 (show j < i by omega) (by omega); omega
    rw [bset_ne hne]
    exact I.late j v2 ob2 hj hF2 hDj
  · exact I.last
  · intro j hj x hx
    by_cases e : j = i
    · subst e; exact setD_mono (hb x hx)
    · rw [setD_ne e] at hj; exact setD_mono (I.closed j hj x hx)
  · intro id hid
    have : id ≠ (st i).nx := by
      intro h; subst h; exact hid ⟨hc0, hN⟩
    rw [← I.h1 id hid]; simp [upd, this]
  · intro j v2 ob2 h1 h2 h3 hF2
    by_cases e : j = i
    · subst e
      rw [hF] at hF2
      cases hF2
      simp [upd]
    · rw [setD_ne e] at h3
      have hne : (st j).nx ≠ (st i).nx := by
        intro h
        have e5 : nxa st j = nxa st i := congrArg Pos.toNat h
        rcases Nat.lt_trichotomy j i with h | h | h
        · have := alloc_lt T hF2 h (by omega); omega
        · exact e h
        · have := alloc_lt T hF h (by omega); omega
      rw [← I.h2 j v2 ob2 h1 h2 h3 hF2]; simp [upd, hne]
  · intro id x h1 h2 h3
    by_cases e : id = (st i).nx
    · exact ⟨i, v, ob, hci, hlt, setD_same, hF, e.symm⟩
    · rw [bset_ne e] at h3
      obtain ⟨j, v2, ob2, q1, q2, q3, q4⟩ := I.h3 id x h1 h2 h3
      exact ⟨j, v2, ob2, q1, q2, setD_mono q3, q4⟩
  · intro id x h1 h2 h3 id2 x2 o2 hne hH2 hb2
    have hlt2 : ∀ (id : Pos) x o, H id = some o → β id = some x → x.1 < w.heap.size := fun id x o q1 q2 => by
      have := (I.rel ops.size I.c0le (Nat.le_refl _)).obj id o x q1 (by rw [res_empty]; exact q2)
      exact this.lt
    by_cases e : id = (st i).nx
    · subst e
      rw [bset_same] at h3
      simp only [Option.some.injEq] at h3
      subst h3
      rw [bset_ne hne] at hb2
      simp only [upd, hne, if_false] at hH2
      have := hlt2 id2 x2 o2 hH2 hb2
      simp only; omega
    · rw [bset_ne e] at h3
      by_cases e2 : id2 = (st i).nx
      · subst e2
        rw [bset_same] at hb2
        simp only [Option.some.injEq] at hb2
        subst hb2
        obtain ⟨j, v2, ob2, q1, q2, q3, q4, q5⟩ := I.h3 id x h1 h2 h3
        have e3 := I.h2 j v2 ob2 q1 q2 q3 q4
        rw [q5] at e3
        have := hlt2 id x ob2 e3 h3
        simp only; omega
      · rw [bset_ne e2] at hb2
        simp only [upd, e2, if_false] at hH2
        exact I.apart id x h1 h2 h3 id2 x2 o2 hne hH2 hb2
  · intro k hk hkn
    rcases Nat.lt_or_ge i k with h | h
    · have e1 : res (bset β (st i).nx (w.heap.size, 0, tot)) (nxa st k) (nxa st ops.size) = bset (res β (nxa st k) (nxa st ops.size)) (st i).nx (w.heap.size, 0, tot) := by
        have hlk := alloc_lt T hF h hkn
        funext id
        by_cases e : id = (st i).nx
        · subst e
          rw [bset_same, res_eq (by intro c; have := c.1; unfold nxa at *; omega), bset_same]
        · rw [bset_ne e]
          unfold res
          rw [bset_ne e]
      have hw := hwide k h hkn
      rw [e1] at hw ⊢
      refine grown_rel (I.rel k hk hkn) G ?_ (hob.mono hw)
      unfold res
      split
      · rfl
      · exact hnone
    · have hkk := T.nx_le h (by omega)
      have e1 : res (bset β (st i).nx (w.heap.size, 0, tot)) (nxa st k) (nxa st ops.size) = res β (nxa st k) (nxa st ops.size) := by
        funext id
        by_cases e : id = (st i).nx
        · subst e
          rw [res_in ⟨hkk, hN⟩, res_in ⟨hkk, hN⟩]
        · unfold res
          rw [bset_ne e]
      rw [e1]
      refine ((I.rel k hk hkn).grow G).congr fun id x hx => ?_
      have : id ≠ (st i).nx := by
        intro h; subst h; exact (res_some hx).1 ⟨hkk, hN⟩
      simp [upd, this]
  · exact I.fn
  · exact I.rnd.mono (res_mono hle)
  · exact I.ur.mono (res_mono hle)
  · rw [put_defers]; exact I.dfs.mono (res_mono hle)
  · rw [put_size]; exact I.size
  · refine I.env_put T ho hi (Nat.le_refl _) (fun p _ => res_mono hle) ?_ (dd := a.defers)
    rw [hF]
    have e2 : max c0 (i + 1) = i + 1 := by omega
    rw [e2]
    exact hv.mono (hwide (i + 1) (by omega) (by omega))
  · refine I.fr.within (grown_fr G (new_ge (I.rel i hci (by omega)).g0 (res_in hin))) (T.nx_le (Nat.zero_le i) (by omega)) ?_
    rw [Pos.toNat_succ]
    exact hN

/-- one more that allocates, an effect behind it in the text done -/
theorem Inv.allocL (I : Inv P fi ops st F bf β0 w0 b cs0 D c0 β H a md w) (T : Tr P fi ops st F bf) (ho : ops[i]? = some o) (hi : D i = false) (hb : ∀ x, bf i x → D x = true) {v : AV} {ob : AObj} (hF : F i = .alloc v ob) (hci : i < c0) :
    ∃ β1 H1 v' w', (execOp a.eval o).run P w = .ok (.value v') w' ∧ Inv P fi ops st F bf β0 w0 b cs0 (setD D i) c0 β1 H1 (a.put o.dst v') md w' := by
  have hlt := lt_size ho
  have hfact := T.fact i o ho
  rw [hF] at hfact
  obtain ⟨_, _, hat, _, hnx, _, _⟩ := hfact
  have hmax : max c0 i = c0 := by omega
  have hnam := I.nam T ho hi hb
  rw [hmax] at hnam
  have hnone : β (st i).nx = none := I.late i v ob hci hF hi
  have hlo : nxa st i < nxa st c0 := alloc_lt T hF hci I.c0le
  have hnin : ∀ k, c0 ≤ k → k ≤ ops.size → ¬ (nxa st k ≤ (st i).nx.toNat ∧ (st i).nx.toNat < nxa st ops.size) := by
    intro k hk hkn c
    have := T.nx_le hk hkn
    have h2 := c.1
    have h3 : (st i).nx.toNat = nxa st i := rfl
    omega
  -- what the text's memory holds there
  have hob0 : hof (st c0).σ (st i).nx = some ob := by
    rcases I.last with h0 | ⟨e, w2, h0, hFe⟩
    · omega
    · have hlte : e < ops.size := by have := I.c0le; omega
      have hDe : D e = true := (I.effD e hlte (by rw [hFe]; rfl)).2 (by omega)
      have hne : i ≠ e := by intro h; subst h; rw [hF] at hFe; cases hFe
      rw [h0]
      exact T.al i e v ob w2 (by omega) hlte hF hFe (fun hbf => by have := I.closed e hDe i hbf; rw [hi] at this; cases this)
  have hH : H (st i).nx = some ob := by rw [I.h1 _ (hnin c0 (Nat.le_refl _) I.c0le)]; exact hob0
  have hHupd : upd H (st i).nx (some ob) = H := by
    funext q
    unfold upd
    by_cases e : q = (st i).nx
    · subst e; rw [if_pos rfl, hH]
    · rw [if_neg e]
  obtain ⟨v', w', tot, hrun, G, hv, hob⟩ := hat (res β (nxa st c0) (nxa st ops.size)) a w (I.rel c0 (Nat.le_refl _) I.c0le).g0 hnam.opds (by rw [res_eq (hnin c0 (Nat.le_refl _) I.c0le)]; exact hnone)
  have hle := bset_le (x := (w.heap.size, 0, tot)) hnone
  have hres : ∀ k, c0 ≤ k → k ≤ ops.size → res (bset β (st i).nx (w.heap.size, 0, tot)) (nxa st k) (nxa st ops.size) = bset (res β (nxa st k) (nxa st ops.size)) (st i).nx (w.heap.size, 0, tot) := by
    intro k hk hkn
    funext id
    by_cases e : id = (st i).nx
    · subst e
      rw [bset_same, res_eq (hnin k hk hkn), bset_same]
    · rw [bset_ne e]
      unfold res
      rw [bset_ne e]
  have hbm : ∀ k, c0 ≤ k → k ≤ ops.size → (bset (res β (nxa st c0) (nxa st ops.size)) (st i).nx (w.heap.size, 0, tot)).le (bset (res β (nxa st k) (nxa st ops.size)) (st i).nx (w.heap.size, 0, tot)) := by
    intro k hk hkn id x hx
    by_cases e : id = (st i).nx
    · subst e; rw [bset_same] at hx ⊢; exact hx
    · rw [bset_ne e] at hx ⊢
      exact res_le (T.nx_le hk hkn) id x hx
  have hltH : ∀ (id : Pos) x o, H id = some o → β id = some x → x.1 < w.heap.size := fun id x o q1 q2 => by
    have := (I.rel ops.size I.c0le (Nat.le_refl _)).obj id o x q1 (by rw [res_empty]; exact q2)
    exact this.lt
  refine ⟨bset β (st i).nx (w.heap.size, 0, tot), H, v', w', hrun, ?_⟩
  constructor
  · exact I.c0le
  · intro e he hE
    have : e ≠ i := by intro h; subst h; rw [hF] at hE; cases hE
    rw [setD_ne this]; exact I.effD e he hE
  · intro j v2 ob2 hj hF2 hDj
    have hji : j ≠ i := by intro h; subst h; rw [setD_same] at hDj; cases hDj
    rw [setD_ne hji] at hDj
    have hne : (st j).nx ≠ (st i).nx := by
      intro h
      have e5 : nxa st j = nxa st i := congrArg Pos.toNat h
      rcases Nat.lt_or_ge j i with h | h
      · have := alloc_lt T hF2 h (by omega); omega
      · have := alloc_lt T hF (show i < j by omega) (by have := I.c0le; omega); omega
    rw [bset_ne hne]
    exact I.late j v2 ob2 hj hF2 hDj
  · exact I.last
  · intro j hj x hx
    by_cases e : j = i
    · subst e; exact setD_mono (hb x hx)
    · rw [setD_ne e] at hj; exact setD_mono (I.closed j hj x hx)
  · exact I.h1
  · intro j v2 ob2 h1 h2 h3 hF2
    have hji : j ≠ i := by omega
    rw [setD_ne hji] at h3
    exact I.h2 j v2 ob2 h1 h2 h3 hF2
  · intro id x h1 h2 h3
    have : id ≠ (st i).nx := by intro h; subst h; exact hnin c0 (Nat.le_refl _) I.c0le ⟨h1, h2⟩
    rw [bset_ne this] at h3
    obtain ⟨j, v2, ob2, q1, q2, q3, q4⟩ := I.h3 id x h1 h2 h3
    exact ⟨j, v2, ob2, q1, q2, setD_mono q3, q4⟩
  · intro id x h1 h2 h3 id2 x2 o2 hne hH2 hb2
    have hid : id ≠ (st i).nx := by intro h; subst h; exact hnin c0 (Nat.le_refl _) I.c0le ⟨h1, h2⟩
    rw [bset_ne hid] at h3
    by_cases e2 : id2 = (st i).nx
    · subst e2
      rw [bset_same] at hb2
      simp only [Option.some.injEq] at hb2
      subst hb2
      obtain ⟨j, v2, ob2, q1, q2, q3, q4, q5⟩ := I.h3 id x h1 h2 h3
      have e3 := I.h2 j v2 ob2 q1 q2 q3 q4
      rw [q5] at e3
      have := hltH id x ob2 e3 h3
      simp only; omega
    · rw [bset_ne e2] at hb2
      exact I.apart id x h1 h2 h3 id2 x2 o2 hne hH2 hb2
  · intro k hk hkn
    rw [hres k hk hkn, ← hHupd]
    refine grown_rel (I.rel k hk hkn) G ?_ (hob.mono (hbm k hk hkn))
    rw [res_eq (hnin k hk hkn)]; exact hnone
  · exact I.fn
  · exact I.rnd.mono (res_mono hle)
  · exact I.ur.mono (res_mono hle)
  · rw [put_defers]; exact I.dfs.mono (res_mono hle)
  · rw [put_size]; exact I.size
  · refine I.env_put T ho hi (Nat.le_refl _) (fun p _ => res_mono hle) ?_ (dd := a.defers)
    rw [hF]
    have e2 : max c0 (i + 1) = c0 := by omega
    rw [e2, hres c0 (Nat.le_refl _) I.c0le]
    exact hv
  · have hfr := I.fr.within (grown_fr (β := β) (h := H) G (id := (st i).nx) (new_ge (I.rel c0 (Nat.le_refl _) I.c0le).g0 (by rw [res_eq (hnin c0 (Nat.le_refl _) I.c0le)]; exact hnone)) (tot := tot) (o := ob)) (T.nx_le (Nat.zero_le i) (by omega)) (by
      rw [Pos.toNat_succ]
      have h3 : (st i).nx.toNat = nxa st i := rfl
      have := T.nx_le I.c0le (Nat.le_refl ops.size)
      show (st i).nx.toNat + 1 ≤ nxa st ops.size
      omega)
    rw [hHupd] at hfr
    exact hfr

/-- one more that allocates -/
theorem Inv.alloc (I : Inv P fi ops st F bf β0 w0 b cs0 D c0 β H a md w) (T : Tr P fi ops st F bf) (ho : ops[i]? = some o) (hi : D i = false) (hb : ∀ x, bf i x → D x = true) {v : AV} {ob : AObj} (hF : F i = .alloc v ob) :
    ∃ β1 H1 v' w', (execOp a.eval o).run P w = .ok (.value v') w' ∧ Inv P fi ops st F bf β0 w0 b cs0 (setD D i) c0 β1 H1 (a.put o.dst v') md w' := by
  rcases Nat.lt_or_ge i c0 with h | h
  · exact I.allocL T ho hi hb hF h
  · exact I.allocE T ho hi hb hF h
end
end Go.AE
namespace Go.AE
open Go

section
variable {P : Program} {fi : FI} {ops : Array Oper} {st : Nat → St} {F : Nat → Fact} {bf : Nat → Nat → Prop}
variable {β0 : Be} {w0 : World} {b : Frame} {cs0 : List Frame} {D : Nat → Bool} {c0 : Nat} {β : Be} {H : HO} {a : Act} {md : Option FrameMode} {w : World} {i : Nat} {o : Oper}

/-- one more that acts -/
theorem Inv.eff (I : Inv P fi ops st F bf β0 w0 b cs0 D c0 β H a md w) (T : Tr P fi ops st F bf) (ho : ops[i]? = some o) (hi : D i = false) (hb : ∀ x, bf i x → D x = true) {v : AV} (hF : F i = .eff v) (rest : List Nat) (k : List Item) :
    ∃ β1 H1 a1 md1 w1, Steps P (lone (b.atR a (.inRegion ops (i :: rest) :: k)) (withMode md cs0) w) (lone (b.atR a1 (.inRegion ops rest :: k)) (withMode md1 cs0) w1) ∧
      Inv P fi ops st F bf β0 w0 b cs0 (setD D i) (i + 1) β1 H1 a1 md1 w1 := by
  have hlt := lt_size ho
  have hfact := T.fact i o ho
  rw [hF] at hfact
  obtain ⟨_, hgo⟩ := hfact
  have hci : c0 ≤ i := I.after T ho hi (by intro v; rw [hF]; rfl)
  have hno : NoE F c0 i := I.noE T ho hb (by intro v; rw [hF]; rfl)
  have hmax : max c0 i = i := by omega
  have hnam := I.nam T ho hi hb
  rw [hmax] at hnam
  have hc0 : nxa st c0 ≤ nxa st i := T.nx_le hci (by omega)
  have hi1 : nxa st i ≤ nxa st (i + 1) := T.step_nx hlt
  have hi1n : nxa st (i + 1) ≤ nxa st ops.size := T.nx_le (by omega) (Nat.le_refl _)
  -- dfs, u from c0 to i
  have same : ∀ k, c0 ≤ k → k ≤ i → (st k).dfs = (st c0).dfs ∧ (st k).u = (st c0).u := by
    intro k
    induction k with
    | zero => intro h1 _; have : c0 = 0 := by omega
              subst this; exact ⟨rfl, rfl⟩
    | succ k ih =>
      intro h1 h2
      by_cases e : c0 = k + 1
      · subst e; exact ⟨rfl, rfl⟩
      · obtain ⟨q1, q2⟩ := ih (by omega) (by omega)
        obtain ⟨ok, hok⟩ := getOp (ops := ops) (i := k) (by omega)
        have hf := T.fact k ok hok
        have hne := hno k (by omega) (by omega)
        rw [← q1, ← q2]
        cases hFk : F k <;> rw [hFk] at hf hne
        · exact ⟨hf.2.2.2.1, hf.2.2.2.2⟩
        · exact ⟨hf.2.2.2.2.2.2.1, hf.2.2.2.2.2.2.2⟩
        · exact ⟨hf.2.2.2.2.2.1, hf.2.2.2.2.2.2⟩
        · exact ⟨hf.2.2.2.2.2.1, hf.2.2.2.2.2.2⟩
        · cases hne
  obtain ⟨sd, su⟩ := same i hci (Nat.le_refl _)
  have hle0 : (res β (nxa st c0) (nxa st ops.size)).le (res β (nxa st i) (nxa st ops.size)) := res_le hc0
  have R := I.text T hci (by omega) hno
  have hfree : Free (res β (nxa st i) (nxa st ops.size)) (st i).nx (st (i + 1)).nx := by
    intro id h1 h2
    exact res_in ⟨h1, Nat.lt_of_lt_of_le h2 hi1n⟩
  obtain ⟨β', v', dd, md', w', hst, hv, hd, hu, R', Fe⟩ := hgo.go rest k (res β (nxa st i) (nxa st ops.size)) b a md cs0 w I.fn (I.rnd.mono hle0) (by rw [su]; exact I.ur.mono hle0) (by rw [sd]; exact I.dfs.mono hle0) I.size hnam R hfree
  -- the early ones are kept
  let β1 : Be := fun id => if nxa st (i + 1) ≤ id.toNat ∧ id.toNat < nxa st ops.size then β id else β' id
  let H1 : HO := fun id => if nxa st (i + 1) ≤ id.toNat ∧ id.toNat < nxa st ops.size then H id else hof (st (i + 1)).σ id
  have hβ1in : ∀ id : Pos, nxa st (i + 1) ≤ id.toNat ∧ id.toNat < nxa st ops.size → β1 id = β id := fun id h => if_pos h
  have hβ1out : ∀ id : Pos, ¬ (nxa st (i + 1) ≤ id.toNat ∧ id.toNat < nxa st ops.size) → β1 id = β' id := fun id h => if_neg h
  have hH1in : ∀ id : Pos, nxa st (i + 1) ≤ id.toNat ∧ id.toNat < nxa st ops.size → H1 id = H id := fun id h => if_pos h
  have hH1out : ∀ id : Pos, ¬ (nxa st (i + 1) ≤ id.toNat ∧ id.toNat < nxa st ops.size) → H1 id = hof (st (i + 1)).σ id := fun id h => if_neg h
  have hβ'none : ∀ id : Pos, nxa st (i + 1) ≤ id.toNat ∧ id.toNat < nxa st ops.size → β' id = none := by
    intro id h
    rw [Fe.out id (by intro c; have h1 := c.2; have h2 := h.1; unfold nxa at h2; omega)]
    exact res_in ⟨by omega, h.2⟩
  -- what an early number's block is
  have early : ∀ (id : Pos) x, nxa st (i + 1) ≤ id.toNat → id.toNat < nxa st ops.size → β id = some x → ∃ j v ob, i + 1 ≤ j ∧ j < ops.size ∧ D j = true ∧ F j = .alloc v ob ∧ (st j).nx = id := by
    intro id x h1 h2 h3
    obtain ⟨j, v2, ob2, q1, q2, q3, q4, q5⟩ := I.h3 id x (by omega) h2 h3
    refine ⟨j, v2, ob2, ?_, q2, q3, q4, q5⟩
    rcases Nat.lt_or_ge i j with h | h
    · exact h
    · have e5 : nxa st j = id.toNat := congrArg Pos.toNat q5
      by_cases e : j = i
      · subst e; rw [hF] at q4; cases q4
      · have := T.alloc_nx q4 q2
        have := T.nx_le (i := j + 1) (j := i) (by omega) (by omega)
        omega
  have midnone : ∀ (id : Pos), nxa st i ≤ id.toNat → id.toNat < nxa st (i + 1) → β id = none := by
    intro id h1 h2
    cases hx : β id with
    | none => rfl
    | some x =>
      obtain ⟨j, v2, ob2, q1, q2, q3, q4, q5⟩ := I.h3 id x (by omega) (by omega) hx
      have e5 : nxa st j = id.toNat := congrArg Pos.toNat q5
      have e6 := T.alloc_nx q4 q2
      by_cases e : j = i
      · subst e; rw [hF] at q4; cases q4
      · rcases Nat.lt_or_ge j i with h | h
        · have := T.nx_le (i := j + 1) (j := i) (by omega) (by omega)
          omega
        · have := T.nx_le (i := i + 1) (j := j) (by omega) (by omega)
          omega
  have hmono' := Fe.mono hfree
  -- β within β1, off the range
  have hle1 : ∀ (lo lo' : Nat), lo ≤ lo' → nxa st (i + 1) ≤ lo' → (res β lo (nxa st ops.size)).le (res β1 lo' (nxa st ops.size)) := by
    intro lo lo' hlo hlo' id x hx
    obtain ⟨h1, h2⟩ := res_some hx
    rw [res_eq (fun c => h1 ⟨by omega, c.2⟩)]
    by_cases hc : nxa st (i + 1) ≤ id.toNat ∧ id.toNat < nxa st ops.size
    · rw [hβ1in id hc]; exact h2
    · rw [hβ1out id hc]
      refine hmono' id x ?_
      rw [res_eq, h2]
      intro c
      by_cases hm : id.toNat < nxa st (i + 1)
      · rw [midnone id c.1 hm] at h2; cases h2
      · exact hc ⟨by omega, c.2⟩
  have hle' : ∀ lo, nxa st (i + 1) ≤ lo → β'.le (res β1 lo (nxa st ops.size)) := by
    intro lo hlo id x hx
    have hc : ¬ (nxa st (i + 1) ≤ id.toNat ∧ id.toNat < nxa st ops.size) := by
      intro c; rw [hβ'none id c] at hx; cases hx
    rw [res_eq (fun c => hc ⟨by omega, c.2⟩), hβ1out id hc]; exact hx
  have agr := I.agree T hci (by omega : i ≤ ops.size) hno
  have covs : ∀ bb, Cov (res β (nxa st i) (nxa st ops.size)) (hof (st i).σ) bb → Cov β H bb := by
    intro bb ⟨id, oo, x, hg, h1, h2, h3⟩
    exact ⟨id, oo, x, hg, by rw [← agr id x h2]; exact h1, (res_some h2).2, h3⟩
  have hltH : ∀ (id : Pos) x o, H id = some o → β id = some x → x.1 < w.heap.size := fun id x o q1 q2 => by
    have := (I.rel ops.size I.c0le (Nat.le_refl _)).obj id o x q1 (by rw [res_empty]; exact q2)
    exact this.lt
  have uncov : ∀ (id : Pos) x, nxa st (i + 1) ≤ id.toNat → id.toNat < nxa st ops.size → β id = some x → x.1 < w.heap.size ∧ ¬ Cov (res β (nxa st i) (nxa st ops.size)) (hof (st i).σ) x.1 := by
    intro id x h1 h2 h3
    obtain ⟨j, v2, ob2, q1, q2, q3, q4, q5⟩ := early id x h1 h2 h3
    have e3 := I.h2 j v2 ob2 (by omega) q2 q3 q4
    rw [q5] at e3
    refine ⟨hltH id x ob2 e3 h3, ?_⟩
    intro ⟨id3, o3, x3, _, k1, k2, k3⟩
    have hne : id3 ≠ id := by
      intro h; subst h; exact (res_some k2).1 ⟨by omega, h2⟩
    exact I.apart id x (by omega) h2 h3 id3 x3 o3 hne (by rw [← agr id3 x3 k2]; exact k1) (res_some k2).2 k3
  have apart1 : ∀ (id : Pos) x, nxa st (i + 1) ≤ id.toNat → id.toNat < nxa st ops.size → β id = some x → ∀ id2 x2 o2, id2 ≠ id → H1 id2 = some o2 → β1 id2 = some x2 → x2.1 ≠ x.1 := by
    intro id x h1 h2 h3 id2 x2 o2 hne hH2 hb2 heq
    by_cases hc : nxa st (i + 1) ≤ id2.toNat ∧ id2.toNat < nxa st ops.size
    · rw [hH1in id2 hc] at hH2
      rw [hβ1in id2 hc] at hb2
      exact I.apart id x (by omega) h2 h3 id2 x2 o2 hne hH2 hb2 heq
    · rw [hH1out id2 hc] at hH2
      rw [hβ1out id2 hc] at hb2
      obtain ⟨u1, u2⟩ := uncov id x h1 h2 h3
      have hge2 : 1000 ≤ id2.toNat := by
        rcases Nat.lt_or_ge id2.toNat 1000 with hlt2 | hge2
        · exfalso
          obtain ⟨y, hy⟩ := R.g0 id2.toNat hlt2
          have e9 : Pos.ofNat id2.toNat = id2 := Pos.toNat_inj (Pos.toNat_ofNat _)
          rw [e9] at hy
          have hb3 := hmono' _ _ hy
          rw [hb2] at hb3
          cases hb3
          obtain ⟨o3, ho3⟩ := Fe.gl id2 o2 hlt2 hH2
          have hH3 := agr id2 _ hy
          rw [ho3] at hH3
          exact I.apart id x (by omega) h2 h3 id2 _ o3 hne hH3.symm (res_some hy).2 heq
        · exact hge2
      exact u2 (Fe.cov x.1 u1 ⟨id2, o2, x2, hge2, hH2, hb2, heq⟩)
  refine ⟨β1, H1, _, md', w', hst, ?_⟩
  constructor
  · exact hlt
  · intro e he hE
    by_cases e2 : e = i
    · subst e2; simp [setD_same]
    · rw [setD_ne e2, I.effD e he hE]
      constructor
      · intro h; omega
      · intro h
        rcases Nat.lt_or_ge e c0 with h2 | h2
        · exact h2
        · rw [hno e h2 (by omega)] at hE; cases hE
  · intro j v2 ob2 hj hF2 hDj
    have hji : j ≠ i := by intro h; subst h; rw [hF] at hF2; cases hF2
    rw [setD_ne hji] at hDj
    have hlo : nxa st j < nxa st i := alloc_lt T hF2 (by omega) (by omega)
    have hjn : β (st j).nx = none := by
      rcases Nat.lt_or_ge j c0 with h | h
      · exact I.late j v2 ob2 h hF2 hDj
      · cases hx : β (st j).nx with
        | none => rfl
        | some x =>
          obtain ⟨j2, v3, ob3, q1, q2, q3, q4, q5⟩ := I.h3 (st j).nx x (T.nx_le h (by omega)) (alloc_lt T hF2 (show j < ops.size by omega) (Nat.le_refl _)) hx
          have e5 : nxa st j2 = nxa st j := congrArg Pos.toNat q5
          have : j2 = j := by
            rcases Nat.lt_trichotomy j2 j with h | h | h
            · have := alloc_lt T q4 h (by omega); omega
            · exact h
            · have := alloc_lt T hF2 h (by omega); omega
          subst this
          rw [hDj] at q3; cases q3
    have h3 : (st j).nx.toNat = nxa st j := rfl
    have h4 : (st i).nx.toNat = nxa st i := rfl
    rw [hβ1out _ (by omega), Fe.out _ (by omega)]
    unfold res
    split
    · rfl
    · exact hjn
  · exact .inr ⟨i, v, rfl, hF⟩
  · intro j hj x hx
    by_cases e : j = i
    · subst e; exact setD_mono (hb x hx)
    · rw [setD_ne e] at hj; exact setD_mono (I.closed j hj x hx)
  · exact hH1out
  · intro j v2 ob2 h1 h2 h3 hF2
    rw [setD_ne (by omega)] at h3
    have hr : nxa st (i + 1) ≤ (st j).nx.toNat ∧ (st j).nx.toNat < nxa st ops.size := ⟨T.nx_le h1 (by omega), alloc_lt T hF2 h2 (Nat.le_refl _)⟩
    rw [hH1in _ hr]
    exact I.h2 j v2 ob2 (by omega) h2 h3 hF2
  · intro id x h1 h2 h3
    rw [hβ1in id ⟨h1, h2⟩] at h3
    obtain ⟨j, v2, ob2, q1, q2, q3, q4⟩ := early id x h1 h2 h3
    exact ⟨j, v2, ob2, q1, q2, setD_mono q3, q4⟩
  · intro id x h1 h2 h3
    rw [hβ1in id ⟨h1, h2⟩] at h3
    exact apart1 id x h1 h2 h3
  · intro k hk hkn
    have hkk : nxa st (i + 1) ≤ nxa st k := T.nx_le hk hkn
    refine ⟨R'.g0.mono (hle' _ hkk), ?_, ?_, ?_⟩
    · intro id oo x h1 h2
      obtain ⟨h3, h4⟩ := res_some h2
      by_cases hc : nxa st (i + 1) ≤ id.toNat ∧ id.toNat < nxa st ops.size
      · rw [hH1in id hc] at h1
        rw [hβ1in id hc] at h4
        have q := (I.rel k (by omega) hkn).obj id oo x h1 (by rw [res_eq h3]; exact h4)
        obtain ⟨u1, u2⟩ := uncov id x hc.1 hc.2 h4
        exact (q.mono (hle1 _ _ (Nat.le_refl _) hkk)).heap (Fe.keep _ u1 u2)
      · rw [hH1out id hc] at h1
        rw [hβ1out id hc] at h4
        exact (R'.obj id oo x h1 h4).mono (hle' _ hkk)
    · intro p q op oq xp xq hne hp hq bp bq hbb
      have bp' := (res_some bp).2
      have bq' := (res_some bq).2
      by_cases hcp : nxa st (i + 1) ≤ p.toNat ∧ p.toNat < nxa st ops.size
      · have b2 := bp'
        rw [hβ1in p hcp] at b2
        exact (apart1 p xp hcp.1 hcp.2 b2 q xq oq (fun h => hne h.symm) hq bq' hbb.symm).elim
      · by_cases hcq : nxa st (i + 1) ≤ q.toNat ∧ q.toNat < nxa st ops.size
        · have b2 := bq'
          rw [hβ1in q hcq] at b2
          exact (apart1 q xq hcq.1 hcq.2 b2 p xp op hne hp bp' hbb).elim
        · rw [hH1out p hcp] at hp
          rw [hH1out q hcq] at hq
          rw [hβ1out p hcp] at bp'
          rw [hβ1out q hcq] at bq'
          exact R'.sep p q op oq xp xq hne hp hq bp' bq' hbb
    · intro p op xp hlt hp bp
      have bp' := (res_some bp).2
      have hcp : ¬ (nxa st (i + 1) ≤ p.toNat ∧ p.toNat < nxa st ops.size) := by
        intro c
        have hn : (res β (nxa st i) (nxa st ops.size)) p = none := res_in ⟨by omega, c.2⟩
        have := new_ge R.g0 hn
        omega
      rw [hH1out p hcp] at hp
      rw [hβ1out p hcp] at bp'
      obtain ⟨g1, g2⟩ := R'.glob p op xp hlt hp bp'
      refine ⟨g1, fun q oq xq hne hq bq => ?_⟩
      have bq' := (res_some bq).2
      by_cases hcq : nxa st (i + 1) ≤ q.toNat ∧ q.toNat < nxa st ops.size
      · have b2 := bq'
        rw [hβ1in q hcq] at b2
        intro heq
        exact apart1 q xq hcq.1 hcq.2 b2 p xp op (fun h => hne h.symm) (by rw [hH1out p hcp]; exact hp) (by rw [hβ1out p hcp]; exact bp') heq.symm
      · rw [hH1out q hcq] at hq
        rw [hβ1out q hcq] at bq'
        exact g2 q oq xq hne hq bq'
  · exact I.fn
  · exact I.rnd.mono (hle1 _ _ (by omega) (Nat.le_refl _))
  · exact hu.mono (hle' _ (Nat.le_refl _))
  · rw [put_defers]; exact hd.mono (hle' _ (Nat.le_refl _))
  · rw [put_size]; exact I.size
  · refine I.env_put T ho hi (by omega) (fun p hp => hle1 _ _ (T.nx_le (by omega) (by omega)) (T.nx_le (by omega) (by omega))) ?_
    rw [hF]
    exact hv.mono (hle' _ (T.nx_le (by omega) (by omega)))
  · refine I.fr.within (p := (st i).nx) (q := (st (i + 1)).nx) ?_ (T.nx_le (Nat.zero_le i) (by omega)) hi1n
    refine ⟨hi1, ?_, Fe.size, ?_, ?_, Fe.os, Fe.tape, Fe.output, ?_⟩
    · intro id hid
      by_cases hc : nxa st (i + 1) ≤ id.toNat ∧ id.toNat < nxa st ops.size
      · exact hβ1in id hc
      · rw [hβ1out id hc, Fe.out id hid, res_eq]
        intro c
        by_cases hm : id.toNat < nxa st (i + 1)
        · exact hid ⟨c.1, hm⟩
        · exact hc ⟨by omega, c.2⟩
    · intro bb hb1 hb2
      exact Fe.keep bb hb1 fun h => hb2 (covs bb h)
    · intro bb hb1 ⟨id, oo, x, hg, h1, h2, h3⟩
      by_cases hc : nxa st (i + 1) ≤ id.toNat ∧ id.toNat < nxa st ops.size
      · rw [hH1in id hc] at h1
        rw [hβ1in id hc] at h2
        exact ⟨id, oo, x, hg, h1, h2, h3⟩
      · rw [hH1out id hc] at h1
        rw [hβ1out id hc] at h2
        exact covs bb (Fe.cov bb hb1 ⟨id, oo, x, hg, h1, h2, h3⟩)
    · intro id o2 hlt2 ho2
      by_cases hc : nxa st (i + 1) ≤ id.toNat ∧ id.toNat < nxa st ops.size
      · rw [hH1in id hc] at ho2; exact ⟨o2, ho2⟩
      · rw [hH1out id hc] at ho2
        obtain ⟨o3, ho3⟩ := Fe.gl id o2 hlt2 ho2
        obtain ⟨y, hy⟩ := R.g0 id.toNat hlt2
        have e9 : Pos.ofNat id.toNat = id := Pos.toNat_inj (Pos.toNat_ofNat _)
        rw [e9] at hy
        have hH3 := agr id _ hy
        rw [ho3] at hH3
        exact ⟨o3, hH3.symm⟩
end
end Go.AE
namespace Go.AE
open Go

section
variable {P : Program} {fi : FI} {ops : Array Oper} {st : Nat → St} {F : Nat → Fact} {bf : Nat → Nat → Prop}

theorem Tr.same (T : Tr P fi ops st F bf) {b : Nat} : ∀ {k : Nat}, b ≤ k → k ≤ ops.size → NoE F b k → (st k).dfs = (st b).dfs ∧ (st k).u = (st b).u
  | 0, h, _, _ => by
    have : b = 0 := by omega
    subst this; exact ⟨rfl, rfl⟩
  | k + 1, h, hk, hn => by
    by_cases e : b = k + 1
    · subst e; exact ⟨rfl, rfl⟩
    · obtain ⟨q1, q2⟩ := T.same (b := b) (k := k) (by omega) (by omega) (fun e h1 h2 => hn e h1 (by omega))
      obtain ⟨ok, hok⟩ := getOp (ops := ops) (i := k) (by omega)
      have hf := T.fact k ok hok
      have hne := hn k (by omega) (by omega)
      rw [← q1, ← q2]
      cases hFk : F k <;> rw [hFk] at hf hne
      · exact ⟨hf.2.2.2.1, hf.2.2.2.2⟩
      · exact ⟨hf.2.2.2.2.2.2.1, hf.2.2.2.2.2.2.2⟩
      · exact ⟨hf.2.2.2.2.2.1, hf.2.2.2.2.2.2⟩
      · exact ⟨hf.2.2.2.2.2.1, hf.2.2.2.2.2.2⟩
      · cases hne

/-- the first effect at or behind b -/
theorem first_e {F : Nat → Fact} : ∀ {i b : Nat}, b ≤ i → ∃ e, b ≤ e ∧ e ≤ i ∧ NoE F b e ∧ (e = i ∨ (F e).isE = true)
  | 0, b, h => ⟨b, Nat.le_refl _, h, fun e h1 h2 => by omega, .inl (by omega)⟩
  | i + 1, b, h => by
    by_cases e : b = i + 1
    · subst e; exact ⟨i + 1, Nat.le_refl _, Nat.le_refl _, fun e h1 h2 => by omega, .inl rfl⟩
    · obtain ⟨x, h1, h2, h3, h4⟩ := first_e (F := F) (i := i) (b := b) (by omega)
      cases hx : (F x).isE with
      | true => exact ⟨x, h1, by omega, h3, .inr hx⟩
      | false =>
        rcases h4 with rfl | h4
        · refine ⟨x + 1, by omega, Nat.le_refl _, fun e h5 h6 => ?_, .inl rfl⟩
          by_cases e2 : e = x
          · subst e2; exact hx
          · exact h3 e h5 (by omega)
        · rw [hx] at h4; cases h4

section
variable {β0 : Be} {w0 : World} {b : Frame} {cs0 : List Frame} {D : Nat → Bool} {c0 : Nat} {β : Be} {H : HO} {a : Act} {md : Option FrameMode} {w : World} {i : Nat} {o : Oper}

/-- a read, whenever it is done -/
theorem Inv.readV (I : Inv P fi ops st F bf β0 w0 b cs0 D c0 β H a md w) (T : Tr P fi ops st F bf) (ho : ops[i]? = some o) (hi : D i = false) (hb : ∀ x, bf i x → D x = true) {v : AV} (hF : (∃ q, F i = .rd v q) ∨ F i = .read v) :
    ∃ v', VR (res β (nxa st (max c0 (i + 1))) (nxa st ops.size)) v v' ∧ (execOp a.eval o).run P w = .ok (.value v') w := by
  have hlt := lt_size ho
  have hnam := I.nam T ho hi hb
  have hfact := T.fact i o ho
  rcases hF with ⟨q, hF⟩ | hF
  · rw [hF] at hfact
    obtain ⟨_, _, hall, hq, _⟩ := hfact
    rcases Nat.lt_or_ge i c0 with hc | hc
    · -- an effect behind it in the text is done
      have e1 : max c0 i = c0 := by omega
      have e2 : max c0 (i + 1) = c0 := by omega
      rw [e1] at hnam
      rw [e2]
      refine hall (hof (st c0).σ) (fun q' hq' => ?_) _ a w (I.text T (Nat.le_refl _) I.c0le (fun e h1 h2 => by omega)) hnam.opds
      subst hq'
      rcases I.last with h0 | ⟨e, v2, h0, hFe⟩
      · omega
      · have hlt2 : e < ops.size := by have := I.c0le; omega
        have hDe : D e = true := (I.effD e hlt2 (by rw [hFe]; rfl)).2 (by omega)
        have hne : i ≠ e := by intro h; subst h; rw [hF] at hFe; cases hFe
        have := (T.ld i e v q' v2 hlt hlt2 hF hFe).2 (by omega) (fun hbf => by have := I.closed e hDe i hbf; rw [hi] at this; cases this)
        rw [h0]; exact this
    · have e1 : max c0 i = i := by omega
      rw [e1] at hnam
      have wide : ∀ v', VR (res β (nxa st i) (nxa st ops.size)) v v' → VR (res β (nxa st (max c0 (i + 1))) (nxa st ops.size)) v v' :=
        fun v' hv => hv.mono (res_le (T.nx_le (by omega) (by have := I.c0le; omega)))
      cases q with
      | none =>
        obtain ⟨v', h1, h2⟩ := hall H (fun _ h => by cases h) _ a w (I.rel i hc (by omega)) hnam.opds
        exact ⟨v', wide v' h1, h2⟩
      | some q =>
        obtain ⟨hlone, hq0⟩ := hq q rfl
        have key : ∃ e, e ≤ i ∧ RqH (hof (st e).σ) q ∧ ∀ x, res β (nxa st i) (nxa st ops.size) (RqId q) = some x → hof (st e).σ (RqId q) = H (RqId q) := by
          by_cases hj : ∃ j v2 ob, c0 ≤ j ∧ j < i ∧ D j = true ∧ F j = .alloc v2 ob ∧ (st j).nx = RqId q
          · obtain ⟨j, v2, ob, j1, j2, j3, j4, j5⟩ := hj
            obtain ⟨e, h1, h2, h3, h4⟩ := first_e (F := F) (i := i) (b := j + 1) (by omega)
            refine ⟨e, h2, ?_, fun x hx => ?_⟩
            · rcases h4 with rfl | h4
              · exact hq0
              · by_cases he : e = i
                · subst he; exact hq0
                · cases hFe : F e with
                  | eff v3 => exact (T.ld i e v q v3 hlt (by omega) hF hFe).1 (by omega) (fun hbf => by have := (I.effD e (by omega) h4).1 (hb e hbf); omega)
                  | _ => rw [hFe] at h4; cases h4
            · rw [← j5, T.born j4 (by omega) (by omega) h3, I.h2 j v2 ob j1 (by omega) j3 j4]
          · obtain ⟨e, h1, h2, h3, h4⟩ := first_e (F := F) (i := i) (b := c0) hc
            refine ⟨e, h2, ?_, fun x hx => ?_⟩
            · rcases h4 with rfl | h4
              · exact hq0
              · by_cases he : e = i
                · subst he; exact hq0
                · cases hFe : F e with
                  | eff v3 => exact (T.ld i e v q v3 hlt (by omega) hF hFe).1 (by omega) (fun hbf => by have := (I.effD e (by omega) h4).1 (hb e hbf); omega)
                  | _ => rw [hFe] at h4; cases h4
            · obtain ⟨k1, k2⟩ := res_some hx
              by_cases hr : nxa st c0 ≤ (RqId q).toNat ∧ (RqId q).toNat < nxa st ops.size
              · obtain ⟨j, v2, ob, q1, q2, q3, q4, q5⟩ := I.h3 _ x hr.1 hr.2 k2
                refine (hj ⟨j, v2, ob, q1, ?_, q3, q4, q5⟩).elim
                rcases Nat.lt_or_ge j i with h | h
                · exact h
                · have h6 := T.nx_le h (Nat.le_of_lt q2)
                  have e5 : nxa st j = (RqId q).toNat := congrArg Pos.toNat q5
                  exact absurd ⟨by omega, hr.2⟩ k1
              · rw [I.h1 _ hr]
                refine T.stay h1 (by omega) h3 _ fun c => hr ⟨c.1, ?_⟩
                exact Nat.lt_of_lt_of_le c.2 (T.nx_le (by omega) (Nat.le_refl _))
        obtain ⟨e, _, he1, he2⟩ := key
        have R2 := (I.rel i hc (by omega)).congr (h' := fun id => if id = RqId q then hof (st e).σ id else H id) (fun id x hx => by
          by_cases h : id = RqId q
          · subst h; simp only [if_true]; exact he2 x hx
          · simp [h])
        obtain ⟨v', h1, h2⟩ := hall _ (fun q' hq' => by cases hq'; exact RqH.congr hlone (by simp) he1) _ a w R2 hnam.opds
        exact ⟨v', wide v' h1, h2⟩
  · rw [hF] at hfact
    obtain ⟨_, _, hat, _⟩ := hfact
    have hc : c0 ≤ i := I.after T ho hi (by intro v; rw [hF]; rfl)
    have e1 : max c0 i = i := by omega
    rw [e1] at hnam
    obtain ⟨v', h1, h2⟩ := hat _ a w (I.text T hc (by omega) (I.noE T ho hb (by intro v; rw [hF]; rfl))) hnam.opds
    exact ⟨v', h1.mono (res_le (T.nx_le (by omega) (by have := I.c0le; omega))), h2⟩

/-- one more operation -/
theorem Inv.step (I : Inv P fi ops st F bf β0 w0 b cs0 D c0 β H a md w) (T : Tr P fi ops st F bf) (hlt : i < ops.size) (hi : D i = false) (hb : ∀ x, bf i x → D x = true) (rest : List Nat) (k : List Item) :
    ∃ c1 β1 H1 a1 md1 w1, Steps P (lone (b.atR a (.inRegion ops (i :: rest) :: k)) (withMode md cs0) w) (lone (b.atR a1 (.inRegion ops rest :: k)) (withMode md1 cs0) w1) ∧
      Inv P fi ops st F bf β0 w0 b cs0 (setD D i) c1 β1 H1 a1 md1 w1 := by
  obtain ⟨o, ho⟩ := getOp hlt
  have hmx : max c0 i ≤ ops.size := by have := I.c0le; omega
  have hG := (I.rel (max c0 i) (by omega) hmx).g0
  have hnam := I.nam T ho hi hb
  have hfact := T.fact i o ho
  cases hF : F i with
  | skip =>
    rw [hF] at hfact
    have hw := hfact.1 _ a hG hnam
    exact ⟨c0, β, H, _, md, w, .one (stepR_not ho hw), I.value T ho hi hb (by rw [hF]; rfl) (by intro v ob; rw [hF]; simp) (by rw [hF]; exact .tuple [] [] .nil)⟩
  | rd v q =>
    rw [hF] at hfact
    have hw := hfact.1 _ a hG hnam
    obtain ⟨v', h1, h2⟩ := I.readV T ho hi hb (.inl ⟨q, hF⟩)
    exact ⟨c0, β, H, _, md, w, .one (stepR_gives ho hw hfact.2.1 (.inl h2)), I.value T ho hi hb (by rw [hF]; rfl) (by intro v ob; rw [hF]; simp) (by rw [hF]; exact h1)⟩
  | read v =>
    rw [hF] at hfact
    have hw := hfact.1 _ a hG hnam
    obtain ⟨v', h1, h2⟩ := I.readV T ho hi hb (.inr hF)
    exact ⟨c0, β, H, _, md, w, .one (stepR_gives ho hw hfact.2.1 (.inl h2)), I.value T ho hi hb (by rw [hF]; rfl) (by intro v ob; rw [hF]; simp) (by rw [hF]; exact h1)⟩
  | alloc v ob =>
    rw [hF] at hfact
    have hw := hfact.1 _ a hG hnam
    obtain ⟨β1, H1, v', w', h1, h2⟩ := I.alloc T ho hi hb hF
    exact ⟨c0, β1, H1, _, md, w', .one (stepR_gives ho hw hfact.2.1 (.inl h1)), h2⟩
  | eff v =>
    obtain ⟨β1, H1, a1, md1, w1, h1, h2⟩ := I.eff T ho hi hb hF rest k
    exact ⟨i + 1, β1, H1, a1, md1, w1, h1, h2⟩
end

/-- an order that keeps bf -/
def Ord (bf : Nat → Nat → Prop) (n : Nat) : (Nat → Bool) → List Nat → Prop
  | _, [] => True
  | D, i :: r => i < n ∧ D i = false ∧ (∀ x, bf i x → D x = true) ∧ Ord bf n (setD D i) r
def setAll : (Nat → Bool) → List Nat → Nat → Bool
  | D, [] => D
  | D, i :: r => setAll (setD D i) r

theorem Inv.run {β0 : Be} {w0 : World} {b : Frame} {cs0 : List Frame} (T : Tr P fi ops st F bf) (k : List Item) : ∀ (π : List Nat) {D : Nat → Bool} {c0 : Nat} {β : Be} {H : HO} {a : Act} {md : Option FrameMode} {w : World}
    (_ : Inv P fi ops st F bf β0 w0 b cs0 D c0 β H a md w) (_ : Ord bf ops.size D π),
    ∃ c1 β1 H1 a1 md1 w1, Steps P (lone (b.atR a (.inRegion ops π :: k)) (withMode md cs0) w) (lone (b.atR a1 (.inRegion ops [] :: k)) (withMode md1 cs0) w1) ∧
      Inv P fi ops st F bf β0 w0 b cs0 (setAll D π) c1 β1 H1 a1 md1 w1
  | [], D, c0, β, H, a, md, w, I, _ => ⟨c0, β, H, a, md, w, Steps.refl _ _, I⟩
  | i :: r, D, c0, β, H, a, md, w, I, ho => by
    obtain ⟨h1, h2, h3, h4⟩ := ho
    obtain ⟨c1, β1, H1, a1, md1, w1, q1, q2⟩ := I.step T h1 h2 h3 r k
    obtain ⟨c2, β2, H2, a2, md2, w2, r1, r2⟩ := Inv.run T k r q2 h4
    exact ⟨c2, β2, H2, a2, md2, w2, q1.trans r1, r2⟩

theorem cur_none {m : Nat} {s0 : St} {t : Nat} : ∀ k, cur ops m s0 F (fun _ => false) k t = (look m s0.l s0.e t, 0)
  | 0 => rfl
  | k + 1 => by rw [cur_succ, cur_none k]; simp
theorem cur_done {m : Nat} {s0 : St} {D : Nat → Bool} {t n : Nat} (hD : ∀ i, i < n → D i = true) : ∀ k, k ≤ n → cur ops m s0 F D k t = cur ops m s0 F (fun _ => true) k t
  | 0, _ => rfl
  | k + 1, h => by rw [cur_succ, cur_succ, cur_done hD k (by omega), hD k (by omega)]

/-- in any order that keeps bf, the region comes to where the text's order comes to -/
theorem draw_goes (T : Tr P fi ops st F bf) {π : List Nat} (hπ : Ord bf ops.size (fun _ => false) π) (hall : ∀ i, i < ops.size → setAll (fun _ => false) π i = true) (k : List Item) :
    Goes P fi (st 0) (st ops.size) (.inRegion ops π :: k) (.inRegion ops [] :: k) := by
  have hle := T.nx_le (Nat.zero_le ops.size) (Nat.le_refl _)
  refine ⟨hle, fun β b a md cs0 w hs hf => ?_⟩
  have hres : ∀ lo, nxa st 0 ≤ lo → res β lo (nxa st ops.size) = β := by
    intro lo hlo
    funext id
    by_cases hc : lo ≤ id.toNat ∧ id.toNat < nxa st ops.size
    · rw [res_in hc, hf id (Nat.le_trans hlo hc.1) hc.2]
    · exact res_eq hc
  have I0 : Inv P fi ops st F bf β w b cs0 (fun _ => false) 0 β (hof (st 0).σ) a md w := by
    constructor
    · exact Nat.zero_le _
    · intro e _ _; simp
    · intro j v ob h; omega
    · exact .inl rfl
    · intro j h; cases h
    · intro id _; rfl
    · intro j v ob _ _ h; cases h
    · intro id x h1 h2 h3; rw [hf id h1 h2] at h3; cases h3
    · intro id x h1 h2 h3; rw [hf id h1 h2] at h3; cases h3
    · intro k _ hk; rw [hres _ (T.nx_le (Nat.zero_le k) hk)]; exact hs.rel
    · exact hs.fn
    · rw [hres _ (Nat.le_refl _)]; exact hs.rnd
    · rw [hres _ (Nat.le_refl _)]; exact hs.u
    · rw [hres _ (Nat.le_refl _)]; exact hs.dfs
    · exact hs.size
    · intro t v h
      rw [cur_none] at h ⊢
      obtain ⟨v', q1, q2⟩ := hs.env t v h
      refine ⟨v', q1, ?_⟩
      have : max 0 ((look (maskOf P fi.fid) (st 0).l (st 0).e t, 0) : Option AV × Nat).2 = 0 := rfl
      rw [this, hres _ (Nat.le_refl _)]; exact q2
    · exact ⟨hle, fun _ _ => rfl, Nat.le_refl _, fun _ _ _ => rfl, fun _ _ h => h, rfl, rfl, rfl, fun _ o _ h => ⟨o, h⟩⟩
  obtain ⟨c1, β1, H1, a1, md1, w1, q1, I⟩ := Inv.run T k π I0 hπ
  have hno : NoE F c1 ops.size := by
    intro e h1 h2
    cases hE : (F e).isE with
    | false => rfl
    | true => have := (I.effD e h2 hE).1 (hall e h2); omega
  obtain ⟨sd, su⟩ := T.same I.c0le (Nat.le_refl _) hno
  have hsub : (res β1 (nxa st c1) (nxa st ops.size)).le β1 := res_sub
  have R := I.text T I.c0le (Nat.le_refl _) hno
  have agr := I.agree T I.c0le (Nat.le_refl _) hno
  rw [res_empty] at R agr
  refine ⟨β1, a1, md1, w1, q1, ⟨I.fn, I.rnd.mono hsub, by rw [su]; exact I.ur.mono hsub, ?_, I.size, by rw [sd]; exact I.dfs.mono hsub, R⟩, ?_⟩
  · intro t v hv
    obtain ⟨v', k1, k2⟩ := I.env t v (by rw [cur_done hall ops.size (Nat.le_refl _), T.cur_look _ (Nat.le_refl _)]; exact hv)
    exact ⟨v', k1, k2.mono res_sub⟩
  · refine ⟨hle, I.fr.out, I.fr.size, I.fr.keep, fun bb hb1 ⟨id, oo, x, hg, h1, h2, h3⟩ => I.fr.cov bb hb1 ⟨id, oo, x, hg, ?_, h2, h3⟩, I.fr.os, I.fr.tape, I.fr.output, ?_⟩
    · rw [← agr id x h2]; exact h1
    · intro id o2 hlt2 ho2
      obtain ⟨y, hy⟩ := R.g0 id.toNat hlt2
      have e9 : Pos.ofNat id.toNat = id := Pos.toNat_inj (Pos.toNat_ofNat _)
      rw [e9] at hy
      have := agr id _ hy
      rw [ho2] at this
      exact I.fr.gl id o2 hlt2 this.symm
end
end Go.AE
namespace Go.AE
open Go

section
variable {P : Program} {L : Lv} {fi : FI} {ops : Array Oper} {i : Nat} {o : Oper}

theorem effAt_go {s : St} (ho : ops[i]? = some o) (hw : Asked P fi s ops o true) (hnd : ∀ c, o.op ≠ .defer c) {v : AV} {σ' : Heap} {nx' : Pos}
    (h2 : EffAt (maskOf P) (ntmpsOf P) P (maskOf P fi.fid) s.l s.e o s.σ s.nx v σ' nx') {l' : Loc} {e' : Env} : EffGo P fi ops i o s v ⟨l', e', s.dfs, s.u, σ', nx'⟩ := by
  refine ⟨h2.1, fun rest k β b a md cs0 w _ _ hu hd _ hnam R hf => ?_⟩
  obtain ⟨β', w', v', q1, q2, q3, q4⟩ := h2.2 β a w R hf hnam.opds
  have hb := q4.mono hf
  exact ⟨β', v', a.defers, md, w', .one (stepR_gives ho (hw β a R.g0 hnam) hnd q1), q2, hd.mono hb, hu.mono hb, q3, q4⟩

theorem call_go {s : St} (ho : ops[i]? = some o) (hw : Asked P fi s ops o true) (hnd : ∀ c, o.op ≠ .defer c) {f : FuncId} {args : List AV}
    (hop : ∀ (β : Be) (a : Act), G0 β → OpdsR β (maskOf P fi.fid) s.l s.e a o.op → ∃ args', VRs β args args' ∧ ∀ w, (execOp a.eval o).run P w = (callFunc f ⟨args'⟩).run P w) {v : AV} {u' : U} {σ' : Heap} {nx' : Pos} (hc : CallOk P f args none s.σ s.nx (.ret v) u' σ' nx')
    {l' : Loc} {e' : Env} : EffGo P fi ops i o s v ⟨l', e', s.dfs, s.u, σ', nx'⟩ := by
  refine ⟨hc.1, fun rest k β b a md cs0 w _ _ hu hd _ hnam R hf => ?_⟩
  obtain ⟨args', h1, h2⟩ := hop β a R.g0 hnam.opds
  obtain ⟨β', md', w', R', U', F, hcase⟩ := hc.2 β w args' .normal none (b.atR a (.inRegion ops (i :: rest) :: k) :: withMode md cs0) h1 R ⟨rfl, rfl⟩ hf
  have hb := F.mono hf
  rcases hcase with ⟨v0, v', hr, hv, hrun, _⟩ | ⟨hrun, fr, hst, hend⟩
  · cases hr
    exact ⟨β', v', a.defers, md, w', .one (stepR_gives ho (hw β a R.g0 hnam) hnd (.inl (by rw [h2]; exact hrun))), hv, hd.mono hb, hu.mono hb, R', F⟩
  · obtain ⟨e1, e2, e3, fn, e4, e5, v', hv, e6⟩ := hend
    have hmd : md' = none := by
      cases u' with
      | none => exact U'.2
      | some m => exact absurd U'.1 (by simp)
    subst hmd
    have l1 : fr.leaving P w' (.returned v') := ⟨e5, e2, e3, fn, by rw [e1]; exact e4, e6⟩
    have st2 := step_leave_returned (c := b.atR a (.inRegion ops (i :: rest) :: k)) (cs := withMode md cs0) l1
    have hfin := Frame.finish_atR b a ops i rest k v'
    rw [ho] at hfin
    simp only [Option.bind_some] at hfin
    rw [hfin] at st2
    exact ⟨β', v', a.defers, md, w', Steps.head (stepR_enter ho (hw β a R.g0 hnam) hnd (by rw [h2]; exact hrun)) (hst.trans (.one st2)), hv, hd.mono hb, hu.mono hb, R', F⟩

theorem yield_go {s : St} (ho : ops[i]? = some o) (hw : Asked P fi s ops o true) (hnd : ∀ c, o.op ≠ .defer c) {ly : Pos} {args : List AV}
    (hop : ∀ (β : Be) (a : Act), G0 β → OpdsR β (maskOf P fi.fid) s.l s.e a o.op → ∃ bl x args', β ly = some (bl, x) ∧ VRs β args args' ∧ ∀ w, (execOp a.eval o).run P w = (Instr.yield bl ⟨args'⟩).run P w) {v : AV} {σ' : Heap} {nx' : Pos} (hc : YieldOk P ly args s.σ s.nx v σ' nx')
    {l' : Loc} {e' : Env} : EffGo P fi ops i o s v ⟨l', e', s.dfs, s.u, σ', nx'⟩ := by
  refine ⟨hc.1, fun rest k β b a md cs0 w _ _ hu hd _ hnam R hf => ?_⟩
  obtain ⟨bl, x, args', hbl, h1, h2⟩ := hop β a R.g0 hnam.opds
  obtain ⟨β', w', v', R', F, hv, fid, tmps, assign, body, hy, st⟩ := hc.2 β w args' bl x (b.atR a (.inRegion ops (i :: rest) :: k)) (withMode md cs0) hbl h1 R hf
  have hb := F.mono hf
  have hfin := Frame.finish_atR b a ops i rest k v'
  rw [ho] at hfin
  simp only [Option.bind_some] at hfin
  rw [hfin] at st
  exact ⟨β', v', a.defers, md, w', Steps.head (stepR_round ho (hw β a R.g0 hnam) hnd (by rw [h2]; exact hy)) st, hv, hd.mono hb, hu.mono hb, R', F⟩

theorem mem_args {cal : Callee} {args : Array Operand} {ats : Array TypeId} {x : Operand} (h : x ∈ args.toList) : x ∈ (Op.call ⟨cal, args, ats⟩).operands := by
  have : x ∈ args := Array.mem_toList_iff.1 h
  simp [Op.operands, Call.operands, this]
theorem mem_callee {args : Array Operand} {ats : Array TypeId} {f : Operand} : f ∈ (Op.call ⟨.value f, args, ats⟩).operands := by
  simp [Op.operands, Call.operands]
abbrev noPan : KP := fun _ _ => False

/-- an effect, as the evaluator has it -/
theorem effX_go (hL : LvOk P L) {s : St} (ho : ops[i]? = some o) (hw : Asked P fi s ops o true) {ex : EX} (hx : comp P (maskOf P fi.fid) o.op = .e ex) {c : AV → W → Prop}
    (h : (opE ex).run L fi s.l s.e (.mk s.dfs s.u s.σ s.nx) c noPan) : ∃ v dfs' u' σ' nx', c v (.mk dfs' u' σ' nx') ∧ ∀ l' e', EffGo P fi ops i o s v ⟨l', e', dfs', u', σ', nx'⟩ := by
  have hs := comp_shape (P := P) (m := maskOf P fi.fid) o.op
  rw [hx] at hs
  clear hx
  obtain ⟨l, e, dfs, u, σ, nx⟩ := s
  obtain ⟨dst', op, ty, pos, aft, gd⟩ := o
  simp only at hs h
  cases hs with
  | store t x y n hz =>
    obtain ⟨σ', h1, h2⟩ := store_spec (mk := maskOf P) (nt := ntmpsOf P) (dst := dst') (ty := ty) (pos := pos) (aft := aft) (gd := gd) (nx := nx) hz h
    exact ⟨_, dfs, u, σ', nx, h1, fun l' e' => effAt_go ho hw (by simp) h2⟩
  | append s x st xt et xd i' ats hat hu hxt hxd hi z hzv h0 =>
    obtain ⟨v, σ', nx', h1, h2⟩ := append_spec (mk := maskOf P) (nt := ntmpsOf P) (dst := dst') (ty := ty) (pos := pos) (aft := aft) (gd := gd) hat hu hxt hxd hi hzv h0 h
    exact ⟨_, dfs, u, σ', nx', h1, fun l' e' => effAt_go ho hw (by simp) h2⟩
  | copy d s t st et n ats hat hu hz =>
    obtain ⟨v, σ', h1, h2⟩ := copy_spec (mk := maskOf P) (nt := ntmpsOf P) (dst := dst') (ty := ty) (pos := pos) (aft := aft) (gd := gd) (nx := nx) hat hu hz h
    exact ⟨_, dfs, u, σ', nx, h1, fun l' e' => effAt_go ho hw (by simp) h2⟩
  | mapupd t kt et kd kk mp kx vx hu hkd hk =>
    obtain ⟨σ', h1, h2⟩ := mapupd_spec (mk := maskOf P) (nt := ntmpsOf P) (dst := dst') (ty := ty) (pos := pos) (aft := aft) (gd := gd) (nx := nx) hu hkd hk h
    exact ⟨_, dfs, u, σ', nx, h1, fun l' e' => effAt_go ho hw (by simp) h2⟩
  | range t x hu =>
    obtain ⟨v, σ', nx', h1, h2⟩ := range_spec (mk := maskOf P) (nt := ntmpsOf P) (dst := dst') (ty := ty) (pos := pos) (aft := aft) (gd := gd) hu h
    exact ⟨_, dfs, u, σ', nx', h1, fun l' e' => effAt_go ho hw (by simp) h2⟩
  | next x =>
    obtain ⟨v, σ', h1, h2⟩ := next_spec (mk := maskOf P) (nt := ntmpsOf P) (dst := dst') (ty := ty) (pos := pos) (aft := aft) (gd := gd) (nx := nx) h
    exact ⟨_, dfs, u, σ', nx, h1, fun l' e' => effAt_go ho hw (by simp) h2⟩
  | rangem t kt et x hu =>
    obtain ⟨v, σ', nx', h1, h2⟩ := rangem_spec (mk := maskOf P) (nt := ntmpsOf P) (dst := dst') (ty := ty) (pos := pos) (aft := aft) (gd := gd) hu h
    exact ⟨_, dfs, u, σ', nx', h1, fun l' e' => effAt_go ho hw (by simp) h2⟩
  | nextm x =>
    obtain ⟨v, h1, h2⟩ := nextm_spec (mk := maskOf P) (nt := ntmpsOf P) (P := P) (dst := dst') (ty := ty) (pos := pos) (aft := aft) (gd := gd) (nx := nx) h
    exact ⟨_, dfs, u, σ, nx, h1, fun l' e' => effAt_go ho hw (by simp) h2⟩
  | call f args ats =>
    obtain ⟨vs, h1, h2⟩ := evs_spec (maskOf P fi.fid) l e args.toList h
    obtain ⟨r, u', σ', nx', h3, h4⟩ := hL.call _ _ _ _ _ _ h1
    cases r with
    | pan ch => exact h3.elim
    | ret v =>
      refine ⟨v, dfs, u, σ', nx', h3, fun l' e' => call_go ho hw (by simp) (fun β a hG he => ⟨_, h2 β a hG (fun x hx => he x (mem_args hx)), fun w => ?_⟩) h4⟩
      have e1 : (#[] ++ args.map a.eval ++ #[] : Array Value) = ⟨args.toList.map a.eval⟩ := by apply Array.ext'; simp
      simp only [execOp, resolve, Act.eval, Deferred.ofValue]
      show (callFunc f (#[] ++ args.map a.eval ++ #[])).run P w = _
      rw [e1]
  | callv f args ats =>
    obtain ⟨fv, h0, hf⟩ := get_spec (maskOf P fi.fid) l e f h
    obtain ⟨vs, h1, h2⟩ := evs_spec (maskOf P fi.fid) l e args.toList h0
    cases fv <;> (try exact h1.elim)
    · rename_i fn first cap
      cases fn <;> (try exact h1.elim)
      rename_i g
      obtain ⟨r, u', σ', nx', h3, h4⟩ := hL.call _ _ _ _ _ _ h1
      cases r with
      | pan ch => exact h3.elim
      | ret v =>
        refine ⟨v, dfs, u, σ', nx', h3, fun l' e' => call_go ho hw (by simp) (fun β a hG he => ?_) h4⟩
        obtain ⟨g', x', c', hg, hv, hx', hc'⟩ := (hf β a hG (he f (mem_callee))).func_inv
        cases hg
        refine ⟨x' ++ args.toList.map a.eval ++ c', (hx'.append (h2 β a hG (fun x hx => he x (mem_args hx)))).append hc', fun w => ?_⟩
        have e1 : ((⟨x'⟩ : Array Value) ++ args.map a.eval ++ ⟨c'⟩ : Array Value) = ⟨x' ++ args.toList.map a.eval ++ c'⟩ := by apply Array.ext'; simp
        simp only [execOp, resolve, hv, Deferred.ofValue]
        show (callFunc g (⟨x'⟩ ++ args.map a.eval ++ ⟨c'⟩)).run P w = _
        rw [e1]
    · rename_i ly
      obtain ⟨v, σ', nx', h3, h4⟩ := hL.yield _ _ _ _ _ h1
      refine ⟨v, dfs, u, σ', nx', h3, fun l' e' => yield_go ho hw (by simp) (fun β a hG he => ?_) h4⟩
      obtain ⟨bl, x, hv, hbl⟩ := (hf β a hG (he f (mem_callee))).yld_inv
      refine ⟨bl, x, args.toList.map a.eval, hbl, h2 β a hG (fun x hx => he x (mem_args hx)), fun w => ?_⟩
      have e1 : (#[] ++ args.map a.eval : Array Value) = ⟨args.toList.map a.eval⟩ := by apply Array.ext'; simp
      simp only [execOp, resolve, hv, Deferred.ofValue]
      show (Instr.yield bl (#[] ++ args.map a.eval)).run P w = _
      rw [e1]
  | recover args ats =>
    have hrun : ∀ (a : Act) (w : World), (execOp a.eval ⟨dst', .call ⟨.builtin .recover, args, ats⟩, ty, pos, aft, gd⟩).run P w = .ok .recover w := by intro a w; rfl
    have h' : recoverK fi u fun v u => c v (.mk dfs u σ nx) := h
    unfold recoverK at h'
    obtain ⟨fid, rnd⟩ := fi
    cases rnd with
    | some x => exact h'.elim
    | none =>
      simp only at h'
      split at h'
      · rename_i v older
        refine ⟨v, dfs, _, σ, nx, h', fun l' e' => ⟨Nat.le_refl _, fun rest k β b a md cs0 w hfn hrnd hu hd hsz hnam R _ => ?_⟩⟩
        obtain ⟨hk, hcs, md', rfl, ch', rfl, hch⟩ := hu
        cases hch with
        | cons _ v' _ _ old' hv hold =>
          cases cs0 with
          | nil => exact (hcs rfl).elim
          | cons cc r =>
            have st := stepR_recover (P := P) (w := w) (w' := w) (rest := rest) (k := k) (cs := withMode (some (.panicking ({ v := v', recovered := false } :: old'))) (cc :: r)) (v := v') (cs2 := withMode (some (.panicking ({ v := v', recovered := true } :: old'))) (cc :: r))
              ho (hw β a R.g0 hnam) (by simp) hrnd (hrun a w) (.inl (by
                have hkk : (b.atR a (.inRegion ops (i :: rest) :: k)).kind = .deferred := hk
                unfold tryRecover
                rw [hkk]
                rfl))
            exact ⟨β, v', a.defers, _, w, .one st, hv, hd, ⟨hk, hcs, _, rfl, _, rfl, .cons _ _ _ _ _ hv hold⟩, R, Fr.refl _ _ _ _⟩
      · rename_i hno
        refine ⟨.nilIface, dfs, u, σ, nx, h', fun l' e' => ⟨Nat.le_refl _, fun rest k β b a md cs0 w hfn hrnd hu hd hsz hnam R _ => ?_⟩⟩
        have hnone : tryRecover (b.atR a (.inRegion ops (i :: rest) :: k)) (withMode md cs0) = none := by
          simp only at hu
          cases u with
          | none =>
            have hkk : (b.atR a (.inRegion ops (i :: rest) :: k)).kind = .normal := hu.1
            unfold tryRecover
            rw [hkk]
          | some mo =>
            obtain ⟨hk, hcs, md', rfl, hm⟩ := hu
            have hkk : (b.atR a (.inRegion ops (i :: rest) :: k)).kind = .deferred := hk
            cases cs0 with
            | nil => exact (hcs rfl).elim
            | cons cc r =>
              unfold tryRecover
              rw [hkk]
              cases mo with
              | none => cases hm; rfl
              | some ch =>
                obtain ⟨ch', rfl, hch⟩ := hm
                cases hch with
                | nil => rfl
                | cons v v' t l l' hv hl =>
                  cases t with
                  | true => rfl
                  | false => exact (hno v l rfl).elim
        have st := stepR_recover (P := P) (w := w) (w' := w) (rest := rest) (k := k) (cs := withMode md cs0) (v := .nilIface) (cs2 := withMode md cs0) ho (hw β a R.g0 hnam) (by simp) hrnd (hrun a w) (.inr ⟨hnone, rfl, rfl⟩)
        exact ⟨β, _, a.defers, md, w, .one st, .nilIface, hd, hu, R, Fr.refl _ _ _ _⟩
  | defer f args ats =>
    obtain ⟨fv, h0, hf⟩ := get_spec (maskOf P fi.fid) l e f h
    obtain ⟨vs, h1, h2⟩ := evs_spec (maskOf P fi.fid) l e args.toList h0
    have h' : deferK fi fv vs dfs fun dfs => c (.tuple []) (.mk dfs u σ nx) := h1
    unfold deferK at h'
    obtain ⟨fid, rnd⟩ := fi
    cases rnd with
    | some x => exact h'.elim
    | none =>
      simp only at h'
      split at h'
      · rename_i g x cc
        refine ⟨_, _, u, σ, nx, h', fun l' e' => ⟨Nat.le_refl _, fun rest k β b a md cs0 w hfn hrnd hu hd hsz hnam R _ => ?_⟩⟩
        obtain ⟨g', x', c', hg, hv, hx', hc'⟩ := (hf β a R.g0 (hnam f (by simp [names, Op.operands, Call.operands]))).func_inv
        cases hg
        have hargs := h2 β a R.g0 (fun x hx => hnam x (by simp [names, Op.operands, Call.operands, Array.mem_toList_iff.1 hx]))
        have e1 : ((⟨x'⟩ : Array Value) ++ args.map a.eval : Array Value) = ⟨x' ++ args.toList.map a.eval⟩ := by apply Array.ext'; simp
        have hrun : (execOp a.eval ⟨dst', .defer ⟨.value f, args, ats⟩, ty, pos, aft, gd⟩).run P w = .ok (.defer { target := .fn (.func g) ⟨c'⟩, args := ⟨x' ++ args.toList.map a.eval⟩ }) w := by
          simp only [execOp, resolve, hv, Deferred.ofValue, e1]
          rfl
        have st := stepR_defer (P := P) (w := w) (w' := w) (rest := rest) (k := k) (cs := withMode md cs0) ho (hw β a R.g0 hnam) hrnd hrun
        exact ⟨β, _, _, md, w, .one st, .tuple [] [] .nil, .call g x cc vs x' c' _ dfs _ hx' hc' hargs hd, hu, R, Fr.refl _ _ _ _⟩
      · exact h'.elim
end
end Go.AE
namespace Go.AE
open Go

/-! ## equality of values -/
theorem capEq_eq : ∀ {a b : Option Nat}, capEq a b = true → a = b
  | none, none, _ => rfl
  | some a, some b, h => by rw [Nat.eq_of_beq_eq_true h]
  | none, some _, h => by cases h
  | some _, none, h => by cases h
mutual
theorem aveq_eq : ∀ (a b : AV), aveq a b = true → a = b
  | .bool a, b, h => by cases b <;> simp_all [aveq]
  | .int k a, b, h => by
    cases b <;> simp only [aveq, Bool.false_eq_true, Bool.and_eq_true] at h
    rw [(keq_iff _ _).1 h.1]; have := h.2; rw [ieq_iff] at this; simp at this; rw [this]
  | .str a, b, h => by cases b <;> simp_all [aveq]
  | .nilptr, b, h => by cases b <;> simp_all [aveq]
  | .ptr i o, b, h => by
    cases b <;> simp only [aveq, Bool.false_eq_true, Bool.and_eq_true, decide_eq_true_eq] at h
    rw [h.1, Nat.eq_of_beq_eq_true h.2]
  | .nilslice, b, h => by cases b <;> simp_all [aveq]
  | .slice i o n c s, b, h => by
    cases b <;> simp only [aveq, Bool.false_eq_true, Bool.and_eq_true, decide_eq_true_eq] at h
    obtain ⟨⟨⟨⟨h1, h2⟩, h3⟩, h4⟩, h5⟩ := h
    rw [h1, Nat.eq_of_beq_eq_true h2, Nat.eq_of_beq_eq_true h3, capEq_eq h4, Nat.eq_of_beq_eq_true h5]
  | .nilmap, b, h => by cases b <;> simp_all [aveq]
  | .map i, b, h => by cases b <;> simp_all [aveq]
  | .nilfunc, b, h => by cases b <;> simp_all [aveq]
  | .func f x c, b, h => by
    cases b <;> simp only [aveq, Bool.false_eq_true, Bool.and_eq_true, decide_eq_true_eq] at h
    rw [h.1.1, aveqs_eq _ _ h.1.2, aveqs_eq _ _ h.2]
  | .yld l, b, h => by cases b <;> simp [aveq] at h
  | .nilIface, b, h => by cases b <;> simp_all [aveq]
  | .iface t v, b, h => by
    cases b <;> simp only [aveq, Bool.false_eq_true, Bool.and_eq_true] at h
    rw [Nat.eq_of_beq_eq_true h.1, aveq_eq _ _ h.2]
  | .agg cs, b, h => by
    cases b <;> simp only [aveq, Bool.false_eq_true] at h
    rw [aveqs_eq _ _ h]
  | .tuple cs, b, h => by
    cases b <;> simp only [aveq, Bool.false_eq_true] at h
    rw [aveqs_eq _ _ h]
theorem aveqs_eq : ∀ (a b : List AV), aveqs a b = true → a = b
  | [], b, h => by cases b <;> simp_all [aveqs]
  | a :: x, b, h => by
    cases b <;> simp only [aveqs, Bool.false_eq_true, Bool.and_eq_true] at h
    rw [aveq_eq _ _ h.1, aveqs_eq _ _ h.2]
end
theorem oaveq_eq : ∀ {a b : Option AV}, oaveq a b = true → a = b
  | none, none, _ => rfl
  | some a, some b, h => by rw [aveq_eq a b h]
  | none, some _, h => by cases h
  | some _, none, h => by cases h

theorem obeq_eq : ∀ {a b : AObj}, obeq a b = true → a = b
  | .cells a rd lo hi [], .cells b rd' lo' hi' [], h => by
    simp only [obeq, Bool.and_eq_true, beq_iff_eq] at h
    obtain ⟨⟨⟨⟨h1, h2⟩, h3⟩, h4⟩, _⟩ := h
    rw [aveqs_eq _ _ h1, h2, Nat.eq_of_beq_eq_true h3, Nat.eq_of_beq_eq_true h4]
  | .map [], .map [], _ => rfl
  | .cells a rd lo hi (_ :: _), .cells b rd' lo' hi' anc, h => by simp [obeq] at h
  | .cells a rd lo hi [], .cells b rd' lo' hi' (_ :: _), h => by simp [obeq] at h
  | .cells .., .map _, h => by simp [obeq] at h
  | .cells .., .loop _, h => by simp [obeq] at h
  | .cells .., .dfr, h => by simp [obeq] at h
  | .cells .., .siter .., h => by simp [obeq] at h
  | .cells .., .miter .., h => by simp [obeq] at h
  | .map (_ :: _), b, h => by cases b <;> simp [obeq] at h
  | .map [], .map (_ :: _), h => by simp [obeq] at h
  | .map [], .cells .., h => by simp [obeq] at h
  | .map [], .loop _, h => by simp [obeq] at h
  | .map [], .dfr, h => by simp [obeq] at h
  | .map [], .siter .., h => by simp [obeq] at h
  | .map [], .miter .., h => by simp [obeq] at h
  | .loop _, b, h => by cases b <;> simp [obeq] at h
  | .dfr, b, h => by cases b <;> simp [obeq] at h
  | .siter .., b, h => by cases b <;> simp [obeq] at h
  | .miter .., b, h => by cases b <;> simp [obeq] at h

/-! ## questions asked again -/
theorem chkRd_spec {σ : Heap} {r : Rd} {c : Prop} (h : chkRd σ r c) : c ∧ RqH (hof σ) r.q := by
  obtain ⟨i, q⟩ := r
  cases q with
  | cells id off n cs' =>
    obtain ⟨cs, rd, lo, hi, anc, h1, h2, h3⟩ := readCells_spec (show readCells σ id off n fun cs => ite' (aveqs cs cs') c False from h)
    obtain ⟨h4, h5⟩ := ite'_true h3
    exact ⟨h5, cs, rd, lo, hi, anc, h1, h2, aveqs_eq _ _ h4⟩
  | look kk id k r' =>
    obtain ⟨r, h1, h2⟩ := mapFind_spec (show mapFind σ kk id k fun r => ite' (oaveq r r') c False from h)
    obtain ⟨h3, h4⟩ := ite'_true h1
    rw [oaveq_eq h3] at h2
    exact ⟨h4, h2⟩
  | obj id o' =>
    obtain ⟨o, h1, h2⟩ := withObj_spec (show withObj σ id fun o => ite' (obeq o o') c False from h)
    obtain ⟨h3, h4⟩ := ite'_true h2
    exact ⟨h4, by rw [obeq_eq h3] at h1; exact h1⟩
theorem chkSnaps_spec {bf : Nat} {r : Rd} {c : Prop} : ∀ {snaps : List (Nat × Heap)}, chkSnaps snaps bf r c → c ∧ ∀ s ∈ snaps, bit bf s.1 = false → RqH (hof s.2) r.q
  | [], h => ⟨h, fun s hs => by cases hs⟩
  | s :: l, h => by
    have h' : ite' (bit bf s.1) (chkSnaps l bf r c) (chkRd s.2 r (chkSnaps l bf r c)) := h
    rw [ite'_eq] at h'
    split at h'
    · rename_i hb
      obtain ⟨h1, h2⟩ := chkSnaps_spec h'
      refine ⟨h1, fun x hx hbx => ?_⟩
      rcases List.mem_cons.1 hx with rfl | hx
      · rw [hb] at hbx; cases hbx
      · exact h2 x hx hbx
    · obtain ⟨h0, h3⟩ := chkRd_spec h'
      obtain ⟨h1, h2⟩ := chkSnaps_spec h0
      refine ⟨h1, fun x hx hbx => ?_⟩
      rcases List.mem_cons.1 hx with rfl | hx
      · exact h3
      · exact h2 x hx hbx
theorem chkRds_spec {bf : Nat} {σ : Heap} {c : Prop} : ∀ {rds : List Rd}, chkRds rds bf σ c → c ∧ ∀ r ∈ rds, bit bf r.i = false → RqH (hof σ) r.q
  | [], h => ⟨h, fun s hs => by cases hs⟩
  | r :: l, h => by
    have h' : ite' (bit bf r.i) (chkRds l bf σ c) (chkRd σ r (chkRds l bf σ c)) := h
    rw [ite'_eq] at h'
    split at h'
    · rename_i hb
      obtain ⟨h1, h2⟩ := chkRds_spec h'
      refine ⟨h1, fun x hx hbx => ?_⟩
      rcases List.mem_cons.1 hx with rfl | hx
      · rw [hb] at hbx; cases hbx
      · exact h2 x hx hbx
    · obtain ⟨h0, h3⟩ := chkRd_spec h'
      obtain ⟨h1, h2⟩ := chkRds_spec h0
      refine ⟨h1, fun x hx hbx => ?_⟩
      rcases List.mem_cons.1 hx with rfl | hx
      · exact h3
      · exact h2 x hx hbx

theorem put_look {m : Nat} {d : Option Tmp} {v : AV} {l : Loc} {e : Env} {c : Loc → Env → Prop} (h : (put (dst m d)).run v l e c) :
    ∃ l' e', c l' e' ∧ ∀ t, look m l' e' t = if d = some t then some v else look m l e t := by
  cases d with
  | none => exact ⟨l, e, h, fun t => by simp⟩
  | some t =>
    simp only [dst] at h
    by_cases hb : bit m t = true
    · rw [hb] at h
      obtain ⟨e', h1, h2⟩ := T.set_spec _ _ _ _ h
      refine ⟨l, e', h1, fun t' => ?_⟩
      unfold look
      by_cases ht : t = t'
      · subst ht; rw [if_pos hb, h2]; simp
      · have hne : ¬ Pos.ofNat t' = Pos.ofNat t := fun h => ht (Pos.ofNat_inj h).symm
        rw [h2, if_neg hne]; simp [ht]
    · have hb' : bit m t = false := by simpa using hb
      rw [hb'] at h
      refine ⟨.cons t v l, e, h, fun t' => ?_⟩
      unfold look
      by_cases ht : t = t'
      · subst ht; rw [if_neg hb]; simp [Loc.get]
      · have : ¬ t' = t := fun h => ht h.symm
        simp [Loc.get, ht, this]

/-! ## the facts of one operation -/
def FK (cl : Nat) : Fact → Prop
  | .skip => True
  | .rd _ none => cl = 0 ∨ cl = 1
  | .rd _ (some _) => cl = 1
  | .read _ => cl = 2
  | .alloc .. => cl = 3
  | .eff _ => cl = 4
theorem FK.kind {ci cj : Nat} {f g : Fact} (hf : FK ci f) (hg : FK cj g) (h : clsOk ci cj = true) : kindOk f g = true := by
  cases f with
  | skip => rfl
  | rd v q => cases g <;> rfl
  | read v =>
    cases g with
    | eff w => simp only [FK] at hf hg; subst hf; subst hg; cases h
    | _ => rfl
  | alloc v ob => cases g <;> rfl
  | eff v =>
    cases g with
    | eff w => simp only [FK] at hf hg; subst hf; subst hg; cases h
    | read w => simp only [FK] at hf hg; subst hf; subst hg; cases h
    | _ => rfl

section
variable {P : Program} {L : Lv} {fi : FI} {ops : Array Oper} {i : Nat} {o : Oper}

def Nx (P : Program) (fi : FI) (o : Oper) (s s' : St) (v : AV) : Prop :=
  ∀ t, look (maskOf P fi.fid) s'.l s'.e t = if o.dst = some t then some v else look (maskOf P fi.fid) s.l s.e t

/-- a load's question -/
def LoadF (P : Program) (m : Nat) (l : Loc) (e : Env) (o : Oper) (σ : Heap) (v : AV) (q : Option RQ) : Prop :=
  (∀ h, (∀ q', q = some q' → RqH h q') → ReadAt (maskOf P) (ntmpsOf P) P m l e o h v) ∧ ∀ q', q = some q' → RqLone q' ∧ RqH (hof σ) q'

theorem read_fact {m : Nat} {l : Loc} {e : Env} (o : Oper) {rx : RX} {σ : Heap} {c : AV → Prop} (hcomp : comp P m o.op = .r rx) (hr : (opR rx).run l e σ c) :
    ∃ v, c v ∧ (((X.r rx).cls = 2 ∧ ReadAt (maskOf P) (ntmpsOf P) P m l e o (hof σ) v) ∨ ((X.r rx).cls = 1 ∧ ∃ q, LoadF P m l e o σ v q)) := by
  have hs := comp_shape (P := P) (m := m) o.op
  rw [hcomp] at hs
  obtain ⟨dst, op, ty, pos, aft, gd⟩ := o
  simp only at hs hcomp
  cases hs with
  | load t y n g hz hg =>
    cases g with
    | true =>
      obtain ⟨v, h, hx⟩ := get_spec m l e y hr
      obtain ⟨id, off, rfl, h⟩ := onPtr_spec h
      obtain ⟨cs, rd, lo, hi, anc, h1, h2, h3⟩ := readCells_spec h
      refine ⟨_, h3, .inr ⟨rfl, some (.cells id off n ((cs.drop off).take n)), fun hh hq => ?_, fun q' hq' => ?_⟩⟩
      · exact load_at hz hg hx ⟨n, hq _ rfl, fun _ => rfl⟩ (.inl ⟨rfl, rfl⟩)
      · cases hq'; exact ⟨trivial, cs, rd, lo, hi, anc, h1, h2, rfl⟩
    | false =>
      obtain ⟨v, h, hx⟩ := get_spec m l e y hr
      obtain ⟨id, off, rfl, h⟩ := onPtr_spec h
      obtain ⟨cs, rd, lo, hi, anc, v, h1, h2, h3⟩ := readCell_spec h
      have hlt := (List.getElem?_eq_some_iff.1 h2).1
      refine ⟨v, h3, .inr ⟨rfl, some (.cells id off 1 [v]), fun hh hq => ?_, fun q' hq' => ?_⟩⟩
      · exact load_at (cs := [v]) hz hg hx ⟨1, hq _ rfl, fun h => by cases h⟩ (.inr ⟨rfl, rfl⟩)
      · cases hq'
        refine ⟨trivial, cs, rd, lo, hi, anc, h1, by omega, ?_⟩
        rw [List.take_one, List.head?_drop, h2]; rfl
  | lookup t y j ok kt et kd z kk hu hkd hz hkk =>
    obtain ⟨mv, h, hx⟩ := get_spec m l e y hr
    obtain ⟨k, h, hi⟩ := get_spec m l e j h
    obtain ⟨r, h1, h2⟩ := lookupK_spec h
    by_cases hk3 : kk = 3
    · subst hk3
      exact ⟨_, h1, .inl ⟨rfl, look_at hu hkd hz hkk hx hi h2⟩⟩
    · have hcl : (X.r (.lookup kk ok z (xo m y) (xo m j))).cls = 1 := by
        have : Nat.beq kk 3 = false := by rw [beq_dec]; simp [hk3]
        simp [X.cls, this]
      refine ⟨_, h1, .inr ⟨hcl, ?_⟩⟩
      rcases h2 with ⟨rfl, rfl⟩ | ⟨id, rfl, h3⟩
      · exact ⟨none, fun hh _ => look_at hu hkd hz hkk hx hi (.inl ⟨rfl, rfl⟩), fun q' hq' => by cases hq'⟩
      · exact ⟨some (.look kk id k r), fun hh hq => look_at hu hkd hz hkk hx hi (.inr ⟨id, rfl, hq _ rfl⟩), fun q' hq' => by cases hq'; exact ⟨hk3, h3⟩⟩
  | peq op neg t el n x y yt hop hu hz =>
    obtain ⟨v, h1, h2⟩ := comp_read (mk := maskOf P) (nt := ntmpsOf P) (⟨dst, _, ty, pos, aft, gd⟩ : Oper) hcomp hr
    exact ⟨v, h1, .inl ⟨rfl, h2⟩⟩
  | lookupE t y j ok kt et kd z n hu hkd hz hk =>
    obtain ⟨v, h1, h2⟩ := comp_read (mk := maskOf P) (nt := ntmpsOf P) (⟨dst, _, ty, pos, aft, gd⟩ : Oper) hcomp hr
    exact ⟨v, h1, .inl ⟨rfl, h2⟩⟩
  | maplen x t kt et ats hu hat =>
    obtain ⟨v, h1, h2⟩ := comp_read (mk := maskOf P) (nt := ntmpsOf P) (⟨dst, _, ty, pos, aft, gd⟩ : Oper) hcomp hr
    exact ⟨v, h1, .inl ⟨rfl, h2⟩⟩
  | b2s s d et x hs he hd =>
    obtain ⟨v, h1, h2⟩ := comp_read (mk := maskOf P) (nt := ntmpsOf P) (⟨dst, _, ty, pos, aft, gd⟩ : Oper) hcomp hr
    exact ⟨v, h1, .inl ⟨rfl, h2⟩⟩

theorem comp_nd {x : X} (hx : comp P (maskOf P fi.fid) o.op = x) (hne : ∀ e, x ≠ .e e) (hnb : ∀ o', x ≠ .bad o') : ∀ c, o.op ≠ .defer c := by
  intro c hc
  rw [hc] at hx
  rcases comp_defer (P := P) (m := maskOf P fi.fid) c with ⟨e, h⟩ | ⟨e, h⟩
  · exact hne e (hx.symm.trans h)
  · exact hnb e (hx.symm.trans h)

/-- an operation in the text's order, and its fact -/
theorem opX_fact (hL : LvOk P L) {s : St} (ho : ops[i]? = some o) (hw : Asked P fi s ops o true) {K : Loc → Env → W → Prop}
    (h : (opX (dst (maskOf P fi.fid) o.dst) (comp P (maskOf P fi.fid) o.op)).run L fi s.l s.e (.mk s.dfs s.u s.σ s.nx) K noPan) :
    ∃ f s', K s'.l s'.e (.mk s'.dfs s'.u s'.σ s'.nx) ∧ FactOk P fi ops i o s s' f ∧ Nx P fi o s s' f.val ∧ FK (comp P (maskOf P fi.fid) o.op).cls f := by
  cases hx : comp P (maskOf P fi.fid) o.op with
  | p px =>
    rw [hx] at h
    have h' : (opP px).run s.l s.e fun v => (put (dst (maskOf P fi.fid) o.dst)).run v s.l s.e fun l e => K l e (.mk s.dfs s.u s.σ s.nx) := by
      cases px <;> exact h
    have hnd := comp_nd (fi := fi) hx (by simp) (by simp)
    obtain ⟨v, h1, h2⟩ := comp_pure o hx h'
    obtain ⟨l', e', h3, h4⟩ := put_look h1
    refine ⟨.rd v none, ⟨l', e', s.dfs, s.u, s.σ, s.nx⟩, h3, ⟨hw, hnd, fun hh _ β a w R hop => ?_, (fun q' hq' => by cases hq'), rfl, rfl, rfl, rfl⟩, h4, .inl rfl⟩
    obtain ⟨v', k1, k2⟩ := h2 β a R.g0 hop
    exact ⟨v', k1, k2 w⟩
  | r rx =>
    rw [hx] at h
    have hnd := comp_nd (fi := fi) hx (by simp) (by simp)
    obtain ⟨v, h1, h2⟩ := read_fact (P := P) o hx (show (opR rx).run s.l s.e s.σ _ from h)
    obtain ⟨l', e', h3, h4⟩ := put_look h1
    rcases h2 with ⟨hc, h2⟩ | ⟨hc, q, h2, h5⟩
    · exact ⟨.read v, ⟨l', e', s.dfs, s.u, s.σ, s.nx⟩, h3, ⟨hw, hnd, h2, rfl, rfl, rfl, rfl⟩, h4, hc⟩
    · refine ⟨.rd v q, ⟨l', e', s.dfs, s.u, s.σ, s.nx⟩, h3, ⟨hw, hnd, h2, h5, rfl, rfl, rfl, rfl⟩, h4, ?_⟩
      cases q with
      | none => exact .inr hc
      | some q => exact hc
  | a ax =>
    rw [hx] at h
    have hnd := comp_nd (fi := fi) hx (by simp) (by simp)
    obtain ⟨v, ob, h1, h2⟩ := comp_alloc (mk := maskOf P) (nt := ntmpsOf P) o hx (show (opA ax).run s.l s.e s.nx _ from h)
    obtain ⟨σ', h3, h4⟩ := set_spec h1
    obtain ⟨l', e', h5, h6⟩ := put_look h3
    exact ⟨.alloc v ob, ⟨l', e', s.dfs, s.u, σ', s.nx.succ⟩, h5, ⟨hw, hnd, h2, h4, rfl, rfl, rfl⟩, h6, rfl⟩
  | e ex =>
    rw [hx] at h
    obtain ⟨v, dfs', u', σ', nx', h1, h2⟩ := effX_go hL ho hw hx h
    obtain ⟨l', e', h3, h4⟩ := put_look h1
    exact ⟨.eff v, ⟨l', e', dfs', u', σ', nx'⟩, h3, ⟨hw, h2 l' e'⟩, h4, rfl⟩
  | bad o' => rw [hx] at h; exact h.elim
end
end Go.AE
