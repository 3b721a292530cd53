import Derived.Test.YtgagehpnkecmkaaDoorPureEv
set_option linter.unusedVariables false
namespace Go.Sx
open Go
/-! ## a term with a kind comes to a value of that kind -/
def Snd (a : Int × Int) (b : Val × Int) : Prop := (a.2 = 0 ∧ ((b.2 = 0 ∧ b.1.k = a.1 ∧ mayV b.1 = true) ∨ b.2 = 403 ∨ b.2 = 404 ∨ b.2 = 405)) ∨ ((a.2 = 501 ∨ a.2 = 502) ∧ ¬ b.2 = 0)

theorem held_snd {env : List Bind} (name : Str) (hall : ∀ b ∈ env, mayV b.v = true) : Snd (heldS (env.map typingOf) name) (holdV env name) := by
  induction env with
  | nil => exact .inr ⟨.inl rfl, by simp [holdV]⟩
  | cons b r ih =>
    have hm := hall b (by simp)
    simp only [List.map_cons, heldS, holdV, typingOf]
    by_cases hn : b.name = name
    · rw [if_pos hn, if_pos hn, if_pos hm]
      have hk : ¬ (b.v.k < 0 ∨ 5 < b.v.k) := by
        intro h
        unfold mayV at hm
        rw [if_neg (by omega), if_neg (by omega), if_neg (by omega), if_neg (by omega), if_neg (by omega), if_neg (by omega)] at hm
        cases hm
      rw [if_neg hk]
      exact .inl ⟨rfl, .inl ⟨rfl, rfl, hm⟩⟩
    · rw [if_neg hn, if_neg hn]
      exact ih (fun c hc => hall c (List.mem_cons_of_mem _ hc))

/-- .. of operands that have values: the one error that tells of kinds -/
def SndK (a : Int × Int) (b : Val × Int) : Prop := (a.2 = 0 ∧ ((b.2 = 0 ∧ b.1.k = a.1 ∧ mayV b.1 = true) ∨ b.2 = 403 ∨ b.2 = 404 ∨ b.2 = 405)) ∨ (a.2 = 502 ∧ b.2 = 402)
theorem SndK.snd {a : Int × Int} {b : Val × Int} (h : SndK a b) : Snd a b := h.imp (fun h => h) (fun h => ⟨.inr h.1, by rw [h.2]; decide⟩)
theorem may_int (n : Int) : mayV ⟨1, n, [], []⟩ = true := by simp [mayV]
theorem may_truth (b : Bool) : mayV (truthV b) = true := by cases b <;> simp [mayV, truthV]
theorem sndK_ok {k : Int} {v : Val} (hk : v.k = k) (hm : mayV v = true) : SndK (k, 0) (v, 0) := .inl ⟨rfl, .inl ⟨rfl, hk, hm⟩⟩
theorem sndK_wrong : SndK (0, 502) wrongV := .inr ⟨rfl, rfl⟩
theorem numV_sndK {k x y : Int} (h : isNumOp k = true) : SndK ((if k = 12 then 2 else 1), 0) (numV k x y) := by
  have h6 : k = 6 ∨ k = 7 ∨ k = 8 ∨ k = 9 ∨ k = 10 ∨ k = 12 := by unfold isNumOp at h; simpa using h
  rcases h6 with rfl | rfl | rfl | rfl | rfl | rfl
  · show SndK (1, 0) (⟨1, w64 (x + y), [], []⟩, 0); exact sndK_ok rfl (may_int _)
  · show SndK (1, 0) (⟨1, w64 (x - y), [], []⟩, 0); exact sndK_ok rfl (may_int _)
  · show SndK (1, 0) (⟨1, w64 (x * y), [], []⟩, 0); exact sndK_ok rfl (may_int _)
  · show SndK (1, 0) (if y = 0 then (v0, 403) else (⟨1, w64 (x.tdiv y), [], []⟩, 0))
    split
    · exact .inl ⟨rfl, .inr (.inl rfl)⟩
    · exact sndK_ok rfl (may_int _)
  · show SndK (1, 0) (if y = 0 then (v0, 403) else (⟨1, x.tmod y, [], []⟩, 0))
    split
    · exact .inl ⟨rfl, .inr (.inl rfl)⟩
    · exact sndK_ok rfl (may_int _)
  · show SndK (2, 0) (truthV (decide (x < y)), 0); exact sndK_ok rfl (may_truth _)
theorem kFin_sndK {k : Int} {a b : Val} (hk : 6 ≤ k ∧ k ≤ 19) (ha : mayV a = true) (hb : mayV b = true) : SndK (kFin k a.k b.k) (applyV k a b) := by
  have h6 : k = 6 ∨ k = 7 ∨ k = 8 ∨ k = 9 ∨ k = 10 ∨ k = 12 ∨ k = 11 ∨ k = 13 ∨ k = 14 ∨ k = 15 ∨ k = 16 ∨ k = 17 ∨ k = 18 ∨ k = 19 := by omega
  have num : ∀ k, isNumOp k = true → kFin k a.k b.k = (if a.k = 1 then if b.k = 1 then ((if k = 12 then 2 else 1), 0) else (0, 502) else (0, 502)) → SndK (kFin k a.k b.k) (applyV k a b) := by
    intro k hk e
    rw [e]; unfold applyV; rw [if_pos hk]
    by_cases h1 : a.k = 1
    · by_cases h2 : b.k = 1
      · rw [if_pos h1, if_pos h2, if_neg (show ¬ (¬ a.k = 1 ∨ ¬ b.k = 1) by simp [h1, h2])]; exact numV_sndK hk
      · rw [if_pos h1, if_neg h2, if_pos (show ¬ a.k = 1 ∨ ¬ b.k = 1 from .inr h2)]; exact sndK_wrong
    · rw [if_neg h1, if_pos (show ¬ a.k = 1 ∨ ¬ b.k = 1 from .inl h1)]; exact sndK_wrong
  have hn : ∀ k, isNumOp k = true → askW k = (1, 1, (if k = 12 then 2 else 1)) → ¬ k = 11 → ¬ k = 16 → kFin k a.k b.k = (if a.k = 1 then if b.k = 1 then ((if k = 12 then 2 else 1), 0) else (0, 502) else (0, 502)) := by
    intro k _ e h11 h16
    unfold kFin kFin1 kFinB kFin2
    rw [e]
    by_cases h1 : a.k = 1 <;> by_cases h2 : b.k = 1 <;> simp [h1, h2, h11, h16]
  rcases h6 with rfl | rfl | rfl | rfl | rfl | rfl | rfl | rfl | rfl | rfl | rfl | rfl | rfl | rfl
  · exact num _ rfl (hn _ rfl rfl (by decide) (by decide))
  · exact num _ rfl (hn _ rfl rfl (by decide) (by decide))
  · exact num _ rfl (hn _ rfl rfl (by decide) (by decide))
  · exact num _ rfl (hn _ rfl rfl (by decide) (by decide))
  · exact num _ rfl (hn _ rfl rfl (by decide) (by decide))
  · exact num _ rfl (hn _ rfl rfl (by decide) (by decide))
  · -- equality
    have e : kFin 11 a.k b.k = if ¬ a.k = b.k ∨ a.k = 5 then (0, 502) else (2, 0) := by
      unfold kFin kFin1 kFinB kFin2
      rw [show askW 11 = (-2, -2, 2) from rfl]
      by_cases h1 : a.k = b.k <;> by_cases h2 : b.k = 5 <;> simp [h1, h2]
    have e2 : applyV 11 a b = if ¬ a.k = b.k ∨ a.k = 5 then wrongV else (truthV (sameV a b), 0) := rfl
    rw [e, e2]
    split
    · exact sndK_wrong
    · exact sndK_ok rfl (may_truth _)
  · have e : kFin 13 a.k b.k = if ¬ a.k = 2 ∨ ¬ b.k = 2 then (0, 502) else (2, 0) := by
      unfold kFin kFin1 kFinB kFin2
      rw [show askW 13 = (2, 2, 2) from rfl]
      by_cases h1 : a.k = 2 <;> by_cases h2 : b.k = 2 <;> simp [h1, h2]
    have e2 : applyV 13 a b = if ¬ a.k = 2 ∨ ¬ b.k = 2 then wrongV else (truthV (decide (a.n = 1) && decide (b.n = 1)), 0) := rfl
    rw [e, e2]
    split
    · exact sndK_wrong
    · exact sndK_ok rfl (may_truth _)
  · have e : kFin 14 a.k b.k = if ¬ a.k = 2 ∨ ¬ b.k = 2 then (0, 502) else (2, 0) := by
      unfold kFin kFin1 kFinB kFin2
      rw [show askW 14 = (2, 2, 2) from rfl]
      by_cases h1 : a.k = 2 <;> by_cases h2 : b.k = 2 <;> simp [h1, h2]
    have e2 : applyV 14 a b = if ¬ a.k = 2 ∨ ¬ b.k = 2 then wrongV else (truthV (decide (a.n = 1) || decide (b.n = 1)), 0) := rfl
    rw [e, e2]
    split
    · exact sndK_wrong
    · exact sndK_ok rfl (may_truth _)
  · have e : kFin 15 a.k b.k = if ¬ a.k = 2 then (0, 502) else (2, 0) := by
      unfold kFin kFin1 kFinB kFin2
      rw [show askW 15 = (2, -1, 2) from rfl]
      by_cases h1 : a.k = 2 <;> simp [h1]
    have e2 : applyV 15 a b = if ¬ a.k = 2 then wrongV else (truthV (decide (a.n = 0)), 0) := rfl
    rw [e, e2]
    split
    · exact sndK_wrong
    · exact sndK_ok rfl (may_truth _)
  · have e : kFin 16 a.k b.k = if a.k = 3 ∨ a.k = 4 then (1, 0) else (0, 502) := by
      unfold kFin kFin1 kFinB kFin2
      rw [show askW 16 = (-2, -1, 1) from rfl]
      by_cases h1 : a.k = 3 <;> by_cases h2 : a.k = 4 <;> simp [h1, h2]
    have e2 : applyV 16 a b = if a.k = 3 then (⟨1, a.s.length, [], []⟩, 0) else if a.k = 4 then (⟨1, a.l.length, [], []⟩, 0) else wrongV := rfl
    rw [e, e2]
    by_cases h1 : a.k = 3
    · rw [if_pos (.inl h1), if_pos h1]; exact sndK_ok rfl (may_int _)
    · by_cases h2 : a.k = 4
      · rw [if_pos (.inr h2), if_neg h1, if_pos h2]; exact sndK_ok rfl (may_int _)
      · rw [if_neg (by simp [h1, h2]), if_neg h1, if_neg h2]; exact sndK_wrong
  · have e : kFin 17 a.k b.k = if ¬ a.k = 4 ∨ ¬ b.k = 1 then (0, 502) else (1, 0) := by
      unfold kFin kFin1 kFinB kFin2
      rw [show askW 17 = (4, 1, 1) from rfl]
      by_cases h1 : a.k = 4 <;> by_cases h2 : b.k = 1 <;> simp [h1, h2]
    have e2 : applyV 17 a b = if ¬ a.k = 4 ∨ ¬ b.k = 1 then wrongV else atV a b := rfl
    rw [e, e2]
    split
    · exact sndK_wrong
    · unfold atV
      split
      · exact .inl ⟨rfl, .inr (.inr (.inl rfl))⟩
      · exact sndK_ok rfl (may_int _)
  · have e : kFin 18 a.k b.k = if ¬ a.k = 4 ∨ ¬ b.k = 1 then (0, 502) else (4, 0) := by
      unfold kFin kFin1 kFinB kFin2
      rw [show askW 18 = (4, 1, 4) from rfl]
      by_cases h1 : a.k = 4 <;> by_cases h2 : b.k = 1 <;> simp [h1, h2]
    have e2 : applyV 18 a b = if ¬ a.k = 4 ∨ ¬ b.k = 1 then wrongV else pushV a b := rfl
    rw [e, e2]
    split
    · exact sndK_wrong
    · unfold pushV
      split
      · exact .inl ⟨rfl, .inr (.inr (.inr rfl))⟩
      · refine sndK_ok rfl ?_
        simp [mayV]; omega
  · have e : kFin 19 a.k b.k = if ¬ a.k = 3 ∨ ¬ b.k = 3 then (0, 502) else (3, 0) := by
      unfold kFin kFin1 kFinB kFin2
      rw [show askW 19 = (3, 3, 3) from rfl]
      by_cases h1 : a.k = 3 <;> by_cases h2 : b.k = 3 <;> simp [h1, h2]
    have e2 : applyV 19 a b = if ¬ a.k = 3 ∨ ¬ b.k = 3 then wrongV else joinV a b := rfl
    rw [e, e2]
    split
    · exact sndK_wrong
    · unfold joinV
      split
      · exact .inl ⟨rfl, .inr (.inr (.inr rfl))⟩
      · refine sndK_ok rfl ?_
        simp [mayV]; omega

theorem kFin_snd {k : Int} {a b : Val} (hk : 6 ≤ k ∧ k ≤ 19) (ha : mayV a = true) (hb : mayV b = true) : Snd (kFin k a.k b.k) (applyV k a b) := (kFin_sndK hk ha hb).snd
theorem snd_ok {k : Int} {v : Val} (hk : v.k = k) (hm : mayV v = true) : Snd (k, 0) (v, 0) := .inl ⟨rfl, .inl ⟨rfl, hk, hm⟩⟩
theorem mayV_len {x : Val} (h : mayV x = true) : x.l.length ≤ 100000 := by
  unfold mayV at h
  (repeat' split at h) <;> simp_all <;> omega
theorem may_v0 : mayV v0 = true := by decide

theorem sound_W {l : List Term} {env : List Bind} (hall : ∀ b ∈ env, mayV b.v = true) : ∀ (f : Nat) (at_ : Int), Tr l f at_ → Snd (kOf l (env.map typingOf) f at_) (evalW l env f at_)
  | 0, _, h => h.elim
  | f + 1, at_, h => by
    obtain ⟨_, t, hx, hop, hf, hl, hl', hr, hr'⟩ := h
    by_cases h0 : operandsI t.kind = 0
    · rw [evalW_leaf hx h0]
      have hk : t.kind = 0 ∨ t.kind = 1 ∨ t.kind = 2 ∨ t.kind = 3 ∨ t.kind = 4 ∨ t.kind = 5 := by
        rcases kind_cases hop with h | h | h | h | h | h | h | h | h | h | h | h | h | h | h | h | h | h | h | h <;> first | omega | (exfalso; rw [h] at h0; exact absurd h0 (by decide))
      have lf : ∀ {k q : Int} {v : Val}, t.kind = k → ¬ k = 0 → askW k = (-1, -1, q) → (¬ k = 11 ∧ ¬ k = 16) → leafV t env = (v, 0) → v.k = q → mayV v = true → Snd (kOf l (env.map typingOf) (f + 1) at_) (leafV t env) := by
        intro k q v e1 e2 e3 e4 e5 e6 e7
        have ho : ∀ r : Int × Int, kOp (-1) r = (0, 0) := fun r => by unfold kOp; rw [if_pos rfl]
        rw [kOf_f hx (by rw [e1]; exact e2) (by rw [e1, e3, ho]) (by rw [e1, e3, ho]), e5, e1, e3, ho, ho]
        unfold kFin kFin1 kFinB kFin2
        rw [e3]
        simp [e4.1, e4.2]
        exact snd_ok e6 e7
      rcases hk with hk | hk | hk | hk | hk | hk
      · rw [kOf_var hx hk, leafV_var (by omega) (by omega) (by omega) (by omega) (by omega)]
        exact held_snd _ hall
      · exact lf hk (by decide) rfl (by decide) (show leafV t env = (⟨1, t.n, [], []⟩, 0) by unfold leafV; rw [if_pos hk]) rfl (may_int _)
      · refine lf hk (by decide) rfl (by decide) (show leafV t env = (⟨2, t.n, [], []⟩, 0) by unfold leafV; rw [if_neg (by omega), if_pos hk]) rfl ?_
        unfold fieldsB at hf
        simp [hk] at hf
        unfold mayV
        simp
        exact hf.2.2
      · refine lf hk (by decide) rfl (by decide) (show leafV t env = (⟨3, 0, t.text, []⟩, 0) by unfold leafV; rw [if_neg (by omega), if_neg (by omega), if_pos hk]) rfl ?_
        unfold fieldsB at hf
        simp [hk] at hf
        unfold mayV
        simp
        omega
      · exact lf hk (by decide) rfl (by decide) (show leafV t env = (⟨4, 0, [], []⟩, 0) by unfold leafV; rw [if_neg (by omega), if_neg (by omega), if_neg (by omega), if_pos hk]) rfl (by decide)
      · exact lf hk (by decide) rfl (by decide) (show leafV t env = (v0, 0) by unfold leafV; rw [if_neg (by omega), if_neg (by omega), if_neg (by omega), if_neg (by omega), if_pos hk]) rfl may_v0
    · have hk6 : 6 ≤ t.kind ∧ t.kind ≤ 19 := by
        rcases kind_cases hop with h | h | h | h | h | h | h | h | h | h | h | h | h | h | h | h | h | h | h | h <;> first | omega | (exfalso; rw [h] at h0; exact h0 (by decide))
      have w1 : ¬ (askW t.kind).1 = -1 := by
        rcases kind_cases hop with h | h | h | h | h | h | h | h | h | h | h | h | h | h | h | h | h | h | h | h <;> first | omega | (rw [h]; decide)
      have ha := sound_W hall f t.l (hl (by omega))
      have eA : kOp (askW t.kind).1 (kOf l (env.map typingOf) f t.l) = kOf l (env.map typingOf) f t.l := by unfold kOp; rw [if_neg w1]
      have k0 : ¬ t.kind = 0 := by omega
      rcases ha with ⟨a1, a2⟩ | ⟨a1, a2⟩
      case inr =>
        rw [kOf_a hx k0 (by rw [eA]; omega), evalW_a hx h0 a2, eA]
        exact .inr ⟨a1, a2⟩
      by_cases h2 : operandsI t.kind = 2
      · have w2 : ¬ (askW t.kind).2.1 = -1 := by
          rcases kind_cases hop with h | h | h | h | h | h | h | h | h | h | h | h | h | h | h | h | h | h | h | h <;> first | omega | (rw [h]; decide) | (exfalso; rw [h] at h2; exact absurd h2 (by decide))
        have eB : kOp (askW t.kind).2.1 (kOf l (env.map typingOf) f t.r) = kOf l (env.map typingOf) f t.r := by unfold kOp; rw [if_neg w2]
        have hb := sound_W hall f t.r (hr (by omega))
        rcases hb with ⟨b1, b2⟩ | ⟨b1, b2⟩
        case inr =>
          rw [kOf_b hx k0 (by rw [eA]; exact a1) (by rw [eB]; omega), eB]
          refine .inr ⟨b1, ?_⟩
          by_cases h3 : (evalW l env f t.l).2 = 0
          · rw [evalW_b hx h0 h3 h2 b2]; exact b2
          · rw [evalW_a hx h0 h3]; exact h3
        rw [kOf_f hx k0 (by rw [eA]; exact a1) (by rw [eB]; exact b1), eA, eB]
        have key : ∀ q : Int, (q = 403 ∨ q = 404 ∨ q = 405) → Snd (kFin t.kind (kOf l (env.map typingOf) f t.l).1 (kOf l (env.map typingOf) f t.r).1) (v0, q) := by
          intro q hq
          unfold kFin kFinB
          (repeat' split) <;> first | exact .inr ⟨.inr rfl, by simp; omega⟩ | exact .inl ⟨rfl, .inr hq⟩
        rcases a2 with ⟨a2, a3, a4⟩ | a2
        case inr => rw [evalW_a hx h0 (by omega)]; exact key _ a2
        rcases b2 with ⟨b2, b3, b4⟩ | b2
        case inr => rw [evalW_b hx h0 a2 h2 (by omega)]; exact key _ b2
        rw [evalW_2 hx h0 a2 h2 b2, ← a3, ← b3]
        exact kFin_snd hk6 a4 b4
      · have w2 : (askW t.kind).2.1 = -1 := by
          rcases kind_cases hop with h | h | h | h | h | h | h | h | h | h | h | h | h | h | h | h | h | h | h | h <;> first | omega | (rw [h]; decide) | (exfalso; rw [h] at h2; exact h2 (by decide))
        have eB : kOp (askW t.kind).2.1 (kOf l (env.map typingOf) f t.r) = (0, 0) := by unfold kOp; rw [if_pos w2]
        rw [kOf_f hx k0 (by rw [eA]; exact a1) (by rw [eB]), eA, eB]
        rcases a2 with ⟨a2, a3, a4⟩ | a2
        · rw [evalW_1 hx h0 a2 h2, ← a3]
          exact kFin_snd (b := v0) hk6 a4 may_v0
        · rw [evalW_a hx h0 (by omega)]
          unfold kFin kFinB
          (repeat' split) <;> first | exact .inr ⟨.inr rfl, by simp; omega⟩ | exact .inl ⟨rfl, .inr a2⟩

theorem soundB {l : List Term} {root : Int} {env : List Bind} (hall : ∀ b ∈ env, mayV b.v = true) (htr : mayB l root = true → Tr l (root.toNat + 1) root) :
    (ofS l root (env.map typingOf)).2 = 500 ∧ (evalS l root env).2 = 400 ∨ Snd (ofS l root (env.map typingOf)) (evalS l root env) := by
  unfold ofS evalS
  split
  · rename_i h; exact .inr (sound_W hall _ _ (htr h))
  · exact .inl ⟨rfl, rfl⟩
end Go.Sx
