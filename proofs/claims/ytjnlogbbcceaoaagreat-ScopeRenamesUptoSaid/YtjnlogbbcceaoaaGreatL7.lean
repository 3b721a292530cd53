import Derived.Test.YtjnlogbbcceaoaaGreatL6
set_option linter.all false
set_option maxRecDepth 100000
set_option maxHeartbeats 32000000
namespace Go.Sx
open Go
theorem nO : ∀ {l : List (List Int)} {x : List Int} {k : Nat}, ij l x = some k → k < l.length
  | [], x, k, h => by simp [ij] at h
  | y :: r, x, k, h => by
    unfold ij at h
    split at h
    · simp at h; subst h; simp
    · rw [Option.map_eq_some_iff] at h
      obtain ⟨j, hj, rfl⟩ := h
      have := nO hj
      simp; omega
theorem xa {p : SProto} {role : Str} {sets : List (List Int)} {frm : List Int} (h40 : sets.length ≤ 40) (h : (bY p role sets frm).2.1 = 0) :
    0 ≤ (bY p role sets frm).1 ∧ (bY p role sets frm).1 < (bY p role sets frm).2.2.length ∧ (bY p role sets frm).2.2.length ≤ 40 := by
  unfold bY at h ⊢
  split at h
  · simp at h
  · rename_i hc
    rw [if_neg hc]
    split at h
    · rename_i i hi
      have := nO hi
      dsimp only
      omega
    · rename_i hi
      split at h
      · simp at h
      · rename_i hn
        rw [if_neg hn]
        simp only [List.length_append, List.length_cons, List.length_nil]
        omega
def ArmIn (n B : Nat) (a : SArm) : Prop := (0 ≤ a.next ∧ a.next < (n : Int)) ∧ a.label.length ≤ B
theorem ArmIn.up {n m B : Nat} {a : SArm} (h : ArmIn n B a) (hm : n ≤ m) : ArmIn m B a := ⟨⟨h.1.1, by have := h.1.2; omega⟩, h.2⟩
theorem sU {p : SProto} {role : Str} {set : List Int} {B : Nat} : ∀ (l : List Str) (sets : List (List Int)) (acc : List SArm), sets.length ≤ 40 → (∀ a ∈ acc, ArmIn sets.length B a) → (∀ lb ∈ l, lb.length ≤ B) → (dn p role set l sets acc).2.1 = 0 →
    (dn p role set l sets acc).1.length = acc.length + l.length ∧ (dn p role set l sets acc).2.2.length ≤ 40 ∧ ∀ a ∈ (dn p role set l sets acc).1, ArmIn (dn p role set l sets acc).2.2.length B a
  | [], sets, acc, h40, ha, _, _ => ⟨rfl, h40, ha⟩
  | lb :: r, sets, acc, h40, ha, hl, h0 => by
    unfold dn at h0 ⊢
    have hat := @xa p role sets (el p set lb).2.2.1 h40
    have hge := @qM p role sets (el p set lb).2.2.1
    generalize bY p role sets (el p set lb).2.2.1 = q at h0 hat hge ⊢
    obtain ⟨ix, e, s'⟩ := q
    dsimp only at h0 hat hge ⊢
    by_cases hb : e ≠ 0
    · rw [if_pos hb] at h0
      exact absurd h0 hb
    · rw [if_neg hb] at h0 ⊢
      obtain ⟨h1, h2, h3⟩ := hat (Decidable.of_not_not hb)
      have hacc : ∀ a ∈ acc ++ [(⟨lb, (el p set lb).1, (el p set lb).2.1, ix⟩ : SArm)], ArmIn s'.length B a := fJ (fun a hm => (ha a hm).up hge) ⟨⟨h1, h2⟩, hl lb (by simp)⟩
      obtain ⟨h4, h5, h6⟩ := sU r s' _ h3 hacc (fun x hx => hl x (by simp [hx])) h0
      refine ⟨?_, h5, h6⟩
      rw [h4]; simp only [List.length_append, List.length_cons, List.length_nil]; omega
theorem wN : ∀ {l : List Str} {s x : Str}, x ∈ cZ l s → x = s ∨ x ∈ l
  | [], s, x, h => by simp [cZ] at h; exact .inl h
  | y :: r, s, x, h => by
    unfold cZ at h
    split at h
    · rcases List.mem_cons.1 h with rfl | h
      · exact .inr (by simp)
      · rcases wN h with h | h
        · exact .inl h
        · exact .inr (by simp [h])
    · split at h
      · exact .inr h
      · rcases List.mem_cons.1 h with rfl | h
        · exact .inl rfl
        · exact .inr h
theorem n7 : ∀ {o i : List Str} {x : Str}, x ∈ o.foldl cZ i → x ∈ o ∨ x ∈ i
  | [], i, x, h => .inr h
  | y :: r, i, x, h => by
    rcases n7 (o := r) (i := cZ i y) h with h | h
    · exact .inl (by simp [h])
    · rcases wN h with h | h
      · exact .inl (by simp [h])
      · exact .inr h
theorem xe : ∀ {l : List SArm} {o : List Str} {x : Str}, x ∈ jM o l → x ∈ o ∨ ∃ a ∈ l, x = a.label
  | [], o, x, h => .inl h
  | a :: r, o, x, h => by
    have h : x ∈ jM (o.foldl cZ [a.label]) r := h
    rcases xe h with h | ⟨b, hb, e⟩
    · rcases n7 h with h | h
      · exact .inl h
      · exact .inr ⟨a, by simp, by simpa using h⟩
    · exact .inr ⟨b, by simp [hb], e⟩
theorem xc {p : SProto} : ∀ {l : List Int} {o : List Str} {x : Str}, x ∈ mj p o l → x ∈ o ∨ ∃ q ∈ p.points, ∃ a ∈ q.arms, x = a.label
  | [], o, x, h => .inl h
  | j :: r, o, x, h => by
    have h : x ∈ mj p (match p.points[j.toNat]? with | some x => jM o x.arms | none => o) r := h
    rcases xc h with h | h
    · split at h
      · rename_i q hq
        rcases xe h with h | ⟨a, ha, e⟩
        · exact .inl h
        · exact .inr ⟨q, List.mem_of_getElem? hq, a, ha, e⟩
      · exact .inl h
    · exact .inr h
theorem putS_ne (l : List Str) (s : Str) : cZ l s ≠ [] := by
  cases l with
  | nil => simp [cZ]
  | cons x r =>
    unfold cZ
    split
    · simp
    · split <;> simp
theorem qW : ∀ {o i : List Str}, i ≠ [] → o.foldl cZ i ≠ []
  | [], _, h => h
  | y :: r, i, _ => qW (o := r) (i := cZ i y) (putS_ne _ _)
theorem uK : ∀ {l : List SArm} {o : List Str}, o ≠ [] ∨ l ≠ [] → jM o l ≠ []
  | [], o, h => by
    rcases h with h | h
    · exact h
    · exact absurd rfl h
  | a :: r, o, _ => uK (l := r) (o := o.foldl cZ [a.label]) (.inl (qW (by simp)))
theorem zF {p : SProto} : ∀ {l : List Int} {o : List Str}, (o ≠ [] ∨ ∃ j ∈ l, ∃ q, p.points[j.toNat]? = some q ∧ q.arms ≠ []) → mj p o l ≠ []
  | [], o, h => by
    rcases h with h | ⟨j, hj, _⟩
    · exact h
    · simp at hj
  | j :: r, o, h => by
    refine zF (l := r) (o := match p.points[j.toNat]? with | some x => jM o x.arms | none => o) ?_
    rcases h with h | ⟨k, hk, q, hq, ha⟩
    · refine .inl ?_
      split
      · exact uK (.inl h)
      · exact h
    · rcases List.mem_cons.1 hk with rfl | hk
      · refine .inl ?_
        rw [hq]
        exact uK (.inr ha)
      · exact .inr ⟨k, hk, q, hq, ha⟩
theorem nP {p : SProto} {role : Str} {B : Nat} (hB : ∀ x ∈ p.points, x.frm.length ≤ B ∧ x.to.length ≤ B) : ∀ (l : List Int) (i : Nat) (kind : Int) (peer : Str), peer.length ≤ B → (fB p role i kind peer l).2.1.length ≤ B
  | [], _, _, _, h => h
  | j :: r, i, kind, peer, h => by
    unfold fB
    split
    · exact h
    · rename_i x hx
      have hb := hB x (List.mem_of_getElem? hx)
      have hp : (if x.to = role then x.frm else x.to).length ≤ B := by
        split
        · exact hb.1
        · exact hb.2
      generalize (if x.to = role then x.frm else x.to) = pe at hp ⊢
      generalize (if x.to = role then (2 : Int) else 1) = ke
      by_cases hc : 0 < i ∧ ¬ (ke = kind ∧ pe = peer)
      · rw [if_pos hc]; simp
      · rw [if_neg hc]; exact nP hB r _ _ _ hp
theorem uE {s : Str} (h : aG s = true) : s.length ≤ 12 ∧ s ≠ [] := by
  unfold aG at h
  split at h
  · cases h
  · split at h
    · cases h
    · rename_i h1 h2
      refine ⟨by omega, fun e => ?_⟩
      subst e; simp at h1
theorem RPOk.lens {p : SProto} (h : RPOk p) {x : SPoint} (hx : x ∈ p.points) : (x.frm.length ≤ 1000 ∧ x.to.length ≤ 1000) ∧ (∀ a ∈ x.arms, a.label.length ≤ 1000) ∧ (x.frm ≠ [] ∨ x.to ≠ [] → x.arms ≠ []) := by
  have hp := h.pt x hx
  unfold db eR eQ cq d6 at hp
  simp only [Bool.or_eq_true, Bool.and_eq_true, decide_eq_true_eq] at hp
  rcases hp with ⟨h1, h2, h3⟩ | ⟨⟨h1, h2, _⟩, ⟨h3, _⟩, h5, _⟩
  · refine ⟨by rw [h1, h2]; simp, fun a ha => ?_, fun hh => ?_⟩
    · rw [List.length_eq_zero_iff.1 (show x.arms.length = 0 by omega)] at ha; simp at ha
    · rcases hh with hh | hh
      · exact absurd h1 hh
      · exact absurd h2 hh
  · have e1 := (uE (h.rn _ h1)).1
    have e2 := (uE (h.rn _ h2)).1
    refine ⟨by omega, fun a ha => ?_, fun _ e => ?_⟩
    · have := List.all_eq_true.1 h5 a ha
      unfold fi at this
      simp only [Bool.and_eq_true] at this
      have := (uE this.1).1
      omega
    · rw [e] at h3; simp at h3
def TTok (n : Nat) (t : TT) : Prop := t.2.1.length ≤ 1000 ∧ t.2.2.length ≤ 6 ∧ (t.1 ≠ 0 → t.1 ≠ 2 → 1 ≤ t.2.2.length) ∧ ∀ a ∈ t.2.2, ArmIn n 1000 a
theorem TTok.up {n m : Nat} {t : TT} (h : TTok n t) (hm : n ≤ m) : TTok m t := ⟨h.1, h.2.1, h.2.2.1, fun a ha => (h.2.2.2 a ha).up hm⟩
theorem tt0 {n : Nat} : TTok n (0, [], []) := ⟨by simp, by simp, by simp, by simp⟩
theorem Aa {p : SProto} {role : Str} (hP : RPOk p) (hr : role ≠ []) {sets : List (List Int)} {set : List Int} (h40 : sets.length ≤ 40) (hin : ∀ j ∈ set, inP p role j = true) (h0 : (bM p role sets set).2.1 = 0) :
    (bM p role sets set).2.2.length ≤ 40 ∧ TTok (bM p role sets set).2.2.length (bM p role sets set).1 := by
  unfold bM at h0 ⊢
  by_cases c1 : set.length = 0
  · rw [if_pos c1]; exact ⟨h40, tt0⟩
  rw [if_neg c1] at h0 ⊢
  by_cases c2 : (dA p role set).2.2 ≠ 0
  · rw [if_pos c2]; exact ⟨h40, tt0⟩
  rw [if_neg c2] at h0 ⊢
  by_cases c3 : (dA p role set).1 = 1 ∧ ni p set = false
  · rw [if_pos c3]; exact ⟨h40, tt0⟩
  rw [if_neg c3] at h0 ⊢
  by_cases c4 : 6 < (eG p set).length
  · rw [if_pos c4]; exact ⟨h40, tt0⟩
  rw [if_neg c4] at h0 ⊢
  by_cases c5 : (eG p set).all (nf p set) = false
  · rw [if_pos c5]; exact ⟨h40, tt0⟩
  rw [if_neg c5] at h0 ⊢
  by_cases c6 : (dn p role set (eG p set) sets []).2.1 ≠ 0
  · rw [if_pos c6] at h0; exact absurd h0 c6
  rw [if_neg c6]
  obtain ⟨h1, h2, h3⟩ := sU (B := 1000) (eG p set) sets [] h40 (by simp) (fun lb hlb => by
    rcases xc hlb with h | ⟨q, hq, a, ha, rfl⟩
    · simp at h
    · exact (hP.lens hq).2.1 a ha) (Decidable.of_not_not c6)
  refine ⟨h2, ?_, ?_, fun _ _ => ?_, h3⟩
  · exact nP (fun x hx => (hP.lens hx).1) set 0 0 [] (by simp)
  · dsimp only; rw [h1]; simp only [List.length_nil]; omega
  · dsimp only; rw [h1]
    have : eG p set ≠ [] := by
      refine zF (.inr ?_)
      obtain ⟨j, r, e⟩ : ∃ j r, set = j :: r := by
        cases set with
        | nil => exact absurd rfl c1
        | cons j r => exact ⟨j, r, rfl⟩
      have hj := hin j (by rw [e]; simp)
      unfold inP at hj
      split at hj
      · rename_i x hx
        refine ⟨j, by rw [e]; simp, x, hx, (hP.lens (List.mem_of_getElem? hx)).2.2 ?_⟩
        unfold fa at hj
        simp only [Bool.or_eq_true, decide_eq_true_eq] at hj
        rcases hj with h | h
        · exact .inl (by rw [h]; exact hr)
        · exact .inr (by rw [h]; exact hr)
      · cases hj
    have := List.length_pos_iff.2 this
    simp only [List.length_nil]; omega
def InP (p : SProto) (role : Str) (sets : List (List Int)) : Prop := ∀ s ∈ sets, ∀ j ∈ s, inP p role j = true
theorem qL {p : SProto} {role : Str} {sets : List (List Int)} {frm : List Int} (h : InP p role sets) : InP p role (bY p role sets frm).2.2 := by
  unfold bY
  split
  · exact h
  · split
    · exact h
    · split
      · exact h
      · exact fJ h (fun j hj => (List.mem_filter.1 hj).2)
theorem pY {p : SProto} {role : Str} {set : List Int} : ∀ (l : List Str) (sets : List (List Int)) (acc : List SArm), InP p role sets → InP p role (dn p role set l sets acc).2.2
  | [], _, _, h => h
  | lb :: r, sets, acc, h => by
    unfold dn
    split
    · exact qL h
    · exact pY r _ _ (qL h)
theorem Cc {p : SProto} {role : Str} {set : List Int} {sets : List (List Int)} (h : InP p role sets) : InP p role (bM p role sets set).2.2 := by
  unfold bM
  split; · exact h
  split; · exact h
  split; · exact h
  split; · exact h
  split; · exact h
  split; · exact pY _ _ _ h
  exact pY _ _ _ h
theorem wH {p : SProto} {role : Str} (hP : RPOk p) (hr : role ≠ []) : ∀ (f i : Nat) (sets : List (List Int)) (acc : List TT), sets.length ≤ 40 → i ≤ sets.length → 41 ≤ i + f → acc.length = i → (∀ t ∈ acc, TTok sets.length t) → InP p role sets → (kn p role f i sets acc).1 = 0 →
    sets.length ≤ (kn p role f i sets acc).2.length ∧ ∀ t ∈ (kn p role f i sets acc).2, TTok (kn p role f i sets acc).2.length t
  | 0, i, sets, acc, h40, hi, hf, _, _, _, _ => by omega
  | f + 1, i, sets, acc, h40, hi, hf, hac, hT, hI, h0 => by
    cases hs : sets[i]? with
    | none =>
      have hle := List.getElem?_eq_none_iff.1 hs
      rw [wF hle]
      have : acc.length = sets.length := by omega
      dsimp only
      rw [this]
      exact ⟨Nat.le_refl _, hT⟩
    | some s =>
      have hlt := (List.getElem?_eq_some_iff.1 hs).1
      by_cases hb : (bM p role sets s).2.1 ≠ 0
      · rw [wG hs hb] at h0; exact absurd h0 hb
      · rw [s8 hs hb] at h0 ⊢
        obtain ⟨h1, h2⟩ := Aa hP hr h40 (hI s (List.mem_of_getElem? hs)) (Decidable.of_not_not hb)
        have hge := @wm p role s sets
        have hin := @Cc p role s sets hI
        generalize (bM p role sets s).2.2 = s' at *
        generalize (bM p role sets s).1 = t' at *
        obtain ⟨h3, h4⟩ := wH hP hr f (i + 1) s' (acc ++ [t']) h1 (by omega) (by omega) (by simp [hac]) (fJ (fun t ht => (hT t ht).up hge) h2) hin h0
        exact ⟨by omega, h4⟩
theorem Ao {p : SProto} {role : Str} (h0 : (dM p role).1 = 0) : 0 < (dM p role).2.length ∧ ∀ t ∈ (dM p role).2, TTok (dM p role).2.length t := by
  unfold dM at h0 ⊢
  by_cases c1 : (dF p && cq p.roles role) = false
  · rw [if_pos c1] at h0; cases h0
  rw [if_neg c1] at h0 ⊢
  by_cases c2 : (bY p role [] [0]).2.1 ≠ 0
  · rw [if_pos c2] at h0; exact absurd h0 c2
  rw [if_neg c2] at h0 ⊢
  have c1 : dF p = true ∧ cq p.roles role = true := by simpa using c1
  have hP := RPOk.of c1.1
  have hr := (uE (hP.rn role (of_decide_eq_true c1.2))).2
  obtain ⟨h1, h2, h3⟩ := @xa p role [] [0] (by simp) (Decidable.of_not_not c2)
  obtain ⟨h4, h5⟩ := wH hP hr 41 0 _ [] h3 (by omega) (by omega) rfl (by simp) (qL (by intro s hs; simp at hs)) h0
  exact ⟨by omega, h5⟩
theorem tj {p : SProto} : ∀ (l : List Str) (i : Nat), (jE p i l).1 = 0 → ∀ r ∈ l, (dM p r).1 = 0
  | [], _, _, r, hr => by simp at hr
  | x :: l, i, h, r, hr => by
    unfold jE at h
    split at h
    · rename_i hb; exact absurd h hb
    · rename_i hb
      rcases List.mem_cons.1 hr with rfl | hr
      · exact Decidable.of_not_not hb
      · exact tj l _ h r hr
theorem DQ {p : SProto} (h : (ko p).1 = 0) : ∀ r ∈ p.roles, (dM p r).1 = 0 := by
  unfold ko at h
  split at h
  · cases h
  · exact tj _ _ h
theorem LsOk.tg {H : Hp} {p : SProto} {ls : List SLocal} (h : LsOk H p p.roles.length ls) (hz : (ko p).1 = 0) {k : Int} (h0 : 0 ≤ k) {T : SLocal} (hk : ls[k.toNat]? = some T) : ∀ F : Fx, F.tys = ls → F.role = k → TG F T := by
  intro F hF hR
  obtain ⟨r, hr, hnm, hok, htt⟩ := h.at_ _ _ hk
  obtain ⟨h1, h2⟩ := Ao (DQ hz r (List.mem_of_getElem? hr))
  rw [← htt, List.length_map] at h1
  rw [← htt, List.length_map] at h2
  refine ⟨by rw [hR]; exact h0, by rw [hR, hF]; have := (List.getElem?_eq_some_iff.1 hk).1; omega, by rw [hR, hF]; exact hk, h1, fun t ht => ?_⟩
  obtain ⟨a1, a2, a3, a4⟩ := h2 (tt t) (List.mem_map.2 ⟨t, ht, rfl⟩)
  exact ⟨a1, a2, a3, fun a ha => (a4 a ha).2, fun a ha => (a4 a ha).1⟩
def Sig.un (S S' : Sig) : Sig := ⟨fun b => match S.f b with | .some x => .some x | .none => S'.f b, max S.N S'.N⟩
theorem Sig.le_un {S S' : Sig} : S.le (S.un S') := ⟨fun b x h => by show (match S.f b with | .some x => .some x | .none => S'.f b) = some x; rw [h], Nat.le_max_left _ _⟩
theorem Bag.un_le {H : Hp} {S S' : Sig} {B B' : aq} (h : Bag H S B) (h' : Bag H S' B') (hd : ((B ++ B').map (·.1)).Nodup) : S'.le (S.un S') := by
  refine ⟨fun b x hx => ?_, Nat.le_max_right _ _⟩
  show (match S.f b with | .some x => .some x | .none => S'.f b) = some x
  cases e : S.f b with
  | none => exact hx
  | some y =>
    obtain ⟨c1, m1⟩ := h.mem b y.1 y.2 e
    obtain ⟨c2, m2⟩ := h'.mem b x.1 x.2 hx
    rw [List.map_append, List.nodup_append] at hd
    exact absurd rfl (hd.2.2 b (List.mem_map.2 ⟨_, m1, rfl⟩) b (List.mem_map.2 ⟨_, m2, rfl⟩))
theorem Bag.un {H : Hp} {S S' : Sig} {B B' : aq} (h : Bag H S B) (h' : Bag H S' B') (hd : ((B ++ B').map (·.1)).Nodup) : Bag H (S.un S') (B ++ B') := by
  have hle := h.un_le h' hd
  refine ⟨fun q hq => ?_, fun b t m hs => ?_⟩
  · rcases List.mem_append.1 hq with hq | hq
    · obtain ⟨t, m, h1, h2, h3⟩ := h.ty q hq
      refine ⟨t, m, Sig.le_un.1 _ _ h1, h2, fun o u hu => ?_⟩
      obtain ⟨ct, h4, h5⟩ := h3 o u hu
      exact ⟨ct, h4, h5.le (.refl H) Sig.le_un⟩
    · obtain ⟨t, m, h1, h2, h3⟩ := h'.ty q hq
      refine ⟨t, m, hle.1 _ _ h1, h2, fun o u hu => ?_⟩
      obtain ⟨ct, h4, h5⟩ := h3 o u hu
      exact ⟨ct, h4, h5.le (.refl H) hle⟩
  · have hs : (match S.f b with | .some x => .some x | .none => S'.f b) = some (t, m) := hs
    cases e : S.f b with
    | none =>
      rw [e] at hs
      obtain ⟨cs, hc⟩ := h'.mem b t m hs
      exact ⟨cs, List.mem_append_right _ hc⟩
    | some y =>
      rw [e] at hs
      cases hs
      obtain ⟨cs, hc⟩ := h.mem b t m e
      exact ⟨cs, List.mem_append_left _ hc⟩
structure PSt where
  k : Int
  h : Hp
  a : Int
  S : Sig
  v : Value
  qs : List GProc
  ob : aq
  B : aq
structure PInv (H : Hp) (dl : Value) (m : Int) (q : PSt) : Prop where
  le : H.le q.h
  d : DiceOk q.h dl q.a
  o : OwnSl 4 GProc.cells q.v q.qs q.ob
  b : Bag q.h q.S q.B
  g : ∀ x ∈ q.qs, GPOk q.h q.S x
  N : q.S.N ≤ 10000000
  n : (q.qs.length : Int) ≤ m
theorem PInv.add {H h' : Hp} {dl : Value} {m m' k a' : Int} {q : PSt} {S' : Sig} {v' : Value} {x : GProc} {ob' B' : aq} (h : PInv H dl m q) (hl : q.h.le h') (hd : DiceOk h' dl a') (hO : OwnSl 4 GProc.cells v' (q.qs ++ [x]) ob') (hB : Bag h' S' B') (hx : GPOk h' S' x) (hnd : ((q.B ++ B').map (·.1)).Nodup) (hN : S'.N ≤ 10000000) (hm : m + 1 ≤ m') :
    PInv H dl m' ⟨k, h', a', q.S.un S', v', q.qs ++ [x], ob', q.B ++ B'⟩ :=
  ⟨h.le.trans hl, hd, hO, (h.b.leH hl).un hB hnd, fJ (fun y hy => (h.g y hy).le hl Sig.le_un) (hx.le (.refl _) ((h.b.leH hl).un_le hB hnd)), Nat.max_le.2 ⟨h.N, hN⟩, by
    have := h.n
    simp only [List.length_append, List.length_cons, List.length_nil]; omega⟩
structure LsG (H : Hp) (p : SProto) (lv : Value) (ls : List SLocal) : Prop where
  r : RdSl H 2 SLocal.cells lv ls
  n : ls.length ≤ p.roles.length
  l : ∀ l ∈ ls, LocalOk H l ∧ l.name.length ≤ 1000
  g : ∀ (k : Int) (T : SLocal), 0 ≤ k → ls[k.toNat]? = some T → ∀ F : Fx, F.tys = ls → F.role = k → TG F T
theorem LsG.of {H : Hp} {p : SProto} {lv : Value} (hG : GPr p) (h1 : (ko p).1 = 0 → ∃ ls, RdSl H 2 SLocal.cells lv ls ∧ LsOk H p p.roles.length ls) (h2 : (ko p).1 ≠ 0 → lv = .slice none 0 0) : ∃ ls, LsG H p lv ls := by
  by_cases h : (ko p).1 = 0
  · obtain ⟨ls, hr, hk⟩ := h1 h
    refine ⟨ls, hr, by have := hk.len; omega, fun l hl => ?_, fun k T k0 hT => hk.tg h k0 hT⟩
    obtain ⟨i, hi⟩ := List.getElem?_of_mem hl
    obtain ⟨r, hr, hn, hok, _⟩ := hk.at_ i l hi
    refine ⟨hok, ?_⟩
    have e1 := hG.rs r (List.mem_of_getElem? hr)
    have e2 := hG.n1
    rw [hn]; simp only [List.length_append, List.length_cons, List.length_nil]; omega
  · rw [h2 h]
    exact ⟨[], .nil, by simp, by simp, fun k T _ hT => by simp at hT⟩
theorem LsG.le {H H' : Hp} {p : SProto} {lv : Value} {ls : List SLocal} (h : LsG H p lv ls) (hl : H.le H') : LsG H' p lv ls := ⟨h.r.le hl, h.n, fun l hm => ⟨(h.l l hm).1.le hl, (h.l l hm).2⟩, h.g⟩
theorem xD {P : Program} {n : Nat} {ops : Array Oper} {Q : Exit → Act → World → Prop} {E : Env} {M : List Nat} {w0 : World} {H0 H : Hp} {L : aq} {l : List Oper} (h : (L.map (·.1)).Nodup → TL P n ops Q l E (St M w0 H0 H L)) : TL P n ops Q l E (St M w0 H0 H L) :=
  fun a w he hw => h hw.nd a w he hw
theorem Dm {x y z : Nat × List Value} {A B : aq} (h : ((x :: y :: z :: (A ++ B)).map (·.1)).Nodup) : (B.map (·.1)).Nodup :=
  h.sublist ((((((List.sublist_append_right A B).cons z).cons y).cons x)).map _)
end Go.Sx
namespace Go.Sx
open Go
structure GenC (N : Nat) (c : SCast) : Prop where
  r : AnyNm c.role
  p : PNm c.proc
  a : c.args.length ≤ N
structure GenW (w : SWay) : Prop where
  l : AnyNm w.label
  n : VarNm w.name
structure GenS (N : Nat) (s : SStep) : Prop where
  name : VarNm s.name
  peer : AnyNm s.peer
  label : AnyNm s.label
  proc : PNm s.proc
  an : s.args.length ≤ N
  cn : s.casts.length ≤ N
  wn : s.ways.length ≤ N
  c : ∀ c ∈ s.casts, GenC N c
  w : ∀ w ∈ s.ways, GenW w
structure GenQ (N : Nat) (q : SProc) : Prop where
  nm : PNm q.name
  pv : ∀ x ∈ q.params, VarNm x.name ∧ x.cn.length ≤ 1000
  pl : q.params.length ≤ 2
  s0 : 0 < q.steps.length
  tl : q.terms.length ≤ 10000000
  sl : q.steps.length ≤ 10000000
  t : ∀ t ∈ q.terms, VarNm t.name ∧ AnyNm t.text
  s : ∀ s ∈ q.steps, GenS N s
theorem AllT.one {H : Hp} {S : Sig} {c : CT} {cs : List CT} {vs : List Value} (h : AllT H S (c :: cs) vs) : ∃ v r, vs = v :: r ∧ CTy H S c v ∧ AllT H S cs r := by
  cases vs with
  | nil => exact h.elim
  | cons v r => exact ⟨v, r, rfl, h.1, h.2⟩
theorem AllT.none {H : Hp} {S : Sig} {vs : List Value} (h : AllT H S [] vs) : vs = [] := by
  cases vs with
  | nil => rfl
  | cons v r => exact h.elim
theorem xk {H : Hp} {S : Sig} {cs : List Value} (h : AllT H S (eS 4) cs) : ∃ x : Int, cs = I64.cells x ∧ True := by
  obtain ⟨v, r, rfl, h1, h2⟩ := h.one
  rw [h2.none]
  obtain ⟨i, rfl⟩ := h1
  exact ⟨i, rfl, trivial⟩
theorem AS {H : Hp} {S : Sig} {cs : List Value} (h : AllT H S (eS 0) cs) : ∃ t : Term, cs = t.cells ∧ VarNm t.name ∧ AnyNm t.text := by
  obtain ⟨v1, _, rfl, ⟨k, rfl⟩, g1⟩ := h.one
  obtain ⟨v2, _, rfl, ⟨n, rfl, hn⟩, g2⟩ := g1.one
  obtain ⟨v3, _, rfl, ⟨i, rfl⟩, g3⟩ := g2.one
  obtain ⟨v4, _, rfl, ⟨x, rfl, hx⟩, g4⟩ := g3.one
  obtain ⟨v5, _, rfl, ⟨l, rfl⟩, g5⟩ := g4.one
  obtain ⟨v6, _, rfl, ⟨r, rfl⟩, g6⟩ := g5.one
  rw [g6.none]
  exact ⟨⟨k, n, i, x, l, r⟩, rfl, hn, hx⟩
theorem Dr {H : Hp} {S : Sig} {cs : List Value} (h : AllT H S (eS 1) cs) : ∃ w : SWay, cs = w.cells ∧ GenW w := by
  obtain ⟨v1, _, rfl, ⟨k, rfl, hk⟩, g1⟩ := h.one
  obtain ⟨v2, _, rfl, ⟨n, rfl, hn⟩, g2⟩ := g1.one
  obtain ⟨v3, _, rfl, ⟨i, rfl⟩, g3⟩ := g2.one
  rw [g3.none]
  exact ⟨⟨k, n, i⟩, rfl, hk, hn⟩
theorem AV {H : Hp} {S : Sig} (hB : BagH H S) {cs : List Value} (h : AllT H S (eS 2) cs) : ∃ c : SCast, cs = c.cells ∧ GenC S.N c ∧ RdSl H 1 I64.cells (.slice c.ap.1 c.args.length c.ap.2) c.args := by
  obtain ⟨v1, _, rfl, ⟨k, rfl, hk⟩, g1⟩ := h.one
  obtain ⟨v2, _, rfl, ⟨n, rfl, hn⟩, g2⟩ := g1.one
  obtain ⟨v3, _, rfl, ⟨a, m, c, rfl, hs, hm⟩, g3⟩ := g2.one
  rw [g3.none]
  obtain ⟨xs, hl, hr, _⟩ := hs.list (enc := I64.cells) (p := fun _ => True) rfl hB (fun cs h => xk h)
  subst hl
  exact ⟨⟨k, n, xs, (a, c)⟩, rfl, ⟨hk, hn, hm⟩, hr⟩
theorem AT {H : Hp} {S : Sig} (hB : BagH H S) {cs : List Value} (h : AllT H S (eS 3) cs) : ∃ s : SStep, cs = s.cells ∧ GenS S.N s ∧ StepOk H s := by
  obtain ⟨v1, _, rfl, ⟨k, rfl⟩, g1⟩ := h.one
  obtain ⟨v2, _, rfl, ⟨nm, rfl, hnm⟩, g2⟩ := g1.one
  obtain ⟨v3, _, rfl, ⟨pe, rfl, hpe⟩, g3⟩ := g2.one
  obtain ⟨v4, _, rfl, ⟨la, rfl, hla⟩, g4⟩ := g3.one
  obtain ⟨v5, _, rfl, ⟨pr, rfl, hpr⟩, g5⟩ := g4.one
  obtain ⟨v6, _, rfl, ⟨tm, rfl⟩, g6⟩ := g5.one
  obtain ⟨v7, _, rfl, ⟨aa, an, ac, rfl, has, han⟩, g7⟩ := g6.one
  obtain ⟨v8, _, rfl, ⟨ca, cn, cc, rfl, hcs, hcn⟩, g8⟩ := g7.one
  obtain ⟨v9, _, rfl, ⟨wa, wn, wc, rfl, hws, hwn⟩, g9⟩ := g8.one
  obtain ⟨v10, _, rfl, ⟨nx, rfl⟩, g10⟩ := g9.one
  rw [g10.none]
  obtain ⟨A, hl1, hr1, _⟩ := has.list (enc := I64.cells) (p := fun _ => True) rfl hB (fun cs h => xk h)
  obtain ⟨C, hl2, hr2, hC⟩ := hcs.list (enc := SCast.cells) (p := fun c => GenC S.N c ∧ RdSl H 1 I64.cells (.slice c.ap.1 c.args.length c.ap.2) c.args) rfl hB (fun cs h => AV hB h)
  obtain ⟨W, hl3, hr3, hW⟩ := hws.list (enc := SWay.cells) (p := GenW) rfl hB (fun cs h => Dr h)
  subst hl1 hl2 hl3
  exact ⟨⟨k, nm, pe, la, pr, tm, A, (aa, ac), C, (ca, cc), W, (wa, wc), nx⟩, rfl, ⟨hnm, hpe, hla, hpr, han, hcn, hwn, fun c hc => (hC c hc).1, hW⟩, ⟨hr1, hr2, fun c hc => (hC c hc).2, hr3⟩⟩
theorem AnyNm.cn {s : Str} (h : s.length ≤ 1000) : s.length ≤ 4294960000 := by omega
theorem AU {H : Hp} {S : Sig} (hB : BagH H S) {q : GProc} (h : GPOk H S q) : ∃ p : SProc, q.cells = p.cells ∧ p.name = q.name ∧ p.params = q.params ∧ GenQ S.N p ∧ ProcOk H p := by
  obtain ⟨T, hl1, hr1, hT⟩ := h.t.list (enc := Term.cells) (p := fun t => VarNm t.name ∧ AnyNm t.text) rfl hB (fun cs h => AS h)
  obtain ⟨L, hl2, hr2, hL⟩ := h.s.list (enc := SStep.cells) (p := fun s => GenS S.N s ∧ StepOk H s) rfl hB (fun cs h => AT hB h)
  obtain ⟨nm, params, pp, ta, tn, tc, sa, sn, sc⟩ := q
  have h1 := h.nm; have h2 := h.pa; have h3 := h.pv; have h4 := h.pl; have h5 := h.s0; have h6 := h.tl; have h7 := h.sl
  dsimp only at *
  subst hl1 hl2
  refine ⟨⟨nm, params, pp, T, (ta, tc), L, (sa, sc)⟩, rfl, rfl, rfl, ⟨h1, h3, h4, h5, h6, h7, hT, fun s hs => (hL s hs).1⟩, ⟨h2, fun x hx => AnyNm.cn (h3 x hx).2, by show params.length ≤ _; omega, hr1, fun t ht => ?_, hr2, fun s hs => (hL s hs).2⟩⟩
  have := (hT t ht).1.len
  omega
theorem qV {H : Hp} {S : Sig} (hB : BagH H S) : ∀ (qs : List GProc), (∀ x ∈ qs, GPOk H S x) → ∃ ps : List SProc, qs.map GProc.cells = ps.map SProc.cells ∧ ps.map (·.name) = qs.map (·.name) ∧ ∀ p ∈ ps, GenQ S.N p ∧ ProcOk H p
  | [], _ => ⟨[], rfl, rfl, by simp⟩
  | q :: r, h => by
    obtain ⟨p, h1, h2, _, h3, h4⟩ := AU hB (h q (by simp))
    obtain ⟨ps, h5, h6, h7⟩ := qV hB r (fun x hx => h x (by simp [hx]))
    refine ⟨p :: ps, by simp [h1, h5], by simp [h2, h6], fun x hx => ?_⟩
    rcases List.mem_cons.1 hx with rfl | hx
    · exact ⟨h3, h4⟩
    · exact h7 x hx
theorem recell2 {α β : Type} {H : Hp} {k : Nat} {enc : α → List Value} {enc' : β → List Value} {v : Value} {l : List α} {l' : List β} (h : RdSl H k enc v l) (e : l.map enc = l'.map enc') : RdSl H k enc' v l' := by
  have hl : l'.length = l.length := by have := congrArg List.length e; simpa using this.symm
  refine ⟨by rw [hl]; exact h.len, by rw [hl]; exact h.max, fun hne => ?_, fun i x hx j u hu => ?_, fun a n c hv => by rw [hl]; exact h.room a n c hv⟩
  · rw [hl]; exact h.addr (fun e0 => hne (List.length_eq_zero_iff.1 (by rw [hl, e0]; rfl)))
  · have h1 : (l.map enc)[i]? = some (enc' x) := by rw [e, List.getElem?_map, hx]; rfl
    rw [List.getElem?_map] at h1
    cases hy : l[i]? with
    | none => rw [hy] at h1; simp at h1
    | some y =>
      rw [hy] at h1
      simp only [Option.map_some, Option.some.injEq] at h1
      exact h.get i y hy j u (by rw [h1]; exact hu)
structure GenP (P : SProg) : Prop where
  l : P.locals = []
  n1 : 1 ≤ P.procs.length
  n11 : P.procs.length ≤ 11
  q : ∀ q ∈ P.procs, GenQ 10000000 q
theorem GenS.up {N M : Nat} {s : SStep} (h : GenS N s) (hm : N ≤ M) : GenS M s :=
  ⟨h.name, h.peer, h.label, h.proc, Nat.le_trans h.an hm, Nat.le_trans h.cn hm, Nat.le_trans h.wn hm, fun c hc => ⟨(h.c c hc).r, (h.c c hc).p, Nat.le_trans (h.c c hc).a hm⟩, h.w⟩
theorem GenQ.up {N M : Nat} {q : SProc} (h : GenQ N q) (hm : N ≤ M) : GenQ M q := ⟨h.nm, h.pv, h.pl, h.s0, h.tl, h.sl, h.t, fun s hs => (h.s s hs).up hm⟩
theorem qU {H : Hp} {S : Sig} {qs : List GProc} {pv psv : Value} {ps : List SProto} (hB : BagH H S) (hq : RdSl H 4 GProc.cells pv qs) (hg : ∀ x ∈ qs, GPOk H S x) (hps : RdSl H 3 SProto.cells psv ps) (hpo : ∀ p ∈ ps, ProtoOk H p) (hN : S.N ≤ 10000000) (h1 : 1 ≤ qs.length) (h11 : qs.length ≤ 11) :
    ∃ P : SProg, .agg #[psv, .slice none 0 0, pv] = Value.agg P.cells.toArray ∧ ProgOk H P ∧ GenP P ∧ P.protos = ps ∧ P.procs.map (·.name) = qs.map (·.name) := by
  obtain ⟨procs, h2, h3, h4⟩ := qV hB qs hg
  have hr := recell2 (enc' := SProc.cells) hq h2
  have hl : procs.length = qs.length := by have := congrArg List.length h2; simpa using this.symm
  obtain ⟨pa, pc, rfl⟩ := hr.len
  obtain ⟨sa, sc, rfl⟩ := hps.len
  exact ⟨⟨ps, (sa, sc), [], (none, 0), procs, (pa, pc)⟩, rfl, ⟨hps, hpo, RdSl.nil, by simp, hr, fun q hq => (h4 q hq).2⟩, ⟨rfl, by dsimp only; omega, by dsimp only; omega, fun q hq => (h4 q hq).1.up hN⟩, rfl, h3⟩
section
variable {P : Program} {n : Nat} {ops : Array Oper} {Q : Exit → Act → World → Prop} {E : Env} {M : List Nat} {w0 : World} {H0 H : Hp} {L : aq} {C : World → Prop}
theorem TX.pubB {S : Sig} {B : aq} {F : aq → aq} {q : Act → World → Prop} (hB : Bag H S B) (hU : Tl B L F) (hM : ∀ p ∈ B, p.1 ∉ M) (h : ∀ H', H.le H' → BagH H' S → TX n q E (St M w0 H0 H' (F []))) : TX n q E (St M w0 H0 H L) := by
  intro a w he hw
  obtain ⟨H', h1, h2, h3⟩ := St.pubB hB hU hM hw
  exact h H' h1 h2 a w he h3
theorem TL.pubB {S : Sig} {B : aq} {F : aq → aq} {l : List Oper} (hB : Bag H S B) (hU : Tl B L F) (hM : ∀ p ∈ B, p.1 ∉ M) (h : ∀ H', H.le H' → BagH H' S → TL P n ops Q l E (St M w0 H0 H' (F []))) : TL P n ops Q l E (St M w0 H0 H L) := by
  intro a w he hw
  obtain ⟨H', h1, h2, h3⟩ := St.pubB hB hU hM hw
  exact h H' h1 h2 a w he h3
end
theorem SlT.tail {S : Sig} {t : Nat} {a : Option Addr} {n c k : Nat} (h : SlT S t a n c) (hn : 0 < n) (hk : kT t = k) : ∃ a' , Go.sliced a 1 n c k = .slice a' (n - 1) (c - 1) ∧ SlT S t a' (n - 1) (c - 1) := by
  rcases h with ⟨_, h, _⟩ | ⟨b, j, m, rfl, hS, h1, h2, h3⟩
  · omega
  · subst hk
    unfold Go.sliced
    by_cases hc : c = 1
    · rw [if_pos hc]
      exact ⟨_, rfl, .inr ⟨b, j, m, rfl, hS, by omega, by omega, by omega⟩⟩
    · rw [if_neg hc]
      refine ⟨some ⟨b, (j + 1) * kT t, none⟩, ?_, .inr ⟨b, j + 1, m, rfl, hS, by omega, by omega, by omega⟩⟩
      simp only [Option.map_some, Addr.add_lit]
      congr 3
      simp [Nat.add_mul]
theorem yv {i : Nat} {r : Str} (h : rolesL[i]? = some r) : AnyNm r := by
  have := lU (n := 5) (by rw [List.take_of_length_le (by decide)]; exact List.mem_of_getElem? h)
  simp [AnyNm]; omega
theorem xz {i : Nat} {r : Str} (h : labelsL[i]? = some r) : AnyNm r := by
  have := AM h; simp [AnyNm]; omega
end Go.Sx
namespace Go.Sx
open Go
def nmS (s : Str) : Str := if s = [] then [] else 110 :: s
def nmP (x : SParam) : SParam := { x with name := nmS x.name }
def nmT (t : Term) : Term := { t with name := nmS t.name }
def nmW (w : SWay) : SWay := { w with name := nmS w.name }
def d4 (s : SStep) : SStep := { s with name := nmS s.name, ways := s.ways.map nmW }
def nmQ (q : SProc) : SProc := { q with params := q.params.map nmP, terms := q.terms.map nmT, steps := q.steps.map d4 }
def nmG (p : SProg) : SProg := { p with procs := p.procs.map nmQ }
structure NmOk (q : SProc) : Prop where
  p : ∀ x ∈ q.params, x.name.length ≤ 1000
  t : ∀ t ∈ q.terms, t.name.length ≤ 1000
  s : ∀ s ∈ q.steps, s.name.length ≤ 1000 ∧ s.ways.length ≤ 1000000000 ∧ ∀ w ∈ s.ways, w.name.length ≤ 1000
  pl : q.params.length ≤ 1000000
  tl : q.terms.length ≤ 1000000000
  sl : q.steps.length ≤ 1000000000
def PaAll (_ : Hp) (S : List SParam) : Prop := ∀ s ∈ S, s.cn.length ≤ 4294960000
theorem PaAll.le {H H' : Hp} {S : List SParam} (h : PaAll H S) (_ : H.le H') : PaAll H' S := h
def TmAll (_ : Hp) (S : List Term) : Prop := ∀ s ∈ S, s.name.length ≤ 9223372036854775807
theorem TmAll.le {H H' : Hp} {S : List Term} (h : TmAll H S) (_ : H.le H') : TmAll H' S := h
theorem nmS_len (s : Str) : (nmS s).length ≤ s.length + 1 := by unfold nmS; split <;> simp
theorem nmT_z {t : Term} (h : t.name.length ≤ 1000) : (nmT t).name.length ≤ 9223372036854775807 := by
  have := nmS_len t.name; show (nmS t.name).length ≤ _; omega
def wUp (l : List SWay) (k : Int) : List SWay := (l.take k.toNat).map nmW ++ l.drop k.toNat
theorem wUp_0 (l : List SWay) : wUp l 0 = l := by simp [wUp]
theorem t6 (l : List SWay) (k : Int) : (wUp l k).length = l.length := by simp [wUp]; omega
theorem BV {l : List SWay} {k : Int} {w : SWay} (h : l[k.toNat]? = some w) : (wUp l k)[k.toNat]? = some w := by
  have hk := (List.getElem?_eq_some_iff.1 h).1
  unfold wUp
  rw [List.getElem?_append_right (by simp; omega), List.getElem?_drop]
  simp only [List.length_map, List.length_take]
  rw [show k.toNat + (k.toNat - min k.toNat l.length) = k.toNat by omega]; exact h
theorem wUp_set {l : List SWay} {k : Int} {w : SWay} (k0 : 0 ≤ k) (h : l[k.toNat]? = some w) : (wUp l k).set k.toNat (nmW w) = wUp l (k + 1) := by
  have hk := (List.getElem?_eq_some_iff.1 h).1
  unfold wUp
  rw [show (k + 1).toNat = k.toNat + 1 by omega, List.take_add_one, h, List.map_append]
  rw [List.set_append_right _ _ (by simp; omega)]
  simp only [List.length_map, List.length_take, List.append_assoc, Option.toList_some, List.map_cons, List.map_nil]
  rw [show k.toNat - min k.toNat l.length = 0 by omega]
  congr 1
  have hd : l.drop k.toNat = w :: l.drop (k.toNat + 1) := by
    rw [List.drop_eq_getElem_cons hk]; congr 1; have := List.getElem?_eq_getElem hk; rw [h] at this; exact (Option.some.inj this).symm
  rw [hd]; rfl
theorem wUp_end {l : List SWay} {k : Int} (h : ¬ k < l.length) : wUp l k = l.map nmW := by
  unfold wUp; rw [List.take_of_length_le (by omega), List.drop_of_length_le (by omega)]; simp
theorem oQ (q : SProc) : (nmQ q).bare = ⟨q.name, q.params.map nmP, (none, 0), q.terms.map nmT, (none, 0), q.steps.map (fun s => (d4 s).bare), (none, 0)⟩ := by
  unfold SProc.bare nmQ; simp [List.map_map, Function.comp_def]
theorem GenQ.nmOk {q : SProc} (h : GenQ 10000000 q) : NmOk q := by
  have vl : ∀ s : Str, VarNm s → s.length ≤ 1000 := fun s hs => by
    rcases hs with rfl | rfl | rfl | rfl | ⟨ds, rfl, h, _⟩ <;> simp <;> omega
  exact ⟨fun x hx => vl _ (h.pv x hx).1, fun t ht => vl _ (h.t t ht).1, fun s hs => ⟨vl _ (h.s s hs).name, Nat.le_trans (h.s s hs).wn (by decide), fun w hw => vl _ ((h.s s hs).w w hw).n⟩, Nat.le_trans h.pl (by decide), Nat.le_trans h.tl (by decide), Nat.le_trans h.sl (by decide)⟩
end Go.Sx
namespace Go.Sx
open Go
theorem mX {q : SProc} {n i : Int} (hi : 0 ≤ i) {s : SStep} (hs : q.steps[i.toNat]? = some s) : ∀ {L : List Int} {p : List Int × List Int}, n ≤ p.1.length → (∀ t ∈ L, t ∈ aS s) → (∀ j : Int, 0 ≤ j → j < n → 0 ≤ aJ p.1 j → Par q (aJ p.1 j) j) → ∀ j : Int, 0 ≤ j → j < n → 0 ≤ aJ (fO n i L p).1 j → Par q (aJ (fO n i L p).1 j) j
  | [], p, _, _, h => h
  | t :: r, p, hn, hL, h => by
    rw [fO]
    split
    · exact mX hi hs hn (fun u hu => hL u (by simp [hu])) h
    · rename_i ht
      refine mX hi hs (by simpa using hn) (fun u hu => hL u (by simp [hu])) (fun j hj hjn h0 => ?_)
      dsimp only at h0 ⊢
      by_cases e : j = t
      · subst e
        rw [fG (by omega) (by omega) hj, if_pos rfl] at h0 ⊢
        split at h0
        · omega
        · rename_i h2; rw [if_neg h2]; exact ⟨hi, s, hs, hL j (by simp)⟩
      · rw [ka (by omega) hj e] at h0 ⊢
        exact h j hj hjn h0
theorem x8 {q : SProc} (hS : bU q) {n : Int} : ∀ (l : List SStep) (k : Nat) (p : List Int × List Int), l = q.steps.drop k → n ≤ p.1.length → (∀ j : Int, 0 ≤ j → j < n → 0 ≤ aJ p.1 j → Par q (aJ p.1 j) j) → ∀ j : Int, 0 ≤ j → j < n → 0 ≤ aJ (gK n l k p).1 j → Par q (aJ (gK n l k p).1 j) j := by
  intro l
  induction l with
  | nil => intro k p _ _ h; exact h
  | cons s r ih =>
    intro k p hl hn h
    have hx : q.steps[k]? = some s := by
      have h1 : (q.steps.drop k)[0]? = some s := by rw [← hl]; rfl
      rwa [List.getElem?_drop, Nat.add_zero] at h1
    have hr : r = q.steps.drop (k + 1) := by
      have h1 : (q.steps.drop k).drop 1 = r := by rw [← hl]; rfl
      rw [← h1, List.drop_drop]
    rw [gK]
    exact ih (k + 1) _ hr (by rw [gA.1]; exact hn) (mX (by omega) (by simpa using hx) hn (fun t ht => by rw [← ti (hS k s hx).1]; exact ht) h)
theorem par_par {q : SProc} (hS : bU q) {j : Int} (h0 : 0 ≤ j) (hn : j < q.steps.length) (hp : 0 ≤ aJ (ut q) j) : Par q (aJ (ut q) j) j := by
  unfold ut at hp ⊢
  refine x8 hS (n := q.steps.length) q.steps 0 (l5 q.steps.length) rfl (by simp [l5]) (fun j hj hjn h => ?_) j h0 hn hp
  exfalso
  unfold l5 aJ at h
  dsimp only at h
  rw [List.getElem?_set] at h
  split at h
  · rw [if_pos (by simp; omega)] at h; simp at h
  · rw [List.getElem?_replicate, if_pos (by omega)] at h; simp at h
theorem xZ {q : SProc} {i : Int} {up : List Int} : ∀ (l : List SStep) (k : Nat) (u : List Bool), l = q.steps.drop k → (th q i up l k u).e = 0 → ∀ (j : Nat) (s : SStep), k ≤ j → q.steps[j]? = some s → wM q up j s = true ∧ et s = true := by
  intro l
  induction l with
  | nil =>
    intro k u hl _ j s hj hs
    have h1 := (List.getElem?_eq_some_iff.1 hs).1
    have h2 : (q.steps.drop k).length = 0 := by rw [← hl]; rfl
    rw [List.length_drop] at h2; omega
  | cons x r ih =>
    intro k u hl h j s hj hs
    have hx : q.steps[k]? = some x := by
      have h1 : (q.steps.drop k)[0]? = some x := by rw [← hl]; rfl
      rwa [List.getElem?_drop, Nat.add_zero] at h1
    have hr : r = q.steps.drop (k + 1) := by
      have h1 : (q.steps.drop k).drop 1 = r := by rw [← hl]; rfl
      rw [← h1, List.drop_drop]
    rw [th] at h
    split at h
    · cases h
    · split at h
      · cases h
      · rename_i ht
        split at h
        · cases h
        · rename_i hro
          split at h
          · cases h
          · rename_i u2 _
            rcases Nat.lt_or_ge k j with hlt | hge
            · exact ih (k + 1) u2 hr h j s hlt hs
            · have : j = k := by omega
              subst this
              rw [hx] at hs; cases hs
              exact ⟨by simpa using ht, by simpa using hro⟩
structure RefOk (q : SProc) : Prop where
  s : bU q
  t : io q
  n1 : 1 ≤ q.steps.length
  n80 : q.steps.length ≤ 80
  t160 : q.terms.length ≤ 160
  p6 : q.params.length ≤ 6
  up : ∀ j : Int, 0 < j → j < q.steps.length → 0 ≤ aJ (ut q) j ∧ Par q (aJ (ut q) j) j
  ro : ∀ (k : Nat) (s : SStep), q.steps[k]? = some s → et s = true
theorem xW {l : List SProc} {i : Int} {q : SProc} (h : (aX l i q).e = 0) : RefOk q := by
  have hR := ul h
  unfold aX at h
  split at h
  · rename_i h2; exact absurd h h2
  · rename_i h2
    have h2 : (ew l i q).e = 0 := by simpa using h2
    have hsz : (bL q && q.params.all dI) = true := by
      unfold ew at h2
      split at h2
      · cases h2
      · rename_i hg; simpa using hg
    have hz := head_sz hsz
    have hs := fU _ _ _ _ _ h
    have hS : bU q := kR (i := i) hs
    have hsh : (dR i q).e = 0 := h
    rw [← Cs hz.2.1 hz.1] at hsh
    have htr := xZ _ 0 _ rfl hsh
    refine ⟨hS, qe hS hz.2.1 hs, hz.1, hz.2.1, hz.2.2.1, hz.2.2.2, fun j h0 hn => ?_, fun k s hk => (htr k s (Nat.zero_le _) hk).2⟩
    have hx := List.getElem?_eq_getElem (l := q.steps) (i := j.toNat) (by omega)
    have h3 := (htr j.toNat _ (Nat.zero_le _) hx).1
    unfold wM at h3
    simp only [Bool.and_eq_true] at h3
    have h4 := h3.2.1
    rw [show ((j.toNat : Nat) : Int) = j by omega, decide_eq_true h0, Bool.true_and] at h4
    have h5 : 0 ≤ aJ (ut q) j := by simpa using h4
    exact ⟨h5, par_par hS (by omega) hn h5⟩
end Go.Sx
namespace Go.Sx
open Go
def cL : List Int → Int → Int
  | [], _ => -1
  | y :: r, x => if y = x then 0 else if cL r x < 0 then -1 else cL r x + 1
theorem x5 {l : List Int} {x : Int} {k : Int} (h0 : 0 ≤ k) (hx : l[k.toNat]? = some x) (hn : ∀ j : Nat, j < k.toNat → l[j]? ≠ some x) : cL l x = k := by
  induction l generalizing k with
  | nil => simp at hx
  | cons y r ih =>
    unfold cL
    by_cases hk : k = 0
    · subst hk
      simp at hx
      rw [if_pos hx]
    · have hy : y ≠ x := fun e => hn 0 (by omega) (by simp [e])
      rw [if_neg hy]
      have e : k.toNat = (k - 1).toNat + 1 := by omega
      rw [e, List.getElem?_cons_succ] at hx
      have := ih (k := k - 1) (by omega) hx (fun j hj => by
        have := hn (j + 1) (by omega)
        rwa [List.getElem?_cons_succ] at this)
      rw [this, if_neg (by omega)]; omega
theorem mW {l : List Int} {x : Int} (h : x ∉ l) : cL l x = -1 := by
  induction l with
  | nil => rfl
  | cons y r ih =>
    unfold cL
    rw [if_neg (fun e => h (by simp [e])), ih (fun hm => h (by simp [hm]))]; rfl
theorem tA {l : List Int} (hn : l.Nodup) {i : Nat} {x : Int} (hx : l[i]? = some x) : cL l x = i := by
  refine x5 (k := i) (by omega) (by simpa using hx) (fun j hj e => ?_)
  obtain ⟨a1, a2⟩ := List.getElem?_eq_some_iff.1 hx
  obtain ⟨b1, b2⟩ := List.getElem?_eq_some_iff.1 e
  exact (List.pairwise_iff_getElem.1 hn) j i b1 a1 (by omega) (b2.trans a2.symm)
def t00 : Term := ⟨0, [], 0, [], 0, 0⟩
def qT (ts : List Term) (k : Int) : Term := ts[k.toNat]?.getD t00
def mvP (T : List Int) (t : Term) : Term := { t with l := cL T t.l, r := cL T t.r }
def iD (ts : List Term) (s : SStep) : List Int := (gh s).flatMap (bH ts)
def f5 (q : SProc) : List Int := (dm q).flatMap (fun k => match q.steps[k.toNat]? with
  | some s => iD q.terms s
  | none => [])
def zS (T : List Int) (c : SCast) : SCast := { c with args := c.args.map (cL T), ap := (none, 0) }
def wayP (O : List Int) (w : SWay) : SWay := { w with next := cL O w.next }
def kA (O T : List Int) (s : SStep) : SStep :=
  { s with next := cL O s.next, term := cL T s.term, args := s.args.map (cL T), ap := (none, 0), casts := s.casts.map (zS T), cp := (none, 0), ways := s.ways.map (wayP O), wp := (none, 0) }
def gf (q : SProc) (L : List Int) : List SStep := L.filterMap (fun k => q.steps[k.toNat]?.map (kA (dm q) (f5 q)))
def gp (q : SProc) : SProc :=
  { name := q.name, params := q.params, pp := (none, 0), terms := (f5 q).map (fun k => mvP (f5 q) (qT q.terms k)), tp := (none, 0), steps := gf q (dm q), sp := (none, 0) }
structure MS (ts : List Term) (T X : List Int) (st : RS) : Prop where
  ml : st.1.length = ts.length
  o : st.2 = X.map (fun k => mvP T (qT ts k))
  m : ∀ (i : Nat) (x : Int), X[i]? = some x → aJ st.1 x = i
theorem iX {ts : List Term} : ∀ (A B : List Int) (s : RS), cO ts (A ++ B) s = cO ts B (cO ts A s)
  | [], _, _ => rfl
  | k :: r, B, s => by
    rw [List.cons_append, cO, cO]
    split
    · exact iX r B s
    · exact iX r B _
structure TOk (ts : List Term) (T : List Int) : Prop where
  nd : T.Nodup
  rg : ∀ k ∈ T, 0 ≤ k ∧ k < ts.length
theorem Da {ts : List Term} {T X Y : List Int} {st : RS} (hT : TOk ts T) (hX : T = X ++ Y) (h : MS ts T X st) {y : Int} (hy : y = -1 ∨ y ∈ X) : (if 0 ≤ y then aJ st.1 y else y) = cL T y := by
  rcases hy with rfl | hy
  · rw [if_neg (by omega), mW (fun hm => by have := hT.rg _ hm; omega)]
  · have hm : y ∈ T := by rw [hX]; exact List.mem_append_left _ hy
    have := hT.rg _ hm
    rw [if_pos this.1]
    obtain ⟨i, hi⟩ := List.getElem?_of_mem hy
    have hi2 : T[i]? = some y := by rw [hX, List.getElem?_append_left (List.getElem?_eq_some_iff.1 hi).1]; exact hi
    rw [h.m i y hi, tA hT.nd hi2]
theorem ms_one {ts : List Term} {T X Y : List Int} {st : RS} {a : Int} {t : Term} (hT : TOk ts T) (hX : T = X ++ a :: Y) (h : MS ts T X st) (ht : ts[a.toNat]? = some t) (hl : t.l = -1 ∨ t.l ∈ X) (hr : t.r = -1 ∨ t.r ∈ X) : MS ts T (X ++ [a]) (cO ts [a] st) := by
  have ha : 0 ≤ a ∧ a < ts.length := hT.rg a (by rw [hX]; simp)
  have hnX : ∀ x ∈ X, x ≠ a := fun x hx e => by
    subst e
    have := hT.nd
    rw [hX, List.nodup_append] at this
    exact this.2.2 x hx x (by simp) rfl
  have hrX : ∀ x ∈ X, 0 ≤ x := fun x hx => (hT.rg x (by rw [hX]; simp [hx])).1
  rw [cO, ht]
  dsimp only
  rw [cO]
  refine ⟨by rw [List.length_set]; exact h.ml, ?_, fun i x hx => ?_⟩
  · rw [List.map_append, ← h.o]
    congr 1
    have e1 := Da hT hX h hl
    have e2 := Da hT hX h hr
    simp only [List.map_cons, List.map_nil, qT, ht, Option.getD_some]
    unfold mvT mvP
    rw [e1, e2]
  · by_cases hi : i < X.length
    · rw [List.getElem?_append_left hi] at hx
      have hm := List.mem_of_getElem? hx
      rw [ka ha.1 (hrX x hm) (hnX x hm)]
      exact h.m i x hx
    · rw [List.getElem?_append_right (by omega)] at hx
      have : i - X.length = 0 := by
        have := (List.getElem?_eq_some_iff.1 hx).1
        simp at this; omega
      rw [this] at hx
      simp at hx
      subst hx
      have hol : st.2.length = X.length := by rw [h.o, List.length_map]
      rw [fG ha.1 (by rw [h.ml]; omega) ha.1, if_pos rfl, hol]
      omega
theorem qa {ts : List Term} {T : List Int} (hT : TOk ts T) : ∀ (f : Nat) (a : Int), (a = -1 ∨ Tr ts f a) → ∀ (X Y : List Int) (st : RS), T = X ++ (dz ts f a ++ Y) → MS ts T X st → MS ts T (X ++ dz ts f a) (cO ts (dz ts f a) st) ∧ (a = -1 ∨ a ∈ dz ts f a)
  | 0, a, h, X, Y, st, hX, hM => by
    rcases h with h | h
    · subst h
      refine ⟨?_, .inl rfl⟩
      simpa [dz, cO] using hM
    · exact h.elim
  | f + 1, a, h, X, Y, st, hX, hM => by
    rcases h with h | h
    · subst h
      rw [fX (by decide)] at hX ⊢
      refine ⟨?_, .inl rfl⟩
      simpa [cO] using hM
    · obtain ⟨h0, t, ht, _, _, hl0, hl1, hr0, hr1⟩ := h
      have hn : ¬ a < 0 := by omega
      have hTl : t.l = -1 ∨ Tr ts f t.l := by
        rcases Int.lt_or_le (ak t.kind) 1 with h1 | h1
        · exact .inl (hl1 h1)
        · exact .inr (hl0 h1)
      have hTr : t.r = -1 ∨ Tr ts f t.r := by
        rcases Int.lt_or_le (ak t.kind) 2 with h1 | h1
        · exact .inl (hr1 h1)
        · exact .inr (hr0 h1)
      rw [iK hn ht] at hX ⊢
      obtain ⟨m1, k1⟩ := qa hT f t.l hTl X (dz ts f t.r ++ [a] ++ Y) st (by rw [hX]; simp) hM
      obtain ⟨m2, k2⟩ := qa hT f t.r hTr (X ++ dz ts f t.l) ([a] ++ Y) _ (by rw [hX]; simp) m1
      have m3 := ms_one (a := a) (Y := Y) hT (by rw [hX]; simp) m2 ht (by
        rcases k1 with k | k
        · exact .inl k
        · exact .inr (by simp [k])) (by
        rcases k2 with k | k
        · exact .inl k
        · exact .inr (by simp [k]))
      refine ⟨?_, .inr (by simp)⟩
      rw [iX, iX]
      simpa using m3
theorem mK {ts : List Term} {T X Y : List Int} {st : RS} {root : Int} (hT : TOk ts T) (hm : cA ts root = true) (hX : T = X ++ (bH ts root ++ Y)) (hM : MS ts T X st) : MS ts T (X ++ bH ts root) (er ts root st) ∧ aJ (er ts root st).1 root = cL T root := by
  have htr := md hm
  obtain ⟨h1, h2⟩ := qa hT (root.toNat + 1) root (.inr htr) X Y st hX hM
  refine ⟨h1, ?_⟩
  have h0 : 0 ≤ root := htr.1
  have hin : root ∈ bH ts root := by
    rcases h2 with h2 | h2
    · omega
    · exact h2
  have hin2 : root ∈ X ++ bH ts root := by simp [hin]
  have := Da (Y := Y) hT (by rw [hX]; simp [bH]) h1 (.inr hin2)
  rw [if_pos h0] at this
  exact this
theorem mJ {ts : List Term} {T : List Int} (hT : TOk ts T) : ∀ (L acc X Y : List Int) (st : RS), (∀ t ∈ L, cA ts t = true) → T = X ++ (L.flatMap (bH ts) ++ Y) → MS ts T X st → (bp ts L acc st).1 = acc ++ L.map (cL T) ∧ MS ts T (X ++ L.flatMap (bH ts)) (bp ts L acc st).2
  | [], acc, X, Y, st, _, _, hM => by simpa [bp] using hM
  | r :: L, acc, X, Y, st, hm, hX, hM => by
    rw [bp]
    rw [List.flatMap_cons] at hX
    obtain ⟨h1, h2⟩ := mK (Y := L.flatMap (bH ts) ++ Y) hT (hm r (by simp)) (by rw [hX]; simp) hM
    obtain ⟨h3, h4⟩ := mJ hT L (acc ++ [aJ (er ts r st).1 r]) (X ++ bH ts r) Y (er ts r st) (fun t ht => hm t (by simp [ht])) (by rw [hX]; simp) h1
    refine ⟨by rw [h3, h2]; simp, ?_⟩
    rw [List.flatMap_cons, ← List.append_assoc]; exact h4
theorem tS {ts : List Term} {T : List Int} (hT : TOk ts T) : ∀ (L : List SCast) (acc : List SCast) (X Y : List Int) (st : RS), (∀ c ∈ L, ∀ t ∈ c.args, cA ts t = true) → T = X ++ (L.flatMap (fun c => c.args.flatMap (bH ts)) ++ Y) → MS ts T X st →
    (cV ts L acc st).1 = acc ++ L.map (zS T) ∧ MS ts T (X ++ L.flatMap (fun c => c.args.flatMap (bH ts))) (cV ts L acc st).2
  | [], acc, X, Y, st, _, _, hM => by simpa [cV] using hM
  | c :: L, acc, X, Y, st, hm, hX, hM => by
    rw [cV]
    rw [List.flatMap_cons] at hX
    obtain ⟨h1, h2⟩ := mJ hT c.args [] X (L.flatMap (fun c => c.args.flatMap (bH ts)) ++ Y) st (hm c (by simp)) (by rw [hX]; simp) hM
    obtain ⟨h3, h4⟩ := tS hT L (acc ++ [{ c with args := (bp ts c.args [] st).1, ap := (none, 0) }]) (X ++ c.args.flatMap (bH ts)) Y (bp ts c.args [] st).2 (fun d hd => hm d (by simp [hd])) (by rw [hX]; simp) h2
    refine ⟨?_, ?_⟩
    · rw [h3, h1]; simp [zS]
    · rw [List.flatMap_cons, ← List.append_assoc]; exact h4
theorem term_or {s : SStep} {ts : List Term} (hm : eg s = true) (hr : et s = true) (ht : ∀ t ∈ bD s, cA ts t = true) : (s.term = -1 ∧ rHd s = s.args) ∨ (0 ≤ s.term ∧ cA ts s.term = true ∧ rHd s = s.term :: s.args) := by
  by_cases h : s.term = -1
  · exact .inl ⟨h, rHd_F h⟩
  · right
    have hin : s.term ∈ bD s := by
      rw [← ib hm hr, ← wE, rHd_T h]; simp
    have := ht _ hin
    exact ⟨(md this).1, this, rHd_T h⟩
theorem Cm {q : SProc} {O T X Y : List Int} {st : RS} {s : SStep} {pl : List Int} (hT : TOk q.terms T) (hm : eg s = true) (hr : et s = true) (ht : ∀ t ∈ bD s, cA q.terms t = true) (hX : T = X ++ (iD q.terms s ++ Y)) (hM : MS q.terms T X st)
    (hO : ∀ x ∈ aS s, aJ pl x = cL O x) (hOn : cL O (-1) = -1) : gG q.terms pl s st = kA O T s ∧ MS q.terms T (X ++ iD q.terms s) (gm q.terms s st).2 := by
  have hst : iD q.terms s = (rHd s).flatMap (bH q.terms) ++ s.casts.flatMap (fun c => c.args.flatMap (bH q.terms)) := by
    unfold iD
    rw [← wE, List.flatMap_append, List.flatMap_assoc]
  rw [hst] at hX ⊢
  have hargs : ∀ t ∈ s.args, cA q.terms t = true := fun t h => ht t (ia h)
  have hcasts : ∀ c ∈ s.casts, ∀ t ∈ c.args, cA q.terms t = true := fun c hc t h => ht t (hZ hc h)
  have hneg : cL T (-1) = -1 := mW (fun h => by have := hT.rg _ h; omega)
  obtain ⟨XA, hXA, hMA, htm⟩ : ∃ XA, (rHd s).flatMap (bH q.terms) = XA ++ s.args.flatMap (bH q.terms) ∧ MS q.terms T (X ++ XA) (dg q.terms s st) ∧ (if 0 ≤ s.term then aJ (dg q.terms s st).1 s.term else s.term) = cL T s.term := by
    rcases term_or hm hr ht with ⟨h1, h2⟩ | ⟨h1, h2, h3⟩
    · refine ⟨[], by rw [h2]; rfl, ?_, ?_⟩
      · unfold dg; rw [if_neg (by omega), List.append_nil]; exact hM
      · rw [if_neg (by omega), h1, hneg]
    · refine ⟨bH q.terms s.term, by rw [h3, List.flatMap_cons], ?_, ?_⟩
      · unfold dg; rw [if_pos h1]
        exact (mK (Y := s.args.flatMap (bH q.terms) ++ s.casts.flatMap (fun c => c.args.flatMap (bH q.terms)) ++ Y) hT h2 (by rw [hX, h3, List.flatMap_cons]; simp) hM).1
      · unfold dg; rw [if_pos h1, if_pos h1]
        exact (mK (Y := s.args.flatMap (bH q.terms) ++ s.casts.flatMap (fun c => c.args.flatMap (bH q.terms)) ++ Y) hT h2 (by rw [hX, h3, List.flatMap_cons]; simp) hM).2
  rw [hXA] at hX ⊢
  obtain ⟨hB1, hB2⟩ := mJ hT s.args [] (X ++ XA) (s.casts.flatMap (fun c => c.args.flatMap (bH q.terms)) ++ Y) (dg q.terms s st) hargs (by rw [hX]; simp) hMA
  obtain ⟨hC1, hC2⟩ := tS hT s.casts [] (X ++ XA ++ s.args.flatMap (bH q.terms)) Y (bp q.terms s.args [] (dg q.terms s st)).2 hcasts (by rw [hX]; simp) hB2
  refine ⟨?_, ?_⟩
  · unfold gG kA
    have e1 : (dL q.terms s st).1 = s.args.map (cL T) := by unfold dL; rw [hB1]; rfl
    have e2 : (gm q.terms s st).1 = s.casts.map (zS T) := by unfold gm dL; rw [hC1]; rfl
    have e3 : s.ways.map (gX pl) = s.ways.map (wayP O) := List.map_congr_left (fun w hw => by
      unfold gX wayP; rw [hO _ (pT hm hw)])
    have e4 : (if fQ s.kind = true then aJ pl s.next else s.next) = cL O s.next := by
      by_cases hg : fQ s.kind = true
      · rw [if_pos hg, hO _ (na hg)]
      · rw [if_neg hg]
        have : s.next = -1 := by
          have hm2 := hm
          unfold eg at hm2
          split at hm2; · cases hm2
          split at hm2; · cases hm2
          rename_i hb
          have hb : iO (cR s) = false := by simpa using hb
          unfold iO at hb
          simp only [Bool.or_eq_false_iff] at hb
          have h9 := hb.2.2.2.2.2.2.2.2
          simp only [cR, hg, if_false] at h9
          simpa using h9
        rw [this, hOn]
    rw [e1, e2, e3, e4, htm]
  · have : gm q.terms s st = cV q.terms s.casts [] (bp q.terms s.args [] (dg q.terms s st)).2 := rfl
    rw [this]
    simpa using hC2
theorem s3 {q : SProc} {T : List Int} {pl : List Int} (hT : TOk q.terms T) (hh : ∀ (k : Nat) (s : SStep), q.steps[k]? = some s → eg s = true ∧ et s = true ∧ (∀ t ∈ bD s, cA q.terms t = true) ∧ ∀ x ∈ aS s, aJ pl x = cL (dm q) x) (hOn : cL (dm q) (-1) = -1) (hTq : T = f5 q) :
    ∀ (L : List Int) (acc : List SStep) (X Y : List Int) (st : RS), (∀ k ∈ L, 0 ≤ k ∧ k < q.steps.length) → T = X ++ (L.flatMap (fun k => match q.steps[k.toNat]? with | some s => iD q.terms s | none => []) ++ Y) → MS q.terms T X st →
    (eb q pl L acc st).1 = acc ++ gf q L ∧ MS q.terms T (X ++ L.flatMap (fun k => match q.steps[k.toNat]? with | some s => iD q.terms s | none => [])) (eb q pl L acc st).2
  | [], acc, X, Y, st, _, _, hM => by simpa [eb, gf] using hM
  | k :: L, acc, X, Y, st, hr, hX, hM => by
    obtain ⟨s, hs⟩ : ∃ s, q.steps[k.toNat]? = some s := ⟨_, List.getElem?_eq_getElem (by have := hr k (by simp); omega)⟩
    rw [eb, hs]
    dsimp only
    rw [List.flatMap_cons, hs] at hX
    dsimp only at hX
    obtain ⟨a1, a2, a3, a4⟩ := hh _ _ hs
    obtain ⟨h1, h2⟩ := Cm (Y := L.flatMap (fun k => match q.steps[k.toNat]? with | some s => iD q.terms s | none => []) ++ Y) hT a1 a2 a3 (by rw [hX]; simp) hM a4 hOn
    obtain ⟨h3, h4⟩ := s3 hT hh hOn hTq L (acc ++ [gG q.terms pl s st]) (X ++ iD q.terms s) Y (gm q.terms s st).2 (fun j hj => hr j (by simp [hj])) (by rw [hX]; simp) h2
    refine ⟨?_, ?_⟩
    · rw [h3, h1]; unfold gf; rw [List.filterMap_cons, hs]; simp [hTq]
    · rw [List.flatMap_cons, hs, ← List.append_assoc]; exact h4
theorem wl : ∀ {L : List Int} {u u2 : List Bool}, (∀ k ∈ L, 0 ≤ k ∧ k < u.length) → fj L u = some u2 → L.Nodup ∧ (∀ k ∈ L, u[k.toNat]?.getD false = false) ∧ (∀ k ∈ L, u2[k.toNat]?.getD false = true) ∧ ∀ i : Nat, u[i]?.getD false = true → u2[i]?.getD false = true
  | [], u, u2, _, h => by
    cases h
    exact ⟨List.nodup_nil, by simp, by simp, fun i h => h⟩
  | k :: r, u, u2, hr, h => by
    rw [fj] at h
    split at h
    · cases h
    · rename_i hu
      have hu : u[k.toNat]?.getD false = false := by simpa using hu
      have hk := hr k (by simp)
      obtain ⟨h1, h2, h3, h4⟩ := wl (fun j hj => by rw [List.length_set]; exact hr j (by simp [hj])) h
      have hks : (u.set k.toNat true)[k.toNat]?.getD false = true := by rw [List.getElem?_set, if_pos rfl, if_pos (by omega)]; rfl
      have hmono : ∀ i : Nat, u[i]?.getD false = true → (u.set k.toNat true)[i]?.getD false = true := fun i hi => by
        rw [List.getElem?_set]
        split
        · rw [if_pos (by omega)]; rfl
        · exact hi
      refine ⟨?_, fun j hj => ?_, fun j hj => ?_, fun i hi => h4 i (hmono i hi)⟩
      · rw [List.nodup_cons]
        refine ⟨fun hm => ?_, h1⟩
        have := h2 k hm
        rw [hks] at this; cases this
      · rcases List.mem_cons.1 hj with rfl | hj
        · exact hu
        · have := h2 j hj
          cases e : u[j.toNat]?.getD false with
          | false => rfl
          | true => rw [hmono _ e] at this; cases this
      · rcases List.mem_cons.1 hj with rfl | hj
        · exact h4 _ hks
        · exact h3 j hj
theorem qn {ts : List Term} : ∀ {L : List Int} {u u2 : List Bool}, u.length = ts.length → bT ts L u = some u2 → (L.flatMap (bH ts)).Nodup ∧ (∀ k ∈ L.flatMap (bH ts), u[k.toNat]?.getD false = false) ∧ (∀ k ∈ L.flatMap (bH ts), u2[k.toNat]?.getD false = true) ∧ ∀ i : Nat, u[i]?.getD false = true → u2[i]?.getD false = true
  | [], u, u2, _, h => by
    cases h
    exact ⟨by simp, by simp, by simp, fun i h => h⟩
  | t :: r, u, u2, hu, h => by
    rw [bT] at h
    split at h
    · cases h
    · split at h
      · cases h
      · rename_i u3 h3
        obtain ⟨a1, a2, a3, a4⟩ := wl (fun k hk => by have := j3 _ _ k hk; rw [hu]; exact this) h3
        obtain ⟨b1, b2, b3, b4⟩ := qn (L := r) (by rw [mH h3]; exact hu) h
        rw [List.flatMap_cons]
        refine ⟨?_, fun k hk => ?_, fun k hk => ?_, fun i hi => b4 i (a4 i hi)⟩
        · rw [List.nodup_append]
          refine ⟨a1, b1, fun x hx y hy e => ?_⟩
          subst e
          have := b2 x hy
          rw [a3 x hx] at this; cases this
        · rcases List.mem_append.1 hk with hk | hk
          · exact a2 k hk
          · have := b2 k hk
            cases e : u[k.toNat]?.getD false with
            | false => rfl
            | true => rw [a4 _ e] at this; cases this
        · rcases List.mem_append.1 hk with hk | hk
          · exact b4 _ (a3 k hk)
          · exact b3 k hk
theorem qg {q : SProc} {i : Int} : ∀ (l : List SStep) (k : Int) (c d : List Int) (u : List Bool), u.length = q.terms.length → (bF q i l k c d u).e = 0 → (l.flatMap (fun s => (bD s).flatMap (bH q.terms))).Nodup ∧ ∀ x ∈ l.flatMap (fun s => (bD s).flatMap (bH q.terms)), u[x.toNat]?.getD false = false
  | [], _, _, _, _, _, _ => by simp
  | s :: r, k, c, d, u, hu, h => by
    rw [bF] at h
    split at h
    · cases h
    · split at h
      · cases h
      · split at h
        · cases h
        · rename_i c2 d2 _
          split at h
          · cases h
          · split at h
            · cases h
            · rename_i u2 h2
              obtain ⟨a1, a2, a3, a4⟩ := qn hu h2
              obtain ⟨b1, b2⟩ := qg r (k + 1) c2 d2 u2 (by rw [jC h2]; exact hu) h
              rw [List.flatMap_cons]
              refine ⟨?_, fun x hx => ?_⟩
              · rw [List.nodup_append]
                refine ⟨a1, b1, fun x hx y hy e => ?_⟩
                subst e
                have := b2 x hy
                rw [a3 x hx] at this; cases this
              · rcases List.mem_append.1 hx with hx | hx
                · exact a2 x hx
                · have := b2 x hx
                  cases e : u[x.toNat]?.getD false with
                  | false => rfl
                  | true => rw [a4 _ e] at this; cases this
theorem flat_nd {q : SProc} {g : SStep → List Int} (h : (q.steps.flatMap g).Nodup) {L : List Int} (hL : L.Nodup) (hr : ∀ k ∈ L, 0 ≤ k ∧ k < q.steps.length) : (L.flatMap (fun k => match q.steps[k.toNat]? with | some s => g s | none => [])).Nodup := by
  unfold List.Nodup at h ⊢
  rw [List.pairwise_flatMap] at h ⊢
  obtain ⟨h1, h2⟩ := h
  refine ⟨fun k hk => ?_, ?_⟩
  · have hx := List.getElem?_eq_getElem (l := q.steps) (i := k.toNat) (by have := hr k hk; omega)
    rw [hx]
    exact h1 _ (List.getElem_mem _)
  · refine i3 (R := (· ≠ ·)) (fun a ha b hb hne x hx y hy e => ?_) hL
    have h3 := hr a ha
    have h4 := hr b hb
    have hxa := List.getElem?_eq_getElem (l := q.steps) (i := a.toNat) (by omega)
    have hxb := List.getElem?_eq_getElem (l := q.steps) (i := b.toNat) (by omega)
    rw [hxa] at hx
    rw [hxb] at hy
    rcases Int.lt_trichotomy a b with h5 | h5 | h5
    · exact (List.pairwise_iff_getElem.1 h2) a.toNat b.toNat (by omega) (by omega) (by omega) x hx y hy e
    · exact hne h5
    · exact (List.pairwise_iff_getElem.1 h2) b.toNat a.toNat (by omega) (by omega) (by omega) y hy x hx e.symm
theorem qw : ∀ (L : List Int) (i : Int) (pl : List Int), L.Nodup → (∀ k ∈ L, 0 ≤ k ∧ k < pl.length) → ∀ (j : Nat) (x : Int), L[j]? = some x → aJ (eu L i pl) x = i + j
  | [], _, _, _, _, _, _, h => by simp at h
  | y :: r, i, pl, hn, hr, 0, x, h => by
    simp at h; subst h
    rw [List.nodup_cons] at hn
    have hy := hr y (by simp)
    rw [eu]
    have : ∀ (L : List Int) (i : Int) (pl : List Int), y ∉ L → (∀ k ∈ L, 0 ≤ k) → aJ (eu L i pl) y = aJ pl y := by
      intro L
      induction L with
      | nil => intro i pl _ _; rfl
      | cons z t ih =>
        intro i pl hm hz
        rw [eu, ih _ _ (fun h => hm (by simp [h])) (fun k hk => hz k (by simp [hk])), ka (hz z (by simp)) hy.1 (fun e => hm (by simp [e]))]
    rw [this r (i + 1) _ hn.1 (fun k hk => (hr k (by simp [hk])).1), fG hy.1 hy.2 hy.1, if_pos rfl]; omega
  | y :: r, i, pl, hn, hr, j + 1, x, h => by
    rw [List.nodup_cons] at hn
    rw [eu, qw r (i + 1) _ hn.2 (fun k hk => by rw [List.length_set]; exact hr k (by simp [hk])) j x (by simpa using h)]; omega
theorem wv {l : List SProc} {i : Int} {q : SProc} (h : (aX l i q).e = 0) : TOk q.terms (f5 q) := by
  have hF := xW h
  have hS := hF.s
  have hsh : (dR i q).e = 0 := by
    unfold aX at h
    split at h
    · rename_i h2; exact absurd h h2
    · exact h
  have hroots : ∀ (k : Nat) (s : SStep), q.steps[k]? = some s → gh s = bD s := fun k s hs => ib (hS k s hs).1 (hF.ro k s hs)
  have h1 := (qg q.steps 0 _ _ _ (by simp) hsh).1
  have h2 := flat_nd h1 (j4 hS hF.t _ _ (by omega)) (fun k hk => uv hS hk)
  have e : f5 q = (dm q).flatMap (fun k => match q.steps[k.toNat]? with | some s => (bD s).flatMap (bH q.terms) | none => []) := by
    unfold f5
    congr 1
    funext k
    cases hk : q.steps[k.toNat]? with
    | none => rfl
    | some s => dsimp only; unfold iD; rw [hroots _ s hk]
  refine ⟨by rw [e]; exact h2, fun k hk => ?_⟩
  rw [e] at hk
  obtain ⟨a, _, ha⟩ := List.mem_flatMap.1 hk
  split at ha
  · obtain ⟨t, _, ht⟩ := List.mem_flatMap.1 ha
    exact j3 _ _ k ht
  · cases ha
theorem TOk.len {ts : List Term} {T : List Int} (h : TOk ts T) : T.length ≤ ts.length := qC _ _ h.nd h.rg
theorem CC {l : List SProc} {i : Int} {q : SProc} (h : (aX l i q).e = 0) : gp q = fD q := by
  have hR := ul h
  have hF := xW h
  have hS := hF.s
  have hT := hF.t
  have hsh : (dR i q).e = 0 := by
    unfold aX at h
    split at h
    · rename_i h2; exact absurd h h2
    · exact h
  have hts : uS q := jA (fU _ _ _ _ _ hsh)
  have hOn : (dm q).Nodup := j4 hS hT _ _ (by omega)
  have hOr : ∀ k ∈ dm q, 0 ≤ k ∧ k < q.steps.length := fun k hk => uv hS hk
  have hneg : cL (dm q) (-1) = -1 := mW (fun hm => by have := hOr _ hm; omega)
  have hroots : ∀ (k : Nat) (s : SStep), q.steps[k]? = some s → gh s = bD s := fun k s hs => ib (hS k s hs).1 (hF.ro k s hs)
  have hTok := wv h
  have hpl : ∀ x ∈ dm q, aJ (bQ q) x = cL (dm q) x := fun x hx => by
    obtain ⟨j, hj⟩ := List.getElem?_of_mem hx
    unfold bQ
    rw [qw (dm q) 0 _ hOn (fun k hk => by rw [List.length_replicate]; exact hOr k hk) j x hj, tA hOn hj]; omega
  have hin : ∀ x : Int, 0 ≤ x → x < q.steps.length → x ∈ dm q := fun x h0 h1 => by
    have := zw hS hT x.toNat (by omega)
    rwa [show ((x.toNat : Nat) : Int) = x by omega] at this
  obtain ⟨h1, h2⟩ := s3 (pl := bQ q) hTok (fun k s hs => ⟨(hS k s hs).1, hF.ro k s hs, hts k s hs, fun x hx => hpl x (hin x (by have := (hS k s hs).2 x hx; omega) (by have := (hS k s hs).2 x hx; omega))⟩) hneg rfl (dm q) [] [] [] (List.replicate q.terms.length 0, []) hOr (by rw [List.append_nil]; rfl) ⟨by simp, rfl, by simp⟩
  unfold gp fD
  dsimp only
  have h3 := h2.o
  rw [List.nil_append] at h1 h3
  rw [h1, h3]
  rfl
theorem nc {l : List SProc} : ∀ (r : List SProc) (i : Int), (cb (aX l) r i).e = 0 → ∀ q ∈ r, ∃ j, (aX l j q).e = 0
  | [], _, _, q, hq => by cases hq
  | x :: r, i, h, q, hq => by
    rw [cb] at h
    split at h
    · rename_i h1; exact absurd h h1
    · rename_i h1
      rcases List.mem_cons.1 hq with rfl | hq
      · exact ⟨i, by simpa using h1⟩
      · exact nc r (i + 1) h q hq
theorem kZ {pg : SProg} (h : (bW pg).e = 0) : ∀ q ∈ pg.procs, gp q = fD q := fun q hq => by
  obtain ⟨j, hj⟩ := nc _ _ (k4 h).2.1 q hq
  exact CC hj
theorem A1 {pg : SProg} (h : (bW pg).e = 0) : ∀ q ∈ pg.procs, RefOk q ∧ (∀ (k : Nat) (s : SStep), q.steps[k]? = some s → ∀ t ∈ bD s, cA q.terms t = true) ∧ TOk q.terms (f5 q) := fun q hq => by
  obtain ⟨j, hj⟩ := nc _ _ (k4 h).2.1 q hq
  refine ⟨xW hj, ?_, wv hj⟩
  have hsh : (dR j q).e = 0 := by
    unfold aX at hj
    split at hj
    · rename_i h2; exact absurd hj h2
    · exact hj
  exact jA (fU _ _ _ _ _ hsh)
def gT (q : SProc) (k : Int) : List Int := match q.steps[k.toNat]? with
  | some s => iD q.terms s
  | none => []
theorem oz (q : SProc) : (dm q).flatMap (gT q) = f5 q := rfl
def CsAll (H : Hp) (C : List SCast) : Prop := ∀ c ∈ C, RdSl H 1 I64.cells (.slice c.ap.1 c.args.length c.ap.2) c.args
theorem getT_at {ts : List Term} {k : Int} {t : Term} (h : ts[k.toNat]? = some t) : qT ts k = t := by unfold qT; rw [h]; rfl
end Go.Sx
namespace Go.Sx
open Go
theorem j7 {s : Str} : nmS s = [] ↔ s = [] := by unfold nmS; split <;> simp_all
theorem zA {a b : Str} (h : nmS a = nmS b) : a = b := by
  unfold nmS at h
  split at h <;> split at h <;> simp_all
theorem kw_n (c : UInt8) (r : Str) (h : c = 110 ∨ c = 99 ∨ c = 118) : dp (110 :: c :: r) = false := by
  rcases h with rfl | rfl | rfl <;> simp [dp, kw1, kw2, kw3]
theorem yp {ds : Str} (h : ∀ c ∈ ds, 48 ≤ c ∧ c ≤ 57) : ds.all eO = true := by
  refine List.all_eq_true.2 (fun c hc => ?_)
  obtain ⟨h1, h2⟩ := h c hc
  have h1' : (48 : Nat) ≤ c.toNat := by simpa [UInt8.le_iff_toNat_le] using h1
  have h2' : c.toNat ≤ 57 := by simpa [UInt8.le_iff_toNat_le] using h2
  unfold eO im
  simp; right; omega
theorem kw_v (ds : Str) : dp (118 :: ds) = false := by simp [dp, kw1, kw2, kw3]
theorem uA {s : Str} (h : VarNm s) : aG (nmS s) = aG s := by
  rcases h with rfl | rfl | rfl | rfl | ⟨ds, rfl, hl, hd⟩
  · rfl
  · decide
  · decide
  · decide
  · have hall := yp hd
    have e1 : aG (118 :: ds) = true := by
      unfold aG
      rw [if_neg (by simp; omega), if_neg (by simp; omega), if_neg (by simp; decide), kw_v]
      simpa using hall
    rw [e1]
    unfold nmS
    rw [if_neg (by simp)]
    unfold aG
    rw [if_neg (by simp; omega), if_neg (by simp; omega), if_neg (by simp; decide), kw_n _ _ (.inr (.inr rfl))]
    simp only [List.drop_succ_cons, List.drop_zero, List.all_cons, hall, Bool.and_true]
    decide
theorem l8 (s : SStep) : aS (d4 s) = aS s := by
  unfold aS d4
  simp only [List.map_map]
  rfl
theorem wu (s : SStep) : bD (d4 s) = bD s := rfl
theorem CA (s : SStep) : gh (d4 s) = gh s := rfl
theorem qv (l : List Term) : ∀ (f : Nat) (a : Int), dz (l.map nmT) f a = dz l f a
  | 0, _ => rfl
  | f + 1, a => by
    unfold dz
    split
    · rfl
    · rw [List.getElem?_map]
      cases l[a.toNat]? with
      | none => rfl
      | some t => simp only [Option.map_some]; rw [qv l f, qv l f]; rfl
theorem zq (l : List Term) (r : Int) : bH (l.map nmT) r = bH l r := qv l _ _
theorem nmT_id {t : Term} (h : t.name = []) : nmT t = t := by
  obtain ⟨k, n, i, x, l, r⟩ := t
  dsimp only at h
  subst h; rfl
theorem C4 {w : SWay} (h : w.name = []) : nmW w = w := by
  obtain ⟨a, b, c⟩ := w
  dsimp only at h
  subst h; rfl
theorem AX {t : Term} (h : VarNm t.name) : ce (nmT t) = ce t := by
  by_cases hn : t.name = []
  · rw [nmT_id hn]
  · have hn2 : nmS t.name ≠ [] := fun e => hn (j7.1 e)
    simp [ce, nmT, hn, hn2, uA h]
    rfl
theorem zD {l : List Term} (h : ∀ t ∈ l, VarNm t.name) : ∀ (f : Nat) (a d : Int) (m : List Bool), cG (l.map nmT) f a d m = cG l f a d m
  | 0, _, _, _ => rfl
  | f + 1, a, d, m => by
    have ih : (fun to m => cG (l.map nmT) f to (d + 1) m) = (fun to m => cG l f to (d + 1) m) := by funext to m; exact zD h f _ _ _
    unfold cG
    rw [List.getElem?_map]
    cases hx : l[a.toNat]? with
    | none => rfl
    | some t =>
      simp only [Option.map_some]
      rw [AX (h t (List.mem_of_getElem? hx)), ih]
      rfl
theorem yf {l : List Term} (h : ∀ t ∈ l, VarNm t.name) (r : Int) : cA (l.map nmT) r = cA l r := by
  unfold cA; rw [List.length_map, zD h]
theorem lK (l : List Term) : ∀ (f : Nat) (a : Int), eN (l.map nmT) f a = (eN l f a).map nmS
  | 0, _ => rfl
  | f + 1, a => by
    unfold eN
    split
    · rfl
    · rw [List.getElem?_map]
      cases l[a.toNat]? with
      | none => rfl
      | some t =>
        simp only [Option.map_some]
        rw [lK l f, lK l f, List.map_append, List.map_append]
        by_cases hk : t.kind = 0 <;> simp [hk, nmT]
theorem uN (l : List Str) (s : Str) : cq (l.map nmS) (nmS s) = cq l s := by
  unfold cq
  congr 1
  simp only [List.mem_map, eq_iff_iff]
  exact ⟨fun ⟨x, hx, e⟩ => zA e ▸ hx, fun h => ⟨s, h, rfl⟩⟩
theorem once_nm (l : List Str) : dj (l.map nmS) = dj l := by
  unfold dj
  congr 1
  rw [eq_iff_iff]
  refine ⟨fun h => ?_, fun h => ?_⟩
  · exact List.Pairwise.imp (fun hab e => hab (by rw [e])) (List.pairwise_map.1 h)
  · exact List.pairwise_map.2 (List.Pairwise.imp (fun hab e => hab (zA e)) h)
theorem vars_nm {l : List Term} (h : ∀ t ∈ l, VarNm t.name) (r : Int) (bd : List Str) : (gl (l.map nmT) r).all (fun n => cq (bd.map nmS) n) = (gl l r).all (fun n => cq bd n) := by
  by_cases hm : cA l r = true
  · have hm2 : cA (l.map nmT) r = true := by rw [yf h]; exact hm
    rw [Bool.eq_iff_iff, List.all_eq_true, List.all_eq_true]
    refine ⟨fun H x hx => ?_, fun H x hx => ?_⟩
    · have h1 := (j9 hm).1 hx
      have h2 : nmS x ∈ gl (l.map nmT) r := (j9 hm2).2 (by rw [lK]; exact List.mem_map.2 ⟨x, h1, rfl⟩)
      have := H _ h2
      rwa [uN] at this
    · have h1 := (j9 hm2).1 hx
      rw [lK] at h1
      obtain ⟨y, hy, rfl⟩ := List.mem_map.1 h1
      rw [uN]; exact H y ((j9 hm).2 hy)
  · rw [pW hm, pW (by rw [yf h]; exact hm)]; rfl
theorem xw (s : SStep) : cd (d4 s) = (cd s).map nmS := by
  unfold cd
  rw [l8]
  show (if s.kind = 1 ∨ s.kind = 8 then [nmS s.name] else if s.kind = 5 then (s.ways.map nmW).map (·.name) else List.replicate (aS s).length []) = _
  split
  · rfl
  · split
    · rw [List.map_map, List.map_map]; rfl
    · rw [List.map_replicate]; rfl
theorem sO {w : SWay} (h : VarNm w.name) : dH (nmW w) = dH w := by
  by_cases hn : w.name = []
  · rw [C4 hn]
  · have hn2 : nmS w.name ≠ [] := fun e => hn (j7.1 e)
    simp [dH, nmW, hn, hn2, uA h]
    rfl
theorem DJ (w : SWay) : jl (nmW w) = jl w := by
  by_cases hn : w.name = []
  · rw [C4 hn]
  · have hn2 : nmS w.name ≠ [] := fun e => hn (j7.1 e)
    simp [jl, nmW, hn, hn2]
theorem ways_nm {s : SStep} (h : ∀ w ∈ s.ways, VarNm w.name) : eW (d4 s) = eW s := by
  have hb : ∀ i : Nat, jl ((s.ways.map nmW)[i]?.getD w00) = jl (s.ways[i]?.getD w00) := fun i => by
    rw [List.getElem?_map]
    cases s.ways[i]? with
    | none => rfl
    | some w => exact DJ w
  have hall : (s.ways.map nmW).all (fun w => !dH w) = s.ways.all (fun w => !dH w) := by
    rw [Bool.eq_iff_iff, List.all_eq_true, List.all_eq_true]
    exact ⟨fun H w hw => by have := H _ (List.mem_map.2 ⟨w, hw, rfl⟩); rwa [sO (h w hw)] at this, fun H x hx => by obtain ⟨w, hw, rfl⟩ := List.mem_map.1 hx; rw [sO (h w hw)]; exact H w hw⟩
  unfold eW
  show (if s.kind = 3 then decide (((s.ways.map nmW).length : Int) = 2) && (jl ((s.ways.map nmW)[0]?.getD w00) && jl ((s.ways.map nmW)[1]?.getD w00)) else decide ((1 : Int) ≤ (s.ways.map nmW).length) && (decide (((s.ways.map nmW).length : Int) ≤ 7) && ((s.ways.map nmW).all (fun w => !dH w) && dj ((s.ways.map nmW).map (·.label))))) = _
  rw [hb, hb, hall, List.length_map, List.map_map]
  rfl
theorem bareN (s : SStep) : (cR (d4 s)).name = nmS (cR s).name := by
  unfold cR
  show (if s.kind = 1 ∨ s.kind = 4 ∨ s.kind = 5 ∨ s.kind = 8 ∨ s.kind = 9 then [] else nmS s.name) = nmS (if s.kind = 1 ∨ s.kind = 4 ∨ s.kind = 5 ∨ s.kind = 8 ∨ s.kind = 9 then [] else s.name)
  split <;> rfl
theorem bareWn (s : SStep) : (cR (d4 s)).ways.length = (cR s).ways.length := by
  unfold cR
  show (if s.kind = 3 ∨ s.kind = 5 then [] else s.ways.map nmW).length = (if s.kind = 3 ∨ s.kind = 5 then [] else s.ways).length
  split <;> simp
theorem badX_nm (s : SStep) : iO (cR (d4 s)) = iO (cR s) := by
  have e1 : decide ((cR (d4 s)).name = []) = decide ((cR s).name = []) := by
    rw [decide_eq_decide, bareN, j7]
  have e2 : decide (0 < ((cR (d4 s)).ways.length : Int)) = decide (0 < ((cR s).ways.length : Int)) := by rw [bareWn]
  unfold iO
  rw [e1, e2]
  rfl
theorem mayS_nm {s : SStep} (hn : VarNm s.name) (hw : ∀ w ∈ s.ways, VarNm w.name) : eg (d4 s) = eg s := by
  have e := badX_nm s
  have e2 := ways_nm hw
  have e3 : aG (d4 s).name = aG s.name := uA hn
  unfold eg
  rw [e, e2, e3]
  rfl
structure VarOk (q : SProc) : Prop where
  p : ∀ x ∈ q.params, VarNm x.name
  t : ∀ t ∈ q.terms, VarNm t.name
  s : ∀ s ∈ q.steps, VarNm s.name ∧ ∀ w ∈ s.ways, VarNm w.name
theorem GenQ.var {N : Nat} {q : SProc} (h : GenQ N q) : VarOk q := ⟨fun x hx => (h.pv x hx).1, fun t ht => (h.t t ht).1, fun s hs => ⟨(h.s s hs).name, fun w hw => ((h.s s hs).w w hw).n⟩⟩
theorem qm {l : List Term} (h : ∀ t ∈ l, VarNm t.name) : ∀ (ts : List Int) (u : List Bool), bT (l.map nmT) ts u = bT l ts u
  | [], _ => rfl
  | t :: r, u => by
    unfold bT
    rw [yf h, zq]
    split
    · rfl
    · split
      · rfl
      · exact qm h r _
theorem qf {q : SProc} (h : VarOk q) (i : Int) : ∀ (l : List SStep) (a : Int) (c d : List Int) (u : List Bool), (∀ s ∈ l, s ∈ q.steps) → bF (nmQ q) i (l.map d4) a c d u = bF q i l a c d u
  | [], _, _, _, _, _ => rfl
  | s :: r, a, c, d, u, hl => by
    have hs := h.s s (hl s (by simp))
    have e1 := mayS_nm hs.1 hs.2
    have e2 : (nmQ q).steps.length = q.steps.length := by simp [nmQ]
    have e3 : dr (d4 s) a d = dr s a d := rfl
    rw [List.map_cons]
    unfold bF
    rw [e1, e2, e3, l8, wu, show (nmQ q).terms = q.terms.map nmT from rfl]
    split
    · rfl
    · split
      · rfl
      · split
        · rfl
        · split
          · rfl
          · rw [qm h.t]
            split
            · rfl
            · exact qf h i r _ _ _ _ (fun x hx => hl x (by simp [hx]))
theorem Cr {q : SProc} (h : VarOk q) (i : Int) : dR i (nmQ q) = dR i q := by
  unfold dR
  rw [show (nmQ q).steps = q.steps.map d4 from rfl, show (nmQ q).terms = q.terms.map nmT from rfl, List.length_map, List.length_map]
  exact qf h i _ _ _ _ _ (fun _ h => h)
theorem C7 (l : List SProc) : (l.map nmQ).map (·.name) = l.map (·.name) := by rw [List.map_map]; rfl
theorem uP (l : List SProc) (s : Str) : dq (l.map nmQ) s = dq l s := by unfold dq; rw [C7]
theorem tD {x : SParam} (h : VarNm x.name) : dI (nmP x) = dI x := by unfold dI; rw [show (nmP x).name = nmS x.name from rfl, uA h]; rfl
theorem head_nm {q : SProc} (h : VarOk q) (l : List SProc) (i : Int) : ew (l.map nmQ) i (nmQ q) = ew l i q := by
  have e1 : bL (nmQ q) = bL q := by
    unfold bL
    rw [show (nmQ q).params = q.params.map nmP from rfl, show (nmQ q).steps = q.steps.map d4 from rfl, show (nmQ q).terms = q.terms.map nmT from rfl, List.length_map, List.length_map, List.length_map]
    rfl
  have e2 : (nmQ q).params.all dI = q.params.all dI := by
    rw [show (nmQ q).params = q.params.map nmP from rfl, Bool.eq_iff_iff, List.all_eq_true, List.all_eq_true]
    exact ⟨fun H x hx => by have := H _ (List.mem_map.2 ⟨x, hx, rfl⟩); rwa [tD (h.p x hx)] at this, fun H y hy => by obtain ⟨x, hx, rfl⟩ := List.mem_map.1 hy; rw [tD (h.p x hx)]; exact H x hx⟩
  have e3 : dj ((nmQ q).params.map (·.name)) = dj (q.params.map (·.name)) := by
    rw [show (nmQ q).params.map (·.name) = (q.params.map (·.name)).map nmS by simp [nmQ, List.map_map, Function.comp_def, nmP]]
    exact once_nm _
  unfold ew
  rw [e1, e2, e3, uP]
  rfl
end Go.Sx
namespace Go.Sx
open Go
theorem zK (l : List SProc) (k : Int) : (kX (l.map nmQ) k).params.length = (kX l k).params.length := by
  unfold kX
  rw [List.getElem?_map]
  cases l[k.toNat]? with
  | none => rfl
  | some q => show (nmQ q).params.length = _; simp [nmQ]
theorem xu (l : List SProc) (s : Str) (n : Int) : bN (l.map nmQ) s n = bN l s n := by
  unfold bN; rw [uP, zK]
theorem qy (s : SStep) : ∀ l, de (d4 s) l = de s l
  | [] => rfl
  | x :: r => by
    unfold de
    rw [qy s r]
    rfl
theorem DL {ts : List Term} (h : ∀ t ∈ ts, VarNm t.name) (s : SStep) (bd : List Str) : (cM (ts.map nmT) (d4 s)).all (fun n => cq (bd.map nmS) n) = (cM ts s).all (fun n => cq bd n) := by
  unfold cM
  rw [List.all_append, List.all_append, wu]
  congr 1
  · rw [List.all_flatMap, List.all_flatMap]
    congr 1
    funext r
    exact vars_nm h r bd
  · show (if s.kind = 4 ∨ s.kind = 5 ∨ s.kind = 9 then [nmS s.name] else []).all _ = _
    split
    · simp [uN]
    · rfl
theorem Co (P : SProg) {ts : List Term} (h : ∀ t ∈ ts, VarNm t.name) (s : SStep) (bd : List Str) : eE (nmG P) (ts.map nmT) (d4 s) (bd.map nmS) = eE P ts s bd := by
  have e1 := DL h s bd
  have e2 : (cd (d4 s)).all (fun n => !(!decide (n = []) && cq (bd.map nmS) n)) = (cd s).all (fun n => !(!decide (n = []) && cq bd n)) := by
    rw [xw, List.all_map]
    congr 1
    funext n
    show (!(!decide (nmS n = []) && cq (bd.map nmS) (nmS n))) = _
    rw [uN, show decide (nmS n = []) = decide (n = []) by rw [decide_eq_decide, j7]]
  have e4 : s.casts.all (fun c => bN (P.procs.map nmQ) c.proc (c.args.length + 1)) = s.casts.all (fun c => bN P.procs c.proc (c.args.length + 1)) := by
    congr 1
    funext c
    exact xu _ _ _
  unfold eE
  rw [e1, e2]
  show (if _ then _ else if _ then _ else if (!decide (s.proc = []) && !bN (P.procs.map nmQ) s.proc s.args.length) = true then _ else if s.casts.all (fun c => bN (P.procs.map nmQ) c.proc (c.args.length + 1)) = false then _ else if (decide (s.kind = 8) && !de (d4 s) P.protos) = true then _ else _) = _
  rw [e4, xu, qy]
  rfl
theorem CM (b : List (List Str)) (a t : Int) (m : Str) : lY (b.map (·.map nmS)) a t (nmS m) = (lY b a t m).map (·.map nmS) := by
  unfold lY
  rw [List.map_set, List.getElem?_map]
  congr 1
  have e : (if nmS m = [] then ([] : List Str) else [nmS m]) = (if m = [] then [] else [m]).map nmS := by
    by_cases hm : m = []
    · subst hm; rfl
    · rw [if_neg hm, if_neg (fun e => hm (j7.1 e))]; rfl
  rw [e, List.map_append]
  congr 1
  cases b[a.toNat]? <;> rfl
theorem re (a : Int) : ∀ (L : List Int) (ms : List Str) (b : List (List Str)), fe a L (ms.map nmS) (b.map (·.map nmS)) = (fe a L ms b).map (·.map nmS)
  | [], _, _ => rfl
  | t :: r, ms, b => by
    unfold fe
    have e : (ms.map nmS).headD [] = nmS (ms.headD []) := by cases ms <;> rfl
    rw [e, CM, ← List.map_drop]
    exact re a r _ _
theorem qj (P : SProg) {q : SProc} (h : VarOk q) (i : Int) : ∀ (l : List SStep) (a : Int) (b : List (List Str)), du (nmG P) (nmQ q) i (l.map d4) a (b.map (·.map nmS)) = du P q i l a b
  | [], _, _ => rfl
  | s :: r, a, b => by
    rw [List.map_cons]
    unfold du
    have e : (b.map (·.map nmS))[a.toNat]?.getD [] = (b[a.toNat]?.getD []).map nmS := by rw [List.getElem?_map]; cases b[a.toNat]? <;> rfl
    rw [e, show (nmQ q).terms = q.terms.map nmT from rfl, Co P h.t, l8, xw, re, qj P h i r]
theorem Cy (P : SProg) {q : SProc} (h : VarOk q) (i : Int) : dS (nmG P) i (nmQ q) = dS P i q := by
  have e : gj (nmQ q) = (gj q).map (·.map nmS) := by
    unfold gj
    rw [show (nmQ q).steps = q.steps.map d4 from rfl, List.length_map, List.map_set, List.map_replicate]
    congr 1
    simp [nmQ, nmP, List.map_map, Function.comp_def]
  unfold dS
  rw [e, show (nmQ q).steps = q.steps.map d4 from rfl]
  exact qj P h i _ _ _
theorem jQ {f g : Int → SProc → SFault} {m : SProc → SProc} : ∀ (l : List SProc) (i : Int), (∀ j, ∀ q ∈ l, g j (m q) = f j q) → cb g (l.map m) i = cb f l i
  | [], _, _ => rfl
  | q :: r, i, h => by
    rw [List.map_cons]
    unfold cb
    rw [h i q (by simp), jQ r (i + 1) (fun j x hx => h j x (by simp [hx]))]
theorem uM {q : SProc} (h : VarOk q) (l : List SProc) (i : Int) : aX (l.map nmQ) i (nmQ q) = aX l i q := by unfold aX; rw [head_nm h, Cr h]
theorem xt {P : SProg} (h : ∀ q ∈ P.procs, VarOk q) : bW (nmG P) = bW P := by
  have e0 : gb (nmG P) = gb P := by
    unfold gb
    rw [show (nmG P).procs = P.procs.map nmQ from rfl, List.length_map]
    rfl
  have e1 : cb (aX (nmG P).procs) (nmG P).procs 0 = cb (aX P.procs) P.procs 0 := jQ _ _ (fun j q hq => uM (h q hq) _ _)
  have e2 : fP (nmG P).procs = fP P.procs := by
    unfold fP
    rw [show (nmG P).procs = P.procs.map nmQ from rfl, uP, zK]
  have e3 : cb (dS (nmG P)) (nmG P).procs 0 = cb (dS P) P.procs 0 := jQ _ _ (fun j q hq => Cy P (h q hq) _)
  unfold bW
  rw [e0, e1, e2, e3]
end Go.Sx
