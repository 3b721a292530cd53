import Derived.Test.YtilggjefbbiccaaDoorSx9
set_option linter.unusedSimpArgs false
set_option linter.unusedVariables false
namespace Go.Sx
open Go

/-! ## slices that grow -/
theorem flat_len {α : Type} {enc : α → List Value} {k : Nat} : ∀ {l : List α}, (∀ x ∈ l, (enc x).length = k) → (l.flatMap enc).length = l.length * k
  | [], _ => by simp
  | x :: l, h => by
    simp only [List.flatMap_cons, List.length_append, List.length_cons, Nat.succ_mul]
    rw [h x (by simp), flat_len (fun y hy => h y (List.mem_cons_of_mem _ hy))]; omega
theorem flat_get {α : Type} {enc : α → List Value} {k : Nat} : ∀ {l : List α}, (∀ x ∈ l, (enc x).length = k) → ∀ (i : Nat) (x : α), l[i]? = some x → ∀ j u, (enc x)[j]? = some u → (l.flatMap enc)[i * k + j]? = some u
  | [], _, i, x, hx, _, _, _ => by simp at hx
  | y :: l, hk, 0, x, hx, j, u, hu => by
    simp only [List.getElem?_cons_zero, Option.some.injEq] at hx
    subst hx
    have : j < (enc y).length := (List.getElem?_eq_some_iff.1 hu).1
    simp only [List.flatMap_cons, Nat.zero_mul, Nat.zero_add]
    rw [List.getElem?_append_left this]; exact hu
  | y :: l, hk, i + 1, x, hx, j, u, hu => by
    have h1 := hk y (by simp)
    simp only [List.flatMap_cons]
    rw [List.getElem?_append_right (by rw [h1, Nat.succ_mul]; omega), h1, show (i + 1) * k + j - k = i * k + j by rw [Nat.succ_mul]; omega]
    exact flat_get (fun z hz => hk z (List.mem_cons_of_mem _ hz)) i x (by simpa using hx) j u hu
/-- each cell of the row is a cell of an element -/
theorem flat_part {α : Type} {enc : α → List Value} {k : Nat} (hk : 0 < k) : ∀ {l : List α}, (∀ x ∈ l, (enc x).length = k) → ∀ (o : Nat) (u : Value), (l.flatMap enc)[o]? = some u → ∃ x, l[o / k]? = some x ∧ (enc x)[o % k]? = some u
  | [], _, o, u, h => by simp at h
  | y :: l, hl, o, u, h => by
    have h1 := hl y (by simp)
    simp only [List.flatMap_cons] at h
    by_cases ho : o < k
    · rw [List.getElem?_append_left (by omega)] at h
      exact ⟨y, by rw [Nat.div_eq_of_lt ho]; rfl, by rw [Nat.mod_eq_of_lt ho]; exact h⟩
    · rw [List.getElem?_append_right (by omega), h1] at h
      obtain ⟨x, hx, hu⟩ := flat_part hk (fun z hz => hl z (List.mem_cons_of_mem _ hz)) (o - k) u h
      refine ⟨x, ?_, ?_⟩
      · rw [show o / k = (o - k) / k + 1 by rw [← Nat.add_div_right _ hk]; congr 1; omega]
        simpa using hx
      · rw [show o % k = (o - k) % k from Nat.mod_eq_sub_mod (by omega)]; exact hu

/-- how an element lies in cells -/
class Cells {α : Type} (k : outParam Nat) (enc : α → List Value) : Prop where
  len : ∀ x, (enc x).length = k
  pos : 0 < k
  one : ∀ x, (enc x).all (·.oneCell') = true

/-- a slice of one's own that may grow: nothing yet, or a block -/
def OwnSl {α : Type} (k : Nat) (enc : α → List Value) (v : Value) (xs : List α) (ob : Blks) : Prop :=
  (v = .slice none 0 0 ∧ xs = [] ∧ ob = []) ∨
  ∃ b cap cs, v = .slice (some ⟨b, 0, none⟩) xs.length cap ∧ ob = [(b, cs)] ∧ cs.length = cap * k ∧ cs.take (xs.length * k) = xs.flatMap enc ∧ xs.length ≤ cap ∧ cap ≤ 9223372036854775807

theorem OwnSl.nil {α : Type} {k : Nat} {enc : α → List Value} : OwnSl k enc (.slice none 0 0) [] [] := .inl ⟨rfl, rfl, rfl⟩
theorem OwnSl.blk {α : Type} {k : Nat} {enc : α → List Value} [he : Cells k enc] {b n : Nat} {cs : List Value} (xs : List α) (hn : n = xs.length) (hc : cs = xs.flatMap enc) (hm : n ≤ 9223372036854775807) : OwnSl k enc (.slice (some ⟨b, 0, none⟩) n n) xs [(b, cs)] := by
  subst hn hc
  have := flat_len (l := xs) (fun x _ => he.len x)
  exact .inr ⟨b, _, _, rfl, rfl, this, by rw [← this, List.take_length], Nat.le_refl _, hm⟩
theorem OwnSl.max {α : Type} {k : Nat} {enc : α → List Value} {v : Value} {xs : List α} {ob : Blks} (h : OwnSl k enc v xs ob) : xs.length ≤ 9223372036854775807 := by
  rcases h with ⟨_, rfl, _⟩ | ⟨b, cap, cs, _, _, _, _, h1, h2⟩
  · simp
  · omega

theorem OwnSl.form {α : Type} {k : Nat} {enc : α → List Value} {v : Value} {xs : List α} {ob : Blks} (h : OwnSl k enc v xs ob) : ∃ a c, v = .slice a xs.length c := by
  rcases h with ⟨rfl, rfl, _⟩ | ⟨b, cap, cs, rfl, _⟩
  · exact ⟨_, _, rfl⟩
  · exact ⟨_, _, rfl⟩

/-- L with the blocks ob in it turns to L' ob' -/
inductive Tl (ob : Blks) : Blks → (Blks → Blks) → Prop
  | all : Tl ob ob (fun ob' => ob')
  | app (R : Blks) : Tl ob (ob ++ R) (fun ob' => ob' ++ R)
  | skip (x : Nat × List Value) {L : Blks} {F : Blks → Blks} (h : Tl ob L F) : Tl ob (x :: L) (fun ob' => x :: F ob')
  | new (L : Blks) (h : ob = []) : Tl ob L (fun ob' => L ++ ob')
  | take {x : Nat × List Value} {L R : Blks} (h : Mv x L R) (e : ob = [x]) : Tl ob L (fun ob' => R ++ ob')
  | past (A : Blks) {L : Blks} {F : Blks → Blks} (h : Tl ob L F) : Tl ob (A ++ L) (fun ob' => A ++ F ob')
theorem Tl.perm {ob L : Blks} {F : Blks → Blks} (h : Tl ob L F) : ∃ R, L.Perm (ob ++ R) ∧ ∀ ob', (F ob').Perm (ob' ++ R) := by
  induction h with
  | all => exact ⟨[], by simp, by simp⟩
  | app R => exact ⟨R, List.Perm.refl _, fun _ => List.Perm.refl _⟩
  | skip x _ ih =>
    obtain ⟨R, h1, h2⟩ := ih
    exact ⟨x :: R, (h1.cons x).trans List.perm_middle.symm, fun ob' => ((h2 ob').cons x).trans List.perm_middle.symm⟩
  | new L h =>
    subst h
    exact ⟨L, by simp, fun ob' => List.perm_append_comm⟩
  | take h e =>
    subst e
    exact ⟨_, h.perm, fun ob' => List.perm_append_comm⟩
  | past A _ ih =>
    obtain ⟨R, h1, h2⟩ := ih
    have key : ∀ (B : Blks), (A ++ (B ++ R)).Perm (B ++ (A ++ R)) := fun B => by
      rw [← List.append_assoc, ← List.append_assoc]; exact (List.perm_append_comm).append_right R
    exact ⟨A ++ R, (h1.append_left A).trans (key _), fun ob' => ((h2 ob').append_left A).trans (key _)⟩

/-- what is appended: it may be read -/
def Src {α : Type} (M : List Nat) (w0 : World) (H0 H : Hp) (L : Blks) (enc : α → List Value) (v : Value) (ys : List α) : Prop :=
  ∃ a cap, v = .slice a ys.length cap ∧ (ys ≠ [] → ∃ b o, a = some ⟨b, o, none⟩ ∧ ∀ w, St M w0 H0 H L w → ∀ j u, (ys.flatMap enc)[j]? = some u → w.cell? ⟨b, o + j, none⟩ = some u)

section
variable {P : Program} {n : Nat} {ops : Array Oper} {Q : Exit → Act → World → Prop} {E : Env} {M : List Nat} {w0 : World} {H0 H : Hp} {L : Blks} {C : World → Prop} {rest : List Oper} {dst : Option Nat} {ty : TypeId} {pos : String} {aft : Array Edge}

theorem Src.sl {α : Type} {k : Nat} {enc : α → List Value} [he : Cells k enc] {v : Value} {ys : List α} (h : RdSl H k enc v ys) : Src M w0 H0 H L enc v ys := by
  obtain ⟨a, cap, rfl⟩ := h.len
  refine ⟨a, cap, rfl, fun hne => ?_⟩
  obtain ⟨cap', hv⟩ := h.addr hne
  refine ⟨_, _, (Value.slice.inj hv).1, fun w hw j u hu => ?_⟩
  obtain ⟨x, hx, hux⟩ := flat_part he.pos (fun x _ => he.len x) j u hu
  have := hw.hp _ _ _ (h.get _ x hx _ u hux)
  rw [Nat.add_assoc, Nat.div_add_mod'] at this
  exact this
theorem Src.own {α : Type} {k : Nat} {enc : α → List Value} [he : Cells k enc] {b m cap : Nat} {cs : List Value} (ys : List α) (hL : InL b cs L) (hm : m = ys.length) (hc : cs.take (m * k) = ys.flatMap enc) : Src M w0 H0 H L enc (.slice (some ⟨b, 0, none⟩) m cap) ys := by
  subst hm
  refine ⟨_, _, rfl, fun _ => ⟨_, _, rfl, fun w hw j u hu => ?_⟩⟩
  rw [Nat.zero_add, hw.cell hL j]
  rw [← hc, List.getElem?_take] at hu
  split at hu
  · exact hu
  · cases hu

theorem Src.none {α : Type} {enc : α → List Value} : Src M w0 H0 H L enc (.slice none 0 0) ([] : List α) := ⟨_, _, rfl, fun h => absurd rfl h⟩
theorem Src.og {α : Type} {k : Nat} {enc : α → List Value} [he : Cells k enc] {v : Value} {ys : List α} {ob : Blks} {F : Blks → Blks} (hO : OwnSl k enc v ys ob) (hU : Tl ob L F) : Src M w0 H0 H L enc v ys := by
  rcases hO with ⟨rfl, rfl, rfl⟩ | ⟨b, cap, cs, rfl, rfl, hcl, htk, hle, hcm⟩
  · exact Src.none
  · obtain ⟨R, hp1, _⟩ := hU.perm
    refine ⟨_, _, rfl, fun _ => ⟨_, _, rfl, fun w hw j u hu => ?_⟩⟩
    rw [Nat.zero_add, (hw.perm hp1).cell (.here _) j]
    rw [← htk, List.getElem?_take] at hu
    split at hu
    · exact hu
    · cases hu

theorem setCells_eq : ∀ (vs cs : List Value) (o : Nat), o + vs.length ≤ cs.length → setCells cs o vs = cs.take o ++ (vs ++ cs.drop (o + vs.length))
  | [], cs, o, _ => by simp [setCells]
  | v :: vs, cs, o, h => by
    simp only [setCells]
    simp only [List.length_cons] at h
    rw [setCells_eq vs (cs.set o v) (o + 1) (by simp; omega)]
    apply List.ext_getElem?
    intro i
    simp only [List.getElem?_append, List.getElem?_take, List.getElem?_drop, List.length_take, List.length_set, List.getElem?_set, List.getElem?_cons, List.length_cons, List.length_drop, List.length_append, List.cons_append]
    by_cases h1 : i < o
    · have : i < min (o + 1) cs.length := by omega
      have h2 : i < min o cs.length := by omega
      simp [this, h2, show ¬ o = i by omega, h1, show i < o + 1 by omega]
    · by_cases h2 : i = o
      · subst h2
        have h3 : i < min (i + 1) cs.length := by omega
        have h4 : min i cs.length = i := by omega
        simp [h3, h4, show i < cs.length by omega]
      · have h3 : ¬ i < min (o + 1) cs.length := by omega
        have h4 : ¬ i < min o cs.length := by omega
        simp only [h3, h4, if_false]
        rw [show min (o + 1) cs.length = o + 1 by omega, show min o cs.length = o by omega]
        by_cases h5 : i - (o + 1) < vs.length
        · simp [h5, show ¬ i - o = 0 by omega, show i - o - 1 = i - (o + 1) by omega]
        · simp [h5, show ¬ i - o = 0 by omega, show i - o - 1 = i - (o + 1) by omega, show ¬ o = o + 1 + vs.length + (i - (o + 1) - vs.length) by omega, show o + (vs.length + 1) + (i - (o + 1) - vs.length) = o + 1 + vs.length + (i - (o + 1) - vs.length) by omega]

theorem run_firstCells_list (size m : Nat) (a : Addr) (c : Nat) (news : List Value) (hl : news.length = m * size) (w : World) (h : ∀ j u, news[j]? = some u → w.cell? (a.add j) = some u) :
    (Builtin.firstCells size m (.slice (some a) m c)).run P w = .ok news.toArray w := run_firstCells_some (P := P) w size m a m c news hl h

theorem run_append {α : Type} {k e bs t : Nat} {z : List Value} {enc : α → List Value} [hc : Cells k enc] [hE : Elz P t e k bs z] {v v2 : Value} {xs ys : List α} {ob : Blks} {F : Blks → Blks} {ty : TypeId}
    (hO : OwnSl k enc v xs ob) (hS : Src M w0 H0 H L enc v2 ys) (hb : (xs.length + ys.length) * bs ≤ 140737488355328) (hbs : 0 < bs) (hU : Tl ob L F) {w : World} (hw : St M w0 H0 H L w) :
    ∃ v' ob' w', OwnSl k enc v' (xs ++ ys) ob' ∧ St M w0 H0 H (F ob') w' ∧ (Builtin.append_ #[t, t] ty #[v, v2]).run P w = .ok v' w' := by
  obtain ⟨hu, i, zv, hi, h1, h2, h3, h4⟩ := hE.und
  have hk := hc.pos
  have hmax : xs.length + ys.length ≤ 140737488355328 := Nat.le_trans (Nat.le_mul_of_pos_right _ hbs) hb
  obtain ⟨R, hp1, hp2⟩ := hU.perm
  have hwR := hw.perm hp1
  obtain ⟨a, cap2, rfl, hsrc⟩ := hS
  have hzk : zv.cells.size = k := by rw [← hE.len, ← h4]; simp
  have hzl : ∀ m, (Builtin.zeroCells zv.cells m).toList.length = m * k := by intro m; rw [Array.length_toList, size_zeroCells, hzk]
  by_cases hys : ys = []
  · -- nothing is appended
    subst hys
    have hfc : ∀ w, (Builtin.firstCells i.size 0 (.slice a 0 cap2)).run P w = .ok #[] w := by
      intro w
      cases a with
      | none => exact run_firstCells_none w _ _ _ _
      | some a => exact run_firstCells_some (P := P) w i.size 0 a 0 cap2 [] (by simp) (by simp)
    rcases hO with ⟨rfl, rfl, rfl⟩ | ⟨b, cap, cs, rfl, rfl, hcl, htk, hle, hcm⟩
    · refine ⟨.slice none 0 0, [], w, .inl ⟨rfl, rfl, rfl⟩, hw.perm (hp1.trans (hp2 []).symm), ?_⟩
      simp [Builtin.append_, run_underlying hu, sizeOf, typeInfo, hi, Builtin.lenOf, hfc]
    · refine ⟨.slice (some ⟨b, 0, none⟩) xs.length cap, [(b, cs)], w, .inr ⟨b, cap, cs, by simp, rfl, hcl, by simpa using htk, by simpa using hle, hcm⟩, hw.perm (hp1.trans (hp2 _).symm), ?_⟩
      simp [Builtin.append_, run_underlying hu, sizeOf, typeInfo, hi, Builtin.lenOf, hfc, hle, storeCells]
  · obtain ⟨sb, so, rfl, hrd⟩ := hsrc hys
    have hrd' : ∀ j u, (ys.flatMap enc)[j]? = some u → w.cell? ((⟨sb, so, none⟩ : Addr).add j) = some u := fun j u hj => by rw [add_lit']; exact hrd w hw j u hj
    have hyl : (ys.flatMap enc).length = ys.length * k := flat_len (fun x _ => hc.len x)
    have hyl' : (ys.flatMap enc).length = ys.length * i.size := by rw [hyl, h1]
    have hypos : 0 < ys.length := List.length_pos_iff.2 hys
    have hone : ∀ u ∈ ys.flatMap enc, u.oneCell' = true := by
      intro u hu
      obtain ⟨x, _, hx⟩ := List.mem_flatMap.1 hu
      exact List.all_eq_true.1 (hc.one x) u hx
    have hgrown : ∀ (b' cap' : Nat) (ds : List Value), ds.length = cap' * k → ds.take ((xs ++ ys).length * k) = (xs ++ ys).flatMap enc → (xs ++ ys).length ≤ cap' → cap' ≤ 9223372036854775807 →
        OwnSl k enc (.slice (some ⟨b', 0, none⟩) (xs ++ ys).length cap') (xs ++ ys) [(b', ds)] := fun b' cap' ds e1 e2 e3 e4 => .inr ⟨b', cap', ds, rfl, rfl, e1, e2, e3, e4⟩
    have hxl : (xs.flatMap enc).length = xs.length * k := flat_len (fun x _ => hc.len x)
    have hfl : (xs ++ ys).flatMap enc = xs.flatMap enc ++ ys.flatMap enc := by simp
    have hll : (xs ++ ys).length * k = (xs.flatMap enc ++ ys.flatMap enc).length := by simp only [List.length_append]; rw [hxl, hyl, Nat.add_mul]
    rcases hO with ⟨rfl, rfl, rfl⟩ | ⟨b, cap, cs, rfl, rfl, hcl, htk, hle, hcm⟩
    · -- the first block
      have hb0 : ys.length * i.bytes ≤ 281474976710656 := by rw [h2]; simp at hb; omega
      have hr := run_append_nil (P := P) w t ty e i zv hu hi h3 ⟨sb, so, none⟩ ys.length cap2 (ys.flatMap enc) hyl' hrd' hypos (by simp at hmax; omega) hb0
      have hge := grownCap_ge w ys.length 0 e
      have hcm := grownCap_le_maxLen w ys.length 0 e (by simp only [maxLen]; simp at hmax; omega)
      simp only [maxLen] at hcm
      have hst := (hwR.drew).alloc ((ys.flatMap enc) ++ (Builtin.zeroCells zv.cells (grownCap w ys.length 0 e - ys.length)).toList) e
      refine ⟨_, [(w.heap.size, (ys.flatMap enc) ++ (Builtin.zeroCells zv.cells (grownCap w ys.length 0 e - ys.length)).toList)], _, hgrown _ (grownCap w ys.length 0 e) _ ?_ ?_ ?_ ?_, hst.perm (hp2 [(_, _)]).symm, ?_⟩
      · rw [List.length_append, hyl, hzl, ← Nat.add_mul]; congr 1; omega
      · rw [hfl, hll]; simp
      · simpa using hge
      · omega
      · rw [hr]
        congr 2
        simp
    · by_cases hroom : xs.length + ys.length ≤ cap
      · -- room
        have hfit : xs.length * k + 0 + (ys.flatMap enc).length ≤ cs.length := by rw [hyl, hcl, Nat.add_zero, ← Nat.add_mul]; exact Nat.mul_le_mul_right _ hroom
        obtain ⟨w', hr, hst⟩ := run_storeCells (P := P) (ys.flatMap enc) cs (xs.length * k) 0 _ _ w hwR (Upd.here _) hone hfit
        have hfc := run_firstCells_some (P := P) w i.size ys.length ⟨sb, so, none⟩ ys.length cap2 (ys.flatMap enc) hyl' hrd'
        refine ⟨_, [(b, setCells cs (xs.length * k) (ys.flatMap enc))], w', hgrown b cap _ ?_ ?_ ?_ hcm, hst.perm (hp2 [(_, _)]).symm, ?_⟩
        · rw [setCells_eq _ _ _ (by simpa using hfit)]
          simp only [List.length_append, List.length_take, List.length_drop]; omega
        · rw [setCells_eq _ _ _ (by simpa using hfit), htk, hfl, hll, ← List.append_assoc, List.take_left']
          rfl
        · simpa using hroom
        · have hr' : (storeCells ⟨b, xs.length * i.size, none⟩ (ys.flatMap enc)).run P w = .ok () w' := by rw [h1]; exact hr
          simp [Builtin.append_, run_underlying hu, sizeOf, typeInfo, hi, Builtin.lenOf, hroom, hfc, Addr.add_lit, hr']
      · -- a new block
        have holds : ∀ j u, (xs.flatMap enc)[j]? = some u → w.cell? ((⟨b, 0, none⟩ : Addr).add j) = some u := by
          intro j u hj
          rw [add_lit', Nat.zero_add, hwR.cell (.here _) j]
          rw [← htk, List.getElem?_take] at hj
          split at hj
          · exact hj
          · cases hj
        have hr := run_append_grow (P := P) w t ty e i zv hu hi h3 ⟨b, 0, none⟩ xs.length cap (xs.flatMap enc) (by rw [hxl, h1]) holds ⟨sb, so, none⟩ ys.length cap2 (ys.flatMap enc) hyl' hrd' (by omega) (by omega) (growslice_fits (by omega) (by rw [h2]; exact hb))
        have hge := grownCap_ge w (xs.length + ys.length) cap e
        have hcm2 := grownCap_le_maxLen w (xs.length + ys.length) cap e (by simp only [maxLen]; omega)
        simp only [maxLen] at hcm2
        have hst := (hwR.drop.drew).alloc ((xs.flatMap enc) ++ (ys.flatMap enc) ++ (Builtin.zeroCells zv.cells (grownCap w (xs.length + ys.length) cap e - (xs.length + ys.length))).toList) e
        refine ⟨_, [(w.heap.size, (xs.flatMap enc) ++ (ys.flatMap enc) ++ (Builtin.zeroCells zv.cells (grownCap w (xs.length + ys.length) cap e - (xs.length + ys.length))).toList)], _, hgrown _ (grownCap w (xs.length + ys.length) cap e) _ ?_ ?_ ?_ ?_, hst.perm (hp2 [(_, _)]).symm, ?_⟩
        · rw [List.length_append, List.length_append, hxl, hyl, hzl, ← Nat.add_mul, ← Nat.add_mul]; congr 1; omega
        · rw [hfl, hll]; exact List.take_left' rfl
        · simpa using hge
        · omega
        · rw [hr]
          congr 2
          · simp
          · congr 1
            apply Array.ext'; simp

/-- append, the slice one's own -/
theorem TL.append {α : Type} {k e bs t : Nat} {z : List Value} {enc : α → List Value} [hc : Cells k enc] {c : Call} {x y : Operand} {v v2 : Value} {xs ys : List α} {ob : Blks} {F : Blks → Blks}
    (hcl : c = { callee := .builtin .append, args := #[x, y], argTypes := #[t, t] }) (hx : ev E x = some v) (hy : ev E y = some v2) (hO : OwnSl k enc v xs ob) (hS : Src M w0 H0 H L enc v2 ys)
    [hE : Elz P t e k bs z] (hb : (xs.length + ys.length) * bs ≤ 140737488355328) (hbs : Nat.blt 0 bs = true) (hU : Tl ob L F) (hd : fits dst n = true)
    (h : ∀ a' c' ob', OwnSl k enc (.slice a' (xs ++ ys).length c') (xs ++ ys) ob' → TL P n ops Q rest (putE dst (.slice a' (xs ++ ys).length c') E) (St M w0 H0 H (F ob'))) :
    TL P n ops Q ({ dst := dst, op := .call c, type := ty, pos := pos, after := aft, guard := none } :: rest) E (St M w0 H0 H L) := by
  intro a w he hw
  refine wpW_plain rfl (fun K hK => ?_)
  obtain ⟨v', ob', w', h1, h2, h3⟩ := run_append (P := P) (t := t) (ty := ty) hO hS hb (by simpa [Nat.blt_eq] using hbs) hU hw
  have hrun : (execOp a.eval { dst := dst, op := .call c, type := ty, pos := pos, after := aft, guard := none }).run P w = .ok (.value v') w' := by
    subst hcl
    simp [execOp, resolve, invoke, builtin, he.eval hx, he.eval hy, h3]
  unfold Oper.wp
  rw [hrun]
  obtain ⟨a', c', rfl⟩ := h1.form
  exact hK _ _ (h a' c' ob' h1 _ _ (he.put hd) h2)

/-- a slice of one's own is let go of -/
theorem St.pubO {α : Type} {k : Nat} {enc : α → List Value} [hc : Cells k enc] {v : Value} {xs : List α} {ob : Blks} {F : Blks → Blks} (hO : OwnSl k enc v xs ob) (hU : Tl ob L F) (hM : ∀ p ∈ ob, p.1 ∉ M) {w : World} (hw : St M w0 H0 H L w) :
    ∃ H', H.le H' ∧ RdSl H' k enc v xs ∧ St M w0 H0 H' (F []) w := by
  obtain ⟨R, hp1, hp2⟩ := hU.perm
  have hwR := hw.perm hp1
  rcases hO with ⟨rfl, rfl, rfl⟩ | ⟨b, cap, cs, rfl, rfl, hcl, htk, hle, hcm⟩
  · exact ⟨H, Hp.le.refl H, ⟨⟨_, _, rfl⟩, by simp, fun h => absurd rfl h, fun i x hx => by simp at hx, fun a n c _ => by simp⟩, hwR.perm (hp2 []).symm⟩
  · have h1 := hwR.publish (hM (b, cs) (by simp))
    refine ⟨H.add b cs, hwR.le_add, ⟨⟨_, _, rfl⟩, by omega, fun _ => ⟨_, rfl⟩, fun i x hx j u hu => ?_, fun a n c e => by injection e with _ _ e; omega⟩, h1.perm (hp2 []).symm⟩
    have h2 := flat_get (k := k) (fun x _ => hc.len x) i x hx j u hu
    rw [← htk, List.getElem?_take] at h2
    simp only [blk, off, Hp.add, if_true, Nat.zero_add]
    split at h2
    · exact h2
    · cases h2
end
section
variable {P : Program} {n : Nat} {ops : Array Oper} {Q : Exit → Act → World → Prop} {E : Env} {M : List Nat} {w0 : World} {H0 H : Hp} {L : Blks}
theorem TL.pubO {α : Type} {k : Nat} {enc : α → List Value} [hc : Cells k enc] {v : Value} {xs : List α} {ob : Blks} {F : Blks → Blks} {l : List Oper} (hO : OwnSl k enc v xs ob) (hU : Tl ob L F) (hM : ∀ p ∈ ob, p.1 ∉ M)
    (h : ∀ H', H.le H' → RdSl H' k enc v xs → TL P n ops Q l E (St M w0 H0 H' (F []))) : TL P n ops Q l E (St M w0 H0 H L) := by
  intro a w he hw
  obtain ⟨H', h1, h2, h3⟩ := hw.pubO hO hU hM
  exact h H' h1 h2 a w he h3
theorem TF.pubO {α : Type} {k : Nat} {enc : α → List Value} [hc : Cells k enc] {v : Value} {xs : List α} {ob : Blks} {F : Blks → Blks} {l : List (Nat × Oper)} (hO : OwnSl k enc v xs ob) (hU : Tl ob L F) (hM : ∀ p ∈ ob, p.1 ∉ M)
    (h : ∀ H', H.le H' → RdSl H' k enc v xs → TF P n ops Q l E (St M w0 H0 H' (F []))) : TF P n ops Q l E (St M w0 H0 H L) := by
  intro a w he hw
  obtain ⟨H', h1, h2, h3⟩ := hw.pubO hO hU hM
  exact h H' h1 h2 a w he h3
theorem TX.pubO {α : Type} {k : Nat} {enc : α → List Value} [hc : Cells k enc] {v : Value} {xs : List α} {ob : Blks} {F : Blks → Blks} {q : Act → World → Prop} (hO : OwnSl k enc v xs ob) (hU : Tl ob L F) (hM : ∀ p ∈ ob, p.1 ∉ M)
    (h : ∀ H', H.le H' → RdSl H' k enc v xs → TX n q E (St M w0 H0 H' (F []))) : TX n q E (St M w0 H0 H L) := by
  intro a w he hw
  obtain ⟨H', h1, h2, h3⟩ := hw.pubO hO hU hM
  exact h H' h1 h2 a w he h3
theorem TC.pubO {α : Type} {k : Nat} {enc : α → List Value} [hc : Cells k enc] {v : Value} {xs : List α} {ob : Blks} {F : Blks → Blks} {c : Code} (hO : OwnSl k enc v xs ob) (hU : Tl ob L F) (hM : ∀ p ∈ ob, p.1 ∉ M)
    (h : ∀ H', H.le H' → RdSl H' k enc v xs → TC P n c Q E (St M w0 H0 H' (F []))) : TC P n c Q E (St M w0 H0 H L) := by
  intro a w he hw
  obtain ⟨H', h1, h2, h3⟩ := hw.pubO hO hU hM
  exact h H' h1 h2 a w he h3
theorem pr_lenO {α : Type} {c : Call} {t e k k' : Nat} {enc : α → List Value} {x : Operand} {v : Value} {xs : List α} {ob : Blks} {C : World → Prop} (hc : c = { callee := .builtin .len, args := #[x], argTypes := #[t] }) (hx : ev E x = some v) (h : OwnSl k' enc v xs ob) [hel : El P t e k] :
    PR P E C (.call c) (.int .i64 xs.length) := by
  rcases h with ⟨rfl, rfl, _⟩ | ⟨b, cap, cs, rfl, _⟩
  · exact pr_lenS hc hx
  · exact pr_lenS hc hx
end
end Go.Sx
