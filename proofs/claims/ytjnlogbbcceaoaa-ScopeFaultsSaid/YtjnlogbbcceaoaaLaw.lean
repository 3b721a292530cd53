import Derived.Test.YtjnlogbbcceaoaaRows
import Derived.Test.YtjnlogbbcceaoaaPuA
import Derived.ProofKit
import Derived.Deep.Slices
set_option linter.unusedVariables false
set_option linter.unusedSimpArgs false
namespace Go.Sx
open Go Go.ChangeShapes Go.WideShapes Go.ChangeAt Go.RowKit

/-- all that may be read in a world -/
def hpOf (W : World) : Hp := fun b o => W.cell? ⟨b, o, none⟩

theorem St.below {W W' : World} {H H' : Hp} {L : Blks} (h : St [] W H H' L W') : Below W.heap.size W W' :=
  ⟨h.os, h.tape, h.output, h.size, fun k hk => h.old k hk (by simp)⟩

theorem FnS.calls {P : Program} {f : FuncId} {args : List Value} {W : World} {v : Value} (h : FnS P f args (hpOf W) v) : Calls P f args.toArray W fun e W' => e = .returned v ∧ Below W.heap.size W W' :=
  (h W (St.start (fun b o u hu => hu))).mono (by
    rintro e W' ⟨v', H', L', rfl, hst, hk, rfl, _⟩
    exact ⟨rfl, hst.below⟩)

theorem Fn.callsT {P : Program} {f : FuncId} {args : List Value} {W : World} {u : Value} (h : Fn P f args (hpOf W) (fun v _ => v = u)) : Calls P f args.toArray W fun e W' => e = .returned u ∧ Below W.heap.size W W' :=
  (h W (St.start (fun b o u hu => hu))).mono (by
    rintro e W' ⟨v', H', L', rfl, hst, hk, rfl⟩
    exact ⟨rfl, hst.below⟩)

section
variable {HH : Type} {enc : TypeId × Value → HH} {P : Program}

theorem trodAll_stays (hl : laidOutB P = true) {W W' : World} (hB : Below W.heap.size W W') {sp : Nat → Bool} : ∀ (ts : List TypeId) (vs : List Value) (ds : List (DataW HH)) (ps : List MemPlace),
    (∀ t ∈ ts, P.readableRec t = true ∧ t < P.types.size) → DataW.TrodAll enc P W 0 (fun _ => true) true ts vs ds ps → (∀ x ∈ ps, x.block < W.heap.size) → (∀ x ∈ ps, sp x.block = true) → DataW.TrodAll enc P W' 0 sp true ts vs ds ps
  | [], [], [], ps, _, h, _, _ => h
  | t :: ts, v :: vs, d :: ds, ps, hr, h, hlt, hs => by
    obtain ⟨p, q, h1, h2, rfl⟩ := h
    refine ⟨p, q, ?_, ?_, rfl⟩
    · exact WideElems.Trod_stays hl (hr t (by simp)).1 (hr t (by simp)).2 h1 (fun x hx => hB.same (hlt x (List.mem_append_left _ hx))) (fun x hx => hs x (List.mem_append_left _ hx))
    · exact trodAll_stays hl hB ts vs ds q (fun u hu => hr u (List.mem_cons_of_mem _ hu)) h2 (fun x hx => hlt x (List.mem_append_right _ hx)) (fun x hx => hs x (List.mem_append_right _ hx))
  | [], [], _ :: _, _, _, h, _, _ => h.elim
  | [], _ :: _, _, _, _, h, _, _ => h.elim
  | _ :: _, [], _, _, _, h, _, _ => h.elim
  | _ :: _, _ :: _, [], _, _, h, _, _ => h.elim

/-- a law's row: true, the arguments as they were -/
theorem law_done {f : Func} {s : ChangeSpec} {W W' : World} {args : Array Value} {ds gs : List (DataW HH)} {before : List MemPlace} {tb : TypeId} (hW : DataW.Whole enc P f.params.toList s.vars false W args.toList ds gs before)
    (hv : s.vars = []) (hvs : (s.fn HH (ds ++ gs)).vars = []) (hres : (s.fn HH (ds ++ gs)).results = [.lit (.bool true)]) (hargs : (s.fn HH (ds ++ gs)).args = ds) (hrt : f.resultTypes = #[tb]) (hb : P.underlying tb = some .bool) (hl : laidOutB P = true)
    (hread : ∀ t ∈ f.params.toList, P.readableRec t = true ∧ t < P.types.size) (hB : Below W.heap.size W W') : s.post enc P f false true false false W args (.bool true) W' := by
  have hW0 := hW
  obtain ⟨p, q, hA, hV, he, hfz, hnd⟩ := hW
  rw [hv] at hV
  have hq : gs = [] ∧ q = [] := by
    cases gs with
    | nil => exact ⟨rfl, hV⟩
    | cons g gs => exact hV.elim
  obtain ⟨rfl, rfl⟩ := hq
  rw [List.append_nil] at he
  subst he
  have hlt : ∀ x ∈ before, x.block < W.heap.size := fun x hx => hW0.lt x hx
  refine ⟨ds, [], before, [], before, [], hW0, ?_, ?_, ?_, World.keptBut_mono (fun x hx => ⟨hx, .inr (.inl hx)⟩) (hB.frame (· ∈ before)), fun h => (by cases h)⟩
  · rw [hres, hrt]
    exact trodAll_mk1 (shut_bool hb _)
  · rw [hargs]
    exact trodAll_stays hl hB _ _ _ _ hread hA hlt (fun x hx => by simpa using hlt x hx)
  · rw [hv, hvs]
    exact rfl

/-! ## arguments, opened -/
theorem gs_of (s : ByteArray) : Value.string s = gs s.data.toList := by
  show Value.string s = Value.string ⟨s.data.toList.toArray⟩
  rw [Array.toArray_toList]

/-- a reading of type t (k cells): some datum whose cells these are, and of which ok is known -/
def Opens (P : Program) (t : TypeId) {α : Type} (en : α → List Value) (ok : Hp → α → Prop) : Prop :=
  ∀ (HH : Type) (enc : TypeId × Value → HH) (W : World) (fuel : Nat) (cs : List Value) (x : DataW HH × List MemPlace), DataW.trod enc P W 0 (fun _ => true) true fuel t cs = some x → ∃ a : α, cs = en a ∧ ok (hpOf W) a

theorem opens_i64 {t : TypeId} (ht : P.underlying t = some (.int .i64)) : Opens P t (fun n : Int => [.int .i64 n]) (fun _ n => -9223372036854775808 ≤ n ∧ n ≤ 9223372036854775807) := by
  intro HH enc W fuel cs x h
  obtain ⟨n, rfl, _, hw⟩ := DataW.trod_int ht h
  refine ⟨n, rfl, ?_⟩
  simpa [Lit.wf, IntKind.min, IntKind.max, IntKind.signed, IntKind.bits] using hw
theorem opens_str {t : TypeId} (ht : P.underlying t = some .string) : Opens P t (fun s : Str => [gs s]) (fun _ s => s.length ≤ 9223372036854775807) := by
  intro HH enc W fuel cs x h
  obtain ⟨s, rfl, _, hw⟩ := DataW.trod_string ht h
  refine ⟨s.data.toList, by rw [gs_of], ?_⟩
  show s.data.toList.length ≤ _
  rw [Array.length_toList]
  exact hw
theorem opens_bool {t : TypeId} (ht : P.underlying t = some .bool) : Opens P t (fun b : Bool => [.bool b]) (fun _ _ => True) := by
  intro HH enc W fuel cs x h
  cases fuel with
  | zero => simp [DataW.trod] at h
  | succ n =>
    unfold DataW.trod at h
    rw [ht] at h
    split at h <;> simp_all

theorem spot_none {W : World} {a : Addr} {v : Value} (h : W.cell? a = some v) : a.spot = none := by
  unfold World.cell? at h
  split at h
  · split at h
    · cases h
    · rename_i hs; simpa using hs
  · cases h

theorem exists_list {α : Type} {Q : Nat → α → Prop} : ∀ {len : Nat}, (∀ i, i < len → ∃ z, Q i z) → ∃ l : List α, l.length = len ∧ ∀ i z, l[i]? = some z → Q i z
  | 0, _ => ⟨[], rfl, fun i z h => by simp at h⟩
  | len + 1, h => by
    obtain ⟨l, h1, h2⟩ := exists_list (fun i hi => h i (Nat.lt_succ_of_lt hi))
    obtain ⟨z, hz⟩ := h len (Nat.lt_succ_self _)
    refine ⟨l ++ [z], by simp [h1], fun i y hy => ?_⟩
    by_cases hi : i < l.length
    · rw [List.getElem?_append_left hi] at hy; exact h2 i y hy
    · rw [List.getElem?_append_right (by omega)] at hy
      have hi0 : i - l.length = 0 := by
        rcases Nat.eq_zero_or_pos (i - l.length) with h | h
        · exact h
        · rw [List.getElem?_eq_none (by simp; omega)] at hy; cases hy
      rw [hi0] at hy
      simp only [List.getElem?_cons_zero, Option.some.injEq] at hy
      subst hy
      have : i = len := by omega
      subst this
      exact hz

theorem len1 {α : Type} {l : List α} (h : l.length = 1) : ∃ c0, l = [c0] := by
  match l, h with
  | [c0], _ => exact ⟨c0, rfl⟩
theorem len2 {α : Type} {l : List α} (h : l.length = 2) : ∃ c0 c1, l = [c0, c1] := by
  match l, h with
  | [c0, c1], _ => exact ⟨c0, c1, rfl⟩
theorem len3 {α : Type} {l : List α} (h : l.length = 3) : ∃ c0 c1 c2, l = [c0, c1, c2] := by
  match l, h with
  | [c0, c1, c2], _ => exact ⟨c0, c1, c2, rfl⟩
theorem len4 {α : Type} {l : List α} (h : l.length = 4) : ∃ c0 c1 c2 c3, l = [c0, c1, c2, c3] := by
  match l, h with
  | [c0, c1, c2, c3], _ => exact ⟨c0, c1, c2, c3, rfl⟩
theorem len5 {α : Type} {l : List α} (h : l.length = 5) : ∃ c0 c1 c2 c3 c4, l = [c0, c1, c2, c3, c4] := by
  match l, h with
  | [c0, c1, c2, c3, c4], _ => exact ⟨c0, c1, c2, c3, c4, rfl⟩
theorem len6 {α : Type} {l : List α} (h : l.length = 6) : ∃ c0 c1 c2 c3 c4 c5, l = [c0, c1, c2, c3, c4, c5] := by
  match l, h with
  | [c0, c1, c2, c3, c4, c5], _ => exact ⟨c0, c1, c2, c3, c4, c5, rfl⟩
theorem len7 {α : Type} {l : List α} (h : l.length = 7) : ∃ c0 c1 c2 c3 c4 c5 c6, l = [c0, c1, c2, c3, c4, c5, c6] := by
  match l, h with
  | [c0, c1, c2, c3, c4, c5, c6], _ => exact ⟨c0, c1, c2, c3, c4, c5, c6, rfl⟩
theorem len8 {α : Type} {l : List α} (h : l.length = 8) : ∃ c0 c1 c2 c3 c4 c5 c6 c7, l = [c0, c1, c2, c3, c4, c5, c6, c7] := by
  match l, h with
  | [c0, c1, c2, c3, c4, c5, c6, c7], _ => exact ⟨c0, c1, c2, c3, c4, c5, c6, c7, rfl⟩
theorem len9 {α : Type} {l : List α} (h : l.length = 9) : ∃ c0 c1 c2 c3 c4 c5 c6 c7 c8, l = [c0, c1, c2, c3, c4, c5, c6, c7, c8] := by
  match l, h with
  | [c0, c1, c2, c3, c4, c5, c6, c7, c8], _ => exact ⟨c0, c1, c2, c3, c4, c5, c6, c7, c8, rfl⟩
theorem len10 {α : Type} {l : List α} (h : l.length = 10) : ∃ c0 c1 c2 c3 c4 c5 c6 c7 c8 c9, l = [c0, c1, c2, c3, c4, c5, c6, c7, c8, c9] := by
  match l, h with
  | [c0, c1, c2, c3, c4, c5, c6, c7, c8, c9], _ => exact ⟨c0, c1, c2, c3, c4, c5, c6, c7, c8, c9, rfl⟩
theorem len11 {α : Type} {l : List α} (h : l.length = 11) : ∃ c0 c1 c2 c3 c4 c5 c6 c7 c8 c9 c10, l = [c0, c1, c2, c3, c4, c5, c6, c7, c8, c9, c10] := by
  match l, h with
  | [c0, c1, c2, c3, c4, c5, c6, c7, c8, c9, c10], _ => exact ⟨c0, c1, c2, c3, c4, c5, c6, c7, c8, c9, c10, rfl⟩
theorem len12 {α : Type} {l : List α} (h : l.length = 12) : ∃ c0 c1 c2 c3 c4 c5 c6 c7 c8 c9 c10 c11, l = [c0, c1, c2, c3, c4, c5, c6, c7, c8, c9, c10, c11] := by
  match l, h with
  | [c0, c1, c2, c3, c4, c5, c6, c7, c8, c9, c10, c11], _ => exact ⟨c0, c1, c2, c3, c4, c5, c6, c7, c8, c9, c10, c11, rfl⟩
/-- a slice -/
theorem opens_slice {t e : TypeId} {k : Nat} {α : Type} {en : α → List Value} {ok : Hp → α → Prop} (ht : P.underlying t = some (.slice e)) (hk : P.cellsOf e = k) (hpos : 0 < k) (he : Opens P e en ok) :
    Opens P t (fun v : Value × List α => [v.1]) (fun H v => RdSl H k en v.1 v.2 ∧ ∀ x ∈ v.2, ok H x) := by
  subst hk
  intro HH enc W fuel cs x h
  rcases Go.Deep.open_slice ht h with ⟨rfl, _⟩ | ⟨a, len, cap, m, n, D, Pl, rfl, _, hl, hm, hmm, _, hx⟩
  · refine ⟨(.slice none 0 0, []), rfl, ⟨⟨_, _, rfl⟩, by simp, fun h => absurd rfl h, fun i x hx => by simp at hx, fun a n c _ => by simp⟩, by simp⟩
  · have hlm : m = cap := by simpa using hmm
    subst hlm
    have hel : ∀ i, i < len → ∃ z : α, ∃ cs', W.cells? 0 (a.add (i * P.cellsOf e)) (P.cellsOf e) = some cs' ∧ cs' = en z ∧ ok (hpOf W) z := fun i hi => by
      obtain ⟨cs', h1, h2⟩ := hx i (by omega)
      obtain ⟨z, h3, h4⟩ := he HH enc W n cs' _ h2
      exact ⟨z, cs', h1, h3, h4⟩
    have hch := exists_list hel
    obtain ⟨l, hlen, hget⟩ := hch
    have hspot : l ≠ [] → a.spot = none := fun hne => by
      cases l with
      | nil => exact absurd rfl hne
      | cons z l =>
        obtain ⟨cs', h1, h2, _⟩ := hget 0 z rfl
        obtain ⟨_, h3, h4⟩ := World.cells?_some h1
        have h5 := h4 0 (by omega)
        have h6 : cs'[0]? = some (cs'[0]'(by omega)) := List.getElem?_eq_getElem (by omega)
        rw [h6] at h5
        have := spot_none h5
        simpa [Addr.add] using this
    refine ⟨(.slice (some a) len m, l), rfl, ⟨⟨_, _, by rw [hlen]⟩, (by show l.length ≤ _; unfold maxLen at hm; omega), fun hne => ⟨m, ?_⟩, fun i z hz j u hu => ?_, fun a' n' c' e => by injection e with _ _ e; show l.length ≤ c'; omega⟩, fun z hz => ?_⟩
    · have := hspot hne
      obtain ⟨b, o, sp⟩ := a
      simp only at this
      subst this
      simp [blk, off, hlen]
    · obtain ⟨cs', h1, rfl, _⟩ := hget i z hz
      obtain ⟨_, h3, h4⟩ := World.cells?_some h1
      have hj : j < P.cellsOf e := by rw [← h3]; exact (List.getElem?_eq_some_iff.1 hu).1
      have h5 := h4 j hj
      have hsp := hspot (fun e => by rw [e] at hz; simp at hz)
      obtain ⟨b, o, sp⟩ := a
      simp only at hsp
      subst hsp
      rw [add_lit', add_lit'] at h5
      simp only [hpOf, blk, off]
      exact h5.trans hu
    · obtain ⟨i, hi⟩ := List.mem_iff_getElem?.1 hz
      obtain ⟨cs', _, _, h4⟩ := hget i z hi
      exact h4

/-- an argument of one cell -/
theorem Opens.one {t : TypeId} {α : Type} {en : α → List Value} {ok : Hp → α → Prop} {W : World} {v : Value} {d : DataW HH} {p : List MemPlace} (h : Opens P t en ok) (hT : DataW.Trod enc P W 0 (fun _ => true) true t v d p) :
    ∃ a : α, v.cells.toList = en a ∧ ok (hpOf W) a := by
  obtain ⟨fuel, hf⟩ := hT
  exact h HH enc W fuel _ _ hf

theorem fields_of {t : TypeId} {fs : Array Field} {W : World} {fuel : Nat} {cs : List Value} {x : DataW HH × List MemPlace} (ht : P.underlying t = some (.struct fs)) (h : DataW.trod enc P W 0 (fun _ => true) true fuel t cs = some x) :
    cs.length = P.cellsOf t ∧ ∃ n, ∀ (i : Nat) (f : Field), nthL fs.toList i = some f → ∃ y, DataW.trod enc P W 0 (fun _ => true) true n f.type ((cs.drop f.offset).take (P.cellsOf f.type)) = some y := by
  obtain ⟨xs, n, _, _, h1, h2, h3⟩ := DataW.trod_struct ht h
  refine ⟨h1, n, fun i f hf0 => ?_⟩
  have hf : fs[i]? = some f := by rw [nthL_eq] at hf0; simpa using hf0
  have hi : i < xs.length := by rw [h2]; exact (Array.getElem?_eq_some_iff.1 hf).1
  exact ⟨xs[i], (h3 i f hf).trans (List.getElem?_eq_getElem hi)⟩
end
structure Sort2 where
  kind : Int
  at_ : Int
def Sort2.cells (s : Sort2) : List Value := [.int .i64 s.kind, .int .i64 s.at_]
def Sort2.ok (_ : Hp) (_ : Sort2) : Prop := True
end Go.Sx
