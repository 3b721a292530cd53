import Derived.Test.YtmlgpjficicagaaDoorRows
import Derived.Test.YtmlgpjficicagaaDoorLaw
import Derived.Test.YtmlgpjficicagaaDoorPureLw
set_option linter.unusedVariables false
set_option linter.unusedSimpArgs false
set_option maxRecDepth 100000
namespace Go.Sx
open Go Go.Proofs Go.Proofs.YtmlgpjficicagaaDoor
/-! ## the bound of the second form -/
variable {HH : Type} {enc : TypeId × Value → HH} {W : World}
theorem bulk_one (d : DataW HH) : 1 ≤ Rows.uptoBulk d := by
  cases d with
  | lit l => cases l <;> simp [Rows.uptoBulk]
  | nil => simp [Rows.uptoBulk]
  | ptr d => simp [Rows.uptoBulk]
  | slice elems spare => simp [Rows.uptoBulk]
  | agg parts => simp [Rows.uptoBulk]
  | iface t d => simp [Rows.uptoBulk]
  | map entries => simp [Rows.uptoBulk]
  | held h => simp [Rows.uptoBulk]
theorem bulk_app (l r : List (DataW HH)) : Rows.uptoBulkAll (l ++ r) = Rows.uptoBulkAll l + Rows.uptoBulkAll r := by
  induction l with
  | nil => simp [Rows.uptoBulkAll]
  | cons x l ih => simp only [List.cons_append, Rows.uptoBulkAll, ih]; omega
theorem bulk_part {d : DataW HH} : ∀ {l : List (DataW HH)}, d ∈ l → Rows.uptoBulk d ≤ Rows.uptoBulkAll l
  | x :: r, h => by
    simp only [Rows.uptoBulkAll]
    rcases List.mem_cons.1 h with e | e
    · subst e; omega
    · have := bulk_part e; omega
theorem bulk_of {l : List (DataW HH)} {d : DataW HH} {i : Nat} (hk : Rows.uptoSmall HH l = true) (hi : l[i]? = some d) : Rows.uptoBulk d ≤ 1048576 := by
  have h1 : Rows.uptoBulkAll l ≤ 1048576 := of_decide_eq_true hk
  have h2 := bulk_part (List.mem_of_getElem? hi)
  omega
theorem bulk_tok {t : Token} {fuel : Nat} {x : DataW HH × List MemPlace} (h : DataW.trod enc Tryd.prog W 0 (fun _ => true) true fuel 33 (Token.cells t) = some x) : t.text.length + 3 ≤ Rows.uptoBulk x.1 := by
  obtain ⟨xs, n, _, rfl, _, hlen, hf⟩ := DataW.trod_struct Tryd.underlying33 h
  match xs, hlen with
  | [y0, y1, y2], _ =>
    have h1 := hf 1 _ rfl
    simp only [show Tryd.prog.cellsOf 9 = 1 from by kernel_rfl, Token.cells, List.drop_succ_cons, List.drop_zero, List.take_succ_cons, List.take_zero] at h1
    have h2 : DataW.trod enc Tryd.prog W 0 (fun _ => true) true n 9 [gs t.text] = some y1 := h1
    obtain ⟨s, e, hy, _⟩ := DataW.trod_string Tryd.underlying9 h2
    have hs : s = ⟨t.text.toArray⟩ := by simpa [gs] using e.symm
    subst hs
    have b0 := bulk_one y0.1; have b2 := bulk_one y2.1
    rw [hy]
    simp only [List.map_cons, List.map_nil, Rows.uptoBulk, Rows.uptoBulkAll]
    simp only [hy] at *
    simp [Rows.uptoBulk]
    omega
theorem bulk_toks {l : List Token} {v : Value} {d : DataW HH} {p : List MemPlace} (R : RdSl (hpOf W) 3 Token.cells v l) (h : DataW.Trod enc Tryd.prog W 0 (fun _ => true) true 27 v d p) (hb : Rows.uptoBulk d ≤ 1048576) : sumW l ≤ 30000000000000 := by
  obtain ⟨fuel, hf⟩ := h
  rcases Go.Deep.open_slice Tryd.underlying27 hf with ⟨e, _⟩ | ⟨a, len, cap, m, n, D, Pl, e, _, hl, hm, hmm, hxe, hx⟩
  · obtain ⟨a, c, hv⟩ := R.len
    rw [hv] at e
    simp [Value.cells] at e
    have : l = [] := e.2.1
    subst this; exact Nat.zero_le _
  · have hv : v = .slice (some a) len cap := by
      obtain ⟨a2, c2, hv⟩ := R.len
      rw [hv] at e ⊢
      simpa [Value.cells] using e
    have hll : l.length = len := by
      obtain ⟨a2, c2, hv2⟩ := R.len
      rw [hv] at hv2
      injection hv2 with _ h2 _
      exact h2.symm
    have hmc : m = cap := by simpa using hmm
    have hd : d = .slice ((List.range len).map D) ((List.range (m - len)).map fun j => D (len + j)) := (Prod.mk.inj hxe).1
    have hc3 : Tryd.prog.cellsOf 33 = 3 := by kernel_rfl
    have each : ∀ i t, l[i]? = some t → t.text.length + 3 ≤ Rows.uptoBulk (D i) := by
      intro i t ht
      have hi : i < len := by rw [← hll]; exact (List.getElem?_eq_some_iff.1 ht).1
      obtain ⟨cs, h1, h2⟩ := hx i (by omega)
      rw [hc3] at h1
      obtain ⟨_, h3, h4⟩ := World.cells?_some h1
      obtain ⟨cap2, hb2⟩ := R.addr (by intro e; subst e; simp at ht)
      have ha : a = ⟨blk v, off v, none⟩ := by
        rw [hv] at hb2 ⊢
        injection hb2 with h5 _ _
        exact Option.some.inj h5
      have hcs : cs = Token.cells t := by
        have hget : ∀ j u, (Token.cells t)[j]? = some u → cs[j]? = some u := fun j u hu => by
          have hj : j < 3 := (List.getElem?_eq_some_iff.1 hu).1
          have h5 := h4 j hj
          have h6 : W.cell? ⟨blk v, off v + i * 3 + j, none⟩ = some u := R.get i t ht j u hu
          rw [ha, add_lit', add_lit', h6] at h5
          exact h5.symm
        match cs, h3 with
        | [c0, c1, c2], _ =>
          have e0 := hget 0 _ rfl; have e1 := hget 1 _ rfl; have e2 := hget 2 _ rfl
          simp at e0 e1 e2
          rw [e0, e1, e2]; rfl
      rw [hcs] at h2
      exact bulk_tok h2
    have sum : ∀ n, n ≤ len → sumW (l.take n) ≤ 4 * Rows.uptoBulkAll ((List.range n).map D) := by
      intro n
      induction n with
      | zero => intro _; simp [sumW]
      | succ n ih =>
        intro hn
        have ht : l[n]? = some (l[n]'(by omega)) := List.getElem?_eq_getElem (by omega)
        have h5 := each n _ ht
        have h6 := ih (by omega)
        rw [List.take_add_one, ht, List.range_succ, List.map_append, bulk_app]
        simp only [Option.toList_some, sumW, List.map_append, List.sum_append, List.map_cons, List.map_nil, List.sum_cons, List.sum_nil, Rows.uptoBulkAll] at h6 ⊢
        omega
    have h7 := sum len (Nat.le_refl _)
    rw [← hll, List.take_length, hll] at h7
    rw [hd] at hb
    simp only [Rows.uptoBulk] at hb
    omega
theorem bulk_val {x : Val} {lv : Value} {d : DataW HH} {p : List MemPlace} (h : DataW.Trod enc Tryd.prog W 0 (fun _ => true) true 26 (.agg (x.cells lv).toArray) d p) (hb : Rows.uptoBulk d ≤ 1048576) : x.s.length ≤ 1048576 := by
  obtain ⟨fuel, hf⟩ := h
  have hf2 : DataW.trod enc Tryd.prog W 0 (fun _ => true) true fuel 26 (x.cells lv) = some (d, p) := hf
  obtain ⟨xs, n, _, hx, _, hlen, hall⟩ := DataW.trod_struct Tryd.underlying26 hf2
  match xs, hlen with
  | [y0, y1, y2, y3], _ =>
    have h1 := hall 2 _ rfl
    simp only [show Tryd.prog.cellsOf 9 = 1 from by kernel_rfl, Val.cells, List.drop_succ_cons, List.drop_zero, List.take_succ_cons, List.take_zero] at h1
    have h2 : DataW.trod enc Tryd.prog W 0 (fun _ => true) true n 9 [gs x.s] = some y2 := h1
    obtain ⟨s, e, hy, _⟩ := DataW.trod_string Tryd.underlying9 h2
    have hs : s = ⟨x.s.toArray⟩ := by simpa [gs] using e.symm
    subst hs
    have hd : d = .agg [y0.1, y1.1, y2.1, y3.1] := (Prod.mk.inj hx).1
    rw [hd, hy] at hb
    simp [Rows.uptoBulk, Rows.uptoBulkAll] at hb
    omega
end Go.Sx
