import Derived.Test.YtgagehpnkecmkaaDoorPureV
import Derived.Sort.Row
import Derived.Sort.Grow
import Derived.Sort.EncStr
import Derived.Lib.RowBridge
set_option linter.unusedVariables false
set_option linter.unusedSimpArgs false
namespace Go.Sx
open Go
/-! ## the library's sort and compact over a slice of one's own -/
theorem enc_gs (s : Str) : Go.Proofs.encStr s = gs s := rfl
theorem putCells_list (d : List Str) (cs : List Value) (h : d.length ≤ cs.length) : (Go.Sort.putCells Go.Proofs.encStr 0 d.toArray cs.toArray).toList = d.map gs ++ cs.drop d.length := by
  apply List.ext_getElem?
  intro k
  rw [List.getElem?_append]
  by_cases hk : k < d.length
  · simp [Go.Sort.putCells, hk, show k < cs.length by omega]
    rfl
  · by_cases hc : k < cs.length
    · simp [Go.Sort.putCells, hk, hc, show d.length + (k - d.length) = k by omega]
    · simp [Go.Sort.putCells, hk, hc, show d.length + (k - d.length) = k by omega]
section
variable {P : Program} {n : Nat} {ops : Array Oper} {Q : Exit → Act → World → Prop} {E : Env} {M : List Nat} {w0 : World} {H0 H : Hp} {L : Blks} {C : World → Prop} {rest : List Oper} {dst : Option Nat} {op : Op} {ty : TypeId} {pos : String} {aft : Array Edge}
theorem St.row {w : World} {b : Nat} {cs : List Value} {R : Blks} {d : List Str} (h : St M w0 H0 H ((b, cs) :: R) w) (hd : d.length ≤ cs.length) (q : Nat) (os : Array Obj) :
    St M w0 H0 H ((b, d.map gs ++ cs.drop d.length) :: R) (Go.Sort.grow (Go.Sort.putRow Go.Proofs.encStr (Go.Sort.ahead w q) b 0 d.toArray) os) := by
  have h1 : St M w0 H0 H ((b, d.map gs ++ cs.drop d.length) :: R) (Go.Sort.putRow Go.Proofs.encStr (Go.Sort.ahead w q) b 0 d.toArray) := by
    refine h.set (Upd.here _) _ (by simp) rfl rfl rfl (fun t ht => ?_) (fun k hk => ?_)
    · have e : (Go.Sort.putCells Go.Proofs.encStr 0 d.toArray cs.toArray) = (d.map gs ++ cs.drop d.length).toArray := by
        apply Array.ext'
        rw [putCells_list d cs hd]
      simp [Go.Sort.putRow, Go.Sort.mapBlock, Array.getElem?_modify, ht, Go.Sort.onCells, e]
    · simp [Go.Sort.putRow, Go.Sort.mapBlock, Array.getElem?_modify, Ne.symm hk]
  refine Ext.st (w := Go.Sort.putRow Go.Proofs.encStr (Go.Sort.ahead w q) b 0 d.toArray) ⟨rfl, rfl, rfl, by simp [Go.Sort.grow], fun k hk => ?_⟩ h1
  simp only [Go.Sort.grow]
  rw [Array.getElem?_append_left hk]
theorem St.holds {w : World} {b : Nat} {cs : List Value} {R : Blks} {d : List Str} (h : St M w0 H0 H ((b, cs) :: R) w) (hd : cs.take d.length = d.map gs) : Go.Sort.Holds Go.Proofs.encStr w b 0 d.toArray := by
  intro j hj
  have hj' : j < d.length := by simpa using hj
  have h1 : cs[j]? = some (gs d[j]) := by
    have : (cs.take d.length)[j]? = some (gs d[j]) := by rw [hd]; simp [hj']
    rw [List.getElem?_take] at this
    simpa [hj'] using this
  constructor
  · rw [Nat.zero_add, h.cell (.here _) j, h1]
    simp [hj', enc_gs]
  · obtain ⟨t, ht⟩ := h.own (b, cs) (by simp)
    have ht' : w.heap[b]? = some (.cells cs.toArray t (0, 0)) := ht
    simp [World.frozen?, ht']

/-- a call whose end is told by an index -/
theorem TL.callG {ι : Type} {f : FuncId} {args : List Value} {Φ : Value → ι → Prop} {C' : ι → World → Prop} (hE : Enters P E op f args) (hF : ∀ w, C w → Calls P f args.toArray w (fun e w' => ∃ v i, e = .returned v ∧ Φ v i ∧ C' i w')) (hd : fits dst n = true)
    (h : ∀ v i, Φ v i → TL P n ops Q rest (putE dst v E) (C' i)) : TL P n ops Q ({ dst := dst, op := op, type := ty, pos := pos, after := aft, guard := none } :: rest) E C := by
  intro a w he hw
  refine wpW_plain rfl (fun K hK => ?_)
  unfold Oper.wp
  rw [hE n a w _ rfl he]
  refine (hF w hw).mono ?_
  rintro e w' ⟨v, i, rfl, hΦ, hC⟩
  exact hK _ _ (h v i hΦ _ _ (he.put hd) hC)

/-- what the library's sort is known to do -/
structure SortC (P : Program) (f : FuncId) : Prop where
  some : ∀ (b off cap : Nat) (ss : List Str) (w : World), Go.Sort.Holds Go.Proofs.encStr w b off ss.toArray → b < w.heap.size → ss.length < 4611686018427387904 →
    Calls P f #[.slice (some ⟨b, off, none⟩) ss.length cap] w fun e w' => e = .returned (.tuple #[]) ∧ ∃ n os, w' = Go.Sort.grow (Go.Sort.putRow Go.Proofs.encStr (Go.Sort.ahead w n) b off (ss.mergeSort fun x y => decide (x ≤ y)).toArray) os
  none : ∀ (p : Option Addr) (cap : Nat) (w : World), Calls P f #[.slice p 0 cap] w fun e w' => e = .returned (.tuple #[]) ∧ w' = w
def sortS (l : List Str) : List Str := l.mergeSort fun x y => decide (x ≤ y)
theorem sortS_len (l : List Str) : (sortS l).length = l.length := List.length_mergeSort _
theorem flat_str (l : List Str) : l.flatMap Str.cells = l.map gs := by
  induction l with
  | nil => rfl
  | cons x l ih => simp [Str.cells, ih]
theorem run_sort {f : FuncId} (hS : SortC P f) {v : Value} {xs : List Str} {ob : Blks} {F : Blks → Blks} (hO : OwnSl 1 Str.cells v xs ob) (hU : Tl ob L F) (hm : xs.length < 4611686018427387904) {w : World} (hw : St M w0 H0 H L w) :
    Calls P f #[v] w (fun e w' => ∃ u ob', e = .returned u ∧ (u = .tuple #[] ∧ OwnSl 1 Str.cells v (sortS xs) ob') ∧ St M w0 H0 H (F ob') w') := by
  obtain ⟨R, hp1, hp2⟩ := hU.perm
  rcases hO with ⟨rfl, rfl, rfl⟩ | ⟨b, cap, cs, rfl, rfl, hcl, htk, hle, hcm⟩
  · refine (hS.none none 0 w).mono ?_
    rintro e w' ⟨rfl, rfl⟩
    exact ⟨_, [], rfl, ⟨rfl, by rw [show sortS [] = [] by unfold sortS; simp]; exact OwnSl.nil⟩, hw.perm (hp1.trans (hp2 []).symm)⟩
  · have hwR := hw.perm hp1
    have ht : cs.take xs.length = xs.map gs := by rw [← flat_str, ← htk, Nat.mul_one]
    have hlen : xs.length ≤ cs.length := by omega
    refine (hS.some b 0 cap xs w (hwR.holds ht) (hwR.lt (p := (b, cs)) (by simp)) hm).mono ?_
    rintro e w' ⟨rfl, q, os, rfl⟩
    have h2 := hwR.row (d := sortS xs) (by rw [sortS_len]; exact hlen) q os
    refine ⟨_, [(b, (sortS xs).map gs ++ cs.drop (sortS xs).length)], rfl, ⟨rfl, .inr ⟨b, cap, _, by rw [sortS_len], rfl, ?_, ?_, by rw [sortS_len]; exact hle, hcm⟩⟩, h2.perm (hp2 [(b, _)]).symm⟩
    · simp [sortS_len]; omega
    · rw [Nat.mul_one, flat_str, List.take_left' (by simp)]
theorem TL.sort {f : FuncId} {v : Value} {xs : List Str} {ob : Blks} {F : Blks → Blks} (hE : Enters P E op f [v]) (hS : SortC P f) (hO : OwnSl 1 Str.cells v xs ob) (hU : Tl ob L F) (hm : xs.length < 4611686018427387904) (hd : fits dst n = true)
    (h : ∀ ob', OwnSl 1 Str.cells v (sortS xs) ob' → TL P n ops Q rest (putE dst (.tuple #[]) E) (St M w0 H0 H (F ob'))) :
    TL P n ops Q ({ dst := dst, op := op, type := ty, pos := pos, after := aft, guard := none } :: rest) E (St M w0 H0 H L) :=
  TL.callG (ι := Blks) (Φ := fun u ob' => u = .tuple #[] ∧ OwnSl 1 Str.cells v (sortS xs) ob') (C' := fun ob' => St M w0 H0 H (F ob')) hE (fun w hw => run_sort hS hO hU hm hw) hd (fun u ob' hΦ => by obtain ⟨rfl, hO'⟩ := hΦ; exact h ob' hO')
/-- what the library's compact is known to do -/
structure CompactC (P : Program) (f : FuncId) : Prop where
  some : ∀ (b off cap : Nat) (zs : List Str) (w : World), Go.Sort.Holds Go.Proofs.encStr w b off zs.toArray → zs.length ≤ 9223372036854775807 → zs.length ≤ cap →
    Calls P f #[.slice (some ⟨b, off, none⟩) zs.length cap] w fun e w' => e = .returned (.slice (some ⟨b, off, none⟩) (Lib.compact zs).length cap) ∧ ∃ q, w' = Go.Sort.putRow Go.Proofs.encStr (Go.Sort.ahead w q) b off (Lib.compact zs ++ List.replicate (zs.length - (Lib.compact zs).length) []).toArray
  none : ∀ (p : Option Addr) (cap : Nat) (w : World), Calls P f #[.slice p 0 cap] w fun e w' => e = .returned (.slice p 0 cap) ∧ w' = w
theorem run_compact {f : FuncId} (hS : CompactC P f) {v : Value} {xs : List Str} {ob : Blks} {F : Blks → Blks} (hO : OwnSl 1 Str.cells v xs ob) (hU : Tl ob L F) {w : World} (hw : St M w0 H0 H L w) :
    Calls P f #[v] w (fun e w' => ∃ u ob', e = .returned u ∧ OwnSl 1 Str.cells u (Lib.compact xs) ob' ∧ St M w0 H0 H (F ob') w') := by
  obtain ⟨R, hp1, hp2⟩ := hU.perm
  rcases hO with ⟨rfl, rfl, rfl⟩ | ⟨b, cap, cs, rfl, rfl, hcl, htk, hle, hcm⟩
  · refine (hS.none none 0 w).mono ?_
    rintro e w' ⟨rfl, rfl⟩
    exact ⟨_, [], rfl, OwnSl.nil, hw.perm (hp1.trans (hp2 []).symm)⟩
  · have hwR := hw.perm hp1
    have ht : cs.take xs.length = xs.map gs := by rw [← flat_str, ← htk, Nat.mul_one]
    have hlen : xs.length ≤ cs.length := by omega
    have hc := Lib.compact_length_le xs
    refine (hS.some b 0 cap xs w (hwR.holds ht) (by omega) hle).mono ?_
    rintro e w' ⟨rfl, q, rfl⟩
    have hl2 : (Lib.compact xs ++ List.replicate (xs.length - (Lib.compact xs).length) ([] : Str)).length = xs.length := by simp; omega
    have h2 := hwR.row (d := Lib.compact xs ++ List.replicate (xs.length - (Lib.compact xs).length) []) (by rw [hl2]; exact hlen) q #[]
    have hg : ∀ W : World, Go.Sort.grow W #[] = W := fun W => by simp [Go.Sort.grow]
    rw [hg, hl2] at h2
    refine ⟨_, [(b, (Lib.compact xs ++ List.replicate (xs.length - (Lib.compact xs).length) ([] : Str)).map gs ++ cs.drop xs.length)], rfl, .inr ⟨b, cap, _, rfl, rfl, ?_, ?_, by omega, hcm⟩, h2.perm (hp2 [(b, _)]).symm⟩
    · rw [List.length_append, List.length_map, hl2]; simp; omega
    · rw [Nat.mul_one, flat_str, List.map_append, List.append_assoc, List.take_left' (by simp)]
theorem TL.compact {f : FuncId} {v : Value} {xs : List Str} {ob : Blks} {F : Blks → Blks} (hE : Enters P E op f [v]) (hS : CompactC P f) (hO : OwnSl 1 Str.cells v xs ob) (hU : Tl ob L F) (hd : fits dst n = true)
    (h : ∀ a c ob', OwnSl 1 Str.cells (.slice a (Lib.compact xs).length c) (Lib.compact xs) ob' → TL P n ops Q rest (putE dst (.slice a (Lib.compact xs).length c) E) (St M w0 H0 H (F ob'))) :
    TL P n ops Q ({ dst := dst, op := op, type := ty, pos := pos, after := aft, guard := none } :: rest) E (St M w0 H0 H L) :=
  TL.callG (ι := Blks) (Φ := fun u ob' => OwnSl 1 Str.cells u (Lib.compact xs) ob') (C' := fun ob' => St M w0 H0 H (F ob')) hE (fun w hw => run_compact hS hO hU hw) hd (fun u ob' hΦ => by obtain ⟨a, c, rfl⟩ := hΦ.form; exact h a c ob' hΦ)
end
end Go.Sx
