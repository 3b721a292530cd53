import Derived.Test.YtgagehpnkecmkaaDoorPureTr
import Derived.Test.YtgagehpnkecmkaaDoorPureVa
import Derived.Test.YtgagehpnkecmkaaDoorPureKN
import Derived.Sort.Walk0
set_option linter.unusedVariables false
namespace Go.Sx
open Go
/-! ## the reference's variables: each put into its place -/
def putS : List Str → Str → List Str
  | [], s => [s]
  | x :: r, s => if Op.bytesLess x s = true then x :: putS r s else if x = s then x :: r else s :: x :: r
theorem put_next {l : List Str} {s x : Str} {k : Int} (h0 : 0 ≤ k) (h : putS l s = l.take k.toNat ++ putS (l.drop k.toNat) s) (hx : l[k.toNat]? = some x) (hc : Op.bytesLess x s = true) :
    putS l s = l.take (k + 1).toNat ++ putS (l.drop (k + 1).toNat) s := by
  have hlt : k.toNat < l.length := (List.getElem?_eq_some_iff.1 hx).1
  have hx' : l[k.toNat] = x := (List.getElem?_eq_some_iff.1 hx).2
  rw [h, take_snoc h0 hx, List.drop_eq_getElem_cons hlt, hx', putS, if_pos hc, show (k + 1).toNat = k.toNat + 1 by omega]
  simp
theorem put_have {l : List Str} {s x : Str} {k : Int} (h : putS l s = l.take k.toNat ++ putS (l.drop k.toNat) s) (hx : l[k.toNat]? = some x) (hc : ¬ Op.bytesLess x s = true) (he : x = s) : putS l s = l := by
  have hlt : k.toNat < l.length := (List.getElem?_eq_some_iff.1 hx).1
  have hx' : l[k.toNat] = x := (List.getElem?_eq_some_iff.1 hx).2
  rw [h, List.drop_eq_getElem_cons hlt, hx', putS, if_neg hc, if_pos he, ← hx', ← List.drop_eq_getElem_cons hlt, List.take_append_drop]
theorem put_mid {l : List Str} {s x : Str} {k : Int} (h : putS l s = l.take k.toNat ++ putS (l.drop k.toNat) s) (hx : l[k.toNat]? = some x) (hc : ¬ Op.bytesLess x s = true) (he : ¬ x = s) :
    putS l s = ([] ++ (l.take k.toNat).drop 0 ++ [s]) ++ (l.take l.length).drop k.toNat := by
  have hlt : k.toNat < l.length := (List.getElem?_eq_some_iff.1 hx).1
  have hx' : l[k.toNat] = x := (List.getElem?_eq_some_iff.1 hx).2
  rw [h, List.drop_eq_getElem_cons hlt, hx', putS, if_neg hc, if_neg he, ← hx', ← List.drop_eq_getElem_cons hlt]
  simp
theorem put_end {l : List Str} {s : Str} {k : Int} (h : putS l s = l.take k.toNat ++ putS (l.drop k.toNat) s) (h1 : ¬ k < l.length) :
    putS l s = ([] ++ (l.take k.toNat).drop 0 ++ [s]) ++ (l.take l.length).drop k.toNat := by
  rw [h, List.drop_eq_nil_of_le (show l.length ≤ k.toNat by omega), putS]
  have e1 : l.drop k.toNat = [] := List.drop_eq_nil_of_le (by omega)
  simp [e1]
theorem put_len (l : List Str) (s : Str) : (putS l s).length ≤ l.length + 1 := by
  induction l with
  | nil => simp [putS]
  | cons x r ih =>
    unfold putS
    split
    · simp; omega
    · split <;> simp
end Go.Sx
