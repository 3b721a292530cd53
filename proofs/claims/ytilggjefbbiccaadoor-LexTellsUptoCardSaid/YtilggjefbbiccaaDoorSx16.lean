import Derived.Test.YtilggjefbbiccaaDoorSx15
import Derived.Lib.AppendStr
import Derived.Laws.BytesString
set_option linter.unusedSimpArgs false
set_option linter.unusedVariables false
namespace Go.Sx
open Go

/-! ## bytes: rows of them, texts of them -/
def U8.cells (c : UInt8) : List Value := [.int .u8 (c.toNat : Int)]
instance : Cells 1 U8.cells := ⟨fun _ => rfl, by decide, fun _ => rfl⟩
theorem flat_u8 : ∀ s : List UInt8, s.flatMap U8.cells = s.map fun b => Value.int .u8 b.toNat
  | [] => rfl
  | c :: s => by simp [U8.cells, flat_u8 s]
theorem strCells_u8 (s : List UInt8) : Lib.strCells ⟨s.toArray⟩ = s.flatMap U8.cells := by
  rw [flat_u8]; simp [Lib.strCells]

section
variable {P : Program} {n : Nat} {ops : Array Oper} {Q : Exit → Act → World → Prop} {E : Env} {M : List Nat} {w0 : World} {H0 H : Hp} {L : Blks} {C : World → Prop} {rest : List Oper} {dst : Option Nat} {op : Op} {ty : TypeId} {pos : String} {aft : Array Edge}

theorem run_appendS {e bs t ts : Nat} {z : List Value} [hE : Elz P t e 1 bs z] (hts : P.underlying ts = some .string) {v : Value} {xs ys : List UInt8} {ob : Blks} {F : Blks → Blks} {ty : TypeId}
    (hO : OwnSl 1 U8.cells v xs ob) (hb : (xs.length + ys.length) * bs ≤ 140737488355328) (hbs : 0 < bs) (hU : Tl ob L F) {w : World} (hw : St M w0 H0 H L w) :
    ∃ v' ob' w', OwnSl 1 U8.cells v' (xs ++ ys) ob' ∧ St M w0 H0 H (F ob') w' ∧ (Builtin.append_ #[t, ts] ty #[v, gs ys]).run P w = .ok v' w' := by
  obtain ⟨hu, i, zv, hi, h1, h2, h3, h4⟩ := hE.und
  have hmax : xs.length + ys.length ≤ 140737488355328 := Nat.le_trans (Nat.le_mul_of_pos_right _ hbs) hb
  obtain ⟨R, hp1, hp2⟩ := hU.perm
  have hwR := hw.perm hp1
  have hzk : zv.cells.size = 1 := by rw [← hE.len, ← h4]; simp
  have hzl : ∀ m, (Builtin.zeroCells zv.cells m).toList.length = m := by intro m; rw [Array.length_toList, size_zeroCells, hzk, Nat.mul_one]
  have hfl : ∀ l : List UInt8, (l.flatMap U8.cells).length = l.length := fun l => by rw [flat_len (k := 1) (fun x _ => rfl), Nat.mul_one]
  have hsz : (ByteArray.mk ys.toArray).size = ys.length := by simp [ByteArray.size]
  have hgrown : ∀ (b' cap' : Nat) (ds : List Value), ds.length = cap' → ds.take (xs ++ ys).length = (xs ++ ys).flatMap U8.cells → (xs ++ ys).length ≤ cap' → cap' ≤ 9223372036854775807 →
      OwnSl 1 U8.cells (.slice (some ⟨b', 0, none⟩) (xs ++ ys).length cap') (xs ++ ys) [(b', ds)] := fun b' cap' ds e1 e2 e3 e4 => .inr ⟨b', cap', ds, rfl, rfl, by omega, by rw [Nat.mul_one]; exact e2, e3, e4⟩
  have hfc := fun w => Lib.run_firstCells_string (P := P) w 1 ⟨ys.toArray⟩
  rw [hsz, strCells_u8] at hfc
  rcases hO with ⟨rfl, rfl, rfl⟩ | ⟨b, cap, cs, rfl, rfl, hcl, htk, hle, hcm⟩
  · by_cases hys : ys = []
    · subst hys
      refine ⟨.slice none 0 0, [], w, .inl ⟨rfl, rfl, rfl⟩, hw.perm (hp1.trans (hp2 []).symm), ?_⟩
      have := hfc w
      simp at this
      have h0 := Lib.run_firstCells_string (P := P) w i.size ⟨#[]⟩
      simp [Builtin.append_, run_underlying hu, run_underlying hts, sizeOf, typeInfo, hi, Builtin.lenOf, h1, this, gs, ByteArray.size]
    · have hypos : 0 < ys.length := List.length_pos_iff.2 hys
      have hb0 : ys.length * i.bytes ≤ 281474976710656 := by rw [h2]; simp at hb; omega
      have hr := run_append_nil_string (P := P) w t ts ty e i zv hu hts hi h3 ⟨ys.toArray⟩ (by rw [hsz]; exact hypos) (by rw [hsz]; simp at hmax; omega) (by rw [hsz]; exact hb0)
      rw [hsz] at hr
      have hge := grownCap_ge w ys.length 0 e
      have hcm := grownCap_le_maxLen w ys.length 0 e (by simp only [maxLen]; simp at hmax; omega)
      simp only [maxLen] at hcm
      have hst := (hwR.drew).alloc ((ys.flatMap U8.cells) ++ (Builtin.zeroCells zv.cells (grownCap w ys.length 0 e - ys.length)).toList) e
      refine ⟨_, [(w.heap.size, (ys.flatMap U8.cells) ++ (Builtin.zeroCells zv.cells (grownCap w ys.length 0 e - ys.length)).toList)], _, hgrown _ (grownCap w ys.length 0 e) _ ?_ ?_ ?_ ?_, hst.perm (hp2 [(_, _)]).symm, ?_⟩
      · rw [List.length_append, hfl, hzl]; omega
      · simp only [List.nil_append]
        exact List.take_left' (hfl ys)
      · simpa using hge
      · omega
      · rw [gs, hr]
        congr 2
        congr 1
        apply Array.ext'
        simp [flat_u8]
  · by_cases hroom : xs.length + ys.length ≤ cap
    · have hfit : xs.length + 0 + (ys.flatMap U8.cells).length ≤ cs.length := by rw [hfl, hcl]; omega
      have hone : ∀ u ∈ ys.flatMap U8.cells, u.oneCell' = true := by
        intro u hu
        rw [flat_u8] at hu
        obtain ⟨x, _, rfl⟩ := List.mem_map.1 hu
        rfl
      obtain ⟨w', hr, hst⟩ := run_storeCells (P := P) (ys.flatMap U8.cells) cs xs.length 0 _ _ w hwR (Upd.here _) hone hfit
      refine ⟨_, [(b, setCells cs xs.length (ys.flatMap U8.cells))], w', hgrown b cap _ ?_ ?_ ?_ hcm, hst.perm (hp2 [(_, _)]).symm, ?_⟩
      · rw [setCells_eq _ _ _ (by simpa using hfit)]
        simp only [List.length_append, List.length_take, List.length_drop]; omega
      · rw [setCells_eq _ _ _ (by simpa using hfit)]
        rw [Nat.mul_one] at htk
        rw [htk, List.flatMap_append, ← List.append_assoc, List.take_left']
        rw [List.length_append, List.length_append, hfl, hfl]
      · simpa using hroom
      · simp [Builtin.append_, run_underlying hu, run_underlying hts, sizeOf, typeInfo, hi, h1, Builtin.lenOf, gs, hsz, hroom, hfc, Addr.add_lit, hr]
    · have holds : ∀ j u, (xs.flatMap U8.cells)[j]? = some u → w.cell? ((⟨b, 0, none⟩ : Addr).add j) = some u := by
        intro j u hj
        rw [add_lit', Nat.zero_add, hwR.cell (.here _) j]
        rw [← htk, List.getElem?_take] at hj
        split at hj
        · exact hj
        · cases hj
      have hr := Lib.run_append_grow_string (P := P) w t ts ty e i zv hu hts hi h3 ⟨b, 0, none⟩ xs.length cap (xs.flatMap U8.cells) (by rw [hfl, h1]; omega) holds ⟨ys.toArray⟩ (by rw [hsz]; omega) (by rw [hsz]; omega) (growslice_fits (by rw [hsz]; omega) (by rw [hsz, h2]; exact hb))
      rw [hsz, strCells_u8] at hr
      have hge := grownCap_ge w (xs.length + ys.length) cap e
      have hcm2 := grownCap_le_maxLen w (xs.length + ys.length) cap e (by simp only [maxLen]; omega)
      simp only [maxLen] at hcm2
      have hst := (hwR.drop.drew).alloc ((xs.flatMap U8.cells) ++ (ys.flatMap U8.cells) ++ (Builtin.zeroCells zv.cells (grownCap w (xs.length + ys.length) cap e - (xs.length + ys.length))).toList) e
      refine ⟨_, [(w.heap.size, (xs.flatMap U8.cells) ++ (ys.flatMap U8.cells) ++ (Builtin.zeroCells zv.cells (grownCap w (xs.length + ys.length) cap e - (xs.length + ys.length))).toList)], _, hgrown _ (grownCap w (xs.length + ys.length) cap e) _ ?_ ?_ ?_ ?_, hst.perm (hp2 [(_, _)]).symm, ?_⟩
      · rw [List.length_append, List.length_append, hfl, hfl, hzl]; omega
      · rw [List.flatMap_append]
        exact List.take_left' (by rw [List.length_append, List.length_append, hfl, hfl])
      · simpa using hge
      · omega
      · rw [gs, hr]
        congr 2
        · simp
        · congr 1
          apply Array.ext'; simp

/-- a text's bytes behind a row of one's own -/
theorem TL.appendS {e bs t ts : Nat} {z : List Value} {c : Call} {x y : Operand} {v : Value} {xs ys : List UInt8} {ob : Blks} {F : Blks → Blks}
    (hcl : c = { callee := .builtin .append, args := #[x, y], argTypes := #[t, ts] }) (hx : ev E x = some v) (hy : ev E y = some (gs ys)) (hO : OwnSl 1 U8.cells v xs ob)
    [hts : Und P ts .string] [hE : Elz P t e 1 bs z] (hb : (xs.length + ys.length) * bs ≤ 140737488355328) (hbs : Nat.blt 0 bs = true) (hU : Tl ob L F) (hd : fits dst n = true)
    (h : ∀ a' c' ob', OwnSl 1 U8.cells (.slice a' (xs ++ ys).length c') (xs ++ ys) ob' → TL P n ops Q rest (putE dst (.slice a' (xs ++ ys).length c') E) (St M w0 H0 H (F ob'))) :
    TL P n ops Q ({ dst := dst, op := .call c, type := ty, pos := pos, after := aft, guard := none } :: rest) E (St M w0 H0 H L) := by
  intro a w he hw
  refine wpW_plain rfl (fun K hK => ?_)
  obtain ⟨v', ob', w', h1, h2, h3⟩ := run_appendS (P := P) (t := t) (ty := ty) (ys := ys) hts.out hO hb (by simpa [Nat.blt_eq] using hbs) hU hw
  have hrun : (execOp a.eval { dst := dst, op := .call c, type := ty, pos := pos, after := aft, guard := none }).run P w = .ok (.value v') w' := by
    subst hcl
    simp [execOp, resolve, invoke, builtin, he.eval hx, he.eval hy, h3]
  unfold Oper.wp
  rw [hrun]
  obtain ⟨a', c', rfl⟩ := h1.form
  exact hK _ _ (h a' c' ob' h1 _ _ (he.put hd) h2)

theorem foldl_push : ∀ (l : List UInt8) (s : ByteArray), (l.map fun b => (b.toNat : Int)).foldl (fun r n => r.push (UInt8.ofNat n.toNat)) s = s ++ ⟨l.toArray⟩
  | [], s => by
    apply ByteArray.ext
    simp
  | c :: l, s => by
    simp only [List.map_cons, List.foldl_cons]
    rw [foldl_push l]
    apply ByteArray.ext
    apply Array.ext'
    simp
/-- a row of bytes of one's own, as a text -/
theorem pr_bytes {s t e k bs : Nat} {z : List Value} {x : Operand} {v : Value} {xs : List UInt8} {ob : Blks} {F : Blks → Blks} (hx : ev E x = some v) (hO : OwnSl 1 U8.cells v xs ob) (hU : Tl ob L F) [hE : Elz P s e k bs z] [he8 : Und P e (.int .u8)] [ht : Und P t .string] :
    PR P E (St M w0 H0 H L) (.convert s t x) (gs xs) := by
  intro n ac w o ho he hw
  unfold execOp
  rw [ho]
  obtain ⟨hu, _⟩ := hE.und
  simp only [he.eval hx]
  obtain ⟨R, hp1, _⟩ := hU.perm
  have hwR := hw.perm hp1
  rcases hO with ⟨rfl, rfl, rfl⟩ | ⟨b, cap, cs, rfl, rfl, hcl, htk, hle, hcm⟩
  · have h := run_convert_bytes_string (P := P) w s t e none 0 0 hu he8.out ht.out
    have h2 : (Conv.bytesToString (.slice none 0 0)).run P w = .ok (gs []) w := by simp [Conv.bytesToString, gs]; rfl
    simp [h, h2]
  · have h := run_convert_bytes_string (P := P) w s t e (some ⟨b, 0, none⟩) xs.length cap hu he8.out ht.out
    have hld : (loadCells ⟨b, 0, none⟩ xs.length).run P w = .ok ((xs.map fun b => (b.toNat : Int)).map (Value.int .u8)).toArray w := by
      have hlen : xs.length = ((xs.map fun b => (b.toNat : Int)).map (Value.int .u8)).length := by simp
      rw [hlen]
      refine run_loadCells_list (P := P) w ⟨b, 0, none⟩ _ (fun j v hj => ?_)
      rw [add_lit', Nat.zero_add, hwR.cell (.here _) j]
      have hj2 : (xs.flatMap U8.cells)[j]? = some v := by rw [flat_u8]; simpa using hj
      rw [← htk, List.getElem?_take] at hj2
      split at hj2
      · exact hj2
      · cases hj2
    have h2 := run_bytesToString (P := P) w ⟨b, 0, none⟩ xs.length cap _ hld
    rw [foldl_push] at h2
    have h3 : (ByteArray.empty ++ ⟨xs.toArray⟩ : ByteArray) = ⟨xs.toArray⟩ := by
      apply ByteArray.ext; simp
    rw [h3] at h2
    simp [h, h2, gs]

/-! ## an element of a row of one's own -/
def ogb (ob : Blks) : Nat := (ob.head?.map (·.1)).getD 0
theorem pr_indexO {α : Type} {t e k : Nat} {enc : α → List Value} {x y : Operand} {v : Value} {xs : List α} {ob : Blks} {kd : IntKind} {i : Int} (hx : ev E x = some v) (hy : ev E y = some (.int kd i)) (hO : OwnSl k enc v xs ob) [hel : El P t e k] (h0 : 0 ≤ i) (h1 : i < xs.length) :
    PR P E C (.indexAddr t x y) (.pointer (some ⟨ogb ob, i.toNat * k, none⟩)) := by
  rcases hO with ⟨rfl, rfl, rfl⟩ | ⟨b, cap, cs, rfl, rfl, hcl, htk, hle, hcm⟩
  · simp at h1; omega
  · have := pr_index (P := P) (E := E) (C := C) (t := t) (e := e) (k := k) hx hy h0 h1
    rw [Nat.zero_add] at this
    exact this
theorem og_cell {α : Type} {k : Nat} {enc : α → List Value} [hc : Cells k enc] {v : Value} {xs : List α} {ob : Blks} {F : Blks → Blks} {i : Nat} {y : α} (hO : OwnSl k enc v xs ob) (hU : Tl ob L F) (hi : xs[i]? = some y) {w : World} (hw : St M w0 H0 H L w) (j : Nat) (u : Value) (hu : (enc y)[j]? = some u) :
    w.cell? ⟨ogb ob, i * k + j, none⟩ = some u := by
  obtain ⟨R, hp1, _⟩ := hU.perm
  have hwR := hw.perm hp1
  rcases hO with ⟨rfl, rfl, rfl⟩ | ⟨b, cap, cs, rfl, rfl, hcl, htk, hle, hcm⟩
  · simp at hi
  · have h2 := flat_get (k := k) (fun x _ => hc.len x) i y hi j u hu
    rw [← htk, List.getElem?_take] at h2
    split at h2
    · show w.cell? ⟨b, _, none⟩ = _
      rw [hwR.cell (.here _)]; exact h2
    · cases h2
theorem pr_ldO {α : Type} {t k : Nat} {enc : α → List Value} [hc : Cells k enc] {x : Operand} {v : Value} {xs : List α} {ob : Blks} {F : Blks → Blks} {i : Nat} {y : α} (hx : ev E x = some (.pointer (some ⟨ogb ob, i * k, none⟩))) (hO : OwnSl k enc v xs ob) (hU : Tl ob L F) (hi : xs[i]? = some y) [ht : Ty P t true k] :
    PR P E (St M w0 H0 H L) (.load t x) (.agg (enc y).toArray) := by
  have hk : (enc y).length = k := hc.len y
  have ht' : Ty P t true (enc y).length := by rw [hk]; exact ht
  exact pr_load hx fun w hw => run_loadVar_agg ht' (fun j u hj => og_cell hO hU hi hw j u hj)
theorem pr_ldO1 {α : Type} {t k k' j : Nat} {enc : α → List Value} [hc : Cells k enc] {x : Operand} {v u : Value} {xs : List α} {ob : Blks} {F : Blks → Blks} {i : Nat} {y : α} (hx : ev E x = some (.pointer (some ⟨ogb ob, i * k + j, none⟩))) (hO : OwnSl k enc v xs ob) (hU : Tl ob L F) (hi : xs[i]? = some y) (hj : (enc y)[j]? = some u) [ht : Ty P t false k'] :
    PR P E (St M w0 H0 H L) (.load t x) u := pr_load hx fun w hw => run_loadVar_one ht (og_cell hO hU hi hw j u hj)

/-! ## shifts and masks -/
theorem pr_shr {k k2 : IntKind} {t t' : TypeId} {x y : Operand} {a b : Int} (hx : ev E x = some (.int k a)) (hy : ev E y = some (.int k2 b)) (h0 : 0 ≤ b) (h1 : b ≤ k.bits) : PR P E C (.binOp .shr t x y t') (.int k (a / 2 ^ b.toNat)) := by
  intro n ac w o ho he hw
  unfold execOp
  rw [ho]
  simp [he.eval hx, he.eval hy, eqGuard_at_int, eqGuard, binOp_shr, shift_shr k k2 a b h0 h1]
theorem pr_and {k : IntKind} {t t' : TypeId} {x y : Operand} {a b : Int} (hx : ev E x = some (.int k a)) (hy : ev E y = some (.int k b)) : PR P E C (.binOp .and t x y t') (.int k (bits .and k a b)) := by
  intro n ac w o ho he hw
  unfold execOp
  rw [ho]
  simp [he.eval hx, he.eval hy, eqGuard_at_int, eqGuard, binOp_and, intBits_and]
theorem u8_all {p : UInt8 → Bool} (h : (List.range 256).all (fun n => p (UInt8.ofNat n)) = true) (c : UInt8) : p c = true := by
  have := List.all_eq_true.1 h c.toNat (List.mem_range.2 c.toNat_lt)
  simpa using this
theorem u8_shr4 (c : UInt8) : (c.toNat : Int) / 2 ^ (4 : Int).toNat = ((c / 16).toNat : Int) := by
  have := u8_all (p := fun c => decide ((c.toNat : Int) / 2 ^ (4 : Int).toNat = ((c / 16).toNat : Int))) (by decide +kernel) c
  exact of_decide_eq_true this
theorem u8_and15 (c : UInt8) : bits .and .u8 c.toNat 15 = ((c % 16).toNat : Int) := by
  have := u8_all (p := fun c => decide (bits .and .u8 c.toNat 15 = ((c % 16).toNat : Int))) (by decide +kernel) c
  exact of_decide_eq_true this
theorem u8_wrap_add (a b : UInt8) : IntKind.u8.wrap ((a.toNat : Int) + b.toNat) = ((a + b).toNat : Int) := by
  have h1 := a.toNat_lt; have h2 := b.toNat_lt
  simp only [IntKind.wrap, IntKind.signed, IntKind.bits, UInt8.toNat_add]
  simp
theorem u8_wrap_sub (a b : UInt8) : IntKind.u8.wrap ((a.toNat : Int) - b.toNat) = ((a - b).toNat : Int) := by
  have h1 := a.toNat_lt; have h2 := b.toNat_lt
  simp only [IntKind.wrap, IntKind.signed, IntKind.bits, UInt8.toNat_sub]
  simp
  omega
theorem u8_wrap_mul (a b : UInt8) : IntKind.u8.wrap ((a.toNat : Int) * b.toNat) = ((a * b).toNat : Int) := by
  simp only [IntKind.wrap, IntKind.signed, IntKind.bits, UInt8.toNat_mul]
  simp
/-! ## a function of the library, by its contract -/
theorem Fn.ext {f : FuncId} {args : List Value} {H : Hp} {Φ : Value → Prop} (h : ∀ w, St [] w H H [] w → Calls P f args.toArray w (fun e w' => ∃ v, e = .returned v ∧ Φ v ∧ Ext w w')) : Fn P f args H (fun v _ => Φ v) := by
  intro w hw
  refine (h w hw).mono ?_
  rintro e w' ⟨v, rfl, hΦ, hx⟩
  exact ⟨v, H, [], rfl, hx.st hw, rfl, hΦ⟩
end
end Go.Sx
