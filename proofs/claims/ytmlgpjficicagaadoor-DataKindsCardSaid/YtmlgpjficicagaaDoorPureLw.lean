import Derived.Test.YtmlgpjficicagaaDoorPureLt
set_option linter.unusedVariables false
set_option linter.unusedSimpArgs false
namespace Go.Sx
open Go
/-! ## quoting and writing -/
theorem hexd_hi (c : UInt8) : ([48, 49, 50, 51, 52, 53, 54, 55, 56, 57, 97, 98, 99, 100, 101, 102] : Str)[(((c / 16).toNat : Int)).toNat]? = some (quotedC.hexC (c / 16)) := by
  have := u8_all (p := fun c => decide (([48, 49, 50, 51, 52, 53, 54, 55, 56, 57, 97, 98, 99, 100, 101, 102] : Str)[(((c / 16).toNat : Int)).toNat]? = some (quotedC.hexC (c / 16)))) (by decide +kernel) c
  exact of_decide_eq_true this
theorem hexd_lo (c : UInt8) : ([48, 49, 50, 51, 52, 53, 54, 55, 56, 57, 97, 98, 99, 100, 101, 102] : Str)[(((c % 16).toNat : Int)).toNat]? = some (quotedC.hexC (c % 16)) := by
  have := u8_all (p := fun c => decide (([48, 49, 50, 51, 52, 53, 54, 55, 56, 57, 97, 98, 99, 100, 101, 102] : Str)[(((c % 16).toNat : Int)).toNat]? = some (quotedC.hexC (c % 16)))) (by decide +kernel) c
  exact of_decide_eq_true this
theorem u8_10 {c : UInt8} : ((c.toNat : Int) = 10) ↔ c = 10 := u8_eq (n := 10)
theorem u8_92 {c : UInt8} : ((c.toNat : Int) = 92) ↔ c = 92 := u8_eq (n := 92)
section
variable {c : UInt8} {s o x : Str} {k : Int}
theorem esc_1 (h : decide ((c.toNat : Int) = 34) = true) : true = decide (c = 34 ∨ c = 92) := by
  have := u8_34.1 (of_decide_eq_true h)
  simp [this]
theorem esc_2 (h : decide ((c.toNat : Int) = 34) = false) : decide ((c.toNat : Int) = 92) = decide (c = 34 ∨ c = 92) := by
  have h1 : ¬ c = 34 := fun e => of_decide_eq_false h (u8_34.2 e)
  have h2 : ((c.toNat : Int) = 92) ↔ c = 92 := u8_eq (n := 92)
  simp [h1, h2]
theorem qc_esc (h : decide (c = 34 ∨ c = 92) = true) : quotedC c = [92, c] := by unfold quotedC; rw [if_pos (of_decide_eq_true h)]
theorem qc_n (h : decide (c = 34 ∨ c = 92) = false) (h2 : (c.toNat : Int) = 10) : quotedC c = [92, 110] := by
  unfold quotedC; rw [if_neg (of_decide_eq_false h), if_pos (u8_10.1 h2)]
theorem qc_x (h : decide (c = 34 ∨ c = 92) = false) (h2 : ¬ (c.toNat : Int) = 10) (h3 : (!plainB c) = true) : quotedC c = [92, 120, quotedC.hexC (c / 16), quotedC.hexC (c % 16)] := by
  unfold quotedC; rw [if_neg (of_decide_eq_false h), if_neg (fun e => h2 (u8_10.2 e)), if_neg (by simpa using h3)]
theorem qc_p (h : decide (c = 34 ∨ c = 92) = false) (h2 : ¬ (c.toNat : Int) = 10) (h3 : (!plainB c) = false) : quotedC c = [c] := by
  unfold quotedC; rw [if_neg (of_decide_eq_false h), if_neg (fun e => h2 (u8_10.2 e)), if_pos (by simpa using h3)]
theorem qd_next (k0 : 0 ≤ k) (hc : s[k.toNat]? = some c) (hx : quotedC c = x) (ho : o = 34 :: (s.take k.toNat).flatMap quotedC) : o ++ x = 34 :: (s.take (k + 1).toNat).flatMap quotedC := by
  rw [take_snoc k0 hc, ho, ← hx]; simp
theorem qd_end (k0 : 0 ≤ k) (h : ¬ k < s.length) (ho : o = 34 :: (s.take k.toNat).flatMap quotedC) : o ++ [34] = quotedL s := by
  rw [take_all h k0] at ho
  rw [ho]; rfl
end
section
variable {t : Token} {c : UInt8}
theorem right_w0 (h : t.kind = 0) (h2 : t.text = []) : false = rightB t := by unfold rightB; rw [if_pos h, h2]; rfl
theorem headD_of' {s : Str} {c : UInt8} (h : s[(0 : Int).toNat]? = some c) : s.isEmpty = false ∧ s.headD 0 = c := by
  cases s with
  | nil => simp at h
  | cons a s => simpa using h
theorem right_w1 (h : t.kind = 0) (hc : t.text[(0 : Int).toNat]? = some c) (h2 : letterB c = false) : false = rightB t := by
  unfold rightB; rw [if_pos h, (headD_of' hc).2, h2]; simp
theorem right_w2 (h : t.kind = 0) (hc : t.text[(0 : Int).toNat]? = some c) (h2 : letterB c = true) : decide ((0 : Int) + (runL nameC (t.text.drop (0 : Int).toNat) : Nat) = t.text.length) = rightB t := by
  unfold rightB; rw [if_pos h, (headD_of' hc).2, (headD_of' hc).1, h2]
  show decide ((0 : Int) + (runL nameC t.text : Nat) = t.text.length) = _
  simp; omega
theorem right_n (h : t.kind = 1) : numeralB t.text = rightB t := by unfold rightB; rw [if_neg (by omega), if_pos h]
theorem right_q (h : t.kind = 2) : true = rightB t := by unfold rightB; rw [if_neg (by omega), if_neg (by omega), if_pos h]
theorem right_s0 (h : t.kind = 3) (h2 : t.text = []) : false = rightB t := by unfold rightB; rw [if_neg (by omega), if_neg (by omega), if_neg (by omega), if_pos h, h2]; rfl
theorem right_s1 (h : t.kind = 3) (h2 : ¬ t.text = []) : decide ((t.text.drop (0 : Int).toNat).take (signL (t.text.drop (0 : Int).toNat)) = t.text) = rightB t := by
  unfold rightB; rw [if_neg (by omega), if_neg (by omega), if_neg (by omega), if_pos h]
  show decide (t.text.take (signL t.text) = t.text) = _
  have he : t.text.isEmpty = false := by cases ht : t.text with | nil => exact absurd ht h2 | cons => rfl
  rw [he]
  have hl := signL_le t.text
  by_cases e : signL t.text = t.text.length
  · simp [e]
  · have : ¬ t.text.take (signL t.text) = t.text := fun h => by
      have := congrArg List.length h
      rw [List.length_take] at this; omega
    simp [e, this]
theorem right_no (h0 : ¬ t.kind = 0) (h1 : ¬ t.kind = 1) (h2 : ¬ t.kind = 2) (h3 : ¬ t.kind = 3) : false = rightB t := by
  unfold rightB; rw [if_neg h0, if_neg h1, if_neg h2, if_neg h3]
end
def prevT (l : List Token) (k : Int) : Option Token := if k ≤ 0 then none else l[(k - 1).toNat]?
def sumW (l : List Token) : Nat := (l.map fun t => 4 * t.text.length + 3).sum
theorem sumW_at {l : List Token} {k : Int} {t : Token} (k0 : 0 ≤ k) (hx : l[k.toNat]? = some t) : sumW (l.take k.toNat) + (4 * t.text.length + 3) ≤ sumW l ∧ sumW (l.take (k + 1).toNat) = sumW (l.take k.toNat) + (4 * t.text.length + 3) := by
  have h2 : sumW (l.take (k + 1).toNat) = sumW (l.take k.toNat) + (4 * t.text.length + 3) := by rw [take_snoc k0 hx]; simp [sumW]
  refine ⟨?_, h2⟩
  rw [← h2]
  have h3 : sumW l = sumW (l.take (k + 1).toNat) + sumW (l.drop (k + 1).toNat) := by
    unfold sumW; rw [← List.sum_append, ← List.map_append, List.take_append_drop]
  omega
section
variable {t tp : Token} {c : UInt8} {p : Option Token} {l : List Token} {k : Int} {o : Str}
theorem right_head (h : (!rightB t) = false) (h1 : t.kind = 1) : ∃ c, t.text[(0 : Int).toNat]? = some c := by
  have h : rightB t = true := by simpa using h
  obtain ⟨c, r, hb, _⟩ := body_head h
  unfold bodyW at hb
  rw [if_neg (by omega)] at hb
  exact ⟨c, by rw [hb]; rfl⟩
theorem bw_1 (h : (!rightB t) = true) : true = badW p t := by unfold badW; rw [h]; rfl
theorem bw_2 (h : (!rightB t) = false) (h1 : ¬ t.kind = 1) : false = badW p t := by unfold badW; rw [h]; simp [h1]
theorem bw_3 (h : (!rightB t) = false) (hc : t.text[(0 : Int).toNat]? = some c) (h2 : decide ((c.toNat : Int) = 45) = false) : false = badW p t := by
  have : ¬ c = 45 := fun e => of_decide_eq_false h2 (u8_45.2 e)
  unfold badW; rw [h, head_of hc]; simp [this]
theorem bw_4 (h : (!rightB t) = false) (hk : ¬ 0 < k) : false = badW (prevT l k) t := by
  unfold badW prevT; rw [h, if_pos (by omega)]; simp
theorem bw_5 (h : (!rightB t) = false) (h1 : t.kind = 1) (hc : t.text[(0 : Int).toNat]? = some c) (h2 : decide ((c.toNat : Int) = 45) = true) (hp : l[(k - 1).toNat]? = some tp) (hk : 0 < k) : closedB tp = badW (prevT l k) t := by
  have : c = 45 := u8_45.1 (of_decide_eq_true h2)
  unfold badW prevT; rw [h, head_of hc, if_neg (by omega), hp]; simp [this, h1]
theorem prevT_next (k0 : 0 ≤ k) (hx : l[k.toNat]? = some t) : prevT l (k + 1) = some t := by
  unfold prevT; rw [if_neg (by omega), show k + 1 - 1 = k by omega, hx]
theorem prevT_some (hk : 0 < k) (hx : l[k.toNat]? = some t) : (prevT l k).isSome = true := by
  have hl := ix_lt hx
  unfold prevT; rw [if_neg (by omega), List.getElem?_eq_getElem (by omega)]; rfl
theorem prevT_none (hk : ¬ 0 < k) : (prevT l k).isSome = false := by unfold prevT; rw [if_pos (by omega)]; rfl
theorem wr_step (k0 : 0 ≤ k) (hx : l[k.toNat]? = some t) (hbad : badW (prevT l k) t = false) (hw : writeF none l = (writeF (prevT l k) (l.drop k.toNat)).map (fun x => o ++ x)) :
    writeF none l = (writeF (prevT l (k + 1)) (l.drop (k + 1).toNat)).map (fun x => (o ++ ((if (prevT l k).isSome = true then [32] else []) ++ bodyW t)) ++ x) := by
  rw [hw, drop_at k0 hx, writeF, if_neg (by simp [hbad]), prevT_next k0 hx, Option.map_map]
  congr 1
  funext x
  simp
theorem wr_next_pq (k0 : 0 ≤ k) (hx : l[k.toNat]? = some t) (hbad : badW (prevT l k) t = false) (hk : 0 < k) (h2 : t.kind = 2) (hw : writeF none l = (writeF (prevT l k) (l.drop k.toNat)).map (fun x => o ++ x)) :
    writeF none l = (writeF (prevT l (k + 1)) (l.drop (k + 1).toNat)).map (fun x => ((o ++ [32]) ++ quotedL t.text) ++ x) := by
  rw [wr_step k0 hx hbad hw, prevT_some hk hx, bodyW, if_pos h2]; simp
theorem wr_next_pt (k0 : 0 ≤ k) (hx : l[k.toNat]? = some t) (hbad : badW (prevT l k) t = false) (hk : 0 < k) (h2 : ¬ t.kind = 2) (hw : writeF none l = (writeF (prevT l k) (l.drop k.toNat)).map (fun x => o ++ x)) :
    writeF none l = (writeF (prevT l (k + 1)) (l.drop (k + 1).toNat)).map (fun x => ((o ++ [32]) ++ t.text) ++ x) := by
  rw [wr_step k0 hx hbad hw, prevT_some hk hx, bodyW, if_neg h2]; simp
theorem wr_next_zq (k0 : 0 ≤ k) (hx : l[k.toNat]? = some t) (hbad : badW (prevT l k) t = false) (hk : ¬ 0 < k) (h2 : t.kind = 2) (hw : writeF none l = (writeF (prevT l k) (l.drop k.toNat)).map (fun x => o ++ x)) :
    writeF none l = (writeF (prevT l (k + 1)) (l.drop (k + 1).toNat)).map (fun x => (o ++ quotedL t.text) ++ x) := by
  rw [wr_step k0 hx hbad hw, prevT_none hk, bodyW, if_pos h2]; simp
theorem wr_next_zt (k0 : 0 ≤ k) (hx : l[k.toNat]? = some t) (hbad : badW (prevT l k) t = false) (hk : ¬ 0 < k) (h2 : ¬ t.kind = 2) (hw : writeF none l = (writeF (prevT l k) (l.drop k.toNat)).map (fun x => o ++ x)) :
    writeF none l = (writeF (prevT l (k + 1)) (l.drop (k + 1).toNat)).map (fun x => (o ++ t.text) ++ x) := by
  rw [wr_step k0 hx hbad hw, prevT_none hk, bodyW, if_neg h2]; simp
theorem wr_end (h : ¬ k < l.length) (k0 : 0 ≤ k) (hw : writeF none l = (writeF (prevT l k) (l.drop k.toNat)).map (fun x => o ++ x)) : writeS l = (o, 0) := by
  rw [drop_end h] at hw
  unfold writeS; rw [hw]; simp [writeF]
theorem wr_bad (k0 : 0 ≤ k) (hx : l[k.toNat]? = some t) (hbad : badW (prevT l k) t = true) (hw : writeF none l = (writeF (prevT l k) (l.drop k.toNat)).map (fun x => o ++ x)) : writeS l = ([], 204) := by
  rw [drop_at k0 hx, writeF, if_pos hbad] at hw
  unfold writeS; rw [hw]; rfl
end
end Go.Sx
