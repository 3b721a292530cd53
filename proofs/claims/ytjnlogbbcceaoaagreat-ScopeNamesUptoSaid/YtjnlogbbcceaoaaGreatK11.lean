import Derived.Test.YtjnlogbbcceaoaaGreatK10
set_option linter.all false
set_option maxRecDepth 100000
namespace Go.Sx
open Go
def withinB (x : SPoint) (r : Str) : Bool := decide (x.frm = r) || decide (x.to = r)
def spanF : List Bool → List Int → List Int → List Bool × List Int
  | met, todo, [] => (met, todo)
  | met, todo, i :: r => if 0 ≤ i ∧ met[i.toNat]? = some false then spanF (met.set i.toNat true) (todo ++ [i]) r else spanF met todo r
def armsF : List Bool → List Int → List SArm → List Bool × List Int
  | met, todo, [] => (met, todo)
  | met, todo, a :: r => if met[a.next.toNat]? = some false then armsF (met.set a.next.toNat true) (todo ++ [a.next]) r else armsF met todo r
def spanStep (p : SProto) (role : Str) (j : Int) (met : List Bool) (todo : List Int) : List Bool × List Int := match p.points[j.toNat]? with
  | none => (met, todo)
  | some x => if withinB x role = true then (met, todo) else armsF met todo x.arms
def spanW (p : SProto) (role : Str) : Nat → Nat → List Bool → List Int → List Bool × List Int
  | 0, _, met, todo => (met, todo)
  | f + 1, i, met, todo => match todo[i]? with
    | none => (met, todo)
    | some j => spanW p role f (i + 1) (spanStep p role j met todo).1 (spanStep p role j met todo).2
def trues (met : List Bool) : List Int := ((List.range met.length).filter (fun i => met[i]? == some true)).map (fun i : Nat => (i : Int))
def spanM (p : SProto) (role : Str) (frm : List Int) : List Bool × List Int := spanF (List.replicate p.points.length false) [] frm
def spanS (p : SProto) (role : Str) (frm : List Int) : List Int := trues (spanW p role p.points.length 0 (spanM p role frm).1 (spanM p role frm).2).1
structure Met (n : Nat) (met : List Bool) (todo : List Int) : Prop where
  len : met.length = n
  cnt : todo.length = met.count true
  rng : ∀ j ∈ todo, 0 ≤ j ∧ j < n
theorem Met.le {n : Nat} {met : List Bool} {todo : List Int} (h : Met n met todo) : todo.length ≤ n := by
  rw [h.cnt, ← h.len]; exact List.count_le_length
theorem Met.zero (n : Nat) : Met n (List.replicate n false) [] := ⟨by simp, by simp [List.count_replicate], by simp⟩
theorem count_set {l : List Bool} {i : Nat} (h : l[i]? = some false) : (l.set i true).count true = l.count true + 1 := by
  induction l generalizing i with
  | nil => simp at h
  | cons b l ih =>
    cases i with
    | zero => simp at h; subst h; simp
    | succ i =>
      simp only [List.getElem?_cons_succ] at h
      have := ih h
      simp only [List.set_cons_succ, List.count_cons, this]
      omega
theorem Met.set {n : Nat} {met : List Bool} {todo : List Int} (h : Met n met todo) {j : Int} (h0 : 0 ≤ j) (hj : met[j.toNat]? = some false) : Met n (met.set j.toNat true) (todo ++ [j]) := by
  refine ⟨by simp [h.len], by rw [count_set hj, List.length_append, h.cnt]; rfl, fun x hx => ?_⟩
  rcases List.mem_append.1 hx with hx | hx
  · exact h.rng x hx
  · rw [List.mem_singleton.1 hx]
    have := (List.getElem?_eq_some_iff.1 hj).1
    rw [h.len] at this
    exact ⟨h0, by omega⟩
theorem spanF_no {met : List Bool} {todo : List Int} {l : List Int} {i : Int} {k : Nat} (hx : l[k]? = some i) (h : ¬ (0 ≤ i ∧ met[i.toNat]? = some false)) : spanF met todo (l.drop k) = spanF met todo (l.drop (k + 1)) := by
  rw [List.drop_eq_getElem?_toList_append, hx]
  simp only [Option.toList_some, List.singleton_append, spanF, if_neg h]
theorem spanF_yes {met : List Bool} {todo : List Int} {l : List Int} {i : Int} {k : Nat} (hx : l[k]? = some i) (h : 0 ≤ i ∧ met[i.toNat]? = some false) : spanF met todo (l.drop k) = spanF (met.set i.toNat true) (todo ++ [i]) (l.drop (k + 1)) := by
  rw [List.drop_eq_getElem?_toList_append, hx]
  simp only [Option.toList_some, List.singleton_append, spanF, if_pos h]
theorem armsF_no {met : List Bool} {todo : List Int} {l : List SArm} {a : SArm} {k : Nat} (hx : l[k]? = some a) (h : ¬ met[a.next.toNat]? = some false) : armsF met todo (l.drop k) = armsF met todo (l.drop (k + 1)) := by
  rw [List.drop_eq_getElem?_toList_append, hx]
  simp only [Option.toList_some, List.singleton_append, armsF, if_neg h]
theorem armsF_yes {met : List Bool} {todo : List Int} {l : List SArm} {a : SArm} {k : Nat} (hx : l[k]? = some a) (h : met[a.next.toNat]? = some false) : armsF met todo (l.drop k) = armsF (met.set a.next.toNat true) (todo ++ [a.next]) (l.drop (k + 1)) := by
  rw [List.drop_eq_getElem?_toList_append, hx]
  simp only [Option.toList_some, List.singleton_append, armsF, if_pos h]
theorem met_at {met : List Bool} {i : Int} (h0 : 0 ≤ i) (h1 : i < met.length) : ∃ b, met[i.toNat]? = some b ∧ (met.map Value.bool)[0 + i.toNat * 1]? = some (.bool b) := by
  have h2 : i.toNat < met.length := by omega
  refine ⟨met[i.toNat], List.getElem?_eq_getElem h2, ?_⟩
  rw [Nat.zero_add, Nat.mul_one, List.getElem?_map, List.getElem?_eq_getElem h2]; rfl
theorem trues_app (met : List Bool) (k : Nat) (b : Bool) (h : met[k]? = some b) : (((List.range (k + 1)).filter (fun i => met[i]? == some true)).map (fun i : Nat => (i : Int))) = ((List.range k).filter (fun i => met[i]? == some true)).map (fun i : Nat => (i : Int)) ++ (if b = true then [(k : Int)] else []) := by
  rw [List.range_succ, List.filter_append, List.map_append]
  congr 1
  cases b <;> simp [h]
def NxOk (p : SProto) : Prop := ∀ x ∈ p.points, ∀ a ∈ x.arms, 0 ≤ a.next ∧ a.next < p.points.length
theorem sameI_len {a b : List Int} (h : ¬ (a.length : Int) = b.length) : decide (a = b) = false := by
  simp only [decide_eq_false_iff_not]; rintro rfl; exact h rfl
theorem sameI_at {a b : List Int} {k : Int} {x y : Int} (hx : a[k.toNat]? = some x) (hy : b[k.toNat]? = some y) (h : ¬ x = y) : decide (a = b) = false := by
  simp only [decide_eq_false_iff_not]; rintro rfl; rw [hx] at hy; exact h (Option.some.inj hy)
theorem sameI_end {a b : List Int} {k : Int} (hl : a.length = b.length) (k0 : 0 ≤ k) (hk : ¬ k < a.length) (h : a.take k.toNat = b.take k.toNat) : decide (a = b) = true := by
  simp only [decide_eq_true_iff]
  rwa [List.take_of_length_le (by omega), List.take_of_length_le (by omega)] at h
theorem reps_b (n : Nat) : reps n [.bool false] = (List.replicate n false).map Value.bool := by
  induction n with
  | zero => rfl
  | succ n ih => rw [List.replicate_succ, List.map_cons, ← ih]; rfl
theorem mset {M : List Nat} {w0 w : World} {H0 H : Hp} {b : Nat} {met : List Bool} {i : Nat} {R : Blks} (h : St M w0 H0 H ((b, (met.map Value.bool).set (0 + i * 1) (.bool true)) :: R) w) : St M w0 H0 H ((b, (met.set i true).map Value.bool) :: R) w := by
  rw [List.map_set]
  simpa using h
theorem mset1 {M : List Nat} {w0 w : World} {H0 H : Hp} {b : Nat} {met : List Bool} {i : Nat} {y : Nat × List Value} {R : Blks} (h : St M w0 H0 H (y :: (b, (met.map Value.bool).set (0 + i * 1) (.bool true)) :: R) w) : St M w0 H0 H (y :: (b, (met.set i true).map Value.bool) :: R) w := by
  rw [List.map_set]
  simpa using h
theorem St.dropT {M : List Nat} {w0 w : World} {H0 H : Hp} {A B : Blks} (h : St M w0 H0 H (A ++ B) w) : St M w0 H0 H A w := (h.perm List.perm_append_comm).dropN
theorem spanW_step {p : SProto} {role : Str} {f i : Nat} {met : List Bool} {todo : List Int} {j : Int} {x : SPoint} {r : List Bool × List Int} (hj : todo[i]? = some j) (hx : p.points[j.toNat]? = some x) (hr : (if withinB x role = true then (met, todo) else armsF met todo x.arms) = r) : spanW p role (f + 1) i met todo = spanW p role f (i + 1) r.1 r.2 := by
  rw [spanW, hj]
  simp only [spanStep, hx, hr]
theorem spanW_end {p : SProto} {role : Str} {f i : Nat} {met : List Bool} {todo : List Int} (h : todo.length ≤ i) : spanW p role f i met todo = (met, todo) := by
  cases f with
  | zero => rfl
  | succ f => rw [spanW, List.getElem?_eq_none h]
def trueK (met : List Bool) (k : Nat) : List Int := ((List.range k).filter (fun i => met[i]? == some true)).map (fun i : Nat => (i : Int))
theorem trueK_yes {met : List Bool} {k : Int} (k0 : 0 ≤ k) (h : met[k.toNat]? = some true) : trueK met (k + 1).toNat = trueK met k.toNat ++ [k] := by
  unfold trueK
  rw [show (k + 1).toNat = k.toNat + 1 by omega, trues_app met k.toNat true h]
  simp; omega
theorem trueK_no {met : List Bool} {k : Int} (k0 : 0 ≤ k) (h : met[k.toNat]? = some false) : trueK met (k + 1).toNat = trueK met k.toNat := by
  unfold trueK
  rw [show (k + 1).toNat = k.toNat + 1 by omega, trues_app met k.toNat false h]
  simp
theorem trueK_len (met : List Bool) (k : Nat) : (trueK met k).length ≤ k := by
  unfold trueK
  rw [List.length_map]
  exact Nat.le_trans (List.length_filter_le _ _) (by simp)
theorem spanF_met {n : Nat} : ∀ {l : List Int} {met : List Bool} {todo : List Int}, Met n met todo → Met n (spanF met todo l).1 (spanF met todo l).2
  | [], _, _, h => h
  | i :: r, met, todo, h => by
    unfold spanF
    split
    · rename_i hc; exact spanF_met (h.set hc.1 hc.2)
    · exact spanF_met h
theorem armsF_met {n : Nat} : ∀ {l : List SArm} {met : List Bool} {todo : List Int}, (∀ a ∈ l, 0 ≤ a.next) → Met n met todo → Met n (armsF met todo l).1 (armsF met todo l).2
  | [], _, _, _, h => h
  | a :: r, met, todo, hn, h => by
    unfold armsF
    split
    · rename_i hc; exact armsF_met (fun x hx => hn x (List.mem_cons_of_mem _ hx)) (h.set (hn a (by simp)) hc)
    · exact armsF_met (fun x hx => hn x (List.mem_cons_of_mem _ hx)) h
theorem spanStep_met {n : Nat} {p : SProto} {role : Str} (hN : NxOk p) {j : Int} {met : List Bool} {todo : List Int} (h : Met n met todo) : Met n (spanStep p role j met todo).1 (spanStep p role j met todo).2 := by
  unfold spanStep
  split
  · exact h
  · rename_i x hx
    split
    · exact h
    · exact armsF_met (fun a ha => (hN x (List.mem_of_getElem? hx) a ha).1) h
theorem spanW_met {n : Nat} {p : SProto} {role : Str} (hN : NxOk p) : ∀ {f i : Nat} {met : List Bool} {todo : List Int}, Met n met todo → Met n (spanW p role f i met todo).1 (spanW p role f i met todo).2
  | 0, _, _, _, h => h
  | f + 1, i, met, todo, h => by
    unfold spanW
    split
    · exact h
    · exact spanW_met hN (spanStep_met hN h)
theorem spanS_met {p : SProto} {role : Str} (hN : NxOk p) (frm : List Int) : Met p.points.length (spanW p role p.points.length 0 (spanM p role frm).1 (spanM p role frm).2).1 (spanW p role p.points.length 0 (spanM p role frm).1 (spanM p role frm).2).2 := spanW_met hN (spanF_met (Met.zero _))
theorem spanS_rng {p : SProto} {role : Str} (hN : NxOk p) {frm : List Int} : ∀ j ∈ spanS p role frm, 0 ≤ j ∧ j < p.points.length := by
  intro j hj
  unfold spanS trues at hj
  obtain ⟨i, hi, rfl⟩ := List.mem_map.1 hj
  have h1 := List.mem_range.1 (List.mem_filter.1 hi).1
  rw [(spanS_met hN frm).len] at h1
  exact ⟨by omega, by omega⟩
theorem spanS_len {p : SProto} {role : Str} (hN : NxOk p) {frm : List Int} : (spanS p role frm).length ≤ p.points.length := by
  have := trueK_len (spanW p role p.points.length 0 (spanM p role frm).1 (spanM p role frm).2).1 (spanW p role p.points.length 0 (spanM p role frm).1 (spanM p role frm).2).1.length
  rw [(spanS_met hN frm).len] at this
  unfold spanS trues
  rw [(spanS_met hN frm).len]
  exact this
def inP (p : SProto) (role : Str) (i : Int) : Bool := match p.points[i.toNat]? with
  | some x => withinB x role
  | none => false
def nearS (p : SProto) (role : Str) (l : List Int) : List Int := l.filter (inP p role)
theorem near_yes {p : SProto} {role : Str} {l : List Int} {i : Int} {k : Int} (k0 : 0 ≤ k) (hx : l[k.toNat]? = some i) (h : inP p role i = true) : nearS p role (l.take (k + 1).toNat) = nearS p role (l.take k.toNat) ++ [i] := by
  rw [take_snoc k0 hx]; unfold nearS; rw [List.filter_append]; simp [h]
theorem near_no {p : SProto} {role : Str} {l : List Int} {i : Int} {k : Int} (k0 : 0 ≤ k) (hx : l[k.toNat]? = some i) (h : inP p role i = false) : nearS p role (l.take (k + 1).toNat) = nearS p role (l.take k.toNat) := by
  rw [take_snoc k0 hx]; unfold nearS; rw [List.filter_append]; simp [h]
theorem nearS_len {p : SProto} {role : Str} (l : List Int) : (nearS p role l).length ≤ l.length := List.length_filter_le _ _
def lostB (p : SProto) (role : Str) (i : Int) : Bool := decide ((nearS p role (spanS p role [i])).length = 0)
structure GRow where
  l : List Int
  sp : Sp
def GRow.cells (r : GRow) : List Value := [.slice r.sp.1 r.l.length r.sp.2]
instance : Cells 1 GRow.cells := ⟨fun _ => rfl, by decide, fun _ => rfl⟩
def whereL : List (List Int) → List Int → Option Nat
  | [], _ => none
  | y :: r, x => if y = x then some 0 else (whereL r x).map (· + 1)
theorem whereL_hit : ∀ {l : List (List Int)} {x : List Int} {k : Nat}, l[k]? = some x → (∀ j, j < k → l[j]? ≠ some x) → whereL l x = some k
  | [], _, _, h, _ => by simp at h
  | y :: r, x, 0, h, _ => by simp at h; unfold whereL; rw [if_pos h]
  | y :: r, x, k + 1, h, hn => by
    unfold whereL
    rw [if_neg (fun e => hn 0 (by omega) (by simp [e])), whereL_hit (k := k) (by simpa using h) (fun j hj => by have := hn (j + 1) (by omega); simpa using this)]
    rfl
theorem whereL_end : ∀ {l : List (List Int)} {x : List Int}, (∀ j, j < l.length → l[j]? ≠ some x) → whereL l x = none
  | [], _, _ => rfl
  | y :: r, x, hn => by
    unfold whereL
    rw [if_neg (fun e => hn 0 (by simp) (by simp [e])), whereL_end (fun j hj => by have := hn (j + 1) (by simp; omega); simpa using this)]
    rfl
def lookS (p : SProto) (role : Str) (sets : List (List Int)) (frm : List Int) : Int × Int × List (List Int) :=
  if 0 < (nearS p role (spanS p role frm)).length ∧ (spanS p role frm).any (lostB p role) = true then (0, 801, sets)
  else match whereL sets (nearS p role (spanS p role frm)) with
    | some i => (i, 0, sets)
    | none => if sets.length = 40 then (0, 805, sets) else (sets.length, 0, sets ++ [nearS p role (spanS p role frm)])
def WK (p : SProto) (role : Str) (sv : Value) : List Value := [gs p.name, .slice p.rp.1 p.roles.length p.rp.2, .slice p.pp.1 p.points.length p.pp.2, gs role, sv]
def GRowsOk (H : Hp) (rows : List GRow) : Prop := ∀ r ∈ rows, RdSl H 1 I64.cells (.slice r.sp.1 r.l.length r.sp.2) r.l
theorem GRowsOk.le {H H' : Hp} {rows : List GRow} (h : GRowsOk H rows) (hl : H.le H') : GRowsOk H' rows := fun r hr => (h r hr).le hl
section
variable {p : SProto} {role : Str} {sets : List (List Int)} {frm : List Int}
theorem look_lost {k : Int} {j : Int} (hx : (spanS p role frm)[k.toNat]? = some j) (hl : lostB p role j = true) (hn : 0 < (nearS p role (spanS p role frm)).length) : lookS p role sets frm = (0, 801, sets) := by
  unfold lookS
  rw [if_pos ⟨hn, List.any_eq_true.2 ⟨j, List.mem_of_getElem? hx, hl⟩⟩]
theorem look_some {k : Nat} (hno : ¬ (0 < (nearS p role (spanS p role frm)).length ∧ (spanS p role frm).any (lostB p role) = true)) (hx : sets[k]? = some (nearS p role (spanS p role frm))) (hn : ∀ j, j < k → sets[j]? ≠ some (nearS p role (spanS p role frm))) : lookS p role sets frm = ((k : Int), 0, sets) := by
  unfold lookS
  rw [if_neg hno, whereL_hit hx hn]
theorem look_none (hno : ¬ (0 < (nearS p role (spanS p role frm)).length ∧ (spanS p role frm).any (lostB p role) = true)) (hn : ∀ j, j < sets.length → sets[j]? ≠ some (nearS p role (spanS p role frm))) : lookS p role sets frm = if sets.length = 40 then ((0 : Int), (805 : Int), sets) else ((sets.length : Int), (0 : Int), sets ++ [nearS p role (spanS p role frm)]) := by
  unfold lookS
  rw [if_neg hno, whereL_end hn]
end
theorem no_lost {p : SProto} {role : Str} {l : List Int} {n : Nat} {k : Int} (k0 : 0 ≤ k) (h : ∀ j : Nat, j < k.toNat → ∀ i, l[j]? = some i → lostB p role i = false) (hk : ¬ k < l.length ∨ ¬ 0 < n) : ¬ (0 < n ∧ l.any (lostB p role) = true) := by
  rintro ⟨h1, h2⟩
  obtain ⟨i, hi, hl⟩ := List.any_eq_true.1 h2
  obtain ⟨j, hj⟩ := List.getElem?_of_mem hi
  have hjl := (List.getElem?_eq_some_iff.1 hj).1
  rcases hk with hk | hk
  · rw [h j (by omega) i hj] at hl; cases hl
  · exact hk h1
section
variable {P : Program} {n : Nat} {ops : Array Oper} {Q : Exit → Act → World → Prop} {E : Env} {M : List Nat} {w0 : World} {H0 H : Hp} {L : Blks} {rest : List Oper} {dst : Option Nat} {op : Op} {ty : TypeId} {pos : String} {aft : Array Edge}
def KFn (P : Program) (b : Nat) (cs : List Value) (f : FuncId) (args : List Value) (H : Hp) (R : Value → Hp → Blks → Prop) : Prop := FnX P f args H [(b, cs)] (fun v H' L' => ∃ ob, L' = (b, cs) :: ob ∧ R v H' ob)
theorem TL.callK {f : FuncId} {args : List Value} {X Y : Blks} {b : Nat} {cs : List Value} {R : Value → Hp → Blks → Prop} (hL : L = X ++ (b, cs) :: Y) (hE : Enters P E op f args) (hF : KFn P b cs f args H R) (hd : fits dst n = true)
    (h : ∀ v H' ob, H.le H' → (∀ p ∈ ob, w0.heap.size ≤ p.1) → R v H' ob → TL P n ops Q rest (putE dst v E) (St M w0 H0 H' (X ++ (b, cs) :: (Y ++ ob)))) :
    TL P n ops Q ({ dst := dst, op := op, type := ty, pos := pos, after := aft, guard := none } :: rest) E (St M w0 H0 H L) := by
  subst hL
  refine TL.permL (perm_mid X _ Y) ?_
  intro a w he hw
  refine wpW_plain rfl (fun K hK => ?_)
  unfold Oper.wp
  rw [hE n a w _ rfl he]
  refine (hF w hw.pass1).mono ?_
  rintro e w' ⟨v, H', L1', rfl, hst, ob, rfl, hR⟩
  have hf : ∀ p ∈ ob, w0.heap.size ≤ p.1 := fun p hp => by
    rcases hst.mine p (List.mem_cons_of_mem _ hp) with hm | hm
    · have h2 := hst.nd
      simp only [List.map_cons, List.nodup_cons] at h2
      have h3 : p.1 = b := by simpa [keys] using hm
      exact absurd (List.mem_map.2 ⟨p, hp, h3⟩) h2.1
    · exact Nat.le_trans hw.size hm
  have h1 := (hw.pastX hst).perm (perm_mid2 X _ Y ob)
  exact hK _ _ (h v H' ob hst.fr.1 hf hR _ _ (he.put hd) h1)
end
def wHeadF (p : SProto) (role : Str) : Nat → Int → Str → List Int → Int × Str × Int
  | _, kind, peer, [] => (kind, peer, 0)
  | i, kind, peer, j :: r => match p.points[j.toNat]? with
    | none => (kind, peer, 0)
    | some x => if 0 < i ∧ ¬ ((if x.to = role then 2 else 1) = kind ∧ (if x.to = role then x.frm else x.to) = peer) then (0, [], 802)
      else wHeadF p role (i + 1) (if x.to = role then 2 else 1) (if x.to = role then x.frm else x.to) r
def wHeadS (p : SProto) (role : Str) (set : List Int) : Int × Str × Int := wHeadF p role 0 0 [] set
theorem wHeadF_bad {p : SProto} {role : Str} {kind : Int} {peer : Str} {l : List Int} {k : Nat} {j : Int} {x : SPoint} {i : Nat} (hx : l[k]? = some j) (hp : p.points[j.toNat]? = some x) (h : 0 < i ∧ ¬ ((if x.to = role then 2 else 1) = kind ∧ (if x.to = role then x.frm else x.to) = peer)) : wHeadF p role i kind peer (l.drop k) = (0, [], 802) := by
  rw [List.drop_eq_getElem?_toList_append, hx]
  simp only [Option.toList_some, List.singleton_append, wHeadF, hp, if_pos h]
theorem wHeadF_next {p : SProto} {role : Str} {kind : Int} {peer : Str} {l : List Int} {k : Nat} {j : Int} {x : SPoint} {i : Nat} (hx : l[k]? = some j) (hp : p.points[j.toNat]? = some x) (h : ¬ (0 < i ∧ ¬ ((if x.to = role then 2 else 1) = kind ∧ (if x.to = role then x.frm else x.to) = peer))) : wHeadF p role i kind peer (l.drop k) = wHeadF p role (i + 1) (if x.to = role then 2 else 1) (if x.to = role then x.frm else x.to) (l.drop (k + 1)) := by
  rw [List.drop_eq_getElem?_toList_append, hx]
  simp only [Option.toList_some, List.singleton_append, wHeadF, hp, if_neg h]
def labA (o : List Str) (l : List SArm) : List Str := l.foldl (fun o a => o.foldl putS [a.label]) o
def labP (p : SProto) (o : List Str) (l : List Int) : List Str := l.foldl (fun o j => match p.points[j.toNat]? with | some x => labA o x.arms | none => o) o
def labS (p : SProto) (l : List Int) : List Str := labP p [] l
def sameN (p : SProto) (n : Nat) (j : Int) : Bool := match p.points[j.toNat]? with
  | some x => decide ((x.arms.length : Int) = n)
  | none => true
def alikeS (p : SProto) (l : List Int) : Bool := l.all (sameN p (labS p l).length)
theorem putS_len : ∀ (l : List Str) (s : Str), (putS l s).length ≤ l.length + 1
  | [], s => by simp [putS]
  | x :: r, s => by
    have := putS_len r s
    unfold putS
    split
    · simp; omega
    · split <;> simp
theorem foldput_len : ∀ (l o : List Str), (l.foldl putS o).length ≤ l.length + o.length
  | [], o => by simp
  | x :: r, o => by
    have h1 := foldput_len r (putS o x)
    have h2 := putS_len o x
    simp only [List.foldl_cons, List.length_cons]
    omega
theorem labA_snoc {o : List Str} {l : List SArm} {k : Int} {a : SArm} (k0 : 0 ≤ k) (hx : l[k.toNat]? = some a) : labA o (l.take (k + 1).toNat) = (labA o (l.take k.toNat)).foldl putS [a.label] := by
  rw [take_snoc k0 hx]; unfold labA; rw [List.foldl_append]; rfl
theorem labA_len : ∀ (o : List Str) (l : List SArm), (labA o l).length ≤ o.length + l.length
  | o, [] => by simp [labA]
  | o, a :: r => by
    have h1 := labA_len (o.foldl putS [a.label]) r
    have h2 := foldput_len o [a.label]
    have e : labA o (a :: r) = labA (o.foldl putS [a.label]) r := rfl
    rw [e]
    simp only [List.length_cons, List.length_nil] at *
    omega
theorem labP_snoc {p : SProto} {o : List Str} {l : List Int} {k : Int} {j : Int} {x : SPoint} (k0 : 0 ≤ k) (hx : l[k.toNat]? = some j) (hp : p.points[j.toNat]? = some x) : labP p o (l.take (k + 1).toNat) = labA (labP p o (l.take k.toNat)) x.arms := by
  rw [take_snoc k0 hx]; unfold labP; rw [List.foldl_append]; simp only [List.foldl_cons, List.foldl_nil, hp]
theorem labP_len {p : SProto} (h6 : ∀ x ∈ p.points, x.arms.length ≤ 6) : ∀ (l : List Int) (o : List Str), (labP p o l).length ≤ o.length + 6 * l.length
  | [], o => by simp [labP]
  | j :: r, o => by
    have key : ∀ o', (labP p o' r).length ≤ o'.length + 6 * r.length := fun o' => labP_len h6 r o'
    show (labP p (match p.points[j.toNat]? with | some x => labA o x.arms | none => o) r).length ≤ _
    cases hj : p.points[j.toNat]? with
    | none => have := key o; simp only [List.length_cons]; omega
    | some x =>
      have h1 := key (labA o x.arms)
      have h2 := labA_len o x.arms
      have h3 := h6 x (List.mem_of_getElem? hj)
      simp only [List.length_cons]; omega
def carF (p : SProto) (s : Str) : Int → Str → List Int → List Int → Int × Str × List Int × Bool
  | ck, cn, to, [] => (ck, cn, to, true)
  | ck, cn, to, j :: r => match p.points[j.toNat]? with
    | none => carF p s ck cn to r
    | some x => if placeS (x.arms.map (·.label)) s < 0 then carF p s ck cn to r else match x.arms[(placeS (x.arms.map (·.label)) s).toNat]? with
      | none => carF p s ck cn to r
      | some a => if 0 < to.length ∧ ¬ (a.ck = ck ∧ a.cn = cn) then (ck, cn, [], false) else carF p s a.ck a.cn (to ++ [a.next]) r
def carS (p : SProto) (l : List Int) (s : Str) : Int × Str × List Int × Bool := carF p s 0 [] [] l
section
variable {p : SProto} {s : Str} {ck : Int} {cn : Str} {to l : List Int} {k : Nat} {j : Int} {x : SPoint}
theorem carF_skip (hx : l[k]? = some j) (hp : p.points[j.toNat]? = some x) (h : placeS (x.arms.map (·.label)) s < 0) : carF p s ck cn to (l.drop k) = carF p s ck cn to (l.drop (k + 1)) := by
  rw [List.drop_eq_getElem?_toList_append, hx]
  simp only [Option.toList_some, List.singleton_append, carF, hp, if_pos h]
theorem carF_bad {a : SArm} (hx : l[k]? = some j) (hp : p.points[j.toNat]? = some x) (h : ¬ placeS (x.arms.map (·.label)) s < 0) (ha : x.arms[(placeS (x.arms.map (·.label)) s).toNat]? = some a) (hb : 0 < to.length ∧ ¬ (a.ck = ck ∧ a.cn = cn)) : carF p s ck cn to (l.drop k) = (ck, cn, [], false) := by
  rw [List.drop_eq_getElem?_toList_append, hx]
  simp only [Option.toList_some, List.singleton_append, carF, hp, if_neg h, ha, if_pos hb]
theorem carF_next {a : SArm} (hx : l[k]? = some j) (hp : p.points[j.toNat]? = some x) (h : ¬ placeS (x.arms.map (·.label)) s < 0) (ha : x.arms[(placeS (x.arms.map (·.label)) s).toNat]? = some a) (hb : ¬ (0 < to.length ∧ ¬ (a.ck = ck ∧ a.cn = cn))) : carF p s ck cn to (l.drop k) = carF p s a.ck a.cn (to ++ [a.next]) (l.drop (k + 1)) := by
  rw [List.drop_eq_getElem?_toList_append, hx]
  simp only [Option.toList_some, List.singleton_append, carF, hp, if_neg h, ha, if_neg hb]
end
section
variable {P : Program} {n : Nat} {ops : Array Oper} {Q : Exit → Act → World → Prop} {E : Env} {M : List Nat} {w0 : World} {H0 H : Hp} {L : Blks} {rest : List Oper} {dst : Option Nat} {op : Op} {ty : TypeId} {pos : String} {aft : Array Edge}
theorem perm_xm (X A Y : Blks) : (X ++ (A ++ Y)).Perm (A ++ (X ++ Y)) := by
  rw [← List.append_assoc, ← List.append_assoc]; exact (List.perm_append_comm).append_right Y
theorem TL.callXM {f : FuncId} {args : List Value} {X A Y : Blks} {Φ : Value → Hp → Blks → Prop} (hL : L = X ++ (A ++ Y)) (hE : Enters P E op f args) (hF : FnX P f args H A Φ) (hd : fits dst n = true)
    (h : ∀ v H' A', H.le H' → Φ v H' A' → TL P n ops Q rest (putE dst v E) (St M w0 H0 H' (X ++ (A' ++ Y)))) :
    TL P n ops Q ({ dst := dst, op := op, type := ty, pos := pos, after := aft, guard := none } :: rest) E (St M w0 H0 H L) := by
  subst hL
  refine TL.permL (perm_xm X A Y) (TL.callX hE hF hd fun v H' A' hle hΦ => ?_)
  exact TL.permL (perm_xm X A' Y).symm (h v H' A' hle hΦ)
end
def turnA (p : SProto) (role : Str) (set : List Int) : List Str → List (List Int) → List SArm → List SArm × Int × List (List Int)
  | [], sets, acc => (acc, 0, sets)
  | lb :: r, sets, acc => if (lookS p role sets (carS p set lb).2.2.1).2.1 ≠ 0 then ([], (lookS p role sets (carS p set lb).2.2.1).2.1, (lookS p role sets (carS p set lb).2.2.1).2.2)
    else turnA p role set r (lookS p role sets (carS p set lb).2.2.1).2.2 (acc ++ [⟨lb, (carS p set lb).1, (carS p set lb).2.1, (lookS p role sets (carS p set lb).2.2.1).1⟩])
def carB (p : SProto) (set : List Int) (lb : Str) : Bool := (carS p set lb).2.2.2
def turnS (p : SProto) (role : Str) (sets : List (List Int)) (set : List Int) : (Int × Str × List SArm) × Int × List (List Int) :=
  if set.length = 0 then ((0, [], []), 0, sets)
  else if (wHeadS p role set).2.2 ≠ 0 then ((0, [], []), (wHeadS p role set).2.2, sets)
  else if (wHeadS p role set).1 = 1 ∧ alikeS p set = false then ((0, [], []), 803, sets)
  else if 6 < (labS p set).length then ((0, [], []), 805, sets)
  else if (labS p set).all (carB p set) = false then ((0, [], []), 804, sets)
  else if (turnA p role set (labS p set) sets []).2.1 ≠ 0 then ((0, [], []), (turnA p role set (labS p set) sets []).2.1, (turnA p role set (labS p set) sets []).2.2)
  else (((wHeadS p role set).1, (wHeadS p role set).2.1, (turnA p role set (labS p set) sets []).1), 0, (turnA p role set (labS p set) sets []).2.2)
section
variable {p : SProto} {role : Str} {set : List Int} {sets : List (List Int)} {acc : List SArm} {l : List Str} {k : Nat} {lb : Str}
theorem turnA_bad (hx : l[k]? = some lb) (h : (lookS p role sets (carS p set lb).2.2.1).2.1 ≠ 0) : turnA p role set (l.drop k) sets acc = ([], (lookS p role sets (carS p set lb).2.2.1).2.1, (lookS p role sets (carS p set lb).2.2.1).2.2) := by
  rw [List.drop_eq_getElem?_toList_append, hx]
  simp only [Option.toList_some, List.singleton_append, turnA, if_pos h]
theorem turnA_next (hx : l[k]? = some lb) (h : ¬ (lookS p role sets (carS p set lb).2.2.1).2.1 ≠ 0) : turnA p role set (l.drop k) sets acc = turnA p role set (l.drop (k + 1)) (lookS p role sets (carS p set lb).2.2.1).2.2 (acc ++ [⟨lb, (carS p set lb).1, (carS p set lb).2.1, (lookS p role sets (carS p set lb).2.2.1).1⟩]) := by
  rw [List.drop_eq_getElem?_toList_append, hx]
  simp only [Option.toList_some, List.singleton_append, turnA, if_neg h]
end
structure TQ1 where
  k : Int
  h : Hp
  sv : Value
  ob : Blks
  rows : List GRow
  v : Value
  oa : Blks
  arms : List SArm
theorem carF_len {p : SProto} {s : Str} : ∀ (l : List Int) (ck : Int) (cn : Str) (to : List Int), (carF p s ck cn to l).2.2.1.length ≤ to.length + l.length
  | [], _, _, to => by simp [carF]
  | j :: r, ck, cn, to => by
    unfold carF
    split
    · have := carF_len (p := p) (s := s) r ck cn to; simp only [List.length_cons]; omega
    · split
      · have := carF_len (p := p) (s := s) r ck cn to; simp only [List.length_cons]; omega
      · split
        · have := carF_len (p := p) (s := s) r ck cn to; simp only [List.length_cons]; omega
        · rename_i a _
          split
          · simp
          · have := carF_len (p := p) (s := s) r a.ck a.cn (to ++ [a.next]); simp only [List.length_append, List.length_cons, List.length_nil] at *; omega
theorem carS_len {p : SProto} {s : Str} (l : List Int) : (carS p l s).2.2.1.length ≤ l.length := by
  have := carF_len (p := p) (s := s) l 0 [] []
  simpa [carS] using this
end Go.Sx
namespace Go.Sx
open Go Go.Proofs
set_option maxHeartbeats 1000000 in
theorem r6_within_ok {H : Hp} (x : SPoint) (r : Str) :
  FnS Tryz.prog 194 [.agg x.cells.toArray, gs r] H (.bool (withinB x r)) := by
 refine FnS.enter Tryz.func194 Tryz.ntmps194 rfl rfl (fun w0 => ?_)
 refine zm4 ?_
 refine TL.box rfl rfl (fun b2 => ?_)
 refine zm2 ?_; refine zm219 ?_; refine zm232 ?_
 refine TL.split (s := 9) rfl (fun g9 => ?_) (fun g9 => ?_)
 ·
  have q9 := of_decide_eq_true g9
  refine zm44 ?_
  exact zq1331
 ·
  have q9 := of_decide_eq_false g9
  refine zm13 ?_; refine zm8 ?_; refine zm75 ?_
  exact zq1331
set_option maxHeartbeats 1000000 in
theorem r6_sameInts_ok {H : Hp} {a b : List Int} {va vb : Value} (ha : RdSl H 1 I64.cells va a) (hb : RdSl H 1 I64.cells vb b) :
  FnS Tryz.prog 173 [va, vb] H (.bool (decide (a = b))) := by
 have hma := ha.max
 have hmb := hb.max
 refine FnS.enter Tryz.func173 Tryz.ntmps173 rfl rfl (fun w0 => ?_)
 refine zm112 ?_; refine TL.run (pr_lenSl rfl rfl ha) rfl ?_; refine zm0 ?_; refine TL.run (pr_lenSl rfl rfl hb) rfl ?_; refine zm2 ?_
 refine TC.condND rfl (fun c10 => ?_) (fun c10 => ?_)
 ·
  refine zm57 ?_
  exact zq1332
 ·
  have hl : a.length = b.length := by omega
  refine zm12 ?_; refine zm55 ?_
  refine TC.loop (V := fun k => [(5, .int .i64 k)]) (K := [(0, _), (1, _), (4, _)]) (L := fun k => _) (I := fun k => (0 ≤ k ∧ k ≤ a.length) ∧ a.take k.toNat = b.take k.toNat) (μ := fun k => (a.length - k).toNat) (i := (0 : Int)) ⟨rfl, rfl, rfl, rfl, trivial⟩ ⟨⟨by omega, by omega⟩, rfl⟩ (fun w hw => hw) (fun k hI => ?_)
  obtain ⟨⟨k0, k1⟩, hI2⟩ := hI
  refine zm32 ?_; refine TL.run (pr_lenSl rfl rfl ha) rfl ?_; refine zm2 ?_
  refine TC.condD rfl (fun c14 => ?_) (fun c14 => ?_)
  ·
   obtain ⟨x, hx⟩ := getSome (l := a) k0 c14
   obtain ⟨y, hy⟩ := getSome (l := b) k0 (by omega)
   refine zm109 ?_; refine zm78 ?_; refine TQ.run (pr_indexSl rfl ha rfl (by omega) (by omega)) rfl (TQ.run (pr_el0 ha hx rfl rfl) rfl ?_); refine zm78 ?_
   refine TQ.run (pr_indexSl rfl hb rfl (by omega) (by omega)) rfl (TQ.run (pr_el0 hb hy rfl rfl) rfl ?_); refine zm79 ?_
   refine TC.condND rfl (fun c25 => ?_) (fun c25 => ?_)
   ·
    refine zm57 ?_; refine zm223 ?_
    exact zq1332
   ·
    refine zm56 ?_
    exact TX.round (k + 1) ⟨⟨by omega, by omega⟩, by rw [take_snoc k0 hx, take_snoc k0 hy, hI2]; congr 2 <;> omega⟩ ⟨rfl, rfl, rfl, rfl, trivial⟩ (fun w hw => hw) (by omega)
  ·
   refine zm65 ?_
   exact zq1333
set_option maxHeartbeats 1000000 in
theorem r6_find_ok {H : Hp} {l : List SArm} {v : Value} (s : Str) (hL : RdSl H 4 SArm.cells v l) :
  FnS Tryz.prog 195 [v, gs s] H (.int .i64 (placeS (l.map (·.label)) s)) := by
 have hmax := hL.max
 refine FnS.enter Tryz.func195 Tryz.ntmps195 rfl rfl (fun w0 => ?_)
 refine zm48 ?_
 refine TC.loop (V := fun k => [(5, .int .i64 k)]) (K := [(0, _), (1, _), (4, _)]) (L := fun k => _) (I := fun k => 0 ≤ k ∧ k ≤ l.length ∧ ∀ j : Nat, j < k.toNat → (l.map (·.label))[j]? ≠ some s) (μ := fun k => (l.length - k).toNat) (i := (0 : Int)) ⟨rfl, rfl, rfl, rfl, trivial⟩ ⟨by omega, by omega, fun j h => absurd h (by omega)⟩ (fun w hw => hw) (fun k hI => ?_)
 refine zm161 ?_; refine zm2 ?_
 refine TC.condD rfl (fun c9 => ?_) (fun c9 => ?_)
 ·
  obtain ⟨x, hx⟩ := getSome (l := l) hI.1 c9
  refine zm157 ?_; refine zm115 ?_; refine zm6 ?_; refine TL.run (pr_el1 hL hx rfl rfl) rfl ?_; refine zm216 ?_
  refine TC.condD rfl (fun c18 => ?_) (fun c18 => ?_)
  ·
   refine zm217 ?_
   exact zq1334
  ·
   refine zm56 ?_
   exact TX.round (k + 1) ⟨by omega, by omega, fun j hj => by by_cases hjk : j < k.toNat; exact hI.2.2 j hjk; rw [show j = k.toNat by omega, map_at hx]; intro e; exact c18 (by simpa using e)⟩ ⟨rfl, rfl, rfl, rfl, trivial⟩ (fun w hw => hw) (by omega)
 ·
  refine zm65 ?_
  exact zq1334
end Go.Sx
namespace Go.Sx
open Go Go.Proofs
set_option maxHeartbeats 8000000 in
theorem span_ok {H : Hp} {p : SProto} (role : Str) (hp : ProtoOk H p) (hN : NxOk p) (hn : p.points.length ≤ 1000) {fv : Value} {frm : List Int} (hf : RdSl H 1 I64.cells fv frm) (hfl : frm.length ≤ 1000) :
  FnO Tryz.prog 170 [.agg p.cells.toArray, gs role, fv] H (fun v H1 ob => H1 = H ∧ OwnSl 1 I64.cells v (spanS p role frm) ob) := by
 have hpt := hp.pt
 refine FnO.enter Tryz.func170 Tryz.ntmps170 rfl rfl (fun w0 => ?_)
 refine zm4 ?_
 refine TL.box rfl rfl (fun b3 => ?_)
 refine zm2 ?_; refine zm58 ?_; refine TL.run (pr_lenSl rfl rfl hpt) rfl (TL.make rfl rfl (by first | omega | decide) (by first | omega | decide) (by first | omega | decide) rfl (fun b18 => ?_))
 refine zm2 ?_; refine zm48 ?_
 refine TC.loop4 (V := fun (q : Int × List Bool) v ob H1 => [(8, v), (9, .int .i64 q.1)]) (K := [(1, _), (2, _), (3, _), (6, _), (7, _)]) (L := fun (q : Int × List Bool) v ob H1 => St [] w0 H H ((b18, q.2.map Value.bool) :: (b3, p.cells) :: ob)) (I := fun (q : Int × List Bool) v ob H1 => (0 ≤ q.1 ∧ q.1 ≤ frm.length) ∧ ∃ todo, OwnSl 1 I64.cells v todo ob ∧ Met p.points.length q.2 todo ∧ spanF q.2 todo (frm.drop q.1.toNat) = spanM p role frm) (μ := fun (q : Int × List Bool) => (frm.length - q.1).toNat) (0, List.replicate p.points.length false) (.slice none 0 0) [] H ⟨rfl, rfl, rfl, rfl, rfl, rfl, rfl, trivial⟩ ⟨⟨by omega, by omega⟩, [], OwnSl.nil, Met.zero _, rfl⟩ (fun w hw => by rw [← reps_b]; exact hw) (fun q v ob H1 hI => ?_)
 obtain ⟨⟨k0, k1⟩, todo, hO, hM, hI3⟩ := hI
 have hfm := hf.max
 refine zm32 ?_; refine TL.run (pr_lenSl rfl rfl hf) rfl ?_; refine zm2 ?_
 refine TC.condD rfl (fun c22 => ?_) (fun c22 => ?_)
 ·
  obtain ⟨x, hx⟩ := getSome (l := frm) k0 c22
  refine zm157 ?_; refine zm340 ?_; refine TL.run (pr_el0 hf hx rfl rfl) rfl ?_; refine zm9 ?_
  refine TL.split (s := 30) rfl (fun g30 => ?_) (fun g30 => ?_)
  ·
   have q30 := of_decide_eq_true g30
   refine zm23 ?_; refine TL.gdY rfl rfl (pr_indexSl rfl hf rfl (by omega) (by omega)) rfl (TL.gdY rfl rfl (pr_el0 hf hx rfl rfl) rfl ?_); refine zm8 ?_; refine TL.gdY rfl rfl (pr_lenS rfl rfl) rfl ?_; refine zm17 ?_
   refine TL.split (s := 39) rfl (fun g39 => ?_) (fun g39 => ?_)
   ·
    have q39 := of_decide_eq_true g39
    refine zm23 ?_; refine zm8 ?_; refine TL.gdY rfl rfl (pr_indexSl rfl hf rfl (by omega) (by omega)) rfl (TL.gdY rfl rfl (pr_el0 hf hx rfl rfl) rfl ?_)
    obtain ⟨b, hbm, hb⟩ := met_at (met := q.2) (i := x) (by omega) (by rw [hM.len]; omega)
    refine TL.gdY rfl rfl (pr_index rfl rfl (by omega) (by omega)) rfl (TL.gdY rfl rfl (pr_own1 rfl (.here _) hb) rfl ?_); refine zm35 ?_
    refine TC.cond rfl (fun c48 => ?_) (fun c48 => ?_)
    ·
     have hbf : q.2[x.toNat]? = some false := by rw [hbm]; simpa using c48
     have h0x : 0 ≤ x := by omega
     refine zm40 ?_; refine zm340 ?_; refine TL.run (pr_el0 hf hx rfl rfl) rfl ?_; refine zm21 ?_; refine TL.store1 rfl rfl rfl (.here _) (by rw [Nat.blt_eq, List.length_map, hM.len]; omega) rfl ?_; refine zm33 ?_; refine zm104 ?_
     refine zm340 ?_; refine TL.run (pr_el0 hf hx rfl rfl) rfl (TL.bslice rfl rfl rfl rfl (fun b60 => ?_))
     refine TL.append (enc := I64.cells) rfl rfl rfl hO (Src.own [x] (.here _) rfl rfl) (by simp; have := hM.le; omega) rfl (.skip _ (.skip _ (.skip _ .all))) rfl (fun a61 c61 ob61 hO61 => ?_)
     refine zm127 ?_
     exact TX.round4 (q.1 + 1, q.2.set x.toNat true) _ ob61 H ⟨⟨by omega, by omega⟩, _, hO61, hM.set h0x hbf, by rw [show (q.1 + 1).toNat = q.1.toNat + 1 by omega, ← spanF_yes hx ⟨h0x, hbf⟩]; exact hI3⟩ ⟨rfl, rfl, rfl, rfl, rfl, rfl, rfl, trivial⟩ (fun w hw => (mset hw.drop)) (by omega)
    ·
     refine zm56 ?_
     exact TX.round4 (q.1 + 1, q.2) _ ob H ⟨⟨by omega, by omega⟩, _, hO, hM, by rw [show (q.1 + 1).toNat = q.1.toNat + 1 by omega, ← spanF_no hx (by rintro ⟨_, e⟩; rw [hbm] at e; cases e; simp at c48)]; exact hI3⟩ ⟨rfl, rfl, rfl, rfl, rfl, rfl, rfl, trivial⟩ (fun w hw => hw) (by omega)
   ·
    have q39 := of_decide_eq_false g39
    exact zq1335
  ·
   have q30 := of_decide_eq_false g30
   refine zm44 ?_; refine zm46 ?_
   exact zq1335
 ·
  refine zm38 ?_; refine zm55 ?_
  refine TC.loop4 (V := fun (q : Int × List Bool) v ob H1 => [(8, v), (10, .int .i64 q.1)]) (K := [(1, _), (3, _), (6, _), (7, _)]) (L := fun (q : Int × List Bool) v ob H1 => St [] w0 H H ((b18, q.2.map Value.bool) :: (b3, p.cells) :: ob)) (I := fun (q : Int × List Bool) v ob H1 => 0 ≤ q.1 ∧ ∃ todo, OwnSl 1 I64.cells v todo ob ∧ Met p.points.length q.2 todo ∧ q.1 ≤ todo.length ∧ spanW p role (p.points.length - q.1.toNat) q.1.toNat q.2 todo = spanW p role p.points.length 0 (spanM p role frm).1 (spanM p role frm).2) (μ := fun (q : Int × List Bool) => (p.points.length - q.1).toNat) (0, q.2) _ ob H ⟨rfl, rfl, rfl, rfl, rfl, rfl, trivial⟩ ⟨by omega, _, hO, hM, by omega, by rw [← hI3, List.drop_eq_nil_of_le (by omega)]; rfl⟩ (fun w hw => hw) (fun q v ob H1 hI => ?_)
  obtain ⟨k0, todo, hO, hM, hI3, hI4⟩ := hI
  refine zm32 ?_; refine zm143 ?_; refine zm2 ?_
  refine TC.condD rfl (fun c65 => ?_) (fun c65 => ?_)
  ·
   have htl := hM.le
   obtain ⟨j, hj⟩ := getSome (l := todo) k0 c65
   have hjr := hM.rng j (List.mem_of_getElem? hj)
   obtain ⟨x, hxp⟩ := getSome (l := p.points) hjr.1 hjr.2
   have hxa := (hp.ps x (List.mem_of_getElem? hxp)).a
   have hxm := hxa.max
   refine zm162 ?_; refine TD.leaf [(0, 1), (1, 2), (2, 1), (3, 1), (4, 1), (5, 2), (6, 1), (7, 2), (8, 3), (9, 0)] (by kernel_rfl) (by kernel_rfl) ?_; refine zm76 ?_; refine zm72 ?_
   refine TF.pure (pr_indexO rfl rfl hO (by omega) (by omega)) rfl (TF.still (pr_ldO1 (j := 0) rfl hO (.skip _ (.skip _ .all)) hj rfl) rfl (TF.pure (pr_indexSl rfl hpt rfl (by omega) (by omega)) rfl (TF.still (pr_elA hpt hxp rfl rfl) rfl ?_)))
   refine TF.alloc rfl (fun b11 => ?_)
   refine TF.loud ?_; refine zm39 ?_; refine zm49 ?_; refine zm94 ?_
   refine TC.loop4 (V := fun (u : Int × List Bool) v ob H1 => [(8, v), (12, .int .i64 u.1)]) (K := [(1, _), (3, _), (6, _), (7, _), (10, _), (11, _), (62, _), (63, _), (64, _), (65, _), (68, _), (69, _), (70, _), (71, _), (72, _), (73, _), (74, _), (75, _)]) (L := fun (u : Int × List Bool) v ob H1 => St [] w0 H H ((b11, x.cells) :: (b18, u.2.map Value.bool) :: (b3, p.cells) :: ob)) (I := fun (u : Int × List Bool) v ob H1 => (0 ≤ u.1 ∧ u.1 ≤ x.arms.length) ∧ ∃ td, OwnSl 1 I64.cells v td ob ∧ Met p.points.length u.2 td ∧ todo.length ≤ td.length ∧ (withinB x role = true → u.2 = q.2 ∧ td = todo) ∧ (¬ withinB x role = true → armsF u.2 td (x.arms.drop u.1.toNat) = armsF q.2 todo x.arms)) (μ := fun (u : Int × List Bool) => (x.arms.length - u.1).toNat) (0, q.2) _ ob H ⟨rfl, rfl, rfl, rfl, rfl, rfl, rfl, rfl, rfl, rfl, rfl, rfl, rfl, rfl, rfl, rfl, rfl, rfl, rfl, rfl, trivial⟩ ⟨⟨by omega, by omega⟩, _, hO, hM, Nat.le_refl _, fun _ => ⟨rfl, rfl⟩, fun _ => rfl⟩ (fun w hw => hw) (fun u v ob H1 hI => ?_)
   obtain ⟨⟨u0, u1⟩, td, hO, hM, hI2, hI3, hI5⟩ := hI
   refine zm93 ?_; refine TL.run (pr_lenSl rfl rfl hxa) rfl ?_; refine zm9 ?_
   refine TL.split (s := 81) rfl (fun g81 => ?_) (fun g81 => ?_)
   ·
    have q81 := of_decide_eq_true g81
    refine TL.gdY rfl rfl (pr_ownA rfl (.here _) rfl) rfl ?_; refine zm8 ?_; refine TL.callSY rfl rfl (enters rfl rfl rfl rfl) (r6_within_ok x role) rfl ?_; refine zm35 ?_
    refine TC.cond rfl (fun c86 => ?_) (fun c86 => ?_)
    ·
     have hnw : ¬ withinB x role = true := by simpa using c86
     obtain ⟨a, ha⟩ := getSome (l := x.arms) u0 (by omega)
     have hax := hN x (List.mem_of_getElem? hxp) a (List.mem_of_getElem? ha)
     refine zm114 ?_; refine zm200 ?_; refine zm254 ?_
     obtain ⟨b, hbm, hb⟩ := met_at (met := u.2) (i := a.next) (by omega) (by rw [hM.len]; omega)
     refine zm21 ?_; refine TL.run (pr_own1 rfl (.there _ (.here _)) hb) rfl ?_; refine zm2 ?_
     refine TC.cond rfl (fun c98 => ?_) (fun c98 => ?_)
     ·
      have hbf : u.2[a.next.toNat]? = some false := by rw [hbm]; simpa using c98
      refine zm30 ?_; refine zm200 ?_; refine zm254 ?_; refine zm21 ?_; refine TL.store1 rfl rfl rfl (.there _ (.here _)) (by rw [Nat.blt_eq, List.length_map, hM.len]; omega) rfl ?_; refine zm33 ?_; refine zm52 ?_; refine zm0 ?_
      refine zm254 ?_
      refine TL.bslice rfl rfl rfl rfl (fun b114 => ?_)
      refine TL.append (enc := I64.cells) rfl rfl rfl hO (Src.own [a.next] (.here _) rfl rfl) (by simp; have := hM.le; omega) rfl (.skip _ (.skip _ (.skip _ (.skip _ .all)))) rfl (fun a115 c115 ob115 hO115 => ?_)
      refine zm127 ?_
      exact TX.round4 (u.1 + 1, u.2.set a.next.toNat true) _ ob115 H ⟨⟨by omega, by omega⟩, _, hO115, hM.set hax.1 hbf, by rw [List.length_append]; omega, fun h => absurd h hnw, fun h => by rw [show (u.1 + 1).toNat = u.1.toNat + 1 by omega, ← armsF_yes ha hbf]; exact hI5 h⟩ ⟨rfl, rfl, rfl, rfl, rfl, rfl, rfl, rfl, rfl, rfl, rfl, rfl, rfl, rfl, rfl, rfl, rfl, rfl, rfl, rfl, trivial⟩ (fun w hw => (mset1 hw.drop)) (by omega)
     ·
      refine zm56 ?_
      exact TX.round4 (u.1 + 1, u.2) _ ob H ⟨⟨by omega, by omega⟩, _, hO, hM, hI2, fun h => absurd h hnw, fun h => by rw [show (u.1 + 1).toNat = u.1.toNat + 1 by omega, ← armsF_no ha (by rw [hbm]; intro e; cases e; simp at c98)]; exact hI5 h⟩ ⟨rfl, rfl, rfl, rfl, rfl, rfl, rfl, rfl, rfl, rfl, rfl, rfl, rfl, rfl, rfl, rfl, rfl, rfl, rfl, rfl, trivial⟩ (fun w hw => hw) (by omega)
    ·
     have hw : withinB x role = true := by simpa using c86
     refine zm163 ?_
     exact TX.round4 (q.1 + 1, u.2) _ ob H ⟨by omega, _, hO, hM, by omega, by rw [← hI4, show (q.1 + 1).toNat = q.1.toNat + 1 by omega, show p.points.length - q.1.toNat = (p.points.length - (q.1.toNat + 1)) + 1 by omega, spanW_step hj hxp (r := (u.2, td)) (by rw [if_pos hw]; obtain ⟨e1, e2⟩ := hI3 hw; rw [e1, e2])]⟩ ⟨rfl, rfl, rfl, rfl, rfl, rfl, trivial⟩ (fun w hw => hw.drop) (by omega)
   ·
    have q81 := of_decide_eq_false g81
    refine zm44 ?_; refine zm155 ?_; refine zm163 ?_
    exact TX.round4 (q.1 + 1, u.2) _ ob H ⟨by omega, _, hO, hM, by omega, by rw [← hI4, show (q.1 + 1).toNat = q.1.toNat + 1 by omega, show p.points.length - q.1.toNat = (p.points.length - (q.1.toNat + 1)) + 1 by omega, spanW_step hj hxp (r := (u.2, td)) (by by_cases hw : withinB x role = true; (rw [if_pos hw]; obtain ⟨e1, e2⟩ := hI3 hw; rw [e1, e2]); (rw [if_neg hw, ← hI5 hw, List.drop_eq_nil_of_le (by omega)]; rfl))]⟩ ⟨rfl, rfl, rfl, rfl, rfl, rfl, trivial⟩ (fun w hw => hw.drop) (by omega)
  ·
   refine zm38 ?_; refine zm48 ?_
   refine TC.loop4 (V := fun k v ob H1 => [(13, v), (14, .int .i64 k)]) (K := [(6, _), (7, _)]) (L := fun k v ob H1 => St [] w0 H H ((b18, q.2.map Value.bool) :: (b3, p.cells) :: ob)) (I := fun k v ob H1 => (0 ≤ k ∧ k ≤ p.points.length) ∧ OwnSl 1 I64.cells v (trueK q.2 k.toNat) ob) (μ := fun k => (p.points.length - k).toNat) 0 (.slice none 0 0) [] H ⟨rfl, rfl, rfl, rfl, trivial⟩ ⟨⟨by omega, by omega⟩, OwnSl.nil⟩ (fun w hw => St.dropT (A := [(b18, _), (b3, _)]) hw) (fun k v ob H1 hI => ?_)
   obtain ⟨⟨k0, k1⟩, hO⟩ := hI
   refine zm32 ?_; refine zm113 ?_; refine zm2 ?_
   refine TC.condD rfl (fun c119 => ?_) (fun c119 => ?_)
   ·
    obtain ⟨b, hbm, hb⟩ := met_at (met := q.2) (i := k) (by omega) (by rw [hM.len]; omega)
    refine zm157 ?_; refine zm21 ?_; refine TL.run (pr_own1 rfl (.here _) hb) rfl ?_; refine zm33 ?_
    refine TC.cond rfl (fun c125 => ?_) (fun c125 => ?_)
    ·
     refine zm121 ?_
     refine TL.bslice rfl rfl rfl rfl (fun b128 => ?_)
     refine TL.append (enc := I64.cells) rfl rfl rfl hO (Src.own [k] (.here _) rfl rfl) (by simp; have := trueK_len q.2 k.toNat; omega) rfl (.skip _ (.skip _ (.skip _ .all))) rfl (fun a129 c129 ob129 hO129 => ?_)
     refine zm127 ?_
     exact TX.round4 (k + 1) _ ob129 H ⟨⟨by omega, by omega⟩, by rw [trueK_yes k0 (by rw [hbm, c125])]; exact hO129⟩ ⟨rfl, rfl, rfl, rfl, trivial⟩ (fun w hw => hw.drop) (by omega)
    ·
     refine zm56 ?_
     exact TX.round4 (k + 1) _ ob H ⟨⟨by omega, by omega⟩, by rw [trueK_no k0 (by rw [hbm]; simpa using c125)]; exact hO⟩ ⟨rfl, rfl, rfl, rfl, trivial⟩ (fun w hw => hw) (by omega)
   ·
    refine zm87 ?_
    exact TX.finO (.inr rfl) (results1 rfl (RVal.tmp rfl)) (.skip _ (.skip _ .all)) ⟨rfl, hO.cast (by unfold spanS; rw [← hI4, spanW_end (by omega)]; show trueK q.2 k.toNat = trueK q.2 q.2.length; rw [hM.len]; congr 1; omega)⟩
end Go.Sx
namespace Go.Sx
open Go Go.Proofs
set_option maxHeartbeats 2000000 in
theorem near_ok {H : Hp} {p : SProto} (role : Str) (hp : ProtoOk H p) {lv : Value} {l : List Int} (hl : RdSl H 1 I64.cells lv l) (hr : ∀ j ∈ l, 0 ≤ j ∧ j < p.points.length) (hll : l.length ≤ 100000) :
  FnO Tryz.prog 171 [.agg p.cells.toArray, gs role, lv] H (fun v H1 ob => H1 = H ∧ OwnSl 1 I64.cells v (nearS p role l) ob) := by
 have hpt := hp.pt
 refine FnO.enter Tryz.func171 Tryz.ntmps171 rfl rfl (fun w0 => ?_)
 refine zm4 ?_
 refine TL.box rfl rfl (fun b3 => ?_)
 refine zm2 ?_; refine zm48 ?_
 refine TC.loop4 (V := fun k v ob H1 => [(7, v), (8, .int .i64 k)]) (K := [(1, _), (2, _), (3, _), (6, _)]) (L := fun k v ob H1 => St [] w0 H H ((b3, p.cells) :: ob)) (I := fun k v ob H1 => (0 ≤ k ∧ k ≤ l.length) ∧ OwnSl 1 I64.cells v (nearS p role (l.take k.toNat)) ob) (μ := fun k => (l.length - k).toNat) 0 (.slice none 0 0) [] H ⟨rfl, rfl, rfl, rfl, rfl, rfl, trivial⟩ ⟨⟨by omega, by omega⟩, OwnSl.nil⟩ (fun w hw => hw) (fun k v ob H1 hI => ?_)
 obtain ⟨⟨k0, k1⟩, hO⟩ := hI
 refine zm32 ?_; refine TL.run (pr_lenSl rfl rfl hl) rfl ?_; refine zm2 ?_
 refine TC.condD rfl (fun c12 => ?_) (fun c12 => ?_)
 ·
  obtain ⟨j, hx⟩ := getSome (l := l) k0 c12
  have hjr := hr j (List.mem_of_getElem? hx)
  obtain ⟨x, hxp⟩ := getSome (l := p.points) hjr.1 hjr.2
  refine zm109 ?_; refine zm255 ?_; refine zm324 ?_; refine TQ.run (pr_el0 hl hx rfl rfl) rfl (TQ.run (pr_indexSl rfl hpt rfl (by omega) (by omega)) rfl (TQ.run (pr_elA hpt hxp rfl rfl) rfl ?_)); refine zm92 ?_
  refine TQ.callS (enters rfl rfl rfl rfl) (r6_within_ok x role) rfl (TQ.nil (TX.seqN (TC.cond rfl (fun c24 => ?_) (fun c24 => ?_))))
  ·
   refine zm104 ?_; refine zm311 ?_; refine TL.run (pr_el0 hl hx rfl rfl) rfl (TL.bslice rfl rfl rfl rfl (fun b30 => ?_))
   refine TL.append (enc := I64.cells) rfl rfl rfl hO (Src.own [j] (.here _) rfl rfl) (by have := nearS_len (p := p) (role := role) (l.take k.toNat); have := List.length_take_le k.toNat l; simp only [List.length_cons, List.length_nil]; have := List.length_take_le' k.toNat l; omega) rfl (.skip _ (.skip _ .all)) rfl (fun a31 c31 ob31 hO31 => ?_)
   refine zm127 ?_
   exact TX.round4 (k + 1) _ ob31 H ⟨⟨by omega, by omega⟩, by rw [near_yes k0 hx (by unfold inP; rw [hxp]; exact c24)]; exact hO31⟩ ⟨rfl, rfl, rfl, rfl, rfl, rfl, trivial⟩ (fun w hw => hw.drop) (by omega)
  ·
   refine zm56 ?_
   exact TX.round4 (k + 1) _ ob H ⟨⟨by omega, by omega⟩, by rw [near_no k0 hx (by unfold inP; rw [hxp]; simpa using c24)]; exact hO⟩ ⟨rfl, rfl, rfl, rfl, rfl, rfl, trivial⟩ (fun w hw => hw) (by omega)
 ·
  refine zm87 ?_
  exact TX.finO (.inr rfl) (results1 rfl (RVal.tmp rfl)) (.skip _ .all) ⟨rfl, hO.cast (by rw [take_all c12 k0])⟩
set_option maxHeartbeats 2000000 in
theorem lost_ok {H : Hp} {p : SProto} (role : Str) (hp : ProtoOk H p) (hN : NxOk p) (hn : p.points.length ≤ 1000) (at_ : Int) :
  Fn Tryz.prog 172 [.agg p.cells.toArray, gs role, .int .i64 at_] H (fun v H1 => v = .bool (lostB p role at_)) := by
 refine Fn.enter Tryz.func172 Tryz.ntmps172 rfl rfl (fun w0 => ?_)
 refine zm4 ?_
 refine TL.box rfl rfl (fun b3 => ?_)
 refine zm241 ?_; refine zm459 ?_; refine zm395 ?_; refine zm5 ?_; refine zm395 ?_; refine zm72 ?_
 refine TF.bslice rfl rfl rfl rfl (fun b12 => ?_)
 refine TF.pub (by simp) (fun H_b12 le_b12 rd_b12 => ?_)
 replace hp := hp.le le_b12
 have hA12 : RdSl H_b12 1 I64.cells (.slice (some ⟨b12, 0, none⟩) 1 1) [at_] := RdSl.blk (l := [at_]) (enc := I64.cells) rd_b12 (by intro x hx; rfl) rfl (by show 1 ≤ 9223372036854775807; decide)
 refine zm7 ?_
 refine TL.callO (enters rfl rfl rfl rfl) (span_ok role hp hN hn hA12 (by simp)) rfl (fun v13 H13 ob13 hle13 hp13 => ?_)
 obtain ⟨eH13, hO13⟩ := hp13
 subst H13
 obtain ⟨a13, c13, rfl⟩ := hO13.form
 refine TL.pubO hO13 (.skip _ .all) (by simp) (fun HP13 leP13 hR13 => ?_)
 replace hp := hp.le leP13
 refine TF.back5 (S1 SN) (le_b12.trans (leP13)) ?_; refine zm7 ?_
 refine TL.callO (enters rfl rfl rfl rfl) (near_ok role hp hR13 (spanS_rng hN) (by have := spanS_len (role := role) hN (frm := [at_]); omega)) rfl (fun v14 H14 ob14 hle14 hp14 => ?_)
 obtain ⟨eH14, hO14⟩ := hp14
 subst H14
 obtain ⟨a14, c14, rfl⟩ := hO14.form
 refine TL.pubO hO14 (.skip _ .all) (by simp) (fun HP14 leP14 hQ14 => ?_)
 refine TF.back5 (S1 SN) (le_b12.trans (leP13.trans (leP14))) (TF.pure (pr_lenSl rfl rfl hQ14) rfl ?_); refine zm72 ?_
 exact TF.nil (TX.seqN (TC.ret (TX.fin0 (.inr rfl) (results1 rfl (RVal.tmp rfl)) (congrArg Value.bool (by unfold lostB; exact decide_eq_decide.2 (by omega))))))
end Go.Sx
namespace Go.Sx
open Go Go.Proofs
set_option maxHeartbeats 8000000 in
theorem look_ok {H : Hp} {p : SProto} (role : Str) (hp : ProtoOk H p) (hN : NxOk p) (hn : p.points.length ≤ 1000) {bw : Nat} {sv : Value} {ob : Blks} {rows : List GRow} (hO : OwnSl 1 GRow.cells sv rows ob) (hrw : GRowsOk H rows) (hrl : rows.length ≤ 40) {fv : Value} {frm : List Int} (hf : RdSl H 1 I64.cells fv frm) (hfl : frm.length ≤ 1000) :
  FnX Tryz.prog 125 [.pointer (some ⟨bw, 0, none⟩), fv] H ((bw, WK p role sv) :: ob) (fun v H1 L1 => ∃ sv' ob' rows', L1 = (bw, WK p role sv') :: ob' ∧ OwnSl 1 GRow.cells sv' rows' ob' ∧ GRowsOk H1 rows' ∧ rows'.length ≤ 40 ∧ rows'.map (·.l) = (lookS p role (rows.map (·.l)) frm).2.2 ∧ v = .tuple #[.int .i64 (lookS p role (rows.map (·.l)) frm).1, .int .i64 (lookS p role (rows.map (·.l)) frm).2.1]) := by
 obtain ⟨sva, svc, rfl⟩ := hO.form
 have hsl := spanS_len (role := role) hN (frm := frm)
 have hnl := nearS_len (p := p) (role := role) (spanS p role frm)
 refine FnX.enterM Tryz.func125 Tryz.ntmps125 rfl rfl (fun w0 M hM => ?_)
 refine zm28 ?_; refine zm61 ?_; refine zm396 ?_; refine zm45 ?_; refine zm341 ?_; refine zm45 ?_; refine zm256 ?_; refine zm192 ?_
 refine TL.callOF (enters rfl rfl rfl rfl) (span_ok role hp hN hn hf hfl) rfl (fun v19 H19 ob19 hf19 hle19 hp19 => ?_)
 obtain ⟨eH19, hO19⟩ := hp19
 subst H19
 obtain ⟨a19, c19, rfl⟩ := hO19.form
 refine TL.pubO hO19 (.skip _ (.past _ .all)) (fun p hp hm => absurd (hM _ hm) (Nat.not_lt.2 (hf19 p hp))) (fun HP19 leP19 hA19 => ?_)
 replace hp := hp.le leP19
 replace hrw := hrw.le leP19
 refine TF.back5 (S1 SN) leP19 ?_; refine zm201 ?_; refine zm61 ?_; refine zm396 ?_; refine zm45 ?_; refine zm341 ?_; refine zm45 ?_; refine zm256 ?_; refine zm192 ?_
 refine TL.callOF (enters rfl rfl rfl rfl) (near_ok role hp hA19 (spanS_rng hN) (by have := spanS_len (role := role) hN (frm := frm); omega)) rfl (fun v29 H29 ob29 hf29 hle29 hp29 => ?_)
 obtain ⟨eH29, hO29⟩ := hp29
 subst H29
 obtain ⟨a29, c29, rfl⟩ := hO29.form
 refine TL.pubO hO29 (.skip _ (.past _ .all)) (fun p hp hm => absurd (hM _ hm) (Nat.not_lt.2 (hf29 p hp))) (fun HP29 leP29 hB29 => ?_)
 replace hp := hp.le leP29
 replace hrw := hrw.le leP29
 replace hA19 := hA19.le leP29
 have hB1 := hB29
 have hA1 := hA19
 have hp1 := hp
 have hrw1 := hrw
 refine TF.back5 (S1 SN) leP29 ?_; refine zm201 ?_; refine zm55 ?_
 refine TC.loop4 (V := fun k v obx H1 => [(8, .int .i64 k)]) (K := [(0, _), (4, _), (5, _), (6, _), (7, _)]) (L := fun k v obx H1 => St M w0 H H1 ((bw, WK p role (.slice sva rows.length svc)) :: ob)) (I := fun k v obx H1 => (0 ≤ k ∧ k ≤ (spanS p role frm).length) ∧ HP29.le H1 ∧ ∀ j : Nat, j < k.toNat → ∀ i, (spanS p role frm)[j]? = some i → lostB p role i = false) (μ := fun k => ((spanS p role frm).length - k).toNat) 0 (.slice none 0 0) [] HP29 ⟨rfl, rfl, rfl, rfl, rfl, rfl, trivial⟩ ⟨⟨by omega, by omega⟩, .refl _, fun j h => absurd h (by omega)⟩ (fun w hw => by simpa only [List.append_nil] using hw) (fun k v obx H1 hI => ?_)
 obtain ⟨⟨k0, k1⟩, hI1, hI2⟩ := hI
 have hA2 := hA1.le hI1
 have hB2 := hB1.le hI1
 have hp2 := hp1.le hI1
 replace hrw1 := hrw1.le hI1
 refine zm32 ?_; refine TL.run (pr_lenSl rfl rfl hA2) rfl ?_; refine zm9 ?_
 refine TL.split (s := 34) rfl (fun g34 => ?_) (fun g34 => ?_)
 ·
  have q34 := of_decide_eq_true g34
  refine zm8 ?_; refine TL.gdY rfl rfl (pr_lenSl rfl rfl hB2) rfl ?_; refine zm35 ?_
  refine TC.condD rfl (fun c38 => ?_) (fun c38 => ?_)
  ·
   have hn0 : 0 < (nearS p role (spanS p role frm)).length := by omega
   obtain ⟨j, hx⟩ := getSome (l := (spanS p role frm)) k0 (by omega)
   refine zm162 ?_; refine zm460 ?_; refine zm45 ?_; refine zm341 ?_; refine zm45 ?_; refine zm256 ?_; refine zm72 ?_
   refine TF.pure (pr_indexSl rfl hA2 rfl (by omega) (by omega)) rfl (TF.read (S1 SN) (Hp.le.refl _) (fun _ _ => pr_el0 hA2 hx rfl rfl) rfl ?_); refine zm7 ?_
   refine TL.call (enters rfl rfl rfl rfl) (lost_ok role hp2 hN hn j) rfl (fun v53 H53 hle53 hp53 => ?_)
   replace hrw1 := hrw1.le hle53
   subst hp53
   refine TF.back5 (S1 SN) hle53 (TF.nil (TX.seqN (TC.cond rfl (fun c53 => ?_) (fun c53 => ?_))))
   ·
    refine zm217 ?_
    have hEq := look_lost (sets := rows.map (·.l)) hx c53 hn0
    exact zq1356
   ·
    refine zm56 ?_
    exact TX.round4 (k + 1) (.slice none 0 0) [] H53 ⟨⟨by omega, by omega⟩, hI1.trans hle53, fun j2 h2 i hi => by by_cases e : j2 < k.toNat; exact hI2 j2 e i hi; rw [show j2 = k.toNat by omega, hx] at hi; cases hi; simpa using c53⟩ ⟨rfl, rfl, rfl, rfl, rfl, rfl, trivial⟩ (fun w hw => hw) (by omega)
  · exact zq1357
 ·
  have q34 := of_decide_eq_false g34
  refine zm82 ?_; refine zm155 ?_
  exact zq1357
end Go.Sx
namespace Go.Sx
open Go Go.Proofs
set_option maxHeartbeats 4000000 in
theorem wkHead_ok {H : Hp} {p : SProto} (role : Str) (hp : ProtoOk H p) {bw : Nat} {sv : Value} {lv : Value} {l : List Int} (hl : RdSl H 1 I64.cells lv l) (hr : ∀ j ∈ l, 0 ≤ j ∧ j < p.points.length)  :
  KFn Tryz.prog bw (WK p role sv) 174 [.pointer (some ⟨bw, 0, none⟩), lv] H (fun v H1 ob => ob = [] ∧ H1 = H ∧ v = .tuple #[.int .i64 (wHeadS p role l).1, gs (wHeadS p role l).2.1, .int .i64 (wHeadS p role l).2.2]) := by
 have hpt := hp.pt
 have hlm := hl.max
 refine FnX.enter Tryz.func174 Tryz.ntmps174 rfl rfl (fun w0 => ?_)
 refine zm24 ?_; refine zm2 ?_; refine zm28 ?_; refine zm55 ?_
 refine TC.loop (V := fun (q : Int × Int × Str) => [(7, .int .i64 q.2.1), (8, gs q.2.2), (9, .int .i64 q.1)]) (K := [(0, _), (1, _), (4, _), (5, _), (6, _)]) (L := fun (q : Int × Int × Str) => _) (I := fun (q : Int × Int × Str) => (0 ≤ q.1 ∧ q.1 ≤ l.length) ∧ wHeadF p role q.1.toNat q.2.1 q.2.2 (l.drop q.1.toNat) = wHeadS p role l) (μ := fun (q : Int × Int × Str) => (l.length - q.1).toNat) (i := ((0 : Int), (0 : Int), ([] : Str))) ⟨rfl, rfl, rfl, rfl, rfl, rfl, rfl, rfl, trivial⟩ ⟨⟨by omega, by omega⟩, rfl⟩ (fun w hw => hw) (fun (q : Int × Int × Str) hI => ?_)
 obtain ⟨⟨k0, k1⟩, hI3⟩ := hI
 refine zm32 ?_; refine TL.run (pr_lenSl rfl rfl hl) rfl ?_; refine zm2 ?_
 refine TC.condD rfl (fun c16 => ?_) (fun c16 => ?_)
 ·
  obtain ⟨j, hx⟩ := getSome (l := l) k0 c16
  have hjr := hr j (List.mem_of_getElem? hx)
  obtain ⟨x, hxp⟩ := getSome (l := p.points) hjr.1 hjr.2
  refine zm162 ?_; refine zm461 ?_; refine zm45 ?_; refine zm3 ?_; refine zm256 ?_; refine zm72 ?_
  refine TF.pure (pr_indexSl rfl hl rfl (by omega) (by omega)) rfl (TF.read (S1 SN) (Hp.le.refl _) (fun _ _ => pr_el0 hl hx rfl rfl) rfl (TF.pure (pr_indexSl rfl hpt rfl (by omega) (by omega)) rfl (TF.read (S1 SN) (Hp.le.refl _) (fun _ _ => pr_elA hpt hxp rfl rfl) rfl ?_)))
  refine TF.alloc rfl (fun b10 => ?_)
  refine zm7 ?_; refine zm39 ?_; refine TF.back5 (S0 (S1 SN)) (Hp.le.refl _) (TF.nil (TX.seqN ?_)); refine zm150 ?_; refine zm255 ?_; refine TQ.nil (TX.seqN (TC.seq ?_)); refine zm150 ?_; refine zm323 ?_; refine zm202 ?_
  refine zm301 ?_; refine TQ.run (pr_str rfl rfl rfl) rfl (TQ.nil (TX.seqN (TC.condD rfl (fun c38 => ?_) (fun c38 => ?_))))
  ·
   refine TC.quiet (by kernel_rfl) (by kernel_rfl) ?_; refine zm255 ?_; refine TQ.nil (TX.seqN ?_); refine zm32 ?_; refine zm0 ?_
   refine TL.split (s := 43) rfl (fun g43 => ?_) (fun g43 => ?_)
   ·
    have q43 := of_decide_eq_true g43
    refine zm23 ?_; refine zm23 ?_
    refine TL.split (s := 47) rfl (fun g47 => ?_) (fun g47 => ?_)
    · exact zq1489
    ·
     have q47 := of_ndec_false g47
     refine zm23 ?_; refine zm75 ?_; refine zm35 ?_
     refine TC.condND rfl (fun c52 => ?_) (fun c52 => ?_)
     · exact zq1498
     ·
      refine zm12 ?_; refine zm184 ?_; refine zm257 ?_
      exact TX.round (q.1 + 1, 2, x.frm) ⟨⟨by omega, by omega⟩, by have key := wHeadF_next (role := role) (kind := q.2.1) (peer := q.2.2) (i := q.1.toNat) hx hxp (by rintro ⟨_, h⟩; apply h; constructor <;> simp_all); rw [if_pos c38, if_pos c38] at key; show wHeadF p role (q.1 + 1).toNat 2 x.frm (l.drop (q.1 + 1).toNat) = wHeadS p role l; rw [show (q.1 + 1).toNat = q.1.toNat + 1 by omega, ← key]; exact hI3⟩ ⟨rfl, rfl, rfl, rfl, rfl, rfl, rfl, rfl, trivial⟩ (fun w hw => hw.drop) (by omega)
   ·
    have q43 := of_decide_eq_false g43
    refine zm44 ?_; refine zm222 ?_; refine TL.gdU rfl rfl rfl ?_; refine zm1 ?_; refine zm155 ?_; refine zm12 ?_; refine zm184 ?_; refine zm257 ?_
    exact TX.round (q.1 + 1, 2, x.frm) ⟨⟨by omega, by omega⟩, by have key := wHeadF_next (role := role) (kind := q.2.1) (peer := q.2.2) (i := q.1.toNat) hx hxp (by omega); rw [if_pos c38, if_pos c38] at key; show wHeadF p role (q.1 + 1).toNat 2 x.frm (l.drop (q.1 + 1).toNat) = wHeadS p role l; rw [show (q.1 + 1).toNat = q.1.toNat + 1 by omega, ← key]; exact hI3⟩ ⟨rfl, rfl, rfl, rfl, rfl, rfl, rfl, rfl, trivial⟩ (fun w hw => hw.drop) (by omega)
  ·
   refine zm12 ?_; refine zm32 ?_; refine zm0 ?_
   refine TL.split (s := 43) rfl (fun g43 => ?_) (fun g43 => ?_)
   ·
    have q43 := of_decide_eq_true g43
    refine zm23 ?_; refine zm23 ?_
    refine TL.split (s := 47) rfl (fun g47 => ?_) (fun g47 => ?_)
    · exact zq1489
    ·
     have q47 := of_ndec_false g47
     refine zm23 ?_; refine zm75 ?_; refine zm35 ?_
     refine TC.condND rfl (fun c52 => ?_) (fun c52 => ?_)
     · exact zq1498
     ·
      refine zm12 ?_; refine zm184 ?_; refine zm257 ?_
      exact TX.round (q.1 + 1, 1, x.to) ⟨⟨by omega, by omega⟩, by have key := wHeadF_next (role := role) (kind := q.2.1) (peer := q.2.2) (i := q.1.toNat) hx hxp (by rintro ⟨_, h⟩; apply h; constructor <;> simp_all); rw [if_neg c38, if_neg c38] at key; show wHeadF p role (q.1 + 1).toNat 1 x.to (l.drop (q.1 + 1).toNat) = wHeadS p role l; rw [show (q.1 + 1).toNat = q.1.toNat + 1 by omega, ← key]; exact hI3⟩ ⟨rfl, rfl, rfl, rfl, rfl, rfl, rfl, rfl, trivial⟩ (fun w hw => hw.drop) (by omega)
   ·
    have q43 := of_decide_eq_false g43
    refine zm44 ?_; refine zm222 ?_; refine TL.gdU rfl rfl rfl ?_; refine zm1 ?_; refine zm155 ?_; refine zm12 ?_; refine zm184 ?_; refine zm257 ?_
    exact TX.round (q.1 + 1, 1, x.to) ⟨⟨by omega, by omega⟩, by have key := wHeadF_next (role := role) (kind := q.2.1) (peer := q.2.2) (i := q.1.toNat) hx hxp (by omega); rw [if_neg c38, if_neg c38] at key; show wHeadF p role (q.1 + 1).toNat 1 x.to (l.drop (q.1 + 1).toNat) = wHeadS p role l; rw [show (q.1 + 1).toNat = q.1.toNat + 1 by omega, ← key]; exact hI3⟩ ⟨rfl, rfl, rfl, rfl, rfl, rfl, rfl, rfl, trivial⟩ (fun w hw => hw.drop) (by omega)
 ·
  refine zm38 ?_; refine zm24 ?_; refine zm9 ?_; refine zm22 ?_
  exact TX.finX (.inr rfl) (results3 rfl (RVal.tmp rfl) (RVal.tmp rfl) (RVal.tmp rfl)) (fun w hw => hw) ⟨[], rfl, rfl, rfl, by rw [← hI3, List.drop_eq_nil_of_le (by omega)]; rfl⟩
end Go.Sx
namespace Go.Sx
open Go Go.Proofs
set_option maxHeartbeats 1000000 in
theorem rput_ok {H : Hp} {l : List Str} {v : Value} (s : Str) (hL : RdSl H 1 Str.cells v l) (hlen : l.length ≤ 1000000) :
  Fn Tryz.prog 185 [v, gs s] H (fun r H1 => RdSl H1 1 Str.cells r (putS l s)) := by
 obtain ⟨va, vc, rfl⟩ := hL.len
 have hrm := hL.room _ _ _ rfl
 refine Fn.enter Tryz.func185 Tryz.ntmps185 rfl rfl (fun w0 => ?_)
 refine zm142 ?_; refine zm11 ?_
 refine TC.block (TC.loop (V := fun k => [(5, .int .i64 k)]) (K := [(0, _), (1, _), (4, _)]) (L := fun k => _) (I := fun k => 0 ≤ k ∧ k ≤ l.length ∧ putS l s = l.take k.toNat ++ putS (l.drop k.toNat) s) (μ := fun k => (l.length - k).toNat) (i := (0 : Int)) ⟨rfl, rfl, rfl, rfl, trivial⟩ ⟨by omega, by omega, by simp⟩ (fun w hw => hw) (fun k hI => ?_))
 refine zm161 ?_; refine zm9 ?_
 refine TL.split (s := 11) rfl (fun g11 => ?_) (fun g11 => ?_)
 ·
  have q11 := of_decide_eq_true g11
  obtain ⟨x, hx⟩ := getSome (l := l) hI.1 (by omega)
  refine zm23 ?_; refine TL.gdY rfl rfl (pr_indexSl rfl hL rfl (by omega) (by omega)) rfl (TL.gdY rfl rfl (pr_el0 hL hx rfl rfl) rfl ?_); refine zm8 ?_; refine zm75 ?_; refine zm2 ?_
  refine TC.cond rfl (fun c18 => ?_) (fun c18 => ?_)
  · refine zm12 ?_; refine TC.block ?_; refine zm66 ?_; refine zm276 ?_; exact TX.blkN (TX.round (k + 1) ⟨by omega, by omega, put_next hI.1 hI.2.2 hx (by simp_all)⟩ ⟨rfl, rfl, rfl, rfl, trivial⟩ (fun w hw => hw) (by omega))
  ·
   refine zm38 ?_; refine zm161 ?_; refine zm9 ?_
   refine TL.split (s := 25) rfl (fun g25 => ?_) (fun g25 => ?_)
   ·
    have q25 := of_decide_eq_true g25
    exact zq1513
   · exact zq1564
 ·
  have q11 := of_decide_eq_false g11
  refine zm44 ?_; refine zm140 ?_; refine zm155 ?_; refine zm38 ?_; refine zm161 ?_; refine zm9 ?_
  refine TL.split (s := 25) rfl (fun g25 => ?_) (fun g25 => ?_)
  ·
   have q25 := of_decide_eq_true g25
   obtain ⟨x, hx⟩ := getSome (l := l) hI.1 (by omega)
   exact zq1513
  · exact zq1564
set_option maxHeartbeats 1000000 in
theorem r_Put_ok {H : Hp} {l : List Str} {v : Value} (s : Str) (hL : RdSl H 1 Str.cells v l) (hlen : l.length ≤ 100000) :
  Fn Tryz.prog 153 [v, gs s] H (fun r H1 => RdSl H1 1 Str.cells r (l.foldl putS [s])) := by
 obtain ⟨la, lc, rfl⟩ := hL.len
 refine Fn.enter Tryz.func153 Tryz.ntmps153 rfl rfl (fun w0 => ?_)
 refine zm105 ?_
 refine TL.bslice rfl rfl rfl rfl (fun b8 => ?_)
 refine zm59 ?_
 refine TL.pub (by simp) (fun H_b8 le_b8 rd_b8 => ?_)
 have h8 : RdSl H_b8 1 Str.cells _ [s] := RdSl.blk (cap := 1) rd_b8 (by intro x hx; rfl) (by kernel_rfl) (by simp)
 replace hL := hL.le le_b8
 refine zm10 ?_
 refine TC.loop4 (V := fun k v ob H1 => [(5, v), (6, .int .i64 k)]) (K := [(0, _), (4, _)]) (L := fun k v ob H1 => St [] w0 H H1 ob) (I := fun k v ob H1 => 0 ≤ k ∧ k ≤ l.length ∧ ob = [] ∧ H_b8.le H1 ∧ RdSl H1 1 Str.cells v ((l.take k.toNat).foldl putS [s])) (μ := fun k => (l.length - k).toNat) 0 (.slice (some ⟨b8, 0, none⟩) 1 1) [] H_b8 ⟨rfl, rfl, rfl, rfl, trivial⟩ ⟨by omega, by omega, rfl, Hp.le.refl _, h8⟩ (fun w hw => hw) (fun k v ob H1 hI => ?_)
 obtain ⟨h0, h1, rfl, hle, hR⟩ := hI
 replace hL := hL.le hle
 refine zm161 ?_; refine zm2 ?_
 refine TC.condD rfl (fun c12 => ?_) (fun c12 => ?_)
 ·
  obtain ⟨x, hx⟩ := getSome (l := l) h0 c12
  have hfl := foldPut_len s (l.take k.toNat)
  refine zm164 ?_; refine zm104 ?_; refine zm115 ?_; refine TL.run (pr_el0 hL hx rfl rfl) rfl (TL.call (enters rfl rfl rfl rfl) (rput_ok x hR (by simp at hfl; omega)) rfl (fun v20 H20 hle20 hp20 => ?_))
  refine zm127 ?_
  exact TX.round4 (k + 1) _ [] H20 ⟨by omega, by omega, rfl, hle.trans hle20, by rw [take_snoc h0 hx, List.foldl_append]; exact hp20⟩ ⟨rfl, rfl, rfl, rfl, trivial⟩ (fun w hw => hw) (by omega)
 ·
  refine zm87 ?_
  exact TX.fin0 (.inr rfl) (results1 rfl (RVal.tmp rfl)) (by rw [take_all c12 h0] at hR; exact hR)
end Go.Sx
namespace Go.Sx
open Go Go.Proofs
set_option maxHeartbeats 4000000 in
theorem wkLabels_ok {H : Hp} {p : SProto} (role : Str) (hp : ProtoOk H p) {bw : Nat} {sv : Value} {lv : Value} {l : List Int} (hl : RdSl H 1 I64.cells lv l) (hr : ∀ j ∈ l, 0 ≤ j ∧ j < p.points.length) (hll : l.length ≤ 1000) (h6 : ∀ x ∈ p.points, x.arms.length ≤ 6)  :
  KFn Tryz.prog bw (WK p role sv) 175 [.pointer (some ⟨bw, 0, none⟩), lv] H (fun v H1 ob => ob = [] ∧ ∃ lv', v = .tuple #[lv', .bool (alikeS p l)] ∧ RdSl H1 1 Str.cells lv' (labS p l)) := by
 refine FnX.enter Tryz.func175 Tryz.ntmps175 rfl rfl (fun w0 => ?_)
 refine zm28 ?_; refine zm48 ?_
 refine TC.loop4 (V := fun k v ob H1 => [(6, v), (7, .int .i64 k)]) (K := [(0, _), (1, _), (4, _), (5, _)]) (L := fun k v ob H1 => St (keys [(bw, WK p role sv)]) w0 H H1 [(bw, WK p role sv)]) (I := fun k v ob H1 => (0 ≤ k ∧ k ≤ l.length) ∧ H.le H1 ∧ RdSl H1 1 Str.cells v (labP p [] (l.take k.toNat))) (μ := fun k => (l.length - k).toNat) 0 (.slice none 0 0) [] H ⟨rfl, rfl, rfl, rfl, rfl, rfl, trivial⟩ ⟨⟨by omega, by omega⟩, .refl _, RdSl.nil⟩ (fun w hw => hw) (fun k v ob H1 hI => ?_)
 obtain ⟨⟨k0, k1⟩, hIA, hI3⟩ := hI
 have hp1 := hp.le hIA
 have hl1 := hl.le hIA
 have hpt1 := hp1.pt
 have hlm := hl.max
 refine zm32 ?_; refine TL.run (pr_lenSl rfl rfl hl1) rfl ?_; refine zm2 ?_
 refine TC.condD rfl (fun c14 => ?_) (fun c14 => ?_)
 ·
  obtain ⟨j, hx⟩ := getSome (l := l) k0 c14
  have hjr := hr j (List.mem_of_getElem? hx)
  obtain ⟨x, hxp⟩ := getSome (l := p.points) hjr.1 hjr.2
  have hxa := (hp1.ps x (List.mem_of_getElem? hxp)).a
  have hx6 := h6 x (List.mem_of_getElem? hxp)
  have hln := labP_len h6 (l.take k.toNat) []
  have hlt := List.length_take_le k.toNat l
  have hlt2 : (l.take k.toNat).length ≤ l.length := by rw [List.length_take]; omega
  simp only [List.length_nil] at hln
  refine zm109 ?_; refine zm202 ?_; refine zm255 ?_; refine TQ.run (pr_indexSl rfl hl1 rfl (by omega) (by omega)) rfl (TQ.run (pr_el0 hl1 hx rfl rfl) rfl (TQ.run (pr_indexSl rfl hpt1 rfl (by omega) (by omega)) rfl ?_))
  refine zm110 ?_; refine TQ.run (pr_el1 hpt1 hxp rfl rfl) rfl ?_; refine zm79 ?_; refine zm94 ?_
  refine TC.loop4 (V := fun m v ob H2 => [(6, v), (9, .int .i64 m)]) (K := [(0, _), (1, _), (4, _), (5, _), (7, _), (8, _), (11, _), (12, _), (13, _), (14, _), (17, _), (18, _), (19, _), (20, _), (21, _), (22, _), (23, _), (24, _), (25, _), (26, _), (27, _), (28, _)]) (L := fun m v ob H2 => St (keys [(bw, WK p role sv)]) w0 H H2 [(bw, WK p role sv)]) (I := fun m v ob H2 => (0 ≤ m ∧ m ≤ x.arms.length) ∧ H1.le H2 ∧ RdSl H2 1 Str.cells v (labA (labP p [] (l.take k.toNat)) (x.arms.take m.toNat))) (μ := fun m => (x.arms.length - m).toNat) 0 v [] H1 ⟨rfl, rfl, rfl, rfl, rfl, rfl, rfl, rfl, rfl, rfl, rfl, rfl, rfl, rfl, rfl, rfl, rfl, rfl, rfl, rfl, rfl, rfl, rfl, rfl, trivial⟩ ⟨⟨by omega, by omega⟩, .refl _, hI3⟩ (fun w hw => hw) (fun m v ob H2 hI => ?_)
  obtain ⟨⟨m0, m1⟩, hI2, hI3⟩ := hI
  have hxa2 := hxa.le hI2
  have hxm := hxa.max
  refine zm32 ?_; refine TL.run (pr_lenSl rfl rfl hxa2) rfl ?_; refine zm2 ?_
  refine TC.condD rfl (fun c32 => ?_) (fun c32 => ?_)
  ·
   obtain ⟨a, ha⟩ := getSome (l := x.arms) m0 c32
   have hla := labA_len (labP p [] (l.take k.toNat)) (x.arms.take m.toNat)
   have hlt3 : (x.arms.take m.toNat).length ≤ x.arms.length := by rw [List.length_take]; omega
   refine zm164 ?_; refine zm104 ?_; refine TL.run (pr_indexSl rfl hxa2 rfl (by omega) (by omega)) rfl ?_; refine zm6 ?_
   refine TL.run (pr_el1 hxa2 ha rfl rfl) rfl (TL.call (enters rfl rfl rfl rfl) (r_Put_ok a.label hI3 (by omega)) rfl (fun v41 H41 hle41 hp41 => ?_))
   refine zm127 ?_
   exact TX.round4 (m + 1) v41 [] H41 ⟨⟨by omega, by omega⟩, hI2.trans hle41, by rw [labA_snoc m0 ha]; exact hp41⟩ ⟨rfl, rfl, rfl, rfl, rfl, rfl, rfl, rfl, rfl, rfl, rfl, rfl, rfl, rfl, rfl, rfl, rfl, rfl, rfl, rfl, rfl, rfl, rfl, rfl, trivial⟩ (fun w hw => hw) (by omega)
  ·
   refine zm163 ?_
   exact TX.round4 (k + 1) v [] H2 ⟨⟨by omega, by omega⟩, hIA.trans hI2, by rw [labP_snoc k0 hx hxp]; rw [show x.arms.take m.toNat = x.arms from List.take_of_length_le (by omega)] at hI3; exact hI3⟩ ⟨rfl, rfl, rfl, rfl, rfl, rfl, trivial⟩ (fun w hw => hw) (by omega)
 ·
  refine zm90 ?_
  rw [List.take_of_length_le (by omega)] at hI3
  have hO : RdSl H1 1 Str.cells v (labS p l) := hI3
  refine zm10 ?_
  refine TC.loop (V := fun k => [(10, .int .i64 k)]) (K := [(0, _), (1, _), (4, _), (5, _), (6, _)]) (L := fun k => _) (I := fun k => (0 ≤ k ∧ k ≤ l.length) ∧ l.all (sameN p (labS p l).length) = (l.drop k.toNat).all (sameN p (labS p l).length)) (μ := fun k => (l.length - k).toNat) (i := (0 : Int)) ⟨rfl, rfl, rfl, rfl, rfl, rfl, trivial⟩ ⟨⟨by omega, by omega⟩, rfl⟩ (fun w hw => hw) (fun k hI => ?_)
  obtain ⟨⟨k0, k1⟩, hal⟩ := hI
  refine zm32 ?_; refine TL.run (pr_lenSl rfl rfl hl1) rfl ?_; refine zm2 ?_
  refine TC.condD rfl (fun c45 => ?_) (fun c45 => ?_)
  ·
   obtain ⟨j, hx⟩ := getSome (l := l) k0 c45
   have hjr := hr j (List.mem_of_getElem? hx)
   obtain ⟨x, hxp⟩ := getSome (l := p.points) hjr.1 hjr.2
   have hxa := (hp1.ps x (List.mem_of_getElem? hxp)).a
   refine zm109 ?_; refine zm202 ?_; refine zm255 ?_; refine TQ.run (pr_indexSl rfl hl1 rfl (by omega) (by omega)) rfl (TQ.run (pr_el0 hl1 hx rfl rfl) rfl (TQ.run (pr_indexSl rfl hpt1 rfl (by omega) (by omega)) rfl ?_))
   refine zm110 ?_; refine TQ.run (pr_el1 hpt1 hxp rfl rfl) rfl (TQ.run (pr_lenSl rfl rfl hxa) rfl ?_); refine zm92 ?_; refine TQ.run (pr_lenSl rfl rfl hO) rfl ?_; refine zm79 ?_
   refine TC.condND rfl (fun c63 => ?_) (fun c63 => ?_)
   ·
    refine zm24 ?_; refine zm22 ?_; refine zm50 ?_
    exact TX.finX (.inr rfl) (results2 rfl (RVal.tmp rfl) (RVal.tmp rfl)) (fun w hw => hw) ⟨[], rfl, rfl, _, by rw [show alikeS p l = false from all_bad (p := sameN p (labS p l).length) k0 hx (by unfold sameN; rw [hxp]; simpa using c63) hal], hO⟩
   ·
    refine zm56 ?_
    exact TX.round (k + 1) ⟨⟨by omega, by omega⟩, all_next (p := sameN p (labS p l).length) k0 hx (by unfold sameN; rw [hxp]; simpa using c63) hal⟩ ⟨rfl, rfl, rfl, rfl, rfl, rfl, trivial⟩ (fun w hw => hw) (by omega)
  ·
   refine zm38 ?_; refine zm24 ?_; refine zm22 ?_
   exact TX.finX (.inr rfl) (results2 rfl (RVal.tmp rfl) (RVal.tmp rfl)) (fun w hw => hw) ⟨[], rfl, rfl, _, by rw [show alikeS p l = true from all_end (p := sameN p (labS p l).length) k0 c45 hal], hO⟩
end Go.Sx
namespace Go.Sx
open Go Go.Proofs
theorem eqCar (k k' : Int) (s s' : Str) : eqAt Tryz.prog 4 40 [.int .i64 k, gs s] [.int .i64 k', gs s'] = some (decide (k = k' ∧ s = s')) := by
 have h : eqAt Tryz.prog 4 40 [.int .i64 k, gs s] [.int .i64 k', gs s'] = some ((k == k') && (((ByteArray.mk s.toArray).toList == (ByteArray.mk s'.toArray).toList) && true)) := by kernel_rfl
 rw [h, gs_toList, gs_toList]
 by_cases h1 : k = k' <;> by_cases h2 : s = s' <;> simp [h1, h2]
set_option maxHeartbeats 4000000 in
theorem wkCarried_ok {H : Hp} {p : SProto} (role : Str) (hp : ProtoOk H p) {bw : Nat} {sv : Value} {lv : Value} {l : List Int} (hl : RdSl H 1 I64.cells lv l) (hr : ∀ j ∈ l, 0 ≤ j ∧ j < p.points.length) (s : Str) (hll : l.length ≤ 1000)  :
  KFn Tryz.prog bw (WK p role sv) 176 [.pointer (some ⟨bw, 0, none⟩), lv, gs s] H (fun v H1 ob => H1 = H ∧ ∃ tv, v = .tuple #[.agg #[.int .i64 (carS p l s).1, gs (carS p l s).2.1], tv, .bool (carS p l s).2.2.2] ∧ ((carS p l s).2.2.2 = true → OwnSl 1 I64.cells tv (carS p l s).2.2.1 ob)) := by
 have hpt := hp.pt
 have hlm := hl.max
 refine FnX.enter Tryz.func176 Tryz.ntmps176 rfl rfl (fun w0 => ?_)
 refine zm4 ?_
 refine TL.alloc rfl (fun b6 => ?_)
 refine zm60 ?_; refine zm4 ?_
 refine TL.alloc rfl (fun b9 => ?_)
 refine zm33 ?_; refine zm48 ?_
 refine TC.loop4 (V := fun (q : Int × Int × Str) v ob H1 => [(10, v), (11, .int .i64 q.1)]) (K := [(0, _), (1, _), (2, _), (6, _), (7, _), (8, _), (9, _)]) (L := fun (q : Int × Int × Str) v ob H1 => St (keys [(bw, WK p role sv)]) w0 H H ((b9, [.int .i64 q.2.1, gs q.2.2]) :: (b6, [.int .i64 0, gs []]) :: (bw, WK p role sv) :: ob)) (I := fun (q : Int × Int × Str) v ob H1 => (0 ≤ q.1 ∧ q.1 ≤ l.length) ∧ ∃ to, OwnSl 1 I64.cells v to ob ∧ carF p s q.2.1 q.2.2 to (l.drop q.1.toNat) = carS p l s ∧ to.length ≤ q.1.toNat) (μ := fun (q : Int × Int × Str) => (l.length - q.1).toNat) ((0 : Int), (0 : Int), ([] : Str)) (.slice none 0 0) [] H ⟨rfl, rfl, rfl, rfl, rfl, rfl, rfl, rfl, rfl, trivial⟩ ⟨⟨by omega, by omega⟩, [], OwnSl.nil, rfl, by simp⟩ (fun w hw => hw) (fun q v ob H1 hI => ?_)
 obtain ⟨⟨k0, k1⟩, to, hO, hI3, hI4⟩ := hI
 obtain ⟨va, vc, rfl⟩ := hO.form
 refine zm32 ?_; refine TL.run (pr_lenSl rfl rfl hl) rfl ?_; refine zm2 ?_
 refine TC.condD rfl (fun c17 => ?_) (fun c17 => ?_)
 ·
  obtain ⟨j, hx⟩ := getSome (l := l) k0 c17
  have hjr := hr j (List.mem_of_getElem? hx)
  obtain ⟨x, hxp⟩ := getSome (l := p.points) hjr.1 hjr.2
  have hxa := (hp.ps x (List.mem_of_getElem? hxp)).a
  have hfr := placeS_range (x.arms.map (·.label)) s
  rw [List.length_map] at hfr
  refine zm109 ?_; refine zm202 ?_; refine zm110 ?_; refine TQ.run (pr_own1 rfl (.there _ (.there _ (.here _))) rfl) rfl ?_; refine zm78 ?_; refine zm324 ?_
  refine TQ.run (pr_el0 hl hx rfl rfl) rfl (TQ.run (pr_indexSl rfl hpt rfl (by omega) (by omega)) rfl ?_); refine zm110 ?_; refine TQ.run (pr_el1 hpt hxp rfl rfl) rfl ?_; refine zm79 ?_; refine zm24 ?_
  refine TL.callS (enters rfl rfl rfl rfl) (r6_find_ok s hxa) rfl ?_; refine zm123 ?_
  refine TC.condD rfl (fun c36 => ?_) (fun c36 => ?_)
  ·
   refine zm215 ?_; refine zm66 ?_; refine zm276 ?_
   exact TX.round4 (q.1 + 1, q.2) _ ob H ⟨⟨by omega, by omega⟩, _, hO, by rw [show (q.1 + 1).toNat = q.1.toNat + 1 by omega, ← carF_skip hx hxp c36]; exact hI3, by omega⟩ ⟨rfl, rfl, rfl, rfl, rfl, rfl, rfl, rfl, rfl, trivial⟩ (fun w hw => hw) (by omega)
  ·
   obtain ⟨a, ha⟩ := getSome (l := x.arms) (i := placeS (x.arms.map (·.label)) s) (by omega) (by omega)
   refine zm12 ?_; refine TC.seq ?_; refine zm150 ?_; refine zm92 ?_; refine TQ.run (pr_lenO rfl rfl hO) rfl ?_; refine zm78 ?_
   refine TQ.split (s := 40) rfl (fun g40 => ?_) (fun g40 => ?_)
   ·
    have q40 := of_decide_eq_true g40
    refine TQ.gdY rfl rfl (pr_pure rfl) rfl (TQ.gdY rfl rfl (pr_pure rfl) rfl (TQ.gdY rfl rfl (pr_indexSl rfl hxa rfl (by omega) (by omega)) rfl (TQ.gdY rfl rfl (pr_field rfl) rfl ?_)))
    refine TQ.gdY rfl rfl (pr_elQ hxa ha rfl rfl) rfl (TQ.gdY rfl rfl (pr_ownA rfl (.here _) rfl) rfl (TQ.gdY rfl rfl (pr_neA rfl rfl (by kernel_rfl) (by kernel_rfl) (eqCar _ _ _ _)) rfl ?_)); refine zm79 ?_
    refine TC.cond rfl (fun c48 => ?_) (fun c48 => ?_)
    ·
     refine zm34 ?_; refine zm128 ?_; refine zm0 ?_; refine zm83 ?_; refine zm50 ?_
     have hE : carS p l s = (q.2.1, q.2.2, [], false) := by rw [← hI3]; exact carF_bad hx hxp c36 ha ⟨by omega, fun h => by simp [h.1, h.2] at c48⟩
     exact zq1575
    ·
     refine zm235 ?_; refine zm397 ?_; refine TL.run (pr_elQ hxa ha rfl rfl) rfl ?_; refine zm26 ?_; refine zm104 ?_; refine zm254 ?_
     refine TL.bslice rfl rfl rfl rfl (fun b61 => ?_)
     refine TL.append (enc := I64.cells) rfl rfl rfl hO (Src.own [a.next] (.here _) rfl rfl) (by simp; omega) rfl (.skip _ (.skip _ (.skip _ (.skip _ .all)))) rfl (fun a62 c62 ob62 hO62 => ?_)
     refine zm127 ?_
     exact TX.round4 (q.1 + 1, a.ck, a.cn) _ ob62 H ⟨⟨by omega, by omega⟩, _, hO62, by rw [show (q.1 + 1).toNat = q.1.toNat + 1 by omega, ← carF_next hx hxp c36 ha (by rintro ⟨h1, h2⟩; exact h2 (by simpa using c48))]; exact hI3, by simp only [List.length_append, List.length_cons, List.length_nil]; omega⟩ ⟨rfl, rfl, rfl, rfl, rfl, rfl, rfl, rfl, rfl, trivial⟩ (fun w hw => hw.drop) (by omega)
   ·
    have q40 := of_decide_eq_false g40
    refine zm322 ?_; refine TQ.gdN rfl rfl rfl rfl (TQ.gdN rfl rfl rfl rfl (TQ.gdN rfl rfl rfl rfl ?_)); refine zm79 ?_; refine TC.condF rfl ?_; refine zm235 ?_; refine zm397 ?_; refine TL.run (pr_elQ hxa ha rfl rfl) rfl ?_
    refine zm26 ?_; refine zm104 ?_; refine zm254 ?_
    refine TL.bslice rfl rfl rfl rfl (fun b61 => ?_)
    refine TL.append (enc := I64.cells) rfl rfl rfl hO (Src.own [a.next] (.here _) rfl rfl) (by simp; omega) rfl (.skip _ (.skip _ (.skip _ (.skip _ .all)))) rfl (fun a62 c62 ob62 hO62 => ?_)
    refine zm127 ?_
    exact TX.round4 (q.1 + 1, a.ck, a.cn) _ ob62 H ⟨⟨by omega, by omega⟩, _, hO62, by rw [show (q.1 + 1).toNat = q.1.toNat + 1 by omega, ← carF_next hx hxp c36 ha (by omega)]; exact hI3, by simp only [List.length_append, List.length_cons, List.length_nil]; omega⟩ ⟨rfl, rfl, rfl, rfl, rfl, rfl, rfl, rfl, rfl, trivial⟩ (fun w hw => hw.drop) (by omega)
 ·
  refine zm38 ?_; refine zm34 ?_; refine zm0 ?_; refine zm128 ?_; refine zm0 ?_; refine zm22 ?_
  have hE : carS p l s = (q.2.1, q.2.2, to, true) := by rw [← hI3]; exact (by rw [List.drop_eq_nil_of_le (by omega)]; rfl)
  exact zq1575
end Go.Sx
namespace Go.Sx
open Go Go.Proofs
set_option maxHeartbeats 16000000 in
theorem turn_ok {H : Hp} {p : SProto} (role : Str) (hp : ProtoOk H p) (hN : NxOk p) (hn : p.points.length ≤ 1000) {bw : Nat} {sv : Value} {ob : Blks} {rows : List GRow} (hO : OwnSl 1 GRow.cells sv rows ob) (hrw : GRowsOk H rows) (hrl : rows.length ≤ 40) (h6 : ∀ x ∈ p.points, x.arms.length ≤ 6) {fv : Value} {set : List Int} (hf : RdSl H 1 I64.cells fv set) (hr : ∀ j ∈ set, 0 ≤ j ∧ j < p.points.length) (hfl : set.length ≤ 1000) :
  FnX Tryz.prog 126 [.pointer (some ⟨bw, 0, none⟩), fv] H ((bw, WK p role sv) :: ob) (fun v H1 L1 => ∃ sv' ob' rows' av oa, L1 = (bw, WK p role sv') :: (ob' ++ oa) ∧ OwnSl 1 GRow.cells sv' rows' ob' ∧ GRowsOk H1 rows' ∧ rows'.length ≤ 40 ∧ rows'.map (·.l) = (turnS p role (rows.map (·.l)) set).2.2 ∧ OwnSl 4 SArm.cells av (turnS p role (rows.map (·.l)) set).1.2.2 oa ∧ v = .tuple #[.agg #[.int .i64 (turnS p role (rows.map (·.l)) set).1.1, gs (turnS p role (rows.map (·.l)) set).1.2.1, av], .int .i64 (turnS p role (rows.map (·.l)) set).2.1]) := by
 refine FnX.enterM Tryz.func126 Tryz.ntmps126 rfl rfl (fun w0 M hM => ?_)
 refine zm4 ?_
 refine TL.alloc rfl (fun b4 => ?_)
 refine zm226 ?_; refine TL.run (pr_lenSl rfl rfl hf) rfl ?_; refine zm2 ?_
 refine TC.condD rfl (fun c24 => ?_) (fun c24 => ?_)
 ·
  refine zm147 ?_; refine zm39 ?_; refine zm83 ?_
  have hE : turnS p role (rows.map (·.l)) set = ((0, [], []), 0, rows.map (·.l)) := by unfold turnS; rw [if_pos (by omega)]
  exact zq1576
 ·
  refine zm235 ?_
  refine TL.callK (X := [(b4, _)]) (b := bw) rfl (enters rfl rfl rfl rfl) (wkHead_ok role hp hf hr) rfl (fun v29 H29 ob29 hle29 hf29 hp29 => ?_)
  obtain ⟨eb29, eH29, rfl⟩ := hp29
  subst eb29
  replace eH29 := eH29.symm
  subst eH29
  rw [List.append_nil]
  refine zm139 ?_; refine zm9 ?_; refine zm123 ?_
  refine TC.condND rfl (fun c34 => ?_) (fun c34 => ?_)
  ·
   refine zm147 ?_; refine zm0 ?_; refine zm39 ?_; refine zm83 ?_
   have hE : turnS p role (rows.map (·.l)) set = ((0, [], []), (wHeadS p role set).2.2, rows.map (·.l)) := by unfold turnS; rw [if_neg (by omega), if_pos c34]
   exact zq1576
  ·
   have h34 : ¬ (wHeadS p role set).2.2 ≠ 0 := by simpa using c34
   refine zm235 ?_
   refine TL.callK (X := [(b4, _)]) (b := bw) rfl (enters rfl rfl rfl rfl) (wkLabels_ok role hp hf hr hfl h6) rfl (fun v40 H40 ob40 hle40 hf40 hp40 => ?_)
   obtain ⟨eb40, lv40, rfl, hlab⟩ := hp40
   subst eb40
   rw [List.append_nil]
   replace hp := hp.le hle40
   replace hf := hf.le hle40
   replace hrw := hrw.le hle40
   obtain ⟨la, lc, rfl⟩ := hlab.len
   have hlm := hlab.max
   refine zm139 ?_; refine zm2 ?_; refine zm32 ?_; refine zm0 ?_
   refine TL.split (s := 45) rfl (fun g45 => ?_) (fun g45 => ?_)
   ·
    have q45 := of_decide_eq_true g45
    refine zm23 ?_; refine zm2 ?_
    refine TC.cond rfl (fun c48 => ?_) (fun c48 => ?_)
    ·
     refine zm147 ?_; refine zm39 ?_; refine zm83 ?_
     have hE : turnS p role (rows.map (·.l)) set = ((0, [], []), 803, rows.map (·.l)) := by unfold turnS; rw [if_neg (by omega), if_neg h34, if_pos ⟨q45, by simpa using c48⟩]
     exact zq1576
    · exact zq1577
   ·
    have q45 := of_decide_eq_false g45
    refine zm140 ?_; refine zm155 ?_
    exact zq1577
end Go.Sx
