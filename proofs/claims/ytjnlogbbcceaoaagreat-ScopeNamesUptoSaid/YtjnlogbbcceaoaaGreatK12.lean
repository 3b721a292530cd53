import Derived.Test.YtjnlogbbcceaoaaGreatK11
set_option linter.all false
set_option maxRecDepth 100000
namespace Go.Sx
open Go
theorem idx_hit : ∀ {s : Str} {k : Nat}, s[k]? = some 46 → (∀ j, j < k → s[j]? ≠ some 46) → Lib.index s [46] = (k : Int)
  | [], _, h, _ => by simp at h
  | b :: l, 0, h, _ => by
    simp at h; subst h
    simp [Lib.index, List.isPrefixOf]
  | b :: l, k + 1, h, hn => by
    have h0 : b ≠ 46 := fun e => hn 0 (by omega) (by simp [e])
    have ih := idx_hit (s := l) (k := k) (by simpa using h) (fun j hj => by have := hn (j + 1) (by omega); simpa using this)
    have h1 : ((46 : UInt8) == b) = false := by simpa using Ne.symm h0
    have h2 : ((k : Int) == -1) = false := by rw [beq_eq_false_iff_ne]; omega
    simp [Lib.index, List.isPrefixOf, h1, ih, h2]
theorem idx_none : ∀ {s : Str}, (∀ j, j < s.length → s[j]? ≠ some 46) → Lib.index s [46] = -1
  | [], _ => by simp [Lib.index]
  | b :: l, hn => by
    have h0 : b ≠ 46 := fun e => hn 0 (by simp) (by simp [e])
    have ih := idx_none (s := l) (fun j hj => by have := hn (j + 1) (by simp; omega); simpa using this)
    have h1 : ((46 : UInt8) == b) = false := by simpa using Ne.symm h0
    simp [Lib.index, List.isPrefixOf, h1, ih]
theorem cut_hit {s : Str} {k : Nat} (h : s[k]? = some 46) (hn : ∀ j, j < k → s[j]? ≠ some 46) : cutS s = (s.take k, s.drop (k + 1), true) := by
  unfold cutS Lib.cut
  rw [idx_hit h hn, if_pos (by omega)]
  simp
theorem cut_none {s : Str} (hn : ∀ j, j < s.length → s[j]? ≠ some 46) : cutS s = (s, [], false) := by
  unfold cutS Lib.cut
  rw [idx_none hn, if_neg (by omega)]
def tyNameB (s : Str) : Bool := nameMay (cutS s).1 && (!(cutS s).2.2 || nameMay (cutS s).2.1)
theorem tyName_hit {s : Str} {k : Int} (k0 : 0 ≤ k) (h : s[k.toNat]? = some 46) (hn : ∀ j : Nat, j < k.toNat → s[j]? ≠ some 46) : tyNameB s = (nameMay (s.take k.toNat) && nameMay (s.drop (k + 1).toNat)) := by
  unfold tyNameB
  rw [cut_hit h hn, show (k + 1).toNat = k.toNat + 1 by omega]; rfl
theorem tyName_none {s : Str} (hn : ∀ j : Nat, j < s.length → s[j]? ≠ some 46) : tyNameB s = nameMay s := by
  unfold tyNameB
  rw [cut_none hn]; simp
theorem carries_5 {ck : Int} {cn : Str} (h : ck = 5) : carriesB ck cn = tyNameB cn := by subst h; rfl
theorem carries_n {ck : Int} {cn : Str} (h : ¬ ck = 5) : carriesB ck cn = (decide (0 ≤ ck) && (decide (ck < 5) && decide (cn = []))) := by
  unfold carriesB
  by_cases h1 : ck < 0 ∨ 5 < ck
  · rw [if_pos h1]
    rcases h1 with h1 | h1
    · rw [show decide (0 ≤ ck) = false from decide_eq_false (by omega)]; rfl
    · rw [show decide (ck < 5) = false from decide_eq_false (by omega)]; simp
  · rw [if_neg h1, if_pos h, show decide (0 ≤ ck) = true from decide_eq_true (by omega), show decide (ck < 5) = true from decide_eq_true (by omega)]; simp
def rPointB (roles : List Str) (n : Int) (x : SPoint) : Bool := emptyP x || (pointM roles x && armsB x.arms n)
def rHead (p : SProto) : Bool := nameMay p.name && (decide ((2 : Int) ≤ p.roles.length) && (decide ((p.roles.length : Int) ≤ 5) && (onceS p.roles && (decide ((1 : Int) ≤ p.points.length) && decide ((p.points.length : Int) ≤ 24)))))
def rProtoB (p : SProto) : Bool := rHead p && (p.roles.all nameMay && p.points.all (rPointB p.roles p.points.length))
theorem u8_of {c : UInt8} (h : (c.toNat : Int) = 46) : c = 46 := by
  apply UInt8.toNat_inj.1
  have : (46 : UInt8).toNat = 46 := rfl
  omega
section
variable {l : List SArm} {n k m : Int} {a b : SArm}
theorem rarms_bad (k0 : 0 ≤ k) (hx : l[k.toNat]? = some a) (h : armB n a = false) (hal : l.all (armB n) = (l.drop k.toNat).all (armB n)) : false = armsB l n := by
  have h1 : l.all (armB n) = false := all_bad k0 hx h hal
  unfold armsB; rw [h1]; simp
theorem rarms_dup (k0 : 0 ≤ k) (m0 : 0 ≤ m) (hm : m < k) (hx : l[k.toNat]? = some a) (hb : l[m.toNat]? = some b) (h : b.label = a.label) : false = armsB l n := by
  have h1 : onceS (l.map (·.label)) = false := by
    unfold onceS
    simp only [decide_eq_false_iff_not]
    intro hn
    have h2 : (l.map (·.label))[k.toNat]? = some a.label := map_at hx
    have h3 : (l.map (·.label))[m.toNat]? = some b.label := map_at hb
    obtain ⟨hi, hi'⟩ := List.getElem?_eq_some_iff.1 h2
    obtain ⟨hj, hj'⟩ := List.getElem?_eq_some_iff.1 h3
    exact List.pairwise_iff_getElem.1 hn m.toNat k.toNat hj hi (by omega) (by rw [hi', hj', h])
  unfold armsB; rw [h1]; simp
theorem rarms_nd (k0 : 0 ≤ k) (hx : l[k.toNat]? = some a) (hnd : ((l.map (·.label)).take k.toNat).Nodup) (hm : k ≤ m) (h : ∀ j : Nat, j < m.toNat → (l.map (·.label))[j]? ≠ some a.label) : ((l.map (·.label)).take (k + 1).toNat).Nodup := by
  refine take_nodup k0 (map_at hx) hnd (fun hm2 => ?_)
  obtain ⟨j, hj⟩ := List.getElem?_of_mem hm2
  have hlt := (List.getElem?_eq_some_iff.1 hj).1
  rw [List.length_take] at hlt
  rw [List.getElem?_take, if_pos (by omega)] at hj
  exact h j (by omega) hj
theorem rarms_end (k0 : 0 ≤ k) (hk : ¬ k < l.length) (hal : l.all (armB n) = (l.drop k.toNat).all (armB n)) (hnd : ((l.map (·.label)).take k.toNat).Nodup) {r : Bool} (hr : r = (decide ((1 : Int) ≤ l.length) && decide ((l.length : Int) ≤ 6))) : r = armsB l n := by
  have h1 : l.all (armB n) = true := all_end k0 hk hal
  rw [List.take_of_length_le (by rw [List.length_map]; omega)] at hnd
  unfold armsB onceS
  rw [h1, hr, decide_eq_true hnd]
  have e1 : decide ((1 : Int) ≤ l.length) = decide (1 ≤ l.length) := decide_eq_decide.2 (by omega)
  have e2 : decide ((l.length : Int) ≤ 6) = decide (l.length ≤ 6) := decide_eq_decide.2 (by omega)
  rw [e1, e2]; simp
end
theorem rpt_1 {r : List Str} {n : Int} {x : SPoint} (h : emptyP x = true) : rPointB r n x = true := by unfold rPointB; rw [h]; rfl
def rPtM (r : List Str) (n : Int) (x : SPoint) : Bool := pointM r x && armsB x.arms n
theorem rpt_2 {r : List Str} {n : Int} {x : SPoint} (h : (!rPtM r n x) = false) : rPointB r n x = true := by unfold rPointB; rw [show (pointM r x && armsB x.arms n) = true from nb_F h, Bool.or_true]
theorem rpt_3 {r : List Str} {n : Int} {x : SPoint} (h1 : emptyP x = false) (h : (!rPtM r n x) = true) : rPointB r n x = false := by unfold rPointB; rw [show (pointM r x && armsB x.arms n) = false from nb_T h, h1]; rfl
theorem rproto_1 {p : SProto} (h : (!rHead p) = true) : false = rProtoB p := by unfold rProtoB; rw [nb_T h]; rfl
theorem rproto_2 {p : SProto} (h1 : p.roles.all nameMay = false) : false = rProtoB p := by unfold rProtoB; rw [h1]; simp
theorem rproto_3 {p : SProto} (h1 : p.points.all (rPointB p.roles p.points.length) = false) : false = rProtoB p := by unfold rProtoB; rw [h1]; simp
theorem rproto_4 {p : SProto} (h : rHead p = true) (h1 : p.roles.all nameMay = true) (h2 : p.points.all (rPointB p.roles p.points.length) = true) : true = rProtoB p := by unfold rProtoB; rw [h, h1, h2]; rfl
structure RPOk (p : SProto) : Prop where
  n1 : 1 ≤ p.points.length
  n24 : p.points.length ≤ 24
  r5 : p.roles.length ≤ 5
  nx : NxOk p
  a6 : ∀ x ∈ p.points, x.arms.length ≤ 6
  rn : ∀ r ∈ p.roles, nameMay r = true
  nm : nameMay p.name = true
  pt : ∀ x ∈ p.points, rPointB p.roles p.points.length x = true
theorem RPOk.of {p : SProto} (h : rProtoB p = true) : RPOk p := by
  unfold rProtoB rHead at h
  simp only [Bool.and_eq_true, decide_eq_true_eq] at h
  obtain ⟨⟨h1, h2, h3, h4, h5, h6⟩, h7, h8⟩ := h
  have hpt : ∀ x ∈ p.points, rPointB p.roles p.points.length x = true := List.all_eq_true.1 h8
  have key : ∀ x ∈ p.points, x.arms = [] ∨ armsB x.arms p.points.length = true := fun x hx => by
    have := hpt x hx
    unfold rPointB emptyP at this
    simp only [Bool.or_eq_true, Bool.and_eq_true, decide_eq_true_eq] at this
    rcases this with ⟨_, _, h⟩ | ⟨_, h⟩
    · exact .inl (List.length_eq_zero_iff.1 (by omega))
    · exact .inr h
  refine ⟨by omega, by omega, by omega, fun x hx a ha => ?_, fun x hx => ?_, List.all_eq_true.1 h7, h1, hpt⟩
  · rcases key x hx with h | h
    · rw [h] at ha; simp at ha
    · unfold armsB at h
      simp only [Bool.and_eq_true] at h
      have := List.all_eq_true.1 h.2.1 a ha
      unfold armB at this
      simp only [Bool.and_eq_true, Bool.not_eq_true', decide_eq_false_iff_not] at this
      omega
  · rcases key x hx with h | h
    · rw [h]; simp
    · unfold armsB at h
      simp only [Bool.and_eq_true, decide_eq_true_eq] at h
      omega
theorem carF_cn {p : SProto} {s : Str} {B : Nat} (hB : ∀ x ∈ p.points, ∀ a ∈ x.arms, a.cn.length ≤ B) : ∀ (l : List Int) (ck : Int) (cn : Str) (to : List Int), cn.length ≤ B → (carF p s ck cn to l).2.1.length ≤ B
  | [], _, _, _, h => h
  | j :: r, ck, cn, to, h => by
    unfold carF
    split
    · exact carF_cn hB r _ _ _ h
    · rename_i x hx
      split
      · exact carF_cn hB r _ _ _ h
      · split
        · exact carF_cn hB r _ _ _ h
        · rename_i a ha
          split
          · exact h
          · exact carF_cn hB r _ _ _ (hB x (List.mem_of_getElem? hx) a (List.mem_of_getElem? ha))
theorem turnA_cn {p : SProto} {role : Str} {set : List Int} {B : Nat} (hB : ∀ x ∈ p.points, ∀ a ∈ x.arms, a.cn.length ≤ B) : ∀ (l : List Str) (sets : List (List Int)) (acc : List SArm), (∀ a ∈ acc, a.cn.length ≤ B) → ∀ a ∈ (turnA p role set l sets acc).1, a.cn.length ≤ B
  | [], _, _, h => h
  | lb :: r, sets, acc, h => by
    unfold turnA
    split
    · simp
    · exact turnA_cn hB r _ _ (all_snoc h (carF_cn hB set 0 [] [] (by simp)))
theorem turnS_cn {p : SProto} {role : Str} {sets : List (List Int)} {set : List Int} {B : Nat} (hB : ∀ x ∈ p.points, ∀ a ∈ x.arms, a.cn.length ≤ B) : ∀ a ∈ (turnS p role sets set).1.2.2, a.cn.length ≤ B := by
  unfold turnS
  split; · simp
  split; · simp
  split; · simp
  split; · simp
  split; · simp
  split; · simp
  exact turnA_cn hB _ _ _ (by simp)
def SetsOk (n : Nat) (sets : List (List Int)) : Prop := ∀ s ∈ sets, (∀ j ∈ s, 0 ≤ j ∧ j < (n : Int)) ∧ s.length ≤ n
theorem lookS_ok {p : SProto} {role : Str} (hN : NxOk p) {sets : List (List Int)} {frm : List Int} (h : SetsOk p.points.length sets) : SetsOk p.points.length (lookS p role sets frm).2.2 := by
  unfold lookS
  split
  · exact h
  · split
    · exact h
    · split
      · exact h
      · refine all_snoc h ⟨fun j hj => spanS_rng hN j (List.mem_filter.1 hj).1, Nat.le_trans (nearS_len _) (spanS_len hN)⟩
theorem turnA_ok {p : SProto} {role : Str} (hN : NxOk p) {set : List Int} : ∀ (l : List Str) (sets : List (List Int)) (acc : List SArm), SetsOk p.points.length sets → SetsOk p.points.length (turnA p role set l sets acc).2.2
  | [], _, _, h => h
  | lb :: r, sets, acc, h => by
    unfold turnA
    split
    · exact lookS_ok hN h
    · exact turnA_ok hN r _ _ (lookS_ok hN h)
theorem turnS_ok {p : SProto} {role : Str} (hN : NxOk p) {set : List Int} {sets : List (List Int)} (h : SetsOk p.points.length sets) : SetsOk p.points.length (turnS p role sets set).2.2 := by
  unfold turnS
  split; · exact h
  split; · exact h
  split; · exact h
  split; · exact h
  split; · exact h
  split; · exact turnA_ok hN _ _ _ h
  exact turnA_ok hN _ _ _ h
abbrev TT := Int × Str × List SArm
def tt (t : STurn) : TT := (t.kind, t.peer, t.arms)
def rolW (p : SProto) (role : Str) : Nat → Nat → List (List Int) → List TT → Int × List TT
  | 0, _, _, acc => (0, acc)
  | f + 1, i, sets, acc => match sets[i]? with
    | none => (0, acc)
    | some s => if (turnS p role sets s).2.1 ≠ 0 then ((turnS p role sets s).2.1, []) else rolW p role f (i + 1) (turnS p role sets s).2.2 (acc ++ [(turnS p role sets s).1])
def roleS (p : SProto) (role : Str) : Int × List TT :=
  if (rProtoB p && hasS p.roles role) = false then (800, [])
  else if (lookS p role [] [0]).2.1 ≠ 0 then ((lookS p role [] [0]).2.1, [])
  else rolW p role 41 0 (lookS p role [] [0]).2.2 []
section
variable {p : SProto} {role : Str} {f i : Nat} {sets : List (List Int)} {acc : List TT} {s : List Int}
theorem rolW_bad (hs : sets[i]? = some s) (h : (turnS p role sets s).2.1 ≠ 0) : rolW p role (f + 1) i sets acc = ((turnS p role sets s).2.1, []) := by
  rw [rolW, hs]; simp only [if_pos h]
theorem rolW_next (hs : sets[i]? = some s) (h : ¬ (turnS p role sets s).2.1 ≠ 0) : rolW p role (f + 1) i sets acc = rolW p role f (i + 1) (turnS p role sets s).2.2 (acc ++ [(turnS p role sets s).1]) := by
  rw [rolW, hs]; simp only [if_neg h]
theorem rolW_end (h : sets.length ≤ i) : rolW p role f i sets acc = (0, acc) := by
  cases f with
  | zero => rfl
  | succ f => rw [rolW, List.getElem?_eq_none h]
end
structure TQ2 where
  k : Int
  h : Hp
  sv : Value
  ob : Blks
  rows : List GRow
  v : Value
  oa : Blks
  ts : List STurn
theorem lookS_ge {p : SProto} {role : Str} {sets : List (List Int)} {frm : List Int} : sets.length ≤ (lookS p role sets frm).2.2.length := by
  unfold lookS
  split; · simp
  split; · simp
  split <;> simp
theorem turnA_ge {p : SProto} {role : Str} {set : List Int} : ∀ (l : List Str) (sets : List (List Int)) (acc : List SArm), sets.length ≤ (turnA p role set l sets acc).2.2.length
  | [], _, _ => Nat.le_refl _
  | lb :: r, sets, acc => by
    unfold turnA
    split
    · exact lookS_ge
    · exact Nat.le_trans lookS_ge (turnA_ge r _ _)
theorem turnS_ge {p : SProto} {role : Str} {set : List Int} {sets : List (List Int)} : sets.length ≤ (turnS p role sets set).2.2.length := by
  unfold turnS
  split; · simp
  split; · simp
  split; · simp
  split; · simp
  split; · simp
  split; · exact turnA_ge _ _ _
  exact turnA_ge _ _ _
theorem perm_as (X : Blks) {a : Nat × List Value} {A B C : Blks} : (X ++ ((a :: (A ++ B)) ++ C)).Perm (X ++ (a :: (A ++ (B ++ C)))) := by
  rw [List.cons_append, List.append_assoc]
def rAllF (p : SProto) : Nat → List Str → Int × Int
  | _, [] => (0, 0)
  | i, r :: rs => if (roleS p r).1 ≠ 0 then ((roleS p r).1, (i : Int)) else rAllF p (i + 1) rs
def allE (p : SProto) : Int × Int := if rProtoB p = false then (800, 0) else rAllF p 0 p.roles
theorem rAllF_bad {p : SProto} {l : List Str} {k i : Nat} {r : Str} (hx : l[k]? = some r) (h : (roleS p r).1 ≠ 0) : rAllF p i (l.drop k) = ((roleS p r).1, (i : Int)) := by
  rw [List.drop_eq_getElem?_toList_append, hx]
  simp only [Option.toList_some, List.singleton_append, rAllF, if_pos h]
theorem rAllF_next {p : SProto} {l : List Str} {k i : Nat} {r : Str} (hx : l[k]? = some r) (h : ¬ (roleS p r).1 ≠ 0) : rAllF p i (l.drop k) = rAllF p (i + 1) (l.drop (k + 1)) := by
  rw [List.drop_eq_getElem?_toList_append, hx]
  simp only [Option.toList_some, List.singleton_append, rAllF, if_neg h]
structure LsOk (H : Hp) (p : SProto) (k : Int) (ls : List SLocal) : Prop where
  len : (ls.length : Int) = k
  at_ : ∀ (i : Nat) (l : SLocal), ls[i]? = some l → ∃ r, p.roles[i]? = some r ∧ l.name = (p.name ++ [46]) ++ r ∧ LocalOk H l ∧ l.turns.map tt = (roleS p r).2
theorem LsOk.le {H H' : Hp} {p : SProto} {k : Int} {ls : List SLocal} (h : LsOk H p k ls) (hl : H.le H') : LsOk H' p k ls := ⟨h.len, fun i l hi => by
  obtain ⟨r, h1, h2, h3, h4⟩ := h.at_ i l hi
  exact ⟨r, h1, h2, h3.le hl, h4⟩⟩
theorem LsOk.snoc {H : Hp} {p : SProto} {k : Int} {ls : List SLocal} {l : SLocal} {r : Str} (h : LsOk H p k ls) (hr : p.roles[k.toNat]? = some r) (h1 : l.name = (p.name ++ [46]) ++ r) (h2 : LocalOk H l) (h3 : l.turns.map tt = (roleS p r).2) : LsOk H p (k + 1) (ls ++ [l]) := by
  have hl := h.len
  refine ⟨by simp; omega, fun i x hi => ?_⟩
  by_cases hlt : i < ls.length
  · rw [List.getElem?_append_left hlt] at hi; exact h.at_ i x hi
  · rw [List.getElem?_append_right (by omega)] at hi
    have h4 : i - ls.length = 0 := by
      have := (List.getElem?_eq_some_iff.1 hi).1
      simp at this; omega
    rw [h4] at hi
    simp at hi; subst hi
    exact ⟨r, by rwa [show i = k.toNat by omega], h1, h2, h3⟩
end Go.Sx
namespace Go.Sx
open Go Go.Proofs
set_option maxHeartbeats 1000000 in
theorem r_MayU_ok {H : Hp} (s : Str) :
  FnS Tryz.prog 51 [gs s] H (.bool (nameMay s)) := by
 refine FnS.enter Tryz.func51 Tryz.ntmps51 rfl rfl (fun w0 => ?_)
 refine zm112 ?_; refine zm166 ?_; refine zm9 ?_
 refine TL.split (s := 7) rfl (fun g7 => ?_) (fun g7 => ?_)
 · exact zq74
 ·
  have q7 := of_decide_eq_false g7
  refine zm8 ?_; refine TL.gdY rfl rfl (pr_lenStr rfl rfl) rfl ?_; refine zm17 ?_
  refine TL.split (s := 12) rfl (fun g12 => ?_) (fun g12 => ?_)
  · exact zq100
  ·
   have q12 := of_decide_eq_false g12
   refine zm8 ?_
   have hlen : (0 : Int) < s.length := by have := of_decide_eq_false g7; omega
   obtain ⟨c0, hc0⟩ := getSome (l := s) (i := 0) (by omega) hlen
   refine zm306 ?_; refine TL.callSY rfl rfl (enters rfl rfl rfl rfl) (r_letter_ok c0) rfl ?_; refine zm17 ?_
   refine TL.split (s := 18) rfl (fun g18 => ?_) (fun g18 => ?_)
   · exact zq86
   ·
    refine zm8 ?_; refine TL.callSY rfl rfl (enters rfl rfl rfl rfl) (r_Keyword_ok s) rfl ?_; refine zm2 ?_
    refine TC.cond rfl (fun c21 => ?_) (fun c21 => ?_)
    · exact zq92
    ·
     have hn := nameMay_T g7 g12 hc0 g18 c21
     have hl12 : (s.length : Int) ≤ 12 := by have := of_decide_eq_false g12; omega
     refine zm12 ?_; refine zm55 ?_
     refine TC.loop (V := fun k => [(3, .int .i64 k)]) (K := [(0, _), (2, _)]) (L := fun k => _) (I := fun k => 1 ≤ k ∧ k ≤ s.length ∧ (s.drop 1).all nameC = (s.drop k.toNat).all nameC) (μ := fun k => (s.length - k).toNat) (i := (1 : Int)) ⟨rfl, rfl, rfl, trivial⟩ ⟨by omega, by omega, rfl⟩ (fun w hw => hw) (fun k hI => ?_)
     refine zm32 ?_; refine zm166 ?_; refine zm2 ?_
     refine TC.condD rfl (fun c25 => ?_) (fun c25 => ?_)
     ·
      refine zm15 ?_
      obtain ⟨c, hc⟩ := getSome (l := s) (i := k) (by omega) c25
      refine zm9 ?_; refine TL.run (pr_strIx rfl rfl (by omega) hc) rfl (TL.callS (enters rfl rfl rfl rfl) (r_letter_ok c) rfl ?_); refine zm9 ?_
      refine TL.split (s := 33) rfl (fun g33 => ?_) (fun g33 => ?_)
      · refine zm23 ?_; exact TL.gdY rfl rfl (pr_strIx rfl rfl (by omega) hc) rfl (TL.callSY rfl rfl (enters rfl rfl rfl rfl) (r_digit_ok c) rfl (zq139))
      · exact zq163
     · exact zq172
set_option maxHeartbeats 1000000 in
theorem r6_typeName_ok {H : Hp} (s : Str) (hs : s.length ≤ 4294960000) :
  FnS Tryz.prog 183 [gs s] H (.bool (tyNameB s)) := by
 refine FnS.enter Tryz.func183 Tryz.ntmps183 rfl rfl (fun w0 => ?_)
 refine zm48 ?_
 refine TC.loop (V := fun k => [(3, .int .i64 k)]) (K := [(0, _), (2, _)]) (L := fun k => _) (I := fun k => (0 ≤ k ∧ k ≤ s.length) ∧ ∀ j : Nat, j < k.toNat → s[j]? ≠ some 46) (μ := fun k => (s.length - k).toNat) (i := (0 : Int)) ⟨rfl, rfl, rfl, trivial⟩ ⟨⟨by omega, by omega⟩, fun j h => absurd h (by omega)⟩ (fun w hw => hw) (fun k hI => ?_)
 obtain ⟨⟨k0, k1⟩, hn⟩ := hI
 refine zm32 ?_; refine zm166 ?_; refine zm2 ?_
 refine TC.condD rfl (fun c7 => ?_) (fun c7 => ?_)
 ·
  obtain ⟨c, hc⟩ := getSome (l := s) k0 c7
  refine zm157 ?_; refine TL.run (pr_strIx rfl rfl (by omega) hc) rfl ?_; refine zm2 ?_
  refine TC.condD rfl (fun c13 => ?_) (fun c13 => ?_)
  ·
   have hcd : s[k.toNat]? = some 46 := by rw [hc]; congr 1; exact u8_of c13
   refine zm24 ?_; refine TL.run (pr_strH rfl rfl (by omega) (by omega)) rfl (TL.callS (enters rfl rfl rfl rfl) (r_MayU_ok (s.take k.toNat)) rfl ?_); refine zm0 ?_
   refine TL.split (s := 18) rfl (fun g18 => ?_) (fun g18 => ?_)
   · refine zm23 ?_; refine zm267 ?_; exact TL.gdY rfl rfl (pr_strL rfl rfl (by omega) (by omega)) rfl (TL.callSY rfl rfl (enters rfl rfl rfl rfl) (r_MayU_ok (s.drop (k + 1).toNat)) rfl (zq1838))
   ·
    refine zm227 ?_
    exact zq1838
  ·
   refine zm56 ?_
   exact TX.round (k + 1) ⟨⟨by omega, by omega⟩, fun j hj => by by_cases e : j < k.toNat; exact hn j e; rw [show j = k.toNat by omega, hc]; intro e2; exact c13 (by cases e2; rfl)⟩ ⟨rfl, rfl, rfl, trivial⟩ (fun w hw => hw) (by omega)
 ·
  refine zm176 ?_; refine TL.callS (enters rfl rfl rfl rfl) (r_MayU_ok s) rfl ?_; refine zm22 ?_
  exact zq1848
set_option maxHeartbeats 1000000 in
theorem r6_CarriesMay_ok {H : Hp} (ck : Int) (cn : Str) (hn : cn.length ≤ 4294960000) :
  FnS Tryz.prog 148 [.agg #[.int .i64 ck, gs cn]] H (.bool (carriesB ck cn)) := by
 refine FnS.enter Tryz.func148 Tryz.ntmps148 rfl rfl (fun w0 => ?_)
 refine zm4 ?_
 refine TL.box rfl rfl (fun b1 => ?_)
 refine zm97 ?_; refine zm2 ?_
 refine TC.condD rfl (fun c5 => ?_) (fun c5 => ?_)
 ·
  refine zm58 ?_; refine TL.callS (enters rfl rfl rfl rfl) (r6_typeName_ok cn hn) rfl ?_; refine zm83 ?_
  exact zq1849
 ·
  refine zm12 ?_; refine zm58 ?_; refine zm9 ?_
  refine TL.split (s := 12) rfl (fun g12 => ?_) (fun g12 => ?_)
  ·
   have q12 := of_decide_eq_true g12
   refine zm130 ?_
   refine TL.split (s := 17) rfl (fun g17 => ?_) (fun g17 => ?_)
   ·
    have q17 := of_decide_eq_true g17
    refine zm13 ?_; refine zm75 ?_
    exact zq1850
   ·
    have q17 := of_decide_eq_false g17
    exact zq1855
  ·
   have q12 := of_decide_eq_false g12
   refine zm46 ?_
   exact zq1855
set_option maxHeartbeats 4000000 in
theorem r6_ArmsMay_ok {H : Hp} {l : List SArm} {v : Value} (n : Int) (hA : RdSl H 4 SArm.cells v l) (hz : ∀ a ∈ l, a.cn.length ≤ 4294960000) :
  FnS Tryz.prog 98 [v, .int .i64 n] H (.bool (armsB l n)) := by
 have hmax := hA.max
 refine FnS.enter Tryz.func98 Tryz.ntmps98 rfl rfl (fun w0 => ?_)
 refine zm48 ?_
 refine TC.loop (V := fun k => [(5, .int .i64 k)]) (K := [(0, _), (1, _), (4, _)]) (L := fun k => _) (I := fun k => (0 ≤ k ∧ k ≤ l.length) ∧ l.all (armB n) = (l.drop k.toNat).all (armB n) ∧ ((l.map (·.label)).take k.toNat).Nodup) (μ := fun k => (l.length - k).toNat) (i := (0 : Int)) ⟨rfl, rfl, rfl, rfl, trivial⟩ ⟨⟨by omega, by omega⟩, rfl, List.nodup_nil⟩ (fun w hw => hw) (fun k hI => ?_)
 obtain ⟨⟨k0, k1⟩, hal, hnd⟩ := hI
 refine zm32 ?_; refine TL.run (pr_lenSl rfl rfl hA) rfl ?_; refine zm2 ?_
 refine TC.condD rfl (fun c10 => ?_) (fun c10 => ?_)
 ·
  obtain ⟨a, hx⟩ := getSome (l := l) k0 c10
  refine zm164 ?_; refine TC.seq (TC.sw (!armB n a) 45 [(0, _), (1, _), (4, _), (5, _), (7, _), (8, _), (9, _), (10, _)] ⟨rfl, rfl, rfl, rfl, rfl, rfl, rfl, rfl, trivial⟩ ?_ ?_)
  ·
   refine zm121 ?_; refine TL.run (pr_indexSl rfl hA rfl (by omega) (by omega)) rfl ?_; refine zm6 ?_; refine TL.run (pr_el1 hA hx rfl rfl) rfl (TL.callS (enters rfl rfl rfl rfl) (r_MayU_ok a.label) rfl ?_); refine zm9 ?_
   refine TL.split (s := 20) rfl (fun g20 => ?_) (fun g20 => ?_)
   ·
    refine zm44 ?_; refine zm46 ?_
    exact zq1858
   ·
    refine zm23 ?_; refine zm342 ?_; refine zm43 ?_; refine TL.gdY rfl rfl (pr_elQ hA hx rfl rfl) rfl (TL.callSY rfl rfl (enters rfl rfl rfl rfl) (r6_CarriesMay_ok a.ck a.cn (hz a (List.mem_of_getElem? hx))) rfl ?_); refine zm17 ?_
    refine TL.split (s := 29) rfl (fun g29 => ?_) (fun g29 => ?_)
    · exact zq1858
    ·
     refine zm23 ?_; refine zm342 ?_; refine zm43 ?_; refine TL.gdY rfl rfl (pr_el1 hA hx rfl rfl) rfl ?_; refine zm17 ?_
     refine TL.split (s := 37) rfl (fun g37 => ?_) (fun g37 => ?_)
     ·
      have q37 := of_decide_eq_true g37
      exact zq1866
     ·
      have q37 := of_decide_eq_false g37
      refine zm23 ?_; refine zm342 ?_; refine zm43 ?_; refine TL.gdY rfl rfl (pr_el1 hA hx rfl rfl) rfl ?_; refine zm23 ?_
      exact zq1873
  refine TC.cond rfl (fun c45 => ?_) (fun c45 => ?_)
  ·
   refine zm171 ?_; refine zm50 ?_
   exact TX.finS (.inr rfl) (results1 rfl (RVal.tmp rfl)) (congrArg Value.bool (rarms_bad k0 hx (by simpa using c45) hal))
  ·
   have ha : armB n a = true := by simpa using c45
   refine zm12 ?_; refine zm94 ?_
   refine TC.loop (V := fun m => [(6, .int .i64 m)]) (K := [(0, _), (1, _), (4, _), (5, _), (7, _), (8, _), (9, _), (10, _), (45, _)]) (L := fun m => _) (I := fun m => 0 ≤ m ∧ m ≤ k ∧ ∀ j : Nat, j < m.toNat → (l.map (·.label))[j]? ≠ some a.label) (μ := fun m => (k - m).toNat) (i := (0 : Int)) ⟨rfl, rfl, rfl, rfl, rfl, rfl, rfl, rfl, rfl, rfl, trivial⟩ ⟨by omega, by omega, fun j h => absurd h (by omega)⟩ (fun w hw => hw) (fun m hI => ?_)
   obtain ⟨m0, m1, hI2⟩ := hI
   refine zm133 ?_
   refine TC.condD rfl (fun c48 => ?_) (fun c48 => ?_)
   ·
    obtain ⟨b, hb⟩ := getSome (l := l) m0 (by omega)
    refine zm109 ?_; refine zm78 ?_; refine TQ.run (pr_indexSl rfl hA rfl (by omega) (by omega)) rfl ?_; refine zm110 ?_; refine TQ.run (pr_el1 hA hb rfl rfl) rfl ?_; refine zm78 ?_
    refine TQ.run (pr_indexSl rfl hA rfl (by omega) (by omega)) rfl ?_; refine zm110 ?_; refine TQ.run (pr_el1 hA hx rfl rfl) rfl (TQ.run (pr_str rfl rfl rfl) rfl (TQ.nil (TX.seqN ?_)))
    refine TC.condD rfl (fun c61 => ?_) (fun c61 => ?_)
    ·
     refine zm57 ?_; refine zm148 ?_
     exact TX.finS (.inr rfl) (results1 rfl (RVal.tmp rfl)) (congrArg Value.bool (rarms_dup k0 m0 c48 hx hb c61))
    ·
     refine zm56 ?_
     exact TX.round (m + 1) ⟨by omega, by omega, fun j hj => by by_cases e : j < m.toNat; exact hI2 j e; rw [show j = m.toNat by omega, map_at hb]; intro e2; exact c61 (by simpa using e2)⟩ ⟨rfl, rfl, rfl, rfl, rfl, rfl, rfl, rfl, rfl, rfl, trivial⟩ (fun w hw => hw) (by omega)
   ·
    refine zm163 ?_
    exact TX.round (k + 1) ⟨⟨by omega, by omega⟩, all_next (p := armB n) k0 hx ha hal, rarms_nd k0 hx hnd (by omega) hI2⟩ ⟨rfl, rfl, rfl, rfl, trivial⟩ (fun w hw => hw) (by omega)
 ·
  refine zm176 ?_; refine TL.run (pr_lenSl rfl rfl hA) rfl ?_; refine zm9 ?_
  refine TL.split (s := 65) rfl (fun g65 => ?_) (fun g65 => ?_)
  ·
   have q65 := of_decide_eq_true g65
   refine zm8 ?_; refine TL.gdY rfl rfl (pr_lenSl rfl rfl hA) rfl ?_; refine zm8 ?_
   exact zq1876
  ·
   have q65 := of_decide_eq_false g65
   refine zm82 ?_
   exact zq1876
end Go.Sx
namespace Go.Sx
open Go Go.Proofs
set_option maxHeartbeats 1000000 in
theorem r_Place_ok {H : Hp} {l : List Str} {v : Value} (s : Str) (hL : RdSl H 1 Str.cells v l) :
  FnS Tryz.prog 147 [v, gs s] H (.int .i64 (placeS l s)) := by
 have hmax := hL.max
 refine FnS.enter Tryz.func147 Tryz.ntmps147 rfl rfl (fun w0 => ?_)
 refine zm48 ?_
 refine TC.loop (V := fun k => [(5, .int .i64 k)]) (K := [(0, _), (1, _), (4, _)]) (L := fun k => _) (I := fun k => 0 ≤ k ∧ k ≤ l.length ∧ ∀ j : Nat, j < k.toNat → l[j]? ≠ some s) (μ := fun k => (l.length - k).toNat) (i := (0 : Int)) ⟨rfl, rfl, rfl, rfl, trivial⟩ ⟨by omega, by omega, fun j hj => absurd hj (by simp)⟩ (fun w hw => hw) (fun k hI => ?_)
 refine zm161 ?_; refine zm2 ?_
 refine TC.condD rfl (fun c9 => ?_) (fun c9 => ?_)
 ·
  obtain ⟨x, hx⟩ := getSome (l := l) hI.1 c9
  refine zm157 ?_; refine zm115 ?_; refine TL.run (pr_el0 hL hx rfl rfl) rfl ?_; refine zm216 ?_
  refine TC.condD rfl (fun c17 => ?_) (fun c17 => ?_)
  ·
   refine zm217 ?_
   exact zq1880
  ·
   refine zm56 ?_
   exact TX.round (k + 1) ⟨by omega, by omega, place_next hI.1 hI.2.2 hx c17⟩ ⟨rfl, rfl, rfl, rfl, trivial⟩ (fun w hw => hw) (by omega)
 ·
  refine zm65 ?_
  exact zq1880
set_option maxHeartbeats 1000000 in
theorem r_Has_ok {H : Hp} {l : List Str} {v : Value} (s : Str) (hL : RdSl H 1 Str.cells v l) :
  FnS Tryz.prog 97 [v, gs s] H (.bool (hasS l s)) := by
 refine FnS.enter Tryz.func97 Tryz.ntmps97 rfl rfl (fun w0 => ?_)
 refine zm173 ?_; exact TL.callS (enters rfl rfl rfl rfl) (r_Place_ok s hL) rfl (zq342)
set_option maxHeartbeats 1000000 in
theorem r_Once_ok {H : Hp} {l : List Str} {v : Value} (hL : RdSl H 1 Str.cells v l) :
  FnS Tryz.prog 96 [v] H (.bool (onceS l)) := by
 have hmax := hL.max
 obtain ⟨la, lc, rfl⟩ := hL.len
 have hroom := hL.room _ _ _ rfl
 refine FnS.enter Tryz.func96 Tryz.ntmps96 rfl rfl (fun w0 => ?_)
 refine zm48 ?_
 refine TC.loop (V := fun k => [(3, .int .i64 k)]) (K := [(0, _), (2, _)]) (L := fun k => _) (I := fun k => 0 ≤ k ∧ k ≤ l.length ∧ (l.take k.toNat).Nodup) (μ := fun k => (l.length - k).toNat) (i := (0 : Int)) ⟨rfl, rfl, rfl, trivial⟩ ⟨by omega, by omega, List.nodup_nil⟩ (fun w hw => hw) (fun k hI => ?_)
 refine zm161 ?_; refine zm2 ?_
 refine TC.condD rfl (fun c7 => ?_) (fun c7 => ?_)
 ·
  obtain ⟨x, hx⟩ := getSome (l := l) hI.1 c7
  refine zm109 ?_; refine zm78 ?_; refine TQ.run (pr_sliceH rfl rfl (by omega) (by omega)) rfl ?_; refine zm78 ?_
  refine TQ.run (pr_indexSl rfl hL rfl (by omega) (by omega)) rfl (TQ.run (pr_el0 hL hx rfl rfl) rfl (TQ.callS (enters rfl rfl rfl rfl) (r_Has_ok x (hL.sliced (i := 0) (j := k.toNat) (by omega) (by omega))) rfl (TQ.nil ?_)))
  refine TX.seqN (TC.cond rfl (fun c17 => ?_) (fun c17 => ?_))
  ·
   refine zm57 ?_; refine zm50 ?_
   exact TX.finS (.inr rfl) (results1 rfl (RVal.tmp rfl)) (congrArg Value.bool (by first | exact (once_end c7 hI.1 hI.2.2).symm | exact (once_has hI.1 hx c17).symm))
  ·
   refine zm56 ?_
   exact TX.round (k + 1) ⟨by omega, by omega, take_nodup hI.1 hx hI.2.2 (has_not c17)⟩ ⟨rfl, rfl, rfl, trivial⟩ (fun w hw => hw) (by omega)
 ·
  refine zm65 ?_
  exact TX.finS (.inr rfl) (results1 rfl (RVal.tmp rfl)) (congrArg Value.bool (by first | exact (once_end c7 hI.1 hI.2.2).symm | exact (once_has hI.1 hx c17).symm))
end Go.Sx
namespace Go.Sx
open Go Go.Proofs
set_option maxHeartbeats 4000000 in
theorem r6_ProtocolMay_ok {H : Hp} (p : SProto) (hP : ProtoOk H p) :
  FnS Tryz.prog 49 [.agg p.cells.toArray] H (.bool (rProtoB p)) := by
 have hr := hP.r
 have hpt := hP.pt
 have hrm := hr.max
 have hpm := hpt.max
 refine FnS.enter Tryz.func49 Tryz.ntmps49 rfl rfl (fun w0 => ?_)
 refine zm4 ?_
 refine TL.box rfl rfl (fun b1 => ?_)
 refine zm2 ?_; refine TC.seq (TC.sw (!rHead p) 39 [(1, _), (2, _)] ⟨rfl, rfl, trivial⟩ ?_ ?_)
 ·
  refine zm86 ?_; refine TL.callS (enters rfl rfl rfl rfl) (r_MayU_ok p.name) rfl ?_; refine zm9 ?_
  refine TL.split (s := 10) rfl (fun g10 => ?_) (fun g10 => ?_)
  ·
   refine zm119 ?_
   exact zq1881
  ·
   refine zm13 ?_; refine zm286 ?_; refine zm17 ?_
   refine TL.split (s := 16) rfl (fun g16 => ?_) (fun g16 => ?_)
   ·
    have q16 := of_decide_eq_true g16
    exact zq1881
   ·
    have q16 := of_decide_eq_false g16
    refine zm13 ?_; refine zm286 ?_; refine zm17 ?_
    refine TL.split (s := 22) rfl (fun g22 => ?_) (fun g22 => ?_)
    ·
     have q22 := of_decide_eq_true g22
     exact zq1887
    ·
     have q22 := of_decide_eq_false g22
     refine zm13 ?_; refine TL.callSY rfl rfl (enters rfl rfl rfl rfl) (r_Once_ok hr) rfl ?_; refine zm17 ?_
     refine TL.split (s := 28) rfl (fun g28 => ?_) (fun g28 => ?_)
     · exact zq1893
     ·
      refine zm13 ?_; refine zm287 ?_; refine zm17 ?_
      refine TL.split (s := 34) rfl (fun g34 => ?_) (fun g34 => ?_)
      ·
       have q34 := of_decide_eq_true g34
       exact zq1899
      ·
       have q34 := of_decide_eq_false g34
       refine zm13 ?_; refine zm287 ?_; refine zm8 ?_
       exact zq1903
 refine TC.cond rfl (fun c39 => ?_) (fun c39 => ?_)
 ·
  refine zm57 ?_
  exact zq1906
 ·
  have hh : rHead p = true := by simpa using c39
  refine zm12 ?_; refine zm55 ?_
  refine TC.loop (V := fun k => [(3, .int .i64 k)]) (K := [(1, _), (2, _)]) (L := fun k => _) (I := fun k => (0 ≤ k ∧ k ≤ p.roles.length) ∧ p.roles.all nameMay = (p.roles.drop k.toNat).all nameMay) (μ := fun k => (p.roles.length - k).toNat) (i := (0 : Int)) ⟨rfl, rfl, rfl, trivial⟩ ⟨⟨by omega, by omega⟩, rfl⟩ (fun w hw => hw) (fun k hI => ?_)
  obtain ⟨⟨k0, k1⟩, hal⟩ := hI
  refine zm93 ?_; refine TL.run (pr_lenSl rfl rfl hr) rfl ?_; refine zm2 ?_
  refine TC.condD rfl (fun c44 => ?_) (fun c44 => ?_)
  ·
   obtain ⟨y, hy⟩ := getSome (l := p.roles) k0 c44
   refine zm15 ?_; refine zm200 ?_; refine zm275 ?_; refine TL.run (pr_el0 hr hy rfl rfl) rfl (TL.callS (enters rfl rfl rfl rfl) (r_MayU_ok y) rfl ?_); refine zm2 ?_
   refine TC.cond rfl (fun c53 => ?_) (fun c53 => ?_)
   ·
    have hr1 := all_bad (p := nameMay) k0 hy (by simpa using c53) hal
    exact zq1908
   ·
    refine zm56 ?_
    exact TX.round (k + 1) ⟨⟨by omega, by omega⟩, all_next (p := nameMay) k0 hy (by simpa using c53) hal⟩ ⟨rfl, rfl, rfl, trivial⟩ (fun w hw => hw) (by omega)
  ·
   have hr1 := all_end (p := nameMay) k0 c44 hal
   refine zm38 ?_; refine zm55 ?_
   refine TC.loop (V := fun k => [(4, .int .i64 k)]) (K := [(1, _), (2, _)]) (L := fun k => _) (I := fun k => (0 ≤ k ∧ k ≤ p.points.length) ∧ p.points.all (rPointB p.roles p.points.length) = (p.points.drop k.toNat).all (rPointB p.roles p.points.length)) (μ := fun k => (p.points.length - k).toNat) (i := (0 : Int)) ⟨rfl, rfl, rfl, trivial⟩ ⟨⟨by omega, by omega⟩, rfl⟩ (fun w hw => hw) (fun k hI => ?_)
   obtain ⟨⟨k0, k1⟩, hal⟩ := hI
   refine zm93 ?_; refine TL.run (pr_lenSl rfl rfl hpt) rfl ?_; refine zm2 ?_
   refine TC.condD rfl (fun c58 => ?_) (fun c58 => ?_)
   ·
    obtain ⟨x, hx⟩ := getSome (l := p.points) k0 c58
    have hxa := (hP.ps x (List.mem_of_getElem? hx)).a
    have hxz := (hP.ps x (List.mem_of_getElem? hx)).z
    have hxm := hxa.max
    refine zm15 ?_; refine zm200 ?_; refine zm315 ?_; refine TL.run (pr_elA hpt hx rfl rfl) rfl (TL.alloc rfl (fun b5 => ?_))
    refine zm175 ?_
    refine TC.sw (emptyP x) 79 [(1, _), (2, _), (4, _), (5, _), (54, _), (55, _), (56, _), (57, _), (58, _), (61, _), (62, _), (63, _), (64, _), (65, _)] ⟨rfl, rfl, rfl, rfl, rfl, rfl, rfl, rfl, rfl, rfl, rfl, rfl, rfl, rfl, trivial⟩ ?_ ?_
    ·
     refine zm221 ?_
     refine TL.split (s := 69) rfl (fun g69 => ?_) (fun g69 => ?_)
     ·
      have q69 := of_decide_eq_true g69
      refine zm131 ?_
      refine TL.split (s := 74) rfl (fun g74 => ?_) (fun g74 => ?_)
      ·
       have q74 := of_decide_eq_true g74
       refine zm13 ?_; refine TL.gdY rfl rfl (pr_lenSl rfl rfl hxa) rfl ?_; refine zm8 ?_
       exact zq1918
      ·
       have q74 := of_decide_eq_false g74
       exact zq1921
     ·
      have q69 := of_decide_eq_false g69
      refine zm46 ?_
      exact zq1921
    refine TC.cond rfl (fun c79 => ?_) (fun c79 => ?_)
    · exact TC.exit (TX.thenE (TX.blkHit (zq1925)))
    ·
     refine zm12 ?_
     refine TC.sw (!rPtM p.roles p.points.length x) 109 [(1, _), (2, _), (4, _), (5, _), (54, _), (55, _), (56, _), (57, _), (58, _), (61, _), (62, _), (63, _), (64, _), (65, _), (79, _)] ⟨rfl, rfl, rfl, rfl, rfl, rfl, rfl, rfl, rfl, rfl, rfl, rfl, rfl, rfl, rfl, trivial⟩ ?_ ?_
     ·
      refine zm86 ?_; refine zm51 ?_; refine zm232 ?_
      refine TL.split (s := 85) rfl (fun g85 => ?_) (fun g85 => ?_)
      ·
       have q85 := of_decide_eq_true g85
       refine zm44 ?_; refine zm168 ?_
       exact zq1932
      ·
       have q85 := of_decide_eq_false g85
       refine zm36 ?_; refine zm13 ?_; refine TL.callSY rfl rfl (enters rfl rfl rfl rfl) (r_Has_ok x.frm hr) rfl ?_; refine zm17 ?_
       refine TL.split (s := 93) rfl (fun g93 => ?_) (fun g93 => ?_)
       · exact zq1932
       ·
        refine zm36 ?_; refine zm13 ?_; refine TL.callSY rfl rfl (enters rfl rfl rfl rfl) (r_Has_ok x.to hr) rfl ?_; refine zm17 ?_
        refine TL.split (s := 101) rfl (fun g101 => ?_) (fun g101 => ?_)
        · exact zq1940
        ·
         refine zm13 ?_; refine zm36 ?_; refine zm287 ?_; refine TL.callSY rfl rfl (enters rfl rfl rfl rfl) (r6_ArmsMay_ok p.points.length hxa hxz) rfl ?_; refine zm8 ?_
         exact zq1947
     refine TC.cond rfl (fun c109 => ?_) (fun c109 => ?_)
     ·
      have hp1 := all_bad (p := (rPointB p.roles p.points.length)) k0 hx (rpt_3 c79 c109) hal
      exact zq1908
     · exact TC.skip (TX.blkN (zq1925))
   ·
    have hp1 := all_end (p := (rPointB p.roles p.points.length)) k0 c58 hal
    refine zm65 ?_
    exact zq1907
end Go.Sx
namespace Go.Sx
open Go Go.Proofs
set_option maxHeartbeats 16000000 in
theorem role_ok {H : Hp} (p : SProto) (role : Str) (hp : ProtoOk H p) (hnm : p.name.length ≤ 1000) (hrl : role.length ≤ 1000) {B : Nat} (hB : ∀ x ∈ p.points, ∀ a ∈ x.arms, a.cn.length ≤ B) (hB2 : B ≤ 4294960000) :
  Fn Tryz.prog 67 [.agg p.cells.toArray, gs role] H (fun v H1 => ∃ nm ts tp, v = .tuple #[.agg (SLocal.cells ⟨nm, ts, tp⟩).toArray, .int .i64 (roleS p role).1] ∧ ((roleS p role).1 = 0 → nm = (p.name ++ [46]) ++ role ∧ LocalOk H1 ⟨nm, ts, tp⟩ ∧ ts.map tt = (roleS p role).2)) := by
 refine Fn.enter Tryz.func67 Tryz.ntmps67 rfl rfl (fun w0 => ?_)
 refine zm4 ?_
 refine TL.box rfl rfl (fun b2 => ?_)
 refine TL.alloc rfl (fun b4 => ?_)
 refine zm59 ?_; refine zm70 ?_; refine TL.callS (enters rfl rfl rfl rfl) (r6_ProtocolMay_ok p hp) rfl ?_; refine zm9 ?_
 refine TL.split (s := 16) rfl (fun g16 => ?_) (fun g16 => ?_)
 ·
  refine zm227 ?_; refine zm174 ?_
  exact zq1950
 ·
  refine zm36 ?_; refine zm8 ?_; refine TL.callSY rfl rfl (enters rfl rfl rfl rfl) (r_Has_ok role hp.r) rfl ?_; refine zm35 ?_
  refine TC.cond rfl (fun c22 => ?_) (fun c22 => ?_)
  · exact zq1950
  ·
   have hrh : (rProtoB p && hasS p.roles role) = true := by simp_all
   have hRP := RPOk.of (p := p) (by simp_all)
   refine zm69 ?_; refine zm70 ?_; refine zm0 ?_; refine zm14 ?_
   refine TL.box rfl rfl (fun b27 => ?_)
   refine zm37 ?_; refine zm126 ?_; refine zm126 ?_
   obtain ⟨bw, hbw⟩ : ∃ bw, bw = b27 := ⟨_, rfl⟩
   subst hbw
   refine TX.seqN ?_; refine zm30 ?_
   refine TL.bslice rfl rfl rfl rfl (fun b30 => ?_)
   refine TL.pub (by simp) (fun H_b30 le_b30 rd_b30 => ?_)
   have hA30 : RdSl H_b30 1 I64.cells (.slice (some ⟨b30, 0, none⟩) 1 1) [0] := RdSl.blk (l := [0]) (enc := I64.cells) rd_b30 (by intro x hx; rfl) rfl (by show 1 ≤ 9223372036854775807; decide)
   replace hp := hp.le le_b30
   refine TL.callXM (X := [(b4, _), (b2, _)]) (A := (bw, _) :: []) (Y := []) rfl (enters rfl rfl rfl rfl) (look_ok role hp hRP.nx (by have := hRP.n24; omega) (OwnSl.nil (enc := GRow.cells)) (rows := []) (by intro r hr; simp at hr) (by simp) hA30 (by simp)) rfl (fun v31 H31 A31 hle31 hp31 => ?_)
   obtain ⟨sv31, ob31, rows31, rfl, hO31, hrw31, hrl31, hm31, rfl⟩ := hp31
   replace hp := hp.le hle31
   rw [List.append_nil]
   have hm31' : rows31.map (·.l) = (lookS p role [] [0]).2.2 := hm31
   refine zm139 ?_; refine zm123 ?_
   refine TC.condND rfl (fun c35 => ?_) (fun c35 => ?_)
   ·
    have c35b : (lookS p role [] [0]).2.1 ≠ 0 := c35
    refine zm147 ?_; refine zm0 ?_; refine zm39 ?_; refine zm83 ?_
    have hE : (roleS p role).1 = (lookS p role [] [0]).2.1 := by unfold roleS; rw [if_neg (by rw [hrh]; decide), if_pos c35b]
    exact TX.fin0 (.inr rfl) (results2 rfl (RVal.cellA rfl (.here _) rfl) (RVal.tmp rfl)) ⟨[], [], (none, 0), by rw [hE]; rfl, fun h => absurd (hE.symm.trans h) (c35b)⟩
   ·
    have h35 : ¬ (lookS p role [] [0]).2.1 ≠ 0 := by simpa using c35
    refine zm69 ?_; refine zm20 ?_; refine zm398 ?_; refine zm0 ?_; refine zm398 ?_; refine zm14 ?_
    refine TL.alloc rfl (fun b9 => ?_)
    refine zm26 ?_; refine zm55 ?_
    have hlk := lookS_ok (p := p) (role := role) hRP.nx (sets := []) (frm := [0]) (by intro s hs; simp at hs)
    refine TC.loop (ι := TQ2) (V := fun q => [(10, .int .i64 q.k)]) (K := [(4, _), (5, _), (6, _), (9, _)]) (L := fun q => St [] w0 H q.h ((b9, [gs ((p.name ++ [46]) ++ role), q.v]) :: (b4, [gs [], .slice none 0 0]) :: (b2, p.cells) :: (bw, WK p role q.sv) :: (q.ob ++ q.oa))) (I := fun q => (0 ≤ q.k ∧ q.k ≤ q.rows.length) ∧ H31.le q.h ∧ OwnSl 1 GRow.cells q.sv q.rows q.ob ∧ GRowsOk q.h q.rows ∧ q.rows.length ≤ 40 ∧ OwnSl 3 STurn.cells q.v q.ts q.oa ∧ rolW p role (41 - q.k.toNat) q.k.toNat (q.rows.map (·.l)) (q.ts.map tt) = rolW p role 41 0 (rows31.map (·.l)) [] ∧ SetsOk p.points.length (q.rows.map (·.l)) ∧ (∀ t ∈ q.ts, TurnOk q.h t) ∧ (q.ts.length : Int) = q.k) (μ := fun q => (41 - q.k).toNat) (i := ⟨0, H31, _, ob31, rows31, .slice none 0 0, [], []⟩) ⟨rfl, rfl, rfl, rfl, rfl, trivial⟩ ⟨⟨by show (0 : Int) ≤ 0; omega, by show (0 : Int) ≤ _; omega⟩, .refl _, hO31, hrw31, hrl31, OwnSl.nil, rfl, by rw [hm31']; exact hlk, by simp, rfl⟩ (fun w hw => by rw [List.append_nil]; exact hw) (fun q hI => ?_)
    obtain ⟨⟨k0, k1⟩, hq2, hq3, hq4, hq5, hq6, hq7, hSO, hq9, hq10⟩ := hI
    rw [hm31'] at hq7
    have hp2 := hp.le hq2
    obtain ⟨va, vc, hv⟩ := hq6.form
    refine zm32 ?_; refine zm73 ?_; refine zm91 ?_; refine TL.run (pr_lenO rfl rfl hq3) rfl ?_; refine zm2 ?_
    refine TC.condD rfl (fun c50 => ?_) (fun c50 => ?_)
    ·
     obtain ⟨r, hrx⟩ := getSome (l := q.rows) k0 c50
     have hs : (q.rows.map (·.l))[q.k.toNat]? = some r.l := by rw [List.getElem?_map, hrx]; rfl
     have hsr := hSO _ (List.mem_of_getElem? hs)
     have hsl : r.l.length ≤ 1000 := by have := hRP.n24; have := hsr.2; omega
     refine zm157 ?_; refine zm73 ?_; refine zm91 ?_; refine zm0 ?_
     refine TL.run (pr_indexO rfl rfl hq3 (by omega) (by omega)) rfl (TL.run (pr_ldO1 (j := 0) rfl hq3 (.skip _ (.skip _ (.skip _ (.skip _ (.app _))))) hrx rfl) rfl (TL.callXM (X := [(b9, _), (b4, _), (b2, _)]) (A := (bw, _) :: q.ob) rfl (enters rfl rfl rfl rfl) (turn_ok role hp2 hRP.nx (by have := hRP.n24; omega) hq3 hq4 hq5 hRP.a6 (hq4 r (List.mem_of_getElem? hrx)) hsr.1 hsl) rfl (fun v62 H62 A62 hle62 hp62 => ?_)))
     obtain ⟨sv62, ob62, rows62, av62, oa62, rfl, hO62, hrw62, hrl62, hm62, hA62, rfl⟩ := hp62
     obtain ⟨aa62, ac62, rfl⟩ := hA62.form
     refine zm9 ?_; refine zm0 ?_
     refine TL.alloc rfl (fun b11 => ?_)
     refine zm39 ?_; refine zm123 ?_
     refine TC.condND rfl (fun c66 => ?_) (fun c66 => ?_)
     ·
      refine zm147 ?_; refine zm0 ?_; refine zm321 ?_; refine zm83 ?_; refine zm50 ?_
      have hE : (roleS p role).1 = (turnS p role (q.rows.map (·.l)) r.l).2.1 := by unfold roleS; rw [if_neg (by rw [hrh]; decide), if_neg h35, ← hq7, show 41 - q.k.toNat = (40 - q.k.toNat) + 1 by omega, rolW_bad hs c66]
      exact TX.fin0 (.inr rfl) (results2 rfl (RVal.cellA rfl (.there _ (.there _ (.here _))) rfl) (RVal.tmp rfl)) ⟨[], [], (none, 0), by rw [hE]; rfl, fun h => absurd (hE.symm.trans h) (c66)⟩
     ·
      refine TC.permL (perm_as [(b11, _), (b9, _), (b4, _), (b2, _)]) (TC.pubO hA62 (.skip _ (.skip _ (.skip _ (.skip _ (.skip _ ((.past _ (.app _)))))))) (by simp) (fun HP62 leP62 hT62 => ?_))
      rw [List.nil_append]
      replace hrw62 := hrw62.le leP62
      have hTk : TurnOk HP62 ⟨(turnS p role (q.rows.map (·.l)) r.l).1.1, (turnS p role (q.rows.map (·.l)) r.l).1.2.1, (turnS p role (q.rows.map (·.l)) r.l).1.2.2, (aa62, ac62)⟩ := ⟨hT62, fun a ha => Nat.le_trans (turnS_cn hB a ha) hB2⟩
      have hge : q.rows.length ≤ rows62.length := by have h1 := congrArg List.length hm62; rw [List.length_map] at h1; rw [h1]; have h2 := turnS_ge (p := p) (role := role) (set := r.l) (sets := q.rows.map (·.l)); rwa [List.length_map] at h2
      refine zm12 ?_; refine zm146 ?_; refine zm19 ?_
      refine TL.bslice rfl rfl rfl rfl (fun b72 => ?_)
      refine TL.append (enc := STurn.cells) rfl rfl rfl hq6 (Src.own [⟨(turnS p role (q.rows.map (·.l)) r.l).1.1, (turnS p role (q.rows.map (·.l)) r.l).1.2.1, (turnS p role (q.rows.map (·.l)) r.l).1.2.2, (aa62, ac62)⟩] (.here _) rfl rfl) (by simp only [List.length_cons, List.length_nil]; omega) rfl (.skip _ (.skip _ (.skip _ (.skip _ (.skip _ (.skip _ (.past _ .all))))))) rfl (fun a73 c73 ob73 hO73 => ?_)
      refine zm240 ?_; refine zm257 ?_
      exact TX.round (⟨q.k + 1, HP62, sv62, ob62, rows62, _, ob73, q.ts ++ [⟨(turnS p role (q.rows.map (·.l)) r.l).1.1, (turnS p role (q.rows.map (·.l)) r.l).1.2.1, (turnS p role (q.rows.map (·.l)) r.l).1.2.2, (aa62, ac62)⟩]⟩ : TQ2) ⟨⟨by show 0 ≤ q.k + 1; omega, by show q.k + 1 ≤ (rows62.length : Int); omega⟩, hq2.trans (hle62.trans leP62), hO62, hrw62, hrl62, hO73, by show rolW p role (41 - (q.k + 1).toNat) (q.k + 1).toNat (rows62.map (·.l)) _ = _; rw [hm31', ← hq7, show 41 - q.k.toNat = (41 - (q.k + 1).toNat) + 1 by omega, rolW_next hs (by simpa using c66), hm62, show (q.k + 1).toNat = q.k.toNat + 1 by omega, List.map_append]; rfl, by show SetsOk _ (rows62.map (·.l)); rw [hm62]; exact turnS_ok hRP.nx hSO, all_snoc (fun t ht => (hq9 t ht).le (hle62.trans leP62)) hTk, by show _ = q.k + 1; simp only [List.length_append, List.length_cons, List.length_nil]; omega⟩ ⟨rfl, rfl, rfl, rfl, rfl, trivial⟩ (fun w hw => hw.drop.drop) (by show (41 - (q.k + 1)).toNat < (41 - q.k).toNat; omega)
    ·
     refine zm84 ?_
     rw [hv] at hq6 ⊢
     refine zm19 ?_; refine zm128 ?_; refine zm22 ?_
     have hE : roleS p role = (0, q.ts.map tt) := by unfold roleS; rw [if_neg (by rw [hrh]; decide), if_neg h35, ← hq7, rolW_end (by rw [List.length_map]; omega)]
     refine TX.pubO hq6 (.skip _ (.skip _ (.skip _ (.skip _ (.past _ .all))))) (by simp) (fun H2 hle2 hR => ?_)
     exact TX.fin0 (.inr rfl) (results2 rfl (RVal.cellA rfl (.there _ (.here _)) rfl) (RVal.tmp rfl)) ⟨_, q.ts, (va, vc), by rw [hE]; rfl, fun _ => ⟨rfl, ⟨hR, fun t ht => (hq9 t ht).le hle2⟩, by rw [hE]⟩⟩
end Go.Sx
namespace Go.Sx
open Go Go.Proofs
set_option maxHeartbeats 4000000 in
theorem r6_All_ok {H : Hp} (p : SProto) (hp : ProtoOk H p) (hnm : p.name.length ≤ 1000) (hrl : ∀ r ∈ p.roles, r.length ≤ 1000) :
  Fn Tryz.prog 30 [.agg p.cells.toArray] H (fun v H1 => ∃ lv, v = .tuple #[lv, .int .i64 (allE p).2, .int .i64 (allE p).1] ∧ ((allE p).1 = 0 → ∃ ls, RdSl H1 2 SLocal.cells lv ls ∧ LsOk H1 p p.roles.length ls) ∧ ((allE p).1 ≠ 0 → lv = .slice none 0 0)) := by
 have hro := hp.r
 have hrm := hro.max
 refine Fn.enter Tryz.func30 Tryz.ntmps30 rfl rfl (fun w0 => ?_)
 refine zm4 ?_
 refine TL.box rfl rfl (fun b1 => ?_)
 refine zm9 ?_; refine zm59 ?_; refine zm19 ?_; refine TL.callS (enters rfl rfl rfl rfl) (r6_ProtocolMay_ok p hp) rfl ?_; refine zm2 ?_
 refine TC.cond rfl (fun c11 => ?_) (fun c11 => ?_)
 ·
  refine zm24 ?_; refine zm83 ?_
  have hE : allE p = (800, 0) := by unfold allE; rw [if_pos (by simpa using c11)]
  exact TX.fin0 (.inr rfl) (results3 rfl (RVal.tmp rfl) (RVal.tmp rfl) (RVal.tmp rfl)) ⟨_, by rw [hE], fun h => absurd h (by rw [hE]; decide), fun _ => rfl⟩
 ·
  have hRB : rProtoB p = true := by simpa using c11
  have hr5 := (RPOk.of hRB).r5
  refine zm12 ?_; refine zm48 ?_
  refine TC.loop4 (V := fun k v ob H1 => [(5, v), (6, .int .i64 k)]) (K := [(1, _), (2, _), (3, _), (4, _)]) (L := fun k v ob H1 => St [] w0 H H1 ((b1, p.cells) :: ob)) (I := fun k v ob H1 => (0 ≤ k ∧ k ≤ p.roles.length) ∧ H.le H1 ∧ rAllF p k.toNat (p.roles.drop k.toNat) = rAllF p 0 p.roles ∧ ∃ ls, OwnSl 2 SLocal.cells v ls ob ∧ LsOk H1 p k ls) (μ := fun k => (p.roles.length - k).toNat) 0 (.slice none 0 0) [] H ⟨rfl, rfl, rfl, rfl, rfl, rfl, trivial⟩ ⟨⟨by omega, by omega⟩, .refl _, rfl, [], OwnSl.nil, ⟨rfl, by simp⟩⟩ (fun w hw => hw) (fun k v ob H1 hI => ?_)
  obtain ⟨⟨k0, k1⟩, hI2, hI3, ls, hO, hLs⟩ := hI
  have hp1 := hp.le hI2
  have hro1 := hp1.r
  obtain ⟨va, vc, rfl⟩ := hO.form
  refine zm93 ?_; refine TL.run (pr_lenSl rfl rfl hro1) rfl ?_; refine zm2 ?_
  refine TC.condD rfl (fun c16 => ?_) (fun c16 => ?_)
  ·
   obtain ⟨rr, hrx⟩ := getSome (l := p.roles) k0 c16
   refine zm162 ?_
   refine TD.part 6 10 rfl rfl rfl ?_ ?_
   ·
    refine zm462 ?_; refine zm289 ?_; refine zm339 ?_
    refine TF.pure (pr_indexSl rfl hro1 rfl (by omega) (by omega)) rfl (TF.still (pr_el0 hro1 hrx rfl rfl) rfl (TF.call (enters rfl rfl rfl rfl) (role_ok p rr hp1 hnm (hrl rr (List.mem_of_getElem? hrx)) (fun x hx a ha => (hp.ps x hx).z a ha) (Nat.le_refl _)) rfl (fun v26 H26 hle26 hp26 => ?_)))
    obtain ⟨nm, ts, tp, rfl, hRo⟩ := hp26
    refine zm187 ?_
    refine TF.alloc rfl (fun b7 => ?_)
    exact zq1960
   ·
    refine zm463 ?_; refine zm289 ?_; refine zm339 ?_; refine TF.pure (pr_indexSl rfl hro1 rfl (by omega) (by omega)) rfl (TF.still (pr_el0 hro1 hrx rfl rfl) rfl (TF.alloc rfl (fun b7 => ?_)))
    refine TF.call (enters rfl rfl rfl rfl) (role_ok p rr hp1 hnm (hrl rr (List.mem_of_getElem? hrx)) (fun x hx a ha => (hp.ps x hx).z a ha) (Nat.le_refl _)) rfl (fun v26 H26 hle26 hp26 => ?_)
    obtain ⟨nm, ts, tp, rfl, hRo⟩ := hp26
    refine zm187 ?_
    exact zq1960
  ·
   refine zm38 ?_; refine zm40 ?_; refine zm22 ?_
   have hE : allE p = (0, 0) := by unfold allE; rw [if_neg (by rw [hRB]; decide), ← hI3, List.drop_eq_nil_of_le (by omega)]; rfl
   refine TX.pubO hO (.skip _ .all) (by simp) (fun H2 hle2 hR => ?_)
   have hk : k = p.roles.length := by omega
   exact TX.fin0 (.inr rfl) (results3 rfl (RVal.tmp rfl) (RVal.tmp rfl) (RVal.tmp rfl)) ⟨_, by rw [hE], fun _ => ⟨ls, hR, hk ▸ hLs.le hle2⟩, fun h => absurd (by rw [hE]) h⟩
end Go.Sx
namespace Go.Sx
open Go Go.Proofs
set_option maxHeartbeats 2000000 in
theorem mSound_ok {H : Hp} {bd : Nat} {dl : Value} {at_ : Int} (hd : DiceOk H dl at_) {tv : Value} {types : List Str} (hty : RdSl H 1 Str.cells tv types) (htn : ∀ s ∈ types, TyNm s) (htl : types.length ≤ 100) (name : Str) (hnl : name.length ≤ 1000) :
  DFn Tryz.prog bd dl at_ 64 [gs name, tv] H (fun v H1 ob => ob = [] ∧ (H.le H1 ∧ ∃ p : SProto, v = .agg p.cells.toArray ∧ ProtoOk H1 p ∧ p.name = name ∧ ∃ n, 2 ≤ n ∧ n ≤ 5 ∧ p.roles = rolesL.take n)) := by
 refine FnX.enter Tryz.func64 Tryz.ntmps64 rfl rfl (fun w0 => ?_)
 refine zm4 ?_
 refine TL.alloc rfl (fun b6 => ?_)
 refine zm33 ?_; refine zm40 ?_
 refine TL.callD0 (X := [(b6, _)]) (bd := bd) rfl (enters rfl rfl rfl rfl) (mProtocol_ok hd hty htn htl name) rfl (fun v14 H14 at14 hle14 hd14 hp14 => ?_)
 obtain ⟨hle14_, p, rfl, hP, hNm, n, hn2, hn5, hRo⟩ := hp14
 replace hty := hty.le hle14
 have hrl : ∀ r ∈ p.roles, r.length ≤ 1000 := by
  intro r hr; rw [hRo] at hr; have := rolesL_1 hr; omega
 refine TL.alloc rfl (fun b7 => ?_)
 refine zm26 ?_; refine zm34 ?_
 refine TL.call (enters rfl rfl rfl rfl) (r6_All_ok p hP (by rw [hNm]; exact hnl) hrl) rfl (fun v17 H17 hle17 hp17 => ?_)
 obtain ⟨lv17, rfl, hok17, hno17⟩ := hp17
 replace hty := hty.le hle17
 replace hd14 := hd14.le hle17
 refine zm139 ?_; refine zm9 ?_; refine zm123 ?_
 refine TC.condD rfl (fun c22 => ?_) (fun c22 => ?_)
 ·
  refine zm34 ?_; refine zm128 ?_; refine zm237 ?_
  exact TX.finX (.inr rfl) (results1 rfl (RVal.cellA rfl (.there _ (.here _)) rfl)) (fun w hw => hw.drop.drop) ⟨_, [], rfl, hd14, rfl, hle14_.trans hle17, p, rfl, hP.le hle17, hNm, n, hn2, hn5, hRo⟩
 ·
  refine zm12 ?_; refine zm40 ?_
  refine TL.callD0 (X := [(b7, _), (b6, _)]) (bd := bd) rfl (enters rfl rfl rfl rfl) (mAny_ok hd14 hty htn htl name 2 (by omega) (by omega)) rfl (fun v27 H27 at27 hle27 hd27 hp27 => ?_)
  obtain ⟨hle27_, p2, rfl, hP2, hNm2, hRo2, hA2⟩ := hp27
  refine zm145 ?_
  exact TX.finX (.inr rfl) (results1 rfl (RVal.cellA rfl (.there _ (.here _)) rfl)) (fun w hw => hw.drop.drop) ⟨_, [], rfl, hd27, rfl, (hle14_.trans hle17).trans hle27_, p2, rfl, hP2, hNm2, _, by decide, by decide, hRo2⟩
end Go.Sx
namespace Go.Sx
open Go
structure GP (H : Hp) (nm : Str) (p : SProto) : Prop where
  ok : ProtoOk H p
  nm : p.name = nm
  rs : ∃ n, 2 ≤ n ∧ n ≤ 5 ∧ p.roles = rolesL.take n
theorem GP.le {H H' : Hp} {nm : Str} {p : SProto} (h : GP H nm p) (hl : H.le H') : GP H' nm p := ⟨h.ok.le hl, h.nm, h.rs⟩
theorem GP.pr {H : Hp} {nm : Str} {p : SProto} (h : GP H nm p) (hn : nm = [112] ∨ nm = [113]) : GPr p := by
  obtain ⟨n, h2, h5, hr⟩ := h.rs
  have hl : p.roles.length = n := by rw [hr, List.length_take]; show min n 5 = n; omega
  exact ⟨by rw [h.nm]; exact hn, by omega, by omega, fun r hm => by rw [hr] at hm; exact rolesL_1 hm⟩
def PsOk (H : Hp) (ps : List SProto) : Prop := ∃ p, GP H [112] p ∧ (ps = [p] ∨ ∃ q, GP H [113] q ∧ ps = [p, q])
theorem PsOk.le {H H' : Hp} {ps : List SProto} (h : PsOk H ps) (hl : H.le H') : PsOk H' ps := by
  obtain ⟨p, hp, h⟩ := h
  refine ⟨p, hp.le hl, ?_⟩
  rcases h with h | ⟨q, hq, h⟩
  · exact .inl h
  · exact .inr ⟨q, hq.le hl, h⟩
theorem PsOk.pk {H : Hp} {ps : List SProto} (h : PsOk H ps) : ∀ p ∈ ps, ProtoOk H p := by
  obtain ⟨p, hp, rfl | ⟨q, hq, rfl⟩⟩ := h <;> intro x hx <;> simp only [List.mem_cons, List.not_mem_nil, or_false] at hx
  · subst hx; exact hp.ok
  · rcases hx with rfl | rfl
    · exact hp.ok
    · exact hq.ok
theorem PsOk.pg {H : Hp} {ps : List SProto} (h : PsOk H ps) : ∀ p ∈ ps, GPr p := by
  obtain ⟨p, hp, rfl | ⟨q, hq, rfl⟩⟩ := h <;> intro x hx <;> simp only [List.mem_cons, List.not_mem_nil, or_false] at hx
  · subst hx; exact hp.pr (.inl rfl)
  · rcases hx with rfl | rfl
    · exact hp.pr (.inl rfl)
    · exact hq.pr (.inr rfl)
theorem PsOk.pn {H : Hp} {ps : List SProto} (h : PsOk H ps) : 0 < ps.length ∧ ps.length ≤ 2 := by
  obtain ⟨p, hp, rfl | ⟨q, hq, rfl⟩⟩ := h <;> simp
theorem tyNm_of {n : Nat} {l : List Str} (h : l = rolesL.take n) : ∀ s ∈ l.map (fun r => ([112] ++ [46]) ++ r), TyNm s := by
  intro s hs
  simp only [List.mem_map] at hs
  obtain ⟨r, hr, rfl⟩ := hs
  exact ⟨r, List.mem_of_mem_take (h ▸ hr), rfl⟩
end Go.Sx
namespace Go.Sx
open Go Go.Proofs
set_option maxHeartbeats 2000000 in
theorem mProtocols_ok {H : Hp} {bd : Nat} {dl : Value} {at_ : Int} (hd : DiceOk H dl at_)  :
  DFn Tryz.prog bd dl at_ 29 [] H (fun v H1 ob => ob = [] ∧ (H.le H1 ∧ ∃ ps, RdSl H1 3 SProto.cells v ps ∧ PsOk H1 ps)) := by
 refine FnX.enter Tryz.func29 Tryz.ntmps29 rfl rfl (fun w0 => ?_)
 refine zm105 ?_
 refine TL.callD0 (X := []) (bd := bd) rfl (enters rfl rfl rfl rfl) (mSound_ok hd RdSl.nil (by simp) (by simp) [112] (by decide)) rfl (fun v6 H6 at6 hle6 hd6 hp6 => ?_)
 obtain ⟨hle6_, p, rfl, hP_, hNmp, np, hn2p, hn5p, hRop⟩ := hp6
 have hP : GP _ [112] p := ⟨hP_, hNmp, np, hn2p, hn5p, hRop⟩
 refine TL.alloc rfl (fun b3 => ?_)
 refine zm248 ?_
 have hrlp : p.roles.length ≤ 5 := by rw [hRop, List.length_take]; show min np 5 ≤ 5; omega
 refine TX.seqN ?_; refine zm34 ?_
 refine TL.bslice rfl rfl rfl rfl (fun b8 => ?_)
 refine zm226 ?_
 refine TL.callD0 (X := [(b8, _), (b3, _)]) (bd := bd) rfl (enters rfl rfl rfl rfl) (Pick_ok 2 (by omega) hd6) rfl (fun v10 H10 at10 hle10 hd10 hp10 => ?_)
 obtain ⟨eH10, r10, rfl, hr10⟩ := hp10
 replace eH10 := eH10.symm; subst eH10
 have hra10 := hr10.1
 have hrb10 := hr10.2.1 (by omega)
 refine zm2 ?_
 refine TC.condD rfl (fun c11 => ?_) (fun c11 => ?_)
 ·
  refine zm121 ?_; refine zm70 ?_
  refine TL.call (enters rfl rfl rfl rfl) (mTypeNames_ok p hP.ok (by rw [hP.nm]; decide) (by have := hrlp; omega) (fun r hr => by have := rolesL_1 (hRop ▸ hr); omega)) rfl (fun v15 H15 hle15 hp15 => ?_)
  replace hd10 := hd10.le hle15
  rw [hP.nm] at hp15
  refine TL.callD0 (X := [(b8, _), (b3, _)]) (bd := bd) rfl (enters rfl rfl rfl rfl) (mSound_ok hd10 hp15 (tyNm_of hRop) (by have := hrlp; simp only [List.length_map]; omega) [113] (by decide)) rfl (fun v16 H16 at16 hle16 hd16 hp16 => ?_)
  obtain ⟨hle16_, q, rfl, hQ_, hNmq, nq, hn2q, hn5q, hRoq⟩ := hp16
  have hQ : GP _ [113] q := ⟨hQ_, hNmq, nq, hn2q, hn5q, hRoq⟩
  refine TL.bslice rfl rfl rfl rfl (fun b17 => ?_)
  refine TL.append (enc := SProto.cells) rfl rfl rfl (OwnSl.blk (enc := SProto.cells) [⟨_, _, _, _, _⟩] rfl rfl (by decide)) (Src.own [q] (.here _) rfl rfl) (by simp) rfl (.take (.there _ (.here _)) rfl) rfl (fun a18 c18 ob18 hO18 => ?_)
  refine zm2 ?_; refine zm343 ?_
  refine TX.pubON (X := [(b17, _), (b3, _), (bd, _)]) hO18 rfl (by simp [keys]) (fun H2 hle2 hR => ?_)
  exact TX.finX (.inr rfl) (results1 rfl (RVal.tmp rfl)) (fun w hw => hw.drop.drop) ⟨_, [], rfl, hd16.le hle2, rfl, ⟨(((hle6_.trans hle15).trans hle16_)).trans hle2, _, hR, p, hP.le (hle15.trans (hle16_.trans hle2)), .inr ⟨q, hQ.le hle2, rfl⟩⟩⟩
 ·
  refine zm12 ?_; refine zm343 ?_
  refine TX.pubN (by simp [keys]) (fun H_b8 le_b8 rd_b8 => ?_)
  replace hd10 := hd10.le le_b8
  have hR : RdSl H_b8 3 SProto.cells _ ([p]) := RdSl.blk (cap := 1) rd_b8 (by intro x hx; rfl) (by kernel_rfl) (by show 1 ≤ 9223372036854775807; decide)
  exact TX.finX (.inr rfl) (results1 rfl (RVal.tmp rfl)) (fun w hw => hw.drop) ⟨_, [], rfl, hd10, rfl, ⟨hle6_.trans le_b8, _, hR, p, hP.le le_b8, .inl rfl⟩⟩
end Go.Sx
namespace Go.Sx
open Go Go.Proofs
set_option maxHeartbeats 1000000 in
theorem wThen_ok {F : Fx} {V : WV} (s : TStep) (hs : s.Ok V.S) :
  WFn Tryz.prog F V 75 [.agg s.cells.toArray] 1 (fun v V1 => v = .int .i64 (V.sn : Int) ∧ V1.sn = V.sn + 1) := by
 refine WFn.enter Tryz.func75 Tryz.ntmps75 rfl rfl (fun m w0 hW hm => ?_)
 refine zm4 ?_
 refine TL.box rfl rfl (fun b3 => ?_)
 refine zm53 ?_; refine zm19 ?_
 refine TL.callW (F := F) (V := V) (m := m) [(b3, _)] rfl rfl (enters rfl rfl rfl rfl) (wStep_ok s hs) hW (by omega) rfl (fun v8 V8 hle8 hW8 hS8 hs8 ht8 hp8 => ?_)
 obtain ⟨rfl, hn8⟩ := hp8
 obtain ⟨b, j, q, ha, hb, hj⟩ := hW8.s.at (by omega)
 refine zm241 ?_; refine zm464 ?_; refine zm45 ?_; refine zm153 ?_; refine zm106 ?_; refine zm153 ?_; refine TF.pure (pr_lenS rfl rfl) rfl (TF.pure (pr_indexT (tb := 3) rfl rfl ha (by omega) (by omega)) rfl ?_); refine zm203 ?_
 refine TL.stR (t := 3) (f := 9) (ct := .int) rfl rfl hW8.bag (.skip _ (.skip _ (.skip _ .all))) hb rfl hj (by omega) rfl (⟨_, rfl⟩) rfl rfl (fun Bst1 hBst1 => ?_)
 refine TF.back5 (S1 (S1 (S1 SN))) (Hp.le.refl _) (TF.nil (TX.seqN ?_)); refine zm343 ?_
 exact TX.finW (V' := { V8 with B := Bst1 }) (X := [(b3, _)]) (.inr rfl) (results1 rfl (RVal.tmp rfl)) rfl rfl ((hW8.bagB hBst1).more (by omega)) hS8 (by (try dsimp only); omega) (by (try dsimp only); omega) ⟨rfl, hn8⟩
set_option maxHeartbeats 1000000 in
theorem wClose_ok {F : Fx} {V : WV} (o : Bool) :
  WFn Tryz.prog F V 127 [.bool o] 2 (fun v V1 => v = .int .i64 (V.sn : Int) ∧ V.sn < V1.sn) := by
 refine WFn.enter Tryz.func127 Tryz.ntmps127 rfl rfl (fun m w0 hW hm => ?_)
 refine zm105 ?_; refine zm73 ?_; refine zm51 ?_; refine zm113 ?_; refine zm123 ?_
 refine TC.cond rfl (fun c14 => ?_) (fun c14 => ?_)
 ·
  refine zm4 ?_; refine TL.callS (enters rfl rfl rfl rfl) (mBare_ok 9) rfl (TL.alloc rfl (fun b6 => ?_))
  refine zm122 ?_; refine zm63 ?_; refine zm66 ?_; refine zm19 ?_
  refine TL.callW (F := F) (V := V) (m := m) [(b6, _)] rfl rfl (enters rfl rfl rfl rfl) (wThen_ok ⟨9, [99], [], [], [], -1, none, 0, 0, none, 0, 0, none, 0, 0, -1⟩ ⟨.inr (.inl rfl), .nil, .nil, .nil, .nil, .nil, .nil, Nat.zero_le _, Nat.zero_le _, Nat.zero_le _⟩) hW (by omega) rfl (fun v19 V19 hle19 hW19 hS19 hs19 ht19 hp19 => ?_)
  obtain ⟨rfl, hn19⟩ := hp19
  refine zm41 ?_; refine zm344 ?_
  refine TL.callW (F := F) (V := V19) (m := m + 1) [(b6, _)] rfl rfl (enters rfl rfl rfl rfl) (wStep_ok ⟨0, [], [], [], [], -1, none, 0, 0, none, 0, 0, none, 0, 0, -1⟩ ⟨.nil, .nil, .nil, .nil, .nil, .nil, .nil, Nat.zero_le _, Nat.zero_le _, Nat.zero_le _⟩) hW19 (by omega) rfl (fun v22 V22 hle22 hW22 hS22 hs22 ht22 hp22 => ?_)
  obtain ⟨rfl, hn22⟩ := hp22
  refine zm258 ?_
  exact TX.finW (V' := V22) (X := [(b6, _)]) (.inr rfl) (results1 rfl (RVal.tmp rfl)) rfl rfl (hW22.more (by omega)) (hS19.trans (hS22)) (by (try dsimp only); omega) (by (try dsimp only); omega) ⟨rfl, by omega⟩
 ·
  refine zm103 ?_; refine zm344 ?_
  refine TL.callW (F := F) (V := V) (m := m) [] rfl rfl (enters rfl rfl rfl rfl) (wStep_ok ⟨0, [], [], [], [], -1, none, 0, 0, none, 0, 0, none, 0, 0, -1⟩ ⟨.nil, .nil, .nil, .nil, .nil, .nil, .nil, Nat.zero_le _, Nat.zero_le _, Nat.zero_le _⟩) hW (by omega) rfl (fun v22 V22 hle22 hW22 hS22 hs22 ht22 hp22 => ?_)
  obtain ⟨rfl, hn22⟩ := hp22
  refine zm258 ?_
  exact TX.finW (V' := V22) (X := []) (.inr rfl) (results1 rfl (RVal.tmp rfl)) rfl rfl (hW22.more (by omega)) hS22 (by (try dsimp only); omega) (by (try dsimp only); omega) ⟨rfl, by omega⟩
set_option maxHeartbeats 4000000 in
theorem wTypeOf_ok {F : Fx} {V : WV} (s : Str) :
  WFn Tryz.prog F V 179 [gs s] 0 (fun v V1 => ∃ p r, v = .tuple #[.agg p.cells.toArray, gs r] ∧ p ∈ F.ps ∧ r ∈ p.roles) := by
 refine WFn.enter Tryz.func179 Tryz.ntmps179 rfl rfl (fun m w0 hW hm => ?_)
 have hfx := hW.fx
 have hps := hfx.ps
 have hmx := hps.max
 have hpn := hfx.pn
 obtain ⟨p0, hp0⟩ := getSome (l := F.ps) (i := 0) (by omega) (by omega)
 have hG0 := (hfx.pg p0 (List.mem_of_getElem? hp0)).r2
 have hro0 := (hfx.pk p0 (List.mem_of_getElem? hp0)).r
 obtain ⟨r0, hr0⟩ := getSome (l := p0.roles) (i := 0) (by omega) (by omega)
 refine zm4 ?_
 refine TL.alloc rfl (fun b4 => ?_)
 refine zm156 ?_
 refine TC.loop (V := fun k => [(6, .int .i64 k)]) (K := [(0, _), (1, _), (4, _), (5, _)]) (L := fun k => _) (I := fun k => 0 ≤ k ∧ k ≤ F.ps.length) (μ := fun k => (F.ps.length - k).toNat) (i := (0 : Int)) ⟨rfl, rfl, rfl, rfl, rfl, trivial⟩ ⟨by omega, by omega⟩ (fun w hw => hw) (fun k hI => ?_)
 obtain ⟨k0, k1⟩ := hI
 refine zm32 ?_; refine zm54 ?_; refine zm20 ?_; refine TL.run (pr_lenSl rfl rfl hps) rfl ?_; refine zm2 ?_
 refine TC.condD rfl (fun c14 => ?_) (fun c14 => ?_)
 ·
  obtain ⟨p, hp⟩ := getSome (l := F.ps) k0 c14
  have hro := (hfx.pk p (List.mem_of_getElem? hp)).r
  have hrm := hro.max
  refine zm164 ?_; refine zm94 ?_
  refine TC.loop (V := fun q => [(7, .int .i64 q)]) (K := [(0, _), (1, _), (4, _), (5, _), (6, _), (8, _), (9, _), (10, _), (11, _), (12, _), (13, _), (14, _)]) (L := fun q => _) (I := fun q => 0 ≤ q ∧ q ≤ p.roles.length) (μ := fun q => (p.roles.length - q).toNat) (i := (0 : Int)) ⟨rfl, rfl, rfl, rfl, rfl, rfl, rfl, rfl, rfl, rfl, rfl, rfl, rfl, trivial⟩ ⟨by omega, by omega⟩ (fun w hw => hw) (fun q hI => ?_)
  obtain ⟨q0, q1⟩ := hI
  refine zm32 ?_; refine zm54 ?_; refine zm89 ?_; refine TL.run (pr_indexSl rfl hps rfl (by omega) (by omega)) rfl ?_; refine zm6 ?_; refine TL.run (pr_el1 hps hp rfl rfl) rfl (TL.run (pr_lenSl rfl rfl hro) rfl ?_); refine zm2 ?_
  refine TC.condD rfl (fun c27 => ?_) (fun c27 => ?_)
  ·
   obtain ⟨rr, hr⟩ := getSome (l := p.roles) q0 c27
   have hG := hfx.pg p (List.mem_of_getElem? hp)
   have hnm : p.name.length = 1 := by rcases hG.nm with h | h <;> rw [h] <;> rfl
   have hr1 := hG.rs rr (List.mem_of_getElem? hr)
   refine zm109 ?_; refine zm202 ?_; refine zm301 ?_; refine zm92 ?_; refine TQ.run (pr_indexSl rfl hps rfl (by omega) (by omega)) rfl ?_; refine zm110 ?_; refine TQ.run (pr_el1 hps hp rfl rfl) rfl ?_; refine zm399 ?_; refine zm202 ?_
   refine zm301 ?_; refine zm92 ?_; refine TQ.run (pr_indexSl rfl hps rfl (by omega) (by omega)) rfl ?_; refine zm110 ?_; refine TQ.run (pr_el1 hps hp rfl rfl) rfl ?_; refine zm92 ?_
   refine TQ.run (pr_indexSl rfl hro rfl (by omega) (by omega)) rfl (TQ.run (pr_el0 hro hr rfl rfl) rfl ?_); refine zm399 ?_; refine zm92 ?_
   refine TQ.run (pr_str rfl rfl rfl) rfl (TQ.nil (TX.seqN (TC.condD rfl (fun c52 => ?_) (fun c52 => ?_))))
   ·
    refine zm61 ?_; refine zm465 ?_; refine zm45 ?_; refine zm302 ?_; refine zm5 ?_; refine zm303 ?_; refine TF.read (S0 (S1 (S1 SN))) (Hp.le.refl _) (fun _ _ => pr_elA hps hp rfl rfl) rfl ?_; refine zm45 ?_; refine zm302 ?_
    refine zm5 ?_; refine zm303 ?_; refine zm3 ?_; refine TF.read (S0 (S1 (S1 SN))) (Hp.le.refl _) (fun _ _ => pr_el1 hps hp rfl rfl) rfl ?_; refine zm5 ?_; refine zm253 ?_
    refine TF.read (S0 (S1 (S1 SN))) (Hp.le.refl _) (fun _ _ => pr_el0 hro hr rfl rfl) rfl ?_; refine zm259 ?_; refine zm201 ?_; refine TC.ret ?_; refine zm148 ?_
    exact TX.finW (V' := V) (X := [(b4, _)]) (.inr rfl) (results2 rfl (RVal.cellA rfl (.here _) rfl) (RVal.tmp rfl)) rfl rfl (hW.more (by omega)) (.refl _) (by (try dsimp only); omega) (by (try dsimp only); omega) ⟨p, rr, rfl, List.mem_of_getElem? hp, List.mem_of_getElem? hr⟩
   ·
    refine zm56 ?_
    exact TX.round (q + 1) ⟨by omega, by omega⟩ ⟨rfl, rfl, rfl, rfl, rfl, rfl, rfl, rfl, rfl, rfl, rfl, rfl, rfl, trivial⟩ (fun w hw => hw) (by omega)
  ·
   refine zm163 ?_
   exact TX.round (k + 1) ⟨by omega, by omega⟩ ⟨rfl, rfl, rfl, rfl, rfl, trivial⟩ (fun w hw => hw) (by omega)
 ·
  refine zm38 ?_; refine zm61 ?_; refine zm466 ?_; refine zm45 ?_; refine zm302 ?_; refine zm303 ?_; refine TF.read (S0 (S1 (S1 SN))) (Hp.le.refl _) (fun _ _ => pr_elA hps hp0 rfl rfl) rfl ?_; refine zm45 ?_; refine zm302 ?_
  refine zm303 ?_; refine zm3 ?_
  refine TF.read (S0 (S1 (S1 SN))) (Hp.le.refl _) (fun _ _ => pr_el1 hps hp0 rfl rfl) rfl (TF.pure (pr_indexSl rfl hro0 rfl (by omega) (by omega)) rfl (TF.read (S0 (S1 (S1 SN))) (Hp.le.refl _) (fun _ _ => pr_el0 hro0 hr0 rfl rfl) rfl ?_))
  refine zm259 ?_; refine zm201 ?_
  exact TC.ret (TX.finW (V' := V) (X := [(b4, _)]) (.inr rfl) (results2 rfl (RVal.cellA rfl (.here _) rfl) (RVal.tmp rfl)) rfl rfl (hW.more (by omega)) (.refl _) (by (try dsimp only); omega) (by (try dsimp only); omega) ⟨p0, r0, rfl, List.mem_of_getElem? hp0, List.mem_of_getElem? hr0⟩)
end Go.Sx
namespace Go.Sx
open Go Go.Proofs
set_option maxHeartbeats 1000000 in
theorem procName_ok {H : Hp} (p : SProto) (r : Str) (h1 : p.name.length ≤ 1000) (h2 : r.length ≤ 1000) :
  FnS Tryz.prog 68 [.agg p.cells.toArray, gs r] H (gs (p.name ++ r)) := by
 refine FnS.enter Tryz.func68 Tryz.ntmps68 rfl rfl (fun w0 => ?_)
 refine zm4 ?_
 refine TL.box rfl rfl (fun b2 => ?_)
 refine zm2 ?_; refine zm219 ?_; refine TL.run (pr_concat rfl rfl (by omega)) rfl ?_; refine zm22 ?_
 exact TX.finS (.inr rfl) (results1 rfl (RVal.tmp rfl)) rfl
set_option maxHeartbeats 4000000 in
theorem wOpens_ok {F : Fx} {V : WV} (p : SProto) (role : Str) (hp : ProtoOk V.H p) (hG : GPr p) (hr : AnyNm role) :
  WFn Tryz.prog F V 70 [.agg p.cells.toArray, gs role] 12 (fun v V1 => ∃ s, v = gs s ∧ VarNm s) := by
 refine WFn.enter Tryz.func70 Tryz.ntmps70 rfl rfl (fun m w0 hW hm => ?_)
 have hro := hp.r
 have hmx := hro.max
 have hr5 := hG.r5
 have hn1 := hG.n1
 refine zm4 ?_
 refine TL.box rfl rfl (fun b4 => ?_)
 refine zm100 ?_; refine TL.callS (enters rfl rfl rfl rfl) (mBare_ok 8) rfl (TL.alloc rfl (fun b7 => ?_))
 refine zm158 ?_; refine zm467 ?_; refine zm47 ?_; refine TF.read (S0 (S1 SN)) (Hp.le.refl _) (fun _ _ => pr_own1 rfl (.here _) rfl) rfl ?_; refine zm192 ?_
 refine TL.callW (F := F) (V := V) (m := m) [(b7, _), (b4, _)] rfl rfl (enters rfl rfl rfl rfl) (wFresh_ok) hW (by omega) rfl (fun v11 V11 hle11 hW11 hS11 hs11 ht11 hp11 => ?_)
 replace hro := hro.le hle11
 obtain ⟨s11, rfl, hv11⟩ := hp11
 refine TF.back5 (S0 (S1 SN)) hle11 ?_; refine zm260 ?_; refine TF.back5 (S0 (S1 SN)) hle11 ?_; refine zm260 ?_; refine TF.back5 (S0 (S1 SN)) hle11 ?_; refine zm31 ?_; refine zm204 ?_; refine zm49 ?_; refine zm55 ?_
 refine TC.loopW (V := fun (k : Int) (V1 : WV) (r : Rw) => [(8, .int .i64 k)]) (K := [(0, _), (2, _), (4, _), (6, _), (7, _)]) (L := fun k V1 r => St (keys (F.L V)) w0 V.H V1.H ((b7, TStep.cells ⟨8, s11, role, p.name, [], -1, none, 0, 0, r.a, r.n, r.c, none, 0, 0, -1⟩) :: (b4, p.cells) :: Fx.L F V1)) (I := fun k V1 r => WI F V1 (m + 1 + 2 * k.toNat) ∧ (0 ≤ k ∧ k ≤ p.roles.length) ∧ V.H.le V1.H ∧ V.S.le V1.S ∧ V.sn ≤ V1.sn ∧ V.tn ≤ V1.tn ∧ SlT V1.S 2 r.a r.n r.c ∧ r.n ≤ k.toNat) (μ := fun k => (p.roles.length - k).toNat) 0 V11 ⟨none, 0, 0⟩ ⟨rfl, rfl, rfl, rfl, rfl, rfl, trivial⟩ (⟨by simpa using hW11, ⟨by omega, by omega⟩, hle11, hS11, hs11, ht11, .nil, by simp⟩) (fun w hw => hw) (fun k V1 r hI => ?_)
 obtain ⟨hI1, ⟨k0, k1⟩, hI3, hI4, hI5, hI6, hI7, hI8⟩ := hI
 replace hro := hp.r.le hI3
 refine zm261 ?_; refine TL.run (pr_lenSl rfl rfl hro) rfl ?_; refine zm2 ?_
 refine TC.condD rfl (fun c22 => ?_) (fun c22 => ?_)
 ·
  obtain ⟨rr, hrx⟩ := getSome (l := p.roles) k0 c22
  have hrr := hG.rl (List.mem_of_getElem? hrx)
  refine zm15 ?_; refine zm89 ?_; refine TL.run (pr_indexSl rfl hro rfl (by omega) (by omega)) rfl (TL.run (pr_el0 hro hrx rfl rfl) rfl ?_); refine zm216 ?_
  refine TC.condND rfl (fun c31 => ?_) (fun c31 => ?_)
  ·
   refine zm25 ?_; refine zm468 ?_; refine zm124 ?_; refine zm3 ?_; refine zm205 ?_; refine zm5 ?_; refine zm253 ?_; refine zm400 ?_; refine TF.read (S1 (S1 SN)) (Hp.le.refl _) (fun _ _ => pr_ownA rfl (.there _ (.here _)) rfl) rfl ?_
   refine zm3 ?_; refine zm205 ?_; refine zm5 ?_; refine zm253 ?_; refine zm400 ?_; refine zm106 ?_; refine zm165 ?_; refine TF.callS (enters rfl rfl rfl rfl) (procName_ok p rr (by omega) (by omega)) rfl ?_; refine zm7 ?_
   refine TL.callD0 (X := [(b7, _), (b4, _), (F.bw, _)]) (bd := F.bd) rfl (enters rfl rfl rfl rfl) (Pick_ok 4 (by omega) hI1.d) rfl (fun v51 H51 at51 hle51 hd51 hp51 => ?_)
   obtain ⟨rfl, r51, rfl, hr51⟩ := hp51
   refine zm262 ?_; refine zm7 ?_
   refine TL.callW (F := F) (V := { V1 with at_ := at51 }) (m := m + 1 + 2 * k.toNat) [(b7, _), (b4, _)] rfl rfl (enters rfl rfl rfl rfl) (wNum_ok _) (hI1.dice (.refl _) hd51) (by omega) rfl (fun v52 V52 hle52 hW52 hS52 hs52 ht52 hp52 => ?_)
   dsimp only at hle52 hS52 hs52 ht52 hp52
   obtain ⟨i52, rfl⟩ := hp52
   refine TF.back5 (S1 (S1 SN)) hle52 (TF.bslice rfl rfl rfl rfl (fun b53 => ?_))
   refine zm18 ?_
   refine TF.bslice rfl rfl rfl rfl (fun b55 => ?_)
   refine zm7 ?_
   refine TL.absorb (enc := I64.cells) (t := 4) (X := [(b55, _)]) (Y := [(b7, _), (b4, _), (F.bw, _), (F.bd, _)]) [_] rfl hW52.bag rfl rfl rfl (by intro y hy; exact ⟨⟨_, rfl⟩, trivial⟩) (fun Sb53 Bb53 hSb53 hNb53 hbb53 hBb53 => ?_)
   refine TL.apT (enc := TCast.cells) (t := 2) rfl rfl rfl (hW52.bagA hSb53 hNb53 hBb53).bag (hI7.le (hS52.trans (hSb53))) (Src.own [⟨rr, p.name ++ rr, some ⟨b53, 0, none⟩, 1, 1⟩] (.here _) rfl rfl) rfl (by intro y hy; rw [List.mem_singleton.1 hy]; exact TCast.all (s := ⟨rr, p.name ++ rr, some ⟨b53, 0, none⟩, 1, 1⟩) (Nat.le_trans hrr (by decide)) (hG.proc hrr) (SlT.blk hbb53 (by show 1 ≤ 9223372036854775807; decide)) (by have := hW52.n10; dsimp only at *; omega)) zt2 (by simp only [List.length_cons, List.length_nil]; omega) rfl (.skip _ (.skip _ (.skip _ (.skip _ (.skip _ .all))))) rfl (fun S56 a56 c56 B56 hS56 hN56 hT56 hB56 => ?_)
   change _ = _ + 1 at hN56
   refine TF.back5 (S0 (S1 (S1 SN))) hle52 ?_; refine zm31 ?_; refine zm74 ?_; refine TF.back (TF.nil ?_); refine zm188 ?_
   exact TX.roundW (k + 1) ({ { V52 with S := Sb53, B := Bb53 } with S := S56, B := B56 }) ⟨a56, r.n + 1, c56⟩ (⟨((hW52.bagA hSb53 hNb53 hBb53).bagT hS56 hN56 hB56).more (by omega), ⟨by omega, by omega⟩, hI3.trans hle52, (hI4.trans (hS52.trans (hSb53.trans (hS56)))), by dsimp only; omega, by dsimp only; omega, hT56, by dsimp only; omega⟩) ⟨rfl, rfl, rfl, rfl, rfl, rfl, trivial⟩ (fun w hw => hw.drop) (by omega)
  ·
   refine zm56 ?_
   exact TX.roundW (k + 1) V1 r (⟨hI1.more (by omega), ⟨by omega, by omega⟩, hI3, hI4, hI5, hI6, hI7, by omega⟩) ⟨rfl, rfl, rfl, rfl, rfl, rfl, trivial⟩ (fun w hw => hw) (by omega)
 ·
  refine zm176 ?_; refine zm19 ?_
  refine TL.callW (F := F) (V := V1) (m := m + 1 + 2 * k.toNat) [(b7, _), (b4, _)] rfl rfl (enters rfl rfl rfl rfl) (wThen_ok ⟨8, s11, role, p.name, [], -1, none, 0, 0, r.a, r.n, r.c, none, 0, 0, -1⟩ ⟨hv11, hr, by simp only [AnyNm]; omega, .nil, .nil, hI7, .nil, Nat.zero_le _, by have := hI1.n10; dsimp only; omega, Nat.zero_le _⟩) hI1 (by omega) rfl (fun v60 V60 hle60 hW60 hS60 hs60 ht60 hp60 => ?_)
  obtain ⟨rfl, hn60⟩ := hp60
  refine zm33 ?_; refine zm58 ?_; refine zm22 ?_
  exact TX.finW (V' := V60) (X := [(b7, _), (b4, _)]) (.inr rfl) (results1 rfl (RVal.tmp rfl)) rfl rfl (hW60.more (by omega)) (hI4.trans (hS60)) (by (try dsimp only); omega) (by (try dsimp only); omega) ⟨_, rfl, hv11⟩
end Go.Sx
namespace Go.Sx
open Go Go.Proofs
set_option maxHeartbeats 4000000 in
theorem wTook_ok {F : Fx} {V : WV} (s : Str) (hs : VarNm s) (ck : Int) (cn : Str) :
  WFn Tryz.prog F V 178 [gs s, .agg #[.int .i64 ck, gs cn]] 12 (fun v V1 => v = .tuple #[]) := by
 refine WFn.enter Tryz.func178 Tryz.ntmps178 rfl rfl (fun m w0 hW hm => ?_)
 refine zm4 ?_
 refine TL.box rfl rfl (fun b5 => ?_)
 refine zm33 ?_; refine zm138 ?_
 refine TC.condND rfl (fun c13 => ?_) (fun c13 => ?_)
 ·
  refine zm101 ?_; refine zm54 ?_; refine zm20 ?_
  refine TL.callD0 (X := [(b5, _), (F.bw, _)]) (bd := F.bd) rfl (enters rfl rfl rfl rfl) (Pick_ok 3 (by omega) hW.d) rfl (fun v18 H18 at18 hle18 hd18 hp18 => ?_)
  obtain ⟨rfl, r18, rfl, hr18⟩ := hp18
  refine zm2 ?_
  refine TC.condD rfl (fun c19 => ?_) (fun c19 => ?_)
  ·
   refine zm4 ?_; refine TL.callS (enters rfl rfl rfl rfl) (mBare_ok 2) rfl (TL.alloc rfl (fun b6 => ?_))
   refine zm26 ?_; refine zm24 ?_
   refine TL.callW (F := F) (V := { V with at_ := at18 }) (m := m) [(b6, _), (b5, _)] rfl rfl (enters rfl rfl rfl rfl) (wName_ok s hs) (hW.dice (.refl _) hd18) (by omega) rfl (fun v23 V23 hle23 hW23 hS23 hs23 ht23 hp23 => ?_)
   dsimp only at hle23 hS23 hs23 ht23 hp23
   obtain ⟨i23, rfl⟩ := hp23
   refine zm63 ?_; refine zm66 ?_; refine zm19 ?_
   refine TL.callW (F := F) (V := V23) (m := m + 1) [(b6, _), (b5, _)] rfl rfl (enters rfl rfl rfl rfl) (wThen_ok ⟨2, [], [], [], [], i23, none, 0, 0, none, 0, 0, none, 0, 0, -1⟩ ⟨.nil, .nil, .nil, .nil, .nil, .nil, .nil, Nat.zero_le _, Nat.zero_le _, Nat.zero_le _⟩) hW23 (by omega) rfl (fun v27 V27 hle27 hW27 hS27 hs27 ht27 hp27 => ?_)
   obtain ⟨rfl, hn27⟩ := hp27
   refine zm237 ?_
   exact TX.finW (V' := V27) (X := [(b6, _), (b5, _)]) (.inr rfl) (results0 rfl) rfl rfl (hW27.more (by omega)) (hS23.trans (hS27)) (by (try dsimp only); omega) (by (try dsimp only); omega) rfl
  ·
   refine zm12 ?_
   exact TC.ret (TX.thenR (TX.finW (V' := { V with at_ := at18 }) (X := [(b5, _)]) (.inr rfl) (results0 rfl) rfl rfl ((hW.dice (.refl _) hd18).more (by omega)) (.refl _) (by (try dsimp only); omega) (by (try dsimp only); omega) rfl))
 ·
  refine zm12 ?_; refine zm101 ?_; refine zm54 ?_; refine zm20 ?_
  refine TL.callD0 (X := [(b5, _), (F.bw, _)]) (bd := F.bd) rfl (enters rfl rfl rfl rfl) (Pick_ok 3 (by omega) hW.d) rfl (fun v32 H32 at32 hle32 hd32 hp32 => ?_)
  obtain ⟨rfl, r32, rfl, hr32⟩ := hp32
  refine zm2 ?_
  refine TC.condD rfl (fun c33 => ?_) (fun c33 => ?_)
  ·
   refine zm4 ?_; refine TL.callS (enters rfl rfl rfl rfl) (mBare_ok 9) rfl (TL.alloc rfl (fun b7 => ?_))
   refine zm26 ?_; refine zm30 ?_; refine zm178 ?_; refine zm19 ?_
   refine TL.callW (F := F) (V := { V with at_ := at32 }) (m := m) [(b7, _), (b5, _)] rfl rfl (enters rfl rfl rfl rfl) (wThen_ok ⟨9, s, [], [], [], -1, none, 0, 0, none, 0, 0, none, 0, 0, -1⟩ ⟨hs, .nil, .nil, .nil, .nil, .nil, .nil, Nat.zero_le _, Nat.zero_le _, Nat.zero_le _⟩) (hW.dice (.refl _) hd32) (by omega) rfl (fun v39 V39 hle39 hW39 hS39 hs39 ht39 hp39 => ?_)
   dsimp only at hle39 hS39 hs39 ht39 hp39
   obtain ⟨rfl, hn39⟩ := hp39
   refine zm237 ?_
   exact TX.finW (V' := V39) (X := [(b7, _), (b5, _)]) (.inr rfl) (results0 rfl) rfl rfl (hW39.more (by omega)) hS39 (by (try dsimp only); omega) (by (try dsimp only); omega) rfl
  ·
   refine zm103 ?_; refine zm51 ?_
   refine TL.callW (F := F) (V := { V with at_ := at32 }) (m := m) [(b5, _)] rfl rfl (enters rfl rfl rfl rfl) (wTypeOf_ok cn) (hW.dice (.refl _) hd32) (by omega) rfl (fun v44 V44 hle44 hW44 hS44 hs44 ht44 hp44 => ?_)
   dsimp only at hle44 hS44 hs44 ht44 hp44
   obtain ⟨p, rr, rfl, hp44, hr44⟩ := hp44
   have hG := hW44.fx.pg p hp44
   have hrr := hG.rl hr44
   have hn1 := hG.n1
   refine zm9 ?_; refine zm0 ?_
   refine TL.alloc rfl (fun b8 => ?_)
   refine zm39 ?_; refine zm100 ?_; refine TL.callS (enters rfl rfl rfl rfl) (mBare_ok 7) rfl (TL.alloc rfl (fun b10 => ?_))
   refine zm122 ?_; refine zm70 ?_; refine zm0 ?_; refine zm345 ?_; refine zm63 ?_; refine zm61 ?_
   refine TD.part 7 2 rfl rfl rfl ?_ ?_
   ·
    refine zm346 ?_; refine zm244 ?_; refine zm206 ?_; refine zm7 ?_
    refine TL.callW (F := F) (V := V44) (m := m + 0) [(b10, _), (b8, _), (b5, _)] rfl rfl (enters rfl rfl rfl rfl) (wName_ok s hs) hW44 (by omega) rfl (fun v54 V54 hle54 hW54 hS54 hs54 ht54 hp54 => ?_)
    obtain ⟨i54, rfl⟩ := hp54
    exact TF.back5 (S1 (S1 (S1 SN))) hle54 (zq2009)
   ·
    refine zm347 ?_; refine zm245 ?_
    refine TL.callW (F := F) (V := V44) (m := m + 0) [(b10, _), (b8, _), (b5, _)] rfl rfl (enters rfl rfl rfl rfl) (wName_ok s hs) hW44 (by omega) rfl (fun v54 V54 hle54 hW54 hS54 hs54 ht54 hp54 => ?_)
    obtain ⟨i54, rfl⟩ := hp54
    refine TF.back5 (S1 (S1 (S1 SN))) hle54 ?_; refine zm206 ?_
    exact zq2009
set_option maxHeartbeats 4000000 in
theorem wAgain_ok {F : Fx} {V : WV}  :
  WFn Tryz.prog F V 128 [] 20 (fun v V1 => v = .tuple #[] ∧ V.sn < V1.sn) := by
 refine WFn.enter Tryz.func128 Tryz.ntmps128 rfl rfl (fun m w0 hW hm => ?_)
 refine zm4 ?_; refine TL.callS (enters rfl rfl rfl rfl) (mBare_ok 3) rfl (TL.alloc rfl (fun b2 => ?_))
 refine zm26 ?_; refine zm24 ?_
 refine TL.callW (F := F) (V := V) (m := m) [(b2, _)] rfl rfl (enters rfl rfl rfl rfl) (wNum_ok 0) hW (by omega) rfl (fun v9 V9 hle9 hW9 hS9 hs9 ht9 hp9 => ?_)
 obtain ⟨i9, rfl⟩ := hp9
 refine zm0 ?_
 refine TL.callW (F := F) (V := V9) (m := m + 1) [(b2, _)] rfl rfl (enters rfl rfl rfl rfl) (wName_ok [110] (.inr (.inr (.inl rfl)))) hW9 (by omega) rfl (fun v11 V11 hle11 hW11 hS11 hs11 ht11 hp11 => ?_)
 obtain ⟨i11, rfl⟩ := hp11
 refine TL.callW (F := F) (V := V11) (m := m + 1 + 1) [(b2, _)] rfl rfl (enters rfl rfl rfl rfl) (wBoth_ok 12 i9 i11) hW11 (by omega) rfl (fun v12 V12 hle12 hW12 hS12 hs12 ht12 hp12 => ?_)
 obtain ⟨i12, rfl⟩ := hp12
 refine zm178 ?_; refine zm19 ?_
 refine TL.callW (F := F) (V := V12) (m := m + 1 + 1 + 1) [(b2, _)] rfl rfl (enters rfl rfl rfl rfl) (wStep_ok ⟨3, [], [], [], [], i12, none, 0, 0, none, 0, 0, none, 0, 0, -1⟩ ⟨.nil, .nil, .nil, .nil, .nil, .nil, .nil, Nat.zero_le _, Nat.zero_le _, Nat.zero_le _⟩) hW12 (by omega) rfl (fun v16 V16 hle16 hW16 hS16 hs16 ht16 hp16 => ?_)
 obtain ⟨rfl, hn16⟩ := hp16
 refine zm241 ?_; refine zm469 ?_
 obtain ⟨bw3, jw3, qw3, haw3, hbw3, hjw3⟩ := hW16.s.at (by omega)
 obtain ⟨uw3, huw3, hcw3⟩ := hW16.bag.get (k := 10) (i := (V12.sn : Int).toNat) (f := 8) hbw3 rfl hjw3 (by omega) rfl
 obtain ⟨waw3, wnw3, wcw3, rfl, hww3, hwnw3⟩ := huw3
 have hnbw3 := hW16.nb
 refine zm45 ?_; refine zm153 ?_; refine zm106 ?_; refine zm153 ?_; refine zm5 ?_; refine zm401 ?_; refine zm3 ?_; refine TF.still (pr_bag rfl hcw3 (.skip _ (.skip _ (.skip _ .all)))) rfl ?_; refine zm45 ?_; refine zm153 ?_
 refine TF.pure (pr_lenS rfl rfl) rfl ?_; refine zm18 ?_
 refine TF.bslice rfl rfl rfl rfl (fun b39 => ?_)
 refine zm7 ?_
 refine TL.apT (enc := SWay.cells) (t := 1) rfl rfl rfl hW16.bag hww3 (Src.own [⟨[], [], _⟩] (.here _) rfl rfl) rfl (by intro y hy; rw [List.mem_singleton.1 hy]; exact SWay.all (s := ⟨[], [], _⟩) .nil .nil) zt1 (by simp only [List.length_cons, List.length_nil]; omega) rfl (.skip _ (.skip _ (.skip _ (.skip _ .all)))) rfl (fun S40 a40 c40 B40 hS40 hN40 hT40 hB40 => ?_)
 change _ = _ + 1 at hN40
 refine zm242 ?_; refine zm401 ?_; refine zm203 ?_
 refine TL.stR (t := 3) (f := 8) (ct := .sl 1) rfl rfl (hW16.bagT hS40 hN40 hB40).bag (.skip _ (.skip _ (.skip _ (.skip _ .all)))) (hS40.1 _ _ hbw3) rfl hjw3 (by omega) rfl (⟨_, _, _, rfl, hT40, by simp only [List.length_cons, List.length_nil]; omega⟩) rfl rfl (fun Bst1 hBst1 => ?_)
 refine zm242 ?_; refine TF.nil (TX.seqN ?_); refine zm4 ?_; refine TL.callS (enters rfl rfl rfl rfl) (mBare_ok 6) rfl (TL.alloc rfl (fun b4 => ?_))
 refine zm26 ?_; refine zm30 ?_; refine zm73 ?_; refine zm91 ?_; refine zm178 ?_
 refine TL.callW (F := F) (V := { { V16 with S := S40, B := B40 } with B := Bst1 }) (m := m + 1 + 1 + 1 + 1 + 1) [(b4, _), (b39, _), (b2, _)] rfl rfl (enters rfl rfl rfl rfl) (wName_ok [99] (.inr (.inl rfl))) ((hW16.bagT hS40 hN40 hB40).bagB hBst1) (by omega) rfl (fun v50 V50 hle50 hW50 hS50 hs50 ht50 hp50 => ?_)
 dsimp only at hle50 hS50 hs50 ht50 hp50
 obtain ⟨i50, rfl⟩ := hp50
 refine zm0 ?_
 refine TL.callW (F := F) (V := V50) (m := m + 1 + 1 + 1 + 1 + 1 + 1) [(b4, _), (b39, _), (b2, _)] rfl rfl (enters rfl rfl rfl rfl) (wLess_ok) hW50 (by omega) rfl (fun v52 V52 hle52 hW52 hS52 hs52 ht52 hp52 => ?_)
 obtain ⟨i52, rfl⟩ := hp52
 refine TL.bslice rfl rfl rfl rfl (fun b53 => ?_)
 refine zm249 ?_
 refine TL.absorb (enc := I64.cells) (t := 4) (X := []) (Y := [(b4, _), (b39, _), (b2, _), (F.bw, _), (F.bd, _)]) [_, _] rfl hW52.bag rfl rfl rfl (by intro y hy; exact ⟨⟨_, rfl⟩, trivial⟩) (fun Sb53 Bb53 hSb53 hNb53 hbb53 hBb53 => ?_)
 refine zm0 ?_; refine zm19 ?_
 refine TL.callW (F := F) (V := { V52 with S := Sb53, B := Bb53 }) (m := m + 1 + 1 + 1 + 1 + 1 + 1 + 3) [(b4, _), (b39, _), (b2, _)] rfl rfl (enters rfl rfl rfl rfl) (wStep_ok ⟨6, [], [], [], F.self, -1, some ⟨b53, 0, none⟩, 2, 2, none, 0, 0, none, 0, 0, -1⟩ ⟨.nil, .nil, .nil, hW.fx.sf, (SlT.blk hbb53 le2), .nil, .nil, (by have := hW52.n10; dsimp only at *; omega), Nat.zero_le _, Nat.zero_le _⟩) (hW52.bagA hSb53 hNb53 hBb53) (by omega) rfl (fun v57 V57 hle57 hW57 hS57 hs57 ht57 hp57 => ?_)
 dsimp only at hle57 hS57 hs57 ht57 hp57
 obtain ⟨rfl, hn57⟩ := hp57
 refine zm41 ?_
 refine TL.callW (F := F) (V := V57) (m := m + 1 + 1 + 1 + 1 + 1 + 1 + 3 + 1) [(b4, _), (b39, _), (b2, _)] rfl rfl (enters rfl rfl rfl rfl) (wClose_ok false) hW57 (by omega) rfl (fun v59 V59 hle59 hW59 hS59 hs59 ht59 hp59 => ?_)
 obtain ⟨rfl, hn59⟩ := hp59
 refine zm2 ?_; refine zm25 ?_; refine zm402 ?_
 obtain ⟨bw9, jw9, qw9, haw9, hbw9, hjw9⟩ := hW59.s.at (by omega)
 obtain ⟨uw9, huw9, hcw9⟩ := hW59.bag.get (k := 10) (i := (V12.sn : Int).toNat) (f := 8) hbw9 rfl hjw9 (by omega) rfl
 obtain ⟨waw9, wnw9, wcw9, rfl, hww9, hwnw9⟩ := huw9
 have hnbw9 := hW59.nb
 refine zm45 ?_; refine zm64 ?_; refine zm106 ?_; refine zm64 ?_; refine zm5 ?_; refine zm403 ?_; refine zm3 ?_; refine TF.still (pr_bag rfl hcw9 (.skip _ (.skip _ (.skip _ (.skip _ (.skip _ .all)))))) rfl ?_; refine zm5 ?_
 refine zm18 ?_
 refine TF.bslice rfl rfl rfl rfl (fun b77 => ?_)
 refine zm7 ?_
 refine TL.apT (enc := SWay.cells) (t := 1) rfl rfl rfl hW59.bag hww9 (Src.own [⟨[], [], _⟩] (.here _) rfl rfl) rfl (by intro y hy; rw [List.mem_singleton.1 hy]; exact SWay.all (s := ⟨[], [], _⟩) .nil .nil) zt1 (by simp only [List.length_cons, List.length_nil]; omega) rfl (.skip _ (.skip _ (.skip _ (.skip _ (.skip _ (.skip _ .all)))))) rfl (fun S78 a78 c78 B78 hS78 hN78 hT78 hB78 => ?_)
 change _ = _ + 1 at hN78
 refine zm129 ?_; refine zm403 ?_; refine zm203 ?_
 refine TL.stR (t := 3) (f := 8) (ct := .sl 1) rfl rfl (hW59.bagT hS78 hN78 hB78).bag (.skip _ (.skip _ (.skip _ (.skip _ (.skip _ (.skip _ .all)))))) (hS78.1 _ _ hbw9) rfl hjw9 (by omega) rfl (⟨_, _, _, rfl, hT78, by simp only [List.length_cons, List.length_nil]; omega⟩) rfl rfl (fun Bst2 hBst2 => ?_)
 refine zm129 ?_
 exact TF.nil (TX.finW (V' := { { V59 with S := S78, B := B78 } with B := Bst2 }) (X := [(b77, _), (b4, _), (b39, _), (b2, _)]) (.inl rfl) (results0 rfl) rfl rfl (((hW59.bagT hS78 hN78 hB78).bagB hBst2).more (by omega)) (hS9.trans (hS11.trans (hS12.trans (hS16.trans (hS40.trans (hS50.trans (hS52.trans (hSb53.trans (hS57.trans (hS59.trans (hS78))))))))))) (by (try dsimp only); omega) (by (try dsimp only); omega) ⟨rfl, by (try dsimp only); omega⟩)
end Go.Sx
namespace Go.Sx
open Go Go.Proofs
set_option maxHeartbeats 8000000 in
theorem wSays_ok {F : Fx} {V : WV} {T : SLocal} (hG : TG F T) (turn arm deep : Int) {K : Nat} (h0 : 0 ≤ turn) (h1 : turn < T.turns.length) (harm : ∀ t, T.turns[turn.toNat]? = some t → 0 ≤ arm ∧ arm < t.arms.length) (ih : ∀ (V : WV) (turn : Int), 0 ≤ turn → turn < T.turns.length → WFn Tryz.prog F V 69 [.int .i64 turn, .int .i64 (deep + 1)] K (fun v V1 => v = .tuple #[] ∧ V.sn < V1.sn)) (hK : K ≤ 9000000) (hdp : 0 ≤ deep ∧ deep ≤ 100) :
  WFn Tryz.prog F V 131 [.int .i64 turn, .int .i64 arm, .int .i64 deep] (K + 20) (fun v V1 => v = .int .i64 (V.sn : Int) ∧ V.sn < V1.sn) := by
 refine WFn.enter Tryz.func131 Tryz.ntmps131 rfl rfl (fun m w0 hW hm => ?_)
 have hGg := hG.g
 have hr1 := hG.r1
 have hr0 := hG.r0
 have hty := hW.fx.ty
 have htk := hW.fx.tk T (List.mem_of_getElem? hGg)
 have hts := htk.t
 have htm := hts.max
 obtain ⟨t, htx⟩ := getSome (l := T.turns) h0 h1
 have hTt := hG.ts t (List.mem_of_getElem? htx)
 have hta := (htk.ts t (List.mem_of_getElem? htx)).a
 have ha6 := hTt.a6
 have ham := hta.max
 have hKB := hK
 obtain ⟨q0, q1⟩ := harm t htx
 obtain ⟨x, hax⟩ := getSome (l := t.arms) q0 q1
 have hxm := List.mem_of_getElem? hax
 have hxn := hTt.nx x hxm
 refine zm105 ?_; refine zm73 ?_; refine zm51 ?_; refine zm113 ?_; refine zm241 ?_; refine zm348 ?_; refine zm207 ?_; refine zm207 ?_; refine zm349 ?_; refine zm3 ?_; refine zm350 ?_; refine zm5 ?_; refine zm351 ?_; refine zm352 ?_
 refine TF.alloc rfl (fun b10 => ?_)
 refine zm259 ?_; refine TF.nil (TX.seqN ?_); refine zm219 ?_; refine zm304 ?_; refine TL.run (pr_elA hta hax rfl rfl) rfl (TL.alloc rfl (fun b11 => ?_))
 refine zm122 ?_; refine TL.callS (enters rfl rfl rfl rfl) (mBare_ok 4) rfl (TL.alloc rfl (fun b12 => ?_))
 refine zm158 ?_; refine zm470 ?_; refine zm3 ?_; refine TF.read (S0 (S1 (S1 (S1 (S1 SN))))) (Hp.le.refl _) (fun _ _ => pr_own1 rfl (.there _ (.here _)) rfl) rfl ?_; refine zm3 ?_
 refine TF.read (S0 (S1 (S1 (S1 (S1 SN))))) (Hp.le.refl _) (fun _ _ => pr_own1 rfl (.here _) rfl) rfl ?_; refine zm260 ?_; refine zm208 ?_; refine zm260 ?_; refine zm208 ?_; refine zm31 ?_; refine zm204 ?_; refine zm49 ?_
 refine zm88 ?_; refine zm6 ?_; refine zm20 ?_; refine zm210 ?_
 refine TC.condD rfl (fun c57 => ?_) (fun c57 => ?_)
 ·
  refine zm81 ?_; refine zm30 ?_; refine zm19 ?_
  refine TL.callW (F := F) (V := V) (m := m) [(b12, _), (b11, _), (b10, _)] rfl rfl (enters rfl rfl rfl rfl) (wThen_ok ⟨4, [99], t.peer, x.label, [], (-1), none, 0, 0, none, 0, 0, none, 0, 0, -1⟩ ⟨(.inr (.inl rfl)), hTt.peer, (hTt.lb x hxm), .nil, .nil, .nil, .nil, Nat.zero_le _, Nat.zero_le _, Nat.zero_le _⟩) hW (by omega) rfl (fun v78 V78 hle78 hW78 hS78 hs78 ht78 hp78 => ?_)
  obtain ⟨rfl, hn78⟩ := hp78
  refine zm41 ?_; refine zm89 ?_; refine zm16 ?_
  refine TL.callW (F := F) (V := V78) (m := m + 1) [(b12, _), (b11, _), (b10, _)] rfl rfl (enters rfl rfl rfl rfl) (ih _ x.next hxn.1 hxn.2) hW78 (by omega) rfl (fun v84 V84 hle84 hW84 hS84 hs84 ht84 hp84 => ?_)
  obtain ⟨rfl, hn84⟩ := hp84
  refine zm258 ?_
  exact TX.finW (V' := V84) (X := [(b12, _), (b11, _), (b10, _)]) (.inr rfl) (results1 rfl (RVal.tmp rfl)) rfl rfl (hW84.more (by omega)) (hS78.trans (hS84)) (by (try dsimp only); omega) (by (try dsimp only); omega) ⟨rfl, by (try dsimp only); omega⟩
 ·
  refine zm28 ?_
  refine TC.condD rfl (fun c59 => ?_) (fun c59 => ?_)
  ·
   refine zm30 ?_; refine zm6 ?_; refine zm20 ?_
   refine TL.callW (F := F) (V := V) (m := m) [(b12, _), (b11, _), (b10, _)] rfl rfl (enters rfl rfl rfl rfl) (wTypeOf_ok x.cn) hW (by omega) rfl (fun v66 V66 hle66 hW66 hS66 hs66 ht66 hp66 => ?_)
   obtain ⟨p, rr, rfl, hp66, hr66⟩ := hp66
   have hGp := hW66.fx.pg p hp66
   have hrr := hGp.rl hr66
   refine zm9 ?_; refine zm0 ?_
   refine TL.alloc rfl (fun b13 => ?_)
   refine zm39 ?_; refine zm2 ?_; refine zm121 ?_; refine zm19 ?_; refine zm0 ?_
   refine TL.callW (F := F) (V := V66) (m := m + 0) [(b13, _), (b12, _), (b11, _), (b10, _)] rfl rfl (enters rfl rfl rfl rfl) (wOpens_ok p rr (hW66.fx.pk p hp66) hGp (Nat.le_trans hrr (by decide))) hW66 (by omega) rfl (fun v73 V73 hle73 hW73 hS73 hs73 ht73 hp73 => ?_)
   obtain ⟨s73, rfl, hv73⟩ := hp73
   refine TL.callW (F := F) (V := V73) (m := m + 0 + 12) [(b13, _), (b12, _), (b11, _), (b10, _)] rfl rfl (enters rfl rfl rfl rfl) (wName_ok s73 hv73) hW73 (by omega) rfl (fun v74 V74 hle74 hW74 hS74 hs74 ht74 hp74 => ?_)
   obtain ⟨i74, rfl⟩ := hp74
   refine zm380 ?_; refine TL.nil (TX.blkN (TX.seqN ?_)); refine zm30 ?_; refine zm70 ?_
   refine TL.callW (F := F) (V := V74) (m := m + 0 + 12 + 1) [(b13, _), (b12, _), (b11, _), (b10, _)] rfl rfl (enters rfl rfl rfl rfl) (wThen_ok ⟨4, [99], t.peer, x.label, [], i74, none, 0, 0, none, 0, 0, none, 0, 0, -1⟩ ⟨(.inr (.inl rfl)), hTt.peer, (hTt.lb x hxm), .nil, .nil, .nil, .nil, Nat.zero_le _, Nat.zero_le _, Nat.zero_le _⟩) hW74 (by omega) rfl (fun v78 V78 hle78 hW78 hS78 hs78 ht78 hp78 => ?_)
   obtain ⟨rfl, hn78⟩ := hp78
   refine zm41 ?_; refine zm62 ?_; refine zm0 ?_; refine zm16 ?_
   refine TL.callW (F := F) (V := V78) (m := m + 0 + 12 + 1 + 1) [(b13, _), (b12, _), (b11, _), (b10, _)] rfl rfl (enters rfl rfl rfl rfl) (ih _ x.next hxn.1 hxn.2) hW78 (by omega) rfl (fun v84 V84 hle84 hW84 hS84 hs84 ht84 hp84 => ?_)
   obtain ⟨rfl, hn84⟩ := hp84
   refine zm258 ?_
   exact TX.finW (V' := V84) (X := [(b13, _), (b12, _), (b11, _), (b10, _)]) (.inr rfl) (results1 rfl (RVal.tmp rfl)) rfl rfl (hW84.more (by omega)) (hS66.trans (hS73.trans (hS74.trans (hS78.trans (hS84))))) (by (try dsimp only); omega) (by (try dsimp only); omega) ⟨rfl, by (try dsimp only); omega⟩
  ·
   refine zm66 ?_; refine zm6 ?_; refine zm20 ?_
   refine TL.callW (F := F) (V := V) (m := m) [(b12, _), (b11, _), (b10, _)] rfl rfl (enters rfl rfl rfl rfl) (wGive_ok x.ck) hW (by omega) rfl (fun v55 V55 hle55 hW55 hS55 hs55 ht55 hp55 => ?_)
   obtain ⟨i55, rfl⟩ := hp55
   refine zm179 ?_; refine TX.blkN (TX.seqN ?_); refine zm30 ?_; refine zm19 ?_
   refine TL.callW (F := F) (V := V55) (m := m + 3) [(b12, _), (b11, _), (b10, _)] rfl rfl (enters rfl rfl rfl rfl) (wThen_ok ⟨4, [99], t.peer, x.label, [], i55, none, 0, 0, none, 0, 0, none, 0, 0, -1⟩ ⟨(.inr (.inl rfl)), hTt.peer, (hTt.lb x hxm), .nil, .nil, .nil, .nil, Nat.zero_le _, Nat.zero_le _, Nat.zero_le _⟩) hW55 (by omega) rfl (fun v78 V78 hle78 hW78 hS78 hs78 ht78 hp78 => ?_)
   obtain ⟨rfl, hn78⟩ := hp78
   refine zm41 ?_; refine zm89 ?_; refine zm16 ?_
   refine TL.callW (F := F) (V := V78) (m := m + 3 + 1) [(b12, _), (b11, _), (b10, _)] rfl rfl (enters rfl rfl rfl rfl) (ih _ x.next hxn.1 hxn.2) hW78 (by omega) rfl (fun v84 V84 hle84 hW84 hS84 hs84 ht84 hp84 => ?_)
   obtain ⟨rfl, hn84⟩ := hp84
   refine zm258 ?_
   exact TX.finW (V' := V84) (X := [(b12, _), (b11, _), (b10, _)]) (.inr rfl) (results1 rfl (RVal.tmp rfl)) rfl rfl (hW84.more (by omega)) (hS55.trans (hS78.trans (hS84))) (by (try dsimp only); omega) (by (try dsimp only); omega) ⟨rfl, by (try dsimp only); omega⟩
end Go.Sx
