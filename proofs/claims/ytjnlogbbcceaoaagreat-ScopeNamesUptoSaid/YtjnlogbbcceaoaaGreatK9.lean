import Derived.Test.YtjnlogbbcceaoaaGreatK8
import Derived.Lib.ItoaNum
set_option linter.all false
set_option maxRecDepth 100000
namespace Go.Sx
open Go
abbrev nS : Sp := (none, 0)
def endS : SStep := ⟨0, [], [], [], [], -1, [], nS, [], nS, [], nS, -1⟩
def stopP (sp qp : Sp) : SProg := ⟨[], nS, [], nS, [⟨sMain, [], nS, [], nS, [endS], sp⟩], qp⟩
theorem stop_check (sp qp : Sp) : checkS (stopP sp qp) = okF := by rfl
theorem nil_check : checkS nilPg = ⟨1504, -1, -1⟩ := by rfl
theorem stop_find (sp qp : Sp) : findS (stopP sp qp).procs sMain = 0 := by rfl
theorem stop_no (sp qp : Sp) : findS (stopP sp qp).procs [120] = -1 := by rfl
theorem stop_rise {sp qp : Sp} {pg : SProg} (h : pg.bare = riseS (stopP sp qp)) : pg.procs.length = 1 := by
  have h1 : pg.bare.procs.length = (riseS (stopP sp qp)).procs.length := by rw [h]
  rw [rise_good (by rw [stop_check]; rfl)] at h1
  simpa [SProg.bare, stopP] using h1
theorem end_ok (H : Hp) : StepOk H endS := ⟨RdSl.nil, RdSl.nil, (fun _ h => by cases h), RdSl.nil⟩
theorem stop_prog {H : Hp} {sp qp : Sp} (h1 : RdSl H 10 SStep.cells (.slice sp.1 1 sp.2) [endS]) (h2 : RdSl H 4 SProc.cells (.slice qp.1 1 qp.2) [⟨sMain, [], nS, [], nS, [endS], sp⟩]) : ProgOk H (stopP sp qp) :=
  ⟨RdSl.nil, (fun _ h => by cases h), RdSl.nil, (fun _ h => by cases h), h2, fun q hq => by
    simp [stopP] at hq; subst hq
    exact ⟨RdSl.nil, (fun _ h => by cases h), by simp, RdSl.nil, (fun _ h => by cases h), h1, fun s hs => by simp at hs; subst hs; exact end_ok H⟩⟩
def callS (pr : Str) (args : List Int) (ap : Sp) : SStep := ⟨6, [], [], [], pr, -1, args, ap, [], nS, [], nS, -1⟩
section
variable {name : Str}
variable (sf tp sp qp ap cp : Sp)
section
variable (n : Str) (t x : Int) (k : Int) (d : List Int) (pr : Str) (args : List Int)
end
end
end Go.Sx
namespace Go.Sx
open Go Go.Proofs
set_option maxHeartbeats 1000000 in
theorem stop_ok {H : Hp} :
  Fn Tryz.prog 25 [] H (fun v H2 => ∃ sp qp, v = .agg (stopP sp qp).cells.toArray ∧ ProgOk H2 (stopP sp qp)) := by
 refine Fn.enter Tryz.func25 Tryz.ntmps25 rfl rfl (fun w0 => ?_)
 refine zm4 ?_
 refine TL.alloc rfl (fun b0 => ?_)
 refine zm27 ?_; refine zm14 ?_
 refine TL.bslice rfl rfl rfl rfl (fun b2 => ?_)
 refine zm14 ?_
 refine TL.bslice rfl rfl rfl rfl (fun b4 => ?_)
 refine zm14 ?_; refine zm321 ?_; refine TL.nil (TX.front (.there _ (.here _)) (TX.pub (by simp) (fun H_b2 le_b2 rd_b2 => ?_)))
 have hS : RdSl H_b2 10 SStep.cells _ ([endS]) := RdSl.blk (cap := 1) rd_b2 (by intro x hx; rfl) (by kernel_rfl) (by show 1 ≤ 9223372036854775807; decide)
 refine TX.pub (by simp) (fun H_b4 le_b4 rd_b4 => ?_)
 replace hS := hS.le le_b4
 have hQ : RdSl H_b4 4 SProc.cells _ ([⟨sMain, [], nS, [], nS, [endS], (some ⟨b2, 0, none⟩, 1)⟩]) := RdSl.blk (cap := 1) rd_b4 (by intro x hx; rfl) (by kernel_rfl) (by show 1 ≤ 9223372036854775807; decide)
 exact TX.seqN (TC.ret (TX.fin0 (.inr rfl) (results1 rfl (RVal.cellA rfl (.here _) rfl)) ⟨(some ⟨b2, 0, none⟩, 1), (some ⟨b4, 0, none⟩, 1), rfl, stop_prog hS hQ⟩))
theorem check_nil {H : Hp} (hM : MaxG H) : Fn Tryz.prog 13 [.agg #[.slice none 0 0, .slice none 0 0, .slice none 0 0]] H (fun v H2 => v = .agg (SFault.cells ⟨1504, -1, -1⟩).toArray) := by
 have := check_ok (nil_ok H) hM
 rw [nil_check] at this
 exact this
set_option maxHeartbeats 8000000 in
theorem first15_ok {H : Hp} (hM : MaxG H) :
  Fn Tryz.prog 9 [] H (fun v H2 => v = .bool true) := by
 refine Fn.enter Tryz.func9 Tryz.ntmps9 rfl rfl (fun w0 => ?_)
 refine zm212 ?_
 refine TL.call (enters rfl rfl rfl rfl) (stop_ok) rfl (fun v1 H1 hle1 hp1 => ?_)
 obtain ⟨sp1, qp1, rfl, hP1⟩ := hp1
 replace hM := hM.le hle1
 refine TL.call (enters rfl rfl rfl rfl) (check_ok hP1 hM) rfl (fun v2 H2 hle2 hp2 => ?_)
 replace hM := hM.le hle2
 rw [stop_check] at hp2
 subst hp2
 refine zm14 ?_; refine TL.run (pr_eqA (r := true) rfl rfl (by kernel_rfl) (by kernel_rfl) (by kernel_rfl)) rfl ?_; refine zm0 ?_
 refine TL.split (s := 5) rfl (fun g5 => ?_) (fun g5 => ?_)
 ·
  refine TL.gdY rfl rfl (pr_build rfl rfl) rfl (TL.callY rfl rfl (enters rfl rfl rfl rfl) (check_nil hM) rfl (fun v7 H7 hle7 hp7 => ?_))
  replace hM := hM.le hle7
  subst hp7
  refine TL.gdY rfl rfl (pr_build rfl rfl) rfl (TL.gdY rfl rfl (pr_eqA (r := true) rfl rfl (by kernel_rfl) (by kernel_rfl) (by kernel_rfl)) rfl ?_); refine zm9 ?_
  refine TL.split (s := 11) rfl (fun g11 => ?_) (fun g11 => ?_)
  ·
   refine TL.callY rfl rfl (enters rfl rfl rfl rfl) (stop_ok) rfl (fun v12 H12 hle12 hp12 => ?_)
   obtain ⟨sp12, qp12, rfl, hP12⟩ := hp12
   replace hM := hM.le hle12
   refine TL.callSY rfl rfl (enters rfl rfl rfl rfl) (sFind_ok sMain hP12) rfl ?_; refine zm17 ?_
   refine TL.split (s := 16) rfl (fun g16 => ?_) (fun g16 => ?_)
   ·
    have q16 := of_decide_eq_true g16
    refine TL.callY rfl rfl (enters rfl rfl rfl rfl) (stop_ok) rfl (fun v17 H17 hle17 hp17 => ?_)
    obtain ⟨sp17, qp17, rfl, hP17⟩ := hp17
    replace hM := hM.le hle17
    refine TL.callSY rfl rfl (enters rfl rfl rfl rfl) (sFind_ok [120] hP17) rfl ?_; refine zm17 ?_
    refine TL.split (s := 21) rfl (fun g21 => ?_) (fun g21 => ?_)
    ·
     have q21 := of_decide_eq_true g21
     refine TL.callY rfl rfl (enters rfl rfl rfl rfl) (stop_ok) rfl (fun v22 H22 hle22 hp22 => ?_)
     obtain ⟨sp22, qp22, rfl, hP22⟩ := hp22
     replace hM := hM.le hle22
     refine TL.callY rfl rfl (enters rfl rfl rfl rfl) (rise_ok hP22 hM) rfl (fun v23 H23 hle23 hp23 => ?_)
     obtain ⟨pg23, rfl, hP23, hB23⟩ := hp23
     have hN23 := stop_rise hB23
     refine TL.gdY rfl rfl (pr_fieldV (off := 2) rfl (by kernel_rfl) rfl) rfl (TL.gdY rfl rfl (pr_lenSl rfl rfl hP23.q) rfl ?_); refine zm8 ?_
     exact zq1099
    ·
     have q21 := of_decide_eq_false g21
     exact zq1105
   ·
    have q16 := of_decide_eq_false g16
    exact zq1110
  · exact zq1115
 ·
  refine zm119 ?_
  exact zq1115
end Go.Sx
namespace Go.Sx
open Go
theorem dec_step {u : Nat} (h : 10 ≤ u) : Lib.decDigits u = Lib.decDigits (u / 10) ++ [UInt8.ofNat (48 + u % 10)] := by
  rw [Lib.decDigits, dif_neg (by omega)]
theorem dec_len (k : Nat) : ∀ u : Nat, u < 10 ^ k → (Lib.decDigits u).length ≤ max k 1 := by
  induction k with
  | zero => intro u h; have : u = 0 := by simpa using h
            subst this; rw [Lib.decDigits_one (by decide)]; simp
  | succ k ih =>
    intro u h
    by_cases h10 : u < 10
    · rw [Lib.decDigits_one h10]; simp
    · rw [dec_step (by omega)]
      have := ih (u / 10) (by rw [Nat.pow_succ] at h; omega)
      simp only [List.length_append, List.length_cons, List.length_nil]
      have h2 : 1 ≤ (Lib.decDigits (u / 10)).length := by
        rw [Lib.decDigits]; split <;> simp
      rcases Nat.eq_zero_or_pos k with rfl | hk
      · simp at h; omega
      · omega
def DigI (m u z : Nat) (o : List UInt8) : Prop := m ≤ 9223372036854775808 ∧ ((o = [] ∧ u = m ∧ z = 1) ∨ (o ≠ [] ∧ z = 0 ∧ u ≤ m ∧ (if u = 0 then o else Lib.decDigits u ++ o) = Lib.decDigits m))
section
variable {m u z : Nat} {o : List UInt8} {n : Int}
theorem DigI.zero (h0 : -9223372036854775808 ≤ n) (h1 : n ≤ 9223372036854775807) : DigI n.natAbs n.natAbs 1 [] := ⟨by omega, .inl ⟨rfl, rfl, rfl⟩⟩
theorem DigI.lt (h : DigI m u z o) : u < 18446744073709551616 := by
  obtain ⟨h0, ⟨_, h, _⟩ | ⟨_, _, h, _⟩⟩ := h <;> omega
theorem DigI.len (h : DigI m u z o) : o.length ≤ 20 := by
  obtain ⟨h0, ⟨h, _⟩ | ⟨_, _, _, h⟩⟩ := h
  · rw [h]; simp
  · have h2 := dec_len 20 m (by have : (10 : Nat) ^ 20 = 100000000000000000000 := by decide
                                omega)
    have h3 := congrArg List.length h
    split at h3
    · omega
    · simp only [List.length_append] at h3; omega
theorem DigI.next (h : DigI m u z o) (hg : 0 < u ∨ o.length = 0) : DigI m (u / 10) 0 ([UInt8.ofNat (48 + u % 10)] ++ o) := by
  obtain ⟨h0, h⟩ := h
  refine ⟨h0, .inr ⟨by simp, rfl, ?_, ?_⟩⟩
  · rcases h with ⟨_, rfl, _⟩ | ⟨_, _, h, _⟩ <;> omega
  · have key : 0 < u → (if u / 10 = 0 then [UInt8.ofNat (48 + u % 10)] ++ o else Lib.decDigits (u / 10) ++ ([UInt8.ofNat (48 + u % 10)] ++ o)) = Lib.decDigits u ++ o := by
      intro hu
      split
      · rw [Lib.decDigits_one (by omega), show u % 10 = u by omega]
      · rw [dec_step (u := u) (by omega)]; simp
    rcases h with ⟨rfl, rfl, _⟩ | ⟨hne, _, _, h⟩
    · rcases Nat.eq_zero_or_pos u with rfl | hu
      · rw [Lib.decDigits_one (by decide)]; rfl
      · rw [key hu]; simp
    · have hu : 0 < u := by
        rcases hg with h | h
        · exact h
        · exact absurd (List.length_eq_zero_iff.1 h) hne
      rw [key hu, ← h, if_neg (by omega)]
theorem DigI.down (h : DigI m u z o) (hg : 0 < u ∨ o.length = 0) : u / 10 + 0 < u + z := by
  obtain ⟨h0, ⟨_, _, rfl⟩ | ⟨hne, rfl, _, _⟩⟩ := h
  · omega
  · rcases hg with h | h
    · omega
    · exact absurd (List.length_eq_zero_iff.1 h) hne
theorem dgo_1 (h : decide ((0 : Int) < (u : Int)) = true) : true = (decide (0 < u) || decide (o.length = 0)) := by
  have : 0 < u := by have := of_decide_eq_true h; omega
  simp [this]
theorem dgo_2 (h : decide ((0 : Int) < (u : Int)) = false) : decide ((o.length : Int) = 0) = (decide (0 < u) || decide (o.length = 0)) := by
  have : ¬ 0 < u := by have := of_decide_eq_false h; omega
  have e : ((o.length : Int) = 0) ↔ o.length = 0 := by omega
  simp only [this, decide_false, Bool.false_or]
  exact decide_eq_decide.2 e
theorem dgo_T (h : (decide (0 < u) || decide (o.length = 0)) = true) : 0 < u ∨ o.length = 0 := by simpa only [Bool.or_eq_true, decide_eq_true_eq] using h
theorem dgo_F (h : (decide (0 < u) || decide (o.length = 0)) = false) : ¬ 0 < u ∧ ¬ o.length = 0 := by simpa only [Bool.or_eq_false_iff, decide_eq_false_iff_not] using h
theorem DigI.out (h : DigI m u z o) (hu : ¬ 0 < u) (ho : ¬ o.length = 0) : o = Lib.decDigits m := by
  obtain ⟨h0, ⟨rfl, _⟩ | ⟨_, _, _, h⟩⟩ := h
  · exact absurd rfl ho
  · rwa [if_pos (by omega)] at h
theorem digN_neg (hD : DigI n.natAbs u z o) (hend : ¬ 0 < u ∧ ¬ o.length = 0) (h : n < 0) : [45] ++ o = Lib.itoa n := by
  rw [hD.out hend.1 hend.2]; unfold Lib.itoa; rw [if_pos h]; rfl
theorem digN_pos (hD : DigI n.natAbs u z o) (hend : ¬ 0 < u ∧ ¬ o.length = 0) (h : ¬ n < 0) : o = Lib.itoa n := by
  rw [hD.out hend.1 hend.2]; unfold Lib.itoa; rw [if_neg h]; congr 1; omega
theorem dig_quo (h : u < 18446744073709551616) : IntKind.u64.wrap ((u : Int).tdiv 10) = ((u / 10 : Nat) : Int) := by
  rw [Int.tdiv_eq_ediv_of_nonneg (by omega)]
  simp only [IntKind.wrap, IntKind.signed, IntKind.bits]
  simp
  omega
theorem dig_byte (u : Nat) : IntKind.u8.wrap (IntKind.u64.wrap (48 + (u : Int).tmod 10)) = ((UInt8.ofNat (48 + u % 10)).toNat : Int) := by
  rw [Int.tmod_eq_emod_of_nonneg (by omega)]
  simp only [IntKind.wrap, IntKind.signed, IntKind.bits]
  simp
theorem dig_pos (h0 : -9223372036854775808 ≤ n) (h1 : n ≤ 9223372036854775807) (h : ¬ n < 0) : IntKind.u64.wrap n = (n.natAbs : Int) := by
  simp only [IntKind.wrap, IntKind.signed, IntKind.bits]
  simp
  omega
theorem dig_neg (h0 : -9223372036854775808 ≤ n) (h1 : n ≤ 9223372036854775807) (h : n < 0) : IntKind.u64.wrap (0 - IntKind.u64.wrap n) = (n.natAbs : Int) := by
  simp only [IntKind.wrap, IntKind.signed, IntKind.bits]
  simp
  omega
end
end Go.Sx
namespace Go.Sx
open Go Go.Proofs
set_option maxHeartbeats 1000000 in
theorem digits0_ok {H : Hp} (n : Int) (h0 : -9223372036854775808 ≤ n) (h1 : n ≤ 9223372036854775807) (hn : ¬ n < 0) :
  FnS Tryz.prog 181 [.int .i64 n] H (gs (Lib.itoa n)) := by
 refine FnS.enter Tryz.func181 Tryz.ntmps181 rfl rfl (fun w0 => ?_)
 refine zm105 ?_; refine TL.run (PR.to (pr_conv rfl) (congrArg (Value.int .u64) (dig_pos h0 h1 hn))) rfl ?_; refine zm123 ?_
 refine TC.condD rfl (fun c8 => ?_) (fun c8 => ?_)
 · exact absurd c8 hn
 · exact TC.skip (zq1120)
set_option maxHeartbeats 1000000 in
theorem digits1_ok {H : Hp} (n : Int) (h0 : -9223372036854775808 ≤ n) (h1 : n ≤ 9223372036854775807) (hn : n < 0) :
  FnS Tryz.prog 181 [.int .i64 n] H (gs (Lib.itoa n)) := by
 refine FnS.enter Tryz.func181 Tryz.ntmps181 rfl rfl (fun w0 => ?_)
 refine zm105 ?_; refine TL.run (pr_conv rfl) rfl ?_; refine zm123 ?_
 refine TC.condD rfl (fun c8 => ?_) (fun c8 => ?_)
 ·
  refine zm66 ?_; refine TL.run (PR.to (pr_pure rfl) (congrArg (Value.int .u64) (dig_neg h0 h1 hn))) rfl ?_; refine zm37 ?_
  exact zq1120
 · exact absurd hn c8
theorem digits_ok {H : Hp} (n : Int) (h0 : -9223372036854775808 ≤ n) (h1 : n ≤ 9223372036854775807) : FnS Tryz.prog 181 [.int .i64 n] H (gs (Lib.itoa n)) := by
 by_cases hn : n < 0
 · exact digits1_ok n h0 h1 hn
 · exact digits0_ok n h0 h1 hn
end Go.Sx
namespace Go.Sx
open Go
inductive CT where
  | int
  | str (p : Str → Prop)
  | sl (t : Nat)
structure Sig where
  f : Nat → Option (Nat × Nat)
  N : Nat
instance : CoeFun Sig (fun _ => Nat → Option (Nat × Nat)) := ⟨Sig.f⟩
def Sig.le (S S' : Sig) : Prop := (∀ b x, S b = some x → S' b = some x) ∧ S.N ≤ S'.N
theorem Sig.le.refl (S : Sig) : S.le S := ⟨fun _ _ h => h, Nat.le_refl _⟩
theorem Sig.le.trans {A B C : Sig} (h : A.le B) (k : B.le C) : A.le C := ⟨fun b x hx => k.1 b x (h.1 b x hx), Nat.le_trans h.2 k.2⟩
def Sig.up (S : Sig) (k : Nat) : Sig := { S with N := S.N + k }
theorem Sig.le_up (S : Sig) (k : Nat) : S.le (S.up k) := ⟨fun _ _ h => h, Nat.le_add_right _ _⟩
def VarNm (s : Str) : Prop := s = [] ∨ s = [99] ∨ s = [110] ∨ s = [99, 57] ∨ ∃ ds : Str, s = 118 :: ds ∧ ds.length ≤ 10 ∧ ∀ c ∈ ds, 48 ≤ c ∧ c ≤ 57
def AnyNm (s : Str) : Prop := s.length ≤ 1000
def PNm (s : Str) : Prop := s.length ≤ 1000 ∧ s ≠ [109, 111, 114, 101]
def ctOf : Nat → List CT
  | 0 => [.int, .str VarNm, .int, .str AnyNm, .int, .int]
  | 1 => [.str AnyNm, .str VarNm, .int]
  | 2 => [.str AnyNm, .str PNm, .sl 4]
  | 3 => [.int, .str VarNm, .str AnyNm, .str AnyNm, .str PNm, .int, .sl 4, .sl 2, .sl 1, .int]
  | _ => [.int]
def kT (t : Nat) : Nat := (ctOf t).length
theorem kT_pos : ∀ t, 0 < kT t
  | 0 | 1 | 2 | 3 => by decide
  | n + 4 => by simp [kT, ctOf]
def SlT (S : Sig) (t : Nat) (a : Option Addr) (n c : Nat) : Prop :=
  (a = none ∧ n = 0 ∧ c = 0) ∨ ∃ b j m, a = some ⟨b, j * kT t, none⟩ ∧ S b = some (t, m) ∧ n ≤ c ∧ j + c ≤ m ∧ c ≤ 9223372036854775807
theorem SlT.nil {S : Sig} {t : Nat} : SlT S t none 0 0 := .inl ⟨rfl, rfl, rfl⟩
theorem SlT.le {S S' : Sig} {t : Nat} {a : Option Addr} {n c : Nat} (h : SlT S t a n c) (hl : S.le S') : SlT S' t a n c := by
  rcases h with h | ⟨b, j, m, h1, h2, h3⟩
  · exact .inl h
  · exact .inr ⟨b, j, m, h1, hl.1 _ _ h2, h3⟩
theorem SlT.max {S : Sig} {t : Nat} {a : Option Addr} {n c : Nat} (h : SlT S t a n c) : n ≤ 9223372036854775807 := by
  rcases h with ⟨_, h, _⟩ | ⟨b, j, m, _, _, h1, _, h2⟩ <;> omega
def CTy (H : Hp) (S : Sig) : CT → Value → Prop
  | .int, v => ∃ i, v = .int .i64 i
  | .str p, v => ∃ s, v = gs s ∧ p s
  | .sl t, v => ∃ a n c, v = .slice a n c ∧ SlT S t a n c ∧ n ≤ S.N
theorem CTy.le {H H' : Hp} {S S' : Sig} {ct : CT} {v : Value} (h : CTy H S ct v) (hH : H.le H') (hS : S.le S') : CTy H' S' ct v := by
  cases ct with
  | int => exact h
  | str p => exact h
  | sl t =>
    obtain ⟨a, n, c, e, hs, hn⟩ := h
    exact ⟨a, n, c, e, hs.le hS, Nat.le_trans hn hS.2⟩
theorem CTy.one {H : Hp} {S : Sig} {ct : CT} {v : Value} (h : CTy H S ct v) : v.oneCell' = true := by
  cases ct with
  | int => obtain ⟨i, rfl⟩ := h; rfl
  | str p => obtain ⟨s, rfl, _⟩ := h; rfl
  | sl t => obtain ⟨a, n, c, rfl, _⟩ := h; rfl
def AllT (H : Hp) (S : Sig) : List CT → List Value → Prop
  | [], [] => True
  | c :: cs, v :: vs => CTy H S c v ∧ AllT H S cs vs
  | _, _ => False
theorem AllT.len {H : Hp} {S : Sig} : ∀ {cs : List CT} {vs : List Value}, AllT H S cs vs → vs.length = cs.length
  | [], [], _ => rfl
  | c :: cs, v :: vs, h => by simp [AllT.len h.2]
  | [], _ :: _, h => h.elim
  | _ :: _, [], h => h.elim
theorem AllT.at {H : Hp} {S : Sig} : ∀ {cs : List CT} {vs : List Value}, AllT H S cs vs → ∀ {j : Nat} {u : Value}, vs[j]? = some u → ∃ ct, cs[j]? = some ct ∧ CTy H S ct u
  | [], [], _, j, u, hu => by simp at hu
  | c :: cs, v :: vs, h, 0, u, hu => by simp at hu; subst hu; exact ⟨c, rfl, h.1⟩
  | c :: cs, v :: vs, h, j + 1, u, hu => by
    obtain ⟨ct, h1, h2⟩ := AllT.at h.2 (j := j) (u := u) (by simpa using hu)
    exact ⟨ct, by simpa using h1, h2⟩
  | [], _ :: _, h, _, _, _ => h.elim
  | _ :: _, [], h, _, _, _ => h.elim
theorem AllT.of {H : Hp} {S : Sig} : ∀ {cs : List CT} {vs : List Value}, vs.length = cs.length → (∀ (j : Nat) (ct : CT), cs[j]? = some ct → ∃ u, vs[j]? = some u ∧ CTy H S ct u) → AllT H S cs vs
  | [], [], _, _ => trivial
  | c :: cs, v :: vs, hl, h => by
    obtain ⟨u, h1, h2⟩ := h 0 c rfl
    simp at h1; subst h1
    exact ⟨h2, AllT.of (by simpa using hl) (fun j ct hj => by simpa using h (j + 1) ct (by simpa using hj))⟩
  | [], _ :: _, h, _ => by simp at h
  | _ :: _, [], h, _ => by simp at h
structure Bag (H : Hp) (S : Sig) (B : Blks) : Prop where
  ty : ∀ p ∈ B, ∃ t m, S p.1 = some (t, m) ∧ p.2.length = m * kT t ∧ ∀ (o : Nat) (u : Value), p.2[o]? = some u → ∃ ct, (ctOf t)[o % kT t]? = some ct ∧ CTy H S ct u
  mem : ∀ b t m, S b = some (t, m) → ∃ cs, (b, cs) ∈ B
def Sig.nil : Sig := ⟨fun _ => none, 10⟩
theorem Bag.nil {H : Hp} : Bag H Sig.nil [] := ⟨by simp, by simp [Sig.nil]⟩
theorem Bag.leH {H H' : Hp} {S : Sig} {B : Blks} (h : Bag H S B) (hl : H.le H') : Bag H' S B :=
  ⟨fun p hp => by
    obtain ⟨t, m, h1, h2, h3⟩ := h.ty p hp
    refine ⟨t, m, h1, h2, fun o u hu => ?_⟩
    obtain ⟨ct, h4, h5⟩ := h3 o u hu
    exact ⟨ct, h4, h5.le hl (.refl S)⟩, h.mem⟩
theorem Bag.up {H : Hp} {S : Sig} {B : Blks} (h : Bag H S B) (k : Nat) : Bag H (S.up k) B :=
  ⟨fun p hp => by
    obtain ⟨t, m, h1, h2, h3⟩ := h.ty p hp
    refine ⟨t, m, h1, h2, fun o u hu => ?_⟩
    obtain ⟨ct, h4, h5⟩ := h3 o u hu
    exact ⟨ct, h4, h5.le (.refl H) (Sig.le_up S k)⟩, h.mem⟩
theorem Bag.perm {H : Hp} {S : Sig} {B B' : Blks} (h : Bag H S B) (hp : B.Perm B') : Bag H S B' :=
  ⟨fun p hm => h.ty p (hp.mem_iff.2 hm), fun b t m hs => by
    obtain ⟨cs, hc⟩ := h.mem b t m hs
    exact ⟨cs, hp.mem_iff.1 hc⟩⟩
theorem Bag.take {H : Hp} {S : Sig} {B : Blks} {b t m : Nat} (h : Bag H S B) (hS : S b = some (t, m)) : ∃ cs R, B.Perm ((b, cs) :: R) ∧ cs.length = m * kT t ∧ ∀ (o : Nat) (u : Value), cs[o]? = some u → ∃ ct, (ctOf t)[o % kT t]? = some ct ∧ CTy H S ct u := by
  obtain ⟨cs, hc⟩ := h.mem b t m hS
  obtain ⟨X, Y, rfl⟩ := List.append_of_mem hc
  obtain ⟨t', m', h1, h2, h3⟩ := h.ty _ hc
  rw [hS] at h1
  cases h1
  exact ⟨cs, X ++ Y, List.perm_middle, h2, h3⟩
theorem Bag.back {H : Hp} {S : Sig} {R : Blks} {b t m : Nat} {cs cs' : List Value} (h : Bag H S ((b, cs) :: R)) (hS : S b = some (t, m)) (hl : cs'.length = m * kT t)
    (hc : ∀ (o : Nat) (u : Value), cs'[o]? = some u → ∃ ct, (ctOf t)[o % kT t]? = some ct ∧ CTy H S ct u) : Bag H S ((b, cs') :: R) :=
  ⟨fun p hp => by
    rcases List.mem_cons.1 hp with rfl | hp
    · exact ⟨t, m, hS, hl, hc⟩
    · exact h.ty p (List.mem_cons_of_mem _ hp),
   fun b' t' m' hs => by
    obtain ⟨c, hm⟩ := h.mem b' t' m' hs
    rcases List.mem_cons.1 hm with e | hm
    · cases e; exact ⟨cs', by simp⟩
    · exact ⟨c, List.mem_cons_of_mem _ hm⟩⟩
def Sig.put (S : Sig) (b t m : Nat) : Sig := ⟨fun x => if x = b then some (t, m) else S x, S.N⟩
theorem Sig.le_put {S : Sig} {b t m : Nat} (h : S b = none) : S.le (S.put b t m) := ⟨fun x y hx => by
  simp only [Sig.put]
  split
  · rename_i e; subst e; rw [h] at hx; cases hx
  · exact hx, Nat.le_refl _⟩
theorem Sig.put_at {S : Sig} {b t m : Nat} : (S.put b t m) b = some (t, m) := by simp [Sig.put]
theorem Bag.add {H : Hp} {S : Sig} {B : Blks} {b t m : Nat} {cs : List Value} (h : Bag H S B) (hb : S b = none) (hl : cs.length = m * kT t)
    (hc : ∀ (o : Nat) (u : Value), cs[o]? = some u → ∃ ct, (ctOf t)[o % kT t]? = some ct ∧ CTy H S ct u) : Bag H (S.put b t m) ((b, cs) :: B) :=
  ⟨fun p hp => by
    rcases List.mem_cons.1 hp with rfl | hp
    · refine ⟨t, m, Sig.put_at, hl, fun o u hu => ?_⟩
      obtain ⟨ct, h1, h2⟩ := hc o u hu
      exact ⟨ct, h1, h2.le (.refl H) (Sig.le_put hb)⟩
    · obtain ⟨t', m', h1, h2, h3⟩ := h.ty p hp
      refine ⟨t', m', (Sig.le_put hb).1 _ _ h1, h2, fun o u hu => ?_⟩
      obtain ⟨ct, h4, h5⟩ := h3 o u hu
      exact ⟨ct, h4, h5.le (.refl H) (Sig.le_put hb)⟩,
   fun b' t' m' hs => by
    simp only [Sig.put] at hs
    split at hs
    · rename_i e; subst e; exact ⟨cs, by simp⟩
    · obtain ⟨c, hm⟩ := h.mem b' t' m' hs
      exact ⟨c, List.mem_cons_of_mem _ hm⟩⟩
theorem Bag.none {H : Hp} {S : Sig} {B : Blks} (h : Bag H S B) {b : Nat} (hb : ∀ p ∈ B, p.1 ≠ b) : S b = none := by
  cases e : S b with
  | none => rfl
  | some x =>
    obtain ⟨cs, hc⟩ := h.mem b x.1 x.2 (by rw [e])
    exact absurd rfl (hb _ hc)
theorem set_get {cs : List Value} {o : Nat} {v : Value} {i : Nat} {u : Value} (h : (cs.set o v)[i]? = some u) : (i = o ∧ u = v) ∨ cs[i]? = some u := by
  rw [List.getElem?_set] at h
  split at h
  · split at h
    · simp only [Option.some.injEq] at h
      rename_i e _
      exact .inl ⟨e.symm, h.symm⟩
    · cases h
  · exact .inr h
theorem setCells_get {vs cs : List Value} {o i : Nat} {u : Value} (hl : o + vs.length ≤ cs.length) (h : (setCells cs o vs)[i]? = some u) : (o ≤ i ∧ vs[i - o]? = some u) ∨ cs[i]? = some u := by
  rw [setCells_eq _ _ _ hl] at h
  by_cases h1 : i < o
  · rw [List.getElem?_append_left (by simp; omega), List.getElem?_take, if_pos h1] at h
    exact .inr h
  · rw [List.getElem?_append_right (by simp; omega), List.length_take, Nat.min_eq_left (by omega)] at h
    by_cases h2 : i - o < vs.length
    · rw [List.getElem?_append_left h2] at h
      exact .inl ⟨by omega, h⟩
    · rw [List.getElem?_append_right (by omega), List.getElem?_drop] at h
      rw [show o + vs.length + (i - o - vs.length) = i by omega] at h
      exact .inr h
theorem zeroCells_get {z : Array Value} {m o : Nat} {u : Value} (hz : 0 < z.size) (h : (Builtin.zeroCells z m).toList[o]? = some u) : z.toList[o % z.size]? = some u := by
  have h1 : (Builtin.zeroCells z m)[o]? = some u := by simpa using h
  unfold Builtin.zeroCells at h1
  rw [Array.getElem?_map] at h1
  cases e : (Array.range (m * z.size))[o]? with
  | none => rw [e] at h1; simp at h1
  | some i =>
    rw [e] at h1
    obtain ⟨hlt, hi⟩ := Array.getElem?_eq_some_iff.1 e
    simp at hi
    subst hi
    have hm := Nat.mod_lt o hz
    simp only [Option.map_some, Option.some.injEq] at h1
    rw [Array.getElem!_eq_getD, Array.getD_eq_getD_getElem?, Array.getElem?_eq_getElem hm] at h1
    simp only [Option.getD_some] at h1
    subst h1
    simp [hm]
section
variable {P : Program} {n : Nat} {ops : Array Oper} {Q : Exit → Act → World → Prop} {E : Env} {M : List Nat} {w0 : World} {H0 H : Hp} {L : Blks} {C : World → Prop} {rest : List Oper} {dst : Option Nat} {op : Op} {ty : TypeId} {pos : String} {aft : Array Edge}
theorem run_appendT {α : Type} {k t e bs tt : Nat} {z : List Value} {enc : α → List Value} [hc : Cells k enc] [hE : Elz P tt e k bs z] {S : Sig} {B : Blks} {F : Blks → Blks} {a : Option Addr} {n c : Nat} {v2 : Value} {ys : List α} {ty : TypeId}
    (hB : Bag H S B) (hT : SlT S t a n c) (hS : Src M w0 H0 H L enc v2 ys) (hk : kT t = k) (hy : ∀ y ∈ ys, AllT H S (ctOf t) (enc y)) (hz : AllT H S (ctOf t) z)
    (hb : (n + ys.length) * bs ≤ 140737488355328) (hbs : 0 < bs) (hU : Tl B L F) {w : World} (hw : St M w0 H0 H L w) :
    ∃ S' a' c' B' w', (S.le S' ∧ S'.N = S.N) ∧ SlT S' t a' (n + ys.length) c' ∧ Bag H S' B' ∧ St M w0 H0 H (F B') w' ∧ (Builtin.append_ #[tt, tt] ty #[.slice a n c, v2]).run P w = .ok (.slice a' (n + ys.length) c') w' := by
  obtain ⟨hu, i, zv, hi, h1, h2, h3, h4⟩ := hE.und
  have hkp := hc.pos
  have hmax : n + ys.length ≤ 140737488355328 := Nat.le_trans (Nat.le_mul_of_pos_right _ hbs) hb
  obtain ⟨R, hp1, hp2⟩ := hU.perm
  have hwR := hw.perm hp1
  obtain ⟨a2, cap2, rfl, hsrc⟩ := hS
  have hzk : zv.cells.size = k := by rw [← hE.len, ← h4]; simp
  have hzl : ∀ m, (Builtin.zeroCells zv.cells m).toList.length = m * k := by intro m; rw [Array.length_toList, size_zeroCells, hzk]
  have hzt : ∀ m (o : Nat) (u : Value), (Builtin.zeroCells zv.cells m).toList[o]? = some u → ∃ ct, (ctOf t)[o % k]? = some ct ∧ CTy H S ct u := fun m o u hx => by
    have := zeroCells_get (by omega) hx
    rw [h4, hzk] at this
    exact hz.at this
  by_cases hys : ys = []
  · subst hys
    have hfc : ∀ w, (Builtin.firstCells i.size 0 (.slice a2 0 cap2)).run P w = .ok #[] w := by
      intro w
      cases a2 with
      | none => exact run_firstCells_none w _ _ _ _
      | some a => exact run_firstCells_some (P := P) w i.size 0 a 0 cap2 [] (by simp) (by simp)
    refine ⟨S, a, c, B, w, ⟨.refl S, rfl⟩, by simpa using hT, hB, hw.perm (hp1.trans (hp2 B).symm), ?_⟩
    rcases hT with ⟨rfl, rfl, rfl⟩ | ⟨b, j, m, rfl, hSb, hn, hjc, hcm⟩
    · simp [Builtin.append_, run_underlying hu, sizeOf, typeInfo, hi, Builtin.lenOf, hfc]
    · simp [Builtin.append_, run_underlying hu, sizeOf, typeInfo, hi, Builtin.lenOf, hfc, hn, storeCells]
  · obtain ⟨sb, so, rfl, hrd⟩ := hsrc hys
    have hrd' : ∀ j u, (ys.flatMap enc)[j]? = some u → w.cell? ((⟨sb, so, none⟩ : Addr).add j) = some u := fun j u hj => by rw [add_lit']; exact hrd w hw j u hj
    have hyl : (ys.flatMap enc).length = ys.length * k := flat_len (fun x _ => hc.len x)
    have hyl' : (ys.flatMap enc).length = ys.length * i.size := by rw [hyl, h1]
    have hypos : 0 < ys.length := List.length_pos_iff.2 hys
    have hyt : ∀ (o : Nat) (u : Value), (ys.flatMap enc)[o]? = some u → ∃ ct, (ctOf t)[o % k]? = some ct ∧ CTy H S ct u := fun o u hx => by
      obtain ⟨x, h5, h6⟩ := flat_part hkp (fun x _ => hc.len x) o u hx
      exact (hy x (List.mem_of_getElem? h5)).at h6
    have hone : ∀ u ∈ ys.flatMap enc, u.oneCell' = true := by
      intro u hu
      obtain ⟨x, _, hx⟩ := List.mem_flatMap.1 hu
      exact List.all_eq_true.1 (hc.one x) u hx
    have fresh : ∀ {X : Blks} {cs : List Value} {w' : World}, St M w0 H0 H ((w.heap.size, cs) :: (B ++ X)) w' → S w.heap.size = none := fun {X cs w'} hst => hB.none (fun p hp e => by
      have hnd := hst.nd
      simp only [List.map_cons, List.nodup_cons] at hnd
      exact hnd.1 (List.mem_map.2 ⟨p, List.mem_append_left _ hp, e⟩))
    rcases hT with ⟨rfl, rfl, rfl⟩ | ⟨b, j, m, rfl, hSb, hn, hjc, hcm⟩
    · -- the first block
      have hb0 : ys.length * i.bytes ≤ 281474976710656 := by rw [h2]; simp at hb; omega
      have hr := run_append_nil (P := P) w tt ty e i zv hu hi h3 ⟨sb, so, none⟩ ys.length cap2 (ys.flatMap enc) hyl' hrd' hypos (by simp at hmax; omega) hb0
      have hge := grownCap_ge w ys.length 0 e
      have hcm := grownCap_le_maxLen w ys.length 0 e (by simp only [maxLen]; simp at hmax; omega)
      simp only [maxLen] at hcm
      have hst := (hwR.drew).alloc ((ys.flatMap enc) ++ (Builtin.zeroCells zv.cells (grownCap w ys.length 0 e - ys.length)).toList) e
      have hlen : ((ys.flatMap enc) ++ (Builtin.zeroCells zv.cells (grownCap w ys.length 0 e - ys.length)).toList).length = grownCap w ys.length 0 e * kT t := by
        rw [List.length_append, hyl, hzl, ← Nat.add_mul, hk]; congr 1; omega
      refine ⟨S.put w.heap.size t (grownCap w ys.length 0 e), some ⟨w.heap.size, 0, none⟩, grownCap w ys.length 0 e, (w.heap.size, (ys.flatMap enc) ++ (Builtin.zeroCells zv.cells (grownCap w ys.length 0 e - ys.length)).toList) :: B, _, ⟨Sig.le_put (fresh hst), rfl⟩, .inr ⟨w.heap.size, 0, _, by simp, Sig.put_at, by omega, by omega, by omega⟩, hB.add (fresh hst) hlen (fun o u hx => ?_), hst.perm (hp2 ((_, _) :: B)).symm, ?_⟩
      · by_cases ho : o < (ys.flatMap enc).length
        · rw [List.getElem?_append_left ho] at hx; rw [hk]; exact hyt o u hx
        · rw [List.getElem?_append_right (by omega)] at hx
          have := hzt _ _ _ hx
          rw [hk]
          rw [show o % k = (o - (ys.flatMap enc).length) % k by
            rw [hyl]; conv => lhs; rw [show o = (o - ys.length * k) + ys.length * k by omega]
            rw [Nat.add_mul_mod_self_right]]
          exact this
      · rw [hr]
        congr 2
        · simp
        · simp
    · obtain ⟨cs, R2, hp3, hcl, hct⟩ := hB.take hSb
      have hB2 := hB.perm hp3
      have hw2 : St M w0 H0 H ((b, cs) :: (R2 ++ R)) w := hwR.perm (by simpa using hp3.append_right R)
      rw [hk] at hcl
      have hjm : j * k + c * k ≤ m * k := by rw [← Nat.add_mul]; exact Nat.mul_le_mul_right _ hjc
      by_cases hroom : n + ys.length ≤ c
      · -- room
        have hroomk : n * k + ys.length * k ≤ c * k := by rw [← Nat.add_mul]; exact Nat.mul_le_mul_right _ hroom
        have hfit : j * k + n * k + 0 + (ys.flatMap enc).length ≤ cs.length := by rw [hyl, hcl]; omega
        obtain ⟨w', hr, hst⟩ := run_storeCells (P := P) (ys.flatMap enc) cs (j * k + n * k) 0 _ _ w hw2 (Upd.here _) hone hfit
        have hfc := run_firstCells_some (P := P) w i.size ys.length ⟨sb, so, none⟩ ys.length cap2 (ys.flatMap enc) hyl' hrd'
        have hfit' : (j * k + n * k) + (ys.flatMap enc).length ≤ cs.length := by omega
        have hsl : (setCells cs (j * k + n * k) (ys.flatMap enc)).length = m * kT t := by
          rw [setCells_eq _ _ _ hfit', hk, ← hcl]
          simp only [List.length_append, List.length_take, List.length_drop]; omega
        refine ⟨S, some ⟨b, j * kT t, none⟩, c, (b, setCells cs (j * k + n * k) (ys.flatMap enc)) :: R2, w', ⟨.refl S, rfl⟩, .inr ⟨b, j, m, rfl, hSb, hroom, hjc, hcm⟩, hB2.back hSb hsl (fun o u hx => ?_), hst.perm (by simpa using (hp2 ((_, _) :: R2)).symm), ?_⟩
        · rcases setCells_get hfit' hx with ⟨ho, hx⟩ | hx
          · have := hyt _ _ hx
            rw [hk]
            rw [show o % k = (o - (j * k + n * k)) % k by
              conv => lhs; rw [show o = (o - (j * k + n * k)) + (j + n) * k by rw [Nat.add_mul]; omega]
              rw [Nat.add_mul_mod_self_right]]
            exact this
          · exact hct o u hx
        · have hr' : (storeCells ⟨b, j * kT t + n * i.size, none⟩ (ys.flatMap enc)).run P w = .ok () w' := by rw [h1, hk]; exact hr
          simp [Builtin.append_, run_underlying hu, sizeOf, typeInfo, hi, Builtin.lenOf, hroom, hfc, Addr.add_lit, hr']
      · -- a new block
        have hnk : n * k ≤ c * k := Nat.mul_le_mul_right _ hn
        have hol : ((cs.drop (j * k)).take (n * k)).length = n * k := by rw [List.length_take, List.length_drop, hcl]; omega
        have hog : ∀ (o : Nat) (u : Value), ((cs.drop (j * k)).take (n * k))[o]? = some u → cs[j * k + o]? = some u := fun o u hx => by
          rw [List.getElem?_take] at hx
          split at hx
          · rwa [List.getElem?_drop] at hx
          · cases hx
        have holds : ∀ o u, ((cs.drop (j * k)).take (n * k))[o]? = some u → w.cell? ((⟨b, j * kT t, none⟩ : Addr).add o) = some u := by
          intro o u hj
          rw [add_lit', hk, hw2.cell (.here _)]
          exact hog o u hj
        have hr := run_append_grow (P := P) w tt ty e i zv hu hi h3 ⟨b, j * kT t, none⟩ n c ((cs.drop (j * k)).take (n * k)) (by rw [hol, h1]) holds ⟨sb, so, none⟩ ys.length cap2 (ys.flatMap enc) hyl' hrd' (by omega) (by omega) (growslice_fits (by omega) (by rw [h2]; exact hb))
        have hge := grownCap_ge w (n + ys.length) c e
        have hcm2 := grownCap_le_maxLen w (n + ys.length) c e (by simp only [maxLen]; omega)
        simp only [maxLen] at hcm2
        have hst := (hwR.drew).alloc (((cs.drop (j * k)).take (n * k)) ++ (ys.flatMap enc) ++ (Builtin.zeroCells zv.cells (grownCap w (n + ys.length) c e - (n + ys.length))).toList) e
        have hlen : (((cs.drop (j * k)).take (n * k)) ++ (ys.flatMap enc) ++ (Builtin.zeroCells zv.cells (grownCap w (n + ys.length) c e - (n + ys.length))).toList).length = grownCap w (n + ys.length) c e * kT t := by
          rw [List.length_append, List.length_append, hol, hyl, hzl, ← Nat.add_mul, ← Nat.add_mul, hk]; congr 1; omega
        refine ⟨S.put w.heap.size t (grownCap w (n + ys.length) c e), some ⟨w.heap.size, 0, none⟩, grownCap w (n + ys.length) c e, (w.heap.size, ((cs.drop (j * k)).take (n * k)) ++ (ys.flatMap enc) ++ (Builtin.zeroCells zv.cells (grownCap w (n + ys.length) c e - (n + ys.length))).toList) :: B, _, ⟨Sig.le_put (fresh hst), rfl⟩, .inr ⟨w.heap.size, 0, _, by simp, Sig.put_at, by omega, by omega, by omega⟩, hB.add (fresh hst) hlen (fun o u hx => ?_), hst.perm (hp2 ((_, _) :: B)).symm, ?_⟩
        · rw [hk]
          by_cases ho : o < n * k
          · rw [List.append_assoc, List.getElem?_append_left (by rw [hol]; exact ho)] at hx
            have := hct _ _ (hog o u hx)
            rw [hk, Nat.mul_comm, Nat.mul_add_mod] at this
            exact this
          · rw [List.append_assoc, List.getElem?_append_right (by rw [hol]; omega), hol] at hx
            have hoe : o % k = (o - n * k) % k := by
              conv => lhs; rw [show o = (o - n * k) + n * k by omega]
              rw [Nat.add_mul_mod_self_right]
            rw [hoe]
            by_cases ho2 : o - n * k < (ys.flatMap enc).length
            · rw [List.getElem?_append_left ho2] at hx; exact hyt _ u hx
            · rw [List.getElem?_append_right (by omega)] at hx
              have := hzt _ _ _ hx
              rw [show (o - n * k) % k = (o - n * k - (ys.flatMap enc).length) % k by
                rw [hyl]; conv => lhs; rw [show o - n * k = (o - n * k - ys.length * k) + ys.length * k by omega]
                rw [Nat.add_mul_mod_self_right]]
              exact this
        · rw [hr]
          congr 2
          congr 1
          apply Array.ext'; simp
theorem TL.apT {α : Type} {k t e bs tt : Nat} {z : List Value} {enc : α → List Value} [hc : Cells k enc] {cl : Call} {x y : Operand} {S : Sig} {B : Blks} {F : Blks → Blks} {a : Option Addr} {m c : Nat} {v2 : Value} {ys : List α}
    (hcl : cl = { callee := .builtin .append, args := #[x, y], argTypes := #[tt, tt] }) (hx : ev E x = some (.slice a m c)) (hy : ev E y = some v2) (hB : Bag H S B) (hT : SlT S t a m c) (hS : Src M w0 H0 H L enc v2 ys)
    [hE : Elz P tt e k bs z] (hk : kT t = k) (hyt : ∀ y ∈ ys, AllT H S (ctOf t) (enc y)) (hz : AllT H S (ctOf t) z) (hb : (m + ys.length) * bs ≤ 140737488355328) (hbs : Nat.blt 0 bs = true) (hU : Tl B L F) (hd : fits dst n = true)
    (h : ∀ S' a' c' B', S.le S' → S'.N = S.N + ys.length → SlT S' t a' (m + ys.length) c' → Bag H S' B' → TL P n ops Q rest (putE dst (.slice a' (m + ys.length) c') E) (St M w0 H0 H (F B'))) :
    TL P n ops Q ({ dst := dst, op := .call cl, type := ty, pos := pos, after := aft, guard := none } :: rest) E (St M w0 H0 H L) := by
  intro a0 w he hw
  refine wpW_plain rfl (fun K hK => ?_)
  obtain ⟨S', a', c', B', w', h0, h1, h2, h3, h4⟩ := run_appendT (P := P) (tt := tt) (ty := ty) hB hT hS hk hyt hz hb (by simpa [Nat.blt_eq] using hbs) hU hw
  have hrun : (execOp a0.eval { dst := dst, op := .call cl, type := ty, pos := pos, after := aft, guard := none }).run P w = .ok (.value (.slice a' (m + ys.length) c')) w' := by
    subst hcl
    simp [execOp, resolve, invoke, builtin, he.eval hx, he.eval hy, h4]
  unfold Oper.wp
  rw [hrun]
  exact hK _ _ (h (S'.up ys.length) a' c' B' (h0.1.trans (Sig.le_up _ _)) (by simp only [Sig.up]; rw [h0.2]) (h1.le (Sig.le_up _ _)) (h2.up _) _ _ (he.put hd) h3)
theorem TL.stT {t m b o k1 : Nat} {x y : Operand} {u : Value} {ct : CT} {S : Sig} {B : Blks} {F : Blks → Blks} {tt : TypeId} (hx : ev E x = some (.pointer (some ⟨b, o, none⟩))) (hy : ev E y = some u) (hB : Bag H S B) (hU : Tl B L F) (hS : S b = some (t, m)) (ho : o < m * kT t) (hct : (ctOf t)[o % kT t]? = some ct)
    (hu : CTy H S ct u) [ht : Ty P tt false k1] [h1 : One u] (hk : k1 = 1) (hd : fits dst n = true) (h : ∀ B', Bag H S B' → TL P n ops Q rest (putE dst undef E) (St M w0 H0 H (F B'))) :
    TL P n ops Q ({ dst := dst, op := .store tt x y, type := ty, pos := pos, after := aft, guard := none } :: rest) E (St M w0 H0 H L) := by
  obtain ⟨cs, R2, hp3, hcl, hty⟩ := hB.take hS
  obtain ⟨R, hp1, hp2⟩ := hU.perm
  have hlt : o < cs.length := by rw [hcl]; exact ho
  have hp : L.Perm ((b, cs) :: (R2 ++ R)) := hp1.trans (by simpa using hp3.append_right R)
  refine TL.permL hp (TL.store1 (b := b) (o := o) hx hy hk (.here _) (by rw [Nat.blt_eq]; exact hlt) hd ?_)
  have hB' : Bag H S ((b, cs.set o u) :: R2) := (hB.perm hp3).back hS (by rw [List.length_set]; exact hcl) (fun i v hv => by
    rcases set_get hv with ⟨rfl, rfl⟩ | hv
    · exact ⟨ct, hct, hu⟩
    · exact hty i v hv)
  exact TL.permL (by simpa using (hp2 ((b, cs.set o u) :: R2)).symm) (h _ hB')
end
theorem SlT.at {S : Sig} {t : Nat} {a : Option Addr} {n c : Nat} (h : SlT S t a n c) (hn : 0 < n) : ∃ b j m, a = some ⟨b, j * kT t, none⟩ ∧ S b = some (t, m) ∧ j + n ≤ m := by
  rcases h with ⟨_, rfl, _⟩ | ⟨b, j, m, h1, h2, h3, h4, _⟩
  · omega
  · exact ⟨b, j, m, h1, h2, by omega⟩
theorem bag_lt {j n m k i f : Nat} (h : j + n ≤ m) (hi : i < n) (hf : f < k) : j * k + i * k + f < m * k := by
  have h1 : (j + i + 1) * k ≤ m * k := Nat.mul_le_mul_right _ (by omega)
  rw [Nat.succ_mul, Nat.add_mul] at h1
  omega
theorem bag_mod {j k i f : Nat} (hf : f < k) : (j * k + i * k + f) % k = f := by
  rw [← Nat.add_mul, Nat.add_comm, Nat.add_mul_mod_self_right, Nat.mod_eq_of_lt hf]
theorem St.pubL {M : List Nat} {w0 : World} {H0 : Hp} {R : Blks} : ∀ {B : Blks} {H : Hp} {w : World}, St M w0 H0 H (B ++ R) w → (∀ p ∈ B, p.1 ∉ M) → ∃ H', H.le H' ∧ (∀ p ∈ B, ∀ (o : Nat) (u : Value), p.2[o]? = some u → H' p.1 o = some u) ∧ St M w0 H0 H' R w
  | [], H, w, hw, _ => ⟨H, .refl H, by simp, hw⟩
  | (b, cs) :: B, H, w, hw, hM => by
    have h1 := hw.publish (hM (b, cs) (by simp))
    obtain ⟨H', h2, h3, h4⟩ := St.pubL (B := B) h1 (fun p hp => hM p (List.mem_cons_of_mem _ hp))
    refine ⟨H', hw.le_add.trans h2, fun p hp o u hu => ?_, h4⟩
    rcases List.mem_cons.1 hp with rfl | hp
    · exact h2 _ _ _ (by simp only [Hp.add, if_true]; exact hu)
    · exact h3 p hp o u hu
structure BagH (H : Hp) (S : Sig) : Prop where
  get : ∀ b t m, S b = some (t, m) → ∀ o, o < m * kT t → ∃ ct u, (ctOf t)[o % kT t]? = some ct ∧ H b o = some u ∧ CTy H S ct u
theorem BagH.le {H H' : Hp} {S : Sig} (h : BagH H S) (hl : H.le H') : BagH H' S := ⟨fun b t m hS o ho => by
  obtain ⟨ct, u, h1, h2, h3⟩ := h.get b t m hS o ho
  exact ⟨ct, u, h1, hl _ _ _ h2, h3.le hl (.refl S)⟩⟩
theorem St.pubB {M : List Nat} {w0 w : World} {H0 H : Hp} {L B : Blks} {F : Blks → Blks} {S : Sig} (hB : Bag H S B) (hU : Tl B L F) (hM : ∀ p ∈ B, p.1 ∉ M) (hw : St M w0 H0 H L w) : ∃ H', H.le H' ∧ BagH H' S ∧ St M w0 H0 H' (F []) w := by
  obtain ⟨R, hp1, hp2⟩ := hU.perm
  obtain ⟨H', h1, h2, h3⟩ := St.pubL (hw.perm hp1) hM
  refine ⟨H', h1, ⟨fun b t m hS o ho => ?_⟩, h3.perm (by simpa using (hp2 []).symm)⟩
  obtain ⟨cs, hc⟩ := hB.mem b t m hS
  obtain ⟨t', m', e, hl, hty⟩ := hB.ty _ hc
  rw [hS] at e
  cases e
  have hlt : o < cs.length := by rw [hl]; exact ho
  obtain ⟨ct, h4, h5⟩ := hty o cs[o] (List.getElem?_eq_getElem hlt)
  exact ⟨ct, cs[o], h4, h2 _ hc o _ (List.getElem?_eq_getElem hlt), h5.le h1 (.refl S)⟩
theorem list_of {α : Type} {p : Nat → α → Prop} : ∀ {n : Nat}, (∀ i, i < n → ∃ x, p i x) → ∃ xs : List α, xs.length = n ∧ ∀ i x, xs[i]? = some x → p i x
  | 0, _ => ⟨[], rfl, by simp⟩
  | n + 1, h => by
    obtain ⟨xs, hl, hx⟩ := list_of (n := n) (fun i hi => h i (by omega))
    obtain ⟨y, hy⟩ := h n (by omega)
    refine ⟨xs ++ [y], by simp [hl], fun i x hi => ?_⟩
    by_cases hin : i < n
    · rw [List.getElem?_append_left (by omega)] at hi; exact hx i x hi
    · rw [List.getElem?_append_right (by omega)] at hi
      have : i - xs.length = 0 := by
        have := (List.getElem?_eq_some_iff.1 hi).1
        simp at this; omega
      rw [this] at hi
      simp at hi
      subst hi
      rwa [show i = n by omega]
theorem BagH.elem {H : Hp} {S : Sig} {t b m e : Nat} (h : BagH H S) (hS : S b = some (t, m)) (he : e < m) : ∃ cs, AllT H S (ctOf t) cs ∧ ∀ (j : Nat) (u : Value), cs[j]? = some u → H b (e * kT t + j) = some u := by
  have hk := kT_pos t
  obtain ⟨cs, hl, hc⟩ := list_of (n := kT t) (p := fun j u => H b (e * kT t + j) = some u ∧ ∃ ct, (ctOf t)[j]? = some ct ∧ CTy H S ct u) (fun j hj => by
    have hlt : e * kT t + j < m * kT t := by
      have : (e + 1) * kT t ≤ m * kT t := Nat.mul_le_mul_right _ (by omega)
      rw [Nat.succ_mul] at this; omega
    obtain ⟨ct, u, h1, h2, h3⟩ := h.get b t m hS _ hlt
    rw [Nat.mul_comm, Nat.mul_add_mod, Nat.mod_eq_of_lt hj] at h1
    exact ⟨u, h2, ct, h1, h3⟩)
  refine ⟨cs, AllT.of hl (fun j ct hj => ?_), fun j u hu => (hc j u hu).1⟩
  have hjl : j < cs.length := by rw [hl]; exact (List.getElem?_eq_some_iff.1 hj).1
  obtain ⟨h1, ct', h2, h3⟩ := hc j cs[j] (List.getElem?_eq_getElem hjl)
  rw [hj] at h2
  cases h2
  exact ⟨cs[j], List.getElem?_eq_getElem hjl, h3⟩
theorem SlT.list {α : Type} {k : Nat} {enc : α → List Value} [hc : Cells k enc] {H : Hp} {S : Sig} {t : Nat} {a : Option Addr} {n c : Nat} {p : α → Prop} (hT : SlT S t a n c) (hk : kT t = k) (hB : BagH H S) (hd : ∀ cs, AllT H S (ctOf t) cs → ∃ x, cs = enc x ∧ p x) : ∃ xs : List α, xs.length = n ∧ RdSl H k enc (.slice a n c) xs ∧ ∀ x ∈ xs, p x := by
  rcases hT with ⟨rfl, rfl, rfl⟩ | ⟨b, j, m, rfl, hS, hn, hj, hm⟩
  · exact ⟨[], rfl, ⟨⟨_, _, rfl⟩, by simp, fun h => absurd rfl h, fun i x hx => by simp at hx, fun a n c _ => by simp⟩, by simp⟩
  · obtain ⟨xs, hl, hx⟩ := list_of (n := n) (p := fun i x => p x ∧ ∀ (f : Nat) (u : Value), (enc x)[f]? = some u → H b (j * k + i * k + f) = some u) (fun i hi => by
      obtain ⟨cs, h1, h2⟩ := hB.elem hS (e := j + i) (by omega)
      obtain ⟨x, rfl, hp⟩ := hd cs h1
      refine ⟨x, hp, fun f u hu => ?_⟩
      have := h2 f u hu
      rwa [hk, Nat.add_mul] at this)
    refine ⟨xs, hl, ⟨⟨_, _, by rw [hl]⟩, by omega, fun _ => ⟨c, by rw [hl]; rfl⟩, fun i x hi f u hu => ?_, fun a n c' e => by injection e with _ _ e; omega⟩, fun x hm => ?_⟩
    · have := (hx i x hi).2 f u hu
      simpa [blk, off, hk] using this
    · obtain ⟨i, hi⟩ := List.getElem?_of_mem hm
      exact (hx i x hi).1
end Go.Sx
namespace Go.Sx
open Go
structure DiceOk (H : Hp) (dl : Value) (at_ : Int) : Prop where
  l : ∃ l : List Int, RdSl H 1 I64.cells dl l ∧ 0 ≤ at_ ∧ at_ ≤ l.length
theorem DiceOk.le {H H' : Hp} {dl : Value} {a : Int} (h : DiceOk H dl a) (hl : H.le H') : DiceOk H' dl a := by
  obtain ⟨l, h1, h2⟩ := h.l
  exact ⟨l, h1.le hl, h2⟩
def PickR (n r : Int) : Prop := 0 ≤ r ∧ (1 ≤ n → r < n) ∧ (n < 1 → r = 0)
theorem wrapU_rng (x : Int) : 0 ≤ IntKind.u64.wrap x := by
  simp only [IntKind.wrap, IntKind.signed, IntKind.bits]; simp; omega
theorem wrapU_id {x : Int} (h0 : 0 ≤ x) (h1 : x ≤ 9223372036854775807) : IntKind.u64.wrap x = x := by
  simp only [IntKind.wrap, IntKind.signed, IntKind.bits]; simp; omega
theorem wrapI_id {x : Int} (h0 : -9223372036854775808 ≤ x) (h1 : x ≤ 9223372036854775807) : IntKind.i64.wrap x = x := by
  simp only [IntKind.wrap, IntKind.signed, IntKind.bits]; simp; omega
theorem tmod_rng {x n : Int} (h0 : 0 ≤ x) (h1 : 1 ≤ n) : 0 ≤ x.tmod n ∧ x.tmod n < n := by
  rw [Int.tmod_eq_emod_of_nonneg h0]
  exact ⟨Int.emod_nonneg _ (by omega), Int.emod_lt_of_pos _ (by omega)⟩
theorem pick_rng (x : Int) {n : Int} (h1 : 1 ≤ n) (h2 : n ≤ 1000000000) : 0 ≤ IntKind.i64.wrap ((IntKind.u64.wrap x).tmod (IntKind.u64.wrap n)) ∧ IntKind.i64.wrap ((IntKind.u64.wrap x).tmod (IntKind.u64.wrap n)) < n := by
  rw [wrapU_id (x := n) (by omega) (by omega)]
  have := tmod_rng (n := n) (wrapU_rng x) h1
  rw [wrapI_id (by omega) (by omega)]
  exact this
section
variable {P : Program} {n : Nat} {ops : Array Oper} {Q : Exit → Act → World → Prop} {E : Env} {M : List Nat} {w0 : World} {H0 H : Hp} {L : Blks} {C : World → Prop} {rest : List Oper} {dst : Option Nat} {op : Op} {ty : TypeId} {pos : String} {aft : Array Edge}
def DFn (P : Program) (bd : Nat) (dl : Value) (at_ : Int) (f : FuncId) (args : List Value) (H : Hp) (R : Value → Hp → Blks → Prop) : Prop :=
  FnX P f (.pointer (some ⟨bd, 0, none⟩) :: args) H [(bd, [dl, .int .i64 at_])] (fun v H' L' => ∃ at' ob, L' = (bd, [dl, .int .i64 at']) :: ob ∧ DiceOk H' dl at' ∧ R v H' ob)
theorem perm_mid (X : Blks) (y : Nat × List Value) (Y : Blks) : (X ++ y :: Y).Perm ([y] ++ (X ++ Y)) := List.perm_middle
theorem perm_mid2 (X : Blks) (y : Nat × List Value) (Y ob : Blks) : ((y :: ob) ++ (X ++ Y)).Perm (X ++ y :: (Y ++ ob)) := by
  have h1 : ((y :: ob) ++ (X ++ Y)).Perm ((y :: (X ++ Y)) ++ ob) := by
    rw [List.cons_append, List.cons_append]
    exact (List.perm_append_comm).cons y
  refine h1.trans ?_
  rw [List.cons_append, List.append_assoc]
  exact List.perm_middle.symm
theorem TL.callD {f : FuncId} {args : List Value} {X Y : Blks} {bd : Nat} {dl : Value} {at_ : Int} {R : Value → Hp → Blks → Prop} (hL : L = X ++ (bd, [dl, .int .i64 at_]) :: Y) (hE : Enters P E op f (.pointer (some ⟨bd, 0, none⟩) :: args)) (hF : DFn P bd dl at_ f args H R) (hd : fits dst n = true)
    (h : ∀ v H' at' ob, H.le H' → DiceOk H' dl at' → R v H' ob → TL P n ops Q rest (putE dst v E) (St M w0 H0 H' (X ++ (bd, [dl, .int .i64 at']) :: (Y ++ ob)))) :
    TL P n ops Q ({ dst := dst, op := op, type := ty, pos := pos, after := aft, guard := none } :: rest) E (St M w0 H0 H L) := by
  subst hL
  refine TL.permL (perm_mid X _ Y) (TL.callX hE hF hd fun v H' L1' hle hΦ => ?_)
  obtain ⟨at', ob, rfl, hk, hR⟩ := hΦ
  exact TL.permL (perm_mid2 X _ Y ob) (h v H' at' ob hle hk hR)
theorem TL.callD0 {f : FuncId} {args : List Value} {X Y : Blks} {bd : Nat} {dl : Value} {at_ : Int} {R : Value → Hp → Prop} (hL : L = X ++ (bd, [dl, .int .i64 at_]) :: Y) (hE : Enters P E op f (.pointer (some ⟨bd, 0, none⟩) :: args)) (hF : DFn P bd dl at_ f args H (fun v H' ob => ob = [] ∧ R v H')) (hd : fits dst n = true)
    (h : ∀ v H' at', H.le H' → DiceOk H' dl at' → R v H' → TL P n ops Q rest (putE dst v E) (St M w0 H0 H' (X ++ (bd, [dl, .int .i64 at']) :: Y))) :
    TL P n ops Q ({ dst := dst, op := op, type := ty, pos := pos, after := aft, guard := none } :: rest) E (St M w0 H0 H L) :=
  TL.callD hL hE hF hd fun v H' at' ob h1 h2 h3 => by
    obtain ⟨rfl, h3⟩ := h3
    rw [List.append_nil]
    exact h v H' at' h1 h2 h3
theorem TL.pubN {b : Nat} {cs : List Value} {l : List Oper} (hM : ∀ k ∈ M, k ∈ keys L) (h : ∀ H', H.le H' → (∀ o v, cs[o]? = some v → H' b o = some v) → TL P n ops Q l E (St M w0 H0 H' L)) : TL P n ops Q l E (St M w0 H0 H ((b, cs) :: L)) := by
  intro a w he hw
  have hbM : b ∉ M := fun hm => by
    have h1 := hM b hm
    have h2 := hw.nd
    simp only [List.map_cons, List.nodup_cons] at h2
    exact h2.1 h1
  exact h _ hw.le_add (fun o v hv => by simp only [Hp.add, if_true]; exact hv) a w he (hw.publish hbM)
theorem TX.pubN {b : Nat} {cs : List Value} {q : Act → World → Prop} (hM : ∀ k ∈ M, k ∈ keys L) (h : ∀ H', H.le H' → (∀ o v, cs[o]? = some v → H' b o = some v) → TX n q E (St M w0 H0 H' L)) : TX n q E (St M w0 H0 H ((b, cs) :: L)) := by
  intro a w he hw
  have hbM : b ∉ M := fun hm => by
    have h1 := hM b hm
    have h2 := hw.nd
    simp only [List.map_cons, List.nodup_cons] at h2
    exact h2.1 h1
  exact h _ hw.le_add (fun o v hv => by simp only [Hp.add, if_true]; exact hv) a w he (hw.publish hbM)
theorem ogn {w : World} {M : List Nat} {ob R : Blks} (hM : ∀ k ∈ M, k ∈ keys R) (hw : St M w0 H0 H (ob ++ R) w) : ∀ p ∈ ob, p.1 ∉ M := fun p hp hm => by
  have h2 := hw.nd
  rw [List.map_append, List.nodup_append] at h2
  exact h2.2.2 _ (List.mem_map.2 ⟨p, hp, rfl⟩) _ (hM _ hm) rfl
theorem TL.pubON {α : Type} {k : Nat} {enc : α → List Value} [hc : Cells k enc] {v : Value} {xs : List α} {ob X : Blks} {l : List Oper} (hO : OwnSl k enc v xs ob) (hL : L = X ++ ob) (hM : ∀ k ∈ M, k ∈ keys X)
    (h : ∀ H', H.le H' → RdSl H' k enc v xs → TL P n ops Q l E (St M w0 H0 H' X)) : TL P n ops Q l E (St M w0 H0 H L) := by
  subst hL
  intro a w he hw
  have hw' := hw.perm List.perm_append_comm
  obtain ⟨H', h1, h2, h3⟩ := St.pubO hO (.app X) (ogn hM hw') hw'
  exact h H' h1 h2 a w he (by simpa using h3)
theorem TX.pubON {α : Type} {k : Nat} {enc : α → List Value} [hc : Cells k enc] {v : Value} {xs : List α} {ob X : Blks} {q : Act → World → Prop} (hO : OwnSl k enc v xs ob) (hL : L = X ++ ob) (hM : ∀ k ∈ M, k ∈ keys X)
    (h : ∀ H', H.le H' → RdSl H' k enc v xs → TX n q E (St M w0 H0 H' X)) : TX n q E (St M w0 H0 H L) := by
  subst hL
  intro a w he hw
  have hw' := hw.perm List.perm_append_comm
  obtain ⟨H', h1, h2, h3⟩ := St.pubO hO (.app X) (ogn hM hw') hw'
  exact h H' h1 h2 a w he (by simpa using h3)
theorem TL.absorb {α : Type} {k t m b : Nat} {enc : α → List Value} [hc : Cells k enc] {X Y : Blks} {B : Blks} {S : Sig} {cs : List Value} {l : List Oper} (ys : List α) (hL : L = X ++ (b, cs) :: (Y ++ B)) (hB : Bag H S B) (hk : kT t = k) (hm : m = ys.length) (he : cs = ys.flatMap enc) (hy : ∀ y ∈ ys, AllT H S (ctOf t) (enc y))
    (h : ∀ S' B', S.le S' → S'.N = S.N → S' b = some (t, m) → Bag H S' B' → TL P n ops Q l E (St M w0 H0 H (X ++ (Y ++ B')))) : TL P n ops Q l E (St M w0 H0 H L) := by
  subst hL hm he
  intro a w hE hw
  have hp : (X ++ (b, ys.flatMap enc) :: (Y ++ B)).Perm (X ++ (Y ++ (b, ys.flatMap enc) :: B)) := List.Perm.append_left X List.perm_middle.symm
  have hw' := hw.perm hp
  have hnone : S b = none := hB.none (fun p hp e => by
    have h2 := hw'.nd
    rw [← List.append_assoc, List.map_append, List.nodup_append] at h2
    have h3 := h2.2.1
    simp only [List.map_cons, List.nodup_cons] at h3
    exact h3.1 (List.mem_map.2 ⟨p, hp, e⟩))
  have hlen : (ys.flatMap enc).length = ys.length * kT t := by rw [hk]; exact flat_len (fun x _ => hc.len x)
  refine h (S.put b t ys.length) ((b, ys.flatMap enc) :: B) (Sig.le_put hnone) rfl Sig.put_at (hB.add hnone hlen (fun o u hu => ?_)) a w hE hw'
  obtain ⟨x, h1, h2⟩ := flat_part hc.pos (fun x _ => hc.len x) o u hu
  have := (hy x (List.mem_of_getElem? h1)).at h2
  rw [hk]
  exact this
theorem SlT.blk {S : Sig} {t b m : Nat} (h : S b = some (t, m)) (hm : m ≤ 9223372036854775807) : SlT S t (some ⟨b, 0, none⟩) m m := .inr ⟨b, 0, m, by simp, h, by omega, by omega, hm⟩
end
structure Fx where
  bw : Nat
  bd : Nat
  psv : Value
  ps : List SProto
  nm : Str
  pa : Value
  self : Str
  tyv : Value
  tys : List SLocal
  role : Int
  dl : Value
structure WV where
  H : Hp
  S : Sig
  ta : Option Addr
  tn : Nat
  tc : Nat
  sa : Option Addr
  sn : Nat
  sc : Nat
  names : Int
  room : Int
  at_ : Int
  B : Blks
def Fx.c (F : Fx) (V : WV) : List Value := [.pointer (some ⟨F.bd, 0, none⟩), F.psv, gs F.nm, F.pa, .slice V.ta V.tn V.tc, .slice V.sa V.sn V.sc, gs F.self, F.tyv, .int .i64 F.role, .int .i64 V.names, .int .i64 V.room]
def Fx.L (F : Fx) (V : WV) : Blks := (F.bw, F.c V) :: (F.bd, [F.dl, .int .i64 V.at_]) :: V.B
structure GPr (p : SProto) : Prop where
  nm : p.name = [112] ∨ p.name = [113]
  r2 : 2 ≤ p.roles.length
  r5 : p.roles.length ≤ 5
  rs : ∀ r ∈ p.roles, r.length = 1
structure FxOk (H : Hp) (F : Fx) : Prop where
  ps : RdSl H 3 SProto.cells F.psv F.ps
  pk : ∀ p ∈ F.ps, ProtoOk H p
  pg : ∀ p ∈ F.ps, GPr p
  pn : 0 < F.ps.length
  ty : RdSl H 2 SLocal.cells F.tyv F.tys
  tk : ∀ l ∈ F.tys, LocalOk H l
  sf : PNm F.self
theorem FxOk.le {H H' : Hp} {F : Fx} (h : FxOk H F) (hl : H.le H') : FxOk H' F := ⟨h.ps.le hl, fun p hp => (h.pk p hp).le hl, h.pg, h.pn, h.ty.le hl, fun l hh => (h.tk l hh).le hl, h.sf⟩
structure WI (F : Fx) (V : WV) (m : Nat) : Prop where
  fx : FxOk V.H F
  bag : Bag V.H V.S V.B
  t : SlT V.S 0 V.ta V.tn V.tc
  s : SlT V.S 3 V.sa V.sn V.sc
  n0 : 0 ≤ V.names
  r0 : -(V.sn : Int) ≤ V.room
  r1 : V.room ≤ 100
  d : DiceOk V.H F.dl V.at_
  me : V.tn + V.sn + V.names.toNat ≤ m
  nb : V.S.N ≤ m + 10
  n10 : 10 ≤ V.S.N
theorem WI.more {F : Fx} {V : WV} {m m' : Nat} (h : WI F V m) (hm : m ≤ m') : WI F V m' := { h with me := Nat.le_trans h.me hm, nb := Nat.le_trans h.nb (Nat.add_le_add_right hm _) }
theorem WI.leH {F : Fx} {V : WV} {m : Nat} {H' : Hp} (h : WI F V m) (hl : V.H.le H') : WI F { V with H := H' } m := ⟨h.fx.le hl, h.bag.leH hl, h.t, h.s, h.n0, h.r0, h.r1, h.d.le hl, h.me, h.nb, h.n10⟩
theorem WI.dice {F : Fx} {V : WV} {m : Nat} {H' : Hp} {a : Int} (h : WI F V m) (hl : V.H.le H') (hd : DiceOk H' F.dl a) : WI F { V with H := H', at_ := a } m := ⟨h.fx.le hl, h.bag.leH hl, h.t, h.s, h.n0, h.r0, h.r1, hd, h.me, h.nb, h.n10⟩
theorem WI.bagA {F : Fx} {V : WV} {m : Nat} {S' : Sig} {B' : Blks} (h : WI F V m) (hl : V.S.le S') (hN : S'.N = V.S.N) (hB : Bag V.H S' B') : WI F { V with S := S', B := B' } m := ⟨h.fx, hB, h.t.le hl, h.s.le hl, h.n0, h.r0, h.r1, h.d, h.me, by rw [hN]; exact h.nb, by rw [hN]; exact h.n10⟩
theorem WI.bagT {F : Fx} {V : WV} {m : Nat} {S' : Sig} {B' : Blks} (h : WI F V m) (hl : V.S.le S') (hN : S'.N = V.S.N + 1) (hB : Bag V.H S' B') : WI F { V with S := S', B := B' } (m + 1) := ⟨h.fx, hB, h.t.le hl, h.s.le hl, h.n0, h.r0, h.r1, h.d, Nat.le_succ_of_le h.me, by have := h.nb; dsimp only; omega, by have := h.n10; dsimp only; omega⟩
def WFn (P : Program) (F : Fx) (V : WV) (f : FuncId) (args : List Value) (k : Nat) (R : Value → WV → Prop) : Prop :=
  ∀ m, WI F V m → m + k ≤ 10000000 → FnX P f (.pointer (some ⟨F.bw, 0, none⟩) :: args) V.H (F.L V) (fun v H' L' => ∃ V' : WV, H' = V'.H ∧ L' = F.L V' ∧ WI F V' (m + k) ∧ V.S.le V'.S ∧ V.sn ≤ V'.sn ∧ V.tn ≤ V'.tn ∧ R v V')
section
variable {P : Program} {n : Nat} {ops : Array Oper} {Q : Exit → Act → World → Prop} {E : Env} {M : List Nat} {w0 : World} {H0 H : Hp} {L : Blks} {C : World → Prop} {rest : List Oper} {dst : Option Nat} {op : Op} {ty : TypeId} {pos : String} {aft : Array Edge}
theorem TL.callW {F : Fx} {V : WV} {f : FuncId} {args : List Value} {k m : Nat} {R : Value → WV → Prop} (X : Blks) (hL : L = X ++ F.L V) (hH : H = V.H) (hE : Enters P E op f (.pointer (some ⟨F.bw, 0, none⟩) :: args)) (hF : WFn P F V f args k R) (hW : WI F V m) (hm : m + k ≤ 10000000) (hd : fits dst n = true)
    (h : ∀ v (V' : WV), V.H.le V'.H → WI F V' (m + k) → V.S.le V'.S → V.sn ≤ V'.sn → V.tn ≤ V'.tn → R v V' → TL P n ops Q rest (putE dst v E) (St M w0 H0 V'.H (X ++ F.L V'))) :
    TL P n ops Q ({ dst := dst, op := op, type := ty, pos := pos, after := aft, guard := none } :: rest) E (St M w0 H0 H L) := by
  subst hL hH
  refine TL.permL List.perm_append_comm (TL.callX hE (hF m hW hm) hd fun v H' L1' hle hΦ => ?_)
  obtain ⟨V', rfl, rfl, h1, h2, h3, h4, h5⟩ := hΦ
  exact TL.permL List.perm_append_comm (h v V' hle h1 h2 h3 h4 h5)
theorem WFn.enter {F : Fx} {V : WV} {f : FuncId} {args : List Value} {k : Nat} {R : Value → WV → Prop} {fn : Func} {c : Code}
    (hf : P.funcs[f]? = some fn) (hn : fn.ntmps = n) (hb : fn.body = some c) (hl : Nat.ble (args.length + 1) n = true)
    (h : ∀ m w0, WI F V m → m + k ≤ 10000000 → TC P n c (bodyPost P fn (PostX (keys (F.L V)) w0 V.H (fun v H' L' => ∃ V' : WV, H' = V'.H ∧ L' = F.L V' ∧ WI F V' (m + k) ∧ V.S.le V'.S ∧ V.sn ≤ V'.sn ∧ V.tn ≤ V'.tn ∧ R v V'))) (initE 0 (.pointer (some ⟨F.bw, 0, none⟩) :: args)) (St (keys (F.L V)) w0 V.H V.H (F.L V))) : WFn P F V f args k R :=
  fun m hW hm => FnX.enter hf hn hb (by simpa using hl) (fun w0 => h m w0 hW hm)
theorem TX.finW {F : Fx} {V V' : WV} {fn : Func} {K : List Nat} {k m : Nat} {R : Value → WV → Prop} {v : Value} {X : Blks} {e : Exit} (he : e = .normal ∨ e = .ret) (hr : ∀ a w, EOk n E a → St K w0 H0 H L w → (results fn a.tmps).run P w = .ok v w)
    (hL : L = X ++ F.L V') (hH : H = V'.H) (hW : WI F V' (m + k)) (hS : V.S.le V'.S) (hs : V.sn ≤ V'.sn) (ht : V.tn ≤ V'.tn) (hR : R v V') :
    TX n (bodyPost P fn (PostX K w0 H0 (fun v H' L' => ∃ V' : WV, H' = V'.H ∧ L' = F.L V' ∧ WI F V' (m + k) ∧ V.S.le V'.S ∧ V.sn ≤ V'.sn ∧ V.tn ≤ V'.tn ∧ R v V')) e) E (St K w0 H0 H L) := by
  subst hH
  exact TX.finX he hr (fun w hw => by subst hL; exact hw.dropN) ⟨V', rfl, rfl, hW, hS, hs, ht, hR⟩
theorem pr_nil {x : Operand} {a : Addr} (hx : ev E x = some (.pointer (some a))) : PR P E C (.nilCheck x) (.pointer (some a)) := by
  intro n ac w o ho he hw
  unfold execOp
  rw [ho]
  simp [he.eval hx]
theorem pr_indexT {t e k tb : Nat} {x y : Operand} {b j len cap : Nat} {a : Option Addr} {kd : IntKind} {i : Int} (hx : ev E x = some (.slice a len cap)) (hy : ev E y = some (.int kd i)) (ha : a = some ⟨b, j * kT tb, none⟩) [hel : El P t e k] (h0 : 0 ≤ i) (h1 : i < len) :
    PR P E C (.indexAddr t x y) (.pointer (some ⟨b, j * kT tb + i.toNat * k, none⟩)) := by
  subst ha
  exact pr_index hx hy h0 h1
end
end Go.Sx
namespace Go.Sx
open Go
structure TStep where
  kind : Int
  name : Str
  peer : Str
  label : Str
  proc : Str
  term : Int
  aa : Option Addr
  an : Nat
  ac : Nat
  ca : Option Addr
  cn : Nat
  cc : Nat
  wa : Option Addr
  wn : Nat
  wc : Nat
  next : Int
def TStep.cells (s : TStep) : List Value := [.int .i64 s.kind, gs s.name, gs s.peer, gs s.label, gs s.proc, .int .i64 s.term, .slice s.aa s.an s.ac, .slice s.ca s.cn s.cc, .slice s.wa s.wn s.wc, .int .i64 s.next]
instance : Cells 10 TStep.cells := ⟨fun _ => rfl, by decide, fun _ => rfl⟩
structure TStep.Ok (S : Sig) (s : TStep) : Prop where
  name : VarNm s.name
  peer : AnyNm s.peer
  label : AnyNm s.label
  proc : PNm s.proc
  a : SlT S 4 s.aa s.an s.ac
  c : SlT S 2 s.ca s.cn s.cc
  w : SlT S 1 s.wa s.wn s.wc
  an : s.an ≤ S.N
  cn : s.cn ≤ S.N
  wn : s.wn ≤ S.N
theorem TStep.Ok.le {S S' : Sig} {s : TStep} (h : s.Ok S) (hl : S.le S') : s.Ok S' := ⟨h.name, h.peer, h.label, h.proc, h.a.le hl, h.c.le hl, h.w.le hl, Nat.le_trans h.an hl.2, Nat.le_trans h.cn hl.2, Nat.le_trans h.wn hl.2⟩
theorem TStep.Ok.all {H : Hp} {S : Sig} {s : TStep} (h : s.Ok S) : AllT H S (ctOf 3) s.cells :=
  ⟨⟨_, rfl⟩, ⟨_, rfl, h.name⟩, ⟨_, rfl, h.peer⟩, ⟨_, rfl, h.label⟩, ⟨_, rfl, h.proc⟩, ⟨_, rfl⟩, ⟨_, _, _, rfl, h.a, h.an⟩, ⟨_, _, _, rfl, h.c, h.cn⟩, ⟨_, _, _, rfl, h.w, h.wn⟩, ⟨_, rfl⟩, trivial⟩
structure TCast where
  role : Str
  proc : Str
  aa : Option Addr
  an : Nat
  ac : Nat
def TCast.cells (s : TCast) : List Value := [gs s.role, gs s.proc, .slice s.aa s.an s.ac]
instance : Cells 3 TCast.cells := ⟨fun _ => rfl, by decide, fun _ => rfl⟩
theorem TCast.all {H : Hp} {S : Sig} {s : TCast} (h1 : AnyNm s.role) (h2 : PNm s.proc) (h3 : SlT S 4 s.aa s.an s.ac) (h4 : s.an ≤ S.N) : AllT H S (ctOf 2) s.cells := ⟨⟨_, rfl, h1⟩, ⟨_, rfl, h2⟩, ⟨_, _, _, rfl, h3, h4⟩, trivial⟩
theorem SWay.all {H : Hp} {S : Sig} {s : SWay} (h1 : AnyNm s.label) (h2 : VarNm s.name) : AllT H S (ctOf 1) s.cells := ⟨⟨_, rfl, h1⟩, ⟨_, rfl, h2⟩, ⟨_, rfl⟩, trivial⟩
theorem term_all {H : Hp} {S : Sig} {s : Term} (h1 : VarNm s.name) (h2 : AnyNm s.text) : AllT H S (ctOf 0) s.cells := ⟨⟨_, rfl⟩, ⟨_, rfl, h1⟩, ⟨_, rfl⟩, ⟨_, rfl, h2⟩, ⟨_, rfl⟩, ⟨_, rfl⟩, trivial⟩
theorem VarNm.nil : VarNm [] := .inl rfl
theorem VarNm.len {s : Str} (h : VarNm s) : s.length ≤ 11 := by
  rcases h with rfl | rfl | rfl | rfl | ⟨ds, rfl, h, _⟩ <;> simp <;> omega
theorem AnyNm.nil : AnyNm [] := by simp [AnyNm]
theorem PNm.nil : PNm [] := by simp [PNm]
theorem zt0 {H : Hp} {S : Sig} : AllT H S (ctOf 0) [.int .i64 0, gs [], .int .i64 0, gs [], .int .i64 0, .int .i64 0] := ⟨⟨_, rfl⟩, ⟨_, rfl, .nil⟩, ⟨_, rfl⟩, ⟨_, rfl, .nil⟩, ⟨_, rfl⟩, ⟨_, rfl⟩, trivial⟩
theorem zt1 {H : Hp} {S : Sig} : AllT H S (ctOf 1) [gs [], gs [], .int .i64 0] := ⟨⟨_, rfl, .nil⟩, ⟨_, rfl, .nil⟩, ⟨_, rfl⟩, trivial⟩
theorem zt2 {H : Hp} {S : Sig} : AllT H S (ctOf 2) [gs [], gs [], .slice none 0 0] := ⟨⟨_, rfl, .nil⟩, ⟨_, rfl, .nil⟩, ⟨_, _, _, rfl, .nil, Nat.zero_le _⟩, trivial⟩
theorem zt3 {H : Hp} {S : Sig} : AllT H S (ctOf 3) [.int .i64 0, gs [], gs [], gs [], gs [], .int .i64 0, .slice none 0 0, .slice none 0 0, .slice none 0 0, .int .i64 0] :=
  ⟨⟨_, rfl⟩, ⟨_, rfl, .nil⟩, ⟨_, rfl, .nil⟩, ⟨_, rfl, .nil⟩, ⟨_, rfl, .nil⟩, ⟨_, rfl⟩, ⟨_, _, _, rfl, .nil, Nat.zero_le _⟩, ⟨_, _, _, rfl, .nil, Nat.zero_le _⟩, ⟨_, _, _, rfl, .nil, Nat.zero_le _⟩, ⟨_, rfl⟩, trivial⟩
theorem decDigits_var : ∀ (k u : Nat), u < 10 ^ (k + 1) → (Lib.decDigits u).length ≤ k + 1 ∧ ∀ c ∈ Lib.decDigits u, (48 : UInt8) ≤ c ∧ c ≤ 57
  | k, u, h => by
    by_cases h1 : u < 10
    · rw [Lib.decDigits_one h1]
      refine ⟨by simp, fun c hc => ?_⟩
      rw [List.mem_singleton.1 hc]
      have h2 : (UInt8.ofNat (48 + u)).toNat = 48 + u := by rw [UInt8.toNat_ofNat']; omega
      constructor
      · rw [UInt8.le_iff_toNat_le, h2]; show 48 ≤ 48 + u; omega
      · rw [UInt8.le_iff_toNat_le, h2]; show 48 + u ≤ 57; omega
    · cases k with
      | zero => simp at h; omega
      | succ k =>
        have h3 : u / 10 < 10 ^ (k + 1) := by rw [Nat.pow_succ] at h; omega
        obtain ⟨h4, h5⟩ := decDigits_var k (u / 10) h3
        rw [Lib.decDigits, dif_neg h1]
        refine ⟨by simp; omega, fun c hc => ?_⟩
        rcases List.mem_append.1 hc with hc | hc
        · exact h5 c hc
        · rw [List.mem_singleton.1 hc]
          have h2 : (UInt8.ofNat (48 + u % 10)).toNat = 48 + u % 10 := by rw [UInt8.toNat_ofNat']; omega
          constructor
          · rw [UInt8.le_iff_toNat_le, h2]; show 48 ≤ 48 + u % 10; omega
          · rw [UInt8.le_iff_toNat_le, h2]; show 48 + u % 10 ≤ 57; omega
theorem itoa_var {n : Int} (h0 : 0 ≤ n) (h1 : n ≤ 100000000) : (Lib.itoa n).length ≤ 10 ∧ ∀ c ∈ Lib.itoa n, (48 : UInt8) ≤ c ∧ c ≤ 57 := by
  unfold Lib.itoa
  rw [if_neg (by omega)]
  exact decDigits_var 9 n.toNat (by omega)
theorem vname {n : Int} (h0 : 0 ≤ n) (h1 : n ≤ 100000000) : VarNm ([118] ++ Lib.itoa n) := .inr (.inr (.inr (.inr ⟨Lib.itoa n, rfl, itoa_var h0 h1⟩)))
theorem tname {n : Int} (h0 : 0 ≤ n) (h1 : n ≤ 100000000) : AnyNm ([116] ++ Lib.itoa n) := by
  have := (itoa_var h0 h1).1
  simp [AnyNm]; omega
theorem bag_at {t k j i f n m : Nat} (hk : kT t = k) (hj : j + n ≤ m) (hi : i < n) (hf : f < k) : j * kT t + i * k + f < m * kT t ∧ (j * kT t + i * k + f) % kT t = f := by
  subst hk
  exact ⟨bag_lt hj hi hf, bag_mod hf⟩
def Cell (B : Blks) (b o : Nat) (u : Value) : Prop := ∃ cs, (b, cs) ∈ B ∧ cs[o]? = some u
theorem Bag.get {H : Hp} {S : Sig} {B : Blks} {t m b j i f n k : Nat} {ct : CT} (hB : Bag H S B) (hS : S b = some (t, m)) (hk : kT t = k) (hj : j + n ≤ m) (hi : i < n) (hct : (ctOf t)[f]? = some ct) : ∃ u, CTy H S ct u ∧ Cell B b (j * kT t + i * k + f) u := by
  have hf : f < k := by rw [← hk]; exact (List.getElem?_eq_some_iff.1 hct).1
  obtain ⟨h1, h2⟩ := bag_at hk hj hi hf
  obtain ⟨cs, R2, hp3, hcl, hty⟩ := hB.take hS
  have hlt : j * kT t + i * k + f < cs.length := by rw [hcl]; exact h1
  obtain ⟨ct', h3, h4⟩ := hty _ _ (List.getElem?_eq_getElem hlt)
  rw [h2, hct] at h3
  cases h3
  exact ⟨_, h4, cs, hp3.mem_iff.2 (by simp), List.getElem?_eq_getElem hlt⟩
section
variable {P : Program} {n : Nat} {ops : Array Oper} {Q : Exit → Act → World → Prop} {E : Env} {M : List Nat} {w0 : World} {H0 H : Hp} {L : Blks} {C : World → Prop} {rest : List Oper} {dst : Option Nat} {op : Op} {ty : TypeId} {pos : String} {aft : Array Edge}
theorem Cell.inl {B : Blks} {F : Blks → Blks} {b o : Nat} {u : Value} (hC : Cell B b o u) (hU : Tl B L F) : ∃ cs, InL b cs L ∧ cs[o]? = some u := by
  obtain ⟨cs, h1, h2⟩ := hC
  obtain ⟨R, hp1, _⟩ := hU.perm
  have h3 : (b, cs) ∈ L := hp1.mem_iff.2 (List.mem_append_left _ h1)
  refine ⟨cs, ?_, h2⟩
  clear hp1 hU h1 h2
  induction L with
  | nil => simp at h3
  | cons x L ih =>
    rcases List.mem_cons.1 h3 with rfl | h3
    · exact .here _
    · exact .there _ (ih h3)
theorem pr_bag {t k1 b o : Nat} {x : Operand} {u : Value} {B : Blks} {F : Blks → Blks} (hx : ev E x = some (.pointer (some ⟨b, o, none⟩))) (hC : Cell B b o u) (hU : Tl B L F) [ht : Ty P t false k1] (hk : k1 = 1 := by rfl) : PR P E (St M w0 H0 H L) (.load t x) u := by
  obtain ⟨cs, h1, h2⟩ := hC.inl hU
  exact pr_own1 hx h1 h2
theorem TL.stR {t m b j i f n' k k1 : Nat} {x y : Operand} {u : Value} {ct : CT} {S : Sig} {B : Blks} {F : Blks → Blks} {tt : TypeId} (hx : ev E x = some (.pointer (some ⟨b, j * kT t + i * k + f, none⟩))) (hy : ev E y = some u) (hB : Bag H S B) (hU : Tl B L F) (hS : S b = some (t, m)) (hkk : kT t = k) (hj : j + n' ≤ m) (hi : i < n') (hct : (ctOf t)[f]? = some ct)
    (hu : CTy H S ct u) [ht : Ty P tt false k1] [h1 : One u] (hk : k1 = 1) (hd : fits dst n = true) (h : ∀ B', Bag H S B' → TL P n ops Q rest (putE dst undef E) (St M w0 H0 H (F B'))) :
    TL P n ops Q ({ dst := dst, op := .store tt x y, type := ty, pos := pos, after := aft, guard := none } :: rest) E (St M w0 H0 H L) := by
  have hf : f < k := by rw [← hkk]; exact (List.getElem?_eq_some_iff.1 hct).1
  obtain ⟨h2, h3⟩ := bag_at hkk hj hi hf
  exact TL.stT hx hy hB hU hS h2 (by rw [h3]; exact hct) hu hk hd h
end
theorem WI.bagB {F : Fx} {V : WV} {m : Nat} {B' : Blks} (h : WI F V m) (hB : Bag V.H V.S B') : WI F { V with B := B' } m := ⟨h.fx, hB, h.t, h.s, h.n0, h.r0, h.r1, h.d, h.me, h.nb, h.n10⟩
structure Rw where
  a : Option Addr
  n : Nat
  c : Nat
section
variable {P : Program} {n : Nat} {ops : Array Oper} {Q : Exit → Act → World → Prop} {E : Env} {C : World → Prop}
theorem TC.loopW {ι ρ : Type} {c : Code} (V : ι → WV → ρ → Env) (K : Env) (L : ι → WV → ρ → World → Prop) (I : ι → WV → ρ → Prop) (μ : ι → Nat) (i : ι) (v : WV) (r : ρ) (h0 : Sub (V i v r ++ K) E) (hi : I i v r) (hC : ∀ w, C w → L i v r w)
    (round : ∀ i v r, I i v r → TC P n c (Exit.then (fun a w => ∃ j v' r', I j v' r' ∧ EOk n (V j v' r' ++ K) a ∧ L j v' r' w ∧ μ j < μ i) Q) (V i v r ++ K) (L i v r)) : TC P n (.loop c) Q E C :=
  TC.loop (ι := ι × WV × ρ) (V := fun i => V i.1 i.2.1 i.2.2) (K := K) (L := fun i => L i.1 i.2.1 i.2.2) (I := fun i => I i.1 i.2.1 i.2.2) (μ := fun i => μ i.1) (i := (i, v, r)) h0 hi hC
    (fun i hI a w he hw => Code.wp_mono (fun e a' w' hq => by
      cases e with
      | normal => obtain ⟨j, v', r', h1, h2, h3, h4⟩ := hq; exact ⟨(j, v', r'), h1, h2, h3, h4⟩
      | exit id => exact hq
      | goto l => exact hq
      | ret => exact hq
      | panic ch => exact hq
      | outgrown => exact hq) (round i.1 i.2.1 i.2.2 hI a w he hw))
theorem TX.roundW {ι ρ : Type} {V : ι → WV → ρ → Env} {L : ι → WV → ρ → World → Prop} {I : ι → WV → ρ → Prop} {μ : ι → Nat} {i : ι} {E0 : Env} (j : ι) (v' : WV) (r' : ρ) (hI : I j v' r') (hs : Sub (V j v' r' ++ E0) E) (hC : ∀ w, C w → L j v' r' w) (hm : μ j < μ i) :
    TX n (Exit.then (fun a w => ∃ j v' r', I j v' r' ∧ EOk n (V j v' r' ++ E0) a ∧ L j v' r' w ∧ μ j < μ i) Q .normal) E C := fun a w he hw => ⟨j, v', r', hI, he.sub hs, hC w hw, hm⟩
end
theorem GPr.n1 {p : SProto} (h : GPr p) : p.name.length = 1 := by rcases h.nm with h | h <;> rw [h] <;> rfl
theorem GPr.proc {p : SProto} (h : GPr p) {r : Str} (hr : r.length ≤ 900) : PNm (p.name ++ r) := by
  constructor
  · rw [List.length_append, h.n1]; omega
  · rcases h.nm with h | h <;> rw [h] <;> simp
theorem GPr.rl {p : SProto} (h : GPr p) {r : Str} (hr : r ∈ p.roles) : r.length ≤ 900 := by rw [h.rs r hr]; omega
structure TGt (T : SLocal) (t : STurn) : Prop where
  peer : AnyNm t.peer
  a6 : t.arms.length ≤ 6
  a1 : t.kind ≠ 0 → t.kind ≠ 2 → 1 ≤ t.arms.length
  lb : ∀ a ∈ t.arms, AnyNm a.label
  nx : ∀ a ∈ t.arms, 0 ≤ a.next ∧ a.next < T.turns.length
structure TG (F : Fx) (T : SLocal) : Prop where
  r0 : 0 ≤ F.role
  r1 : F.role < F.tys.length
  g : F.tys[F.role.toNat]? = some T
  n0 : 0 < T.turns.length
  ts : ∀ t ∈ T.turns, TGt T t
theorem le2 : 2 ≤ 9223372036854775807 := by decide
def KB : Nat → Nat
  | 0 => 300
  | n + 1 => 6 * (KB n + 40) + 60
theorem KB_le {n : Nat} (h : n ≤ 5) : KB n ≤ 9000000 := by
  rcases (by omega : n = 0 ∨ n = 1 ∨ n = 2 ∨ n = 3 ∨ n = 4 ∨ n = 5) with rfl | rfl | rfl | rfl | rfl | rfl <;> decide
theorem cmul {k : Int} {c : Nat} (h : 0 ≤ k) : (k + 1).toNat * c = k.toNat * c + c := by
  rw [show (k + 1).toNat = k.toNat + 1 by omega, Nat.succ_mul]
theorem cmul_le {k : Int} {c n : Nat} (h : 0 ≤ k) (h1 : k < n) : k.toNat * c + c ≤ n * c := by
  rw [← Nat.succ_mul]; exact Nat.mul_le_mul_right _ (by omega)
structure GProc where
  name : Str
  params : List SParam
  pp : Sp
  ta : Option Addr
  tn : Nat
  tc : Nat
  sa : Option Addr
  sn : Nat
  sc : Nat
def GProc.cells (q : GProc) : List Value := [gs q.name, .slice q.pp.1 q.params.length q.pp.2, .slice q.ta q.tn q.tc, .slice q.sa q.sn q.sc]
instance : Cells 4 GProc.cells := ⟨fun _ => rfl, by decide, fun _ => rfl⟩
structure GPOk (H : Hp) (S : Sig) (q : GProc) : Prop where
  nm : PNm q.name
  pa : RdSl H 3 SParam.cells (.slice q.pp.1 q.params.length q.pp.2) q.params
  pv : ∀ x ∈ q.params, VarNm x.name ∧ x.cn.length ≤ 1000
  pl : q.params.length ≤ 2
  t : SlT S 0 q.ta q.tn q.tc
  s : SlT S 3 q.sa q.sn q.sc
  s0 : 0 < q.sn
  tl : q.tn ≤ 10000000
  sl : q.sn ≤ 10000000
theorem GPOk.le {H H' : Hp} {S S' : Sig} {q : GProc} (h : GPOk H S q) (hl : H.le H') (hs : S.le S') : GPOk H' S' q := ⟨h.nm, h.pa.le hl, h.pv, h.pl, h.t.le hs, h.s.le hs, h.s0, h.tl, h.sl⟩
end Go.Sx
namespace Go.Sx
open Go Go.Proofs
set_option maxHeartbeats 1000000 in
theorem Pick_ok {H : Hp} {bd : Nat} {dl : Value} {at_ : Int} (n : Int) (hn : n ≤ 1000000000) (hd : DiceOk H dl at_) :
  DFn Tryz.prog bd dl at_ 65 [.int .i64 n] H (fun v H1 ob => ob = [] ∧ (H1 = H ∧ ∃ r, v = .int .i64 r ∧ PickR n r)) := by
 obtain ⟨l, hl, ha0, ha1⟩ := hd.l
 have hmax := hl.max
 refine FnX.enter Tryz.func65 Tryz.ntmps65 rfl rfl (fun w0 => ?_)
 refine zm11 ?_; refine zm150 ?_; refine zm78 ?_; refine zm92 ?_
 refine TQ.split (s := 7) rfl (fun g7 => ?_) (fun g7 => ?_)
 ·
  have q7 := of_decide_eq_true g7
  refine zm322 ?_; refine zm322 ?_; refine TQ.gdN rfl rfl rfl rfl (TQ.gdN rfl rfl rfl rfl ?_); refine zm79 ?_; exact TC.condT rfl (zq1183)
 ·
  have q7 := of_decide_eq_false g7
  refine TQ.gdY rfl rfl (pr_pure rfl) rfl (TQ.gdY rfl rfl (pr_nil rfl) rfl (TQ.gdY rfl rfl (pr_field rfl) rfl (TQ.gdY rfl rfl (pr_own1 rfl (.here _) rfl) rfl ?_)))
  refine TQ.gdY rfl rfl (pr_pure rfl) rfl (TQ.gdY rfl rfl (pr_nil rfl) rfl (TQ.gdY rfl rfl (pr_field rfl) rfl (TQ.gdY rfl rfl (pr_own1 rfl (.here _) rfl) rfl ?_)))
  refine TQ.gdY rfl rfl (pr_lenSl rfl rfl hl) rfl (TQ.gdY rfl rfl (pr_pure rfl) rfl ?_); refine zm79 ?_
  refine TC.condD rfl (fun c18 => ?_) (fun c18 => ?_)
  · exact zq1183
  ·
   have hn1 : 1 ≤ n ∧ at_ < l.length := by omega
   obtain ⟨x, hx⟩ := getSome (l := l) (i := at_ + 1 - 1) (by omega) (by omega)
   refine zm103 ?_; refine zm186 ?_; refine zm16 ?_; refine zm54 ?_; refine zm63 ?_; refine zm150 ?_; refine zm92 ?_; refine TQ.run (pr_nil rfl) rfl ?_; refine zm323 ?_; refine zm92 ?_; refine TQ.run (pr_nil rfl) rfl ?_
   refine zm323 ?_; refine TQ.run ((by first | exact pr_sub rfl rfl (by omega) (by omega) | exact pr_pure rfl)) rfl ?_; refine zm324 ?_; refine TQ.run (pr_el0 hl hx rfl rfl) rfl (TQ.run (pr_conv rfl) rfl ?_); refine zm92 ?_
   refine TQ.run (pr_conv rfl) rfl (TQ.run (pr_rem rfl rfl (by rw [wrapU_id (by omega) (by omega)]; omega)) rfl (TQ.run (pr_conv rfl) rfl ?_)); refine zm79 ?_
   exact TC.ret (TX.finX (.inr rfl) (results1 rfl (RVal.tmp rfl)) (fun w hw => hw) ⟨_, [], rfl, ⟨l, hl, by omega, by omega⟩, rfl, rfl, _, rfl, ⟨(pick_rng x (n := n) (by omega) hn).1, fun _ => (pick_rng x (n := n) (by omega) hn).2, fun h => absurd h (by omega)⟩⟩)
set_option maxHeartbeats 1000000 in
theorem mBare_ok {H : Hp} (k : Int) :
  FnS Tryz.prog 71 [.int .i64 k] H (.agg (TStep.cells ⟨k, [], [], [], [], -1, none, 0, 0, none, 0, 0, none, 0, 0, -1⟩).toArray) := by
 refine FnS.enter Tryz.func71 Tryz.ntmps71 rfl rfl (fun w0 => ?_)
 refine zm4 ?_
 refine TL.alloc rfl (fun b2 => ?_)
 refine zm27 ?_
 exact zq351
set_option maxHeartbeats 1000000 in
theorem wTerm_ok {F : Fx} {V : WV} (t : Term) (h1 : VarNm t.name) (h2 : AnyNm t.text) :
  WFn Tryz.prog F V 133 [.agg t.cells.toArray] 1 (fun v V1 => ∃ i, v = .int .i64 i) := by
 refine WFn.enter Tryz.func133 Tryz.ntmps133 rfl rfl (fun m w0 hW hm => ?_)
 refine zm4 ?_
 refine TL.box rfl rfl (fun b3 => ?_)
 refine zm241 ?_; refine zm375 ?_; refine zm106 ?_; refine zm153 ?_; refine zm376 ?_
 refine TF.bslice rfl rfl rfl rfl (fun b12 => ?_)
 refine zm7 ?_
 refine TL.apT (enc := Term.cells) (t := 0) rfl rfl rfl hW.bag hW.t (Src.own [t] (.here _) rfl rfl) rfl (by intro y hy; rw [List.mem_singleton.1 hy]; exact term_all h1 h2) zt0 (by have := hW.me; (try dsimp only at this ⊢); simp only [List.length_cons, List.length_nil]; omega) rfl (.skip _ (.skip _ (.skip _ (.skip _ .all)))) rfl (fun S13 a13 c13 B13 hS13 hN13 hT13 hB13 => ?_)
 change _ = _ + 1 at hN13
 refine zm242 ?_; refine zm111 ?_; refine zm3 ?_; refine zm31 ?_; refine zm243 ?_; refine zm49 ?_; refine zm30 ?_; refine zm73 ?_; refine zm62 ?_; refine zm113 ?_; refine zm154 ?_; refine zm22 ?_
 exact TX.finW (V' := { V with S := S13, B := B13, ta := a13, tn := V.tn + 1, tc := c13 }) (X := [(b12, _), (b3, _)]) (.inr rfl) (results1 rfl (RVal.tmp rfl)) rfl rfl (⟨hW.fx, hB13, hT13, hW.s.le hS13, hW.n0, hW.r0, hW.r1, hW.d, by have := hW.me; dsimp only; omega, by have := hW.nb; dsimp only; omega, by have := hW.n10; dsimp only; omega⟩) hS13 (by (try dsimp only); omega) (by (try dsimp only); omega) ⟨_, rfl⟩
set_option maxHeartbeats 1000000 in
theorem wName_ok {F : Fx} {V : WV} (s : Str) (hs : VarNm s) :
  WFn Tryz.prog F V 72 [gs s] 1 (fun v V1 => ∃ i, v = .int .i64 i) := by
 refine WFn.enter Tryz.func72 Tryz.ntmps72 rfl rfl (fun m w0 hW hm => ?_)
 refine zm173 ?_; refine zm14 ?_
 refine TL.callW (F := F) (V := V) (m := m) [] rfl rfl (enters rfl rfl rfl rfl) (wTerm_ok ⟨0, s, 0, [], -1, -1⟩ hs .nil) hW (by omega) rfl (fun v8 V8 hle8 hW8 hS8 hs8 ht8 hp8 => ?_)
 exact zq1190
set_option maxHeartbeats 1000000 in
theorem wNum_ok {F : Fx} {V : WV} (n : Int) :
  WFn Tryz.prog F V 73 [.int .i64 n] 1 (fun v V1 => ∃ i, v = .int .i64 i) := by
 refine WFn.enter Tryz.func73 Tryz.ntmps73 rfl rfl (fun m w0 hW hm => ?_)
 refine zm173 ?_; refine zm14 ?_
 refine TL.callW (F := F) (V := V) (m := m) [] rfl rfl (enters rfl rfl rfl rfl) (wTerm_ok ⟨1, [], n, [], -1, -1⟩ .nil .nil) hW (by omega) rfl (fun v8 V8 hle8 hW8 hS8 hs8 ht8 hp8 => ?_)
 exact zq1190
set_option maxHeartbeats 1000000 in
theorem wBoth_ok {F : Fx} {V : WV} (k l r : Int) :
  WFn Tryz.prog F V 130 [.int .i64 k, .int .i64 l, .int .i64 r] 1 (fun v V1 => ∃ i, v = .int .i64 i) := by
 refine WFn.enter Tryz.func130 Tryz.ntmps130 rfl rfl (fun m w0 hW hm => ?_)
 refine zm173 ?_; refine zm9 ?_; refine zm14 ?_
 refine TL.callW (F := F) (V := V) (m := m) [] rfl rfl (enters rfl rfl rfl rfl) (wTerm_ok ⟨k, [], 0, [], l, r⟩ .nil .nil) hW (by omega) rfl (fun v14 V14 hle14 hW14 hS14 hs14 ht14 hp14 => ?_)
 obtain ⟨i14, rfl⟩ := hp14
 refine zm22 ?_
 exact TX.finW (V' := V14) (X := []) (.inr rfl) (results1 rfl (RVal.tmp rfl)) rfl rfl (hW14.more (by omega)) hS14 (by (try dsimp only); omega) (by (try dsimp only); omega) ⟨_, rfl⟩
set_option maxHeartbeats 1000000 in
theorem wLess_ok {F : Fx} {V : WV}  :
  WFn Tryz.prog F V 177 [] 3 (fun v V1 => ∃ i, v = .int .i64 i) := by
 refine WFn.enter Tryz.func177 Tryz.ntmps177 rfl rfl (fun m w0 hW hm => ?_)
 refine zm173 ?_
 refine TL.callW (F := F) (V := V) (m := m) [] rfl rfl (enters rfl rfl rfl rfl) (wName_ok [110] (.inr (.inr (.inl rfl)))) hW (by omega) rfl (fun v5 V5 hle5 hW5 hS5 hs5 ht5 hp5 => ?_)
 obtain ⟨i5, rfl⟩ := hp5
 refine zm0 ?_
 refine TL.callW (F := F) (V := V5) (m := m + 1) [] rfl rfl (enters rfl rfl rfl rfl) (wNum_ok 1) hW5 (by omega) rfl (fun v7 V7 hle7 hW7 hS7 hs7 ht7 hp7 => ?_)
 obtain ⟨i7, rfl⟩ := hp7
 refine TL.callW (F := F) (V := V7) (m := m + 1 + 1) [] rfl rfl (enters rfl rfl rfl rfl) (wBoth_ok 7 i5 i7) hW7 (by omega) rfl (fun v8 V8 hle8 hW8 hS8 hs8 ht8 hp8 => ?_)
 obtain ⟨i8, rfl⟩ := hp8
 refine zm22 ?_
 exact TX.finW (V' := V8) (X := []) (.inr rfl) (results1 rfl (RVal.tmp rfl)) rfl rfl (hW8.more (by omega)) (hS5.trans (hS7.trans (hS8))) (by (try dsimp only); omega) (by (try dsimp only); omega) ⟨_, rfl⟩
set_option maxHeartbeats 1000000 in
theorem wFresh_ok {F : Fx} {V : WV}  :
  WFn Tryz.prog F V 132 [] 1 (fun v V1 => ∃ s, v = gs s ∧ VarNm s) := by
 refine WFn.enter Tryz.func132 Tryz.ntmps132 rfl rfl (fun m w0 hW hm => ?_)
 have hn0 := hW.n0
 have hme := hW.me
 refine zm105 ?_; refine zm186 ?_; refine zm16 ?_; refine zm54 ?_; refine zm178 ?_; refine zm186 ?_; refine TL.callS (enters rfl rfl rfl rfl) (digits_ok (V.names + 1) (by omega) (by omega)) rfl ?_; refine zm421 ?_; refine zm22 ?_
 exact TX.finW (V' := { V with names := V.names + 1 }) (X := []) (.inr rfl) (results1 rfl (RVal.tmp rfl)) rfl rfl (⟨hW.fx, hW.bag, hW.t, hW.s, by dsimp only; omega, hW.r0, hW.r1, hW.d, by dsimp only; omega, by have := hW.nb; dsimp only; omega, hW.n10⟩) (.refl _) (by (try dsimp only); omega) (by (try dsimp only); omega) ⟨_, rfl, vname (by omega) (by omega)⟩
set_option maxHeartbeats 4000000 in
theorem wGive_ok {F : Fx} {V : WV} (k : Int) :
  WFn Tryz.prog F V 180 [.int .i64 k] 3 (fun v V1 => ∃ i, v = .int .i64 i) := by
 refine WFn.enter Tryz.func180 Tryz.ntmps180 rfl rfl (fun m w0 hW hm => ?_)
 refine zm48 ?_; refine zm28 ?_
 refine TC.condD rfl (fun c7 => ?_) (fun c7 => ?_)
 ·
  refine zm101 ?_; refine zm186 ?_
  refine TL.callD0 (X := [(F.bw, _)]) (bd := F.bd) rfl (enters rfl rfl rfl rfl) (Pick_ok 5 (by omega) hW.d) rfl (fun v13 H13 at13 hle13 hd13 hp13 => ?_)
  obtain ⟨rfl, r13, rfl, hr13⟩ := hp13
  refine zm210 ?_
  refine TC.condD rfl (fun c14 => ?_) (fun c14 => ?_)
  ·
   refine zm24 ?_
   refine TL.callW (F := F) (V := { V with at_ := at13 }) (m := m) [] rfl rfl (enters rfl rfl rfl rfl) (wNum_ok 12) (hW.dice (.refl _) hd13) (by omega) rfl (fun v18 V18 hle18 hW18 hS18 hs18 ht18 hp18 => ?_)
   dsimp only at hle18 hS18 hs18 ht18 hp18
   obtain ⟨i18, rfl⟩ := hp18
   refine zm0 ?_
   refine TL.callW (F := F) (V := V18) (m := m + 1) [] rfl rfl (enters rfl rfl rfl rfl) (wName_ok [110] (.inr (.inr (.inl rfl)))) hW18 (by omega) rfl (fun v20 V20 hle20 hW20 hS20 hs20 ht20 hp20 => ?_)
   obtain ⟨i20, rfl⟩ := hp20
   refine TL.callW (F := F) (V := V20) (m := m + 1 + 1) [] rfl rfl (enters rfl rfl rfl rfl) (wBoth_ok 9 i18 i20) hW20 (by omega) rfl (fun v21 V21 hle21 hW21 hS21 hs21 ht21 hp21 => ?_)
   obtain ⟨i21, rfl⟩ := hp21
   refine zm225 ?_
   exact TX.blkR (TX.thenR (TX.finW (V' := V21) (X := []) (.inr rfl) (results1 rfl (RVal.tmp rfl)) rfl rfl (hW21.more (by omega)) (hS18.trans (hS20.trans (hS21))) (by (try dsimp only); omega) (by (try dsimp only); omega) ⟨_, rfl⟩))
  ·
   refine zm28 ?_
   refine TC.condD rfl (fun c22 => ?_) (fun c22 => ?_)
   ·
    refine zm24 ?_; refine zm186 ?_
    refine TL.callD0 (X := [(F.bw, _)]) (bd := F.bd) rfl (enters rfl rfl rfl rfl) (Pick_ok 9 (by omega) (hW.dice (.refl _) hd13).d) rfl (fun v29 H29 at29 hle29 hd29 hp29 => ?_)
    obtain ⟨rfl, r29, rfl, hr29⟩ := hp29
    refine zm154 ?_
    refine TL.callW (F := F) (V := { { V with at_ := at13 } with at_ := at29 }) (m := m) [] rfl rfl (enters rfl rfl rfl rfl) (wNum_ok _) ((hW.dice (.refl _) hd13).dice (.refl _) hd29) (by omega) rfl (fun v31 V31 hle31 hW31 hS31 hs31 ht31 hp31 => ?_)
    dsimp only at hle31 hS31 hs31 ht31 hp31
    obtain ⟨i31, rfl⟩ := hp31
    refine zm225 ?_; exact TX.blkR (TX.thenR (TX.finW (V' := V31) (X := []) (.inr rfl) (results1 rfl (RVal.tmp rfl)) rfl rfl (hW31.more (by omega)) hS31 (by (try dsimp only); omega) (by (try dsimp only); omega) ⟨_, rfl⟩))
   ·
    refine zm81 ?_; refine zm61 ?_
    refine TD.part 7 2 rfl rfl rfl ?_ ?_
    ·
     refine zm377 ?_; refine zm244 ?_; refine zm42 ?_; refine zm7 ?_
     refine TL.callW (F := F) (V := { V with at_ := at13 }) (m := m) [] rfl rfl (enters rfl rfl rfl rfl) (wName_ok [110] (.inr (.inr (.inl rfl)))) (hW.dice (.refl _) hd13) (by omega) rfl (fun v34 V34 hle34 hW34 hS34 hs34 ht34 hp34 => ?_)
     dsimp only at hle34 hS34 hs34 ht34 hp34
     obtain ⟨i34, rfl⟩ := hp34
     exact TF.back5 SN hle34 (zq1196)
    ·
     refine zm378 ?_; refine zm245 ?_
     refine TL.callW (F := F) (V := { V with at_ := at13 }) (m := m) [] rfl rfl (enters rfl rfl rfl rfl) (wName_ok [110] (.inr (.inr (.inl rfl)))) (hW.dice (.refl _) hd13) (by omega) rfl (fun v34 V34 hle34 hW34 hS34 hs34 ht34 hp34 => ?_)
     dsimp only at hle34 hS34 hs34 ht34 hp34
     obtain ⟨i34, rfl⟩ := hp34
     refine TF.back5 SN hle34 ?_; refine zm42 ?_
     exact zq1196
 ·
  refine zm28 ?_
  refine TC.condD rfl (fun c43 => ?_) (fun c43 => ?_)
  ·
   refine zm61 ?_
   refine TD.part 7 2 rfl rfl rfl ?_ ?_
   ·
    refine zm377 ?_; refine zm244 ?_; refine zm42 ?_; refine zm7 ?_
    refine TL.callW (F := F) (V := V) (m := m) [] rfl rfl (enters rfl rfl rfl rfl) (wName_ok [110] (.inr (.inr (.inl rfl)))) hW (by omega) rfl (fun v47 V47 hle47 hW47 hS47 hs47 ht47 hp47 => ?_)
    obtain ⟨i47, rfl⟩ := hp47
    exact TF.back5 SN hle47 (zq1216)
   ·
    refine zm378 ?_; refine zm245 ?_
    refine TL.callW (F := F) (V := V) (m := m) [] rfl rfl (enters rfl rfl rfl rfl) (wName_ok [110] (.inr (.inr (.inl rfl)))) hW (by omega) rfl (fun v47 V47 hle47 hW47 hS47 hs47 ht47 hp47 => ?_)
    obtain ⟨i47, rfl⟩ := hp47
    refine TF.back5 SN hle47 ?_; refine zm42 ?_
    exact zq1216
  ·
   refine zm28 ?_
   refine TC.condD rfl (fun c56 => ?_) (fun c56 => ?_)
   ·
    refine zm24 ?_; refine zm186 ?_
    refine TL.callD0 (X := [(F.bw, _)]) (bd := F.bd) rfl (enters rfl rfl rfl rfl) (Pick_ok 9 (by omega) hW.d) rfl (fun v63 H63 at63 hle63 hd63 hp63 => ?_)
    obtain ⟨rfl, r63, rfl, hr63⟩ := hp63
    refine TL.callS (enters rfl rfl rfl rfl) (digits_ok r63 (by have := hr63.1; omega) (by have := hr63.2.1 (by omega); omega)) rfl ?_; refine zm422 ?_; refine zm14 ?_
    refine TL.callW (F := F) (V := { V with at_ := at63 }) (m := m) [] rfl rfl (enters rfl rfl rfl rfl) (wTerm_ok ⟨3, [], 0, [116] ++ Lib.itoa r63, -1, -1⟩ .nil (tname (by have := hr63.1; omega) (by have := hr63.2.1 (by omega); omega))) (hW.dice (.refl _) hd63) (by omega) rfl (fun v67 V67 hle67 hW67 hS67 hs67 ht67 hp67 => ?_)
    dsimp only at hle67 hS67 hs67 ht67 hp67
    obtain ⟨i67, rfl⟩ := hp67
    refine zm2 ?_; refine zm40 ?_; refine zm14 ?_
    refine TL.callW (F := F) (V := V67) (m := m + 1) [] rfl rfl (enters rfl rfl rfl rfl) (wTerm_ok ⟨3, [], 0, [117], -1, -1⟩ .nil (by simp [AnyNm])) hW67 (by omega) rfl (fun v72 V72 hle72 hW72 hS72 hs72 ht72 hp72 => ?_)
    obtain ⟨i72, rfl⟩ := hp72
    refine TL.callW (F := F) (V := V72) (m := m + 1 + 1) [] rfl rfl (enters rfl rfl rfl rfl) (wBoth_ok 19 i67 i72) hW72 (by omega) rfl (fun v73 V73 hle73 hW73 hS73 hs73 ht73 hp73 => ?_)
    obtain ⟨i73, rfl⟩ := hp73
    refine zm225 ?_
    exact TX.finW (V' := V73) (X := []) (.inr rfl) (results1 rfl (RVal.tmp rfl)) rfl rfl (hW73.more (by omega)) (hS67.trans (hS72.trans (hS73))) (by (try dsimp only); omega) (by (try dsimp only); omega) ⟨_, rfl⟩
   ·
    refine zm81 ?_; refine zm24 ?_; refine zm14 ?_
    refine TL.callW (F := F) (V := V) (m := m) [] rfl rfl (enters rfl rfl rfl rfl) (wTerm_ok ⟨4, [], 0, [], -1, -1⟩ .nil .nil) hW (by omega) rfl (fun v77 V77 hle77 hW77 hS77 hs77 ht77 hp77 => ?_)
    obtain ⟨i77, rfl⟩ := hp77
    refine zm0 ?_
    refine TL.callW (F := F) (V := V77) (m := m + 1) [] rfl rfl (enters rfl rfl rfl rfl) (wName_ok [110] (.inr (.inr (.inl rfl)))) hW77 (by omega) rfl (fun v79 V79 hle79 hW79 hS79 hs79 ht79 hp79 => ?_)
    obtain ⟨i79, rfl⟩ := hp79
    refine TL.callW (F := F) (V := V79) (m := m + 1 + 1) [] rfl rfl (enters rfl rfl rfl rfl) (wBoth_ok 18 i77 i79) hW79 (by omega) rfl (fun v80 V80 hle80 hW80 hS80 hs80 ht80 hp80 => ?_)
    obtain ⟨i80, rfl⟩ := hp80
    refine zm22 ?_
    exact TX.finW (V' := V80) (X := []) (.inr rfl) (results1 rfl (RVal.tmp rfl)) rfl rfl (hW80.more (by omega)) (hS77.trans (hS79.trans (hS80))) (by (try dsimp only); omega) (by (try dsimp only); omega) ⟨_, rfl⟩
set_option maxHeartbeats 1000000 in
theorem wStep_ok {F : Fx} {V : WV} (s : TStep) (hs : s.Ok V.S) :
  WFn Tryz.prog F V 74 [.agg s.cells.toArray] 1 (fun v V1 => v = .int .i64 (V.sn : Int) ∧ V1.sn = V.sn + 1) := by
 refine WFn.enter Tryz.func74 Tryz.ntmps74 rfl rfl (fun m w0 hW hm => ?_)
 have hr0 := hW.r0
 have hr1 := hW.r1
 have hme := hW.me
 refine TC.seq (TC.region ?_)
 refine TL.box rfl rfl (fun b3 => ?_)
 refine TL.run (pr_pure rfl) rfl (TL.nil (TX.seqN (TC.seq (TC.region (TL.run (pr_field rfl) rfl ?_)))))
 refine TL.store1 rfl rfl rfl (.here _) rfl rfl ?_
 refine TL.nil (TX.seqN (TC.seq ?_))
 refine TC.drawn (by kernel_rfl) (by kernel_rfl) ?_
 refine TD.leafR [true, true, true] [(0, 1), (1, 1), (2, 1), (3, 1), (4, 1), (5, 4), (6, 4), (7, 3), (8, 5), (9, 1), (10, 1), (11, 1), (12, 0)] (by kernel_rfl) (by kernel_rfl) ?_
 refine TF.pure (pr_pure rfl) rfl (TF.pure (pr_pure rfl) rfl (TF.pure (pr_nil rfl) rfl (TF.pure (pr_field rfl) rfl (TF.pure (pr_field rfl) rfl ?_))))
 refine TF.read (S1 (S1 (S1 SN))) (Hp.le.refl _) (fun _ _ => pr_own1 rfl (.there _ (.here _)) rfl) rfl ?_
 refine TF.read (S1 (S1 (S1 SN))) (Hp.le.refl _) (fun _ _ => pr_ownA rfl (.here _) rfl) rfl ?_
 refine TF.bslice rfl rfl rfl rfl (fun b13 => ?_)
 refine TF.loud5 rfl ?_
 refine TL.apT (enc := TStep.cells) (t := 3) rfl rfl rfl hW.bag hW.s (Src.own [{ s with next := -1 }] (.here _) rfl rfl) rfl (by intro y hy; rw [List.mem_singleton.1 hy]; exact TStep.Ok.all (s := { s with next := -1 }) ⟨hs.name, hs.peer, hs.label, hs.proc, hs.a, hs.c, hs.w, hs.an, hs.cn, hs.wn⟩) zt3 (by have := hW.me; (try dsimp only at this ⊢); simp only [List.length_cons, List.length_nil]; omega) rfl (.skip _ (.skip _ (.skip _ (.skip _ .all)))) rfl (fun S14 a14 c14 B14 hS14 hN14 hT14 hB14 => ?_)
 change _ = _ + 1 at hN14
 refine TF.back5 (S0 (S1 (S1 (S1 SN)))) (Hp.le.refl _) ?_
 refine TF.pure (pr_nil rfl) rfl (TF.pure (pr_field rfl) rfl (TF.pure (pr_field rfl) rfl (TF.loud ?_)))
 refine TL.store1 rfl rfl rfl (.there _ (.there _ (.here _))) rfl rfl ?_
 refine TF.back (TF.nil (TX.seqN (TC.seq (TC.region (TL.run (pr_pure rfl) rfl (TL.run (pr_nil rfl) rfl (TL.run (pr_field rfl) rfl ?_)))))))
 refine TL.run (pr_own1 rfl (.there _ (.there _ (.here _))) rfl) rfl (TL.run ((by first | exact pr_sub rfl rfl (by omega) (by omega) | exact pr_pure rfl)) rfl (TL.run (pr_nil rfl) rfl (TL.run (pr_field rfl) rfl ?_)))
 refine TL.store1 rfl rfl rfl (.there _ (.there _ (.here _))) rfl rfl ?_
 refine TL.nil (TX.seqN (TC.seq (TC.region (TL.run (pr_pure rfl) rfl (TL.run (pr_nil rfl) rfl (TL.run (pr_field rfl) rfl (TL.run (pr_field rfl) rfl ?_)))))))
 refine TL.run (pr_own1 rfl (.there _ (.there _ (.here _))) rfl) rfl (TL.run (pr_lenS rfl rfl) rfl (TL.run (PR.to (pr_sub rfl rfl (by simp only [List.length_cons, List.length_nil]; omega) (by simp only [List.length_cons, List.length_nil]; omega)) (congrArg (Value.int .i64) (by simp only [List.length_cons, List.length_nil]; omega))) rfl (TL.run (pr_pure rfl) rfl (TL.nil (TX.seqN (TC.ret (TX.finW (V' := { V with S := S14, B := B14, sa := a14, sn := V.sn + 1, sc := c14, room := V.room - 1 }) (X := [(b13, _), (b3, _)]) (.inr rfl) (results1 rfl (RVal.tmp rfl)) rfl rfl (⟨hW.fx, hB14, hW.t.le hS14, hT14, hW.n0, by dsimp only; omega, by dsimp only; omega, hW.d, by dsimp only; omega, by have := hW.nb; dsimp only; omega, by have := hW.n10; dsimp only; omega⟩) hS14 (by (try dsimp only); omega) (by (try dsimp only); omega) ⟨rfl, rfl⟩)))))))
end Go.Sx
