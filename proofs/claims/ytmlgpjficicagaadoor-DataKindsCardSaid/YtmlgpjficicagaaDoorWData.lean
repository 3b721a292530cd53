import Derived.Test.YtmlgpjficicagaaDoorWLexT
import Derived.Test.YtmlgpjficicagaaDoorWLexW
import Derived.Test.YtmlgpjficicagaaDoorWVal
import Derived.Test.YtmlgpjficicagaaDoorShelfD
import Derived.Test.YtmlgpjficicagaaDoorPureD3
set_option linter.unusedVariables false
set_option linter.unusedSimpArgs false
namespace Go.Sx
open Go Go.Proofs
set_option maxRecDepth 100000 in
set_option maxHeartbeats 1000000 in
theorem ddig_ok {H : Hp} (n : Int) (hn : i64ok n) :
    FnGS Tabs Tryd.prog 21 [.int .i64 n] H (gs (Lib.itoa n)) := by
  refine FnGS.enter Tryd.func21 Tryd.ntmps21 rfl rfl (fun w0 hT => ?_)
  refine TC.seq ?_
  refine TC.region ?_
  refine TL.run (pr_pure rfl) rfl ?_
  refine TL.nil ?_
  refine TX.seqN ?_
  refine TC.seq ?_
  refine TC.region ?_
  refine TL.run (pr_pure rfl) rfl ?_
  refine TL.callTS hT (enters rfl rfl rfl rfl) (fmt_ok n hn) rfl ?_
  refine TL.run (pr_pure rfl) rfl ?_
  refine TL.nil ?_
  refine TX.seqN ?_
  refine TC.ret ?_
  exact TX.finS (.inr rfl) (results1 rfl (RVal.tmp rfl)) rfl

set_option maxRecDepth 100000 in
set_option maxHeartbeats 1000000 in
theorem dLess_ok {H : Hp} {a b : Val} {la lb : Value} (hA : RdV H la a) (hB : RdV H lb b) :
    FnS Tryd.prog 18 [.agg (a.cells la).toArray, .agg (b.cells lb).toArray] H (.bool (lessV a b)) := by
  have hA1 : RdSl H 1 I64.cells la a.l := hA
  have hB1 : RdSl H 1 I64.cells lb b.l := hB
  have hmax := hA1.max
  refine FnS.enter Tryd.func18 Tryd.ntmps18 rfl rfl (fun w0 => ?_)
  refine TC.seq ?_
  refine TC.region ?_
  refine TL.box rfl rfl (fun b2 => ?_)
  refine TL.box rfl rfl (fun b3 => ?_)
  refine TL.run (pr_pure rfl) rfl ?_
  refine TL.nil ?_
  refine TX.seqN ?_
  refine TC.seq ?_
  refine TC.block ?_
  refine TC.seq ?_
  refine TC.region ?_
  refine TL.run (pr_field rfl) rfl ?_
  refine TL.run (pr_own1 rfl (.there _ (.here _)) rfl) rfl ?_
  refine TL.run (pr_field rfl) rfl ?_
  refine TL.run (pr_own1 rfl (.here _) rfl) rfl ?_
  refine TL.run (pr_pure rfl) rfl ?_
  refine TL.run (pr_pure rfl) rfl ?_
  refine TL.nil ?_
  refine TX.seqN ?_
  refine TC.condND rfl (fun c7 => ?_) (fun c7 => ?_)
  ·
    refine TC.seq ?_
    refine TC.region ?_
    refine TL.run (pr_field rfl) rfl ?_
    refine TL.run (pr_own1 rfl (.there _ (.here _)) rfl) rfl ?_
    refine TL.run (pr_field rfl) rfl ?_
    refine TL.run (pr_own1 rfl (.here _) rfl) rfl ?_
    refine TL.run (pr_pure rfl) rfl ?_
    refine TL.run (pr_pure rfl) rfl ?_
    refine TL.nil ?_
    refine TX.seqN ?_
    refine TC.ret ?_
    refine TX.blkR ?_
    refine TX.thenR ?_
    exact TX.finS (.inr rfl) (results1 rfl (RVal.tmp rfl)) (congrArg Value.bool (by unfold lessV; first | (rw [if_neg c7]; done) | (rw [if_pos c7, if_neg c18]; done) | (rw [if_pos c7, if_pos c18, if_neg c29]; done) | (rw [if_pos c7, if_pos c18, if_pos c29]; first | exact (less_over hI.1 hx hI.2.2 (by omega)).symm | exact (less_ne hI.1 hx hy c59 hI.2.2).symm | exact (less_end hI.1 hI.2.1 c44 hI.2.2).symm)))
  ·
    refine TC.seq ?_
    refine TC.region ?_
    refine TL.run (pr_field rfl) rfl ?_
    refine TL.run (pr_own1 rfl (.there _ (.here _)) rfl) rfl ?_
    refine TL.run (pr_field rfl) rfl ?_
    refine TL.run (pr_own1 rfl (.here _) rfl) rfl ?_
    refine TL.run (pr_pure rfl) rfl ?_
    refine TL.run (pr_pure rfl) rfl ?_
    refine TL.nil ?_
    refine TX.seqN ?_
    refine TC.condND rfl (fun c18 => ?_) (fun c18 => ?_)
    ·
      refine TC.seq ?_
      refine TC.region ?_
      refine TL.run (pr_field rfl) rfl ?_
      refine TL.run (pr_own1 rfl (.there _ (.here _)) rfl) rfl ?_
      refine TL.run (pr_field rfl) rfl ?_
      refine TL.run (pr_own1 rfl (.here _) rfl) rfl ?_
      refine TL.run (pr_pure rfl) rfl ?_
      refine TL.run (pr_pure rfl) rfl ?_
      refine TL.nil ?_
      refine TX.seqN ?_
      refine TC.ret ?_
      refine TX.blkR ?_
      refine TX.thenR ?_
      exact TX.finS (.inr rfl) (results1 rfl (RVal.tmp rfl)) (congrArg Value.bool (by unfold lessV; first | (rw [if_neg c7]; done) | (rw [if_pos c7, if_neg c18]; done) | (rw [if_pos c7, if_pos c18, if_neg c29]; done) | (rw [if_pos c7, if_pos c18, if_pos c29]; first | exact (less_over hI.1 hx hI.2.2 (by omega)).symm | exact (less_ne hI.1 hx hy c59 hI.2.2).symm | exact (less_end hI.1 hI.2.1 c44 hI.2.2).symm)))
    ·
      refine TC.seq ?_
      refine TC.region ?_
      refine TL.run (pr_field rfl) rfl ?_
      refine TL.run (pr_own1 rfl (.there _ (.here _)) rfl) rfl ?_
      refine TL.run (pr_field rfl) rfl ?_
      refine TL.run (pr_own1 rfl (.here _) rfl) rfl ?_
      refine TL.run (pr_str rfl rfl rfl) rfl ?_
      refine TL.run (pr_pure rfl) rfl ?_
      refine TL.nil ?_
      refine TX.seqN ?_
      refine TC.condND rfl (fun c29 => ?_) (fun c29 => ?_)
      ·
        refine TC.seq ?_
        refine TC.region ?_
        refine TL.run (pr_field rfl) rfl ?_
        refine TL.run (pr_own1 rfl (.there _ (.here _)) rfl) rfl ?_
        refine TL.run (pr_field rfl) rfl ?_
        refine TL.run (pr_own1 rfl (.here _) rfl) rfl ?_
        refine TL.run (pr_str rfl rfl rfl) rfl ?_
        refine TL.run (pr_pure rfl) rfl ?_
        refine TL.nil ?_
        refine TX.seqN ?_
        refine TC.ret ?_
        refine TX.blkR ?_
        refine TX.thenR ?_
        exact TX.finS (.inr rfl) (results1 rfl (RVal.tmp rfl)) (congrArg Value.bool (by unfold lessV; first | (rw [if_neg c7]; done) | (rw [if_pos c7, if_neg c18]; done) | (rw [if_pos c7, if_pos c18, if_neg c29]; done) | (rw [if_pos c7, if_pos c18, if_pos c29]; first | exact (less_over hI.1 hx hI.2.2 (by omega)).symm | exact (less_ne hI.1 hx hy c59 hI.2.2).symm | exact (less_end hI.1 hI.2.1 c44 hI.2.2).symm)))
      ·
        refine TC.skip ?_
        refine TX.blkN ?_
        refine TX.seqN ?_
        refine TC.seq ?_
        refine TC.seq ?_
        refine TC.region ?_
        refine TL.run (pr_field rfl) rfl ?_
        refine TL.run (pr_own1 rfl (.there _ (.here _)) rfl) rfl ?_
        refine TL.run (pr_lenSl rfl rfl hA1) rfl ?_
        refine TL.run (pr_pure rfl) rfl ?_
        refine TL.nil ?_
        refine TX.seqN ?_
        refine TC.block ?_
        refine TC.loop (V := fun k => [(43, .int .i64 k)]) (K := [(2, _), (3, _), (4, _), (41, _), (42, _)]) (L := fun k => _) (I := fun k => 0 ≤ k ∧ k ≤ a.l.length ∧ lessLL a.l b.l = lessLL (a.l.drop k.toNat) (b.l.drop k.toNat)) (μ := fun k => (a.l.length - k).toNat) (i := (0 : Int)) ⟨rfl, rfl, rfl, rfl, rfl, rfl, trivial⟩ ⟨by omega, by omega, rfl⟩ (fun w hw => hw) (fun k hI => ?_)
        refine TC.seq ?_
        refine TC.region ?_
        refine TL.run (pr_pure rfl) rfl ?_
        refine TL.nil ?_
        refine TX.seqN ?_
        refine TC.seq ?_
        refine TC.condD rfl (fun c44 => ?_) (fun c44 => ?_)
        ·
          obtain ⟨x, hx⟩ := getSome (l := a.l) hI.1 c44
          refine TC.skip ?_
          refine TX.seqN ?_
          refine TC.seq ?_
          refine TC.block ?_
          refine TC.seq ?_
          refine TC.region ?_
          refine TL.run (pr_pure rfl) rfl ?_
          refine TL.run (pr_indexSl rfl hA1 rfl (by omega) (by omega)) rfl ?_
          refine TL.run (pr_el0 hA1 hx rfl rfl) rfl ?_
          refine TL.run (pr_pure rfl) rfl ?_
          refine TL.run (pr_pure rfl) rfl ?_
          refine TL.nil ?_
          refine TX.seqN ?_
          refine TC.seq ?_
          refine TC.seq ?_
          refine TC.region ?_
          refine TL.run (pr_pure rfl) rfl ?_
          refine TL.run (pr_field rfl) rfl ?_
          refine TL.run (pr_own1 rfl (.here _) rfl) rfl ?_
          refine TL.run (pr_lenSl rfl rfl hB1) rfl ?_
          refine TL.run (pr_pure rfl) rfl ?_
          refine TL.nil ?_
          refine TX.seqN ?_
          refine TC.condD rfl (fun c52 => ?_) (fun c52 => ?_)
          ·
            refine TC.seq ?_
            refine TC.region ?_
            refine TL.run (pr_pure rfl) rfl ?_
            refine TL.nil ?_
            refine TX.seqN ?_
            refine TC.ret ?_
            refine TX.thenR ?_
            refine TX.blkR ?_
            refine TX.thenR ?_
            refine TX.thenR ?_
            refine TX.blkR ?_
            refine TX.thenR ?_
            exact TX.finS (.inr rfl) (results1 rfl (RVal.tmp rfl)) (congrArg Value.bool (by unfold lessV; first | (rw [if_neg c7]; done) | (rw [if_pos c7, if_neg c18]; done) | (rw [if_pos c7, if_pos c18, if_neg c29]; done) | (rw [if_pos c7, if_pos c18, if_pos c29]; first | exact (less_over hI.1 hx hI.2.2 (by omega)).symm | exact (less_ne hI.1 hx hy c59 hI.2.2).symm | exact (less_end hI.1 hI.2.1 c44 hI.2.2).symm)))
          ·
            obtain ⟨y, hy⟩ := getSome (l := b.l) hI.1 (by omega)
            refine TC.skip ?_
            refine TX.seqN ?_
            refine TC.seq ?_
            refine TC.region ?_
            refine TL.run (pr_pure rfl) rfl ?_
            refine TL.run (pr_field rfl) rfl ?_
            refine TL.run (pr_own1 rfl (.here _) rfl) rfl ?_
            refine TL.run (pr_pure rfl) rfl ?_
            refine TL.run (pr_indexSl rfl hB1 rfl (by omega) (by omega)) rfl ?_
            refine TL.run (pr_el0 hB1 hy rfl rfl) rfl ?_
            refine TL.run (pr_pure rfl) rfl ?_
            refine TL.nil ?_
            refine TX.seqN ?_
            refine TC.condND rfl (fun c59 => ?_) (fun c59 => ?_)
            ·
              refine TC.seq ?_
              refine TC.region ?_
              refine TL.run (pr_pure rfl) rfl ?_
              refine TL.run (pr_field rfl) rfl ?_
              refine TL.run (pr_own1 rfl (.here _) rfl) rfl ?_
              refine TL.run (pr_pure rfl) rfl ?_
              refine TL.run (pr_indexSl rfl hB1 rfl (by omega) (by omega)) rfl ?_
              refine TL.run (pr_el0 hB1 hy rfl rfl) rfl ?_
              refine TL.run (pr_pure rfl) rfl ?_
              refine TL.run (pr_pure rfl) rfl ?_
              refine TL.nil ?_
              refine TX.seqN ?_
              refine TC.ret ?_
              refine TX.blkR ?_
              refine TX.thenR ?_
              refine TX.thenR ?_
              refine TX.blkR ?_
              refine TX.thenR ?_
              exact TX.finS (.inr rfl) (results1 rfl (RVal.tmp rfl)) (congrArg Value.bool (by unfold lessV; first | (rw [if_neg c7]; done) | (rw [if_pos c7, if_neg c18]; done) | (rw [if_pos c7, if_pos c18, if_neg c29]; done) | (rw [if_pos c7, if_pos c18, if_pos c29]; first | exact (less_over hI.1 hx hI.2.2 (by omega)).symm | exact (less_ne hI.1 hx hy c59 hI.2.2).symm | exact (less_end hI.1 hI.2.1 c44 hI.2.2).symm)))
            ·
              refine TC.skip ?_
              refine TX.blkN ?_
              refine TX.seqN ?_
              refine TC.region ?_
              refine TL.run ((by first | exact pr_add rfl rfl (by omega) (by omega) | exact pr_pure rfl)) rfl ?_
              refine TL.run (pr_pure rfl) rfl ?_
              refine TL.nil ?_
              exact TX.round (k + 1) ⟨by omega, by omega, less_next hI.1 hx hy c59 hI.2.2⟩ ⟨rfl, rfl, rfl, rfl, rfl, rfl, trivial⟩ (fun w hw => hw) (by omega)
        ·
          refine TC.exit ?_
          refine TX.thenE ?_
          refine TX.thenE ?_
          refine TX.blkHit ?_
          refine TX.seqN ?_
          refine TC.seq ?_
          refine TC.region ?_
          refine TL.run (pr_field rfl) rfl ?_
          refine TL.run (pr_own1 rfl (.there _ (.here _)) rfl) rfl ?_
          refine TL.run (pr_lenSl rfl rfl hA1) rfl ?_
          refine TL.run (pr_field rfl) rfl ?_
          refine TL.run (pr_own1 rfl (.here _) rfl) rfl ?_
          refine TL.run (pr_lenSl rfl rfl hB1) rfl ?_
          refine TL.run (pr_pure rfl) rfl ?_
          refine TL.run (pr_pure rfl) rfl ?_
          refine TL.nil ?_
          refine TX.seqN ?_
          refine TC.ret ?_
          exact TX.finS (.inr rfl) (results1 rfl (RVal.tmp rfl)) (congrArg Value.bool (by unfold lessV; first | (rw [if_neg c7]; done) | (rw [if_pos c7, if_neg c18]; done) | (rw [if_pos c7, if_pos c18, if_neg c29]; done) | (rw [if_pos c7, if_pos c18, if_pos c29]; first | exact (less_over hI.1 hx hI.2.2 (by omega)).symm | exact (less_ne hI.1 hx hy c59 hI.2.2).symm | exact (less_end hI.1 hI.2.1 c44 hI.2.2).symm)))

set_option maxRecDepth 100000 in
set_option maxHeartbeats 2000000 in
theorem dShow_ok {H : Hp} {a : Val} {lv : Value} (hV : RdV H lv a) (hi : i64V a) (hs : mayV a = true → a.k = 5 → a.s.length ≤ 9223372036854775000) :
    FnGS Tabs Tryd.prog 9 [.agg (a.cells lv).toArray] H (gs (showV a)) := by
  have hV1 : RdSl H 1 I64.cells lv a.l := hV
  have hmax := hV1.max
  refine FnGS.enter Tryd.func9 Tryd.ntmps9 rfl rfl (fun w0 hT => ?_)
  refine TC.seq ?_
  refine TC.region ?_
  refine TL.box rfl rfl (fun b1 => ?_)
  refine TL.run (pr_pure rfl) rfl ?_
  refine TL.nil ?_
  refine TX.seqN ?_
  refine TC.seq ?_
  refine TC.seq ?_
  refine TC.region ?_
  refine TL.run (pr_ownA rfl (.here _) rfl) rfl ?_
  refine TL.callS (enters rfl rfl rfl rfl) (dMay_ok (x := a) (lv := lv) hV) rfl ?_
  refine TL.run (pr_pure rfl) rfl ?_
  refine TL.nil ?_
  refine TX.seqN ?_
  refine TC.cond rfl (fun c8 => ?_) (fun c8 => ?_)
  ·
    have hm : ¬ mayV a = true := by simpa using c8
    refine TC.seq ?_
    refine TC.region ?_
    refine TL.run (pr_pure rfl) rfl ?_
    refine TL.nil ?_
    refine TX.seqN ?_
    refine TC.ret ?_
    refine TX.thenR ?_
    exact TX.finS (.inr rfl) (results1 rfl (RVal.tmp rfl)) (congrArg gs (by unfold showV; first | (rw [if_neg hm]; done) | (rw [if_pos hm, if_pos c11]; done) | (rw [if_pos hm, if_neg c11, if_pos c13]; done) | (rw [if_pos hm, if_neg c11, if_neg c13, if_pos c18]; simp only [decide_eq_true_eq]; done) | (rw [if_pos hm, if_neg c11, if_neg c13, if_neg c18, if_pos c24]; done) | (rw [if_pos hm, if_neg c11, if_neg c13, if_neg c18, if_neg c24, if_pos c29]; done) | (rw [if_pos hm, if_neg c11, if_neg c13, if_neg c18, if_neg c24, if_neg c29]; done)))
  ·
    have hm : mayV a = true := by simpa using c8
    obtain ⟨m0, m1, m2, m3, m4, m5⟩ := may_all hm
    refine TC.skip ?_
    refine TX.seqN ?_
    refine TC.seq ?_
    refine TC.seq ?_
    refine TC.region ?_
    refine TL.run (pr_field rfl) rfl ?_
    refine TL.run (pr_own1 rfl (.here _) rfl) rfl ?_
    refine TL.nil ?_
    refine TX.seqN ?_
    refine TC.block ?_
    refine TC.seq ?_
    refine TC.region ?_
    refine TL.run (pr_pure rfl) rfl ?_
    refine TL.run (pr_pure rfl) rfl ?_
    refine TL.nil ?_
    refine TX.seqN ?_
    refine TC.condD rfl (fun c11 => ?_) (fun c11 => ?_)
    ·
      refine TC.seq ?_
      refine TC.region ?_
      refine TL.run (pr_pure rfl) rfl ?_
      refine TL.nil ?_
      refine TX.seqN ?_
      refine TC.ret ?_
      refine TX.blkR ?_
      refine TX.thenR ?_
      exact TX.finS (.inr rfl) (results1 rfl (RVal.tmp rfl)) (congrArg gs (by unfold showV; first | (rw [if_neg hm]; done) | (rw [if_pos hm, if_pos c11]; done) | (rw [if_pos hm, if_neg c11, if_pos c13]; done) | (rw [if_pos hm, if_neg c11, if_neg c13, if_pos c18]; simp only [decide_eq_true_eq]; done) | (rw [if_pos hm, if_neg c11, if_neg c13, if_neg c18, if_pos c24]; done) | (rw [if_pos hm, if_neg c11, if_neg c13, if_neg c18, if_neg c24, if_pos c29]; done) | (rw [if_pos hm, if_neg c11, if_neg c13, if_neg c18, if_neg c24, if_neg c29]; done)))
    ·
      refine TC.seq ?_
      refine TC.region ?_
      refine TL.run (pr_pure rfl) rfl ?_
      refine TL.run (pr_pure rfl) rfl ?_
      refine TL.nil ?_
      refine TX.seqN ?_
      refine TC.condD rfl (fun c13 => ?_) (fun c13 => ?_)
      ·
        refine TC.seq ?_
        refine TC.region ?_
        refine TL.run (pr_field rfl) rfl ?_
        refine TL.run (pr_own1 rfl (.here _) rfl) rfl ?_
        refine TL.callTS hT (enters rfl rfl rfl rfl) (ddig_ok a.n hi.1) rfl ?_
        refine TL.run (pr_pure rfl) rfl ?_
        refine TL.nil ?_
        refine TX.seqN ?_
        refine TC.ret ?_
        refine TX.blkR ?_
        refine TX.thenR ?_
        exact TX.finS (.inr rfl) (results1 rfl (RVal.tmp rfl)) (congrArg gs (by unfold showV; first | (rw [if_neg hm]; done) | (rw [if_pos hm, if_pos c11]; done) | (rw [if_pos hm, if_neg c11, if_pos c13]; done) | (rw [if_pos hm, if_neg c11, if_neg c13, if_pos c18]; simp only [decide_eq_true_eq]; done) | (rw [if_pos hm, if_neg c11, if_neg c13, if_neg c18, if_pos c24]; done) | (rw [if_pos hm, if_neg c11, if_neg c13, if_neg c18, if_neg c24, if_pos c29]; done) | (rw [if_pos hm, if_neg c11, if_neg c13, if_neg c18, if_neg c24, if_neg c29]; done)))
      ·
        refine TC.seq ?_
        refine TC.region ?_
        refine TL.run (pr_pure rfl) rfl ?_
        refine TL.run (pr_pure rfl) rfl ?_
        refine TL.nil ?_
        refine TX.seqN ?_
        refine TC.condD rfl (fun c18 => ?_) (fun c18 => ?_)
        ·
          refine TC.seq ?_
          refine TC.region ?_
          refine TL.run (pr_field rfl) rfl ?_
          refine TL.run (pr_own1 rfl (.here _) rfl) rfl ?_
          refine TL.run (pr_pure rfl) rfl ?_
          refine TL.callS (enters rfl rfl rfl rfl) (fb_ok (decide (a.n = 1))) rfl ?_
          refine TL.run (pr_pure rfl) rfl ?_
          refine TL.nil ?_
          refine TX.seqN ?_
          refine TC.ret ?_
          refine TX.blkR ?_
          refine TX.thenR ?_
          exact TX.finS (.inr rfl) (results1 rfl (RVal.tmp rfl)) (congrArg gs (by unfold showV; first | (rw [if_neg hm]; done) | (rw [if_pos hm, if_pos c11]; done) | (rw [if_pos hm, if_neg c11, if_pos c13]; done) | (rw [if_pos hm, if_neg c11, if_neg c13, if_pos c18]; simp only [decide_eq_true_eq]; done) | (rw [if_pos hm, if_neg c11, if_neg c13, if_neg c18, if_pos c24]; done) | (rw [if_pos hm, if_neg c11, if_neg c13, if_neg c18, if_neg c24, if_pos c29]; done) | (rw [if_pos hm, if_neg c11, if_neg c13, if_neg c18, if_neg c24, if_neg c29]; done)))
        ·
          refine TC.seq ?_
          refine TC.region ?_
          refine TL.run (pr_pure rfl) rfl ?_
          refine TL.run (pr_pure rfl) rfl ?_
          refine TL.nil ?_
          refine TX.seqN ?_
          refine TC.condD rfl (fun c24 => ?_) (fun c24 => ?_)
          ·
            have hs3 := (m3 c24).2
            refine TC.seq ?_
            refine TC.region ?_
            refine TL.run (pr_field rfl) rfl ?_
            refine TL.run (pr_own1 rfl (.here _) rfl) rfl ?_
            refine TL.callS (enters rfl rfl rfl rfl) (x_Quoted_ok a.s (by omega)) rfl ?_
            refine TL.run (pr_pure rfl) rfl ?_
            refine TL.nil ?_
            refine TX.seqN ?_
            refine TC.ret ?_
            refine TX.blkR ?_
            refine TX.thenR ?_
            exact TX.finS (.inr rfl) (results1 rfl (RVal.tmp rfl)) (congrArg gs (by unfold showV; first | (rw [if_neg hm]; done) | (rw [if_pos hm, if_pos c11]; done) | (rw [if_pos hm, if_neg c11, if_pos c13]; done) | (rw [if_pos hm, if_neg c11, if_neg c13, if_pos c18]; simp only [decide_eq_true_eq]; done) | (rw [if_pos hm, if_neg c11, if_neg c13, if_neg c18, if_pos c24]; done) | (rw [if_pos hm, if_neg c11, if_neg c13, if_neg c18, if_neg c24, if_pos c29]; done) | (rw [if_pos hm, if_neg c11, if_neg c13, if_neg c18, if_neg c24, if_neg c29]; done)))
          ·
            refine TC.seq ?_
            refine TC.region ?_
            refine TL.run (pr_pure rfl) rfl ?_
            refine TL.run (pr_pure rfl) rfl ?_
            refine TL.nil ?_
            refine TX.seqN ?_
            refine TC.condD rfl (fun c29 => ?_) (fun c29 => ?_)
            ·
              have hl4 := (m4 c29).2
              have hjl := join_len (m := 21) (a.l.map Lib.itoa) (fun w hw => by obtain ⟨n, hn, rfl⟩ := List.mem_map.1 hw; exact itoa_len (hi.2 n hn))
              rw [List.length_map] at hjl
              refine TC.seq ?_
              refine TC.region ?_
              refine TL.run (pr_pure rfl) rfl ?_
              refine TL.nil ?_
              refine TX.seqN ?_
              refine TC.seq ?_
              refine TC.seq ?_
              refine TC.region ?_
              refine TL.run (pr_field rfl) rfl ?_
              refine TL.run (pr_own1 rfl (.here _) rfl) rfl ?_
              refine TL.run (pr_lenSl rfl rfl hV1) rfl ?_
              refine TL.run (pr_pure rfl) rfl ?_
              refine TL.nil ?_
              refine TX.seqN ?_
              refine TC.block ?_
              refine TC.loop4 (V := fun k v ob H1 => [(3, v), (34, .int .i64 k)]) (K := [(1, _), (2, _), (32, _), (33, _)]) (L := fun k v ob H1 => St [] w0 H H ((b1, _) :: ob)) (I := fun k v ob H1 => (0 ≤ k ∧ k ≤ a.l.length) ∧ OwnSl 1 Str.cells v ((a.l.take k.toNat).map Lib.itoa) ob) (μ := fun k => (a.l.length - k).toNat) 0 (.slice none 0 0) [] H ⟨rfl, rfl, rfl, rfl, rfl, rfl, trivial⟩ ⟨⟨by omega, by omega⟩, OwnSl.nil⟩ (fun w hw => hw) (fun k v ob H1 hI => ?_)
              obtain ⟨⟨k0, k1⟩, hO⟩ := hI
              obtain ⟨va, vc, rfl⟩ := hO.form
              refine TC.seq ?_
              refine TC.region ?_
              refine TL.run (pr_pure rfl) rfl ?_
              refine TL.nil ?_
              refine TX.seqN ?_
              refine TC.seq ?_
              refine TC.condD rfl (fun c35 => ?_) (fun c35 => ?_)
              ·
                obtain ⟨x, hx⟩ := getSome (l := a.l) k0 c35
                refine TC.skip ?_
                refine TX.seqN ?_
                refine TC.seq ?_
                refine TC.block ?_
                refine TC.seq ?_
                refine TC.region ?_
                refine TL.run (pr_indexSl rfl hV1 rfl (by omega) (by omega)) rfl ?_
                refine TL.run (pr_el0 hV1 hx rfl rfl) rfl ?_
                refine TL.run (pr_pure rfl) rfl ?_
                refine TL.nil ?_
                refine TX.seqN ?_
                refine TC.region ?_
                refine TL.run (pr_pure rfl) rfl ?_
                refine TL.run (pr_pure rfl) rfl ?_
                refine TL.callTS hT (enters rfl rfl rfl rfl) (ddig_ok x (hi.2 x (List.mem_of_getElem? hx))) rfl ?_
                refine TL.bslice rfl rfl rfl rfl (fun b41 => ?_)
                refine TL.append (enc := Str.cells) rfl rfl rfl hO (Src.own [Lib.itoa x] (.here _) rfl rfl) (by simp; omega) rfl (.skip _ (.skip _ .all)) rfl (fun a42 c42 ob42 hO42 => ?_)
                refine TL.run (pr_pure rfl) rfl ?_
                refine TL.nil ?_
                refine TX.blkN ?_
                refine TX.seqN ?_
                refine TC.region ?_
                refine TL.run ((by first | exact pr_add rfl rfl (by omega) (by omega) | exact pr_pure rfl)) rfl ?_
                refine TL.run (pr_pure rfl) rfl ?_
                refine TL.nil ?_
                exact TX.round4 (k + 1) _ ob42 H ⟨⟨by omega, by omega⟩, by rw [map_take_snoc k0 hx]; exact hO42⟩ ⟨rfl, rfl, rfl, rfl, rfl, rfl, trivial⟩ (fun w hw => hw.drop) (by omega)
              ·
                refine TC.exit ?_
                refine TX.thenE ?_
                refine TX.thenE ?_
                refine TX.blkHit ?_
                refine TX.seqN ?_
                refine TC.seq ?_
                refine TC.region ?_
                refine TL.run (pr_pure rfl) rfl ?_
                refine TL.pubO hO (.skip _ .all) (by simp) (fun HJ leJ hJ => ?_)
                have hJ2 := hJ.cast (show _ = a.l.map Lib.itoa by rw [take_all c35 k0])
                refine TL.callS (enters rfl rfl rfl rfl) (join_ok hJ2 [32] (by simp; omega) (by omega)) rfl ?_
                refine TL.run (pr_concat rfl rfl (by simp; omega)) rfl ?_
                refine TL.run (pr_concat rfl rfl (by simp; omega)) rfl ?_
                refine TL.run (pr_pure rfl) rfl ?_
                refine TL.nil ?_
                refine TX.seqN ?_
                refine TC.ret ?_
                refine TX.blkR ?_
                refine TX.thenR ?_
                exact TX.finS (.inr rfl) (results1 rfl (RVal.tmp rfl)) (congrArg gs (by unfold showV; first | (rw [if_neg hm]; done) | (rw [if_pos hm, if_pos c11]; done) | (rw [if_pos hm, if_neg c11, if_pos c13]; done) | (rw [if_pos hm, if_neg c11, if_neg c13, if_pos c18]; simp only [decide_eq_true_eq]; done) | (rw [if_pos hm, if_neg c11, if_neg c13, if_neg c18, if_pos c24]; done) | (rw [if_pos hm, if_neg c11, if_neg c13, if_neg c18, if_neg c24, if_pos c29]; done) | (rw [if_pos hm, if_neg c11, if_neg c13, if_neg c18, if_neg c24, if_neg c29]; done)))
            ·
              have hk5 : a.k = 5 := by rcases may_k hm with e | e | e | e | e | e <;> first | exact e | exact absurd e (by assumption)
              have hs5 := hs hm hk5
              have hil := itoa_len hi.1
              refine TC.skip ?_
              refine TX.blkN ?_
              refine TX.seqN ?_
              refine TC.seq ?_
              refine TC.quiet (by kernel_rfl) (by kernel_rfl) ?_
              refine TQ.run (pr_field rfl) rfl ?_
              refine TQ.run (pr_own1 rfl (.here _) rfl) rfl ?_
              refine TQ.run (pr_concat rfl rfl (by simp; omega)) rfl ?_
              refine TQ.run (pr_field rfl) rfl ?_
              refine TQ.run (pr_own1 rfl (.here _) rfl) rfl ?_
              refine TQ.callTS hT (enters rfl rfl rfl rfl) (ddig_ok a.n hi.1) rfl ?_
              refine TQ.run (pr_concat rfl rfl (by simp; omega)) rfl ?_
              refine TQ.run (pr_pure rfl) rfl ?_
              refine TQ.nil ?_
              refine TX.seqN ?_
              refine TC.ret ?_
              exact TX.finS (.inr rfl) (results1 rfl (RVal.tmp rfl)) (congrArg gs (by unfold showV; first | (rw [if_neg hm]; done) | (rw [if_pos hm, if_pos c11]; done) | (rw [if_pos hm, if_neg c11, if_pos c13]; done) | (rw [if_pos hm, if_neg c11, if_neg c13, if_pos c18]; simp only [decide_eq_true_eq]; done) | (rw [if_pos hm, if_neg c11, if_neg c13, if_neg c18, if_pos c24]; done) | (rw [if_pos hm, if_neg c11, if_neg c13, if_neg c18, if_neg c24, if_pos c29]; done) | (rw [if_pos hm, if_neg c11, if_neg c13, if_neg c18, if_neg c24, if_neg c29]; done)))

set_option maxRecDepth 100000 in
set_option maxHeartbeats 4000000 in
theorem guess_ok {H : Hp} (s : Str) (hmax : s.length ≤ 100000) (hG : LibG H) :
    FnG Tabs Tryd.prog 33 [gs s] H (fun v H1 => GV (guessV s) v H1) := by
  refine FnG.enter Tryd.func33 Tryd.ntmps33 rfl rfl (fun w0 hT => ?_)
  refine TC.seq ?_
  refine TC.region ?_
  refine TL.alloc rfl (fun b2 => ?_)
  refine TL.nil ?_
  refine TX.seqN ?_
  refine TC.seq ?_
  refine TC.block ?_
  refine TC.seq ?_
  refine TC.region ?_
  refine TL.run (pr_pure rfl) rfl ?_
  refine TL.run (pr_str rfl rfl rfl) rfl ?_
  refine TL.run (pr_pure rfl) rfl ?_
  refine TL.nil ?_
  refine TX.seqN ?_
  refine TC.condD rfl (fun c22 => ?_) (fun c22 => ?_)
  ·
    refine TC.seq ?_
    refine TC.region ?_
    refine TL.run (pr_build rfl rfl) rfl ?_
    refine TL.storeA rfl rfl rfl rfl rfl (.here _) rfl rfl ?_
    refine TL.nil ?_
    refine TX.seqN ?_
    refine TC.ret ?_
    refine TX.blkR ?_
    refine TX.thenR ?_
    exact TX.fin0 (.inr rfl) (results1 rfl (RVal.cellA rfl (.here _) rfl)) (GV.of (q := ⟨2, 1, [], []⟩) (by unfold guessV; rw [if_pos c22]) RdSl.nil)
  ·
    refine TC.seq ?_
    refine TC.region ?_
    refine TL.run (pr_pure rfl) rfl ?_
    refine TL.run (pr_str rfl rfl rfl) rfl ?_
    refine TL.run (pr_pure rfl) rfl ?_
    refine TL.nil ?_
    refine TX.seqN ?_
    refine TC.condD rfl (fun c26 => ?_) (fun c26 => ?_)
    ·
      refine TC.seq ?_
      refine TC.region ?_
      refine TL.run (pr_build rfl rfl) rfl ?_
      refine TL.storeA rfl rfl rfl rfl rfl (.here _) rfl rfl ?_
      refine TL.nil ?_
      refine TX.seqN ?_
      refine TC.ret ?_
      refine TX.blkR ?_
      refine TX.thenR ?_
      exact TX.fin0 (.inr rfl) (results1 rfl (RVal.cellA rfl (.here _) rfl)) (GV.of (q := ⟨2, 0, [], []⟩) (by unfold guessV; rw [if_neg c22, if_pos c26]) RdSl.nil)
    ·
      refine TC.seq ?_
      refine TC.region ?_
      refine TL.run (pr_pure rfl) rfl ?_
      refine TL.callS (enters rfl rfl rfl rfl) (hp_ok s [34]) rfl ?_
      refine TL.run (pr_pure rfl) rfl ?_
      refine TL.nil ?_
      refine TX.seqN ?_
      refine TC.cond rfl (fun c30 => ?_) (fun c30 => ?_)
      ·
        refine TC.seq ?_
        refine TC.region ?_
        refine TL.run (pr_pure rfl) rfl ?_
        refine TL.call (enters rfl rfl rfl rfl) (x_Tokens_ok s (by omega) hG) rfl (fun v35 H35 hle35 hp35 => ?_)
        obtain ⟨lv35, rfl, hR35⟩ := hp35
        replace hG := hG.le hle35
        obtain ⟨la35, lc35, rfl⟩ := RdSl.len hR35
        refine TL.run (pr_pure rfl) rfl ?_
        refine TL.run (pr_pure rfl) rfl ?_
        refine TL.run (pr_pure rfl) rfl ?_
        refine TL.run (pr_pure rfl) rfl ?_
        refine TL.run (pr_pure rfl) rfl ?_
        refine TL.run (pr_pure rfl) rfl ?_
        refine TL.run (pr_pure rfl) rfl ?_
        refine TL.nil ?_
        refine TX.seqN ?_
        refine TC.seq ?_
        refine TC.region ?_
        refine TL.run (pr_pure rfl) rfl ?_
        refine TL.run (pr_pure rfl) rfl ?_
        refine TL.run (pr_pure rfl) rfl ?_
        refine TL.split (s := 41) rfl (fun g41 => ?_) (fun g41 => ?_)
        ·
          have q41 := of_decide_eq_true g41
          refine TL.gdY rfl rfl (pr_pure rfl) rfl ?_
          refine TL.gdY rfl rfl (pr_lenSl rfl rfl hR35) rfl ?_
          refine TL.gdY rfl rfl (pr_pure rfl) rfl ?_
          refine TL.run (pr_pure rfl) rfl ?_
          refine TL.nil ?_
          refine TX.seqN ?_
          refine TC.condD rfl (fun c45 => ?_) (fun c45 => ?_)
          ·
            refine TC.seq ?_
            refine TC.region ?_
            refine TL.run (pr_pure rfl) rfl ?_
            obtain ⟨t0, hx0⟩ := getSome (l := (lexS s).l) (i := 0) (by decide) (by omega)
            refine TL.run (pr_indexSl rfl hR35 rfl (by omega) (by omega)) rfl ?_
            refine TL.run (pr_field rfl) rfl ?_
            refine TL.run (pr_el1 hR35 hx0 rfl rfl) rfl ?_
            refine TL.run (pr_build rfl rfl) rfl ?_
            refine TL.storeA rfl rfl rfl rfl rfl (.here _) rfl rfl ?_
            refine TL.nil ?_
            refine TX.seqN ?_
            refine TC.ret ?_
            refine TX.blkR ?_
            refine TX.thenR ?_
            exact TX.fin0 (.inr rfl) (results1 rfl (RVal.cellA rfl (.here _) rfl)) (GV.of (q := ⟨3, 0, t0.text, []⟩) (by unfold guessV; rw [if_neg c22, if_neg c26, if_pos c30]; exact (text_yes (by assumption) (by assumption) hx0).symm) RdSl.nil)
          ·
            refine TC.skip ?_
            refine TX.blkN ?_
            refine TX.seqN ?_
            refine TC.seq ?_
            refine TC.region ?_
            refine TL.run (pr_build rfl rfl) rfl ?_
            refine TL.storeA rfl rfl rfl rfl rfl (.here _) rfl rfl ?_
            refine TL.nil ?_
            refine TX.seqN ?_
            refine TC.ret ?_
            exact TX.fin0 (.inr rfl) (results1 rfl (RVal.cellA rfl (.here _) rfl)) (GV.of (q := v0) (by unfold guessV; first | (rw [if_neg c22, if_neg c26, if_neg (by rw [c30]; decide), if_neg (by rw [c51]; decide)]; exact (int_no hp15).symm) | (rw [if_neg c22, if_neg c26, if_pos c30]; exact (text_no (by first | (intro hh; exact q41 hh.1) | (intro hh; exact c45 hh.2))).symm)) RdSl.nil)
        ·
          have q41 := of_decide_eq_false g41
          refine TL.gdN rfl rfl rfl rfl ?_
          refine TL.gdN rfl rfl rfl rfl ?_
          refine TL.gdN rfl rfl rfl rfl ?_
          refine TL.run (pr_pure rfl) rfl ?_
          refine TL.nil ?_
          refine TX.seqN ?_
          refine TC.condF rfl ?_
          refine TC.skip ?_
          refine TX.blkN ?_
          refine TX.seqN ?_
          refine TC.seq ?_
          refine TC.region ?_
          refine TL.run (pr_build rfl rfl) rfl ?_
          refine TL.storeA rfl rfl rfl rfl rfl (.here _) rfl rfl ?_
          refine TL.nil ?_
          refine TX.seqN ?_
          refine TC.ret ?_
          exact TX.fin0 (.inr rfl) (results1 rfl (RVal.cellA rfl (.here _) rfl)) (GV.of (q := v0) (by unfold guessV; first | (rw [if_neg c22, if_neg c26, if_neg (by rw [c30]; decide), if_neg (by rw [c51]; decide)]; exact (int_no hp15).symm) | (rw [if_neg c22, if_neg c26, if_pos c30]; exact (text_no (by first | (intro hh; exact q41 hh.1) | (intro hh; exact c45 hh.2))).symm)) RdSl.nil)
      ·
        refine TC.sw (Lib.hasPrefix s [91] && Lib.hasSuffix s [93]) 51 [(0, _), (2, _)] ⟨rfl, rfl, trivial⟩ ?_ ?_
        ·
          refine TC.region ?_
          refine TL.run (pr_pure rfl) rfl ?_
          refine TL.callS (enters rfl rfl rfl rfl) (hp_ok s [91]) rfl ?_
          refine TL.run (pr_pure rfl) rfl ?_
          refine TL.split (s := 54) rfl (fun g54 => ?_) (fun g54 => ?_)
          ·
            refine TL.gdY rfl rfl (pr_pure rfl) rfl ?_
            refine TL.callSY rfl rfl (enters rfl rfl rfl rfl) (hsf_ok s [93] (by omega)) rfl ?_
            refine TL.run (pr_pure rfl) rfl ?_
            refine TL.run (pr_pure rfl) rfl ?_
            refine TL.nil ?_
            exact TX.sw rfl (by simp [g54]) ⟨rfl, rfl, trivial⟩
          ·
            refine TL.gdN rfl rfl rfl rfl ?_
            refine TL.gdN rfl rfl rfl rfl ?_
            refine TL.run (pr_pure rfl) rfl ?_
            refine TL.run (pr_pure rfl) rfl ?_
            refine TL.nil ?_
            exact TX.sw rfl (by simp [g54]) ⟨rfl, rfl, trivial⟩
        refine TC.cond rfl (fun c51 => ?_) (fun c51 => ?_)
        ·
          have hl2 := brack_len c51
          have hil := inner_len s
          refine TC.seq ?_
          refine TC.region ?_
          refine TL.run (pr_build rfl rfl) rfl ?_
          refine TL.alloc rfl (fun b6 => ?_)
          refine TL.storeA rfl rfl rfl rfl rfl (.here _) rfl rfl ?_
          refine TL.nil ?_
          refine TX.seqN ?_
          refine TC.seq ?_
          refine TC.seq ?_
          refine TC.region ?_
          refine TL.run (pr_pure rfl) rfl ?_
          refine TL.run (pr_pure rfl) rfl ?_
          refine TL.run (pr_lenStr rfl rfl) rfl ?_
          refine TL.run ((by first | exact pr_sub rfl rfl (by omega) (by omega) | exact pr_pure rfl)) rfl ?_
          refine TL.run (pr_strLH rfl rfl rfl (by omega) (by omega) (by omega)) rfl ?_
          refine TL.callT hT (enters rfl rfl rfl rfl) (fields_ok (innerL s) (by omega)) rfl (fun v64 H64 hle64 hp64 => ?_)
          replace hG := hG.le hle64
          obtain ⟨la64, lc64, rfl⟩ := RdSl.len hp64
          have hwm := RdSl.max hp64
          refine TL.run (pr_lenSl rfl rfl hp64) rfl ?_
          refine TL.run (pr_pure rfl) rfl ?_
          refine TL.nil ?_
          refine TX.seqN ?_
          refine TC.block ?_
          refine TC.loop4 (V := fun k v ob H1 => [(66, .int .i64 k)]) (K := [(2, _), (6, _), (64, _), (65, _)]) (L := fun k v ob H1 => St [] w0 H H64 ((b6, [.int .i64 4, .int .i64 0, gs [], v]) :: (b2, [.int .i64 0, .int .i64 0, gs [], .slice none 0 0]) :: ob)) (I := fun k v ob H1 => (0 ≤ k ∧ k ≤ (Lib.fieldsD (innerL s)).length) ∧ ∃ o : List Int, OwnSl 1 I64.cells v o ob ∧ numsF [] (Lib.fieldsD (innerL s)) = numsF o ((Lib.fieldsD (innerL s)).drop k.toNat) ∧ o.length ≤ 16) (μ := fun k => ((Lib.fieldsD (innerL s)).length - k).toNat) 0 (.slice none 0 0) [] H64 ⟨rfl, rfl, rfl, rfl, rfl, trivial⟩ ⟨⟨by omega, by omega⟩, [], OwnSl.nil, rfl, by simp⟩ (fun w hw => hw) (fun k v ob H1 hI => ?_)
          obtain ⟨⟨k0, k1⟩, o, hO, hnF, hol⟩ := hI
          obtain ⟨va, vc, rfl⟩ := hO.form
          refine TC.seq ?_
          refine TC.region ?_
          refine TL.run (pr_pure rfl) rfl ?_
          refine TL.nil ?_
          refine TX.seqN ?_
          refine TC.seq ?_
          refine TC.condD rfl (fun c67 => ?_) (fun c67 => ?_)
          ·
            obtain ⟨w, hx⟩ := getSome (l := (Lib.fieldsD (innerL s))) k0 c67
            have hwl := fields_len (innerL s) w (List.mem_of_getElem? hx)
            refine TC.skip ?_
            refine TX.seqN ?_
            refine TC.seq ?_
            refine TC.block ?_
            refine TC.seq ?_
            refine TC.region ?_
            refine TL.run (pr_indexSl rfl hp64 rfl (by omega) (by omega)) rfl ?_
            refine TL.run (pr_el0 hp64 hx rfl rfl) rfl ?_
            refine TL.run (pr_pure rfl) rfl ?_
            refine TL.nil ?_
            refine TX.seqN ?_
            refine TC.seq ?_
            refine TC.region ?_
            refine TL.run (pr_pure rfl) rfl ?_
            refine TL.call (enters rfl rfl rfl rfl) (parse_ok w (by omega) hG) rfl (fun v72 H72 hle72 hp72 => ?_)
            obtain ⟨eH72, hp72⟩ := hp72
            subst H72
            rcases hp72 with ⟨n72, hp72, rfl⟩ | ⟨hp72, n72, t72, p72, rfl⟩
            ·
              refine TL.run (pr_pure rfl) rfl ?_
              refine TL.run (pr_pure rfl) rfl ?_
              refine TL.run (pr_pure rfl) rfl ?_
              refine TL.run (pr_pure rfl) rfl ?_
              refine TL.run (pr_pure rfl) rfl ?_
              refine TL.nil ?_
              refine TX.seqN ?_
              refine TC.seq ?_
              refine TC.seq ?_
              refine TC.region ?_
              refine TL.run (pr_pure rfl) rfl ?_
              refine TL.run (pr_neNil0 rfl rfl (by kernel_rfl)) rfl ?_
              refine TL.run (pr_pure rfl) rfl ?_
              refine TL.gdY rfl rfl (pr_field rfl) rfl ?_
              refine TL.gdY rfl rfl (pr_own1 rfl (.here _) rfl) rfl ?_
              refine TL.gdY rfl rfl (pr_lenO rfl rfl hO) rfl ?_
              refine TL.gdY rfl rfl (pr_pure rfl) rfl ?_
              refine TL.run (pr_pure rfl) rfl ?_
              refine TL.nil ?_
              refine TX.seqN ?_
              refine TC.condD rfl (fun c82 => ?_) (fun c82 => ?_)
              ·
                refine TC.seq ?_
                refine TC.region ?_
                refine TL.run (pr_build rfl rfl) rfl ?_
                refine TL.storeA rfl rfl rfl rfl rfl (.there _ (.here _)) rfl rfl ?_
                refine TL.nil ?_
                refine TX.seqN ?_
                refine TC.ret ?_
                refine TX.thenR ?_
                refine TX.blkR ?_
                refine TX.thenR ?_
                refine TX.thenR ?_
                refine TX.blkR ?_
                refine TX.thenR ?_
                refine TX.blkR ?_
                refine TX.thenR ?_
                exact TX.fin0 (.inr rfl) (results1 rfl (RVal.cellA rfl (.there _ (.here _)) rfl)) (GV.of (q := v0) (by unfold guessV; rw [if_neg c22, if_neg c26, if_neg (by rw [c30]; decide), if_pos c51]; exact (list_no (by first | exact nums_stop k0 hx hnF (.inl hp72) | exact nums_stop k0 hx hnF (.inr c82))).symm) RdSl.nil)
              ·
                refine TC.skip ?_
                refine TX.seqN ?_
                refine TC.region ?_
                refine TL.run (pr_field rfl) rfl ?_
                refine TL.run (pr_own1 rfl (.here _) rfl) rfl ?_
                refine TL.run (pr_pure rfl) rfl ?_
                refine TL.bslice rfl rfl rfl rfl (fun b87 => ?_)
                refine TL.append (enc := I64.cells) rfl rfl rfl hO (Src.own [n72] (.here _) rfl rfl) (by simp; omega) rfl (.skip _ (.skip _ (.skip _ .all))) rfl (fun a88 c88 ob88 hO88 => ?_)
                refine TL.run (pr_field rfl) rfl ?_
                refine TL.store1 rfl rfl rfl (.there _ (.here _)) rfl rfl ?_
                refine TL.nil ?_
                refine TX.blkN ?_
                refine TX.seqN ?_
                refine TC.region ?_
                refine TL.run ((by first | exact pr_add rfl rfl (by omega) (by omega) | exact pr_pure rfl)) rfl ?_
                refine TL.run (pr_pure rfl) rfl ?_
                refine TL.nil ?_
                exact TX.round4 (k + 1) _ ob88 H64 ⟨⟨by omega, by omega⟩, _, hO88, nums_next k0 hx hp72 (by assumption) hnF, by simp; omega⟩ ⟨rfl, rfl, rfl, rfl, rfl, trivial⟩ (fun w hw => hw.drop) (by omega)
            ·
              refine TL.run (pr_pure rfl) rfl ?_
              refine TL.run (pr_pure rfl) rfl ?_
              refine TL.run (pr_pure rfl) rfl ?_
              refine TL.run (pr_pure rfl) rfl ?_
              refine TL.run (pr_pure rfl) rfl ?_
              refine TL.nil ?_
              refine TX.seqN ?_
              refine TC.seq ?_
              refine TC.seq ?_
              refine TC.region ?_
              refine TL.run (pr_pure rfl) rfl ?_
              refine TL.run (pr_neNil1 rfl rfl (by kernel_rfl)) rfl ?_
              refine TL.run (pr_pure rfl) rfl ?_
              refine TL.gdN rfl rfl rfl rfl ?_
              refine TL.gdN rfl rfl rfl rfl ?_
              refine TL.gdN rfl rfl rfl rfl ?_
              refine TL.gdN rfl rfl rfl rfl ?_
              refine TL.run (pr_pure rfl) rfl ?_
              refine TL.nil ?_
              refine TX.seqN ?_
              refine TC.condT rfl ?_
              refine TC.seq ?_
              refine TC.region ?_
              refine TL.run (pr_build rfl rfl) rfl ?_
              refine TL.storeA rfl rfl rfl rfl rfl (.there _ (.here _)) rfl rfl ?_
              refine TL.nil ?_
              refine TX.seqN ?_
              refine TC.ret ?_
              refine TX.thenR ?_
              refine TX.blkR ?_
              refine TX.thenR ?_
              refine TX.thenR ?_
              refine TX.blkR ?_
              refine TX.thenR ?_
              refine TX.blkR ?_
              refine TX.thenR ?_
              exact TX.fin0 (.inr rfl) (results1 rfl (RVal.cellA rfl (.there _ (.here _)) rfl)) (GV.of (q := v0) (by unfold guessV; rw [if_neg c22, if_neg c26, if_neg (by rw [c30]; decide), if_pos c51]; exact (list_no (by first | exact nums_stop k0 hx hnF (.inl hp72) | exact nums_stop k0 hx hnF (.inr c82))).symm) RdSl.nil)
          ·
            refine TC.exit ?_
            refine TX.thenE ?_
            refine TX.thenE ?_
            refine TX.blkHit ?_
            refine TX.seqN ?_
            refine TC.seq ?_
            refine TC.region ?_
            refine TL.run (pr_ownA rfl (.here _) rfl) rfl ?_
            refine TL.storeA rfl rfl rfl rfl rfl (.there _ (.here _)) rfl rfl ?_
            refine TL.nil ?_
            refine TX.seqN ?_
            refine TC.ret ?_
            refine TX.blkR ?_
            refine TX.thenR ?_
            refine TX.pubO hO (.skip _ (.skip _ .all)) (by simp) (fun HE leE hE => ?_)
            exact TX.fin0 (.inr rfl) (results1 rfl (RVal.cellA rfl (.there _ (.here _)) rfl)) (GV.of (q := ⟨4, 0, [], o⟩) (by unfold guessV; rw [if_neg c22, if_neg c26, if_neg (by rw [c30]; decide), if_pos c51]; exact (list_yes (nums_out k0 c67 hnF)).symm) hE)
        ·
          refine TC.seq ?_
          refine TC.region ?_
          refine TL.run (pr_pure rfl) rfl ?_
          refine TL.call (enters rfl rfl rfl rfl) (parse_ok s (by omega) hG) rfl (fun v15 H15 hle15 hp15 => ?_)
          obtain ⟨eH15, hp15⟩ := hp15
          subst H15
          rcases hp15 with ⟨n15, hp15, rfl⟩ | ⟨hp15, n15, t15, p15, rfl⟩
          ·
            refine TL.run (pr_pure rfl) rfl ?_
            refine TL.run (pr_pure rfl) rfl ?_
            refine TL.run (pr_pure rfl) rfl ?_
            refine TL.run (pr_pure rfl) rfl ?_
            refine TL.run (pr_pure rfl) rfl ?_
            refine TL.nil ?_
            refine TX.seqN ?_
            refine TC.seq ?_
            refine TC.region ?_
            refine TL.run (pr_pure rfl) rfl ?_
            refine TL.run (pr_ifNil0 rfl rfl (by kernel_rfl)) rfl ?_
            refine TL.nil ?_
            refine TX.seqN ?_
            refine TC.condT rfl ?_
            refine TC.seq ?_
            refine TC.region ?_
            refine TL.run (pr_pure rfl) rfl ?_
            refine TL.run (pr_build rfl rfl) rfl ?_
            refine TL.storeA rfl rfl rfl rfl rfl (.here _) rfl rfl ?_
            refine TL.nil ?_
            refine TX.seqN ?_
            refine TC.ret ?_
            refine TX.blkR ?_
            refine TX.thenR ?_
            exact TX.fin0 (.inr rfl) (results1 rfl (RVal.cellA rfl (.here _) rfl)) (GV.of (q := ⟨1, n15, [], []⟩) (by unfold guessV; rw [if_neg c22, if_neg c26, if_neg (by rw [c30]; decide), if_neg (by rw [c51]; decide)]; exact (int_yes hp15).symm) RdSl.nil)
          ·
            refine TL.run (pr_pure rfl) rfl ?_
            refine TL.run (pr_pure rfl) rfl ?_
            refine TL.run (pr_pure rfl) rfl ?_
            refine TL.run (pr_pure rfl) rfl ?_
            refine TL.run (pr_pure rfl) rfl ?_
            refine TL.nil ?_
            refine TX.seqN ?_
            refine TC.seq ?_
            refine TC.region ?_
            refine TL.run (pr_pure rfl) rfl ?_
            refine TL.run (pr_ifNil1 rfl rfl (by kernel_rfl)) rfl ?_
            refine TL.nil ?_
            refine TX.seqN ?_
            refine TC.condF rfl ?_
            refine TC.skip ?_
            refine TX.blkN ?_
            refine TX.seqN ?_
            refine TC.seq ?_
            refine TC.region ?_
            refine TL.run (pr_build rfl rfl) rfl ?_
            refine TL.storeA rfl rfl rfl rfl rfl (.here _) rfl rfl ?_
            refine TL.nil ?_
            refine TX.seqN ?_
            refine TC.ret ?_
            exact TX.fin0 (.inr rfl) (results1 rfl (RVal.cellA rfl (.here _) rfl)) (GV.of (q := v0) (by unfold guessV; first | (rw [if_neg c22, if_neg c26, if_neg (by rw [c30]; decide), if_neg (by rw [c51]; decide)]; exact (int_no hp15).symm) | (rw [if_neg c22, if_neg c26, if_pos c30]; exact (text_no (by first | (intro hh; exact q41 hh.1) | (intro hh; exact c45 hh.2))).symm)) RdSl.nil)

set_option maxRecDepth 100000 in
set_option maxHeartbeats 2000000 in
theorem dRead_ok {H : Hp} (s : Str) (hmax : s.length ≤ 100000) (hG : LibG H) :
    FnG Tabs Tryd.prog 12 [gs s] H (fun v H1 => RV (readV s) v H1) := by
  have hgl := guess_str s
  refine FnG.enter Tryd.func12 Tryd.ntmps12 rfl rfl (fun w0 hT => ?_)
  refine TC.seq ?_
  refine TC.region ?_
  refine TL.alloc rfl (fun b2 => ?_)
  refine TL.run (pr_pure rfl) rfl ?_
  refine TL.nil ?_
  refine TX.seqN ?_
  refine TC.seq ?_
  refine TC.region ?_
  refine TL.run (pr_pure rfl) rfl ?_
  refine TL.callT hT (enters rfl rfl rfl rfl) (guess_ok s hmax hG) rfl (fun v6 H6 hle6 hp6 => ?_)
  obtain ⟨lv6, rfl, hR6⟩ := hp6
  replace hG := hG.le hle6
  have hR16 : RdSl H6 1 I64.cells lv6 (guessV s).l := hR6
  obtain ⟨la6, lc6, rfl⟩ := hR16.len
  refine TL.alloc rfl (fun b4 => ?_)
  refine TL.storeA rfl rfl rfl rfl rfl (.here _) rfl rfl ?_
  refine TL.nil ?_
  refine TX.seqN ?_
  refine TC.seq ?_
  refine TC.seq ?_
  refine TC.region ?_
  refine TL.run (pr_ownA rfl (.here _) rfl) rfl ?_
  refine TL.callTS hT (enters rfl rfl rfl rfl) (dShow_ok (a := guessV s) hR6 (guess_i64 s) (fun _ _ => by omega)) rfl ?_
  refine TL.run (pr_pure rfl) rfl ?_
  refine TL.run (pr_str rfl rfl rfl) rfl ?_
  refine TL.run (pr_pure rfl) rfl ?_
  refine TL.split (s := 11) rfl (fun g11 => ?_) (fun g11 => ?_)
  ·
    have q11 := of_ndec_true g11
    refine TL.gdN rfl rfl rfl rfl ?_
    refine TL.gdN rfl rfl rfl rfl ?_
    refine TL.run (pr_pure rfl) rfl ?_
    refine TL.nil ?_
    refine TX.seqN ?_
    refine TC.condT rfl ?_
    refine TC.seq ?_
    refine TC.region ?_
    refine TL.run (pr_build rfl rfl) rfl ?_
    refine TL.storeA rfl rfl rfl rfl rfl (.there _ (.here _)) rfl rfl ?_
    refine TL.run (pr_pure rfl) rfl ?_
    refine TL.nil ?_
    refine TX.seqN ?_
    refine TC.ret ?_
    refine TX.thenR ?_
    exact TX.fin0 (.inr rfl) (results2 rfl (RVal.cellA rfl (.there _ (.here _)) rfl) (RVal.tmp rfl)) (RV.of (q := (v0, 300)) (read_no (by first | (intro hh; exact q11 hh.1) | (intro hh; exact hh.2 c14))) RdSl.nil)
  ·
    have q11 := of_ndec_false g11
    refine TL.gdY rfl rfl (pr_pure rfl) rfl ?_
    refine TL.gdY rfl rfl (pr_str rfl rfl rfl) rfl ?_
    refine TL.run (pr_pure rfl) rfl ?_
    refine TL.nil ?_
    refine TX.seqN ?_
    refine TC.condD rfl (fun c14 => ?_) (fun c14 => ?_)
    ·
      refine TC.seq ?_
      refine TC.region ?_
      refine TL.run (pr_build rfl rfl) rfl ?_
      refine TL.storeA rfl rfl rfl rfl rfl (.there _ (.here _)) rfl rfl ?_
      refine TL.run (pr_pure rfl) rfl ?_
      refine TL.nil ?_
      refine TX.seqN ?_
      refine TC.ret ?_
      refine TX.thenR ?_
      exact TX.fin0 (.inr rfl) (results2 rfl (RVal.cellA rfl (.there _ (.here _)) rfl) (RVal.tmp rfl)) (RV.of (q := (v0, 300)) (read_no (by first | (intro hh; exact q11 hh.1) | (intro hh; exact hh.2 c14))) RdSl.nil)
    ·
      refine TC.skip ?_
      refine TX.seqN ?_
      refine TC.seq ?_
      refine TC.region ?_
      refine TL.run (pr_ownA rfl (.here _) rfl) rfl ?_
      refine TL.storeA rfl rfl rfl rfl rfl (.there _ (.here _)) rfl rfl ?_
      refine TL.run (pr_pure rfl) rfl ?_
      refine TL.nil ?_
      refine TX.seqN ?_
      refine TC.ret ?_
      exact TX.fin0 (.inr rfl) (results2 rfl (RVal.cellA rfl (.there _ (.here _)) rfl) (RVal.tmp rfl)) (RV.of (q := (guessV s, 0)) (read_yes q11 c14) hR6)
end Go.Sx
