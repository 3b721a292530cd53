import Derived.Test.YtmlgpjficicagaaDoorWNames
import Derived.Test.YtmlgpjficicagaaDoorPureNu
import Derived.Test.YtmlgpjficicagaaDoorPureLd
import Derived.Test.YtmlgpjficicagaaDoorShelfP
set_option linter.unusedVariables false
set_option linter.unusedSimpArgs false
namespace Go.Sx
open Go Go.Proofs
set_option maxRecDepth 100000 in
set_option maxHeartbeats 1000000 in
theorem x_letter_ok {H : Hp} (c : UInt8) :
    FnS Tryd.prog 28 [.int .u8 (c.toNat : Int)] H (.bool (letterB c)) := by
  refine FnS.enter Tryd.func28 Tryd.ntmps28 rfl rfl (fun w0 => ?_)
  refine TC.seq ?_
  refine TC.region ?_
  refine TL.run (pr_pure rfl) rfl ?_
  refine TL.nil ?_
  refine TX.seqN ?_
  refine TC.seq ?_
  refine TC.region ?_
  refine TL.run (pr_pure rfl) rfl ?_
  refine TL.run (pr_pure rfl) rfl ?_
  refine TL.run (pr_pure rfl) rfl ?_
  refine TL.split (s := 5) rfl (fun g5 => ?_) (fun g5 => ?_)
  ·
    have q5 := of_decide_eq_true g5
    refine TL.gdY rfl rfl (pr_pure rfl) rfl ?_
    refine TL.gdY rfl rfl (pr_pure rfl) rfl ?_
    refine TL.run (pr_pure rfl) rfl ?_
    refine TL.run (pr_pure rfl) rfl ?_
    refine TL.nil ?_
    refine TX.seqN ?_
    refine TC.ret ?_
    exact TX.fin0 (.inr rfl) (results1 rfl (RVal.tmp rfl)) ⟨congrArg Value.bool (by simp [letterB, g5]), rfl⟩
  ·
    have q5 := of_decide_eq_false g5
    refine TL.gdN rfl rfl rfl rfl ?_
    refine TL.gdN rfl rfl rfl rfl ?_
    refine TL.run (pr_pure rfl) rfl ?_
    refine TL.run (pr_pure rfl) rfl ?_
    refine TL.nil ?_
    refine TX.seqN ?_
    refine TC.ret ?_
    exact TX.fin0 (.inr rfl) (results1 rfl (RVal.tmp rfl)) ⟨congrArg Value.bool (by simp [letterB, g5]), rfl⟩

set_option maxRecDepth 100000 in
set_option maxHeartbeats 1000000 in
theorem x_digit_ok {H : Hp} (c : UInt8) :
    FnS Tryd.prog 24 [.int .u8 (c.toNat : Int)] H (.bool (digitB c)) := by
  refine FnS.enter Tryd.func24 Tryd.ntmps24 rfl rfl (fun w0 => ?_)
  refine TC.seq ?_
  refine TC.region ?_
  refine TL.run (pr_pure rfl) rfl ?_
  refine TL.nil ?_
  refine TX.seqN ?_
  refine TC.seq ?_
  refine TC.region ?_
  refine TL.run (pr_pure rfl) rfl ?_
  refine TL.run (pr_pure rfl) rfl ?_
  refine TL.run (pr_pure rfl) rfl ?_
  refine TL.split (s := 5) rfl (fun g5 => ?_) (fun g5 => ?_)
  ·
    have q5 := of_decide_eq_true g5
    refine TL.gdY rfl rfl (pr_pure rfl) rfl ?_
    refine TL.gdY rfl rfl (pr_pure rfl) rfl ?_
    refine TL.run (pr_pure rfl) rfl ?_
    refine TL.run (pr_pure rfl) rfl ?_
    refine TL.nil ?_
    refine TX.seqN ?_
    refine TC.ret ?_
    exact TX.fin0 (.inr rfl) (results1 rfl (RVal.tmp rfl)) ⟨congrArg Value.bool (by simp [digitB, g5]), rfl⟩
  ·
    have q5 := of_decide_eq_false g5
    refine TL.gdN rfl rfl rfl rfl ?_
    refine TL.gdN rfl rfl rfl rfl ?_
    refine TL.run (pr_pure rfl) rfl ?_
    refine TL.run (pr_pure rfl) rfl ?_
    refine TL.nil ?_
    refine TX.seqN ?_
    refine TC.ret ?_
    exact TX.fin0 (.inr rfl) (results1 rfl (RVal.tmp rfl)) ⟨congrArg Value.bool (by simp [digitB, g5]), rfl⟩

set_option maxRecDepth 100000 in
set_option maxHeartbeats 1000000 in
theorem x_hex_ok {H : Hp} (c : UInt8) :
    FnS Tryd.prog 49 [.int .u8 (c.toNat : Int)] H (.bool (hexB c)) := by
  refine FnS.enter Tryd.func49 Tryd.ntmps49 rfl rfl (fun w0 => ?_)
  refine TC.seq ?_
  refine TC.region ?_
  refine TL.run (pr_pure rfl) rfl ?_
  refine TL.nil ?_
  refine TX.seqN ?_
  refine TC.seq ?_
  refine TC.region ?_
  refine TL.run (pr_pure rfl) rfl ?_
  refine TL.callS (enters rfl rfl rfl rfl) (x_digit_ok c) rfl ?_
  refine TL.run (pr_pure rfl) rfl ?_
  refine TL.split (s := 5) rfl (fun g5 => ?_) (fun g5 => ?_)
  ·
    refine TL.gdN rfl rfl rfl rfl ?_
    refine TL.gdN rfl rfl rfl rfl ?_
    refine TL.gdN rfl rfl rfl rfl ?_
    refine TL.gdU rfl rfl rfl ?_
    refine TL.gdU rfl rfl rfl ?_
    refine TL.gdN rfl rfl rfl rfl ?_
    refine TL.run (pr_pure rfl) rfl ?_
    refine TL.run (pr_pure rfl) rfl ?_
    refine TL.nil ?_
    refine TX.seqN ?_
    refine TC.ret ?_
    exact TX.finS (.inr rfl) (results1 rfl (RVal.tmp rfl)) (congrArg Value.bool (by first | (simp_all [hexB]; done) | (simp_all [hexB]; omega)))
  ·
    refine TL.gdY rfl rfl (pr_pure rfl) rfl ?_
    refine TL.gdY rfl rfl (pr_pure rfl) rfl ?_
    refine TL.gdY rfl rfl (pr_pure rfl) rfl ?_
    refine TL.split (s := 8) rfl (fun g8 => ?_) (fun g8 => ?_)
    ·
      have q8 := of_decide_eq_true g8
      refine TL.gdY rfl rfl (pr_pure rfl) rfl ?_
      refine TL.gdY rfl rfl (pr_pure rfl) rfl ?_
      refine TL.gdY rfl rfl (pr_pure rfl) rfl ?_
      refine TL.run (pr_pure rfl) rfl ?_
      refine TL.run (pr_pure rfl) rfl ?_
      refine TL.nil ?_
      refine TX.seqN ?_
      refine TC.ret ?_
      exact TX.finS (.inr rfl) (results1 rfl (RVal.tmp rfl)) (congrArg Value.bool (by first | (simp_all [hexB]; done) | (simp_all [hexB]; omega)))
    ·
      have q8 := of_decide_eq_false g8
      refine TL.gdN rfl rfl rfl rfl ?_
      refine TL.gdN rfl rfl rfl rfl ?_
      refine TL.gdY rfl rfl (pr_pure rfl) rfl ?_
      refine TL.run (pr_pure rfl) rfl ?_
      refine TL.run (pr_pure rfl) rfl ?_
      refine TL.nil ?_
      refine TX.seqN ?_
      refine TC.ret ?_
      exact TX.finS (.inr rfl) (results1 rfl (RVal.tmp rfl)) (congrArg Value.bool (by first | (simp_all [hexB]; done) | (simp_all [hexB]; omega)))

set_option maxRecDepth 100000 in
set_option maxHeartbeats 1000000 in
theorem x_worth_ok {H : Hp} (c : UInt8) :
    FnS Tryd.prog 50 [.int .u8 (c.toNat : Int)] H (.int .u8 ((worthB c).toNat : Int)) := by
  refine FnS.enter Tryd.func50 Tryd.ntmps50 rfl rfl (fun w0 => ?_)
  refine TC.seq ?_
  refine TC.region ?_
  refine TL.run (pr_pure rfl) rfl ?_
  refine TL.nil ?_
  refine TX.seqN ?_
  refine TC.seq ?_
  refine TC.seq ?_
  refine TC.region ?_
  refine TL.run (pr_pure rfl) rfl ?_
  refine TL.callS (enters rfl rfl rfl rfl) (x_digit_ok c) rfl ?_
  refine TL.nil ?_
  refine TX.seqN ?_
  refine TC.cond rfl (fun c4 => ?_) (fun c4 => ?_)
  ·
    refine TC.seq ?_
    refine TC.region ?_
    refine TL.run (pr_pure rfl) rfl ?_
    refine TL.run (PR.to (pr_pure rfl) (congrArg (Value.int .u8) (u8_wrap_sub c 48))) rfl ?_
    refine TL.run (pr_pure rfl) rfl ?_
    refine TL.nil ?_
    refine TX.seqN ?_
    refine TC.ret ?_
    refine TX.thenR ?_
    exact TX.finS (.inr rfl) (results1 rfl (RVal.tmp rfl)) (by unfold worthB; simp [c4])
  ·
    refine TC.skip ?_
    refine TX.seqN ?_
    refine TC.seq ?_
    refine TC.region ?_
    refine TL.run (pr_pure rfl) rfl ?_
    refine TL.run (PR.to (pr_pure rfl) (congrArg (Value.int .u8) (u8_wrap_sub c 97))) rfl ?_
    refine TL.run (PR.to (pr_pure rfl) (congrArg (Value.int .u8) (u8_wrap_add (c - 97) 10))) rfl ?_
    refine TL.run (pr_pure rfl) rfl ?_
    refine TL.nil ?_
    refine TX.seqN ?_
    refine TC.ret ?_
    exact TX.finS (.inr rfl) (results1 rfl (RVal.tmp rfl)) (by unfold worthB; simp [c4])

set_option maxRecDepth 100000 in
set_option maxHeartbeats 1000000 in
theorem x_note_ok {H : Hp} (c : UInt8) :
    FnS Tryd.prog 27 [.int .u8 (c.toNat : Int)] H (.bool (!decide (c = 10))) := by
  refine FnS.enter Tryd.func27 Tryd.ntmps27 rfl rfl (fun w0 => ?_)
  refine TC.seq ?_
  refine TC.region ?_
  refine TL.run (pr_pure rfl) rfl ?_
  refine TL.nil ?_
  refine TX.seqN ?_
  refine TC.seq ?_
  refine TC.region ?_
  refine TL.run (pr_pure rfl) rfl ?_
  refine TL.run (pr_pure rfl) rfl ?_
  refine TL.run (pr_pure rfl) rfl ?_
  refine TL.nil ?_
  refine TX.seqN ?_
  refine TC.ret ?_
  exact TX.finS (.inr rfl) (results1 rfl (RVal.tmp rfl)) (congrArg Value.bool (by rw [u8_int]))

set_option maxRecDepth 100000 in
set_option maxHeartbeats 1000000 in
theorem x_word_ok {H : Hp} (c : UInt8) :
    FnS Tryd.prog 29 [.int .u8 (c.toNat : Int)] H (.bool (nameC c)) := by
  refine FnS.enter Tryd.func29 Tryd.ntmps29 rfl rfl (fun w0 => ?_)
  refine TC.seq ?_
  refine TC.region ?_
  refine TL.run (pr_pure rfl) rfl ?_
  refine TL.nil ?_
  refine TX.seqN ?_
  refine TC.seq ?_
  refine TC.region ?_
  refine TL.run (pr_pure rfl) rfl ?_
  refine TL.callS (enters rfl rfl rfl rfl) (x_letter_ok c) rfl ?_
  refine TL.run (pr_pure rfl) rfl ?_
  refine TL.split (s := 5) rfl (fun g5 => ?_) (fun g5 => ?_)
  ·
    refine TL.gdN rfl rfl rfl rfl ?_
    refine TL.gdN rfl rfl rfl rfl ?_
    refine TL.run (pr_pure rfl) rfl ?_
    refine TL.run (pr_pure rfl) rfl ?_
    refine TL.nil ?_
    refine TX.seqN ?_
    refine TC.ret ?_
    exact TX.finS (.inr rfl) (results1 rfl (RVal.tmp rfl)) (congrArg Value.bool (by simp_all [nameC]))
  ·
    refine TL.gdY rfl rfl (pr_pure rfl) rfl ?_
    refine TL.callSY rfl rfl (enters rfl rfl rfl rfl) (x_digit_ok c) rfl ?_
    refine TL.run (pr_pure rfl) rfl ?_
    refine TL.run (pr_pure rfl) rfl ?_
    refine TL.nil ?_
    refine TX.seqN ?_
    refine TC.ret ?_
    exact TX.finS (.inr rfl) (results1 rfl (RVal.tmp rfl)) (congrArg Value.bool (by simp_all [nameC]))

set_option maxRecDepth 100000 in
set_option maxHeartbeats 1000000 in
theorem x_run_ok {H : Hp} {fp : FuncId} [Body Tryd.prog fp] (s : Str) (p : UInt8 → Bool) (at_ : Int) (hp : ∀ c : UInt8, FnS Tryd.prog fp [.int .u8 (c.toNat : Int)] H (.bool (p c))) (h0 : 0 ≤ at_) (h1 : at_ ≤ s.length) (hmax : s.length ≤ 9223372036854775807) :
    FnS Tryd.prog 26 [gs s, .int .i64 at_, .func (.func fp) #[] #[]] H (.int .i64 (at_ + runL p (s.drop at_.toNat))) := by
  refine FnS.enter Tryd.func26 Tryd.ntmps26 rfl rfl (fun w0 => ?_)
  refine TC.seq ?_
  refine TC.region ?_
  refine TL.run (pr_pure rfl) rfl ?_
  refine TL.nil ?_
  refine TX.seqN ?_
  refine TC.seq ?_
  refine TC.block ?_
  refine TC.loop (V := fun k => [(1, .int .i64 k)]) (K := [(0, _), (2, _), (6, _)]) (L := fun k => _) (I := fun k => (at_ ≤ k ∧ k ≤ s.length) ∧ at_ + (runL p (s.drop at_.toNat) : Int) = k + runL p (s.drop k.toNat)) (μ := fun k => (s.length - k).toNat) (i := at_) ⟨rfl, rfl, rfl, rfl, trivial⟩ ⟨⟨by omega, h1⟩, rfl⟩ (fun w hw => hw) (fun k hI => ?_)
  refine TC.seq ?_
  refine TC.seq ?_
  refine TC.region ?_
  refine TL.run (pr_pure rfl) rfl ?_
  refine TL.run (pr_pure rfl) rfl ?_
  refine TL.run (pr_lenStr rfl rfl) rfl ?_
  refine TL.run (pr_pure rfl) rfl ?_
  refine TL.run (pr_pure rfl) rfl ?_
  refine TL.split (s := 11) rfl (fun g11 => ?_) (fun g11 => ?_)
  ·
    have q11 := of_decide_eq_true g11
    obtain ⟨c, hc⟩ := getSome (l := s) (i := k) (by omega) q11
    refine TL.gdY rfl rfl (pr_pure rfl) rfl ?_
    refine TL.gdY rfl rfl (pr_pure rfl) rfl ?_
    refine TL.gdY rfl rfl (pr_pure rfl) rfl ?_
    refine TL.gdY rfl rfl (pr_strIx rfl rfl (by omega) hc) rfl ?_
    refine TL.callSY rfl rfl (enters rfl rfl rfl rfl) (hp c) rfl ?_
    refine TL.run (pr_pure rfl) rfl ?_
    refine TL.nil ?_
    refine TX.seqN ?_
    refine TC.cond rfl (fun c17 => ?_) (fun c17 => ?_)
    ·
      refine TC.skip ?_
      refine TX.seqN ?_
      refine TC.block ?_
      refine TC.region ?_
      refine TL.run (pr_pure rfl) rfl ?_
      refine TL.run ((by first | exact pr_add rfl rfl (by omega) (by omega) | exact pr_pure rfl)) rfl ?_
      refine TL.run (pr_pure rfl) rfl ?_
      refine TL.nil ?_
      refine TX.blkN ?_
      exact TX.round (k + 1) ⟨by omega, runL_next hI.1.1 h0 hc c17 hI.2⟩ ⟨rfl, rfl, rfl, rfl, trivial⟩ (fun w hw => hw) (by omega)
    ·
      refine TC.exit ?_
      refine TX.thenE ?_
      refine TX.thenE ?_
      refine TX.blkHit ?_
      refine TX.seqN ?_
      refine TC.seq ?_
      refine TC.region ?_
      refine TL.run (pr_pure rfl) rfl ?_
      refine TL.run (pr_pure rfl) rfl ?_
      refine TL.nil ?_
      refine TX.seqN ?_
      refine TC.ret ?_
      exact TX.finS (.inr rfl) (results1 rfl (RVal.tmp rfl)) (congrArg (Value.int .i64) (by first | exact (run_stop hI.2 (runL_none q11)).symm | exact (run_stop hI.2 (runL_hit (by omega) hc c17)).symm))
  ·
    have q11 := of_decide_eq_false g11
    refine TL.gdN rfl rfl rfl rfl ?_
    refine TL.gdN rfl rfl rfl rfl ?_
    refine TL.gdN rfl rfl rfl rfl ?_
    refine TL.gdN rfl rfl rfl rfl ?_
    refine TL.gdN rfl rfl rfl rfl ?_
    refine TL.run (pr_pure rfl) rfl ?_
    refine TL.nil ?_
    refine TX.seqN ?_
    refine TC.condF rfl ?_
    refine TC.exit ?_
    refine TX.thenE ?_
    refine TX.thenE ?_
    refine TX.blkHit ?_
    refine TX.seqN ?_
    refine TC.seq ?_
    refine TC.region ?_
    refine TL.run (pr_pure rfl) rfl ?_
    refine TL.run (pr_pure rfl) rfl ?_
    refine TL.nil ?_
    refine TX.seqN ?_
    refine TC.ret ?_
    exact TX.finS (.inr rfl) (results1 rfl (RVal.tmp rfl)) (congrArg (Value.int .i64) (by first | exact (run_stop hI.2 (runL_none q11)).symm | exact (run_stop hI.2 (runL_hit (by omega) hc c17)).symm))

set_option maxRecDepth 100000 in
set_option maxHeartbeats 1000000 in
theorem x_closed_ok {H : Hp} (t : Token) :
    FnS Tryd.prog 25 [.agg t.cells.toArray] H (.bool (closedB t)) := by
  refine FnS.enter Tryd.func25 Tryd.ntmps25 rfl rfl (fun w0 => ?_)
  refine TC.seq ?_
  refine TC.region ?_
  refine TL.box rfl rfl (fun b1 => ?_)
  refine TL.run (pr_pure rfl) rfl ?_
  refine TL.nil ?_
  refine TX.seqN ?_
  refine TC.seq ?_
  refine TC.seq ?_
  refine TC.region ?_
  refine TL.run (pr_field rfl) rfl ?_
  refine TL.run (pr_own1 rfl (.here _) rfl) rfl ?_
  refine TL.nil ?_
  refine TX.seqN ?_
  refine TC.block ?_
  refine TC.sw (decide (t.kind = 0)) 5 [(1, _), (2, _), (4, _)] ⟨rfl, rfl, rfl, trivial⟩ ?_ ?_
  ·
    exact TC.swE (pr_pure rfl) rfl rfl ⟨rfl, rfl, rfl, trivial⟩
  refine TC.condD rfl (fun c5 => ?_) (fun c5 => ?_)
  ·
    refine TC.seq ?_
    refine TC.region ?_
    refine TL.run (pr_field rfl) rfl ?_
    refine TL.run (pr_own1 rfl (.here _) rfl) rfl ?_
    refine TL.callS (enters rfl rfl rfl rfl) (n_Keyword_ok t.text) rfl ?_
    refine TL.run (pr_pure rfl) rfl ?_
    refine TL.run (pr_pure rfl) rfl ?_
    refine TL.nil ?_
    refine TX.seqN ?_
    refine TC.ret ?_
    refine TX.blkR ?_
    refine TX.thenR ?_
    exact TX.finS (.inr rfl) (results1 rfl (RVal.tmp rfl)) (congrArg Value.bool (by first | (simp_all [closedB]; done) | exact (closed_12 (by simpa using c11)).symm))
  ·
    refine TC.sw (decide (t.kind = 1) || decide (t.kind = 2)) 11 [(1, _), (2, _)] ⟨rfl, rfl, trivial⟩ ?_ ?_
    ·
      refine TC.swG (pr_pure rfl) rfl rfl ⟨rfl, rfl, trivial⟩ ?_
      exact TC.swE (pr_pure rfl) rfl rfl ⟨rfl, rfl, trivial⟩
    refine TC.cond rfl (fun c11 => ?_) (fun c11 => ?_)
    ·
      refine TC.seq ?_
      refine TC.region ?_
      refine TL.run (pr_pure rfl) rfl ?_
      refine TL.nil ?_
      refine TX.seqN ?_
      refine TC.ret ?_
      refine TX.blkR ?_
      refine TX.thenR ?_
      exact TX.finS (.inr rfl) (results1 rfl (RVal.tmp rfl)) (congrArg Value.bool (by first | (simp_all [closedB]; done) | exact (closed_12 (by simpa using c11)).symm))
    ·
      refine TC.skip ?_
      refine TX.blkN ?_
      refine TX.seqN ?_
      refine TC.seq ?_
      refine TC.region ?_
      refine TL.run (pr_field rfl) rfl ?_
      refine TL.run (pr_own1 rfl (.here _) rfl) rfl ?_
      refine TL.run (pr_str rfl rfl rfl) rfl ?_
      refine TL.run (pr_pure rfl) rfl ?_
      refine TL.nil ?_
      refine TX.seqN ?_
      refine TC.ret ?_
      exact TX.finS (.inr rfl) (results1 rfl (RVal.tmp rfl)) (congrArg Value.bool (by first | (simp_all [closedB]; done) | exact (closed_12 (by simpa using c11)).symm))

set_option maxRecDepth 100000 in
set_option maxHeartbeats 1000000 in
theorem x_number_ok {H : Hp} (s : Str) (hmax : s.length ≤ 281474976710656) (hG : LibG H) :
    FnS Tryd.prog 30 [gs s] H (.bool (numeralB s)) := by
  refine FnS.enter Tryd.func30 Tryd.ntmps30 rfl rfl (fun w0 => ?_)
  refine TC.seq ?_
  refine TC.region ?_
  refine TL.run (pr_pure rfl) rfl ?_
  refine TL.nil ?_
  refine TX.seqN ?_
  refine TC.seq ?_
  refine TC.region ?_
  refine TL.run (pr_pure rfl) rfl ?_
  refine TL.run (pr_pure rfl) rfl ?_
  refine TL.nil ?_
  refine TX.seqN ?_
  refine TC.mid (V := fun d => [(3, gs d)]) (K := [(0, _), (2, _)]) ⟨rfl, rfl, trivial⟩ (L := fun d => St [] w0 H H []) (I := fun d => d = magS s) ?_ ?_
  ·
    refine TC.seq ?_
    refine TC.region ?_
    refine TL.run (pr_pure rfl) rfl ?_
    refine TL.run (pr_str rfl rfl rfl) rfl ?_
    refine TL.run (pr_pure rfl) rfl ?_
    refine TL.split (s := 9) rfl (fun g9 => ?_) (fun g9 => ?_)
    ·
      have q9 := of_ndec_true g9
      obtain ⟨c, hc⟩ := getSome (l := s) (i := 0) (by omega) (pos_of q9)
      refine TL.gdY rfl rfl (pr_pure rfl) rfl ?_
      refine TL.gdY rfl rfl (pr_strIx rfl rfl (by omega) hc) rfl ?_
      refine TL.gdY rfl rfl (pr_pure rfl) rfl ?_
      refine TL.run (pr_pure rfl) rfl ?_
      refine TL.nil ?_
      refine TX.seqN ?_
      refine TC.condD rfl (fun c13 => ?_) (fun c13 => ?_)
      ·
        refine TC.region ?_
        refine TL.run (pr_pure rfl) rfl ?_
        have hpos := pos_of q9
        refine TL.run (pr_strL rfl rfl (by omega) (by omega)) rfl ?_
        refine TL.run (pr_pure rfl) rfl ?_
        refine TL.nil ?_
        exact TX.mid (s.drop (1 : Int).toNat) (by first | exact magS_T hc c13 | exact magS_F hc c13 | exact magS_N q9) ⟨rfl, rfl, rfl, trivial⟩ (fun w hw => hw)
      ·
        refine TC.skip ?_
        exact TX.mid s (by first | exact magS_T hc c13 | exact magS_F hc c13 | exact magS_N q9) ⟨rfl, rfl, rfl, trivial⟩ (fun w hw => hw)
    ·
      have q9 := of_ndec_false g9
      refine TL.gdN rfl rfl rfl rfl ?_
      refine TL.gdN rfl rfl rfl rfl ?_
      refine TL.gdN rfl rfl rfl rfl ?_
      refine TL.run (pr_pure rfl) rfl ?_
      refine TL.nil ?_
      refine TX.seqN ?_
      refine TC.condF rfl ?_
      refine TC.skip ?_
      exact TX.mid s (by first | exact magS_T hc c13 | exact magS_F hc c13 | exact magS_N q9) ⟨rfl, rfl, rfl, trivial⟩ (fun w hw => hw)
  ·
    intro d hI
    have hdl : d.length ≤ s.length := by rw [hI]; exact magS_len s
    refine TC.seq ?_
    refine TC.seq ?_
    refine TC.region ?_
    refine TL.run (pr_pure rfl) rfl ?_
    refine TL.run (pr_str rfl rfl rfl) rfl ?_
    refine TL.run (pr_pure rfl) rfl ?_
    refine TL.split (s := 18) rfl (fun g18 => ?_) (fun g18 => ?_)
    ·
      have q18 := of_decide_eq_true g18
      refine TL.gdN rfl rfl rfl rfl ?_
      refine TL.gdN rfl rfl rfl rfl ?_
      refine TL.gdN rfl rfl rfl rfl ?_
      refine TL.gdN rfl rfl rfl rfl ?_
      refine TL.gdN rfl rfl rfl rfl ?_
      refine TL.run (pr_pure rfl) rfl ?_
      refine TL.run (pr_pure rfl) rfl ?_
      refine TL.gdN rfl rfl rfl rfl ?_
      refine TL.gdN rfl rfl rfl rfl ?_
      refine TL.gdN rfl rfl rfl rfl ?_
      refine TL.gdN rfl rfl rfl rfl ?_
      refine TL.gdU rfl rfl rfl ?_
      refine TL.gdU rfl rfl rfl ?_
      refine TL.gdU rfl rfl rfl ?_
      refine TL.gdN rfl rfl rfl rfl ?_
      refine TL.run (pr_pure rfl) rfl ?_
      refine TL.run (pr_pure rfl) rfl ?_
      refine TL.gdN rfl rfl rfl rfl ?_
      refine TL.gdN rfl rfl rfl rfl ?_
      refine TL.run (pr_pure rfl) rfl ?_
      refine TL.nil ?_
      refine TX.seqN ?_
      refine TC.condT rfl ?_
      refine TC.seq ?_
      refine TC.region ?_
      refine TL.run (pr_pure rfl) rfl ?_
      refine TL.nil ?_
      refine TX.seqN ?_
      refine TC.ret ?_
      refine TX.thenR ?_
      exact TX.finS (.inr rfl) (results1 rfl (RVal.tmp rfl)) (congrArg Value.bool (by first | exact (num_no1 hI q18).symm | exact (num_no2 hI q25).symm | exact (num_no3 hI hc2 q29 q35).symm | exact (num_no4 c38).symm | exact (num_F hI q18 q25 (by first | exact .inl ⟨c2, hc2, q29⟩ | exact .inr q35) c38 hp41).symm | exact (num_T hI q18 q25 (by first | exact .inl ⟨c2, hc2, q29⟩ | exact .inr q35) c38 hp41).symm))
    ·
      have q18 := of_decide_eq_false g18
      obtain ⟨c2, hc2⟩ := getSome (l := d) (i := 0) (by omega) (pos_of q18)
      refine TL.gdY rfl rfl (pr_pure rfl) rfl ?_
      refine TL.callSY rfl rfl (enters rfl rfl rfl rfl) (x_run_ok d digitB 0 (fun c => x_digit_ok c) (by decide) (by omega) (by omega)) rfl ?_
      refine TL.gdY rfl rfl (pr_pure rfl) rfl ?_
      refine TL.gdY rfl rfl (pr_lenStr rfl rfl) rfl ?_
      refine TL.gdY rfl rfl (pr_pure rfl) rfl ?_
      refine TL.run (pr_pure rfl) rfl ?_
      refine TL.run (pr_pure rfl) rfl ?_
      refine TL.split (s := 25) rfl (fun g25 => ?_) (fun g25 => ?_)
      ·
        have q25 := of_ndec_true g25
        refine TL.gdN rfl rfl rfl rfl ?_
        refine TL.gdN rfl rfl rfl rfl ?_
        refine TL.gdN rfl rfl rfl rfl ?_
        refine TL.gdN rfl rfl rfl rfl ?_
        refine TL.gdU rfl rfl rfl ?_
        refine TL.gdU rfl rfl rfl ?_
        refine TL.gdU rfl rfl rfl ?_
        refine TL.gdN rfl rfl rfl rfl ?_
        refine TL.run (pr_pure rfl) rfl ?_
        refine TL.run (pr_pure rfl) rfl ?_
        refine TL.gdN rfl rfl rfl rfl ?_
        refine TL.gdN rfl rfl rfl rfl ?_
        refine TL.run (pr_pure rfl) rfl ?_
        refine TL.nil ?_
        refine TX.seqN ?_
        refine TC.condT rfl ?_
        refine TC.seq ?_
        refine TC.region ?_
        refine TL.run (pr_pure rfl) rfl ?_
        refine TL.nil ?_
        refine TX.seqN ?_
        refine TC.ret ?_
        refine TX.thenR ?_
        exact TX.finS (.inr rfl) (results1 rfl (RVal.tmp rfl)) (congrArg Value.bool (by first | exact (num_no1 hI q18).symm | exact (num_no2 hI q25).symm | exact (num_no3 hI hc2 q29 q35).symm | exact (num_no4 c38).symm | exact (num_F hI q18 q25 (by first | exact .inl ⟨c2, hc2, q29⟩ | exact .inr q35) c38 hp41).symm | exact (num_T hI q18 q25 (by first | exact .inl ⟨c2, hc2, q29⟩ | exact .inr q35) c38 hp41).symm))
      ·
        have q25 := of_ndec_false g25
        refine TL.gdY rfl rfl (pr_pure rfl) rfl ?_
        refine TL.gdY rfl rfl (pr_strIx rfl rfl (by omega) hc2) rfl ?_
        refine TL.gdY rfl rfl (pr_pure rfl) rfl ?_
        refine TL.gdY rfl rfl (pr_pure rfl) rfl ?_
        refine TL.split (s := 29) rfl (fun g29 => ?_) (fun g29 => ?_)
        ·
          have q29 := of_decide_eq_true g29
          refine TL.gdY rfl rfl (pr_pure rfl) rfl ?_
          refine TL.gdY rfl rfl (pr_lenStr rfl rfl) rfl ?_
          refine TL.gdY rfl rfl (pr_pure rfl) rfl ?_
          refine TL.gdY rfl rfl (pr_pure rfl) rfl ?_
          refine TL.run (pr_pure rfl) rfl ?_
          refine TL.run (pr_pure rfl) rfl ?_
          refine TL.split (s := 35) rfl (fun g35 => ?_) (fun g35 => ?_)
          ·
            have q35 := of_decide_eq_true g35
            refine TL.gdN rfl rfl rfl rfl ?_
            refine TL.gdN rfl rfl rfl rfl ?_
            refine TL.run (pr_pure rfl) rfl ?_
            refine TL.nil ?_
            refine TX.seqN ?_
            refine TC.condT rfl ?_
            refine TC.seq ?_
            refine TC.region ?_
            refine TL.run (pr_pure rfl) rfl ?_
            refine TL.nil ?_
            refine TX.seqN ?_
            refine TC.ret ?_
            refine TX.thenR ?_
            exact TX.finS (.inr rfl) (results1 rfl (RVal.tmp rfl)) (congrArg Value.bool (by first | exact (num_no1 hI q18).symm | exact (num_no2 hI q25).symm | exact (num_no3 hI hc2 q29 q35).symm | exact (num_no4 c38).symm | exact (num_F hI q18 q25 (by first | exact .inl ⟨c2, hc2, q29⟩ | exact .inr q35) c38 hp41).symm | exact (num_T hI q18 q25 (by first | exact .inl ⟨c2, hc2, q29⟩ | exact .inr q35) c38 hp41).symm))
          ·
            have q35 := of_decide_eq_false g35
            refine TL.gdY rfl rfl (pr_pure rfl) rfl ?_
            refine TL.gdY rfl rfl (pr_str rfl rfl rfl) rfl ?_
            refine TL.run (pr_pure rfl) rfl ?_
            refine TL.nil ?_
            refine TX.seqN ?_
            refine TC.condD rfl (fun c38 => ?_) (fun c38 => ?_)
            ·
              refine TC.seq ?_
              refine TC.region ?_
              refine TL.run (pr_pure rfl) rfl ?_
              refine TL.nil ?_
              refine TX.seqN ?_
              refine TC.ret ?_
              refine TX.thenR ?_
              exact TX.finS (.inr rfl) (results1 rfl (RVal.tmp rfl)) (congrArg Value.bool (by first | exact (num_no1 hI q18).symm | exact (num_no2 hI q25).symm | exact (num_no3 hI hc2 q29 q35).symm | exact (num_no4 c38).symm | exact (num_F hI q18 q25 (by first | exact .inl ⟨c2, hc2, q29⟩ | exact .inr q35) c38 hp41).symm | exact (num_T hI q18 q25 (by first | exact .inl ⟨c2, hc2, q29⟩ | exact .inr q35) c38 hp41).symm))
            ·
              refine TC.skip ?_
              refine TX.seqN ?_
              refine TC.seq ?_
              refine TC.region ?_
              refine TL.run (pr_pure rfl) rfl ?_
              refine TL.call (enters rfl rfl rfl rfl) (parse_ok s hmax hG) rfl (fun v41 H41 hle41 hp41 => ?_)
              obtain ⟨rfl, hp41⟩ := hp41
              rcases hp41 with ⟨n41, hp41, rfl⟩ | ⟨hp41, n41, t41, p41, rfl⟩
              ·
                refine TL.run (pr_pure rfl) rfl ?_
                refine TL.run (pr_pure rfl) rfl ?_
                refine TL.run (pr_pure rfl) rfl ?_
                refine TL.run (pr_pure rfl) rfl ?_
                refine TL.run (pr_pure rfl) rfl ?_
                refine TL.nil ?_
                refine TX.seqN ?_
                refine TC.seq ?_
                refine TC.region ?_
                refine TL.run (pr_pure rfl) rfl ?_
                refine TL.run (pr_ifNil0 rfl rfl (by kernel_rfl)) rfl ?_
                refine TL.run (pr_pure rfl) rfl ?_
                refine TL.nil ?_
                refine TX.seqN ?_
                refine TC.ret ?_
                exact TX.finS (.inr rfl) (results1 rfl (RVal.tmp rfl)) (congrArg Value.bool (by first | exact (num_no1 hI q18).symm | exact (num_no2 hI q25).symm | exact (num_no3 hI hc2 q29 q35).symm | exact (num_no4 c38).symm | exact (num_F hI q18 q25 (by first | exact .inl ⟨c2, hc2, q29⟩ | exact .inr q35) c38 hp41).symm | exact (num_T hI q18 q25 (by first | exact .inl ⟨c2, hc2, q29⟩ | exact .inr q35) c38 hp41).symm))
              ·
                refine TL.run (pr_pure rfl) rfl ?_
                refine TL.run (pr_pure rfl) rfl ?_
                refine TL.run (pr_pure rfl) rfl ?_
                refine TL.run (pr_pure rfl) rfl ?_
                refine TL.run (pr_pure rfl) rfl ?_
                refine TL.nil ?_
                refine TX.seqN ?_
                refine TC.seq ?_
                refine TC.region ?_
                refine TL.run (pr_pure rfl) rfl ?_
                refine TL.run (pr_ifNil1 rfl rfl (by kernel_rfl)) rfl ?_
                refine TL.run (pr_pure rfl) rfl ?_
                refine TL.nil ?_
                refine TX.seqN ?_
                refine TC.ret ?_
                exact TX.finS (.inr rfl) (results1 rfl (RVal.tmp rfl)) (congrArg Value.bool (by first | exact (num_no1 hI q18).symm | exact (num_no2 hI q25).symm | exact (num_no3 hI hc2 q29 q35).symm | exact (num_no4 c38).symm | exact (num_F hI q18 q25 (by first | exact .inl ⟨c2, hc2, q29⟩ | exact .inr q35) c38 hp41).symm | exact (num_T hI q18 q25 (by first | exact .inl ⟨c2, hc2, q29⟩ | exact .inr q35) c38 hp41).symm))
        ·
          have q29 := of_decide_eq_false g29
          refine TL.gdN rfl rfl rfl rfl ?_
          refine TL.gdN rfl rfl rfl rfl ?_
          refine TL.gdN rfl rfl rfl rfl ?_
          refine TL.gdY rfl rfl (pr_pure rfl) rfl ?_
          refine TL.run (pr_pure rfl) rfl ?_
          refine TL.run (pr_pure rfl) rfl ?_
          refine TL.gdY rfl rfl (pr_pure rfl) rfl ?_
          refine TL.gdY rfl rfl (pr_str rfl rfl rfl) rfl ?_
          refine TL.run (pr_pure rfl) rfl ?_
          refine TL.nil ?_
          refine TX.seqN ?_
          refine TC.condD rfl (fun c38 => ?_) (fun c38 => ?_)
          ·
            refine TC.seq ?_
            refine TC.region ?_
            refine TL.run (pr_pure rfl) rfl ?_
            refine TL.nil ?_
            refine TX.seqN ?_
            refine TC.ret ?_
            refine TX.thenR ?_
            exact TX.finS (.inr rfl) (results1 rfl (RVal.tmp rfl)) (congrArg Value.bool (by first | exact (num_no1 hI q18).symm | exact (num_no2 hI q25).symm | exact (num_no3 hI hc2 q29 q35).symm | exact (num_no4 c38).symm | exact (num_F hI q18 q25 (by first | exact .inl ⟨c2, hc2, q29⟩ | exact .inr q35) c38 hp41).symm | exact (num_T hI q18 q25 (by first | exact .inl ⟨c2, hc2, q29⟩ | exact .inr q35) c38 hp41).symm))
          ·
            refine TC.skip ?_
            refine TX.seqN ?_
            refine TC.seq ?_
            refine TC.region ?_
            refine TL.run (pr_pure rfl) rfl ?_
            refine TL.call (enters rfl rfl rfl rfl) (parse_ok s hmax hG) rfl (fun v41 H41 hle41 hp41 => ?_)
            obtain ⟨rfl, hp41⟩ := hp41
            rcases hp41 with ⟨n41, hp41, rfl⟩ | ⟨hp41, n41, t41, p41, rfl⟩
            ·
              refine TL.run (pr_pure rfl) rfl ?_
              refine TL.run (pr_pure rfl) rfl ?_
              refine TL.run (pr_pure rfl) rfl ?_
              refine TL.run (pr_pure rfl) rfl ?_
              refine TL.run (pr_pure rfl) rfl ?_
              refine TL.nil ?_
              refine TX.seqN ?_
              refine TC.seq ?_
              refine TC.region ?_
              refine TL.run (pr_pure rfl) rfl ?_
              refine TL.run (pr_ifNil0 rfl rfl (by kernel_rfl)) rfl ?_
              refine TL.run (pr_pure rfl) rfl ?_
              refine TL.nil ?_
              refine TX.seqN ?_
              refine TC.ret ?_
              exact TX.finS (.inr rfl) (results1 rfl (RVal.tmp rfl)) (congrArg Value.bool (by first | exact (num_no1 hI q18).symm | exact (num_no2 hI q25).symm | exact (num_no3 hI hc2 q29 q35).symm | exact (num_no4 c38).symm | exact (num_F hI q18 q25 (by first | exact .inl ⟨c2, hc2, q29⟩ | exact .inr q35) c38 hp41).symm | exact (num_T hI q18 q25 (by first | exact .inl ⟨c2, hc2, q29⟩ | exact .inr q35) c38 hp41).symm))
            ·
              refine TL.run (pr_pure rfl) rfl ?_
              refine TL.run (pr_pure rfl) rfl ?_
              refine TL.run (pr_pure rfl) rfl ?_
              refine TL.run (pr_pure rfl) rfl ?_
              refine TL.run (pr_pure rfl) rfl ?_
              refine TL.nil ?_
              refine TX.seqN ?_
              refine TC.seq ?_
              refine TC.region ?_
              refine TL.run (pr_pure rfl) rfl ?_
              refine TL.run (pr_ifNil1 rfl rfl (by kernel_rfl)) rfl ?_
              refine TL.run (pr_pure rfl) rfl ?_
              refine TL.nil ?_
              refine TX.seqN ?_
              refine TC.ret ?_
              exact TX.finS (.inr rfl) (results1 rfl (RVal.tmp rfl)) (congrArg Value.bool (by first | exact (num_no1 hI q18).symm | exact (num_no2 hI q25).symm | exact (num_no3 hI hc2 q29 q35).symm | exact (num_no4 c38).symm | exact (num_F hI q18 q25 (by first | exact .inl ⟨c2, hc2, q29⟩ | exact .inr q35) c38 hp41).symm | exact (num_T hI q18 q25 (by first | exact .inl ⟨c2, hc2, q29⟩ | exact .inr q35) c38 hp41).symm))

set_option maxRecDepth 100000 in
set_option maxHeartbeats 1000000 in
theorem x_sign_ok {H : Hp} (s : Str) (at_ : Int) (h0 : 0 ≤ at_) (h1 : at_ < s.length) (hmax : s.length ≤ 281474976710656) :
    FnS Tryd.prog 32 [gs s, .int .i64 at_] H (gs ((s.drop at_.toNat).take (signL (s.drop at_.toNat)))) := by
  obtain ⟨c, hc⟩ := getSome (l := s) h0 h1
  refine FnS.enter Tryd.func32 Tryd.ntmps32 rfl rfl (fun w0 => ?_)
  refine TC.seq ?_
  refine TC.region ?_
  refine TL.run (pr_pure rfl) rfl ?_
  refine TL.nil ?_
  refine TX.seqN ?_
  refine TC.seq ?_
  refine TC.seq ?_
  refine TC.region ?_
  refine TL.run (pr_pure rfl) rfl ?_
  refine TL.run ((by first | exact pr_add rfl rfl (by omega) (by omega) | exact pr_pure rfl)) rfl ?_
  refine TL.run (pr_pure rfl) rfl ?_
  refine TL.run (pr_lenStr rfl rfl) rfl ?_
  refine TL.run (pr_pure rfl) rfl ?_
  refine TL.nil ?_
  refine TX.seqN ?_
  refine TC.condD rfl (fun c10 => ?_) (fun c10 => ?_)
  ·
    refine TC.seq ?_
    refine TC.region ?_
    refine TL.run (pr_pure rfl) rfl ?_
    refine TL.run (pr_pure rfl) rfl ?_
    refine TL.run (pr_pure rfl) rfl ?_
    refine TL.run ((by first | exact pr_add rfl rfl (by omega) (by omega) | exact pr_pure rfl)) rfl ?_
    refine TL.run (pr_strLH rfl rfl rfl (by omega) (by omega) (by omega)) rfl ?_
    refine TL.run (pr_pure rfl) rfl ?_
    refine TL.nil ?_
    refine TX.seqN ?_
    refine TC.seq ?_
    refine TC.region ?_
    refine TL.run (pr_pure rfl) rfl ?_
    refine TL.nil ?_
    refine TX.seqN ?_
    refine TC.block ?_
    refine TC.sw (decide (((s.take (at_ + 2).toNat).drop at_.toNat) = [61, 61]) || decide (((s.take (at_ + 2).toNat).drop at_.toNat) = [45, 62])) 17 [(0, _), (1, _), (4, _), (5, _)] ⟨rfl, rfl, rfl, rfl, trivial⟩ ?_ ?_
    ·
      refine TC.swG (pr_str rfl rfl rfl) rfl rfl ⟨rfl, rfl, rfl, rfl, trivial⟩ ?_
      exact TC.swE (pr_str rfl rfl rfl) rfl rfl ⟨rfl, rfl, rfl, rfl, trivial⟩
    refine TC.cond rfl (fun c17 => ?_) (fun c17 => ?_)
    ·
      refine TC.seq ?_
      refine TC.region ?_
      refine TL.run (pr_pure rfl) rfl ?_
      refine TL.run (pr_pure rfl) rfl ?_
      refine TL.nil ?_
      refine TX.seqN ?_
      refine TC.ret ?_
      refine TX.blkR ?_
      refine TX.thenR ?_
      exact TX.finS (.inr rfl) (results1 rfl (RVal.tmp rfl)) (congrArg gs (by first | exact sg_two h0 hc c10 c17 | exact sg_one h0 hc (.inl c10) c24 | exact sg_one h0 hc (.inr c17) c24 | exact sg_none h0 hc (.inl c10) c24 | exact sg_none h0 hc (.inr c17) c24))
    ·
      refine TC.skip ?_
      refine TX.blkN ?_
      refine TX.seqN ?_
      refine TC.seq ?_
      refine TC.seq ?_
      refine TC.region ?_
      refine TL.run (pr_pure rfl) rfl ?_
      refine TL.run (pr_pure rfl) rfl ?_
      refine TL.run (pr_strIx rfl rfl (by omega) hc) rfl ?_
      refine TL.nil ?_
      refine TX.seqN ?_
      refine TC.block ?_
      refine TC.sw (sgI (c.toNat : Int)) 24 [(0, _), (1, _), (4, _)] ⟨rfl, rfl, rfl, trivial⟩ ?_ ?_
      ·
        refine TC.swG (pr_pure rfl) rfl rfl ⟨rfl, rfl, rfl, trivial⟩ ?_
        refine TC.swG (pr_pure rfl) rfl rfl ⟨rfl, rfl, rfl, trivial⟩ ?_
        refine TC.swG (pr_pure rfl) rfl rfl ⟨rfl, rfl, rfl, trivial⟩ ?_
        refine TC.swG (pr_pure rfl) rfl rfl ⟨rfl, rfl, rfl, trivial⟩ ?_
        refine TC.swG (pr_pure rfl) rfl rfl ⟨rfl, rfl, rfl, trivial⟩ ?_
        refine TC.swG (pr_pure rfl) rfl rfl ⟨rfl, rfl, rfl, trivial⟩ ?_
        refine TC.swG (pr_pure rfl) rfl rfl ⟨rfl, rfl, rfl, trivial⟩ ?_
        refine TC.swG (pr_pure rfl) rfl rfl ⟨rfl, rfl, rfl, trivial⟩ ?_
        refine TC.swG (pr_pure rfl) rfl rfl ⟨rfl, rfl, rfl, trivial⟩ ?_
        refine TC.swG (pr_pure rfl) rfl rfl ⟨rfl, rfl, rfl, trivial⟩ ?_
        refine TC.swG (pr_pure rfl) rfl rfl ⟨rfl, rfl, rfl, trivial⟩ ?_
        refine TC.swG (pr_pure rfl) rfl rfl ⟨rfl, rfl, rfl, trivial⟩ ?_
        refine TC.swG (pr_pure rfl) rfl rfl ⟨rfl, rfl, rfl, trivial⟩ ?_
        exact TC.swE (pr_pure rfl) rfl rfl ⟨rfl, rfl, rfl, trivial⟩
      refine TC.cond rfl (fun c24 => ?_) (fun c24 => ?_)
      ·
        refine TC.seq ?_
        refine TC.region ?_
        refine TL.run (pr_pure rfl) rfl ?_
        refine TL.run (pr_pure rfl) rfl ?_
        refine TL.run (pr_pure rfl) rfl ?_
        refine TL.run ((by first | exact pr_add rfl rfl (by omega) (by omega) | exact pr_pure rfl)) rfl ?_
        refine TL.run (pr_strLH rfl rfl rfl (by omega) (by omega) (by omega)) rfl ?_
        refine TL.run (pr_pure rfl) rfl ?_
        refine TL.nil ?_
        refine TX.seqN ?_
        refine TC.ret ?_
        refine TX.blkR ?_
        refine TX.thenR ?_
        exact TX.finS (.inr rfl) (results1 rfl (RVal.tmp rfl)) (congrArg gs (by first | exact sg_two h0 hc c10 c17 | exact sg_one h0 hc (.inl c10) c24 | exact sg_one h0 hc (.inr c17) c24 | exact sg_none h0 hc (.inl c10) c24 | exact sg_none h0 hc (.inr c17) c24))
      ·
        refine TC.skip ?_
        refine TX.blkN ?_
        refine TX.seqN ?_
        refine TC.seq ?_
        refine TC.region ?_
        refine TL.run (pr_pure rfl) rfl ?_
        refine TL.nil ?_
        refine TX.seqN ?_
        refine TC.ret ?_
        exact TX.finS (.inr rfl) (results1 rfl (RVal.tmp rfl)) (congrArg gs (by first | exact sg_two h0 hc c10 c17 | exact sg_one h0 hc (.inl c10) c24 | exact sg_one h0 hc (.inr c17) c24 | exact sg_none h0 hc (.inl c10) c24 | exact sg_none h0 hc (.inr c17) c24))
  ·
    refine TC.skip ?_
    refine TX.seqN ?_
    refine TC.seq ?_
    refine TC.seq ?_
    refine TC.region ?_
    refine TL.run (pr_pure rfl) rfl ?_
    refine TL.run (pr_pure rfl) rfl ?_
    refine TL.run (pr_strIx rfl rfl (by omega) hc) rfl ?_
    refine TL.nil ?_
    refine TX.seqN ?_
    refine TC.block ?_
    refine TC.sw (sgI (c.toNat : Int)) 24 [(0, _), (1, _), (4, _)] ⟨rfl, rfl, rfl, trivial⟩ ?_ ?_
    ·
      refine TC.swG (pr_pure rfl) rfl rfl ⟨rfl, rfl, rfl, trivial⟩ ?_
      refine TC.swG (pr_pure rfl) rfl rfl ⟨rfl, rfl, rfl, trivial⟩ ?_
      refine TC.swG (pr_pure rfl) rfl rfl ⟨rfl, rfl, rfl, trivial⟩ ?_
      refine TC.swG (pr_pure rfl) rfl rfl ⟨rfl, rfl, rfl, trivial⟩ ?_
      refine TC.swG (pr_pure rfl) rfl rfl ⟨rfl, rfl, rfl, trivial⟩ ?_
      refine TC.swG (pr_pure rfl) rfl rfl ⟨rfl, rfl, rfl, trivial⟩ ?_
      refine TC.swG (pr_pure rfl) rfl rfl ⟨rfl, rfl, rfl, trivial⟩ ?_
      refine TC.swG (pr_pure rfl) rfl rfl ⟨rfl, rfl, rfl, trivial⟩ ?_
      refine TC.swG (pr_pure rfl) rfl rfl ⟨rfl, rfl, rfl, trivial⟩ ?_
      refine TC.swG (pr_pure rfl) rfl rfl ⟨rfl, rfl, rfl, trivial⟩ ?_
      refine TC.swG (pr_pure rfl) rfl rfl ⟨rfl, rfl, rfl, trivial⟩ ?_
      refine TC.swG (pr_pure rfl) rfl rfl ⟨rfl, rfl, rfl, trivial⟩ ?_
      refine TC.swG (pr_pure rfl) rfl rfl ⟨rfl, rfl, rfl, trivial⟩ ?_
      exact TC.swE (pr_pure rfl) rfl rfl ⟨rfl, rfl, rfl, trivial⟩
    refine TC.cond rfl (fun c24 => ?_) (fun c24 => ?_)
    ·
      refine TC.seq ?_
      refine TC.region ?_
      refine TL.run (pr_pure rfl) rfl ?_
      refine TL.run (pr_pure rfl) rfl ?_
      refine TL.run (pr_pure rfl) rfl ?_
      refine TL.run ((by first | exact pr_add rfl rfl (by omega) (by omega) | exact pr_pure rfl)) rfl ?_
      refine TL.run (pr_strLH rfl rfl rfl (by omega) (by omega) (by omega)) rfl ?_
      refine TL.run (pr_pure rfl) rfl ?_
      refine TL.nil ?_
      refine TX.seqN ?_
      refine TC.ret ?_
      refine TX.blkR ?_
      refine TX.thenR ?_
      exact TX.finS (.inr rfl) (results1 rfl (RVal.tmp rfl)) (congrArg gs (by first | exact sg_two h0 hc c10 c17 | exact sg_one h0 hc (.inl c10) c24 | exact sg_one h0 hc (.inr c17) c24 | exact sg_none h0 hc (.inl c10) c24 | exact sg_none h0 hc (.inr c17) c24))
    ·
      refine TC.skip ?_
      refine TX.blkN ?_
      refine TX.seqN ?_
      refine TC.seq ?_
      refine TC.region ?_
      refine TL.run (pr_pure rfl) rfl ?_
      refine TL.nil ?_
      refine TX.seqN ?_
      refine TC.ret ?_
      exact TX.finS (.inr rfl) (results1 rfl (RVal.tmp rfl)) (congrArg gs (by first | exact sg_two h0 hc c10 c17 | exact sg_one h0 hc (.inl c10) c24 | exact sg_one h0 hc (.inr c17) c24 | exact sg_none h0 hc (.inl c10) c24 | exact sg_none h0 hc (.inr c17) c24))

set_option maxRecDepth 100000 in
set_option maxHeartbeats 1000000 in
theorem x_behind_ok {H : Hp} {b : Nat} (s : Str) (i : Int) (hb : H b 0 = some (gs s)) (h0 : 0 ≤ i) (hmax : s.length ≤ 281474976710656) :
    FnS Tryd.prog 48 [.int .i64 i, .pointer (some ⟨b, 0, none⟩)] H (.int .u8 ((behindC s i).toNat : Int)) := by
  refine FnS.enter Tryd.func48 Tryd.ntmps48 rfl rfl (fun w0 => ?_)
  refine TC.seq ?_
  refine TC.region ?_
  refine TL.run (pr_pure rfl) rfl ?_
  refine TL.nil ?_
  refine TX.seqN ?_
  refine TC.seq ?_
  refine TC.seq ?_
  refine TC.region ?_
  refine TL.run (pr_pure rfl) rfl ?_
  refine TL.run (pr_hp1 rfl hb) rfl ?_
  refine TL.run (pr_lenStr rfl rfl) rfl ?_
  refine TL.run (pr_pure rfl) rfl ?_
  refine TL.nil ?_
  refine TX.seqN ?_
  refine TC.condD rfl (fun c7 => ?_) (fun c7 => ?_)
  ·
    obtain ⟨c, hc⟩ := getSome (l := s) h0 c7
    refine TC.seq ?_
    refine TC.region ?_
    refine TL.run (pr_hp1 rfl hb) rfl ?_
    refine TL.run (pr_pure rfl) rfl ?_
    refine TL.run (pr_strIx rfl rfl (by omega) hc) rfl ?_
    refine TL.run (pr_pure rfl) rfl ?_
    refine TL.nil ?_
    refine TX.seqN ?_
    refine TC.ret ?_
    refine TX.thenR ?_
    exact TX.finS (.inr rfl) (results1 rfl (RVal.tmp rfl)) (by first | (rw [behind_at hc]; done) | (rw [behind_no h0 c7]; done) | (rw [behind_at hc]; rfl) | (rw [behind_no h0 c7]; rfl))
  ·
    refine TC.skip ?_
    refine TX.seqN ?_
    refine TC.seq ?_
    refine TC.region ?_
    refine TL.run (pr_pure rfl) rfl ?_
    refine TL.nil ?_
    refine TX.seqN ?_
    refine TC.ret ?_
    exact TX.finS (.inr rfl) (results1 rfl (RVal.tmp rfl)) (by first | (rw [behind_at hc]; done) | (rw [behind_no h0 c7]; done) | (rw [behind_at hc]; rfl) | (rw [behind_no h0 c7]; rfl))

set_option maxRecDepth 100000 in
set_option maxHeartbeats 4000000 in
theorem x_quote_ok {H : Hp} (s : Str) (at_ : Int) (h0 : 0 ≤ at_) (h1 : at_ < s.length) (hmax : s.length ≤ 140737488355328) :
    Fn Tryd.prog 31 [gs s, .int .i64 at_] H (fun v H1 => v = quoteV s (quoteL (s.drop (at_ + 1).toNat))) := by
  refine Fn.enter Tryd.func31 Tryd.ntmps31 rfl rfl (fun w0 => ?_)
  refine TC.seq ?_
  refine TC.region ?_
  refine TL.box1 rfl rfl (fun b2 => ?_)
  refine TL.run (pr_pure rfl) rfl ?_
  refine TL.run (pr_pure rfl) rfl ?_
  refine TL.run (pr_pure rfl) rfl ?_
  refine TL.nil ?_
  refine TX.seqN ?_
  refine TC.seq ?_
  refine TC.region ?_
  refine TL.run (pr_pure rfl) rfl ?_
  refine TL.nil ?_
  refine TX.seqN ?_
  refine TC.seq ?_
  refine TC.region ?_
  refine TL.run (pr_pure rfl) rfl ?_
  refine TL.run (pr_pure rfl) rfl ?_
  refine TL.nil ?_
  refine TX.seqN ?_
  refine TC.seq ?_
  refine TC.seq ?_
  refine TC.region ?_
  refine TL.pub (by simp) (fun H_b2 le_b2 rd_b2 => ?_)
  have hb : H_b2 b2 0 = some (gs s) := rd_b2 0 _ rfl
  have hmx := hmax
  replace hmax : s.length ≤ 281474976710656 := by omega
  refine TL.run (pr_pure rfl) rfl ?_
  refine TL.run ((by first | exact pr_add rfl rfl (by omega) (by omega) | exact pr_pure rfl)) rfl ?_
  refine TL.run (pr_pure rfl) rfl ?_
  refine TL.nil ?_
  refine TX.seqN ?_
  refine TC.block ?_
  refine TC.loop4 (V := fun k v ob H1 => [(1, .int .i64 k), (7, v)]) (K := [(2, _), (4, _), (5, _), (6, _), (8, _)]) (L := fun k v ob H1 => St [] w0 H H_b2 (ob)) (I := fun k v ob H1 => (at_ + 1 ≤ k ∧ k ≤ s.length) ∧ ∃ o : Str, OwnSl 1 U8.cells v o ob ∧ (quoteL (s.drop (at_ + 1).toNat)) = pre o (quoteL (s.drop k.toNat)) ∧ (o.length : Int) ≤ k) (μ := fun k => (s.length - k).toNat) (at_ + 1) (.slice none 0 0) [] H_b2 ⟨rfl, rfl, rfl, rfl, rfl, rfl, rfl, trivial⟩ ⟨⟨by omega, by omega⟩, [], OwnSl.nil, by cases quoteL (s.drop (at_ + 1).toNat) <;> rfl, by simp; omega⟩ (fun w hw => hw) (fun k v ob H1 hI => ?_)
  obtain ⟨⟨k0, k1⟩, o, hO, hq, hol⟩ := hI
  obtain ⟨va, vc, rfl⟩ := hO.form
  refine TC.seq ?_
  refine TC.seq ?_
  refine TC.region ?_
  refine TL.run (pr_pure rfl) rfl ?_
  refine TL.run (pr_hp1 rfl hb) rfl ?_
  refine TL.run (pr_lenStr rfl rfl) rfl ?_
  refine TL.run (pr_pure rfl) rfl ?_
  refine TL.nil ?_
  refine TX.seqN ?_
  refine TC.condD rfl (fun c16 => ?_) (fun c16 => ?_)
  ·
    obtain ⟨c, hc⟩ := getSome (l := s) (i := k) (by omega) c16
    refine TC.skip ?_
    refine TX.seqN ?_
    refine TC.seq ?_
    refine TC.block ?_
    refine TC.seq ?_
    refine TC.region ?_
    refine TL.run (pr_hp1 rfl hb) rfl ?_
    refine TL.run (pr_pure rfl) rfl ?_
    refine TL.run (pr_strIx rfl rfl (by omega) hc) rfl ?_
    refine TL.run (pr_pure rfl) rfl ?_
    refine TL.nil ?_
    refine TX.seqN ?_
    refine TC.block ?_
    refine TC.seq ?_
    refine TC.region ?_
    refine TL.run (pr_pure rfl) rfl ?_
    refine TL.run (pr_pure rfl) rfl ?_
    refine TL.run (pr_pure rfl) rfl ?_
    refine TL.nil ?_
    refine TX.seqN ?_
    refine TC.condD rfl (fun c26 => ?_) (fun c26 => ?_)
    ·
      refine TC.seq ?_
      refine TC.region ?_
      refine TL.run (pr_pure rfl) rfl ?_
      refine TL.run (pr_bytes rfl hO .all) rfl ?_
      refine TL.run (pr_pure rfl) rfl ?_
      refine TL.run ((by first | exact pr_add rfl rfl (by omega) (by omega) | exact pr_pure rfl)) rfl ?_
      refine TL.run (pr_pure rfl) rfl ?_
      refine TL.run (pr_pure rfl) rfl ?_
      refine TL.run (pr_pure rfl) rfl ?_
      refine TL.nil ?_
      refine TX.seqN ?_
      refine TC.ret ?_
      refine TX.blkR ?_
      refine TX.blkR ?_
      refine TX.thenR ?_
      refine TX.thenR ?_
      refine TX.blkR ?_
      refine TX.thenR ?_
      exact TX.fin0 (.inr rfl) (results3 rfl (RVal.tmp rfl) (RVal.tmp rfl) (RVal.tmp rfl)) (q_end (by omega) hc c26 hq)
    ·
      refine TC.seq ?_
      refine TC.region ?_
      refine TL.run (pr_pure rfl) rfl ?_
      refine TL.run (pr_pure rfl) rfl ?_
      refine TL.run (pr_pure rfl) rfl ?_
      refine TL.nil ?_
      refine TX.seqN ?_
      refine TC.condD rfl (fun c33 => ?_) (fun c33 => ?_)
      ·
        refine TC.seq ?_
        refine TC.region ?_
        refine TL.run (pr_pure rfl) rfl ?_
        refine TL.run ((by first | exact pr_add rfl rfl (by omega) (by omega) | exact pr_pure rfl)) rfl ?_
        refine TL.run (pr_pure rfl) rfl ?_
        refine TL.nil ?_
        refine TX.seqN ?_
        refine TC.seq ?_
        refine TC.region ?_
        refine TL.run (pr_pure rfl) rfl ?_
        refine TL.run (pr_pure rfl) rfl ?_
        refine TL.callS (enters rfl rfl rfl rfl) (x_behind_ok s (k + 1) hb (by omega) hmax) rfl ?_
        refine TL.nil ?_
        refine TX.seqN ?_
        refine TC.block ?_
        refine TC.sw (decide (((behindC s (k + 1)).toNat : Int) = 34) || decide (((behindC s (k + 1)).toNat : Int) = 92)) 41 [(1, _), (2, _), (4, _), (5, _), (6, _), (7, _), (8, _), (9, _), (13, _), (14, _), (15, _), (16, _), (19, _), (20, _), (21, _), (26, _), (27, _), (28, _), (33, _), (34, _), (35, _), (36, _), (37, _), (38, _), (39, _), (40, _)] ⟨rfl, rfl, rfl, rfl, rfl, rfl, rfl, rfl, rfl, rfl, rfl, rfl, rfl, rfl, rfl, rfl, rfl, rfl, rfl, rfl, rfl, rfl, rfl, rfl, rfl, rfl, trivial⟩ ?_ ?_
        ·
          refine TC.swG (pr_pure rfl) rfl rfl ⟨rfl, rfl, rfl, rfl, rfl, rfl, rfl, rfl, rfl, rfl, rfl, rfl, rfl, rfl, rfl, rfl, rfl, rfl, rfl, rfl, rfl, rfl, rfl, rfl, rfl, rfl, trivial⟩ ?_
          exact TC.swE (pr_pure rfl) rfl rfl ⟨rfl, rfl, rfl, rfl, rfl, rfl, rfl, rfl, rfl, rfl, rfl, rfl, rfl, rfl, rfl, rfl, rfl, rfl, rfl, rfl, rfl, rfl, rfl, rfl, rfl, rfl, trivial⟩
        refine TC.cond rfl (fun c41 => ?_) (fun c41 => ?_)
        ·
          obtain ⟨e, he, he2⟩ := behind_or c41
          have hel := ix_lt he
          refine TC.region ?_
          refine TL.run (pr_pure rfl) rfl ?_
          refine TL.run (pr_hp1 rfl hb) rfl ?_
          refine TL.run (pr_pure rfl) rfl ?_
          refine TL.run (pr_strIx rfl rfl (by omega) he) rfl ?_
          refine TL.bslice rfl rfl rfl rfl (fun b48 => ?_)
          refine TL.append (enc := U8.cells) rfl rfl rfl hO (Src.own [e] (.here _) rfl rfl) (by simp; omega) rfl (.skip _ .all) rfl (fun a49 c49 ob49 hO49 => ?_)
          refine TL.run (pr_pure rfl) rfl ?_
          refine TL.nil ?_
          refine TX.blkN ?_
          refine TX.blkN ?_
          refine TX.blkN ?_
          refine TX.seqN ?_
          refine TC.region ?_
          refine TL.run (pr_pure rfl) rfl ?_
          refine TL.run ((by first | exact pr_add rfl rfl (by omega) (by omega) | exact pr_pure rfl)) rfl ?_
          refine TL.run (pr_pure rfl) rfl ?_
          refine TL.nil ?_
          exact TX.round4 (k + 1 + 1) _ ob49 H1 ⟨⟨by omega, by omega⟩, _, hO49, q_esc (by omega) hc c33 he he2 hq, by simp; omega⟩ ⟨rfl, rfl, rfl, rfl, rfl, rfl, rfl, trivial⟩ (fun w hw => hw.drop) (by omega)
        ·
          refine TC.seq ?_
          refine TC.region ?_
          refine TL.run (pr_pure rfl) rfl ?_
          refine TL.run (pr_pure rfl) rfl ?_
          refine TL.nil ?_
          refine TX.seqN ?_
          refine TC.condD rfl (fun c50 => ?_) (fun c50 => ?_)
          ·
            obtain ⟨e, he, he2⟩ := behind_is (n := 110) c50
            have hel := ix_lt he
            refine TC.region ?_
            refine TL.run (pr_pure rfl) rfl ?_
            refine TL.bslice rfl rfl rfl rfl (fun b53 => ?_)
            refine TL.append (enc := U8.cells) rfl rfl rfl hO (Src.own [10] (.here _) rfl rfl) (by simp; omega) rfl (.skip _ .all) rfl (fun a54 c54 ob54 hO54 => ?_)
            refine TL.run (pr_pure rfl) rfl ?_
            refine TL.nil ?_
            refine TX.blkN ?_
            refine TX.blkN ?_
            refine TX.blkN ?_
            refine TX.seqN ?_
            refine TC.region ?_
            refine TL.run (pr_pure rfl) rfl ?_
            refine TL.run ((by first | exact pr_add rfl rfl (by omega) (by omega) | exact pr_pure rfl)) rfl ?_
            refine TL.run (pr_pure rfl) rfl ?_
            refine TL.nil ?_
            exact TX.round4 (k + 1 + 1) _ ob54 H1 ⟨⟨by omega, by omega⟩, _, hO54, q_n (by omega) hc c33 he he2 hq, by simp; omega⟩ ⟨rfl, rfl, rfl, rfl, rfl, rfl, rfl, trivial⟩ (fun w hw => hw.drop) (by omega)
          ·
            refine TC.seq ?_
            refine TC.region ?_
            refine TL.run (pr_pure rfl) rfl ?_
            refine TL.run (pr_pure rfl) rfl ?_
            refine TL.nil ?_
            refine TX.seqN ?_
            refine TC.condD rfl (fun c55 => ?_) (fun c55 => ?_)
            ·
              obtain ⟨e, he, he2⟩ := behind_is (n := 120) c55
              refine TC.seq ?_
              refine TC.seq ?_
              refine TC.region ?_
              refine TL.run (pr_pure rfl) rfl ?_
              refine TL.run (pr_pure rfl) rfl ?_
              refine TL.run ((by first | exact pr_add rfl rfl (by omega) (by omega) | exact pr_pure rfl)) rfl ?_
              refine TL.callS (enters rfl rfl rfl rfl) (x_behind_ok s (k + 1 + 1) hb (by omega) hmax) rfl ?_
              refine TL.callS (enters rfl rfl rfl rfl) (x_hex_ok (behindC s (k + 1 + 1))) rfl ?_
              refine TL.run (pr_pure rfl) rfl ?_
              refine TL.run (pr_pure rfl) rfl ?_
              refine TL.split (s := 63) rfl (fun g63 => ?_) (fun g63 => ?_)
              ·
                have hx0 : (hexB (behindC s (k + 1 + 1)) && hexB (behindC s (k + 1 + 2))) = false := by simp_all
                refine TL.gdN rfl rfl rfl rfl ?_
                refine TL.gdN rfl rfl rfl rfl ?_
                refine TL.gdN rfl rfl rfl rfl ?_
                refine TL.gdN rfl rfl rfl rfl ?_
                refine TL.gdN rfl rfl rfl rfl ?_
                refine TL.gdN rfl rfl rfl rfl ?_
                refine TL.run (pr_pure rfl) rfl ?_
                refine TL.nil ?_
                refine TX.seqN ?_
                refine TC.condT rfl ?_
                refine TC.seq ?_
                refine TC.region ?_
                refine TL.run (pr_pure rfl) rfl ?_
                refine TL.run (pr_pure rfl) rfl ?_
                refine TL.run (pr_pure rfl) rfl ?_
                refine TL.nil ?_
                refine TX.seqN ?_
                refine TC.ret ?_
                refine TX.thenR ?_
                refine TX.blkR ?_
                refine TX.blkR ?_
                refine TX.blkR ?_
                refine TX.thenR ?_
                refine TX.thenR ?_
                refine TX.blkR ?_
                refine TX.thenR ?_
                exact TX.fin0 (.inr rfl) (results3 rfl (RVal.tmp rfl) (RVal.tmp rfl) (RVal.tmp rfl)) (q_none (by first | exact q_bad0 (by omega) hc c33 c41 c50 c55 hq | exact q_badx (by omega) hc c33 he he2 hx0 hq | exact q_badc (by omega) hc c26 c33 c88 hq | exact q_out c16 hq))
              ·
                refine TL.gdY rfl rfl (pr_pure rfl) rfl ?_
                refine TL.gdY rfl rfl (pr_pure rfl) rfl ?_
                refine TL.gdY rfl rfl ((by first | exact pr_add rfl rfl (by omega) (by omega) | exact pr_pure rfl)) rfl ?_
                refine TL.callSY rfl rfl (enters rfl rfl rfl rfl) (x_behind_ok s (k + 1 + 2) hb (by omega) hmax) rfl ?_
                refine TL.callSY rfl rfl (enters rfl rfl rfl rfl) (x_hex_ok (behindC s (k + 1 + 2))) rfl ?_
                refine TL.gdY rfl rfl (pr_pure rfl) rfl ?_
                refine TL.run (pr_pure rfl) rfl ?_
                refine TL.nil ?_
                refine TX.seqN ?_
                refine TC.cond rfl (fun c70 => ?_) (fun c70 => ?_)
                ·
                  have hx0 : (hexB (behindC s (k + 1 + 1)) && hexB (behindC s (k + 1 + 2))) = false := by simp_all
                  refine TC.seq ?_
                  refine TC.region ?_
                  refine TL.run (pr_pure rfl) rfl ?_
                  refine TL.run (pr_pure rfl) rfl ?_
                  refine TL.run (pr_pure rfl) rfl ?_
                  refine TL.nil ?_
                  refine TX.seqN ?_
                  refine TC.ret ?_
                  refine TX.thenR ?_
                  refine TX.blkR ?_
                  refine TX.blkR ?_
                  refine TX.blkR ?_
                  refine TX.thenR ?_
                  refine TX.thenR ?_
                  refine TX.blkR ?_
                  refine TX.thenR ?_
                  exact TX.fin0 (.inr rfl) (results3 rfl (RVal.tmp rfl) (RVal.tmp rfl) (RVal.tmp rfl)) (q_none (by first | exact q_bad0 (by omega) hc c33 c41 c50 c55 hq | exact q_badx (by omega) hc c33 he he2 hx0 hq | exact q_badc (by omega) hc c26 c33 c88 hq | exact q_out c16 hq))
                ·
                  have hx : hexB (behindC s (k + 1 + 1)) = true ∧ hexB (behindC s (k + 1 + 2)) = true := by simp_all
                  obtain ⟨a, ha, hae⟩ := behind_hex hx.1
                  obtain ⟨b, hb2, hbe⟩ := behind_hex hx.2
                  rw [hae, hbe] at hx
                  have hel := ix_lt hb2
                  refine TC.skip ?_
                  refine TX.seqN ?_
                  refine TC.seq ?_
                  refine TC.drawn (by kernel_rfl) (by kernel_rfl) ?_
                  refine TD.leaf [(0, 1), (1, 2), (2, 1), (3, 1), (4, 1), (7, 2), (8, 1), (9, 1), (10, 1), (5, 3), (6, 1), (11, 3), (12, 1), (13, 3), (14, 0), (15, 1)] (by kernel_rfl) (by kernel_rfl) ?_
                  refine TF.pure (pr_pure rfl) rfl ?_
                  refine TF.still (pr_hp1 rfl hb) rfl ?_
                  refine TF.pure (pr_pure rfl) rfl ?_
                  refine TF.pure ((by first | exact pr_add rfl rfl (by omega) (by omega) | exact pr_pure rfl)) rfl ?_
                  refine TF.pure (pr_strIx rfl rfl (by omega) ha) rfl ?_
                  refine TF.still (pr_hp1 rfl hb) rfl ?_
                  refine TF.pure (pr_pure rfl) rfl ?_
                  refine TF.pure ((by first | exact pr_add rfl rfl (by omega) (by omega) | exact pr_pure rfl)) rfl ?_
                  refine TF.pure (pr_strIx rfl rfl (by omega) hb2) rfl ?_
                  refine TF.callS (enters rfl rfl rfl rfl) (x_worth_ok a) rfl ?_
                  refine TF.pure (PR.to (pr_pure rfl) (congrArg (Value.int .u8) (u8_wrap_mul 16 (worthB a)))) rfl ?_
                  refine TF.callS (enters rfl rfl rfl rfl) (x_worth_ok b) rfl ?_
                  refine TF.pure (PR.to (pr_pure rfl) (congrArg (Value.int .u8) (u8_wrap_add (16 * worthB a) (worthB b)))) rfl ?_
                  refine TF.bslice rfl rfl rfl rfl (fun b84 => ?_)
                  refine TF.loud ?_
                  refine TL.append (enc := U8.cells) rfl rfl rfl hO (Src.own [(16 * worthB a + worthB b)] (.here _) rfl rfl) (by simp; omega) rfl (.skip _ .all) rfl (fun a85 c85 ob85 hO85 => ?_)
                  refine TF.back ?_
                  refine TF.pure (pr_pure rfl) rfl ?_
                  refine TF.nil ?_
                  refine TX.seqN ?_
                  refine TC.region ?_
                  refine TL.run (pr_pure rfl) rfl ?_
                  refine TL.run ((by first | exact pr_add rfl rfl (by omega) (by omega) | exact pr_pure rfl)) rfl ?_
                  refine TL.run (pr_pure rfl) rfl ?_
                  refine TL.nil ?_
                  refine TX.blkN ?_
                  refine TX.blkN ?_
                  refine TX.blkN ?_
                  refine TX.seqN ?_
                  refine TC.region ?_
                  refine TL.run (pr_pure rfl) rfl ?_
                  refine TL.run ((by first | exact pr_add rfl rfl (by omega) (by omega) | exact pr_pure rfl)) rfl ?_
                  refine TL.run (pr_pure rfl) rfl ?_
                  refine TL.nil ?_
                  exact TX.round4 (k + 1 + 2 + 1) _ ob85 H1 ⟨⟨by omega, by omega⟩, _, hO85, q_x (by omega) hc c33 he he2 ha hb2 hx.1 hx.2 hq, by simp; omega⟩ ⟨rfl, rfl, rfl, rfl, rfl, rfl, rfl, trivial⟩ (fun w hw => hw.drop) (by omega)
            ·
              refine TC.seq ?_
              refine TC.region ?_
              refine TL.run (pr_pure rfl) rfl ?_
              refine TL.run (pr_pure rfl) rfl ?_
              refine TL.run (pr_pure rfl) rfl ?_
              refine TL.nil ?_
              refine TX.seqN ?_
              refine TC.ret ?_
              refine TX.blkR ?_
              refine TX.blkR ?_
              refine TX.blkR ?_
              refine TX.thenR ?_
              refine TX.thenR ?_
              refine TX.blkR ?_
              refine TX.thenR ?_
              exact TX.fin0 (.inr rfl) (results3 rfl (RVal.tmp rfl) (RVal.tmp rfl) (RVal.tmp rfl)) (q_none (by first | exact q_bad0 (by omega) hc c33 c41 c50 c55 hq | exact q_badx (by omega) hc c33 he he2 hx0 hq | exact q_badc (by omega) hc c26 c33 c88 hq | exact q_out c16 hq))
      ·
        refine TC.sw (!plainB c) 88 [(1, _), (2, _), (4, _), (5, _), (6, _), (7, _), (8, _), (9, _), (13, _), (14, _), (15, _), (16, _), (19, _), (20, _), (21, _), (26, _), (27, _), (28, _), (33, _), (34, _), (35, _)] ⟨rfl, rfl, rfl, rfl, rfl, rfl, rfl, rfl, rfl, rfl, rfl, rfl, rfl, rfl, rfl, rfl, rfl, rfl, rfl, rfl, rfl, trivial⟩ ?_ ?_
        ·
          refine TC.region ?_
          refine TL.run (pr_pure rfl) rfl ?_
          refine TL.run (pr_pure rfl) rfl ?_
          refine TL.run (pr_pure rfl) rfl ?_
          refine TL.split (s := 91) rfl (fun g91 => ?_) (fun g91 => ?_)
          ·
            have q91 := of_decide_eq_true g91
            refine TL.gdN rfl rfl rfl rfl ?_
            refine TL.gdN rfl rfl rfl rfl ?_
            refine TL.run (pr_pure rfl) rfl ?_
            refine TL.run (pr_pure rfl) rfl ?_
            refine TL.nil ?_
            exact TX.sw rfl (by first | exact plain_1 g91 | exact plain_2 g91) ⟨rfl, rfl, rfl, rfl, rfl, rfl, rfl, rfl, rfl, rfl, rfl, rfl, rfl, rfl, rfl, rfl, rfl, rfl, rfl, rfl, rfl, trivial⟩
          ·
            have q91 := of_decide_eq_false g91
            refine TL.gdY rfl rfl (pr_pure rfl) rfl ?_
            refine TL.gdY rfl rfl (pr_pure rfl) rfl ?_
            refine TL.run (pr_pure rfl) rfl ?_
            refine TL.run (pr_pure rfl) rfl ?_
            refine TL.nil ?_
            exact TX.sw rfl (by first | exact plain_1 g91 | exact plain_2 g91) ⟨rfl, rfl, rfl, rfl, rfl, rfl, rfl, rfl, rfl, rfl, rfl, rfl, rfl, rfl, rfl, rfl, rfl, rfl, rfl, rfl, rfl, trivial⟩
        refine TC.cond rfl (fun c88 => ?_) (fun c88 => ?_)
        ·
          refine TC.seq ?_
          refine TC.region ?_
          refine TL.run (pr_pure rfl) rfl ?_
          refine TL.run (pr_pure rfl) rfl ?_
          refine TL.run (pr_pure rfl) rfl ?_
          refine TL.nil ?_
          refine TX.seqN ?_
          refine TC.ret ?_
          refine TX.blkR ?_
          refine TX.blkR ?_
          refine TX.thenR ?_
          refine TX.thenR ?_
          refine TX.blkR ?_
          refine TX.thenR ?_
          exact TX.fin0 (.inr rfl) (results3 rfl (RVal.tmp rfl) (RVal.tmp rfl) (RVal.tmp rfl)) (q_none (by first | exact q_bad0 (by omega) hc c33 c41 c50 c55 hq | exact q_badx (by omega) hc c33 he he2 hx0 hq | exact q_badc (by omega) hc c26 c33 c88 hq | exact q_out c16 hq))
        ·
          refine TC.region ?_
          refine TL.run (pr_pure rfl) rfl ?_
          refine TL.run (pr_pure rfl) rfl ?_
          refine TL.bslice rfl rfl rfl rfl (fun b24 => ?_)
          refine TL.append (enc := U8.cells) rfl rfl rfl hO (Src.own [c] (.here _) rfl rfl) (by simp; omega) rfl (.skip _ .all) rfl (fun a25 c25 ob25 hO25 => ?_)
          refine TL.run (pr_pure rfl) rfl ?_
          refine TL.nil ?_
          refine TX.blkN ?_
          refine TX.blkN ?_
          refine TX.seqN ?_
          refine TC.region ?_
          refine TL.run (pr_pure rfl) rfl ?_
          refine TL.run ((by first | exact pr_add rfl rfl (by omega) (by omega) | exact pr_pure rfl)) rfl ?_
          refine TL.run (pr_pure rfl) rfl ?_
          refine TL.nil ?_
          exact TX.round4 (k + 1) _ ob25 H1 ⟨⟨by omega, by omega⟩, _, hO25, q_plain (by omega) hc c26 c33 c88 hq, by simp; omega⟩ ⟨rfl, rfl, rfl, rfl, rfl, rfl, rfl, trivial⟩ (fun w hw => hw.drop) (by omega)
  ·
    refine TC.exit ?_
    refine TX.thenE ?_
    refine TX.thenE ?_
    refine TX.blkHit ?_
    refine TX.seqN ?_
    refine TC.seq ?_
    refine TC.region ?_
    refine TL.run (pr_pure rfl) rfl ?_
    refine TL.run (pr_pure rfl) rfl ?_
    refine TL.run (pr_pure rfl) rfl ?_
    refine TL.nil ?_
    refine TX.seqN ?_
    refine TC.ret ?_
    exact TX.fin0 (.inr rfl) (results3 rfl (RVal.tmp rfl) (RVal.tmp rfl) (RVal.tmp rfl)) (q_none (by first | exact q_bad0 (by omega) hc c33 c41 c50 c55 hq | exact q_badx (by omega) hc c33 he he2 hx0 hq | exact q_badc (by omega) hc c26 c33 c88 hq | exact q_out c16 hq))
end Go.Sx
