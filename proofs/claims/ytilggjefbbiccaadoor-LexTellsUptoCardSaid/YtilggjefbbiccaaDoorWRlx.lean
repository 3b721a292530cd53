import Derived.Test.YtilggjefbbiccaaDoorWNames
import Derived.Test.YtilggjefbbiccaaDoorPureRx
set_option linter.unusedVariables false
set_option linter.unusedSimpArgs false
namespace Go.Sx
open Go Go.Proofs
set_option maxRecDepth 100000 in
set_option maxHeartbeats 1000000 in
theorem r_blank_ok {H : Hp} (c : UInt8) :
    FnS Tryd.prog 40 [.int .u8 (c.toNat : Int)] H (.bool (blankB c)) := by
  refine FnS.enter Tryd.func40 Tryd.ntmps40 rfl rfl (fun w0 => ?_)
  refine TC.seq ?_
  refine TC.region ?_
  refine TL.run (pr_pure rfl) rfl ?_
  refine TL.nil ?_
  refine TX.seqN ?_
  refine TC.seq ?_
  refine TC.region ?_
  refine TL.run (pr_pure rfl) rfl ?_
  refine TL.run (pr_pure rfl) rfl ?_
  refine TL.run (pr_pure rfl) rfl ?_
  refine TL.split (s := 5) rfl (fun g5 => ?_) (fun g5 => ?_)
  ·
    have q5 := of_decide_eq_true g5
    refine TL.gdN rfl rfl rfl rfl ?_
    refine TL.gdN rfl rfl rfl rfl ?_
    refine TL.run (pr_pure rfl) rfl ?_
    refine TL.run (pr_pure rfl) rfl ?_
    refine TL.gdN rfl rfl rfl rfl ?_
    refine TL.gdN rfl rfl rfl rfl ?_
    refine TL.run (pr_pure rfl) rfl ?_
    refine TL.run (pr_pure rfl) rfl ?_
    refine TL.nil ?_
    refine TX.seqN ?_
    refine TC.ret ?_
    exact TX.finS (.inr rfl) (results1 rfl (RVal.tmp rfl)) (congrArg Value.bool (by first | exact blank_1 g5 | exact blank_2 g9 | exact blank_3 g5 g9))
  ·
    have q5 := of_decide_eq_false g5
    refine TL.gdY rfl rfl (pr_pure rfl) rfl ?_
    refine TL.gdY rfl rfl (pr_pure rfl) rfl ?_
    refine TL.run (pr_pure rfl) rfl ?_
    refine TL.run (pr_pure rfl) rfl ?_
    refine TL.split (s := 9) rfl (fun g9 => ?_) (fun g9 => ?_)
    ·
      have q9 := of_decide_eq_true g9
      refine TL.gdN rfl rfl rfl rfl ?_
      refine TL.gdN rfl rfl rfl rfl ?_
      refine TL.run (pr_pure rfl) rfl ?_
      refine TL.run (pr_pure rfl) rfl ?_
      refine TL.nil ?_
      refine TX.seqN ?_
      refine TC.ret ?_
      exact TX.finS (.inr rfl) (results1 rfl (RVal.tmp rfl)) (congrArg Value.bool (by first | exact blank_1 g5 | exact blank_2 g9 | exact blank_3 g5 g9))
    ·
      have q9 := of_decide_eq_false g9
      refine TL.gdY rfl rfl (pr_pure rfl) rfl ?_
      refine TL.gdY rfl rfl (pr_pure rfl) rfl ?_
      refine TL.run (pr_pure rfl) rfl ?_
      refine TL.run (pr_pure rfl) rfl ?_
      refine TL.nil ?_
      refine TX.seqN ?_
      refine TC.ret ?_
      exact TX.finS (.inr rfl) (results1 rfl (RVal.tmp rfl)) (congrArg Value.bool (by first | exact blank_1 g5 | exact blank_2 g9 | exact blank_3 g5 g9))

set_option maxRecDepth 100000 in
set_option maxHeartbeats 1000000 in
theorem r_ends_ok {H : Hp} (t : Token) :
    FnS Tryd.prog 32 [.agg t.cells.toArray] H (.bool (endsB t)) := by
  refine FnS.enter Tryd.func32 Tryd.ntmps32 rfl rfl (fun w0 => ?_)
  refine TC.seq ?_
  refine TC.region ?_
  refine TL.box rfl rfl (fun b1 => ?_)
  refine TL.run (pr_pure rfl) rfl ?_
  refine TL.nil ?_
  refine TX.seqN ?_
  refine TC.seq ?_
  refine TC.seq ?_
  refine TC.region ?_
  refine TL.run (pr_field rfl) rfl ?_
  refine TL.run (pr_own1 rfl (.here _) rfl) rfl ?_
  refine TL.nil ?_
  refine TX.seqN ?_
  refine TC.block ?_
  refine TC.sw (decide (t.kind = 0)) 5 [(1, _), (2, _), (4, _)] ⟨rfl, rfl, rfl, trivial⟩ ?_ ?_
  ·
    exact TC.swE (pr_pure rfl) rfl rfl ⟨rfl, rfl, rfl, trivial⟩
  refine TC.condD rfl (fun c5 => ?_) (fun c5 => ?_)
  ·
    refine TC.seq ?_
    refine TC.region ?_
    refine TL.run (pr_field rfl) rfl ?_
    refine TL.run (pr_own1 rfl (.here _) rfl) rfl ?_
    refine TL.callS (enters rfl rfl rfl rfl) (r_Keyword_ok t.text) rfl ?_
    refine TL.run (pr_pure rfl) rfl ?_
    refine TL.run (pr_pure rfl) rfl ?_
    refine TL.nil ?_
    refine TX.seqN ?_
    refine TC.ret ?_
    refine TX.blkR ?_
    refine TX.thenR ?_
    exact TX.finS (.inr rfl) (results1 rfl (RVal.tmp rfl)) (congrArg Value.bool (by first | exact (ends_12 (by simpa using c11)).symm | (simp_all [endsB]; done)))
  ·
    refine TC.sw (decide (t.kind = 1) || decide (t.kind = 2)) 11 [(1, _), (2, _)] ⟨rfl, rfl, trivial⟩ ?_ ?_
    ·
      refine TC.swG (pr_pure rfl) rfl rfl ⟨rfl, rfl, trivial⟩ ?_
      exact TC.swE (pr_pure rfl) rfl rfl ⟨rfl, rfl, trivial⟩
    refine TC.cond rfl (fun c11 => ?_) (fun c11 => ?_)
    ·
      refine TC.seq ?_
      refine TC.region ?_
      refine TL.run (pr_pure rfl) rfl ?_
      refine TL.nil ?_
      refine TX.seqN ?_
      refine TC.ret ?_
      refine TX.blkR ?_
      refine TX.thenR ?_
      exact TX.finS (.inr rfl) (results1 rfl (RVal.tmp rfl)) (congrArg Value.bool (by first | exact (ends_12 (by simpa using c11)).symm | (simp_all [endsB]; done)))
    ·
      refine TC.skip ?_
      refine TX.blkN ?_
      refine TX.seqN ?_
      refine TC.seq ?_
      refine TC.region ?_
      refine TL.run (pr_field rfl) rfl ?_
      refine TL.run (pr_own1 rfl (.here _) rfl) rfl ?_
      refine TL.run (pr_pure rfl) rfl ?_
      refine TL.run (pr_pure rfl) rfl ?_
      refine TL.split (s := 17) rfl (fun g17 => ?_) (fun g17 => ?_)
      ·
        have q17 := of_decide_eq_true g17
        refine TL.gdY rfl rfl (pr_field rfl) rfl ?_
        refine TL.gdY rfl rfl (pr_own1 rfl (.here _) rfl) rfl ?_
        refine TL.gdY rfl rfl (pr_str rfl rfl rfl) rfl ?_
        refine TL.run (pr_pure rfl) rfl ?_
        refine TL.run (pr_pure rfl) rfl ?_
        refine TL.nil ?_
        refine TX.seqN ?_
        refine TC.ret ?_
        exact TX.finS (.inr rfl) (results1 rfl (RVal.tmp rfl)) (congrArg Value.bool (by first | exact (ends_12 (by simpa using c11)).symm | (simp_all [endsB]; done)))
      ·
        have q17 := of_decide_eq_false g17
        refine TL.gdN rfl rfl rfl rfl ?_
        refine TL.gdN rfl rfl rfl rfl ?_
        refine TL.gdN rfl rfl rfl rfl ?_
        refine TL.run (pr_pure rfl) rfl ?_
        refine TL.run (pr_pure rfl) rfl ?_
        refine TL.nil ?_
        refine TX.seqN ?_
        refine TC.ret ?_
        exact TX.finS (.inr rfl) (results1 rfl (RVal.tmp rfl)) (congrArg Value.bool (by first | exact (ends_12 (by simpa using c11)).symm | (simp_all [endsB]; done)))

set_option maxRecDepth 100000 in
set_option maxHeartbeats 1000000 in
theorem r_hex_ok {H : Hp} (c : UInt8) :
    FnS Tryd.prog 51 [.int .u8 (c.toNat : Int)] H (.int .i64 (hexI c)) := by
  refine FnS.enter Tryd.func51 Tryd.ntmps51 rfl rfl (fun w0 => ?_)
  refine TC.seq ?_
  refine TC.region ?_
  refine TL.run (pr_pure rfl) rfl ?_
  refine TL.nil ?_
  refine TX.seqN ?_
  refine TC.seq ?_
  refine TC.block ?_
  refine TC.seq ?_
  refine TC.region ?_
  refine TL.run (pr_pure rfl) rfl ?_
  refine TL.callS (enters rfl rfl rfl rfl) (r_digit_ok c) rfl ?_
  refine TL.run (pr_pure rfl) rfl ?_
  refine TL.nil ?_
  refine TX.seqN ?_
  refine TC.cond rfl (fun c3 => ?_) (fun c3 => ?_)
  ·
    refine TC.seq ?_
    refine TC.region ?_
    refine TL.run (pr_pure rfl) rfl ?_
    refine TL.run (PR.to (pr_pure rfl) (congrArg (Value.int .u8) (u8_wrap_sub c 48))) rfl ?_
    refine TL.run (PR.to (pr_conv rfl) (congrArg (Value.int .i64) (wrap_u8 (c - 48)))) rfl ?_
    refine TL.run (pr_pure rfl) rfl ?_
    refine TL.nil ?_
    refine TX.seqN ?_
    refine TC.ret ?_
    refine TX.blkR ?_
    refine TX.thenR ?_
    exact TX.finS (.inr rfl) (results1 rfl (RVal.tmp rfl)) (congrArg (Value.int .i64) (by first | exact (hexI_1 c3).symm | exact (hexI_2 c3 c9).symm | exact (hexI_3 c3 c9).symm))
  ·
    refine TC.sw (decide ((97 : Int) ≤ c.toNat) && decide ((c.toNat : Int) ≤ 102)) 9 [(0, _), (2, _)] ⟨rfl, rfl, trivial⟩ ?_ ?_
    ·
      refine TC.region ?_
      refine TL.run (pr_pure rfl) rfl ?_
      refine TL.run (pr_pure rfl) rfl ?_
      refine TL.run (pr_pure rfl) rfl ?_
      refine TL.split (s := 12) rfl (fun g12 => ?_) (fun g12 => ?_)
      ·
        have q12 := of_decide_eq_true g12
        refine TL.gdY rfl rfl (pr_pure rfl) rfl ?_
        refine TL.gdY rfl rfl (pr_pure rfl) rfl ?_
        refine TL.run (pr_pure rfl) rfl ?_
        refine TL.run (pr_pure rfl) rfl ?_
        refine TL.nil ?_
        exact TX.sw rfl (by first | (simp_all; done) | (simp_all; omega)) ⟨rfl, rfl, trivial⟩
      ·
        have q12 := of_decide_eq_false g12
        refine TL.gdN rfl rfl rfl rfl ?_
        refine TL.gdN rfl rfl rfl rfl ?_
        refine TL.run (pr_pure rfl) rfl ?_
        refine TL.run (pr_pure rfl) rfl ?_
        refine TL.nil ?_
        exact TX.sw rfl (by first | (simp_all; done) | (simp_all; omega)) ⟨rfl, rfl, trivial⟩
    refine TC.cond rfl (fun c9 => ?_) (fun c9 => ?_)
    ·
      refine TC.seq ?_
      refine TC.region ?_
      refine TL.run (pr_pure rfl) rfl ?_
      refine TL.run (PR.to (pr_pure rfl) (congrArg (Value.int .u8) (u8_wrap_sub c 97))) rfl ?_
      refine TL.run (PR.to (pr_conv rfl) (congrArg (Value.int .i64) (wrap_u8 (c - 97)))) rfl ?_
      refine TL.run (pr_add rfl rfl (by have := (c - 97).toNat_lt; omega) (by have := (c - 97).toNat_lt; omega)) rfl ?_
      refine TL.run (pr_pure rfl) rfl ?_
      refine TL.nil ?_
      refine TX.seqN ?_
      refine TC.ret ?_
      refine TX.blkR ?_
      refine TX.thenR ?_
      exact TX.finS (.inr rfl) (results1 rfl (RVal.tmp rfl)) (congrArg (Value.int .i64) (by first | exact (hexI_1 c3).symm | exact (hexI_2 c3 c9).symm | exact (hexI_3 c3 c9).symm))
    ·
      refine TC.skip ?_
      refine TX.blkN ?_
      refine TX.seqN ?_
      refine TC.seq ?_
      refine TC.region ?_
      refine TL.run (pr_pure rfl) rfl ?_
      refine TL.nil ?_
      refine TX.seqN ?_
      refine TC.ret ?_
      exact TX.finS (.inr rfl) (results1 rfl (RVal.tmp rfl)) (congrArg (Value.int .i64) (by first | exact (hexI_1 c3).symm | exact (hexI_2 c3 c9).symm | exact (hexI_3 c3 c9).symm))

set_option maxRecDepth 100000 in
set_option maxHeartbeats 1000000 in
theorem r_run_ok {H : Hp} (s : Str) (w : Bool) (p : UInt8 → Bool) (at_ : Int) (hp : ∀ c : UInt8, p c = (digitB c || (w && letterB c))) (h0 : 0 ≤ at_) (h1 : at_ ≤ s.length) (hmax : s.length ≤ 9223372036854775807) :
    FnS Tryd.prog 43 [gs s, .int .i64 at_, .bool w] H (.int .i64 (at_ + runL p (s.drop at_.toNat))) := by
  refine FnS.enter Tryd.func43 Tryd.ntmps43 rfl rfl (fun w0 => ?_)
  refine TC.seq ?_
  refine TC.region ?_
  refine TL.run (pr_pure rfl) rfl ?_
  refine TL.nil ?_
  refine TX.seqN ?_
  refine TC.seq ?_
  refine TC.block ?_
  refine TC.loop (V := fun k => [(1, .int .i64 k)]) (K := [(0, _), (2, _), (6, _)]) (L := fun k => _) (I := fun k => (at_ ≤ k ∧ k ≤ s.length) ∧ at_ + (runL p (s.drop at_.toNat) : Int) = k + runL p (s.drop k.toNat)) (μ := fun k => (s.length - k).toNat) (i := at_) ⟨rfl, rfl, rfl, rfl, trivial⟩ ⟨⟨by omega, h1⟩, rfl⟩ (fun w hw => hw) (fun k hI => ?_)
  refine TC.seq ?_
  refine TC.seq ?_
  refine TC.region ?_
  refine TL.run (pr_pure rfl) rfl ?_
  refine TL.run (pr_pure rfl) rfl ?_
  refine TL.run (pr_lenStr rfl rfl) rfl ?_
  refine TL.run (pr_pure rfl) rfl ?_
  refine TL.run (pr_pure rfl) rfl ?_
  refine TL.split (s := 11) rfl (fun g11 => ?_) (fun g11 => ?_)
  ·
    have q11 := of_decide_eq_true g11
    obtain ⟨c, hc⟩ := getSome (l := s) (i := k) (by omega) q11
    refine TL.gdY rfl rfl (pr_pure rfl) rfl ?_
    refine TL.gdY rfl rfl (pr_pure rfl) rfl ?_
    refine TL.gdY rfl rfl (pr_strIx rfl rfl (by omega) hc) rfl ?_
    refine TL.callSY rfl rfl (enters rfl rfl rfl rfl) (r_digit_ok c) rfl ?_
    refine TL.gdY rfl rfl (pr_pure rfl) rfl ?_
    refine TL.split (s := 16) rfl (fun g16 => ?_) (fun g16 => ?_)
    ·
      refine TL.gdN rfl rfl rfl rfl ?_
      refine TL.gdN rfl rfl rfl rfl ?_
      refine TL.gdU rfl rfl rfl ?_
      refine TL.gdU rfl rfl rfl ?_
      refine TL.gdU rfl rfl rfl ?_
      refine TL.gdU rfl rfl rfl ?_
      refine TL.gdN rfl rfl rfl rfl ?_
      refine TL.gdY rfl rfl (pr_pure rfl) rfl ?_
      refine TL.run (pr_pure rfl) rfl ?_
      refine TL.nil ?_
      refine TX.seqN ?_
      refine TC.condT rfl ?_
      refine TC.skip ?_
      refine TX.seqN ?_
      refine TC.block ?_
      refine TC.region ?_
      refine TL.run (pr_pure rfl) rfl ?_
      refine TL.run ((by first | exact pr_add rfl rfl (by omega) (by omega) | exact pr_pure rfl)) rfl ?_
      refine TL.run (pr_pure rfl) rfl ?_
      refine TL.nil ?_
      refine TX.blkN ?_
      exact TX.round (k + 1) ⟨by omega, runL_next hI.1.1 h0 hc (by first | exact rp_1 hp g16 | exact rp_2 hp g18 c25) hI.2⟩ ⟨rfl, rfl, rfl, rfl, trivial⟩ (fun w hw => hw) (by omega)
    ·
      refine TL.gdY rfl rfl (pr_pure rfl) rfl ?_
      refine TL.gdY rfl rfl (pr_pure rfl) rfl ?_
      refine TL.split (s := 18) rfl (fun g18 => ?_) (fun g18 => ?_)
      ·
        refine TL.gdY rfl rfl (pr_pure rfl) rfl ?_
        refine TL.gdY rfl rfl (pr_pure rfl) rfl ?_
        refine TL.gdY rfl rfl (pr_strIx rfl rfl (by omega) hc) rfl ?_
        refine TL.callSY rfl rfl (enters rfl rfl rfl rfl) (r_letter_ok c) rfl ?_
        refine TL.gdY rfl rfl (pr_pure rfl) rfl ?_
        refine TL.gdY rfl rfl (pr_pure rfl) rfl ?_
        refine TL.run (pr_pure rfl) rfl ?_
        refine TL.nil ?_
        refine TX.seqN ?_
        refine TC.cond rfl (fun c25 => ?_) (fun c25 => ?_)
        ·
          refine TC.skip ?_
          refine TX.seqN ?_
          refine TC.block ?_
          refine TC.region ?_
          refine TL.run (pr_pure rfl) rfl ?_
          refine TL.run ((by first | exact pr_add rfl rfl (by omega) (by omega) | exact pr_pure rfl)) rfl ?_
          refine TL.run (pr_pure rfl) rfl ?_
          refine TL.nil ?_
          refine TX.blkN ?_
          exact TX.round (k + 1) ⟨by omega, runL_next hI.1.1 h0 hc (by first | exact rp_1 hp g16 | exact rp_2 hp g18 c25) hI.2⟩ ⟨rfl, rfl, rfl, rfl, trivial⟩ (fun w hw => hw) (by omega)
        ·
          refine TC.exit ?_
          refine TX.thenE ?_
          refine TX.thenE ?_
          refine TX.blkHit ?_
          refine TX.seqN ?_
          refine TC.seq ?_
          refine TC.region ?_
          refine TL.run (pr_pure rfl) rfl ?_
          refine TL.run (pr_pure rfl) rfl ?_
          refine TL.nil ?_
          refine TX.seqN ?_
          refine TC.ret ?_
          exact TX.finS (.inr rfl) (results1 rfl (RVal.tmp rfl)) (congrArg (Value.int .i64) (by first | exact (run_stop hI.2 (runL_none q11)).symm | exact (run_stop hI.2 (runL_hit (by omega) hc (rp_3 hp g16 g18))).symm | exact (run_stop hI.2 (runL_hit (by omega) hc (rp_4 hp g16 c25))).symm))
      ·
        refine TL.gdN rfl rfl rfl rfl ?_
        refine TL.gdN rfl rfl rfl rfl ?_
        refine TL.gdN rfl rfl rfl rfl ?_
        refine TL.gdN rfl rfl rfl rfl ?_
        refine TL.gdY rfl rfl (pr_pure rfl) rfl ?_
        refine TL.gdY rfl rfl (pr_pure rfl) rfl ?_
        refine TL.run (pr_pure rfl) rfl ?_
        refine TL.nil ?_
        refine TX.seqN ?_
        refine TC.condF rfl ?_
        refine TC.exit ?_
        refine TX.thenE ?_
        refine TX.thenE ?_
        refine TX.blkHit ?_
        refine TX.seqN ?_
        refine TC.seq ?_
        refine TC.region ?_
        refine TL.run (pr_pure rfl) rfl ?_
        refine TL.run (pr_pure rfl) rfl ?_
        refine TL.nil ?_
        refine TX.seqN ?_
        refine TC.ret ?_
        exact TX.finS (.inr rfl) (results1 rfl (RVal.tmp rfl)) (congrArg (Value.int .i64) (by first | exact (run_stop hI.2 (runL_none q11)).symm | exact (run_stop hI.2 (runL_hit (by omega) hc (rp_3 hp g16 g18))).symm | exact (run_stop hI.2 (runL_hit (by omega) hc (rp_4 hp g16 c25))).symm))
  ·
    have q11 := of_decide_eq_false g11
    refine TL.gdN rfl rfl rfl rfl ?_
    refine TL.gdN rfl rfl rfl rfl ?_
    refine TL.gdN rfl rfl rfl rfl ?_
    refine TL.gdN rfl rfl rfl rfl ?_
    refine TL.gdN rfl rfl rfl rfl ?_
    refine TL.gdU rfl rfl rfl ?_
    refine TL.gdU rfl rfl rfl ?_
    refine TL.gdU rfl rfl rfl ?_
    refine TL.gdU rfl rfl rfl ?_
    refine TL.gdU rfl rfl rfl ?_
    refine TL.gdU rfl rfl rfl ?_
    refine TL.gdU rfl rfl rfl ?_
    refine TL.gdN rfl rfl rfl rfl ?_
    refine TL.run (pr_pure rfl) rfl ?_
    refine TL.nil ?_
    refine TX.seqN ?_
    refine TC.condF rfl ?_
    refine TC.exit ?_
    refine TX.thenE ?_
    refine TX.thenE ?_
    refine TX.blkHit ?_
    refine TX.seqN ?_
    refine TC.seq ?_
    refine TC.region ?_
    refine TL.run (pr_pure rfl) rfl ?_
    refine TL.run (pr_pure rfl) rfl ?_
    refine TL.nil ?_
    refine TX.seqN ?_
    refine TC.ret ?_
    exact TX.finS (.inr rfl) (results1 rfl (RVal.tmp rfl)) (congrArg (Value.int .i64) (by first | exact (run_stop hI.2 (runL_none q11)).symm | exact (run_stop hI.2 (runL_hit (by omega) hc (rp_3 hp g16 g18))).symm | exact (run_stop hI.2 (runL_hit (by omega) hc (rp_4 hp g16 c25))).symm))

set_option maxRecDepth 100000 in
set_option maxHeartbeats 1000000 in
theorem r_sign_ok {H : Hp} (s : Str) (at_ : Int) (h0 : 0 ≤ at_) (h1 : at_ < s.length) (hmax : s.length ≤ 281474976710656) :
    FnS Tryd.prog 47 [gs s, .int .i64 at_] H (.int .i64 (signL (s.drop at_.toNat))) := by
  obtain ⟨c, hc⟩ := getSome (l := s) h0 h1
  refine FnS.enter Tryd.func47 Tryd.ntmps47 rfl rfl (fun w0 => ?_)
  refine TC.seq ?_
  refine TC.region ?_
  refine TL.run (pr_pure rfl) rfl ?_
  refine TL.nil ?_
  refine TX.seqN ?_
  refine TC.seq ?_
  refine TC.sw (decide (at_ + 1 < s.length) && ((decide ((s.take (at_ + 2).toNat).drop at_.toNat = [61, 61])) || (decide ((s.take (at_ + 2).toNat).drop at_.toNat = [45, 62])))) 27 [(0, _), (1, _), (4, _)] ⟨rfl, rfl, rfl, trivial⟩ ?_ ?_
  ·
    refine TC.region ?_
    refine TL.run (pr_pure rfl) rfl ?_
    refine TL.run ((by first | exact pr_add rfl rfl (by omega) (by omega) | exact pr_pure rfl)) rfl ?_
    refine TL.run (pr_pure rfl) rfl ?_
    refine TL.run (pr_lenStr rfl rfl) rfl ?_
    refine TL.run (pr_pure rfl) rfl ?_
    refine TL.run (pr_pure rfl) rfl ?_
    refine TL.split (s := 12) rfl (fun g12 => ?_) (fun g12 => ?_)
    ·
      have q12 := of_decide_eq_true g12
      refine TL.gdY rfl rfl (pr_pure rfl) rfl ?_
      refine TL.gdY rfl rfl (pr_pure rfl) rfl ?_
      refine TL.gdY rfl rfl (pr_pure rfl) rfl ?_
      refine TL.gdY rfl rfl ((by first | exact pr_add rfl rfl (by omega) (by omega) | exact pr_pure rfl)) rfl ?_
      refine TL.gdY rfl rfl (pr_strLH rfl rfl rfl (by omega) (by omega) (by omega)) rfl ?_
      refine TL.gdY rfl rfl (pr_str rfl rfl rfl) rfl ?_
      refine TL.gdY rfl rfl (pr_pure rfl) rfl ?_
      refine TL.split (s := 19) rfl (fun g19 => ?_) (fun g19 => ?_)
      ·
        have q19 := of_decide_eq_true g19
        refine TL.gdN rfl rfl rfl rfl ?_
        refine TL.gdN rfl rfl rfl rfl ?_
        refine TL.gdN rfl rfl rfl rfl ?_
        refine TL.gdN rfl rfl rfl rfl ?_
        refine TL.gdN rfl rfl rfl rfl ?_
        refine TL.gdN rfl rfl rfl rfl ?_
        refine TL.gdY rfl rfl (pr_pure rfl) rfl ?_
        refine TL.run (pr_pure rfl) rfl ?_
        refine TL.nil ?_
        exact TX.sw rfl (by first | (simp_all; done) | (simp_all; omega)) ⟨rfl, rfl, rfl, trivial⟩
      ·
        have q19 := of_decide_eq_false g19
        refine TL.gdY rfl rfl (pr_pure rfl) rfl ?_
        refine TL.gdY rfl rfl (pr_pure rfl) rfl ?_
        refine TL.gdY rfl rfl (pr_pure rfl) rfl ?_
        refine TL.gdY rfl rfl ((by first | exact pr_add rfl rfl (by omega) (by omega) | exact pr_pure rfl)) rfl ?_
        refine TL.gdY rfl rfl (pr_strLH rfl rfl rfl (by omega) (by omega) (by omega)) rfl ?_
        refine TL.gdY rfl rfl (pr_str rfl rfl rfl) rfl ?_
        refine TL.gdY rfl rfl (pr_pure rfl) rfl ?_
        refine TL.run (pr_pure rfl) rfl ?_
        refine TL.nil ?_
        exact TX.sw rfl (by first | (simp_all; done) | (simp_all; omega)) ⟨rfl, rfl, rfl, trivial⟩
    ·
      have q12 := of_decide_eq_false g12
      refine TL.gdN rfl rfl rfl rfl ?_
      refine TL.gdN rfl rfl rfl rfl ?_
      refine TL.gdN rfl rfl rfl rfl ?_
      refine TL.gdN rfl rfl rfl rfl ?_
      refine TL.gdN rfl rfl rfl rfl ?_
      refine TL.gdN rfl rfl rfl rfl ?_
      refine TL.gdN rfl rfl rfl rfl ?_
      refine TL.gdU rfl rfl rfl ?_
      refine TL.gdU rfl rfl rfl ?_
      refine TL.gdU rfl rfl rfl ?_
      refine TL.gdU rfl rfl rfl ?_
      refine TL.gdU rfl rfl rfl ?_
      refine TL.gdU rfl rfl rfl ?_
      refine TL.gdN rfl rfl rfl rfl ?_
      refine TL.run (pr_pure rfl) rfl ?_
      refine TL.nil ?_
      exact TX.sw rfl (by first | (simp_all; done) | (simp_all; omega)) ⟨rfl, rfl, rfl, trivial⟩
  refine TC.cond rfl (fun c27 => ?_) (fun c27 => ?_)
  ·
    refine TC.seq ?_
    refine TC.region ?_
    refine TL.run (pr_pure rfl) rfl ?_
    refine TL.nil ?_
    refine TX.seqN ?_
    refine TC.ret ?_
    refine TX.thenR ?_
    exact TX.finS (.inr rfl) (results1 rfl (RVal.tmp rfl)) (congrArg (Value.int .i64) (by first | exact (sg_r2 h0 hc c27).symm | exact (sg_r1 h0 hc hno hg c40).symm | exact (sg_r0 h0 hc hno c31 hI.1 hI.2.2).symm))
  ·
    have hno := sg_no c27
    refine TC.skip ?_
    refine TX.seqN ?_
    refine TC.seq ?_
    refine TC.region ?_
    refine TL.run (pr_pure rfl) rfl ?_
    refine TL.nil ?_
    refine TX.seqN ?_
    refine TC.seq ?_
    refine TC.seq ?_
    refine TC.region ?_
    refine TL.run (pr_pure rfl) rfl ?_
    refine TL.nil ?_
    refine TX.seqN ?_
    refine TC.block ?_
    refine TC.loop (V := fun k => [(6, .int .i64 k)]) (K := [(0, _), (1, _), (4, _), (5, _)]) (L := fun k => _) (I := fun k => 0 ≤ k ∧ k ≤ (14 : Int) ∧ c ∉ sgL.take k.toNat) (μ := fun k => (14 - k).toNat) (i := (0 : Int)) ⟨rfl, rfl, rfl, rfl, rfl, trivial⟩ ⟨by omega, by omega, by simp⟩ (fun w hw => hw) (fun k hI => ?_)
    refine TC.seq ?_
    refine TC.seq ?_
    refine TC.region ?_
    refine TL.run (pr_pure rfl) rfl ?_
    refine TL.run (pr_pure rfl) rfl ?_
    refine TL.run (pr_lenStr rfl rfl) rfl ?_
    refine TL.run (pr_pure rfl) rfl ?_
    refine TL.nil ?_
    refine TX.seqN ?_
    refine TC.condD rfl (fun c31 => ?_) (fun c31 => ?_)
    ·
      obtain ⟨g, hg⟩ := getSome (l := sgL) hI.1 c31
      have hk14 : k < 14 := by have h := c31; simpa using h
      refine TC.skip ?_
      refine TX.seqN ?_
      refine TC.seq ?_
      refine TC.block ?_
      refine TC.seq ?_
      refine TC.quiet (by kernel_rfl) (by kernel_rfl) ?_
      refine TQ.run (pr_pure rfl) rfl ?_
      refine TQ.run (pr_pure rfl) rfl ?_
      refine TQ.run (pr_strIx rfl rfl (by omega) hg) rfl ?_
      refine TQ.run (pr_pure rfl) rfl ?_
      refine TQ.run (pr_pure rfl) rfl ?_
      refine TQ.run (pr_strIx rfl rfl (by omega) hc) rfl ?_
      refine TQ.run (pr_pure rfl) rfl ?_
      refine TQ.nil ?_
      refine TX.seqN ?_
      refine TC.condD rfl (fun c40 => ?_) (fun c40 => ?_)
      ·
        refine TC.seq ?_
        refine TC.region ?_
        refine TL.run (pr_pure rfl) rfl ?_
        refine TL.nil ?_
        refine TX.seqN ?_
        refine TC.ret ?_
        refine TX.blkR ?_
        refine TX.thenR ?_
        refine TX.thenR ?_
        refine TX.blkR ?_
        refine TX.thenR ?_
        exact TX.finS (.inr rfl) (results1 rfl (RVal.tmp rfl)) (congrArg (Value.int .i64) (by first | exact (sg_r2 h0 hc c27).symm | exact (sg_r1 h0 hc hno hg c40).symm | exact (sg_r0 h0 hc hno c31 hI.1 hI.2.2).symm))
      ·
        refine TC.skip ?_
        refine TX.blkN ?_
        refine TX.seqN ?_
        refine TC.region ?_
        refine TL.run (pr_pure rfl) rfl ?_
        refine TL.run ((by first | exact pr_add rfl rfl (by omega) (by omega) | exact pr_pure rfl)) rfl ?_
        refine TL.run (pr_pure rfl) rfl ?_
        refine TL.nil ?_
        exact TX.round (k + 1) ⟨by omega, by omega, sg_next hI.1 hg c40 hI.2.2⟩ ⟨rfl, rfl, rfl, rfl, rfl, trivial⟩ (fun w hw => hw) (by omega)
    ·
      refine TC.exit ?_
      refine TX.thenE ?_
      refine TX.thenE ?_
      refine TX.blkHit ?_
      refine TX.seqN ?_
      refine TC.seq ?_
      refine TC.region ?_
      refine TL.run (pr_pure rfl) rfl ?_
      refine TL.nil ?_
      refine TX.seqN ?_
      refine TC.ret ?_
      exact TX.finS (.inr rfl) (results1 rfl (RVal.tmp rfl)) (congrArg (Value.int .i64) (by first | exact (sg_r2 h0 hc c27).symm | exact (sg_r1 h0 hc hno hg c40).symm | exact (sg_r0 h0 hc hno c31 hI.1 hI.2.2).symm))

set_option maxRecDepth 100000 in
set_option maxHeartbeats 1000000 in
theorem r_numeral_ok {H : Hp} (s : Str) (hmax : s.length ≤ 281474976710656) :
    FnS Tryd.prog 45 [gs s] H (.bool (numeralB s)) := by
  refine FnS.enter Tryd.func45 Tryd.ntmps45 rfl rfl (fun w0 => ?_)
  refine TC.seq ?_
  refine TC.region ?_
  refine TL.run (pr_pure rfl) rfl ?_
  refine TL.nil ?_
  refine TX.seqN ?_
  refine TC.seq ?_
  refine TC.region ?_
  refine TL.run (pr_pure rfl) rfl ?_
  refine TL.run (pr_pure rfl) rfl ?_
  refine TL.nil ?_
  refine TX.seqN ?_
  refine TC.mid (V := fun d => [(3, gs d)]) (K := [(0, _), (2, _)]) ⟨rfl, rfl, trivial⟩ (L := fun d => St [] w0 H H []) (I := fun d => d = magS s) ?_ ?_
  ·
    refine TC.seq ?_
    refine TC.region ?_
    refine TL.run (pr_pure rfl) rfl ?_
    refine TL.run (pr_str rfl rfl rfl) rfl ?_
    refine TL.run (pr_pure rfl) rfl ?_
    refine TL.split (s := 9) rfl (fun g9 => ?_) (fun g9 => ?_)
    ·
      have q9 := of_ndec_true g9
      obtain ⟨c, hc⟩ := getSome (l := s) (i := 0) (by omega) (pos_of q9)
      refine TL.gdY rfl rfl (pr_pure rfl) rfl ?_
      refine TL.gdY rfl rfl (pr_strIx rfl rfl (by omega) hc) rfl ?_
      refine TL.gdY rfl rfl (pr_pure rfl) rfl ?_
      refine TL.run (pr_pure rfl) rfl ?_
      refine TL.nil ?_
      refine TX.seqN ?_
      refine TC.condD rfl (fun c13 => ?_) (fun c13 => ?_)
      ·
        refine TC.region ?_
        refine TL.run (pr_pure rfl) rfl ?_
        have hpos := pos_of q9
        refine TL.run (pr_strL rfl rfl (by omega) (by omega)) rfl ?_
        refine TL.run (pr_pure rfl) rfl ?_
        refine TL.nil ?_
        exact TX.mid (s.drop (1 : Int).toNat) (by first | exact magS_T hc c13 | exact magS_F hc c13 | exact magS_N q9) ⟨rfl, rfl, rfl, trivial⟩ (fun w hw => hw)
      ·
        refine TC.skip ?_
        exact TX.mid s (by first | exact magS_T hc c13 | exact magS_F hc c13 | exact magS_N q9) ⟨rfl, rfl, rfl, trivial⟩ (fun w hw => hw)
    ·
      have q9 := of_ndec_false g9
      refine TL.gdN rfl rfl rfl rfl ?_
      refine TL.gdN rfl rfl rfl rfl ?_
      refine TL.gdN rfl rfl rfl rfl ?_
      refine TL.run (pr_pure rfl) rfl ?_
      refine TL.nil ?_
      refine TX.seqN ?_
      refine TC.condF rfl ?_
      refine TC.skip ?_
      exact TX.mid s (by first | exact magS_T hc c13 | exact magS_F hc c13 | exact magS_N q9) ⟨rfl, rfl, rfl, trivial⟩ (fun w hw => hw)
  ·
    intro d hI
    have hdd := hI
    have hdl : d.length ≤ s.length := by rw [hI]; exact magS_len s
    refine TC.seq ?_
    refine TC.sw (nuBad s d) 32 [(0, _), (2, _), (3, _)] ⟨rfl, rfl, rfl, trivial⟩ ?_ ?_
    ·
      refine TC.region ?_
      refine TL.run (pr_pure rfl) rfl ?_
      refine TL.run (pr_str rfl rfl rfl) rfl ?_
      refine TL.run (pr_pure rfl) rfl ?_
      refine TL.split (s := 18) rfl (fun g18 => ?_) (fun g18 => ?_)
      ·
        have q18 := of_decide_eq_true g18
        refine TL.gdN rfl rfl rfl rfl ?_
        refine TL.gdN rfl rfl rfl rfl ?_
        refine TL.gdN rfl rfl rfl rfl ?_
        refine TL.run (pr_pure rfl) rfl ?_
        refine TL.run (pr_pure rfl) rfl ?_
        refine TL.gdN rfl rfl rfl rfl ?_
        refine TL.gdN rfl rfl rfl rfl ?_
        refine TL.gdN rfl rfl rfl rfl ?_
        refine TL.gdN rfl rfl rfl rfl ?_
        refine TL.gdU rfl rfl rfl ?_
        refine TL.gdU rfl rfl rfl ?_
        refine TL.gdU rfl rfl rfl ?_
        refine TL.gdN rfl rfl rfl rfl ?_
        refine TL.run (pr_pure rfl) rfl ?_
        refine TL.nil ?_
        exact TX.sw rfl (by first | exact nb_1 g18 | exact nb_2 g18 g23 | exact nb_3 g18 g23 hc2 g27 | exact nb_4 g18 g23 hc2 g27) ⟨rfl, rfl, rfl, trivial⟩
      ·
        have q18 := of_decide_eq_false g18
        refine TL.gdY rfl rfl (pr_pure rfl) rfl ?_
        refine TL.gdY rfl rfl (pr_lenStr rfl rfl) rfl ?_
        refine TL.gdY rfl rfl (pr_pure rfl) rfl ?_
        refine TL.run (pr_pure rfl) rfl ?_
        refine TL.run (pr_pure rfl) rfl ?_
        refine TL.split (s := 23) rfl (fun g23 => ?_) (fun g23 => ?_)
        ·
          have q23 := of_decide_eq_true g23
          refine TL.gdN rfl rfl rfl rfl ?_
          refine TL.gdN rfl rfl rfl rfl ?_
          refine TL.gdN rfl rfl rfl rfl ?_
          refine TL.gdN rfl rfl rfl rfl ?_
          refine TL.gdU rfl rfl rfl ?_
          refine TL.gdU rfl rfl rfl ?_
          refine TL.gdU rfl rfl rfl ?_
          refine TL.gdN rfl rfl rfl rfl ?_
          refine TL.run (pr_pure rfl) rfl ?_
          refine TL.nil ?_
          exact TX.sw rfl (by first | exact nb_1 g18 | exact nb_2 g18 g23 | exact nb_3 g18 g23 hc2 g27 | exact nb_4 g18 g23 hc2 g27) ⟨rfl, rfl, rfl, trivial⟩
        ·
          have q23 := of_decide_eq_false g23
          have hd0 := nu_ne g18
          obtain ⟨c2, hc2⟩ := getSome (l := d) (i := 0) (by omega) (pos_of hd0)
          refine TL.gdY rfl rfl (pr_pure rfl) rfl ?_
          refine TL.gdY rfl rfl (pr_strIx rfl rfl (by omega) hc2) rfl ?_
          refine TL.gdY rfl rfl (pr_pure rfl) rfl ?_
          refine TL.gdY rfl rfl (pr_pure rfl) rfl ?_
          refine TL.split (s := 27) rfl (fun g27 => ?_) (fun g27 => ?_)
          ·
            have q27 := of_decide_eq_true g27
            refine TL.gdY rfl rfl (pr_pure rfl) rfl ?_
            refine TL.gdY rfl rfl (pr_lenStr rfl rfl) rfl ?_
            refine TL.gdY rfl rfl (pr_pure rfl) rfl ?_
            refine TL.gdY rfl rfl (pr_pure rfl) rfl ?_
            refine TL.run (pr_pure rfl) rfl ?_
            refine TL.nil ?_
            exact TX.sw rfl (by first | exact nb_1 g18 | exact nb_2 g18 g23 | exact nb_3 g18 g23 hc2 g27 | exact nb_4 g18 g23 hc2 g27) ⟨rfl, rfl, rfl, trivial⟩
          ·
            have q27 := of_decide_eq_false g27
            refine TL.gdN rfl rfl rfl rfl ?_
            refine TL.gdN rfl rfl rfl rfl ?_
            refine TL.gdN rfl rfl rfl rfl ?_
            refine TL.gdY rfl rfl (pr_pure rfl) rfl ?_
            refine TL.run (pr_pure rfl) rfl ?_
            refine TL.nil ?_
            exact TX.sw rfl (by first | exact nb_1 g18 | exact nb_2 g18 g23 | exact nb_3 g18 g23 hc2 g27 | exact nb_4 g18 g23 hc2 g27) ⟨rfl, rfl, rfl, trivial⟩
    refine TC.cond rfl (fun c32 => ?_) (fun c32 => ?_)
    ·
      refine TC.seq ?_
      refine TC.region ?_
      refine TL.run (pr_pure rfl) rfl ?_
      refine TL.nil ?_
      refine TX.seqN ?_
      refine TC.ret ?_
      refine TX.thenR ?_
      exact TX.finS (.inr rfl) (results1 rfl (RVal.tmp rfl)) (congrArg Value.bool (by first | exact (nu_bad hdd c32).symm | exact (nu_digit hdd hI.1.1 hx (by simpa using c43)).symm | exact nu_neg hdd hb1 hb2 hb3 hI.2 c36 hI.1.1 c56 | exact nu_pos hdd hb1 hb2 hb3 hI.2 c36 hI.1.1 c56))
    ·
      obtain ⟨hb1, hb2, hb3⟩ := nuBad_F c32
      refine TC.skip ?_
      refine TX.seqN ?_
      refine TC.seq ?_
      refine TC.region ?_
      refine TL.run (pr_pure rfl) rfl ?_
      refine TL.nil ?_
      refine TX.seqN ?_
      refine TC.seq ?_
      refine TC.seq ?_
      refine TC.region ?_
      refine TL.run (pr_pure rfl) rfl ?_
      refine TL.nil ?_
      refine TX.seqN ?_
      refine TC.block ?_
      refine TC.loop (V := fun (p : Nat × Int) => [(4, .int .u64 (p.1 : Int)), (5, .int .i64 p.2)]) (K := [(0, _), (2, _), (3, _)]) (L := fun (p : Nat × Int) => _) (I := fun (p : Nat × Int) => (0 ≤ p.2 ∧ p.2 ≤ d.length) ∧ NumI d p.1 p.2) (μ := fun (p : Nat × Int) => (d.length - p.2).toNat) (i := ((0 : Nat), (0 : Int))) ⟨rfl, rfl, rfl, rfl, rfl, trivial⟩ ⟨⟨by omega, by omega⟩, NumI.zero⟩ (fun w hw => hw) (fun (p : Nat × Int) hI => ?_)
      refine TC.seq ?_
      refine TC.seq ?_
      refine TC.region ?_
      refine TL.run (pr_pure rfl) rfl ?_
      refine TL.run (pr_pure rfl) rfl ?_
      refine TL.run (pr_lenStr rfl rfl) rfl ?_
      refine TL.run (pr_pure rfl) rfl ?_
      refine TL.nil ?_
      refine TX.seqN ?_
      refine TC.condD rfl (fun c36 => ?_) (fun c36 => ?_)
      ·
        obtain ⟨x, hx⟩ := getSome (l := d) hI.1.1 c36
        have hnl := hI.2.lt (by omega)
        have hxl := ix_lt hx
        refine TC.skip ?_
        refine TX.seqN ?_
        refine TC.seq ?_
        refine TC.block ?_
        refine TC.seq ?_
        refine TC.seq ?_
        refine TC.region ?_
        refine TL.run (pr_pure rfl) rfl ?_
        refine TL.run (pr_pure rfl) rfl ?_
        refine TL.run (pr_strIx rfl rfl (by omega) hx) rfl ?_
        refine TL.callS (enters rfl rfl rfl rfl) (r_digit_ok x) rfl ?_
        refine TL.run (pr_pure rfl) rfl ?_
        refine TL.nil ?_
        refine TX.seqN ?_
        refine TC.cond rfl (fun c43 => ?_) (fun c43 => ?_)
        ·
          refine TC.seq ?_
          refine TC.region ?_
          refine TL.run (pr_pure rfl) rfl ?_
          refine TL.nil ?_
          refine TX.seqN ?_
          refine TC.ret ?_
          refine TX.thenR ?_
          refine TX.blkR ?_
          refine TX.thenR ?_
          refine TX.thenR ?_
          refine TX.blkR ?_
          refine TX.thenR ?_
          exact TX.finS (.inr rfl) (results1 rfl (RVal.tmp rfl)) (congrArg Value.bool (by first | exact (nu_bad hdd c32).symm | exact (nu_digit hdd hI.1.1 hx (by simpa using c43)).symm | exact nu_neg hdd hb1 hb2 hb3 hI.2 c36 hI.1.1 c56 | exact nu_pos hdd hb1 hb2 hb3 hI.2 c36 hI.1.1 c56))
        ·
          have hxd : digitB x = true := by simpa using c43
          have hxr := digit_nat hxd
          have hx48 := sub48 hxd
          refine TC.skip ?_
          refine TX.seqN ?_
          refine TC.region ?_
          refine TL.run (pr_pure rfl) rfl ?_
          refine TL.run (PR.to (pr_pure rfl) (congrArg (Value.int .u64) (u64_in (n := (p.1 : Int) * 10) (by omega) (by omega)))) rfl ?_
          refine TL.run (pr_pure rfl) rfl ?_
          refine TL.run (pr_pure rfl) rfl ?_
          refine TL.run (pr_strIx rfl rfl (by omega) hx) rfl ?_
          refine TL.run (PR.to (pr_pure rfl) (congrArg (Value.int .u8) (u8_wrap_sub x 48))) rfl ?_
          refine TL.run (PR.to (pr_conv rfl) (congrArg (Value.int .u64) (u64_in (by omega) (by omega)))) rfl ?_
          refine TL.run (PR.to (pr_pure rfl) (congrArg (Value.int .u64) (u64_step hxd (by omega)))) rfl ?_
          refine TL.run (pr_pure rfl) rfl ?_
          refine TL.nil ?_
          refine TX.blkN ?_
          refine TX.seqN ?_
          refine TC.region ?_
          refine TL.run (pr_pure rfl) rfl ?_
          refine TL.run ((by first | exact pr_add rfl rfl (by omega) (by omega) | exact pr_pure rfl)) rfl ?_
          refine TL.run (pr_pure rfl) rfl ?_
          refine TL.nil ?_
          exact TX.round (stepN p.1 x, p.2 + 1) ⟨by omega, hI.2.next hI.1.1 hx hxd⟩ ⟨rfl, rfl, rfl, rfl, rfl, trivial⟩ (fun w hw => hw) (by omega)
      ·
        refine TC.exit ?_
        refine TX.thenE ?_
        refine TX.thenE ?_
        refine TX.blkHit ?_
        refine TX.seqN ?_
        refine TC.seq ?_
        refine TC.seq ?_
        refine TC.region ?_
        refine TL.run (pr_pure rfl) rfl ?_
        refine TL.run (pr_lenStr rfl rfl) rfl ?_
        refine TL.run (pr_pure rfl) rfl ?_
        refine TL.run (pr_lenStr rfl rfl) rfl ?_
        refine TL.run (pr_pure rfl) rfl ?_
        refine TL.nil ?_
        refine TX.seqN ?_
        refine TC.condD rfl (fun c56 => ?_) (fun c56 => ?_)
        ·
          refine TC.seq ?_
          refine TC.region ?_
          refine TL.run (pr_pure rfl) rfl ?_
          refine TL.run (pr_pure rfl) rfl ?_
          refine TL.run (pr_pure rfl) rfl ?_
          refine TL.nil ?_
          refine TX.seqN ?_
          refine TC.ret ?_
          refine TX.thenR ?_
          exact TX.finS (.inr rfl) (results1 rfl (RVal.tmp rfl)) (congrArg Value.bool (by first | exact (nu_bad hdd c32).symm | exact (nu_digit hdd hI.1.1 hx (by simpa using c43)).symm | exact nu_neg hdd hb1 hb2 hb3 hI.2 c36 hI.1.1 c56 | exact nu_pos hdd hb1 hb2 hb3 hI.2 c36 hI.1.1 c56))
        ·
          refine TC.skip ?_
          refine TX.seqN ?_
          refine TC.seq ?_
          refine TC.region ?_
          refine TL.run (pr_pure rfl) rfl ?_
          refine TL.run (pr_pure rfl) rfl ?_
          refine TL.run (pr_pure rfl) rfl ?_
          refine TL.nil ?_
          refine TX.seqN ?_
          refine TC.ret ?_
          exact TX.finS (.inr rfl) (results1 rfl (RVal.tmp rfl)) (congrArg Value.bool (by first | exact (nu_bad hdd c32).symm | exact (nu_digit hdd hI.1.1 hx (by simpa using c43)).symm | exact nu_neg hdd hb1 hb2 hb3 hI.2 c36 hI.1.1 c56 | exact nu_pos hdd hb1 hb2 hb3 hI.2 c36 hI.1.1 c56))

set_option maxRecDepth 100000 in
set_option maxHeartbeats 4000000 in
theorem r_quote_ok {H : Hp} (s : Str) (at_ : Int) (h0 : 0 ≤ at_) (h1 : at_ < s.length) (hmax : s.length ≤ 140737488355328) :
    FnS Tryd.prog 46 [gs s, .int .i64 at_] H (quoteV s (quoteL (s.drop (at_ + 1).toNat))) := by
  refine FnS.enter Tryd.func46 Tryd.ntmps46 rfl rfl (fun w0 => ?_)
  refine TC.seq ?_
  refine TC.region ?_
  refine TL.run (pr_pure rfl) rfl ?_
  refine TL.run (pr_pure rfl) rfl ?_
  refine TL.run (pr_pure rfl) rfl ?_
  refine TL.nil ?_
  refine TX.seqN ?_
  refine TC.seq ?_
  refine TC.region ?_
  refine TL.run (pr_pure rfl) rfl ?_
  refine TL.nil ?_
  refine TX.seqN ?_
  refine TC.seq ?_
  refine TC.region ?_
  refine TL.run (pr_pure rfl) rfl ?_
  refine TL.run ((by first | exact pr_add rfl rfl (by omega) (by omega) | exact pr_pure rfl)) rfl ?_
  refine TL.run (pr_pure rfl) rfl ?_
  refine TL.nil ?_
  refine TX.seqN ?_
  refine TC.seq ?_
  refine TC.block ?_
  refine TC.loop4 (V := fun k v ob H1 => [(8, .int .i64 k), (7, v)]) (K := [(0, _), (4, _), (5, _), (6, _)]) (L := fun k v ob H1 => St [] w0 H H ob) (I := fun k v ob H1 => (at_ + 1 ≤ k ∧ k ≤ s.length) ∧ ∃ o : Str, OwnSl 1 U8.cells v o ob ∧ (quoteL (s.drop (at_ + 1).toNat)) = pre o (quoteL (s.drop k.toNat)) ∧ (o.length : Int) ≤ k) (μ := fun k => (s.length - k).toNat) (at_ + 1) (.slice none 0 0) [] H ⟨rfl, rfl, rfl, rfl, rfl, rfl, trivial⟩ ⟨⟨by omega, by omega⟩, [], OwnSl.nil, by cases quoteL (s.drop (at_ + 1).toNat) <;> rfl, by simp; omega⟩ (fun w hw => hw) (fun k v ob H1 hI => ?_)
  obtain ⟨⟨k0, k1⟩, o, hO, hq, hol⟩ := hI
  obtain ⟨va, vc, rfl⟩ := hO.form
  refine TC.seq ?_
  refine TC.seq ?_
  refine TC.region ?_
  refine TL.run (pr_pure rfl) rfl ?_
  refine TL.run (pr_pure rfl) rfl ?_
  refine TL.run (pr_lenStr rfl rfl) rfl ?_
  refine TL.run (pr_pure rfl) rfl ?_
  refine TL.nil ?_
  refine TX.seqN ?_
  refine TC.condD rfl (fun c15 => ?_) (fun c15 => ?_)
  ·
    obtain ⟨c, hc⟩ := getSome (l := s) (i := k) (by omega) c15
    refine TC.skip ?_
    refine TX.seqN ?_
    refine TC.block ?_
    refine TC.seq ?_
    refine TC.region ?_
    refine TL.run (pr_pure rfl) rfl ?_
    refine TL.run (pr_pure rfl) rfl ?_
    refine TL.run (pr_strIx rfl rfl (by omega) hc) rfl ?_
    refine TL.run (pr_pure rfl) rfl ?_
    refine TL.nil ?_
    refine TX.seqN ?_
    refine TC.seq ?_
    refine TC.block ?_
    refine TC.seq ?_
    refine TC.region ?_
    refine TL.run (pr_pure rfl) rfl ?_
    refine TL.run (pr_pure rfl) rfl ?_
    refine TL.run (pr_pure rfl) rfl ?_
    refine TL.nil ?_
    refine TX.seqN ?_
    refine TC.condD rfl (fun c19 => ?_) (fun c19 => ?_)
    ·
      refine TC.seq ?_
      refine TC.region ?_
      refine TL.run (pr_pure rfl) rfl ?_
      refine TL.run (pr_bytes rfl hO .all) rfl ?_
      refine TL.run (pr_pure rfl) rfl ?_
      refine TL.run ((by first | exact pr_add rfl rfl (by omega) (by omega) | exact pr_pure rfl)) rfl ?_
      refine TL.run (pr_pure rfl) rfl ?_
      refine TL.run (pr_pure rfl) rfl ?_
      refine TL.run (pr_pure rfl) rfl ?_
      refine TL.nil ?_
      refine TX.seqN ?_
      refine TC.ret ?_
      refine TX.blkR ?_
      refine TX.thenR ?_
      refine TX.blkR ?_
      refine TX.thenR ?_
      refine TX.blkR ?_
      refine TX.thenR ?_
      exact TX.finS (.inr rfl) (results3 rfl (RVal.tmp rfl) (RVal.tmp rfl) (RVal.tmp rfl)) (q_end (by omega) hc c19 hq)
    ·
      refine TC.sw (!plainB c) 26 [(0, _), (4, _), (5, _), (6, _), (7, _), (8, _), (9, _), (12, _), (13, _), (14, _), (15, _), (16, _), (17, _), (18, _), (19, _), (20, _), (21, _)] ⟨rfl, rfl, rfl, rfl, rfl, rfl, rfl, rfl, rfl, rfl, rfl, rfl, rfl, rfl, rfl, rfl, rfl, trivial⟩ ?_ ?_
      ·
        refine TC.region ?_
        refine TL.run (pr_pure rfl) rfl ?_
        refine TL.run (pr_pure rfl) rfl ?_
        refine TL.run (pr_pure rfl) rfl ?_
        refine TL.split (s := 29) rfl (fun g29 => ?_) (fun g29 => ?_)
        ·
          have q29 := of_decide_eq_true g29
          refine TL.gdN rfl rfl rfl rfl ?_
          refine TL.gdN rfl rfl rfl rfl ?_
          refine TL.run (pr_pure rfl) rfl ?_
          refine TL.run (pr_pure rfl) rfl ?_
          refine TL.nil ?_
          exact TX.sw rfl (by first | exact plain_1 g29 | exact plain_2 g29) ⟨rfl, rfl, rfl, rfl, rfl, rfl, rfl, rfl, rfl, rfl, rfl, rfl, rfl, rfl, rfl, rfl, rfl, trivial⟩
        ·
          have q29 := of_decide_eq_false g29
          refine TL.gdY rfl rfl (pr_pure rfl) rfl ?_
          refine TL.gdY rfl rfl (pr_pure rfl) rfl ?_
          refine TL.run (pr_pure rfl) rfl ?_
          refine TL.run (pr_pure rfl) rfl ?_
          refine TL.nil ?_
          exact TX.sw rfl (by first | exact plain_1 g29 | exact plain_2 g29) ⟨rfl, rfl, rfl, rfl, rfl, rfl, rfl, rfl, rfl, rfl, rfl, rfl, rfl, rfl, rfl, rfl, rfl, trivial⟩
      refine TC.cond rfl (fun c26 => ?_) (fun c26 => ?_)
      ·
        refine TC.seq ?_
        refine TC.region ?_
        refine TL.run (pr_pure rfl) rfl ?_
        refine TL.run (pr_pure rfl) rfl ?_
        refine TL.run (pr_pure rfl) rfl ?_
        refine TL.nil ?_
        refine TX.seqN ?_
        refine TC.ret ?_
        refine TX.blkR ?_
        refine TX.thenR ?_
        refine TX.blkR ?_
        refine TX.thenR ?_
        refine TX.blkR ?_
        refine TX.thenR ?_
        exact TX.finS (.inr rfl) (results3 rfl (RVal.tmp rfl) (RVal.tmp rfl) (RVal.tmp rfl)) (q_none (by first | exact q_out c15 hq | exact q_badc2 (by omega) hc c19 c26 hq | exact q_short (by omega) hc c33 c46 hq | exact q_bad3 (by omega) hc c33 he c51 c63 c70 hq | exact q_x3 (by omega) hc c33 he c70 q77 hq | exact q_x4 (by omega) hc c33 he c70 ha hb2 (.inl (of_decide_eq_true g85)) hq | exact q_x4 (by omega) hc c33 he c70 ha hb2 (.inr c92) hq))
      ·
        refine TC.seq ?_
        refine TC.region ?_
        refine TL.run (pr_pure rfl) rfl ?_
        refine TL.run (pr_pure rfl) rfl ?_
        refine TL.run (pr_pure rfl) rfl ?_
        refine TL.nil ?_
        refine TX.seqN ?_
        refine TC.condND rfl (fun c33 => ?_) (fun c33 => ?_)
        ·
          refine TC.seq ?_
          refine TC.region ?_
          refine TL.run (pr_pure rfl) rfl ?_
          refine TL.run (pr_pure rfl) rfl ?_
          refine TL.bslice rfl rfl rfl rfl (fun b38 => ?_)
          refine TL.append (enc := U8.cells) rfl rfl rfl hO (Src.own [c] (.here _) rfl rfl) (by simp; omega) rfl (.skip _ .all) rfl (fun a39 c39 ob39 hO39 => ?_)
          refine TL.run (pr_pure rfl) rfl ?_
          refine TL.nil ?_
          refine TX.seqN ?_
          refine TC.seq ?_
          refine TC.region ?_
          refine TL.run (pr_pure rfl) rfl ?_
          refine TL.run ((by first | exact pr_add rfl rfl (by omega) (by omega) | exact pr_pure rfl)) rfl ?_
          refine TL.run (pr_pure rfl) rfl ?_
          refine TL.nil ?_
          refine TX.seqN ?_
          refine TC.exit ?_
          refine TX.blkMiss rfl ?_
          refine TX.thenE ?_
          refine TX.blkHit ?_
          exact TX.round4 (k + 1) _ ob39 H1 ⟨⟨by omega, by omega⟩, _, hO39, q_plain (by omega) hc c19 c33 c26 hq, by simp; omega⟩ ⟨rfl, rfl, rfl, rfl, rfl, rfl, trivial⟩ (fun w hw => hw.drop) (by omega)
        ·
          refine TC.skip ?_
          refine TX.blkN ?_
          refine TX.seqN ?_
          refine TC.seq ?_
          refine TC.seq ?_
          refine TC.region ?_
          refine TL.run (pr_pure rfl) rfl ?_
          refine TL.run ((by first | exact pr_add rfl rfl (by omega) (by omega) | exact pr_pure rfl)) rfl ?_
          refine TL.run (pr_pure rfl) rfl ?_
          refine TL.run (pr_lenStr rfl rfl) rfl ?_
          refine TL.run (pr_pure rfl) rfl ?_
          refine TL.nil ?_
          refine TX.seqN ?_
          refine TC.condD rfl (fun c46 => ?_) (fun c46 => ?_)
          ·
            refine TC.seq ?_
            refine TC.region ?_
            refine TL.run (pr_pure rfl) rfl ?_
            refine TL.run (pr_pure rfl) rfl ?_
            refine TL.run (pr_pure rfl) rfl ?_
            refine TL.nil ?_
            refine TX.seqN ?_
            refine TC.ret ?_
            refine TX.thenR ?_
            refine TX.blkR ?_
            refine TX.thenR ?_
            refine TX.blkR ?_
            refine TX.thenR ?_
            exact TX.finS (.inr rfl) (results3 rfl (RVal.tmp rfl) (RVal.tmp rfl) (RVal.tmp rfl)) (q_none (by first | exact q_out c15 hq | exact q_badc2 (by omega) hc c19 c26 hq | exact q_short (by omega) hc c33 c46 hq | exact q_bad3 (by omega) hc c33 he c51 c63 c70 hq | exact q_x3 (by omega) hc c33 he c70 q77 hq | exact q_x4 (by omega) hc c33 he c70 ha hb2 (.inl (of_decide_eq_true g85)) hq | exact q_x4 (by omega) hc c33 he c70 ha hb2 (.inr c92) hq))
          ·
            obtain ⟨e, he⟩ := getSome (l := s) (i := k + 1) (by omega) (by omega)
            have hel := ix_lt he
            refine TC.skip ?_
            refine TX.seqN ?_
            refine TC.seq ?_
            refine TC.region ?_
            refine TL.run (pr_pure rfl) rfl ?_
            refine TL.run (pr_pure rfl) rfl ?_
            refine TL.run ((by first | exact pr_add rfl rfl (by omega) (by omega) | exact pr_pure rfl)) rfl ?_
            refine TL.run (pr_strIx rfl rfl (by omega) he) rfl ?_
            refine TL.nil ?_
            refine TX.seqN ?_
            refine TC.block ?_
            refine TC.sw (decide ((e.toNat : Int) = 34) || decide ((e.toNat : Int) = 92)) 51 [(0, _), (4, _), (5, _), (6, _), (7, _), (8, _), (9, _), (12, _), (13, _), (14, _), (15, _), (16, _), (17, _), (18, _), (19, _), (20, _), (21, _), (26, _), (33, _), (34, _), (35, _), (42, _), (43, _), (44, _), (45, _), (46, _), (47, _), (48, _), (49, _), (50, _)] ⟨rfl, rfl, rfl, rfl, rfl, rfl, rfl, rfl, rfl, rfl, rfl, rfl, rfl, rfl, rfl, rfl, rfl, rfl, rfl, rfl, rfl, rfl, rfl, rfl, rfl, rfl, rfl, rfl, rfl, rfl, trivial⟩ ?_ ?_
            ·
              refine TC.swG (pr_pure rfl) rfl rfl ⟨rfl, rfl, rfl, rfl, rfl, rfl, rfl, rfl, rfl, rfl, rfl, rfl, rfl, rfl, rfl, rfl, rfl, rfl, rfl, rfl, rfl, rfl, rfl, rfl, rfl, rfl, rfl, rfl, rfl, rfl, trivial⟩ ?_
              exact TC.swE (pr_pure rfl) rfl rfl ⟨rfl, rfl, rfl, rfl, rfl, rfl, rfl, rfl, rfl, rfl, rfl, rfl, rfl, rfl, rfl, rfl, rfl, rfl, rfl, rfl, rfl, rfl, rfl, rfl, rfl, rfl, rfl, rfl, rfl, rfl, trivial⟩
            refine TC.cond rfl (fun c51 => ?_) (fun c51 => ?_)
            ·
              refine TC.seq ?_
              refine TC.region ?_
              refine TL.run (pr_pure rfl) rfl ?_
              refine TL.run (pr_pure rfl) rfl ?_
              refine TL.run (pr_pure rfl) rfl ?_
              refine TL.run ((by first | exact pr_add rfl rfl (by omega) (by omega) | exact pr_pure rfl)) rfl ?_
              refine TL.run (pr_strIx rfl rfl (by omega) he) rfl ?_
              refine TL.bslice rfl rfl rfl rfl (fun b59 => ?_)
              refine TL.append (enc := U8.cells) rfl rfl rfl hO (Src.own [e] (.here _) rfl rfl) (by simp; omega) rfl (.skip _ .all) rfl (fun a60 c60 ob60 hO60 => ?_)
              refine TL.run (pr_pure rfl) rfl ?_
              refine TL.nil ?_
              refine TX.seqN ?_
              refine TC.region ?_
              refine TL.run (pr_pure rfl) rfl ?_
              refine TL.run ((by first | exact pr_add rfl rfl (by omega) (by omega) | exact pr_pure rfl)) rfl ?_
              refine TL.run (pr_pure rfl) rfl ?_
              refine TL.nil ?_
              refine TX.blkN ?_
              refine TX.blkN ?_
              exact TX.round4 (k + 2) _ ob60 H1 ⟨⟨by omega, by omega⟩, _, hO60, q_esc2 (by omega) hc c33 he (two_or c51) hq, by simp; omega⟩ ⟨rfl, rfl, rfl, rfl, rfl, rfl, trivial⟩ (fun w hw => hw.drop) (by omega)
            ·
              refine TC.seq ?_
              refine TC.region ?_
              refine TL.run (pr_pure rfl) rfl ?_
              refine TL.run (pr_pure rfl) rfl ?_
              refine TL.nil ?_
              refine TX.seqN ?_
              refine TC.condD rfl (fun c63 => ?_) (fun c63 => ?_)
              ·
                refine TC.seq ?_
                refine TC.region ?_
                refine TL.run (pr_pure rfl) rfl ?_
                refine TL.bslice rfl rfl rfl rfl (fun b66 => ?_)
                refine TL.append (enc := U8.cells) rfl rfl rfl hO (Src.own [10] (.here _) rfl rfl) (by simp; omega) rfl (.skip _ .all) rfl (fun a67 c67 ob67 hO67 => ?_)
                refine TL.run (pr_pure rfl) rfl ?_
                refine TL.nil ?_
                refine TX.seqN ?_
                refine TC.region ?_
                refine TL.run (pr_pure rfl) rfl ?_
                refine TL.run ((by first | exact pr_add rfl rfl (by omega) (by omega) | exact pr_pure rfl)) rfl ?_
                refine TL.run (pr_pure rfl) rfl ?_
                refine TL.nil ?_
                refine TX.blkN ?_
                refine TX.blkN ?_
                exact TX.round4 (k + 2) _ ob67 H1 ⟨⟨by omega, by omega⟩, _, hO67, q_n2 (by omega) hc c33 he c63 hq, by simp; omega⟩ ⟨rfl, rfl, rfl, rfl, rfl, rfl, trivial⟩ (fun w hw => hw.drop) (by omega)
              ·
                refine TC.seq ?_
                refine TC.region ?_
                refine TL.run (pr_pure rfl) rfl ?_
                refine TL.run (pr_pure rfl) rfl ?_
                refine TL.nil ?_
                refine TX.seqN ?_
                refine TC.condD rfl (fun c70 => ?_) (fun c70 => ?_)
                ·
                  refine TC.seq ?_
                  refine TC.seq ?_
                  refine TC.region ?_
                  refine TL.run (pr_pure rfl) rfl ?_
                  refine TL.run ((by first | exact pr_add rfl rfl (by omega) (by omega) | exact pr_pure rfl)) rfl ?_
                  refine TL.run (pr_pure rfl) rfl ?_
                  refine TL.run (pr_lenStr rfl rfl) rfl ?_
                  refine TL.run (pr_pure rfl) rfl ?_
                  refine TL.run (pr_pure rfl) rfl ?_
                  refine TL.split (s := 77) rfl (fun g77 => ?_) (fun g77 => ?_)
                  ·
                    have q77 := of_decide_eq_true g77
                    refine TL.gdN rfl rfl rfl rfl ?_
                    refine TL.gdN rfl rfl rfl rfl ?_
                    refine TL.gdN rfl rfl rfl rfl ?_
                    refine TL.gdN rfl rfl rfl rfl ?_
                    refine TL.gdN rfl rfl rfl rfl ?_
                    refine TL.gdN rfl rfl rfl rfl ?_
                    refine TL.run (pr_pure rfl) rfl ?_
                    refine TL.run (pr_pure rfl) rfl ?_
                    refine TL.gdN rfl rfl rfl rfl ?_
                    refine TL.gdN rfl rfl rfl rfl ?_
                    refine TL.gdN rfl rfl rfl rfl ?_
                    refine TL.gdN rfl rfl rfl rfl ?_
                    refine TL.gdN rfl rfl rfl rfl ?_
                    refine TL.gdN rfl rfl rfl rfl ?_
                    refine TL.run (pr_pure rfl) rfl ?_
                    refine TL.nil ?_
                    refine TX.seqN ?_
                    refine TC.condT rfl ?_
                    refine TC.seq ?_
                    refine TC.region ?_
                    refine TL.run (pr_pure rfl) rfl ?_
                    refine TL.run (pr_pure rfl) rfl ?_
                    refine TL.run (pr_pure rfl) rfl ?_
                    refine TL.nil ?_
                    refine TX.seqN ?_
                    refine TC.ret ?_
                    refine TX.thenR ?_
                    refine TX.blkR ?_
                    refine TX.blkR ?_
                    refine TX.thenR ?_
                    refine TX.blkR ?_
                    refine TX.thenR ?_
                    exact TX.finS (.inr rfl) (results3 rfl (RVal.tmp rfl) (RVal.tmp rfl) (RVal.tmp rfl)) (q_none (by first | exact q_out c15 hq | exact q_badc2 (by omega) hc c19 c26 hq | exact q_short (by omega) hc c33 c46 hq | exact q_bad3 (by omega) hc c33 he c51 c63 c70 hq | exact q_x3 (by omega) hc c33 he c70 q77 hq | exact q_x4 (by omega) hc c33 he c70 ha hb2 (.inl (of_decide_eq_true g85)) hq | exact q_x4 (by omega) hc c33 he c70 ha hb2 (.inr c92) hq))
                  ·
                    have q77 := of_decide_eq_false g77
                    obtain ⟨a, ha⟩ := getSome (l := s) (i := k + 2) (by omega) (by omega)
                    obtain ⟨b, hb2⟩ := getSome (l := s) (i := k + 3) (by omega) (by omega)
                    have hbl := ix_lt hb2
                    refine TL.gdY rfl rfl (pr_pure rfl) rfl ?_
                    refine TL.gdY rfl rfl (pr_pure rfl) rfl ?_
                    refine TL.gdY rfl rfl ((by first | exact pr_add rfl rfl (by omega) (by omega) | exact pr_pure rfl)) rfl ?_
                    refine TL.gdY rfl rfl (pr_strIx rfl rfl (by omega) ha) rfl ?_
                    refine TL.callSY rfl rfl (enters rfl rfl rfl rfl) (r_hex_ok a) rfl ?_
                    refine TL.gdY rfl rfl (pr_pure rfl) rfl ?_
                    refine TL.run (pr_pure rfl) rfl ?_
                    refine TL.run (pr_pure rfl) rfl ?_
                    refine TL.split (s := 85) rfl (fun g85 => ?_) (fun g85 => ?_)
                    ·
                      have q85 := of_decide_eq_true g85
                      refine TL.gdN rfl rfl rfl rfl ?_
                      refine TL.gdN rfl rfl rfl rfl ?_
                      refine TL.gdN rfl rfl rfl rfl ?_
                      refine TL.gdN rfl rfl rfl rfl ?_
                      refine TL.gdN rfl rfl rfl rfl ?_
                      refine TL.gdN rfl rfl rfl rfl ?_
                      refine TL.run (pr_pure rfl) rfl ?_
                      refine TL.nil ?_
                      refine TX.seqN ?_
                      refine TC.condT rfl ?_
                      refine TC.seq ?_
                      refine TC.region ?_
                      refine TL.run (pr_pure rfl) rfl ?_
                      refine TL.run (pr_pure rfl) rfl ?_
                      refine TL.run (pr_pure rfl) rfl ?_
                      refine TL.nil ?_
                      refine TX.seqN ?_
                      refine TC.ret ?_
                      refine TX.thenR ?_
                      refine TX.blkR ?_
                      refine TX.blkR ?_
                      refine TX.thenR ?_
                      refine TX.blkR ?_
                      refine TX.thenR ?_
                      exact TX.finS (.inr rfl) (results3 rfl (RVal.tmp rfl) (RVal.tmp rfl) (RVal.tmp rfl)) (q_none (by first | exact q_out c15 hq | exact q_badc2 (by omega) hc c19 c26 hq | exact q_short (by omega) hc c33 c46 hq | exact q_bad3 (by omega) hc c33 he c51 c63 c70 hq | exact q_x3 (by omega) hc c33 he c70 q77 hq | exact q_x4 (by omega) hc c33 he c70 ha hb2 (.inl (of_decide_eq_true g85)) hq | exact q_x4 (by omega) hc c33 he c70 ha hb2 (.inr c92) hq))
                    ·
                      have q85 := of_decide_eq_false g85
                      refine TL.gdY rfl rfl (pr_pure rfl) rfl ?_
                      refine TL.gdY rfl rfl (pr_pure rfl) rfl ?_
                      refine TL.gdY rfl rfl ((by first | exact pr_add rfl rfl (by omega) (by omega) | exact pr_pure rfl)) rfl ?_
                      refine TL.gdY rfl rfl (pr_strIx rfl rfl (by omega) hb2) rfl ?_
                      refine TL.callSY rfl rfl (enters rfl rfl rfl rfl) (r_hex_ok b) rfl ?_
                      refine TL.gdY rfl rfl (pr_pure rfl) rfl ?_
                      refine TL.run (pr_pure rfl) rfl ?_
                      refine TL.nil ?_
                      refine TX.seqN ?_
                      refine TC.condD rfl (fun c92 => ?_) (fun c92 => ?_)
                      ·
                        refine TC.seq ?_
                        refine TC.region ?_
                        refine TL.run (pr_pure rfl) rfl ?_
                        refine TL.run (pr_pure rfl) rfl ?_
                        refine TL.run (pr_pure rfl) rfl ?_
                        refine TL.nil ?_
                        refine TX.seqN ?_
                        refine TC.ret ?_
                        refine TX.thenR ?_
                        refine TX.blkR ?_
                        refine TX.blkR ?_
                        refine TX.thenR ?_
                        refine TX.blkR ?_
                        refine TX.thenR ?_
                        exact TX.finS (.inr rfl) (results3 rfl (RVal.tmp rfl) (RVal.tmp rfl) (RVal.tmp rfl)) (q_none (by first | exact q_out c15 hq | exact q_badc2 (by omega) hc c19 c26 hq | exact q_short (by omega) hc c33 c46 hq | exact q_bad3 (by omega) hc c33 he c51 c63 c70 hq | exact q_x3 (by omega) hc c33 he c70 q77 hq | exact q_x4 (by omega) hc c33 he c70 ha hb2 (.inl (of_decide_eq_true g85)) hq | exact q_x4 (by omega) hc c33 he c70 ha hb2 (.inr c92) hq))
                      ·
                        have hxx := hex_both (of_decide_eq_false g85) c92
                        have hxa := hexI_ok hxx.1
                        have hxb := hexI_ok hxx.2
                        refine TC.skip ?_
                        refine TX.seqN ?_
                        refine TC.seq ?_
                        refine TC.drawn (by kernel_rfl) (by kernel_rfl) ?_
                        refine TD.leaf [(0, 1), (1, 1), (2, 1), (3, 1), (4, 1), (7, 1), (8, 1), (9, 1), (10, 1), (5, 3), (6, 1), (11, 3), (12, 1), (13, 1), (14, 3), (15, 0), (16, 1)] (by kernel_rfl) (by kernel_rfl) ?_
                        refine TF.pure (pr_pure rfl) rfl ?_
                        refine TF.pure (pr_pure rfl) rfl ?_
                        refine TF.pure (pr_pure rfl) rfl ?_
                        refine TF.pure ((by first | exact pr_add rfl rfl (by omega) (by omega) | exact pr_pure rfl)) rfl ?_
                        refine TF.pure (pr_strIx rfl rfl (by omega) ha) rfl ?_
                        refine TF.pure (pr_pure rfl) rfl ?_
                        refine TF.pure (pr_pure rfl) rfl ?_
                        refine TF.pure ((by first | exact pr_add rfl rfl (by omega) (by omega) | exact pr_pure rfl)) rfl ?_
                        refine TF.pure (pr_strIx rfl rfl (by omega) hb2) rfl ?_
                        refine TF.callS (enters rfl rfl rfl rfl) (r_hex_ok a) rfl ?_
                        refine TF.pure ((by first | exact pr_mul rfl rfl (by omega) (by omega) | exact pr_pure rfl)) rfl ?_
                        refine TF.callS (enters rfl rfl rfl rfl) (r_hex_ok b) rfl ?_
                        refine TF.pure ((by first | exact pr_add rfl rfl (by omega) (by omega) | exact pr_pure rfl)) rfl ?_
                        refine TF.pure (PR.to (pr_conv rfl) (congrArg (Value.int .u8) (hex_byte hxx.1 hxx.2))) rfl ?_
                        refine TF.bslice rfl rfl rfl rfl (fun b107 => ?_)
                        refine TF.loud ?_
                        refine TL.append (enc := U8.cells) rfl rfl rfl hO (Src.own [(16 * worthB a + worthB b)] (.here _) rfl rfl) (by simp; omega) rfl (.skip _ .all) rfl (fun a108 c108 ob108 hO108 => ?_)
                        refine TF.back ?_
                        refine TF.pure (pr_pure rfl) rfl ?_
                        refine TF.nil ?_
                        refine TX.seqN ?_
                        refine TC.region ?_
                        refine TL.run (pr_pure rfl) rfl ?_
                        refine TL.run ((by first | exact pr_add rfl rfl (by omega) (by omega) | exact pr_pure rfl)) rfl ?_
                        refine TL.run (pr_pure rfl) rfl ?_
                        refine TL.nil ?_
                        refine TX.blkN ?_
                        refine TX.blkN ?_
                        exact TX.round4 (k + 4) _ ob108 H1 ⟨⟨by omega, by omega⟩, _, hO108, q_x2 (by omega) hc c33 he c70 ha hb2 hxx.1 hxx.2 hq, by simp; omega⟩ ⟨rfl, rfl, rfl, rfl, rfl, rfl, trivial⟩ (fun w hw => hw.drop) (by omega)
                ·
                  refine TC.seq ?_
                  refine TC.region ?_
                  refine TL.run (pr_pure rfl) rfl ?_
                  refine TL.run (pr_pure rfl) rfl ?_
                  refine TL.run (pr_pure rfl) rfl ?_
                  refine TL.nil ?_
                  refine TX.seqN ?_
                  refine TC.ret ?_
                  refine TX.blkR ?_
                  refine TX.blkR ?_
                  refine TX.thenR ?_
                  refine TX.blkR ?_
                  refine TX.thenR ?_
                  exact TX.finS (.inr rfl) (results3 rfl (RVal.tmp rfl) (RVal.tmp rfl) (RVal.tmp rfl)) (q_none (by first | exact q_out c15 hq | exact q_badc2 (by omega) hc c19 c26 hq | exact q_short (by omega) hc c33 c46 hq | exact q_bad3 (by omega) hc c33 he c51 c63 c70 hq | exact q_x3 (by omega) hc c33 he c70 q77 hq | exact q_x4 (by omega) hc c33 he c70 ha hb2 (.inl (of_decide_eq_true g85)) hq | exact q_x4 (by omega) hc c33 he c70 ha hb2 (.inr c92) hq))
  ·
    refine TC.exit ?_
    refine TX.thenE ?_
    refine TX.thenE ?_
    refine TX.blkHit ?_
    refine TX.seqN ?_
    refine TC.seq ?_
    refine TC.region ?_
    refine TL.run (pr_pure rfl) rfl ?_
    refine TL.run (pr_pure rfl) rfl ?_
    refine TL.run (pr_pure rfl) rfl ?_
    refine TL.nil ?_
    refine TX.seqN ?_
    refine TC.ret ?_
    exact TX.finS (.inr rfl) (results3 rfl (RVal.tmp rfl) (RVal.tmp rfl) (RVal.tmp rfl)) (q_none (by first | exact q_out c15 hq | exact q_badc2 (by omega) hc c19 c26 hq | exact q_short (by omega) hc c33 c46 hq | exact q_bad3 (by omega) hc c33 he c51 c63 c70 hq | exact q_x3 (by omega) hc c33 he c70 q77 hq | exact q_x4 (by omega) hc c33 he c70 ha hb2 (.inl (of_decide_eq_true g85)) hq | exact q_x4 (by omega) hc c33 he c70 ha hb2 (.inr c92) hq))

set_option maxRecDepth 100000 in
set_option maxHeartbeats 4000000 in
theorem r_token_ok {H : Hp} (s : Str) (at_ : Int) (w : Bool) (h0 : 0 ≤ at_) (h1 : at_ < s.length) (hmax : s.length ≤ 100000) :
    FnS Tryd.prog 33 [gs s, .int .i64 at_, .bool w] H (tokV at_ (tok1 w (s.drop at_.toNat))) := by
  obtain ⟨c, hc⟩ := getSome (l := s) h0 h1
  obtain ⟨hla1, hla2, hla3⟩ := runL_bound s h0 (Int.le_of_lt h1)
  replace hla3 := hla3 h1
  obtain ⟨hsg1, hsg2⟩ := signL_bound s h0 h1
  have hsle : signL (s.drop at_.toNat) ≤ s.length - at_.toNat := by have h := signL_le (s.drop at_.toNat); rwa [List.length_drop] at h
  refine FnS.enter Tryd.func33 Tryd.ntmps33 rfl rfl (fun w0 => ?_)
  refine TC.seq ?_
  refine TC.region ?_
  refine TL.alloc rfl (fun b6 => ?_)
  refine TL.run (pr_pure rfl) rfl ?_
  refine TL.run (pr_pure rfl) rfl ?_
  refine TL.nil ?_
  refine TX.seqN ?_
  refine TC.seq ?_
  refine TC.region ?_
  refine TL.run (pr_pure rfl) rfl ?_
  refine TL.run (pr_pure rfl) rfl ?_
  refine TL.run (pr_strIx rfl rfl (by omega) hc) rfl ?_
  refine TL.run (pr_pure rfl) rfl ?_
  refine TL.nil ?_
  refine TX.seqN ?_
  refine TC.seq ?_
  refine TC.block ?_
  refine TC.seq ?_
  refine TC.region ?_
  refine TL.run (pr_pure rfl) rfl ?_
  refine TL.callS (enters rfl rfl rfl rfl) (r_letter_ok c) rfl ?_
  refine TL.run (pr_pure rfl) rfl ?_
  refine TL.nil ?_
  refine TX.seqN ?_
  refine TC.cond rfl (fun c19 => ?_) (fun c19 => ?_)
  ·
    refine TC.seq ?_
    refine TC.region ?_
    refine TL.run (pr_pure rfl) rfl ?_
    refine TL.run (pr_pure rfl) rfl ?_
    refine TL.callS (enters rfl rfl rfl rfl) (r_run_ok s true nameC at_ (fun c => nameC_or c) h0 (by omega) (by omega)) rfl ?_
    refine TL.run (pr_pure rfl) rfl ?_
    refine TL.nil ?_
    refine TX.seqN ?_
    refine TC.seq ?_
    refine TC.region ?_
    refine TL.run (pr_pure rfl) rfl ?_
    refine TL.run (pr_pure rfl) rfl ?_
    refine TL.run (pr_pure rfl) rfl ?_
    refine TL.run (pr_strLH rfl rfl rfl (by omega) (by omega) (by omega)) rfl ?_
    refine TL.run (pr_pure rfl) rfl ?_
    refine TL.run (pr_build rfl rfl) rfl ?_
    refine TL.run (pr_pure rfl) rfl ?_
    refine TL.storeA rfl rfl rfl rfl rfl (.here _) rfl rfl ?_
    refine TL.run (pr_pure rfl) rfl ?_
    refine TL.run (pr_pure rfl) rfl ?_
    refine TL.nil ?_
    refine TX.seqN ?_
    refine TC.ret ?_
    refine TX.blkR ?_
    refine TX.thenR ?_
    exact TX.finS (.inr rfl) (results3 rfl (RVal.cellA rfl (.here _) rfl) (RVal.tmp rfl) (RVal.tmp rfl)) (by rw [tk_word h0 hc c19]; first | rfl | exact tokV_eq (by omega))
  ·
    refine TC.sw (digitB c || (decide (c = 45) && ((((s.drop (at_ + 1).toNat).head?).map digitB).getD false && !w))) 32 [(0, _), (1, _), (6, _), (7, _), (8, _), (9, _)] ⟨rfl, rfl, rfl, rfl, rfl, rfl, trivial⟩ ?_ ?_
    ·
      refine TC.region ?_
      refine TL.run (pr_pure rfl) rfl ?_
      refine TL.callS (enters rfl rfl rfl rfl) (r_digit_ok c) rfl ?_
      refine TL.run (pr_pure rfl) rfl ?_
      refine TL.split (s := 35) rfl (fun g35 => ?_) (fun g35 => ?_)
      ·
        refine TL.gdN rfl rfl rfl rfl ?_
        refine TL.gdN rfl rfl rfl rfl ?_
        refine TL.gdN rfl rfl rfl rfl ?_
        refine TL.gdU rfl rfl rfl ?_
        refine TL.gdU rfl rfl rfl ?_
        refine TL.gdN rfl rfl rfl rfl ?_
        refine TL.gdN rfl rfl rfl rfl ?_
        refine TL.gdU rfl rfl rfl ?_
        refine TL.gdU rfl rfl rfl ?_
        refine TL.gdU rfl rfl rfl ?_
        refine TL.gdU rfl rfl rfl ?_
        refine TL.gdU rfl rfl rfl ?_
        refine TL.gdN rfl rfl rfl rfl ?_
        refine TL.gdN rfl rfl rfl rfl ?_
        refine TL.gdU rfl rfl rfl ?_
        refine TL.gdU rfl rfl rfl ?_
        refine TL.gdU rfl rfl rfl ?_
        refine TL.gdU rfl rfl rfl ?_
        refine TL.gdU rfl rfl rfl ?_
        refine TL.gdN rfl rfl rfl rfl ?_
        refine TL.run (pr_pure rfl) rfl ?_
        refine TL.run (pr_pure rfl) rfl ?_
        refine TL.nil ?_
        exact TX.sw rfl (by first | exact tm_1 g35 | exact tm_2 g35 g38 | exact tm_3 g35 g38 g42 | exact tm_4 g35 g38 g42 g49 | exact tm_5 g35 g38 g42 hd) ⟨rfl, rfl, rfl, rfl, rfl, rfl, trivial⟩
      ·
        refine TL.gdY rfl rfl (pr_pure rfl) rfl ?_
        refine TL.gdY rfl rfl (pr_pure rfl) rfl ?_
        refine TL.gdY rfl rfl (pr_pure rfl) rfl ?_
        refine TL.split (s := 38) rfl (fun g38 => ?_) (fun g38 => ?_)
        ·
          have q38 := of_decide_eq_true g38
          refine TL.gdY rfl rfl (pr_pure rfl) rfl ?_
          refine TL.gdY rfl rfl (pr_pure rfl) rfl ?_
          refine TL.gdY rfl rfl (pr_pure rfl) rfl ?_
          refine TL.gdY rfl rfl (pr_pure rfl) rfl ?_
          refine TL.split (s := 42) rfl (fun g42 => ?_) (fun g42 => ?_)
          ·
            refine TL.gdY rfl rfl (pr_pure rfl) rfl ?_
            refine TL.gdY rfl rfl ((by first | exact pr_add rfl rfl (by omega) (by omega) | exact pr_pure rfl)) rfl ?_
            refine TL.gdY rfl rfl (pr_pure rfl) rfl ?_
            refine TL.gdY rfl rfl (pr_lenStr rfl rfl) rfl ?_
            refine TL.gdY rfl rfl (pr_pure rfl) rfl ?_
            refine TL.gdY rfl rfl (pr_pure rfl) rfl ?_
            refine TL.gdY rfl rfl (pr_pure rfl) rfl ?_
            refine TL.split (s := 49) rfl (fun g49 => ?_) (fun g49 => ?_)
            ·
              have q49 := of_decide_eq_true g49
              obtain ⟨d, hd⟩ := getSome (l := s) (i := at_ + 1) (by omega) (by simp_all)
              refine TL.gdY rfl rfl (pr_pure rfl) rfl ?_
              refine TL.gdY rfl rfl (pr_pure rfl) rfl ?_
              refine TL.gdY rfl rfl ((by first | exact pr_add rfl rfl (by omega) (by omega) | exact pr_pure rfl)) rfl ?_
              refine TL.gdY rfl rfl (pr_strIx rfl rfl (by omega) hd) rfl ?_
              refine TL.callSY rfl rfl (enters rfl rfl rfl rfl) (r_digit_ok d) rfl ?_
              refine TL.gdY rfl rfl (pr_pure rfl) rfl ?_
              refine TL.run (pr_pure rfl) rfl ?_
              refine TL.run (pr_pure rfl) rfl ?_
              refine TL.nil ?_
              exact TX.sw rfl (by first | exact tm_1 g35 | exact tm_2 g35 g38 | exact tm_3 g35 g38 g42 | exact tm_4 g35 g38 g42 g49 | exact tm_5 g35 g38 g42 hd) ⟨rfl, rfl, rfl, rfl, rfl, rfl, trivial⟩
            ·
              have q49 := of_decide_eq_false g49
              refine TL.gdN rfl rfl rfl rfl ?_
              refine TL.gdN rfl rfl rfl rfl ?_
              refine TL.gdN rfl rfl rfl rfl ?_
              refine TL.gdN rfl rfl rfl rfl ?_
              refine TL.gdN rfl rfl rfl rfl ?_
              refine TL.gdY rfl rfl (pr_pure rfl) rfl ?_
              refine TL.run (pr_pure rfl) rfl ?_
              refine TL.run (pr_pure rfl) rfl ?_
              refine TL.nil ?_
              exact TX.sw rfl (by first | exact tm_1 g35 | exact tm_2 g35 g38 | exact tm_3 g35 g38 g42 | exact tm_4 g35 g38 g42 g49 | exact tm_5 g35 g38 g42 hd) ⟨rfl, rfl, rfl, rfl, rfl, rfl, trivial⟩
          ·
            refine TL.gdN rfl rfl rfl rfl ?_
            refine TL.gdN rfl rfl rfl rfl ?_
            refine TL.gdN rfl rfl rfl rfl ?_
            refine TL.gdN rfl rfl rfl rfl ?_
            refine TL.gdN rfl rfl rfl rfl ?_
            refine TL.gdY rfl rfl (pr_pure rfl) rfl ?_
            refine TL.gdY rfl rfl (pr_pure rfl) rfl ?_
            refine TL.gdN rfl rfl rfl rfl ?_
            refine TL.gdN rfl rfl rfl rfl ?_
            refine TL.gdN rfl rfl rfl rfl ?_
            refine TL.gdN rfl rfl rfl rfl ?_
            refine TL.gdN rfl rfl rfl rfl ?_
            refine TL.gdY rfl rfl (pr_pure rfl) rfl ?_
            refine TL.run (pr_pure rfl) rfl ?_
            refine TL.run (pr_pure rfl) rfl ?_
            refine TL.nil ?_
            exact TX.sw rfl (by first | exact tm_1 g35 | exact tm_2 g35 g38 | exact tm_3 g35 g38 g42 | exact tm_4 g35 g38 g42 g49 | exact tm_5 g35 g38 g42 hd) ⟨rfl, rfl, rfl, rfl, rfl, rfl, trivial⟩
        ·
          have q38 := of_decide_eq_false g38
          refine TL.gdN rfl rfl rfl rfl ?_
          refine TL.gdN rfl rfl rfl rfl ?_
          refine TL.gdY rfl rfl (pr_pure rfl) rfl ?_
          refine TL.gdY rfl rfl (pr_pure rfl) rfl ?_
          refine TL.gdN rfl rfl rfl rfl ?_
          refine TL.gdN rfl rfl rfl rfl ?_
          refine TL.gdN rfl rfl rfl rfl ?_
          refine TL.gdN rfl rfl rfl rfl ?_
          refine TL.gdN rfl rfl rfl rfl ?_
          refine TL.gdY rfl rfl (pr_pure rfl) rfl ?_
          refine TL.gdY rfl rfl (pr_pure rfl) rfl ?_
          refine TL.gdN rfl rfl rfl rfl ?_
          refine TL.gdN rfl rfl rfl rfl ?_
          refine TL.gdN rfl rfl rfl rfl ?_
          refine TL.gdN rfl rfl rfl rfl ?_
          refine TL.gdN rfl rfl rfl rfl ?_
          refine TL.gdY rfl rfl (pr_pure rfl) rfl ?_
          refine TL.run (pr_pure rfl) rfl ?_
          refine TL.run (pr_pure rfl) rfl ?_
          refine TL.nil ?_
          exact TX.sw rfl (by first | exact tm_1 g35 | exact tm_2 g35 g38 | exact tm_3 g35 g38 g42 | exact tm_4 g35 g38 g42 g49 | exact tm_5 g35 g38 g42 hd) ⟨rfl, rfl, rfl, rfl, rfl, rfl, trivial⟩
    refine TC.cond rfl (fun c32 => ?_) (fun c32 => ?_)
    ·
      refine TC.seq ?_
      refine TC.region ?_
      refine TL.run (pr_pure rfl) rfl ?_
      refine TL.run (pr_pure rfl) rfl ?_
      refine TL.run ((by first | exact pr_add rfl rfl (by omega) (by omega) | exact pr_pure rfl)) rfl ?_
      refine TL.callS (enters rfl rfl rfl rfl) (r_run_ok s false digitB (at_ + 1) (fun c => by simp) (by omega) (by omega) (by omega)) rfl ?_
      refine TL.run (pr_pure rfl) rfl ?_
      refine TL.nil ?_
      refine TX.seqN ?_
      refine TC.seq ?_
      refine TC.seq ?_
      refine TC.region ?_
      refine TL.run (pr_pure rfl) rfl ?_
      refine TL.run (pr_pure rfl) rfl ?_
      refine TL.run (pr_pure rfl) rfl ?_
      refine TL.run (pr_strLH rfl rfl rfl (by omega) (by omega) (by omega)) rfl ?_
      refine TL.callS (enters rfl rfl rfl rfl) (r_numeral_ok _ (by simp; omega)) rfl ?_
      refine TL.run (pr_pure rfl) rfl ?_
      refine TL.nil ?_
      refine TX.seqN ?_
      refine TC.cond rfl (fun c66 => ?_) (fun c66 => ?_)
      ·
        refine TC.seq ?_
        refine TC.region ?_
        refine TL.run (pr_build rfl rfl) rfl ?_
        refine TL.storeA rfl rfl rfl rfl rfl (.here _) rfl rfl ?_
        refine TL.run (pr_pure rfl) rfl ?_
        refine TL.run (pr_pure rfl) rfl ?_
        refine TL.nil ?_
        refine TX.seqN ?_
        refine TC.ret ?_
        refine TX.thenR ?_
        refine TX.blkR ?_
        refine TX.thenR ?_
        exact TX.finS (.inr rfl) (results3 rfl (RVal.cellA rfl (.here _) rfl) (RVal.tmp rfl) (RVal.tmp rfl)) (by rw [tk_nonum h0 hc c19 c32 (by simpa using c66)]; first | rfl | exact tokV_eq (by omega))
      ·
        refine TC.skip ?_
        refine TX.seqN ?_
        refine TC.seq ?_
        refine TC.region ?_
        refine TL.run (pr_pure rfl) rfl ?_
        refine TL.run (pr_pure rfl) rfl ?_
        refine TL.run (pr_pure rfl) rfl ?_
        refine TL.run (pr_strLH rfl rfl rfl (by omega) (by omega) (by omega)) rfl ?_
        refine TL.run (pr_pure rfl) rfl ?_
        refine TL.run (pr_build rfl rfl) rfl ?_
        refine TL.run (pr_pure rfl) rfl ?_
        refine TL.storeA rfl rfl rfl rfl rfl (.here _) rfl rfl ?_
        refine TL.run (pr_pure rfl) rfl ?_
        refine TL.run (pr_pure rfl) rfl ?_
        refine TL.nil ?_
        refine TX.seqN ?_
        refine TC.ret ?_
        refine TX.blkR ?_
        refine TX.thenR ?_
        exact TX.finS (.inr rfl) (results3 rfl (RVal.cellA rfl (.here _) rfl) (RVal.tmp rfl) (RVal.tmp rfl)) (by rw [tk_num h0 hc c19 c32 (by simpa using c66)]; first | rfl | exact tokV_eq (by omega))
    ·
      refine TC.seq ?_
      refine TC.region ?_
      refine TL.run (pr_pure rfl) rfl ?_
      refine TL.run (pr_pure rfl) rfl ?_
      refine TL.run (pr_pure rfl) rfl ?_
      refine TL.nil ?_
      refine TX.seqN ?_
      refine TC.condD rfl (fun c75 => ?_) (fun c75 => ?_)
      ·
        refine TC.seq ?_
        refine TC.region ?_
        refine TL.run (pr_pure rfl) rfl ?_
        refine TL.run (pr_pure rfl) rfl ?_
        refine TL.callS (enters rfl rfl rfl rfl) (r_quote_ok s at_ h0 h1 (by omega)) rfl ?_
        rcases quote_two (quoteL (s.drop (at_ + 1).toNat)) with hq | ⟨qt, qr, hq⟩
        ·
          rw [hq]
          simp only [quoteV]
          refine TL.run (pr_pure rfl) rfl ?_
          refine TL.run (pr_pure rfl) rfl ?_
          refine TL.run (pr_pure rfl) rfl ?_
          refine TL.run (pr_pure rfl) rfl ?_
          refine TL.run (pr_pure rfl) rfl ?_
          refine TL.run (pr_pure rfl) rfl ?_
          refine TL.run (pr_pure rfl) rfl ?_
          refine TL.nil ?_
          refine TX.seqN ?_
          refine TC.seq ?_
          refine TC.seq ?_
          refine TC.region ?_
          refine TL.run (pr_pure rfl) rfl ?_
          refine TL.run (pr_pure rfl) rfl ?_
          refine TL.nil ?_
          refine TX.seqN ?_
          refine TC.cond rfl (fun c86 => ?_) (fun c86 => ?_)
          ·
            refine TC.seq ?_
            refine TC.region ?_
            refine TL.run (pr_build rfl rfl) rfl ?_
            refine TL.storeA rfl rfl rfl rfl rfl (.here _) rfl rfl ?_
            refine TL.run (pr_pure rfl) rfl ?_
            refine TL.run (pr_pure rfl) rfl ?_
            refine TL.nil ?_
            refine TX.seqN ?_
            refine TC.ret ?_
            refine TX.thenR ?_
            refine TX.blkR ?_
            refine TX.thenR ?_
            exact TX.finS (.inr rfl) (results3 rfl (RVal.cellA rfl (.here _) rfl) (RVal.tmp rfl) (RVal.tmp rfl)) (by rw [tk_noquote h0 hc c19 c32 c75 hq]; first | rfl | exact tokV_eq (by omega))
          ·
            exact absurd c86 (by decide)
        ·
          rw [hq]
          simp only [quoteV]
          have hqs := quoteL_size hq
          rw [List.length_drop] at hqs
          refine TL.run (pr_pure rfl) rfl ?_
          refine TL.run (pr_pure rfl) rfl ?_
          refine TL.run (pr_pure rfl) rfl ?_
          refine TL.run (pr_pure rfl) rfl ?_
          refine TL.run (pr_pure rfl) rfl ?_
          refine TL.run (pr_pure rfl) rfl ?_
          refine TL.run (pr_pure rfl) rfl ?_
          refine TL.nil ?_
          refine TX.seqN ?_
          refine TC.seq ?_
          refine TC.seq ?_
          refine TC.region ?_
          refine TL.run (pr_pure rfl) rfl ?_
          refine TL.run (pr_pure rfl) rfl ?_
          refine TL.nil ?_
          refine TX.seqN ?_
          refine TC.cond rfl (fun c86 => ?_) (fun c86 => ?_)
          ·
            exact absurd c86 (by decide)
          ·
            refine TC.skip ?_
            refine TX.seqN ?_
            refine TC.seq ?_
            refine TC.region ?_
            refine TL.run (pr_pure rfl) rfl ?_
            refine TL.run (pr_pure rfl) rfl ?_
            refine TL.run (pr_build rfl rfl) rfl ?_
            refine TL.run (pr_pure rfl) rfl ?_
            refine TL.storeA rfl rfl rfl rfl rfl (.here _) rfl rfl ?_
            refine TL.run (pr_pure rfl) rfl ?_
            refine TL.run (pr_pure rfl) rfl ?_
            refine TL.nil ?_
            refine TX.seqN ?_
            refine TC.ret ?_
            refine TX.blkR ?_
            refine TX.thenR ?_
            exact TX.finS (.inr rfl) (results3 rfl (RVal.cellA rfl (.here _) rfl) (RVal.tmp rfl) (RVal.tmp rfl)) (by rw [tk_quote h0 hc c19 c32 c75 hq]; first | rfl | exact tokV_eq (by omega))
      ·
        refine TC.skip ?_
        refine TX.blkN ?_
        refine TX.seqN ?_
        refine TC.seq ?_
        refine TC.region ?_
        refine TL.run (pr_pure rfl) rfl ?_
        refine TL.run (pr_pure rfl) rfl ?_
        refine TL.callS (enters rfl rfl rfl rfl) (r_sign_ok s at_ h0 h1 (by omega)) rfl ?_
        refine TL.run (pr_pure rfl) rfl ?_
        refine TL.nil ?_
        refine TX.seqN ?_
        refine TC.seq ?_
        refine TC.seq ?_
        refine TC.region ?_
        refine TL.run (pr_pure rfl) rfl ?_
        refine TL.run (pr_pure rfl) rfl ?_
        refine TL.nil ?_
        refine TX.seqN ?_
        refine TC.condD rfl (fun c96 => ?_) (fun c96 => ?_)
        ·
          refine TC.seq ?_
          refine TC.region ?_
          refine TL.run (pr_build rfl rfl) rfl ?_
          refine TL.storeA rfl rfl rfl rfl rfl (.here _) rfl rfl ?_
          refine TL.run (pr_pure rfl) rfl ?_
          refine TL.run (pr_pure rfl) rfl ?_
          refine TL.nil ?_
          refine TX.seqN ?_
          refine TC.ret ?_
          refine TX.thenR ?_
          exact TX.finS (.inr rfl) (results3 rfl (RVal.cellA rfl (.here _) rfl) (RVal.tmp rfl) (RVal.tmp rfl)) (by rw [tk_nosign2 h0 hc c19 c32 c75 c96]; first | rfl | exact tokV_eq (by omega))
        ·
          refine TC.skip ?_
          refine TX.seqN ?_
          refine TC.seq ?_
          refine TC.region ?_
          refine TL.run (pr_pure rfl) rfl ?_
          refine TL.run (pr_pure rfl) rfl ?_
          refine TL.run (pr_pure rfl) rfl ?_
          refine TL.run (pr_pure rfl) rfl ?_
          refine TL.run ((by first | exact pr_add rfl rfl (by omega) (by omega) | exact pr_pure rfl)) rfl ?_
          refine TL.run (pr_strLH rfl rfl rfl (by omega) (by omega) (by omega)) rfl ?_
          refine TL.run (pr_pure rfl) rfl ?_
          refine TL.run (pr_build rfl rfl) rfl ?_
          refine TL.run (pr_pure rfl) rfl ?_
          refine TL.run (pr_pure rfl) rfl ?_
          refine TL.run ((by first | exact pr_add rfl rfl (by omega) (by omega) | exact pr_pure rfl)) rfl ?_
          refine TL.storeA rfl rfl rfl rfl rfl (.here _) rfl rfl ?_
          refine TL.run (pr_pure rfl) rfl ?_
          refine TL.run (pr_pure rfl) rfl ?_
          refine TL.nil ?_
          refine TX.seqN ?_
          refine TC.ret ?_
          exact TX.finS (.inr rfl) (results3 rfl (RVal.cellA rfl (.here _) rfl) (RVal.tmp rfl) (RVal.tmp rfl)) (by rw [tk_sign2 h0 hc c19 c32 c75 c96]; first | rfl | exact tokV_eq (by omega))

set_option maxRecDepth 100000 in
set_option maxHeartbeats 1000000 in
theorem r_skip_ok {H : Hp} (s : Str) (at_ : Int) (h0 : 0 ≤ at_) (h1 : at_ ≤ s.length) (hmax : s.length ≤ 100000) :
    Fn Tryd.prog 31 [gs s, .int .i64 at_] H (fun r H1 => H1 = H ∧ SkipP s at_ r) := by
  refine Fn.enter Tryd.func31 Tryd.ntmps31 rfl rfl (fun w0 => ?_)
  refine TC.seq ?_
  refine TC.region ?_
  refine TL.run (pr_pure rfl) rfl ?_
  refine TL.nil ?_
  refine TX.seqN ?_
  refine TC.seq ?_
  refine TC.block ?_
  refine TC.loop (V := fun k => [(1, .int .i64 k)]) (K := [(0, _), (4, _)]) (L := fun k => _) (I := fun k => at_ ≤ k ∧ k ≤ s.length ∧ SkipT s at_ k) (μ := fun k => (s.length - k).toNat) (i := at_) ⟨rfl, rfl, rfl, trivial⟩ ⟨by omega, h1, SkipT.refl⟩ (fun w hw => hw) (fun k hI => ?_)
  have hO := hI
  refine TC.seq ?_
  refine TC.seq ?_
  refine TC.region ?_
  refine TL.run (pr_pure rfl) rfl ?_
  refine TL.run (pr_pure rfl) rfl ?_
  refine TL.run (pr_lenStr rfl rfl) rfl ?_
  refine TL.run (pr_pure rfl) rfl ?_
  refine TL.run (pr_pure rfl) rfl ?_
  refine TL.split (s := 9) rfl (fun g9 => ?_) (fun g9 => ?_)
  ·
    have q9 := of_decide_eq_true g9
    obtain ⟨c, hc⟩ := getSome (l := s) (i := k) (by omega) q9
    refine TL.gdY rfl rfl (pr_pure rfl) rfl ?_
    refine TL.gdY rfl rfl (pr_pure rfl) rfl ?_
    refine TL.gdY rfl rfl (pr_strIx rfl rfl (by omega) hc) rfl ?_
    refine TL.callSY rfl rfl (enters rfl rfl rfl rfl) (r_blank_ok c) rfl ?_
    refine TL.gdY rfl rfl (pr_pure rfl) rfl ?_
    refine TL.split (s := 14) rfl (fun g14 => ?_) (fun g14 => ?_)
    ·
      refine TL.gdN rfl rfl rfl rfl ?_
      refine TL.gdN rfl rfl rfl rfl ?_
      refine TL.gdN rfl rfl rfl rfl ?_
      refine TL.gdN rfl rfl rfl rfl ?_
      refine TL.gdY rfl rfl (pr_pure rfl) rfl ?_
      refine TL.run (pr_pure rfl) rfl ?_
      refine TL.nil ?_
      refine TX.seqN ?_
      refine TC.condT rfl ?_
      refine TC.skip ?_
      refine TX.seqN ?_
      refine TC.block ?_
      refine TC.seq ?_
      refine TC.seq ?_
      refine TC.region ?_
      refine TL.run (pr_pure rfl) rfl ?_
      refine TL.run (pr_pure rfl) rfl ?_
      refine TL.run (pr_strIx rfl rfl (by omega) hc) rfl ?_
      refine TL.run (pr_pure rfl) rfl ?_
      refine TL.nil ?_
      refine TX.seqN ?_
      refine TC.condD rfl (fun c24 => ?_) (fun c24 => ?_)
      ·
        refine TC.seq ?_
        refine TC.block ?_
        refine TC.loop (V := fun j => [(1, .int .i64 j)]) (K := [(0, _), (4, _), (5, _), (6, _), (7, _), (8, _), (9, _), (10, _), (11, _), (12, _), (13, _), (14, _), (19, _), (20, _), (21, _), (22, _), (23, _), (24, _)]) (L := fun j => _) (I := fun j => (k ≤ j ∧ j ≤ s.length) ∧ k + (runL (fun c => !decide (c = 10)) (s.drop k.toNat) : Int) = j + runL (fun c => !decide (c = 10)) (s.drop j.toNat)) (μ := fun j => (s.length - j).toNat) (i := k) ⟨rfl, rfl, rfl, rfl, rfl, rfl, rfl, rfl, rfl, rfl, rfl, rfl, rfl, rfl, rfl, rfl, rfl, rfl, rfl, trivial⟩ ⟨⟨by omega, by omega⟩, rfl⟩ (fun w hw => hw) (fun j hI => ?_)
        have hJ := hI
        refine TC.seq ?_
        refine TC.seq ?_
        refine TC.region ?_
        refine TL.run (pr_pure rfl) rfl ?_
        refine TL.run (pr_pure rfl) rfl ?_
        refine TL.run (pr_lenStr rfl rfl) rfl ?_
        refine TL.run (pr_pure rfl) rfl ?_
        refine TL.run (pr_pure rfl) rfl ?_
        refine TL.split (s := 29) rfl (fun g29 => ?_) (fun g29 => ?_)
        ·
          have q29 := of_decide_eq_true g29
          obtain ⟨d, hd⟩ := getSome (l := s) (i := j) (by omega) q29
          refine TL.gdY rfl rfl (pr_pure rfl) rfl ?_
          refine TL.gdY rfl rfl (pr_pure rfl) rfl ?_
          refine TL.gdY rfl rfl (pr_strIx rfl rfl (by omega) hd) rfl ?_
          refine TL.gdY rfl rfl (pr_pure rfl) rfl ?_
          refine TL.run (pr_pure rfl) rfl ?_
          refine TL.nil ?_
          refine TX.seqN ?_
          refine TC.condND rfl (fun c34 => ?_) (fun c34 => ?_)
          ·
            refine TC.skip ?_
            refine TX.seqN ?_
            refine TC.block ?_
            refine TC.region ?_
            refine TL.run (pr_pure rfl) rfl ?_
            refine TL.run ((by first | exact pr_add rfl rfl (by omega) (by omega) | exact pr_pure rfl)) rfl ?_
            refine TL.run (pr_pure rfl) rfl ?_
            refine TL.nil ?_
            refine TX.blkN ?_
            exact TX.round (j + 1) ⟨by omega, runL_next (p := (fun c => !decide (c = 10))) hJ.1.1 (by omega) hd (u8_ne10 c34) hJ.2⟩ ⟨rfl, rfl, rfl, rfl, rfl, rfl, rfl, rfl, rfl, rfl, rfl, rfl, rfl, rfl, rfl, rfl, rfl, rfl, rfl, trivial⟩ (fun w hw => hw) (by omega)
          ·
            refine TC.exit ?_
            refine TX.thenE ?_
            refine TX.thenE ?_
            refine TX.blkHit ?_
            refine TX.seqN ?_
            refine TC.exit ?_
            refine TX.thenE ?_
            refine TX.blkHit ?_
            exact TX.round j ⟨by omega, by omega, hO.2.2.note (by omega) hc c24 (by first | exact run_stop hJ.2 (runL_none q29) | exact run_stop hJ.2 (runL_hit (by omega) hd (u8_is10 c34)))⟩ ⟨rfl, rfl, rfl, trivial⟩ (fun w hw => hw) (by first | omega | (have hp := runL_pos (p := fun c => !decide (c = 10)) (by omega) hc (by rw [u8_35.1 c24]; decide); have hr := hJ.2; first | (rw [runL_none q29] at hr; omega) | (rw [runL_hit (by omega) hd (u8_is10 c34)] at hr; omega)))
        ·
          have q29 := of_decide_eq_false g29
          refine TL.gdN rfl rfl rfl rfl ?_
          refine TL.gdN rfl rfl rfl rfl ?_
          refine TL.gdN rfl rfl rfl rfl ?_
          refine TL.gdN rfl rfl rfl rfl ?_
          refine TL.run (pr_pure rfl) rfl ?_
          refine TL.nil ?_
          refine TX.seqN ?_
          refine TC.condF rfl ?_
          refine TC.exit ?_
          refine TX.thenE ?_
          refine TX.thenE ?_
          refine TX.blkHit ?_
          refine TX.seqN ?_
          refine TC.exit ?_
          refine TX.thenE ?_
          refine TX.blkHit ?_
          exact TX.round j ⟨by omega, by omega, hO.2.2.note (by omega) hc c24 (by first | exact run_stop hJ.2 (runL_none q29) | exact run_stop hJ.2 (runL_hit (by omega) hd (u8_is10 c34)))⟩ ⟨rfl, rfl, rfl, trivial⟩ (fun w hw => hw) (by first | omega | (have hp := runL_pos (p := fun c => !decide (c = 10)) (by omega) hc (by rw [u8_35.1 c24]; decide); have hr := hJ.2; first | (rw [runL_none q29] at hr; omega) | (rw [runL_hit (by omega) hd (u8_is10 c34)] at hr; omega)))
      ·
        refine TC.skip ?_
        refine TX.seqN ?_
        refine TC.region ?_
        refine TL.run (pr_pure rfl) rfl ?_
        refine TL.run ((by first | exact pr_add rfl rfl (by omega) (by omega) | exact pr_pure rfl)) rfl ?_
        refine TL.run (pr_pure rfl) rfl ?_
        refine TL.nil ?_
        refine TX.blkN ?_
        exact TX.round (k + 1) ⟨by omega, by omega, (by first | exact hO.2.2.blank (by omega) hc g14 | exact absurd c20 c24)⟩ ⟨rfl, rfl, rfl, trivial⟩ (fun w hw => hw) (by first | omega | (have hp := runL_pos (p := fun c => !decide (c = 10)) (by omega) hc (by rw [u8_35.1 c24]; decide); have hr := hJ.2; first | (rw [runL_none q29] at hr; omega) | (rw [runL_hit (by omega) hd (u8_is10 c34)] at hr; omega)))
    ·
      refine TL.gdY rfl rfl (pr_pure rfl) rfl ?_
      refine TL.gdY rfl rfl (pr_pure rfl) rfl ?_
      refine TL.gdY rfl rfl (pr_strIx rfl rfl (by omega) hc) rfl ?_
      refine TL.gdY rfl rfl (pr_pure rfl) rfl ?_
      refine TL.gdY rfl rfl (pr_pure rfl) rfl ?_
      refine TL.run (pr_pure rfl) rfl ?_
      refine TL.nil ?_
      refine TX.seqN ?_
      refine TC.condD rfl (fun c20 => ?_) (fun c20 => ?_)
      ·
        refine TC.skip ?_
        refine TX.seqN ?_
        refine TC.block ?_
        refine TC.seq ?_
        refine TC.seq ?_
        refine TC.region ?_
        refine TL.run (pr_pure rfl) rfl ?_
        refine TL.run (pr_pure rfl) rfl ?_
        refine TL.run (pr_strIx rfl rfl (by omega) hc) rfl ?_
        refine TL.run (pr_pure rfl) rfl ?_
        refine TL.nil ?_
        refine TX.seqN ?_
        refine TC.condD rfl (fun c24 => ?_) (fun c24 => ?_)
        ·
          refine TC.seq ?_
          refine TC.block ?_
          refine TC.loop (V := fun j => [(1, .int .i64 j)]) (K := [(0, _), (4, _), (5, _), (6, _), (7, _), (8, _), (9, _), (10, _), (11, _), (12, _), (13, _), (14, _), (15, _), (16, _), (17, _), (18, _), (19, _), (20, _), (21, _), (22, _), (23, _), (24, _)]) (L := fun j => _) (I := fun j => (k ≤ j ∧ j ≤ s.length) ∧ k + (runL (fun c => !decide (c = 10)) (s.drop k.toNat) : Int) = j + runL (fun c => !decide (c = 10)) (s.drop j.toNat)) (μ := fun j => (s.length - j).toNat) (i := k) ⟨rfl, rfl, rfl, rfl, rfl, rfl, rfl, rfl, rfl, rfl, rfl, rfl, rfl, rfl, rfl, rfl, rfl, rfl, rfl, rfl, rfl, rfl, rfl, trivial⟩ ⟨⟨by omega, by omega⟩, rfl⟩ (fun w hw => hw) (fun j hI => ?_)
          have hJ := hI
          refine TC.seq ?_
          refine TC.seq ?_
          refine TC.region ?_
          refine TL.run (pr_pure rfl) rfl ?_
          refine TL.run (pr_pure rfl) rfl ?_
          refine TL.run (pr_lenStr rfl rfl) rfl ?_
          refine TL.run (pr_pure rfl) rfl ?_
          refine TL.run (pr_pure rfl) rfl ?_
          refine TL.split (s := 29) rfl (fun g29 => ?_) (fun g29 => ?_)
          ·
            have q29 := of_decide_eq_true g29
            obtain ⟨d, hd⟩ := getSome (l := s) (i := j) (by omega) q29
            refine TL.gdY rfl rfl (pr_pure rfl) rfl ?_
            refine TL.gdY rfl rfl (pr_pure rfl) rfl ?_
            refine TL.gdY rfl rfl (pr_strIx rfl rfl (by omega) hd) rfl ?_
            refine TL.gdY rfl rfl (pr_pure rfl) rfl ?_
            refine TL.run (pr_pure rfl) rfl ?_
            refine TL.nil ?_
            refine TX.seqN ?_
            refine TC.condND rfl (fun c34 => ?_) (fun c34 => ?_)
            ·
              refine TC.skip ?_
              refine TX.seqN ?_
              refine TC.block ?_
              refine TC.region ?_
              refine TL.run (pr_pure rfl) rfl ?_
              refine TL.run ((by first | exact pr_add rfl rfl (by omega) (by omega) | exact pr_pure rfl)) rfl ?_
              refine TL.run (pr_pure rfl) rfl ?_
              refine TL.nil ?_
              refine TX.blkN ?_
              exact TX.round (j + 1) ⟨by omega, runL_next (p := (fun c => !decide (c = 10))) hJ.1.1 (by omega) hd (u8_ne10 c34) hJ.2⟩ ⟨rfl, rfl, rfl, rfl, rfl, rfl, rfl, rfl, rfl, rfl, rfl, rfl, rfl, rfl, rfl, rfl, rfl, rfl, rfl, rfl, rfl, rfl, rfl, trivial⟩ (fun w hw => hw) (by omega)
            ·
              refine TC.exit ?_
              refine TX.thenE ?_
              refine TX.thenE ?_
              refine TX.blkHit ?_
              refine TX.seqN ?_
              refine TC.exit ?_
              refine TX.thenE ?_
              refine TX.blkHit ?_
              exact TX.round j ⟨by omega, by omega, hO.2.2.note (by omega) hc c24 (by first | exact run_stop hJ.2 (runL_none q29) | exact run_stop hJ.2 (runL_hit (by omega) hd (u8_is10 c34)))⟩ ⟨rfl, rfl, rfl, trivial⟩ (fun w hw => hw) (by first | omega | (have hp := runL_pos (p := fun c => !decide (c = 10)) (by omega) hc (by rw [u8_35.1 c24]; decide); have hr := hJ.2; first | (rw [runL_none q29] at hr; omega) | (rw [runL_hit (by omega) hd (u8_is10 c34)] at hr; omega)))
          ·
            have q29 := of_decide_eq_false g29
            refine TL.gdN rfl rfl rfl rfl ?_
            refine TL.gdN rfl rfl rfl rfl ?_
            refine TL.gdN rfl rfl rfl rfl ?_
            refine TL.gdN rfl rfl rfl rfl ?_
            refine TL.run (pr_pure rfl) rfl ?_
            refine TL.nil ?_
            refine TX.seqN ?_
            refine TC.condF rfl ?_
            refine TC.exit ?_
            refine TX.thenE ?_
            refine TX.thenE ?_
            refine TX.blkHit ?_
            refine TX.seqN ?_
            refine TC.exit ?_
            refine TX.thenE ?_
            refine TX.blkHit ?_
            exact TX.round j ⟨by omega, by omega, hO.2.2.note (by omega) hc c24 (by first | exact run_stop hJ.2 (runL_none q29) | exact run_stop hJ.2 (runL_hit (by omega) hd (u8_is10 c34)))⟩ ⟨rfl, rfl, rfl, trivial⟩ (fun w hw => hw) (by first | omega | (have hp := runL_pos (p := fun c => !decide (c = 10)) (by omega) hc (by rw [u8_35.1 c24]; decide); have hr := hJ.2; first | (rw [runL_none q29] at hr; omega) | (rw [runL_hit (by omega) hd (u8_is10 c34)] at hr; omega)))
        ·
          refine TC.skip ?_
          refine TX.seqN ?_
          refine TC.region ?_
          refine TL.run (pr_pure rfl) rfl ?_
          refine TL.run ((by first | exact pr_add rfl rfl (by omega) (by omega) | exact pr_pure rfl)) rfl ?_
          refine TL.run (pr_pure rfl) rfl ?_
          refine TL.nil ?_
          refine TX.blkN ?_
          exact TX.round (k + 1) ⟨by omega, by omega, (by first | exact hO.2.2.blank (by omega) hc g14 | exact absurd c20 c24)⟩ ⟨rfl, rfl, rfl, trivial⟩ (fun w hw => hw) (by first | omega | (have hp := runL_pos (p := fun c => !decide (c = 10)) (by omega) hc (by rw [u8_35.1 c24]; decide); have hr := hJ.2; first | (rw [runL_none q29] at hr; omega) | (rw [runL_hit (by omega) hd (u8_is10 c34)] at hr; omega)))
      ·
        refine TC.exit ?_
        refine TX.thenE ?_
        refine TX.thenE ?_
        refine TX.blkHit ?_
        refine TX.seqN ?_
        refine TC.seq ?_
        refine TC.region ?_
        refine TL.run (pr_pure rfl) rfl ?_
        refine TL.run (pr_pure rfl) rfl ?_
        refine TL.nil ?_
        refine TX.seqN ?_
        refine TC.ret ?_
        exact TX.fin0 (.inr rfl) (results1 rfl (RVal.tmp rfl)) ⟨rfl, _, rfl, hO.1, hO.2.1, hO.2.2, fun hk => by first | exact absurd hk q9 | exact ⟨c, hc, g14, c20⟩⟩
  ·
    have q9 := of_decide_eq_false g9
    refine TL.gdN rfl rfl rfl rfl ?_
    refine TL.gdN rfl rfl rfl rfl ?_
    refine TL.gdN rfl rfl rfl rfl ?_
    refine TL.gdN rfl rfl rfl rfl ?_
    refine TL.gdN rfl rfl rfl rfl ?_
    refine TL.gdU rfl rfl rfl ?_
    refine TL.gdU rfl rfl rfl ?_
    refine TL.gdU rfl rfl rfl ?_
    refine TL.gdU rfl rfl rfl ?_
    refine TL.gdN rfl rfl rfl rfl ?_
    refine TL.run (pr_pure rfl) rfl ?_
    refine TL.nil ?_
    refine TX.seqN ?_
    refine TC.condF rfl ?_
    refine TC.exit ?_
    refine TX.thenE ?_
    refine TX.thenE ?_
    refine TX.blkHit ?_
    refine TX.seqN ?_
    refine TC.seq ?_
    refine TC.region ?_
    refine TL.run (pr_pure rfl) rfl ?_
    refine TL.run (pr_pure rfl) rfl ?_
    refine TL.nil ?_
    refine TX.seqN ?_
    refine TC.ret ?_
    exact TX.fin0 (.inr rfl) (results1 rfl (RVal.tmp rfl)) ⟨rfl, _, rfl, hO.1, hO.2.1, hO.2.2, fun hk => by first | exact absurd hk q9 | exact ⟨c, hc, g14, c20⟩⟩
end Go.Sx
