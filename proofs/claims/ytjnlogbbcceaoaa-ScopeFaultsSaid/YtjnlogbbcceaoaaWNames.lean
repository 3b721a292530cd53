import Derived.Test.YtjnlogbbcceaoaaFacts
import Derived.Test.YtjnlogbbcceaoaaPuA
set_option linter.unusedVariables false
set_option linter.unusedSimpArgs false
namespace Go.Sx
open Go Go.Proofs
set_option maxRecDepth 100000 in
set_option maxHeartbeats 1000000 in
theorem n_letter_ok {H : Hp} (c : UInt8) :
  FnS Try.prog 10 [.int .u8 (c.toNat : Int)] H (.bool (letterB c)) := by
 refine FnS.enter Try.func10 Try.ntmps10 rfl rfl (fun w0 => ?_)
 refine TC.seq (TC.region (TL.run (pr_pure rfl) rfl (TL.nil (TX.seqN (TC.seq (TC.region (TL.run (pr_pure rfl) rfl ?_)))))))
 refine TL.run (pr_pure rfl) rfl (TL.run (pr_pure rfl) rfl ?_)
 refine TL.split (s := 5) rfl (fun g5 => ?_) (fun g5 => ?_)
 ·
  have q5 := of_decide_eq_true g5
  refine TL.gdY rfl rfl (pr_pure rfl) rfl (TL.gdY rfl rfl (pr_pure rfl) rfl (TL.run (pr_pure rfl) rfl (TL.run (pr_pure rfl) rfl (TL.nil (TX.seqN (TC.ret (TX.fin0 (.inr rfl) (results1 rfl (RVal.tmp rfl)) ⟨congrArg Value.bool (by simp [letterB, g5]), rfl⟩)))))))
 ·
  have q5 := of_decide_eq_false g5
  refine TL.gdN rfl rfl rfl rfl (TL.gdN rfl rfl rfl rfl (TL.run (pr_pure rfl) rfl (TL.run (pr_pure rfl) rfl (TL.nil (TX.seqN (TC.ret (TX.fin0 (.inr rfl) (results1 rfl (RVal.tmp rfl)) ⟨congrArg Value.bool (by simp [letterB, g5]), rfl⟩)))))))

set_option maxRecDepth 100000 in
set_option maxHeartbeats 1000000 in
theorem n_digit_ok {H : Hp} (c : UInt8) :
  FnS Try.prog 12 [.int .u8 (c.toNat : Int)] H (.bool (digitB c)) := by
 refine FnS.enter Try.func12 Try.ntmps12 rfl rfl (fun w0 => ?_)
 refine TC.seq (TC.region (TL.run (pr_pure rfl) rfl (TL.nil (TX.seqN (TC.seq (TC.region (TL.run (pr_pure rfl) rfl ?_)))))))
 refine TL.run (pr_pure rfl) rfl (TL.run (pr_pure rfl) rfl ?_)
 refine TL.split (s := 5) rfl (fun g5 => ?_) (fun g5 => ?_)
 ·
  have q5 := of_decide_eq_true g5
  refine TL.gdY rfl rfl (pr_pure rfl) rfl (TL.gdY rfl rfl (pr_pure rfl) rfl (TL.run (pr_pure rfl) rfl (TL.run (pr_pure rfl) rfl (TL.nil (TX.seqN (TC.ret (TX.fin0 (.inr rfl) (results1 rfl (RVal.tmp rfl)) ⟨congrArg Value.bool (by simp [digitB, g5]), rfl⟩)))))))
 ·
  have q5 := of_decide_eq_false g5
  refine TL.gdN rfl rfl rfl rfl (TL.gdN rfl rfl rfl rfl (TL.run (pr_pure rfl) rfl (TL.run (pr_pure rfl) rfl (TL.nil (TX.seqN (TC.ret (TX.fin0 (.inr rfl) (results1 rfl (RVal.tmp rfl)) ⟨congrArg Value.bool (by simp [digitB, g5]), rfl⟩)))))))

set_option maxRecDepth 100000 in
set_option maxHeartbeats 1000000 in
theorem n_Keyword_ok {H : Hp} (s : Str) :
  FnS Try.prog 11 [gs s] H (.bool (keywordB s)) := by
 refine FnS.enter Try.func11 Try.ntmps11 rfl rfl (fun w0 => ?_)
 refine TC.seq (TC.region (TL.run (pr_pure rfl) rfl (TL.nil (TX.seqN (TC.seq (TC.seq (TC.region ?_)))))))
 refine TL.run (pr_pure rfl) rfl (TL.nil (TX.seqN (TC.block ?_)))
 refine TC.sw (kw1 s) 4 [(2, _), (3, _)] ⟨rfl, rfl, trivial⟩ ?_ ?_
 ·
  refine TC.swG (pr_str rfl rfl rfl) rfl rfl ⟨rfl, rfl, trivial⟩ ?_
  refine TC.swG (pr_str rfl rfl rfl) rfl rfl ⟨rfl, rfl, trivial⟩ ?_
  refine TC.swG (pr_str rfl rfl rfl) rfl rfl ⟨rfl, rfl, trivial⟩ ?_
  refine TC.swG (pr_str rfl rfl rfl) rfl rfl ⟨rfl, rfl, trivial⟩ ?_
  refine TC.swG (pr_str rfl rfl rfl) rfl rfl ⟨rfl, rfl, trivial⟩ ?_
  refine TC.swG (pr_str rfl rfl rfl) rfl rfl ⟨rfl, rfl, trivial⟩ ?_
  refine TC.swG (pr_str rfl rfl rfl) rfl rfl ⟨rfl, rfl, trivial⟩ ?_
  refine TC.swG (pr_str rfl rfl rfl) rfl rfl ⟨rfl, rfl, trivial⟩ ?_
  refine TC.swG (pr_str rfl rfl rfl) rfl rfl ⟨rfl, rfl, trivial⟩ ?_
  refine TC.swG (pr_str rfl rfl rfl) rfl rfl ⟨rfl, rfl, trivial⟩ ?_
  refine TC.swG (pr_str rfl rfl rfl) rfl rfl ⟨rfl, rfl, trivial⟩ ?_
  refine TC.swG (pr_str rfl rfl rfl) rfl rfl ⟨rfl, rfl, trivial⟩ ?_
  exact TC.swE (pr_str rfl rfl rfl) rfl rfl ⟨rfl, rfl, trivial⟩
 refine TC.cond rfl (fun c4 => ?_) (fun c4 => ?_)
 ·
  refine TC.seq (TC.region (TL.run (pr_pure rfl) rfl (TL.nil (TX.seqN (TC.ret (TX.blkR (TX.thenR ?_)))))))
  exact TX.fin0 (.inr rfl) (results1 rfl (RVal.tmp rfl)) ⟨congrArg Value.bool (by simp_all [keywordB]), rfl⟩
 ·
  refine TC.sw (kw2 s) 18 [(2, _), (3, _)] ⟨rfl, rfl, trivial⟩ ?_ ?_
  ·
   refine TC.swG (pr_str rfl rfl rfl) rfl rfl ⟨rfl, rfl, trivial⟩ ?_
   refine TC.swG (pr_str rfl rfl rfl) rfl rfl ⟨rfl, rfl, trivial⟩ ?_
   refine TC.swG (pr_str rfl rfl rfl) rfl rfl ⟨rfl, rfl, trivial⟩ ?_
   refine TC.swG (pr_str rfl rfl rfl) rfl rfl ⟨rfl, rfl, trivial⟩ ?_
   refine TC.swG (pr_str rfl rfl rfl) rfl rfl ⟨rfl, rfl, trivial⟩ ?_
   refine TC.swG (pr_str rfl rfl rfl) rfl rfl ⟨rfl, rfl, trivial⟩ ?_
   refine TC.swG (pr_str rfl rfl rfl) rfl rfl ⟨rfl, rfl, trivial⟩ ?_
   refine TC.swG (pr_str rfl rfl rfl) rfl rfl ⟨rfl, rfl, trivial⟩ ?_
   refine TC.swG (pr_str rfl rfl rfl) rfl rfl ⟨rfl, rfl, trivial⟩ ?_
   refine TC.swG (pr_str rfl rfl rfl) rfl rfl ⟨rfl, rfl, trivial⟩ ?_
   refine TC.swG (pr_str rfl rfl rfl) rfl rfl ⟨rfl, rfl, trivial⟩ ?_
   refine TC.swG (pr_str rfl rfl rfl) rfl rfl ⟨rfl, rfl, trivial⟩ ?_
   exact TC.swE (pr_str rfl rfl rfl) rfl rfl ⟨rfl, rfl, trivial⟩
  refine TC.cond rfl (fun c18 => ?_) (fun c18 => ?_)
  ·
   refine TC.seq (TC.region (TL.run (pr_pure rfl) rfl (TL.nil (TX.seqN (TC.ret (TX.blkR (TX.thenR ?_)))))))
   exact TX.fin0 (.inr rfl) (results1 rfl (RVal.tmp rfl)) ⟨congrArg Value.bool (by simp_all [keywordB]), rfl⟩
  ·
   refine TC.sw (kw3 s) 32 [(2, _)] ⟨rfl, trivial⟩ ?_ ?_
   ·
    refine TC.swG (pr_str rfl rfl rfl) rfl rfl ⟨rfl, trivial⟩ ?_
    refine TC.swG (pr_str rfl rfl rfl) rfl rfl ⟨rfl, trivial⟩ ?_
    refine TC.swG (pr_str rfl rfl rfl) rfl rfl ⟨rfl, trivial⟩ ?_
    refine TC.swG (pr_str rfl rfl rfl) rfl rfl ⟨rfl, trivial⟩ ?_
    refine TC.swG (pr_str rfl rfl rfl) rfl rfl ⟨rfl, trivial⟩ ?_
    refine TC.swG (pr_str rfl rfl rfl) rfl rfl ⟨rfl, trivial⟩ ?_
    refine TC.swG (pr_str rfl rfl rfl) rfl rfl ⟨rfl, trivial⟩ ?_
    refine TC.swG (pr_str rfl rfl rfl) rfl rfl ⟨rfl, trivial⟩ ?_
    refine TC.swG (pr_str rfl rfl rfl) rfl rfl ⟨rfl, trivial⟩ ?_
    refine TC.swG (pr_str rfl rfl rfl) rfl rfl ⟨rfl, trivial⟩ ?_
    refine TC.swG (pr_str rfl rfl rfl) rfl rfl ⟨rfl, trivial⟩ ?_
    refine TC.swG (pr_str rfl rfl rfl) rfl rfl ⟨rfl, trivial⟩ ?_
    exact TC.swE (pr_str rfl rfl rfl) rfl rfl ⟨rfl, trivial⟩
   refine TC.cond rfl (fun c32 => ?_) (fun c32 => ?_)
   ·
    refine TC.seq (TC.region (TL.run (pr_pure rfl) rfl (TL.nil (TX.seqN (TC.ret (TX.blkR (TX.thenR ?_)))))))
    exact TX.fin0 (.inr rfl) (results1 rfl (RVal.tmp rfl)) ⟨congrArg Value.bool (by simp_all [keywordB]), rfl⟩
   ·
    refine TC.skip (TX.blkN (TX.seqN (TC.seq (TC.region (TL.run (pr_pure rfl) rfl (TL.nil (TX.seqN ?_)))))))
    refine TC.ret (TX.fin0 (.inr rfl) (results1 rfl (RVal.tmp rfl)) ⟨congrArg Value.bool (by simp_all [keywordB]), rfl⟩)

set_option maxRecDepth 100000 in
set_option maxHeartbeats 1000000 in
theorem n_May_ok {H : Hp} (s : Str) (hmax : s.length ≤ 9223372036854775807) :
  FnS Try.prog 5 [gs s] H (.bool (nameMay s)) := by
 refine FnS.enter Try.func5 Try.ntmps5 rfl rfl (fun w0 => ?_)
 refine TC.seq (TC.region (TL.run (pr_pure rfl) rfl (TL.nil (TX.seqN (TC.seq (TC.seq (TC.region ?_)))))))
 refine TL.run (pr_pure rfl) rfl (TL.run (pr_lenStr rfl rfl) rfl (TL.run (pr_pure rfl) rfl (TL.run (pr_pure rfl) rfl ?_)))
 refine TL.split (s := 7) rfl (fun g7 => ?_) (fun g7 => ?_)
 ·
  have q7 := of_decide_eq_true g7
  refine TL.gdN rfl rfl rfl rfl (TL.gdN rfl rfl rfl rfl (TL.gdN rfl rfl rfl rfl (TL.run (pr_pure rfl) rfl (TL.run (pr_pure rfl) rfl (TL.gdN rfl rfl rfl rfl (TL.gdN rfl rfl rfl rfl (TL.gdN rfl rfl rfl rfl ?_)))))))
  refine TL.gdN rfl rfl rfl rfl (TL.run (pr_pure rfl) rfl (TL.run (pr_pure rfl) rfl (TL.gdN rfl rfl rfl rfl (TL.gdN rfl rfl rfl rfl (TL.run (pr_pure rfl) rfl (TL.nil (TX.seqN ?_)))))))
  refine TC.condT rfl (TC.seq (TC.region (TL.run (pr_pure rfl) rfl (TL.nil (TX.seqN (TC.ret (TX.thenR ?_)))))))
  exact TX.fin0 (.inr rfl) (results1 rfl (RVal.tmp rfl)) ⟨congrArg Value.bool (by first | exact (nameMay_F (by first | exact .inl g7 | exact .inr (.inl g12) | exact .inr (.inr (.inl ⟨c0, hc0, g18⟩)) | exact .inr (.inr (.inr c21)))).symm | exact (nameMay_end hn hI.2.2 c25).symm | exact (nameMay_bad hn hI.2.2 (by omega) hc g33 c39).symm), rfl⟩
 ·
  have q7 := of_decide_eq_false g7
  refine TL.gdY rfl rfl (pr_pure rfl) rfl (TL.gdY rfl rfl (pr_lenStr rfl rfl) rfl (TL.gdY rfl rfl (pr_pure rfl) rfl (TL.run (pr_pure rfl) rfl (TL.run (pr_pure rfl) rfl ?_))))
  refine TL.split (s := 12) rfl (fun g12 => ?_) (fun g12 => ?_)
  ·
   have q12 := of_decide_eq_true g12
   refine TL.gdN rfl rfl rfl rfl (TL.gdN rfl rfl rfl rfl (TL.gdN rfl rfl rfl rfl (TL.gdN rfl rfl rfl rfl (TL.run (pr_pure rfl) rfl (TL.run (pr_pure rfl) rfl (TL.gdN rfl rfl rfl rfl (TL.gdN rfl rfl rfl rfl ?_)))))))
   refine TL.run (pr_pure rfl) rfl (TL.nil (TX.seqN (TC.condT rfl (TC.seq (TC.region (TL.run (pr_pure rfl) rfl (TL.nil ?_)))))))
   refine TX.seqN (TC.ret (TX.thenR (TX.fin0 (.inr rfl) (results1 rfl (RVal.tmp rfl)) ⟨congrArg Value.bool (by first | exact (nameMay_F (by first | exact .inl g7 | exact .inr (.inl g12) | exact .inr (.inr (.inl ⟨c0, hc0, g18⟩)) | exact .inr (.inr (.inr c21)))).symm | exact (nameMay_end hn hI.2.2 c25).symm | exact (nameMay_bad hn hI.2.2 (by omega) hc g33 c39).symm), rfl⟩)))
  ·
   have q12 := of_decide_eq_false g12
   refine TL.gdY rfl rfl (pr_pure rfl) rfl ?_
   have hlen : (0 : Int) < s.length := by have := of_decide_eq_false g7; omega
   obtain ⟨c0, hc0⟩ := getSome (l := s) (i := 0) (by omega) hlen
   refine TL.gdY rfl rfl (pr_strIx rfl rfl (by omega) hc0) rfl ?_
   refine TL.callSY rfl rfl (enters rfl rfl rfl rfl) (n_letter_ok c0) rfl ?_
   refine TL.gdY rfl rfl (pr_pure rfl) rfl (TL.run (pr_pure rfl) rfl (TL.run (pr_pure rfl) rfl ?_))
   refine TL.split (s := 18) rfl (fun g18 => ?_) (fun g18 => ?_)
   ·
    refine TL.gdN rfl rfl rfl rfl (TL.gdN rfl rfl rfl rfl (TL.run (pr_pure rfl) rfl (TL.nil (TX.seqN (TC.condT rfl (TC.seq (TC.region ?_)))))))
    refine TL.run (pr_pure rfl) rfl (TL.nil (TX.seqN (TC.ret (TX.thenR (TX.fin0 (.inr rfl) (results1 rfl (RVal.tmp rfl)) ⟨congrArg Value.bool (by first | exact (nameMay_F (by first | exact .inl g7 | exact .inr (.inl g12) | exact .inr (.inr (.inl ⟨c0, hc0, g18⟩)) | exact .inr (.inr (.inr c21)))).symm | exact (nameMay_end hn hI.2.2 c25).symm | exact (nameMay_bad hn hI.2.2 (by omega) hc g33 c39).symm), rfl⟩)))))
   ·
    refine TL.gdY rfl rfl (pr_pure rfl) rfl ?_
    refine TL.callSY rfl rfl (enters rfl rfl rfl rfl) (n_Keyword_ok s) rfl ?_
    refine TL.run (pr_pure rfl) rfl (TL.nil (TX.seqN ?_))
    refine TC.cond rfl (fun c21 => ?_) (fun c21 => ?_)
    ·
     refine TC.seq (TC.region (TL.run (pr_pure rfl) rfl (TL.nil (TX.seqN (TC.ret (TX.thenR (TX.fin0 (.inr rfl) (results1 rfl (RVal.tmp rfl)) ⟨congrArg Value.bool (by first | exact (nameMay_F (by first | exact .inl g7 | exact .inr (.inl g12) | exact .inr (.inr (.inl ⟨c0, hc0, g18⟩)) | exact .inr (.inr (.inr c21)))).symm | exact (nameMay_end hn hI.2.2 c25).symm | exact (nameMay_bad hn hI.2.2 (by omega) hc g33 c39).symm), rfl⟩)))))))
    ·
     have hn := nameMay_T g7 g12 hc0 g18 c21
     refine TC.skip (TX.seqN (TC.seq (TC.seq (TC.region (TL.run (pr_pure rfl) rfl (TL.nil (TX.seqN ?_)))))))
     refine TC.block ?_
     refine TC.loop (V := fun k => [(3, .int .i64 k)]) (K := [(0, _), (2, _)]) (L := fun k => _) (I := fun k => 1 ≤ k ∧ k ≤ s.length ∧ (s.drop 1).all nameC = (s.drop k.toNat).all nameC) (μ := fun k => (s.length - k).toNat) (i := (1 : Int)) ⟨rfl, rfl, rfl, trivial⟩ ⟨by omega, by omega, rfl⟩ (fun w hw => hw) (fun k hI => ?_)
     refine TC.seq (TC.seq (TC.region (TL.run (pr_pure rfl) rfl (TL.run (pr_pure rfl) rfl (TL.run (pr_lenStr rfl rfl) rfl (TL.run (pr_pure rfl) rfl (TL.nil ?_)))))))
     refine TX.seqN ?_
     refine TC.condD rfl (fun c25 => ?_) (fun c25 => ?_)
     ·
      refine TC.skip (TX.seqN (TC.seq (TC.block (TC.seq (TC.region ?_)))))
      obtain ⟨c, hc⟩ := getSome (l := s) (i := k) (by omega) c25
      refine TL.run (pr_pure rfl) rfl (TL.run (pr_pure rfl) rfl (TL.run (pr_strIx rfl rfl (by omega) hc) rfl ?_))
      refine TL.callS (enters rfl rfl rfl rfl) (n_letter_ok c) rfl ?_
      refine TL.run (pr_pure rfl) rfl (TL.run (pr_pure rfl) rfl ?_)
      refine TL.split (s := 33) rfl (fun g33 => ?_) (fun g33 => ?_)
      ·
       refine TL.gdY rfl rfl (pr_pure rfl) rfl (TL.gdY rfl rfl (pr_pure rfl) rfl (TL.gdY rfl rfl (pr_strIx rfl rfl (by omega) hc) rfl ?_))
       refine TL.callSY rfl rfl (enters rfl rfl rfl rfl) (n_digit_ok c) rfl ?_
       refine TL.gdY rfl rfl (pr_pure rfl) rfl (TL.run (pr_pure rfl) rfl (TL.nil (TX.seqN ?_)))
       refine TC.cond rfl (fun c39 => ?_) (fun c39 => ?_)
       ·
        refine TC.seq (TC.region (TL.run (pr_pure rfl) rfl (TL.nil (TX.seqN (TC.ret (TX.blkR (TX.thenR ?_)))))))
        refine TX.thenR (TX.blkR (TX.thenR (TX.fin0 (.inr rfl) (results1 rfl (RVal.tmp rfl)) ⟨congrArg Value.bool (by first | exact (nameMay_F (by first | exact .inl g7 | exact .inr (.inl g12) | exact .inr (.inr (.inl ⟨c0, hc0, g18⟩)) | exact .inr (.inr (.inr c21)))).symm | exact (nameMay_end hn hI.2.2 c25).symm | exact (nameMay_bad hn hI.2.2 (by omega) hc g33 c39).symm), rfl⟩)))
       ·
        refine TC.skip (TX.blkN (TX.seqN (TC.region (TL.run (pr_pure rfl) rfl (TL.run ((by first | exact pr_add rfl rfl (by omega) (by omega) | exact pr_pure rfl)) rfl (TL.run (pr_pure rfl) rfl (TL.nil ?_)))))))
        exact TX.round (k + 1) ⟨by omega, by omega, nameMay_step hI.2.2 (by omega) hc (by first | exact .inl g33 | exact .inr c39)⟩ ⟨rfl, rfl, rfl, trivial⟩ (fun w hw => hw) (by omega)
      ·
       refine TL.gdN rfl rfl rfl rfl (TL.gdN rfl rfl rfl rfl (TL.gdN rfl rfl rfl rfl (TL.gdN rfl rfl rfl rfl (TL.gdN rfl rfl rfl rfl (TL.run (pr_pure rfl) rfl (TL.nil (TX.seqN ?_)))))))
       refine TC.condF rfl (TC.skip (TX.blkN (TX.seqN (TC.region (TL.run (pr_pure rfl) rfl (TL.run ((by first | exact pr_add rfl rfl (by omega) (by omega) | exact pr_pure rfl)) rfl (TL.run (pr_pure rfl) rfl ?_)))))))
       refine TL.nil (TX.round (k + 1) ⟨by omega, by omega, nameMay_step hI.2.2 (by omega) hc (by first | exact .inl g33 | exact .inr c39)⟩ ⟨rfl, rfl, rfl, trivial⟩ (fun w hw => hw) (by omega))
     ·
      refine TC.exit (TX.thenE (TX.thenE (TX.blkHit (TX.seqN (TC.seq (TC.region (TL.run (pr_pure rfl) rfl ?_)))))))
      refine TL.nil (TX.seqN (TC.ret (TX.fin0 (.inr rfl) (results1 rfl (RVal.tmp rfl)) ⟨congrArg Value.bool (by first | exact (nameMay_F (by first | exact .inl g7 | exact .inr (.inl g12) | exact .inr (.inr (.inl ⟨c0, hc0, g18⟩)) | exact .inr (.inr (.inr c21)))).symm | exact (nameMay_end hn hI.2.2 c25).symm | exact (nameMay_bad hn hI.2.2 (by omega) hc g33 c39).symm), rfl⟩)))
end Go.Sx
