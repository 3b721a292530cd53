import Derived.Test.YtjnlogbbcceaoaaWNames
import Derived.Test.YtjnlogbbcceaoaaPuA
import Derived.Test.YtjnlogbbcceaoaaShelf
set_option linter.unusedVariables false
set_option linter.unusedSimpArgs false
namespace Go.Sx
open Go Go.Proofs
set_option maxRecDepth 100000 in
set_option maxHeartbeats 1000000 in
theorem operands_ok {H : Hp} (k : Int) :
  FnS Try.prog 46 [.int .i64 k] H (.int .i64 (operandsI k)) := by
 refine FnS.enter Try.func46 Try.ntmps46 rfl rfl (fun w0 => ?_)
 refine TC.seq (TC.region (TL.run (pr_pure rfl) rfl (TL.nil (TX.seqN (TC.seq (TC.seq (TC.region ?_)))))))
 refine TL.run (pr_pure rfl) rfl (TL.nil (TX.seqN (TC.block ?_)))
 refine TC.sw (decide (k = 0) || (decide (k = 1) || (decide (k = 2) || (decide (k = 3) || (decide (k = 4) || decide (k = 5)))))) 4 [(2, _), (3, _)] ⟨rfl, rfl, trivial⟩ ?_ ?_
 ·
  refine TC.swG (pr_pure rfl) rfl rfl ⟨rfl, rfl, trivial⟩ ?_
  refine TC.swG (pr_pure rfl) rfl rfl ⟨rfl, rfl, trivial⟩ ?_
  refine TC.swG (pr_pure rfl) rfl rfl ⟨rfl, rfl, trivial⟩ ?_
  refine TC.swG (pr_pure rfl) rfl rfl ⟨rfl, rfl, trivial⟩ ?_
  refine TC.swG (pr_pure rfl) rfl rfl ⟨rfl, rfl, trivial⟩ ?_
  exact TC.swE (pr_pure rfl) rfl rfl ⟨rfl, rfl, trivial⟩
 refine TC.cond rfl (fun c4 => ?_) (fun c4 => ?_)
 ·
  refine TC.seq (TC.region (TL.run (pr_pure rfl) rfl (TL.nil (TX.seqN (TC.ret (TX.blkR (TX.thenR ?_)))))))
  exact TX.fin0 (.inr rfl) (results1 rfl (RVal.tmp rfl)) ⟨congrArg (Value.int .i64) (by simp only [Bool.or_eq_true, Bool.or_eq_false_iff, decide_eq_true_eq, decide_eq_false_iff_not] at *; unfold operandsI; (repeat' split) <;> omega), rfl⟩
 ·
  refine TC.sw (decide (k = 15) || decide (k = 16)) 11 [(2, _), (3, _)] ⟨rfl, rfl, trivial⟩ ?_ ?_
  ·
   refine TC.swG (pr_pure rfl) rfl rfl ⟨rfl, rfl, trivial⟩ ?_
   exact TC.swE (pr_pure rfl) rfl rfl ⟨rfl, rfl, trivial⟩
  refine TC.cond rfl (fun c11 => ?_) (fun c11 => ?_)
  ·
   refine TC.seq (TC.region (TL.run (pr_pure rfl) rfl (TL.nil (TX.seqN (TC.ret (TX.blkR (TX.thenR ?_)))))))
   exact TX.fin0 (.inr rfl) (results1 rfl (RVal.tmp rfl)) ⟨congrArg (Value.int .i64) (by simp only [Bool.or_eq_true, Bool.or_eq_false_iff, decide_eq_true_eq, decide_eq_false_iff_not] at *; unfold operandsI; (repeat' split) <;> omega), rfl⟩
  ·
   refine TC.sw (decide (k = 6) || (decide (k = 7) || (decide (k = 8) || (decide (k = 9) || (decide (k = 10) || (decide (k = 11) || (decide (k = 12) || (decide (k = 13) || (decide (k = 14) || (decide (k = 17) || (decide (k = 18) || decide (k = 19)))))))))))) 14 [(2, _)] ⟨rfl, trivial⟩ ?_ ?_
   ·
    refine TC.swG (pr_pure rfl) rfl rfl ⟨rfl, trivial⟩ ?_
    refine TC.swG (pr_pure rfl) rfl rfl ⟨rfl, trivial⟩ ?_
    refine TC.swG (pr_pure rfl) rfl rfl ⟨rfl, trivial⟩ ?_
    refine TC.swG (pr_pure rfl) rfl rfl ⟨rfl, trivial⟩ ?_
    refine TC.swG (pr_pure rfl) rfl rfl ⟨rfl, trivial⟩ ?_
    refine TC.swG (pr_pure rfl) rfl rfl ⟨rfl, trivial⟩ ?_
    refine TC.swG (pr_pure rfl) rfl rfl ⟨rfl, trivial⟩ ?_
    refine TC.swG (pr_pure rfl) rfl rfl ⟨rfl, trivial⟩ ?_
    refine TC.swG (pr_pure rfl) rfl rfl ⟨rfl, trivial⟩ ?_
    refine TC.swG (pr_pure rfl) rfl rfl ⟨rfl, trivial⟩ ?_
    refine TC.swG (pr_pure rfl) rfl rfl ⟨rfl, trivial⟩ ?_
    exact TC.swE (pr_pure rfl) rfl rfl ⟨rfl, trivial⟩
   refine TC.cond rfl (fun c14 => ?_) (fun c14 => ?_)
   ·
    refine TC.seq (TC.region (TL.run (pr_pure rfl) rfl (TL.nil (TX.seqN (TC.ret (TX.blkR (TX.thenR ?_)))))))
    exact TX.fin0 (.inr rfl) (results1 rfl (RVal.tmp rfl)) ⟨congrArg (Value.int .i64) (by simp only [Bool.or_eq_true, Bool.or_eq_false_iff, decide_eq_true_eq, decide_eq_false_iff_not] at *; unfold operandsI; (repeat' split) <;> omega), rfl⟩
   ·
    refine TC.skip (TX.blkN (TX.seqN (TC.seq (TC.region (TL.run (pr_pure rfl) rfl (TL.nil (TX.seqN ?_)))))))
    refine TC.ret (TX.fin0 (.inr rfl) (results1 rfl (RVal.tmp rfl)) ⟨congrArg (Value.int .i64) (by simp only [Bool.or_eq_true, Bool.or_eq_false_iff, decide_eq_true_eq, decide_eq_false_iff_not] at *; unfold operandsI; (repeat' split) <;> omega), rfl⟩)

set_option maxRecDepth 100000 in
set_option maxHeartbeats 1000000 in
theorem fields_ok {H : Hp} (t : Term) (hn : t.name.length ≤ 9223372036854775807) :
  FnS Try.prog 47 [.agg t.cells.toArray] H (.bool (fieldsB t)) := by
 refine FnS.enter Try.func47 Try.ntmps47 rfl rfl (fun w0 => ?_)
 refine TC.seq (TC.region ?_)
 refine TL.box rfl rfl (fun b1 => ?_)
 refine TL.run (pr_pure rfl) rfl (TL.nil (TX.seqN (TC.seq (TC.seq (TC.region (TL.run (pr_field rfl) rfl (TL.run (pr_own1 rfl (.here _) rfl) rfl ?_)))))))
 refine TL.nil (TX.seqN (TC.block (TC.seq (TC.region (TL.run (pr_pure rfl) rfl (TL.run (pr_pure rfl) rfl (TL.nil ?_)))))))
 refine TX.seqN ?_
 refine TC.condD rfl (fun c5 => ?_) (fun c5 => ?_)
 ·
  refine TC.seq (TC.region (TL.run (pr_field rfl) rfl (TL.run (pr_own1 rfl (.here _) rfl) rfl ?_)))
  refine TL.callS (enters rfl rfl rfl rfl) (n_May_ok t.name hn) rfl ?_
  refine TL.run (pr_pure rfl) rfl ?_
  refine TL.split (s := 10) rfl (fun g10 => ?_) (fun g10 => ?_)
  ·
   refine TL.gdY rfl rfl (pr_field rfl) rfl (TL.gdY rfl rfl (pr_own1 rfl (.here _) rfl) rfl (TL.gdY rfl rfl (pr_pure rfl) rfl (TL.run (pr_pure rfl) rfl (TL.run (pr_pure rfl) rfl ?_))))
   refine TL.split (s := 15) rfl (fun g15 => ?_) (fun g15 => ?_)
   ·
    have q15 := of_decide_eq_true g15
    refine TL.gdY rfl rfl (pr_field rfl) rfl (TL.gdY rfl rfl (pr_own1 rfl (.here _) rfl) rfl (TL.gdY rfl rfl (pr_str rfl rfl rfl) rfl (TL.run (pr_pure rfl) rfl (TL.run (pr_pure rfl) rfl (TL.nil (TX.seqN (TC.ret ?_)))))))
    refine TX.blkR (TX.thenR (TX.fin0 (.inr rfl) (results1 rfl (RVal.tmp rfl)) ⟨congrArg Value.bool (by simp_all [fieldsB]), rfl⟩))
   ·
    have q15 := of_decide_eq_false g15
    refine TL.gdN rfl rfl rfl rfl (TL.gdN rfl rfl rfl rfl (TL.gdN rfl rfl rfl rfl (TL.run (pr_pure rfl) rfl (TL.run (pr_pure rfl) rfl (TL.nil (TX.seqN (TC.ret ?_)))))))
    refine TX.blkR (TX.thenR (TX.fin0 (.inr rfl) (results1 rfl (RVal.tmp rfl)) ⟨congrArg Value.bool (by simp_all [fieldsB]), rfl⟩))
  ·
   refine TL.gdN rfl rfl rfl rfl (TL.gdN rfl rfl rfl rfl (TL.gdN rfl rfl rfl rfl (TL.run (pr_pure rfl) rfl (TL.run (pr_pure rfl) rfl (TL.gdN rfl rfl rfl rfl (TL.gdN rfl rfl rfl rfl (TL.gdN rfl rfl rfl rfl ?_)))))))
   refine TL.run (pr_pure rfl) rfl (TL.run (pr_pure rfl) rfl (TL.nil (TX.seqN (TC.ret (TX.blkR (TX.thenR (TX.fin0 (.inr rfl) (results1 rfl (RVal.tmp rfl)) ⟨congrArg Value.bool (by simp_all [fieldsB]), rfl⟩)))))))
 ·
  refine TC.seq (TC.region (TL.run (pr_pure rfl) rfl (TL.run (pr_pure rfl) rfl (TL.nil (TX.seqN ?_)))))
  refine TC.condD rfl (fun c20 => ?_) (fun c20 => ?_)
  ·
   refine TC.seq (TC.region (TL.run (pr_field rfl) rfl (TL.run (pr_own1 rfl (.here _) rfl) rfl (TL.run (pr_str rfl rfl rfl) rfl (TL.run (pr_pure rfl) rfl ?_)))))
   refine TL.split (s := 25) rfl (fun g25 => ?_) (fun g25 => ?_)
   ·
    have q25 := of_decide_eq_true g25
    refine TL.gdY rfl rfl (pr_field rfl) rfl (TL.gdY rfl rfl (pr_own1 rfl (.here _) rfl) rfl (TL.gdY rfl rfl (pr_str rfl rfl rfl) rfl (TL.run (pr_pure rfl) rfl (TL.run (pr_pure rfl) rfl (TL.nil (TX.seqN (TC.ret ?_)))))))
    refine TX.blkR (TX.thenR (TX.fin0 (.inr rfl) (results1 rfl (RVal.tmp rfl)) ⟨congrArg Value.bool (by simp_all [fieldsB]), rfl⟩))
   ·
    have q25 := of_decide_eq_false g25
    refine TL.gdN rfl rfl rfl rfl (TL.gdN rfl rfl rfl rfl (TL.gdN rfl rfl rfl rfl (TL.run (pr_pure rfl) rfl (TL.run (pr_pure rfl) rfl (TL.nil (TX.seqN (TC.ret ?_)))))))
    refine TX.blkR (TX.thenR (TX.fin0 (.inr rfl) (results1 rfl (RVal.tmp rfl)) ⟨congrArg Value.bool (by simp_all [fieldsB]), rfl⟩))
  ·
   refine TC.seq (TC.region (TL.run (pr_pure rfl) rfl (TL.run (pr_pure rfl) rfl (TL.nil (TX.seqN ?_)))))
   refine TC.condD rfl (fun c30 => ?_) (fun c30 => ?_)
   ·
    refine TC.seq (TC.region (TL.run (pr_field rfl) rfl (TL.run (pr_own1 rfl (.here _) rfl) rfl (TL.run (pr_str rfl rfl rfl) rfl (TL.run (pr_pure rfl) rfl ?_)))))
    refine TL.split (s := 35) rfl (fun g35 => ?_) (fun g35 => ?_)
    ·
     have q35 := of_decide_eq_true g35
     refine TL.gdY rfl rfl (pr_field rfl) rfl (TL.gdY rfl rfl (pr_own1 rfl (.here _) rfl) rfl (TL.gdY rfl rfl (pr_str rfl rfl rfl) rfl (TL.run (pr_pure rfl) rfl (TL.run (pr_pure rfl) rfl ?_))))
     refine TL.split (s := 40) rfl (fun g40 => ?_) (fun g40 => ?_)
     ·
      have q40 := of_decide_eq_true g40
      refine TL.gdY rfl rfl (pr_field rfl) rfl (TL.gdY rfl rfl (pr_own1 rfl (.here _) rfl) rfl (TL.gdY rfl rfl (pr_pure rfl) rfl (TL.gdY rfl rfl (pr_pure rfl) rfl ?_)))
      refine TL.split (s := 44) rfl (fun g44 => ?_) (fun g44 => ?_)
      ·
       have q44 := of_decide_eq_true g44
       refine TL.gdN rfl rfl rfl rfl (TL.gdN rfl rfl rfl rfl (TL.gdN rfl rfl rfl rfl (TL.gdY rfl rfl (pr_pure rfl) rfl (TL.run (pr_pure rfl) rfl (TL.run (pr_pure rfl) rfl (TL.nil (TX.seqN ?_)))))))
       refine TC.ret (TX.blkR (TX.thenR (TX.fin0 (.inr rfl) (results1 rfl (RVal.tmp rfl)) ⟨congrArg Value.bool (by simp_all [fieldsB]), rfl⟩)))
      ·
       have q44 := of_decide_eq_false g44
       refine TL.gdY rfl rfl (pr_field rfl) rfl (TL.gdY rfl rfl (pr_own1 rfl (.here _) rfl) rfl (TL.gdY rfl rfl (pr_pure rfl) rfl (TL.gdY rfl rfl (pr_pure rfl) rfl (TL.run (pr_pure rfl) rfl (TL.run (pr_pure rfl) rfl (TL.nil (TX.seqN ?_)))))))
       refine TC.ret (TX.blkR (TX.thenR (TX.fin0 (.inr rfl) (results1 rfl (RVal.tmp rfl)) ⟨congrArg Value.bool (by simp_all [fieldsB]), rfl⟩)))
     ·
      have q40 := of_decide_eq_false g40
      refine TL.gdN rfl rfl rfl rfl (TL.gdN rfl rfl rfl rfl (TL.gdN rfl rfl rfl rfl (TL.gdN rfl rfl rfl rfl (TL.gdU rfl rfl rfl (TL.gdU rfl rfl rfl (TL.gdU rfl rfl rfl (TL.gdN rfl rfl rfl rfl ?_)))))))
      refine TL.run (pr_pure rfl) rfl (TL.run (pr_pure rfl) rfl (TL.nil (TX.seqN (TC.ret (TX.blkR (TX.thenR (TX.fin0 (.inr rfl) (results1 rfl (RVal.tmp rfl)) ⟨congrArg Value.bool (by simp_all [fieldsB]), rfl⟩)))))))
    ·
     have q35 := of_decide_eq_false g35
     refine TL.gdN rfl rfl rfl rfl (TL.gdN rfl rfl rfl rfl (TL.gdN rfl rfl rfl rfl (TL.run (pr_pure rfl) rfl (TL.run (pr_pure rfl) rfl (TL.gdN rfl rfl rfl rfl (TL.gdN rfl rfl rfl rfl (TL.gdN rfl rfl rfl rfl ?_)))))))
     refine TL.gdN rfl rfl rfl rfl (TL.gdU rfl rfl rfl (TL.gdU rfl rfl rfl (TL.gdU rfl rfl rfl (TL.gdN rfl rfl rfl rfl (TL.run (pr_pure rfl) rfl (TL.run (pr_pure rfl) rfl (TL.nil ?_)))))))
     refine TX.seqN (TC.ret (TX.blkR (TX.thenR (TX.fin0 (.inr rfl) (results1 rfl (RVal.tmp rfl)) ⟨congrArg Value.bool (by simp_all [fieldsB]), rfl⟩))))
   ·
    refine TC.seq (TC.region (TL.run (pr_pure rfl) rfl (TL.run (pr_pure rfl) rfl (TL.nil (TX.seqN ?_)))))
    refine TC.condD rfl (fun c50 => ?_) (fun c50 => ?_)
    ·
     refine TC.seq (TC.region (TL.run (pr_field rfl) rfl (TL.run (pr_own1 rfl (.here _) rfl) rfl (TL.run (pr_str rfl rfl rfl) rfl (TL.run (pr_pure rfl) rfl ?_)))))
     refine TL.split (s := 55) rfl (fun g55 => ?_) (fun g55 => ?_)
     ·
      have q55 := of_decide_eq_true g55
      refine TL.gdY rfl rfl (pr_field rfl) rfl (TL.gdY rfl rfl (pr_own1 rfl (.here _) rfl) rfl (TL.gdY rfl rfl (pr_pure rfl) rfl (TL.run (pr_pure rfl) rfl (TL.run (pr_pure rfl) rfl ?_))))
      refine TL.split (s := 60) rfl (fun g60 => ?_) (fun g60 => ?_)
      ·
       have q60 := of_decide_eq_true g60
       refine TL.gdY rfl rfl (pr_field rfl) rfl (TL.gdY rfl rfl (pr_own1 rfl (.here _) rfl) rfl (TL.gdY rfl rfl (pr_lenStr rfl rfl) rfl (TL.gdY rfl rfl (pr_pure rfl) rfl (TL.run (pr_pure rfl) rfl (TL.run (pr_pure rfl) rfl (TL.nil (TX.seqN ?_)))))))
       refine TC.ret (TX.blkR (TX.thenR (TX.fin0 (.inr rfl) (results1 rfl (RVal.tmp rfl)) ⟨congrArg Value.bool (by simp_all [fieldsB]), rfl⟩)))
      ·
       have q60 := of_decide_eq_false g60
       refine TL.gdN rfl rfl rfl rfl (TL.gdN rfl rfl rfl rfl (TL.gdN rfl rfl rfl rfl (TL.gdN rfl rfl rfl rfl (TL.run (pr_pure rfl) rfl (TL.run (pr_pure rfl) rfl (TL.nil (TX.seqN ?_)))))))
       refine TC.ret (TX.blkR (TX.thenR (TX.fin0 (.inr rfl) (results1 rfl (RVal.tmp rfl)) ⟨congrArg Value.bool (by simp_all [fieldsB]), rfl⟩)))
     ·
      have q55 := of_decide_eq_false g55
      refine TL.gdN rfl rfl rfl rfl (TL.gdN rfl rfl rfl rfl (TL.gdN rfl rfl rfl rfl (TL.run (pr_pure rfl) rfl (TL.run (pr_pure rfl) rfl (TL.gdN rfl rfl rfl rfl (TL.gdN rfl rfl rfl rfl (TL.gdN rfl rfl rfl rfl ?_)))))))
      refine TL.gdN rfl rfl rfl rfl (TL.run (pr_pure rfl) rfl (TL.run (pr_pure rfl) rfl (TL.nil (TX.seqN (TC.ret (TX.blkR (TX.thenR ?_)))))))
      exact TX.fin0 (.inr rfl) (results1 rfl (RVal.tmp rfl)) ⟨congrArg Value.bool (by simp_all [fieldsB]), rfl⟩
    ·
     refine TC.skip (TX.blkN (TX.seqN (TC.seq (TC.region (TL.run (pr_field rfl) rfl (TL.run (pr_own1 rfl (.here _) rfl) rfl (TL.run (pr_str rfl rfl rfl) rfl ?_)))))))
     refine TL.run (pr_pure rfl) rfl ?_
     refine TL.split (s := 69) rfl (fun g69 => ?_) (fun g69 => ?_)
     ·
      have q69 := of_decide_eq_true g69
      refine TL.gdY rfl rfl (pr_field rfl) rfl (TL.gdY rfl rfl (pr_own1 rfl (.here _) rfl) rfl (TL.gdY rfl rfl (pr_pure rfl) rfl (TL.run (pr_pure rfl) rfl (TL.run (pr_pure rfl) rfl ?_))))
      refine TL.split (s := 74) rfl (fun g74 => ?_) (fun g74 => ?_)
      ·
       have q74 := of_decide_eq_true g74
       refine TL.gdY rfl rfl (pr_field rfl) rfl (TL.gdY rfl rfl (pr_own1 rfl (.here _) rfl) rfl (TL.gdY rfl rfl (pr_str rfl rfl rfl) rfl (TL.run (pr_pure rfl) rfl (TL.run (pr_pure rfl) rfl (TL.nil (TX.seqN (TC.ret ?_)))))))
       exact TX.fin0 (.inr rfl) (results1 rfl (RVal.tmp rfl)) ⟨congrArg Value.bool (by simp_all [fieldsB]), rfl⟩
      ·
       have q74 := of_decide_eq_false g74
       refine TL.gdN rfl rfl rfl rfl (TL.gdN rfl rfl rfl rfl (TL.gdN rfl rfl rfl rfl (TL.run (pr_pure rfl) rfl (TL.run (pr_pure rfl) rfl (TL.nil (TX.seqN (TC.ret ?_)))))))
       exact TX.fin0 (.inr rfl) (results1 rfl (RVal.tmp rfl)) ⟨congrArg Value.bool (by simp_all [fieldsB]), rfl⟩
     ·
      have q69 := of_decide_eq_false g69
      refine TL.gdN rfl rfl rfl rfl (TL.gdN rfl rfl rfl rfl (TL.gdN rfl rfl rfl rfl (TL.run (pr_pure rfl) rfl (TL.run (pr_pure rfl) rfl (TL.gdN rfl rfl rfl rfl (TL.gdN rfl rfl rfl rfl (TL.gdN rfl rfl rfl rfl ?_)))))))
      refine TL.run (pr_pure rfl) rfl (TL.run (pr_pure rfl) rfl (TL.nil (TX.seqN (TC.ret (TX.fin0 (.inr rfl) (results1 rfl (RVal.tmp rfl)) ⟨congrArg Value.bool (by simp_all [fieldsB]), rfl⟩)))))

set_option maxRecDepth 100000 in
set_option maxHeartbeats 1000000 in
theorem walk_ok {H : Hp} {l : List Term} {v : Value} {bl bm bmv bw : Nat} (hT : RdSl H 6 Term.cells v l) (hnames : ∀ t ∈ l, t.name.length ≤ 9223372036854775807) (hl : H bl 0 = some v) (hm : H bmv 0 = some (.slice (some ⟨bm, 0, none⟩) l.length l.length)) (hw : H bw 0 = some (.func (.func 45) #[] #[.pointer (some ⟨bl, 0, none⟩), .pointer (some ⟨bmv, 0, none⟩), .pointer (some ⟨bw, 0, none⟩)])) :
  ∀ (f : Nat) (at_ deep : Int) (met : List Bool), 0 ≤ at_ → at_ < l.length → at_.toNat < f → 1 ≤ deep ∧ deep ≤ 25 → met.length = l.length →
   FnM1 Try.prog 45 [.int .i64 at_, .int .i64 deep, .pointer (some ⟨bl, 0, none⟩), .pointer (some ⟨bmv, 0, none⟩), .pointer (some ⟨bw, 0, none⟩)] H bm (met.map Value.bool)
    (fun v' H' cs' => ∃ b m, mayW l f at_ deep met = (b, m) ∧ v' = .bool b ∧ cs' = m.map Value.bool ∧ m.length = l.length ∧ H' = H) := by
 intro f
 induction f with
 | zero => intro at_ deep met _ _ h; omega
 | succ f ih =>
 intro at_ deep met h0 h1 hf hd hlen
 have hmax := hT.max
 have hlt : at_.toNat < met.length := by omega
 obtain ⟨t, hx⟩ := getSome h0 h1
 have hN : t.name.length ≤ 9223372036854775807 := hnames t (List.mem_of_getElem? hx)
 refine FnM1.enter Try.func45 Try.ntmps45 rfl rfl (fun w0 => ?_)
 refine TC.seq (TC.region (TL.run (pr_pure rfl) rfl (TL.nil (TX.seqN (TC.seq (TC.region (TL.run (pr_hp1 rfl hl) rfl ?_)))))))
 refine TL.run (pr_pure rfl) rfl (TL.run (pr_indexSl rfl hT rfl (by omega) (by omega)) rfl (TL.run (pr_elA hT hx rfl rfl) rfl ?_))
 refine TL.alloc rfl (fun b8 => ?_)
 refine TL.storeA rfl rfl rfl rfl rfl (.here _) rfl rfl ?_
 refine TL.nil (TX.seqN (TC.seq (TC.region (TL.run (pr_field rfl) rfl (TL.run (pr_own1 rfl (.here _) rfl) rfl ?_)))))
 refine TL.callS (enters rfl rfl rfl rfl) (operands_ok t.kind) rfl ?_
 refine TL.run (pr_pure rfl) rfl (TL.nil (TX.seqN (TC.seq (TC.seq (TC.region (TL.run (pr_hp1 rfl hm) rfl (TL.run (pr_pure rfl) rfl ?_)))))))
 refine TL.run (pr_index rfl rfl (by omega) (by omega)) rfl (TL.run (pr_own1 rfl (.there _ (.here _)) (bools_get hlt)) rfl (TL.run (pr_pure rfl) rfl ?_))
 refine TL.split (s := 23) rfl (fun g23 => ?_) (fun g23 => ?_)
 ·
  refine TL.gdN rfl rfl rfl rfl (TL.gdN rfl rfl rfl rfl (TL.run (pr_pure rfl) rfl (TL.run (pr_pure rfl) rfl (TL.gdN rfl rfl rfl rfl (TL.gdN rfl rfl rfl rfl (TL.run (pr_pure rfl) rfl (TL.run (pr_pure rfl) rfl ?_)))))))
  refine TL.gdN rfl rfl rfl rfl (TL.gdN rfl rfl rfl rfl (TL.gdN rfl rfl rfl rfl (TL.run (pr_pure rfl) rfl (TL.nil (TX.seqN (TC.condT rfl (TC.seq ?_)))))))
  refine TC.region (TL.run (pr_pure rfl) rfl (TL.nil (TX.seqN (TC.ret (TX.thenR ?_)))))
  refine TX.fin1 (.inr rfl) (results1 rfl (RVal.tmp rfl)) (.there _ (.here _)) ⟨_, _, ?_, rfl, rfl, ?_, rfl⟩
  · first
   | exact mayW_F hx (by simp_all)
   | exact mayW_1 hx hg o0 o1
   | exact mayW_1 hx hg o0 (by first | exact opW_leF c52_1 c54_1 | exact opW_leT c52_1 c54_1 | exact opW_b1 c52_1 g57_1 | exact opW_b2 c52_1 g62_1 | exact opW_r c52_1 g57_1 g62_1 (e1.trans (by simp_all)))
   | exact mayW_1 hx hg o0 (by first | exact opW_leF c52_1 c54_1 | exact opW_leT c52_1 c54_1 | exact opW_b1 c52_1 g57_1 | exact opW_b2 c52_1 g62_1 | exact opW_r c52_1 g57_1 g62_1 (e2.trans (by simp_all)))
   | exact mayW_0 hx hg (by first | exact opW_leF c52_0 c54_0 | exact opW_leT c52_0 c54_0 | exact opW_b1 c52_0 g57_0 | exact opW_b2 c52_0 g62_0 | exact opW_r c52_0 g57_0 g62_0 (e1.trans (by simp_all)))
  · first | assumption | (simp; done) | (simp; assumption)
 ·
  refine TL.gdY rfl rfl (pr_pure rfl) rfl (TL.gdY rfl rfl (pr_pure rfl) rfl (TL.run (pr_pure rfl) rfl (TL.run (pr_pure rfl) rfl ?_)))
  refine TL.split (s := 27) rfl (fun g27 => ?_) (fun g27 => ?_)
  ·
   have q27 := of_decide_eq_true g27
   refine TL.gdN rfl rfl rfl rfl (TL.gdN rfl rfl rfl rfl (TL.run (pr_pure rfl) rfl (TL.run (pr_pure rfl) rfl (TL.gdN rfl rfl rfl rfl (TL.gdN rfl rfl rfl rfl (TL.gdN rfl rfl rfl rfl (TL.run (pr_pure rfl) rfl ?_)))))))
   refine TL.nil (TX.seqN (TC.condT rfl (TC.seq (TC.region (TL.run (pr_pure rfl) rfl (TL.nil (TX.seqN ?_)))))))
   refine TC.ret (TX.thenR ?_)
   refine TX.fin1 (.inr rfl) (results1 rfl (RVal.tmp rfl)) (.there _ (.here _)) ⟨_, _, ?_, rfl, rfl, ?_, rfl⟩
   · first
    | exact mayW_F hx (by simp_all)
    | exact mayW_1 hx hg o0 o1
    | exact mayW_1 hx hg o0 (by first | exact opW_leF c52_1 c54_1 | exact opW_leT c52_1 c54_1 | exact opW_b1 c52_1 g57_1 | exact opW_b2 c52_1 g62_1 | exact opW_r c52_1 g57_1 g62_1 (e1.trans (by simp_all)))
    | exact mayW_1 hx hg o0 (by first | exact opW_leF c52_1 c54_1 | exact opW_leT c52_1 c54_1 | exact opW_b1 c52_1 g57_1 | exact opW_b2 c52_1 g62_1 | exact opW_r c52_1 g57_1 g62_1 (e2.trans (by simp_all)))
    | exact mayW_0 hx hg (by first | exact opW_leF c52_0 c54_0 | exact opW_leT c52_0 c54_0 | exact opW_b1 c52_0 g57_0 | exact opW_b2 c52_0 g62_0 | exact opW_r c52_0 g57_0 g62_0 (e1.trans (by simp_all)))
   · first | assumption | (simp; done) | (simp; assumption)
  ·
   have q27 := of_decide_eq_false g27
   refine TL.gdY rfl rfl (pr_pure rfl) rfl (TL.gdY rfl rfl (pr_pure rfl) rfl (TL.run (pr_pure rfl) rfl (TL.run (pr_pure rfl) rfl ?_)))
   refine TL.split (s := 31) rfl (fun g31 => ?_) (fun g31 => ?_)
   ·
    have q31 := of_decide_eq_true g31
    refine TL.gdN rfl rfl rfl rfl (TL.gdN rfl rfl rfl rfl (TL.gdN rfl rfl rfl rfl (TL.run (pr_pure rfl) rfl (TL.nil (TX.seqN (TC.condT rfl (TC.seq ?_)))))))
    refine TC.region (TL.run (pr_pure rfl) rfl (TL.nil (TX.seqN (TC.ret (TX.thenR ?_)))))
    refine TX.fin1 (.inr rfl) (results1 rfl (RVal.tmp rfl)) (.there _ (.here _)) ⟨_, _, ?_, rfl, rfl, ?_, rfl⟩
    · first
     | exact mayW_F hx (by simp_all)
     | exact mayW_1 hx hg o0 o1
     | exact mayW_1 hx hg o0 (by first | exact opW_leF c52_1 c54_1 | exact opW_leT c52_1 c54_1 | exact opW_b1 c52_1 g57_1 | exact opW_b2 c52_1 g62_1 | exact opW_r c52_1 g57_1 g62_1 (e1.trans (by simp_all)))
     | exact mayW_1 hx hg o0 (by first | exact opW_leF c52_1 c54_1 | exact opW_leT c52_1 c54_1 | exact opW_b1 c52_1 g57_1 | exact opW_b2 c52_1 g62_1 | exact opW_r c52_1 g57_1 g62_1 (e2.trans (by simp_all)))
     | exact mayW_0 hx hg (by first | exact opW_leF c52_0 c54_0 | exact opW_leT c52_0 c54_0 | exact opW_b1 c52_0 g57_0 | exact opW_b2 c52_0 g62_0 | exact opW_r c52_0 g57_0 g62_0 (e1.trans (by simp_all)))
    · first | assumption | (simp; done) | (simp; assumption)
   ·
    have q31 := of_decide_eq_false g31
    refine TL.gdY rfl rfl (pr_ownA rfl (.here _) rfl) rfl ?_
    refine TL.callSY rfl rfl (enters rfl rfl rfl rfl) (fields_ok t hN) rfl ?_
    refine TL.gdY rfl rfl (pr_pure rfl) rfl (TL.run (pr_pure rfl) rfl (TL.nil (TX.seqN ?_)))
    refine TC.cond rfl (fun c35 => ?_) (fun c35 => ?_)
    ·
     refine TC.seq (TC.region (TL.run (pr_pure rfl) rfl (TL.nil (TX.seqN (TC.ret (TX.thenR ?_))))))
     refine TX.fin1 (.inr rfl) (results1 rfl (RVal.tmp rfl)) (.there _ (.here _)) ⟨_, _, ?_, rfl, rfl, ?_, rfl⟩
     · first
      | exact mayW_F hx (by simp_all)
      | exact mayW_1 hx hg o0 o1
      | exact mayW_1 hx hg o0 (by first | exact opW_leF c52_1 c54_1 | exact opW_leT c52_1 c54_1 | exact opW_b1 c52_1 g57_1 | exact opW_b2 c52_1 g62_1 | exact opW_r c52_1 g57_1 g62_1 (e1.trans (by simp_all)))
      | exact mayW_1 hx hg o0 (by first | exact opW_leF c52_1 c54_1 | exact opW_leT c52_1 c54_1 | exact opW_b1 c52_1 g57_1 | exact opW_b2 c52_1 g62_1 | exact opW_r c52_1 g57_1 g62_1 (e2.trans (by simp_all)))
      | exact mayW_0 hx hg (by first | exact opW_leF c52_0 c54_0 | exact opW_leT c52_0 c54_0 | exact opW_b1 c52_0 g57_0 | exact opW_b2 c52_0 g62_0 | exact opW_r c52_0 g57_0 g62_0 (e1.trans (by simp_all)))
     · first | assumption | (simp; done) | (simp; assumption)
    ·
     refine TC.skip (TX.seqN (TC.seq (TC.region ?_)))
     have hg : MayG deep met at_ t := ⟨by simp_all, by simp_all, by simp_all, by simp_all⟩
     refine TL.run (pr_hp1 rfl hm) rfl (TL.run (pr_pure rfl) rfl (TL.run (pr_index rfl rfl (by omega) (by omega)) rfl ?_))
     refine TL.store1 rfl rfl rfl (.there _ (.here _)) (by simp; omega) rfl ?_
     refine TL.nil ?_
     rw [bools_set]
     refine TX.seqN (TC.seq (TC.seq (TC.region (TL.run (pr_field rfl) rfl (TL.run (pr_own1 rfl (.here _) rfl) rfl (TL.run (pr_field rfl) rfl (TL.run (pr_own1 rfl (.here _) rfl) rfl ?_)))))))
     refine TL.bslice rfl rfl rfl rfl (fun b43 => ?_)
     refine TL.run (pr_lenS rfl rfl) rfl (TL.run (pr_pure rfl) rfl (TL.nil (TX.seqN (TC.block ?_))))
     refine TC.rounds 3 ?_
     refine TR.succ ?_
     refine TC.seq (TC.region (TL.run (pr_pure rfl) rfl (TL.nil (TX.seqN (TC.seq (TC.condT rfl (TC.skip ?_)))))))
     refine TX.seqN (TC.seq (TC.block (TC.seq (TC.region (TL.run (pr_pure rfl) rfl (TL.run (pr_index rfl rfl (by omega) (by omega)) rfl (TL.run (pr_own1 rfl (.here _) rfl) rfl ?_)))))))
     refine TL.run (pr_pure rfl) rfl (TL.run (pr_pure rfl) rfl (TL.nil (TX.seqN (TC.seq (TC.seq (TC.region (TL.run (pr_pure rfl) rfl ?_)))))))
     refine TL.run (pr_pure rfl) rfl (TL.run (pr_pure rfl) rfl (TL.nil (TX.seqN ?_)))
     refine TC.condD rfl (fun c52_0 => ?_) (fun c52_0 => ?_)
     ·
      refine TC.seq (TC.seq (TC.region (TL.run (pr_pure rfl) rfl (TL.run (pr_pure rfl) rfl (TL.nil (TX.seqN ?_))))))
      refine TC.condND rfl (fun c54_0 => ?_) (fun c54_0 => ?_)
      ·
       refine TC.seq (TC.region (TL.run (pr_pure rfl) rfl (TL.nil (TX.seqN (TC.ret (TX.thenR (TX.thenR ?_)))))))
       refine TX.blkR (TX.thenR (TX.thenR (TX.blkR (TX.thenR ?_))))
       refine TX.fin1 (.inr rfl) (results1 rfl (RVal.tmp rfl)) (.there _ (.there _ (.here _))) ⟨_, _, ?_, rfl, rfl, ?_, rfl⟩
       · first
        | exact mayW_F hx (by simp_all)
        | exact mayW_1 hx hg o0 o1
        | exact mayW_1 hx hg o0 (by first | exact opW_leF c52_1 c54_1 | exact opW_leT c52_1 c54_1 | exact opW_b1 c52_1 g57_1 | exact opW_b2 c52_1 g62_1 | exact opW_r c52_1 g57_1 g62_1 (e1.trans (by simp_all)))
        | exact mayW_1 hx hg o0 (by first | exact opW_leF c52_1 c54_1 | exact opW_leT c52_1 c54_1 | exact opW_b1 c52_1 g57_1 | exact opW_b2 c52_1 g62_1 | exact opW_r c52_1 g57_1 g62_1 (e2.trans (by simp_all)))
        | exact mayW_0 hx hg (by first | exact opW_leF c52_0 c54_0 | exact opW_leT c52_0 c54_0 | exact opW_b1 c52_0 g57_0 | exact opW_b2 c52_0 g62_0 | exact opW_r c52_0 g57_0 g62_0 (e1.trans (by simp_all)))
       · first | assumption | (simp; done) | (simp; assumption)
      ·
       refine TC.skip (TX.seqN (TC.exit (TX.thenE (TX.blkHit (TX.seqN (TC.region (TL.run (pr_add rfl rfl (by omega) (by omega)) rfl ?_)))))))
       refine TL.run (pr_pure rfl) rfl (TL.nil ?_)
       have o0 : opW (operandsI t.kind) at_ (fun to m => mayW l f to (deep + 1) m) 0 t.l (met.set at_.toNat true) = (true, (met.set at_.toNat true)) := by first | exact opW_leT c52_0 c54_0 | exact opW_r c52_0 g57_0 g62_0 (e1.trans (by simp_all; done)) | exact opW_r c52_0 g57_0 g62_0 (e2.trans (by simp_all; done))
       refine TX.rnd ?_
       refine TR.succ ?_
       refine TC.seq (TC.region (TL.run (pr_pure rfl) rfl (TL.nil (TX.seqN (TC.seq (TC.condT rfl (TC.skip ?_)))))))
       refine TX.seqN (TC.seq (TC.block (TC.seq (TC.region (TL.run (pr_pure rfl) rfl (TL.run (pr_index rfl rfl (by omega) (by omega)) rfl (TL.run (pr_own1 rfl (.here _) rfl) rfl ?_)))))))
       refine TL.run (pr_pure rfl) rfl (TL.run (pr_pure rfl) rfl (TL.nil (TX.seqN (TC.seq (TC.seq (TC.region (TL.run (pr_pure rfl) rfl ?_)))))))
       refine TL.run (pr_pure rfl) rfl (TL.run (pr_pure rfl) rfl (TL.nil (TX.seqN ?_)))
       refine TC.condD rfl (fun c52_1 => ?_) (fun c52_1 => ?_)
       ·
        refine TC.seq (TC.seq (TC.region (TL.run (pr_pure rfl) rfl (TL.run (pr_pure rfl) rfl (TL.nil (TX.seqN ?_))))))
        refine TC.condND rfl (fun c54_1 => ?_) (fun c54_1 => ?_)
        ·
         refine TC.seq (TC.region (TL.run (pr_pure rfl) rfl (TL.nil (TX.seqN (TC.ret (TX.thenR (TX.thenR ?_)))))))
         refine TX.blkR (TX.thenR (TX.thenR (TX.blkR (TX.thenR ?_))))
         refine TX.fin1 (.inr rfl) (results1 rfl (RVal.tmp rfl)) (.there _ (.there _ (.here _))) ⟨_, _, ?_, rfl, rfl, ?_, rfl⟩
         · first
          | exact mayW_F hx (by simp_all)
          | exact mayW_1 hx hg o0 o1
          | exact mayW_1 hx hg o0 (by first | exact opW_leF c52_1 c54_1 | exact opW_leT c52_1 c54_1 | exact opW_b1 c52_1 g57_1 | exact opW_b2 c52_1 g62_1 | exact opW_r c52_1 g57_1 g62_1 (e1.trans (by simp_all)))
          | exact mayW_1 hx hg o0 (by first | exact opW_leF c52_1 c54_1 | exact opW_leT c52_1 c54_1 | exact opW_b1 c52_1 g57_1 | exact opW_b2 c52_1 g62_1 | exact opW_r c52_1 g57_1 g62_1 (e2.trans (by simp_all)))
          | exact mayW_0 hx hg (by first | exact opW_leF c52_0 c54_0 | exact opW_leT c52_0 c54_0 | exact opW_b1 c52_0 g57_0 | exact opW_b2 c52_0 g62_0 | exact opW_r c52_0 g57_0 g62_0 (e1.trans (by simp_all)))
         · first | assumption | (simp; done) | (simp; assumption)
        ·
         refine TC.skip (TX.seqN (TC.exit (TX.thenE (TX.blkHit (TX.seqN (TC.region (TL.run (pr_add rfl rfl (by omega) (by omega)) rfl ?_)))))))
         refine TL.run (pr_pure rfl) rfl (TL.nil ?_)
         have o1 : opW (operandsI t.kind) at_ (fun to m => mayW l f to (deep + 1) m) 1 t.r (met.set at_.toNat true) = (true, (met.set at_.toNat true)) := by first | exact opW_leT c52_1 c54_1 | exact opW_r c52_1 g57_1 g62_1 (e1.trans (by simp_all; done)) | exact opW_r c52_1 g57_1 g62_1 (e2.trans (by simp_all; done))
         refine TX.rnd ?_
         refine TR.succ ?_
         refine TC.seq (TC.region (TL.run (pr_pure rfl) rfl (TL.nil (TX.seqN (TC.seq (TC.condF rfl (TC.exit ?_)))))))
         refine TX.thenE (TX.thenE (TX.blkHit (TX.seqN (TC.seq (TC.region (TL.run (pr_pure rfl) rfl (TL.nil ?_)))))))
         refine TX.seqN (TC.ret ?_)
         refine TX.fin1 (.inr rfl) (results1 rfl (RVal.tmp rfl)) (.there _ (.there _ (.here _))) ⟨_, _, ?_, rfl, rfl, ?_, rfl⟩
         · first
          | exact mayW_F hx (by simp_all)
          | exact mayW_1 hx hg o0 o1
          | exact mayW_1 hx hg o0 (by first | exact opW_leF c52_1 c54_1 | exact opW_leT c52_1 c54_1 | exact opW_b1 c52_1 g57_1 | exact opW_b2 c52_1 g62_1 | exact opW_r c52_1 g57_1 g62_1 (e1.trans (by simp_all)))
          | exact mayW_1 hx hg o0 (by first | exact opW_leF c52_1 c54_1 | exact opW_leT c52_1 c54_1 | exact opW_b1 c52_1 g57_1 | exact opW_b2 c52_1 g62_1 | exact opW_r c52_1 g57_1 g62_1 (e2.trans (by simp_all)))
          | exact mayW_0 hx hg (by first | exact opW_leF c52_0 c54_0 | exact opW_leT c52_0 c54_0 | exact opW_b1 c52_0 g57_0 | exact opW_b2 c52_0 g62_0 | exact opW_r c52_0 g57_0 g62_0 (e1.trans (by simp_all)))
         · first | assumption | (simp; done) | (simp; assumption)
       ·
        refine TC.skip (TX.seqN (TC.seq (TC.region (TL.run (pr_pure rfl) rfl (TL.run (pr_pure rfl) rfl (TL.run (pr_pure rfl) rfl ?_))))))
        refine TL.split (s := 57) rfl (fun g57_1 => ?_) (fun g57_1 => ?_)
        ·
         have q57_1 := of_decide_eq_true g57_1
         refine TL.gdN rfl rfl rfl rfl (TL.gdN rfl rfl rfl rfl (TL.gdN rfl rfl rfl rfl (TL.run (pr_pure rfl) rfl (TL.run (pr_pure rfl) rfl (TL.gdN rfl rfl rfl rfl (TL.gdN rfl rfl rfl rfl (TL.gdN rfl rfl rfl rfl ?_)))))))
         refine TL.gdN rfl rfl rfl rfl (TL.gdN rfl rfl rfl rfl (TL.gdN rfl rfl rfl rfl (TL.run (pr_pure rfl) rfl (TL.nil (TX.seqN (TC.condT rfl (TC.seq ?_)))))))
         refine TC.region (TL.run (pr_pure rfl) rfl (TL.nil (TX.seqN (TC.ret (TX.blkR (TX.thenR (TX.thenR ?_)))))))
         refine TX.blkR (TX.thenR ?_)
         refine TX.fin1 (.inr rfl) (results1 rfl (RVal.tmp rfl)) (.there _ (.there _ (.here _))) ⟨_, _, ?_, rfl, rfl, ?_, rfl⟩
         · first
          | exact mayW_F hx (by simp_all)
          | exact mayW_1 hx hg o0 o1
          | exact mayW_1 hx hg o0 (by first | exact opW_leF c52_1 c54_1 | exact opW_leT c52_1 c54_1 | exact opW_b1 c52_1 g57_1 | exact opW_b2 c52_1 g62_1 | exact opW_r c52_1 g57_1 g62_1 (e1.trans (by simp_all)))
          | exact mayW_1 hx hg o0 (by first | exact opW_leF c52_1 c54_1 | exact opW_leT c52_1 c54_1 | exact opW_b1 c52_1 g57_1 | exact opW_b2 c52_1 g62_1 | exact opW_r c52_1 g57_1 g62_1 (e2.trans (by simp_all)))
          | exact mayW_0 hx hg (by first | exact opW_leF c52_0 c54_0 | exact opW_leT c52_0 c54_0 | exact opW_b1 c52_0 g57_0 | exact opW_b2 c52_0 g62_0 | exact opW_r c52_0 g57_0 g62_0 (e1.trans (by simp_all)))
         · first | assumption | (simp; done) | (simp; assumption)
        ·
         have q57_1 := of_decide_eq_false g57_1
         refine TL.gdY rfl rfl (pr_pure rfl) rfl (TL.gdY rfl rfl (pr_pure rfl) rfl (TL.gdY rfl rfl (pr_pure rfl) rfl (TL.run (pr_pure rfl) rfl (TL.run (pr_pure rfl) rfl ?_))))
         refine TL.split (s := 62) rfl (fun g62_1 => ?_) (fun g62_1 => ?_)
         ·
          have q62_1 := of_decide_eq_true g62_1
          refine TL.gdN rfl rfl rfl rfl (TL.gdN rfl rfl rfl rfl (TL.gdN rfl rfl rfl rfl (TL.gdN rfl rfl rfl rfl (TL.gdN rfl rfl rfl rfl (TL.gdN rfl rfl rfl rfl (TL.run (pr_pure rfl) rfl (TL.nil ?_)))))))
          refine TX.seqN (TC.condT rfl (TC.seq (TC.region (TL.run (pr_pure rfl) rfl (TL.nil (TX.seqN (TC.ret ?_)))))))
          refine TX.blkR (TX.thenR (TX.thenR (TX.blkR (TX.thenR ?_))))
          refine TX.fin1 (.inr rfl) (results1 rfl (RVal.tmp rfl)) (.there _ (.there _ (.here _))) ⟨_, _, ?_, rfl, rfl, ?_, rfl⟩
          · first
           | exact mayW_F hx (by simp_all)
           | exact mayW_1 hx hg o0 o1
           | exact mayW_1 hx hg o0 (by first | exact opW_leF c52_1 c54_1 | exact opW_leT c52_1 c54_1 | exact opW_b1 c52_1 g57_1 | exact opW_b2 c52_1 g62_1 | exact opW_r c52_1 g57_1 g62_1 (e1.trans (by simp_all)))
           | exact mayW_1 hx hg o0 (by first | exact opW_leF c52_1 c54_1 | exact opW_leT c52_1 c54_1 | exact opW_b1 c52_1 g57_1 | exact opW_b2 c52_1 g62_1 | exact opW_r c52_1 g57_1 g62_1 (e2.trans (by simp_all)))
           | exact mayW_0 hx hg (by first | exact opW_leF c52_0 c54_0 | exact opW_leT c52_0 c54_0 | exact opW_b1 c52_0 g57_0 | exact opW_b2 c52_0 g62_0 | exact opW_r c52_0 g57_0 g62_0 (e1.trans (by simp_all)))
          · first | assumption | (simp; done) | (simp; assumption)
         ·
          have q62_1 := of_decide_eq_false g62_1
          refine TL.gdY rfl rfl (pr_hp1 rfl hw) rfl (TL.gdY rfl rfl (pr_pure rfl) rfl (TL.gdY rfl rfl (pr_pure rfl) rfl (TL.gdY rfl rfl ((by first | exact pr_add rfl rfl (by omega) (by omega) | exact pr_pure rfl)) rfl ?_)))
          refine TL.front (.there _ (.there _ (.here _))) ?_
          refine TL.callM1Y rfl rfl (enters rfl rfl rfl rfl) (ih _ (deep + 1) _ (by have q1 := of_decide_eq_false g57_1; have q2 := of_decide_eq_false g62_1; omega) (by have q1 := of_decide_eq_false g57_1; have q2 := of_decide_eq_false g62_1; omega) (by have q1 := of_decide_eq_false g57_1; have q2 := of_decide_eq_false g62_1; omega) ⟨by omega, by have := hg.2.1; omega⟩ (by first | assumption | (simp; assumption))) rfl (fun v67 H67 cs67 hle67 hp67 => ?_)
          obtain ⟨r1, m1, e1, rfl, rfl, hl1, rfl⟩ := hp67
          refine TL.gdY rfl rfl (pr_pure rfl) rfl (TL.run (pr_pure rfl) rfl (TL.nil (TX.seqN ?_)))
          refine TC.cond rfl (fun c69_1 => ?_) (fun c69_1 => ?_)
          ·
           refine TC.seq (TC.region (TL.run (pr_pure rfl) rfl (TL.nil (TX.seqN (TC.ret (TX.blkR (TX.thenR ?_)))))))
           refine TX.thenR (TX.blkR (TX.thenR ?_))
           refine TX.fin1 (.inr rfl) (results1 rfl (RVal.tmp rfl)) (.here _) ⟨_, _, ?_, rfl, rfl, ?_, rfl⟩
           · first
            | exact mayW_F hx (by simp_all)
            | exact mayW_1 hx hg o0 o1
            | exact mayW_1 hx hg o0 (by first | exact opW_leF c52_1 c54_1 | exact opW_leT c52_1 c54_1 | exact opW_b1 c52_1 g57_1 | exact opW_b2 c52_1 g62_1 | exact opW_r c52_1 g57_1 g62_1 (e1.trans (by simp_all)))
            | exact mayW_1 hx hg o0 (by first | exact opW_leF c52_1 c54_1 | exact opW_leT c52_1 c54_1 | exact opW_b1 c52_1 g57_1 | exact opW_b2 c52_1 g62_1 | exact opW_r c52_1 g57_1 g62_1 (e2.trans (by simp_all)))
            | exact mayW_0 hx hg (by first | exact opW_leF c52_0 c54_0 | exact opW_leT c52_0 c54_0 | exact opW_b1 c52_0 g57_0 | exact opW_b2 c52_0 g62_0 | exact opW_r c52_0 g57_0 g62_0 (e1.trans (by simp_all)))
           · first | assumption | (simp; done) | (simp; assumption)
          ·
           refine TC.skip (TX.blkN (TX.seqN (TC.region (TL.run (pr_add rfl rfl (by omega) (by omega)) rfl (TL.run (pr_pure rfl) rfl (TL.nil ?_))))))
           have o1 : opW (operandsI t.kind) at_ (fun to m => mayW l f to (deep + 1) m) 1 t.r (met.set at_.toNat true) = (true, m1) := by first | exact opW_leT c52_1 c54_1 | exact opW_r c52_1 g57_1 g62_1 (e1.trans (by simp_all; done)) | exact opW_r c52_1 g57_1 g62_1 (e2.trans (by simp_all; done))
           refine TX.rnd ?_
           refine TR.succ ?_
           refine TC.seq (TC.region (TL.run (pr_pure rfl) rfl (TL.nil (TX.seqN (TC.seq (TC.condF rfl (TC.exit ?_)))))))
           refine TX.thenE (TX.thenE (TX.blkHit (TX.seqN (TC.seq (TC.region (TL.run (pr_pure rfl) rfl (TL.nil ?_)))))))
           refine TX.seqN (TC.ret ?_)
           refine TX.fin1 (.inr rfl) (results1 rfl (RVal.tmp rfl)) (.here _) ⟨_, _, ?_, rfl, rfl, ?_, rfl⟩
           · first
            | exact mayW_F hx (by simp_all)
            | exact mayW_1 hx hg o0 o1
            | exact mayW_1 hx hg o0 (by first | exact opW_leF c52_1 c54_1 | exact opW_leT c52_1 c54_1 | exact opW_b1 c52_1 g57_1 | exact opW_b2 c52_1 g62_1 | exact opW_r c52_1 g57_1 g62_1 (e1.trans (by simp_all)))
            | exact mayW_1 hx hg o0 (by first | exact opW_leF c52_1 c54_1 | exact opW_leT c52_1 c54_1 | exact opW_b1 c52_1 g57_1 | exact opW_b2 c52_1 g62_1 | exact opW_r c52_1 g57_1 g62_1 (e2.trans (by simp_all)))
            | exact mayW_0 hx hg (by first | exact opW_leF c52_0 c54_0 | exact opW_leT c52_0 c54_0 | exact opW_b1 c52_0 g57_0 | exact opW_b2 c52_0 g62_0 | exact opW_r c52_0 g57_0 g62_0 (e1.trans (by simp_all)))
           · first | assumption | (simp; done) | (simp; assumption)
     ·
      refine TC.skip (TX.seqN (TC.seq (TC.region (TL.run (pr_pure rfl) rfl (TL.run (pr_pure rfl) rfl (TL.run (pr_pure rfl) rfl ?_))))))
      refine TL.split (s := 57) rfl (fun g57_0 => ?_) (fun g57_0 => ?_)
      ·
       have q57_0 := of_decide_eq_true g57_0
       refine TL.gdN rfl rfl rfl rfl (TL.gdN rfl rfl rfl rfl (TL.gdN rfl rfl rfl rfl (TL.run (pr_pure rfl) rfl (TL.run (pr_pure rfl) rfl (TL.gdN rfl rfl rfl rfl (TL.gdN rfl rfl rfl rfl (TL.gdN rfl rfl rfl rfl ?_)))))))
       refine TL.gdN rfl rfl rfl rfl (TL.gdN rfl rfl rfl rfl (TL.gdN rfl rfl rfl rfl (TL.run (pr_pure rfl) rfl (TL.nil (TX.seqN (TC.condT rfl (TC.seq ?_)))))))
       refine TC.region (TL.run (pr_pure rfl) rfl (TL.nil (TX.seqN (TC.ret (TX.blkR (TX.thenR (TX.thenR ?_)))))))
       refine TX.blkR (TX.thenR ?_)
       refine TX.fin1 (.inr rfl) (results1 rfl (RVal.tmp rfl)) (.there _ (.there _ (.here _))) ⟨_, _, ?_, rfl, rfl, ?_, rfl⟩
       · first
        | exact mayW_F hx (by simp_all)
        | exact mayW_1 hx hg o0 o1
        | exact mayW_1 hx hg o0 (by first | exact opW_leF c52_1 c54_1 | exact opW_leT c52_1 c54_1 | exact opW_b1 c52_1 g57_1 | exact opW_b2 c52_1 g62_1 | exact opW_r c52_1 g57_1 g62_1 (e1.trans (by simp_all)))
        | exact mayW_1 hx hg o0 (by first | exact opW_leF c52_1 c54_1 | exact opW_leT c52_1 c54_1 | exact opW_b1 c52_1 g57_1 | exact opW_b2 c52_1 g62_1 | exact opW_r c52_1 g57_1 g62_1 (e2.trans (by simp_all)))
        | exact mayW_0 hx hg (by first | exact opW_leF c52_0 c54_0 | exact opW_leT c52_0 c54_0 | exact opW_b1 c52_0 g57_0 | exact opW_b2 c52_0 g62_0 | exact opW_r c52_0 g57_0 g62_0 (e1.trans (by simp_all)))
       · first | assumption | (simp; done) | (simp; assumption)
      ·
       have q57_0 := of_decide_eq_false g57_0
       refine TL.gdY rfl rfl (pr_pure rfl) rfl (TL.gdY rfl rfl (pr_pure rfl) rfl (TL.gdY rfl rfl (pr_pure rfl) rfl (TL.run (pr_pure rfl) rfl (TL.run (pr_pure rfl) rfl ?_))))
       refine TL.split (s := 62) rfl (fun g62_0 => ?_) (fun g62_0 => ?_)
       ·
        have q62_0 := of_decide_eq_true g62_0
        refine TL.gdN rfl rfl rfl rfl (TL.gdN rfl rfl rfl rfl (TL.gdN rfl rfl rfl rfl (TL.gdN rfl rfl rfl rfl (TL.gdN rfl rfl rfl rfl (TL.gdN rfl rfl rfl rfl (TL.run (pr_pure rfl) rfl (TL.nil ?_)))))))
        refine TX.seqN (TC.condT rfl (TC.seq (TC.region (TL.run (pr_pure rfl) rfl (TL.nil (TX.seqN (TC.ret ?_)))))))
        refine TX.blkR (TX.thenR (TX.thenR (TX.blkR (TX.thenR ?_))))
        refine TX.fin1 (.inr rfl) (results1 rfl (RVal.tmp rfl)) (.there _ (.there _ (.here _))) ⟨_, _, ?_, rfl, rfl, ?_, rfl⟩
        · first
         | exact mayW_F hx (by simp_all)
         | exact mayW_1 hx hg o0 o1
         | exact mayW_1 hx hg o0 (by first | exact opW_leF c52_1 c54_1 | exact opW_leT c52_1 c54_1 | exact opW_b1 c52_1 g57_1 | exact opW_b2 c52_1 g62_1 | exact opW_r c52_1 g57_1 g62_1 (e1.trans (by simp_all)))
         | exact mayW_1 hx hg o0 (by first | exact opW_leF c52_1 c54_1 | exact opW_leT c52_1 c54_1 | exact opW_b1 c52_1 g57_1 | exact opW_b2 c52_1 g62_1 | exact opW_r c52_1 g57_1 g62_1 (e2.trans (by simp_all)))
         | exact mayW_0 hx hg (by first | exact opW_leF c52_0 c54_0 | exact opW_leT c52_0 c54_0 | exact opW_b1 c52_0 g57_0 | exact opW_b2 c52_0 g62_0 | exact opW_r c52_0 g57_0 g62_0 (e1.trans (by simp_all)))
        · first | assumption | (simp; done) | (simp; assumption)
       ·
        have q62_0 := of_decide_eq_false g62_0
        refine TL.gdY rfl rfl (pr_hp1 rfl hw) rfl (TL.gdY rfl rfl (pr_pure rfl) rfl (TL.gdY rfl rfl (pr_pure rfl) rfl (TL.gdY rfl rfl ((by first | exact pr_add rfl rfl (by omega) (by omega) | exact pr_pure rfl)) rfl ?_)))
        refine TL.front (.there _ (.there _ (.here _))) ?_
        refine TL.callM1Y rfl rfl (enters rfl rfl rfl rfl) (ih _ (deep + 1) _ (by have q1 := of_decide_eq_false g57_0; have q2 := of_decide_eq_false g62_0; omega) (by have q1 := of_decide_eq_false g57_0; have q2 := of_decide_eq_false g62_0; omega) (by have q1 := of_decide_eq_false g57_0; have q2 := of_decide_eq_false g62_0; omega) ⟨by omega, by have := hg.2.1; omega⟩ (by first | assumption | (simp; assumption))) rfl (fun v67 H67 cs67 hle67 hp67 => ?_)
        obtain ⟨r1, m1, e1, rfl, rfl, hl1, rfl⟩ := hp67
        refine TL.gdY rfl rfl (pr_pure rfl) rfl (TL.run (pr_pure rfl) rfl (TL.nil (TX.seqN ?_)))
        refine TC.cond rfl (fun c69_0 => ?_) (fun c69_0 => ?_)
        ·
         refine TC.seq (TC.region (TL.run (pr_pure rfl) rfl (TL.nil (TX.seqN (TC.ret (TX.blkR (TX.thenR ?_)))))))
         refine TX.thenR (TX.blkR (TX.thenR ?_))
         refine TX.fin1 (.inr rfl) (results1 rfl (RVal.tmp rfl)) (.here _) ⟨_, _, ?_, rfl, rfl, ?_, rfl⟩
         · first
          | exact mayW_F hx (by simp_all)
          | exact mayW_1 hx hg o0 o1
          | exact mayW_1 hx hg o0 (by first | exact opW_leF c52_1 c54_1 | exact opW_leT c52_1 c54_1 | exact opW_b1 c52_1 g57_1 | exact opW_b2 c52_1 g62_1 | exact opW_r c52_1 g57_1 g62_1 (e1.trans (by simp_all)))
          | exact mayW_1 hx hg o0 (by first | exact opW_leF c52_1 c54_1 | exact opW_leT c52_1 c54_1 | exact opW_b1 c52_1 g57_1 | exact opW_b2 c52_1 g62_1 | exact opW_r c52_1 g57_1 g62_1 (e2.trans (by simp_all)))
          | exact mayW_0 hx hg (by first | exact opW_leF c52_0 c54_0 | exact opW_leT c52_0 c54_0 | exact opW_b1 c52_0 g57_0 | exact opW_b2 c52_0 g62_0 | exact opW_r c52_0 g57_0 g62_0 (e1.trans (by simp_all)))
         · first | assumption | (simp; done) | (simp; assumption)
        ·
         refine TC.skip (TX.blkN (TX.seqN (TC.region (TL.run (pr_add rfl rfl (by omega) (by omega)) rfl (TL.run (pr_pure rfl) rfl (TL.nil ?_))))))
         have o0 : opW (operandsI t.kind) at_ (fun to m => mayW l f to (deep + 1) m) 0 t.l (met.set at_.toNat true) = (true, m1) := by first | exact opW_leT c52_0 c54_0 | exact opW_r c52_0 g57_0 g62_0 (e1.trans (by simp_all; done)) | exact opW_r c52_0 g57_0 g62_0 (e2.trans (by simp_all; done))
         refine TX.rnd ?_
         refine TR.succ ?_
         refine TC.seq (TC.region (TL.run (pr_pure rfl) rfl (TL.nil (TX.seqN (TC.seq (TC.condT rfl (TC.skip ?_)))))))
         refine TX.seqN (TC.seq (TC.block (TC.seq (TC.region (TL.run (pr_pure rfl) rfl (TL.run (pr_index rfl rfl (by omega) (by omega)) rfl (TL.run (pr_own1 rfl (.there _ (.here _)) rfl) rfl ?_)))))))
         refine TL.run (pr_pure rfl) rfl (TL.run (pr_pure rfl) rfl (TL.nil (TX.seqN (TC.seq (TC.seq (TC.region (TL.run (pr_pure rfl) rfl ?_)))))))
         refine TL.run (pr_pure rfl) rfl (TL.run (pr_pure rfl) rfl (TL.nil (TX.seqN ?_)))
         refine TC.condD rfl (fun c52_1 => ?_) (fun c52_1 => ?_)
         ·
          refine TC.seq (TC.seq (TC.region (TL.run (pr_pure rfl) rfl (TL.run (pr_pure rfl) rfl (TL.nil (TX.seqN ?_))))))
          refine TC.condND rfl (fun c54_1 => ?_) (fun c54_1 => ?_)
          ·
           refine TC.seq (TC.region (TL.run (pr_pure rfl) rfl (TL.nil (TX.seqN (TC.ret (TX.thenR (TX.thenR ?_)))))))
           refine TX.blkR (TX.thenR (TX.thenR (TX.blkR (TX.thenR ?_))))
           refine TX.fin1 (.inr rfl) (results1 rfl (RVal.tmp rfl)) (.here _) ⟨_, _, ?_, rfl, rfl, ?_, rfl⟩
           · first
            | exact mayW_F hx (by simp_all)
            | exact mayW_1 hx hg o0 o1
            | exact mayW_1 hx hg o0 (by first | exact opW_leF c52_1 c54_1 | exact opW_leT c52_1 c54_1 | exact opW_b1 c52_1 g57_1 | exact opW_b2 c52_1 g62_1 | exact opW_r c52_1 g57_1 g62_1 (e1.trans (by simp_all)))
            | exact mayW_1 hx hg o0 (by first | exact opW_leF c52_1 c54_1 | exact opW_leT c52_1 c54_1 | exact opW_b1 c52_1 g57_1 | exact opW_b2 c52_1 g62_1 | exact opW_r c52_1 g57_1 g62_1 (e2.trans (by simp_all)))
            | exact mayW_0 hx hg (by first | exact opW_leF c52_0 c54_0 | exact opW_leT c52_0 c54_0 | exact opW_b1 c52_0 g57_0 | exact opW_b2 c52_0 g62_0 | exact opW_r c52_0 g57_0 g62_0 (e1.trans (by simp_all)))
           · first | assumption | (simp; done) | (simp; assumption)
          ·
           refine TC.skip (TX.seqN (TC.exit (TX.thenE (TX.blkHit (TX.seqN (TC.region (TL.run (pr_add rfl rfl (by omega) (by omega)) rfl ?_)))))))
           refine TL.run (pr_pure rfl) rfl (TL.nil ?_)
           have o1 : opW (operandsI t.kind) at_ (fun to m => mayW l f to (deep + 1) m) 1 t.r m1 = (true, m1) := by first | exact opW_leT c52_1 c54_1 | exact opW_r c52_1 g57_1 g62_1 (e1.trans (by simp_all; done)) | exact opW_r c52_1 g57_1 g62_1 (e2.trans (by simp_all; done))
           refine TX.rnd ?_
           refine TR.succ ?_
           refine TC.seq (TC.region (TL.run (pr_pure rfl) rfl (TL.nil (TX.seqN (TC.seq (TC.condF rfl (TC.exit ?_)))))))
           refine TX.thenE (TX.thenE (TX.blkHit (TX.seqN (TC.seq (TC.region (TL.run (pr_pure rfl) rfl (TL.nil ?_)))))))
           refine TX.seqN (TC.ret ?_)
           refine TX.fin1 (.inr rfl) (results1 rfl (RVal.tmp rfl)) (.here _) ⟨_, _, ?_, rfl, rfl, ?_, rfl⟩
           · first
            | exact mayW_F hx (by simp_all)
            | exact mayW_1 hx hg o0 o1
            | exact mayW_1 hx hg o0 (by first | exact opW_leF c52_1 c54_1 | exact opW_leT c52_1 c54_1 | exact opW_b1 c52_1 g57_1 | exact opW_b2 c52_1 g62_1 | exact opW_r c52_1 g57_1 g62_1 (e1.trans (by simp_all)))
            | exact mayW_1 hx hg o0 (by first | exact opW_leF c52_1 c54_1 | exact opW_leT c52_1 c54_1 | exact opW_b1 c52_1 g57_1 | exact opW_b2 c52_1 g62_1 | exact opW_r c52_1 g57_1 g62_1 (e2.trans (by simp_all)))
            | exact mayW_0 hx hg (by first | exact opW_leF c52_0 c54_0 | exact opW_leT c52_0 c54_0 | exact opW_b1 c52_0 g57_0 | exact opW_b2 c52_0 g62_0 | exact opW_r c52_0 g57_0 g62_0 (e1.trans (by simp_all)))
           · first | assumption | (simp; done) | (simp; assumption)
         ·
          refine TC.skip (TX.seqN (TC.seq (TC.region (TL.run (pr_pure rfl) rfl (TL.run (pr_pure rfl) rfl (TL.run (pr_pure rfl) rfl ?_))))))
          refine TL.split (s := 57) rfl (fun g57_1 => ?_) (fun g57_1 => ?_)
          ·
           have q57_1 := of_decide_eq_true g57_1
           refine TL.gdN rfl rfl rfl rfl (TL.gdN rfl rfl rfl rfl (TL.gdN rfl rfl rfl rfl (TL.run (pr_pure rfl) rfl (TL.run (pr_pure rfl) rfl (TL.gdN rfl rfl rfl rfl (TL.gdN rfl rfl rfl rfl (TL.gdN rfl rfl rfl rfl ?_)))))))
           refine TL.gdN rfl rfl rfl rfl (TL.gdN rfl rfl rfl rfl (TL.gdN rfl rfl rfl rfl (TL.run (pr_pure rfl) rfl (TL.nil (TX.seqN (TC.condT rfl (TC.seq ?_)))))))
           refine TC.region (TL.run (pr_pure rfl) rfl (TL.nil (TX.seqN (TC.ret (TX.blkR (TX.thenR (TX.thenR ?_)))))))
           refine TX.blkR (TX.thenR ?_)
           refine TX.fin1 (.inr rfl) (results1 rfl (RVal.tmp rfl)) (.here _) ⟨_, _, ?_, rfl, rfl, ?_, rfl⟩
           · first
            | exact mayW_F hx (by simp_all)
            | exact mayW_1 hx hg o0 o1
            | exact mayW_1 hx hg o0 (by first | exact opW_leF c52_1 c54_1 | exact opW_leT c52_1 c54_1 | exact opW_b1 c52_1 g57_1 | exact opW_b2 c52_1 g62_1 | exact opW_r c52_1 g57_1 g62_1 (e1.trans (by simp_all)))
            | exact mayW_1 hx hg o0 (by first | exact opW_leF c52_1 c54_1 | exact opW_leT c52_1 c54_1 | exact opW_b1 c52_1 g57_1 | exact opW_b2 c52_1 g62_1 | exact opW_r c52_1 g57_1 g62_1 (e2.trans (by simp_all)))
            | exact mayW_0 hx hg (by first | exact opW_leF c52_0 c54_0 | exact opW_leT c52_0 c54_0 | exact opW_b1 c52_0 g57_0 | exact opW_b2 c52_0 g62_0 | exact opW_r c52_0 g57_0 g62_0 (e1.trans (by simp_all)))
           · first | assumption | (simp; done) | (simp; assumption)
          ·
           have q57_1 := of_decide_eq_false g57_1
           refine TL.gdY rfl rfl (pr_pure rfl) rfl (TL.gdY rfl rfl (pr_pure rfl) rfl (TL.gdY rfl rfl (pr_pure rfl) rfl (TL.run (pr_pure rfl) rfl (TL.run (pr_pure rfl) rfl ?_))))
           refine TL.split (s := 62) rfl (fun g62_1 => ?_) (fun g62_1 => ?_)
           ·
            have q62_1 := of_decide_eq_true g62_1
            refine TL.gdN rfl rfl rfl rfl (TL.gdN rfl rfl rfl rfl (TL.gdN rfl rfl rfl rfl (TL.gdN rfl rfl rfl rfl (TL.gdN rfl rfl rfl rfl (TL.gdN rfl rfl rfl rfl (TL.run (pr_pure rfl) rfl (TL.nil ?_)))))))
            refine TX.seqN (TC.condT rfl (TC.seq (TC.region (TL.run (pr_pure rfl) rfl (TL.nil (TX.seqN (TC.ret ?_)))))))
            refine TX.blkR (TX.thenR (TX.thenR (TX.blkR (TX.thenR ?_))))
            refine TX.fin1 (.inr rfl) (results1 rfl (RVal.tmp rfl)) (.here _) ⟨_, _, ?_, rfl, rfl, ?_, rfl⟩
            · first
             | exact mayW_F hx (by simp_all)
             | exact mayW_1 hx hg o0 o1
             | exact mayW_1 hx hg o0 (by first | exact opW_leF c52_1 c54_1 | exact opW_leT c52_1 c54_1 | exact opW_b1 c52_1 g57_1 | exact opW_b2 c52_1 g62_1 | exact opW_r c52_1 g57_1 g62_1 (e1.trans (by simp_all)))
             | exact mayW_1 hx hg o0 (by first | exact opW_leF c52_1 c54_1 | exact opW_leT c52_1 c54_1 | exact opW_b1 c52_1 g57_1 | exact opW_b2 c52_1 g62_1 | exact opW_r c52_1 g57_1 g62_1 (e2.trans (by simp_all)))
             | exact mayW_0 hx hg (by first | exact opW_leF c52_0 c54_0 | exact opW_leT c52_0 c54_0 | exact opW_b1 c52_0 g57_0 | exact opW_b2 c52_0 g62_0 | exact opW_r c52_0 g57_0 g62_0 (e1.trans (by simp_all)))
            · first | assumption | (simp; done) | (simp; assumption)
           ·
            have q62_1 := of_decide_eq_false g62_1
            refine TL.gdY rfl rfl (pr_hp1 rfl hw) rfl (TL.gdY rfl rfl (pr_pure rfl) rfl (TL.gdY rfl rfl (pr_pure rfl) rfl (TL.gdY rfl rfl ((by first | exact pr_add rfl rfl (by omega) (by omega) | exact pr_pure rfl)) rfl ?_)))
            refine TL.callM1Y rfl rfl (enters rfl rfl rfl rfl) (ih _ (deep + 1) _ (by have q1 := of_decide_eq_false g57_1; have q2 := of_decide_eq_false g62_1; omega) (by have q1 := of_decide_eq_false g57_1; have q2 := of_decide_eq_false g62_1; omega) (by have q1 := of_decide_eq_false g57_1; have q2 := of_decide_eq_false g62_1; omega) ⟨by omega, by have := hg.2.1; omega⟩ (by first | assumption | (simp; assumption))) rfl (fun v67 H67 cs67 hle67 hp67 => ?_)
            obtain ⟨r2, m2, e2, rfl, rfl, hl2, rfl⟩ := hp67
            refine TL.gdY rfl rfl (pr_pure rfl) rfl (TL.run (pr_pure rfl) rfl (TL.nil (TX.seqN ?_)))
            refine TC.cond rfl (fun c69_1 => ?_) (fun c69_1 => ?_)
            ·
             refine TC.seq (TC.region (TL.run (pr_pure rfl) rfl (TL.nil (TX.seqN (TC.ret (TX.blkR (TX.thenR ?_)))))))
             refine TX.thenR (TX.blkR (TX.thenR ?_))
             refine TX.fin1 (.inr rfl) (results1 rfl (RVal.tmp rfl)) (.here _) ⟨_, _, ?_, rfl, rfl, ?_, rfl⟩
             · first
              | exact mayW_F hx (by simp_all)
              | exact mayW_1 hx hg o0 o1
              | exact mayW_1 hx hg o0 (by first | exact opW_leF c52_1 c54_1 | exact opW_leT c52_1 c54_1 | exact opW_b1 c52_1 g57_1 | exact opW_b2 c52_1 g62_1 | exact opW_r c52_1 g57_1 g62_1 (e1.trans (by simp_all)))
              | exact mayW_1 hx hg o0 (by first | exact opW_leF c52_1 c54_1 | exact opW_leT c52_1 c54_1 | exact opW_b1 c52_1 g57_1 | exact opW_b2 c52_1 g62_1 | exact opW_r c52_1 g57_1 g62_1 (e2.trans (by simp_all)))
              | exact mayW_0 hx hg (by first | exact opW_leF c52_0 c54_0 | exact opW_leT c52_0 c54_0 | exact opW_b1 c52_0 g57_0 | exact opW_b2 c52_0 g62_0 | exact opW_r c52_0 g57_0 g62_0 (e1.trans (by simp_all)))
             · first | assumption | (simp; done) | (simp; assumption)
            ·
             refine TC.skip (TX.blkN (TX.seqN (TC.region (TL.run (pr_add rfl rfl (by omega) (by omega)) rfl (TL.run (pr_pure rfl) rfl (TL.nil ?_))))))
             have o1 : opW (operandsI t.kind) at_ (fun to m => mayW l f to (deep + 1) m) 1 t.r m1 = (true, m2) := by first | exact opW_leT c52_1 c54_1 | exact opW_r c52_1 g57_1 g62_1 (e1.trans (by simp_all; done)) | exact opW_r c52_1 g57_1 g62_1 (e2.trans (by simp_all; done))
             refine TX.rnd ?_
             refine TR.succ ?_
             refine TC.seq (TC.region (TL.run (pr_pure rfl) rfl (TL.nil (TX.seqN (TC.seq (TC.condF rfl (TC.exit ?_)))))))
             refine TX.thenE (TX.thenE (TX.blkHit (TX.seqN (TC.seq (TC.region (TL.run (pr_pure rfl) rfl (TL.nil ?_)))))))
             refine TX.seqN (TC.ret ?_)
             refine TX.fin1 (.inr rfl) (results1 rfl (RVal.tmp rfl)) (.here _) ⟨_, _, ?_, rfl, rfl, ?_, rfl⟩
             · first
              | exact mayW_F hx (by simp_all)
              | exact mayW_1 hx hg o0 o1
              | exact mayW_1 hx hg o0 (by first | exact opW_leF c52_1 c54_1 | exact opW_leT c52_1 c54_1 | exact opW_b1 c52_1 g57_1 | exact opW_b2 c52_1 g62_1 | exact opW_r c52_1 g57_1 g62_1 (e1.trans (by simp_all)))
              | exact mayW_1 hx hg o0 (by first | exact opW_leF c52_1 c54_1 | exact opW_leT c52_1 c54_1 | exact opW_b1 c52_1 g57_1 | exact opW_b2 c52_1 g62_1 | exact opW_r c52_1 g57_1 g62_1 (e2.trans (by simp_all)))
              | exact mayW_0 hx hg (by first | exact opW_leF c52_0 c54_0 | exact opW_leT c52_0 c54_0 | exact opW_b1 c52_0 g57_0 | exact opW_b2 c52_0 g62_0 | exact opW_r c52_0 g57_0 g62_0 (e1.trans (by simp_all)))
             · first | assumption | (simp; done) | (simp; assumption)

set_option maxRecDepth 100000 in
set_option maxHeartbeats 1000000 in
theorem May_ok {H : Hp} {l : List Term} {v : Value} (root : Int) (hT : RdSl H 6 Term.cells v l) (hnames : ∀ t ∈ l, t.name.length ≤ 9223372036854775807) :
  FnS Try.prog 31 [v, .int .i64 root] H (.bool (mayB l root)) := by
 have hmax := hT.max
 have one1 := hT.isOne
 refine FnS.enter Try.func31 Try.ntmps31 rfl rfl (fun w0 => ?_)
 refine TC.seq (TC.region ?_)
 refine TL.box1 rfl rfl (fun b2 => ?_)
 refine TL.run (pr_pure rfl) rfl (TL.nil (TX.seqN (TC.seq (TC.seq (TC.region (TL.run (pr_own1 rfl (.here _) rfl) rfl (TL.run (pr_lenSl rfl rfl hT) rfl ?_)))))))
 refine TL.run (pr_pure rfl) rfl (TL.run (pr_pure rfl) rfl ?_)
 refine TL.split (s := 10) rfl (fun g10 => ?_) (fun g10 => ?_)
 ·
  have q10 := of_decide_eq_true g10
  refine TL.gdN rfl rfl rfl rfl (TL.gdN rfl rfl rfl rfl (TL.run (pr_pure rfl) rfl (TL.run (pr_pure rfl) rfl (TL.gdN rfl rfl rfl rfl (TL.gdN rfl rfl rfl rfl (TL.gdN rfl rfl rfl rfl (TL.gdN rfl rfl rfl rfl ?_)))))))
  refine TL.run (pr_pure rfl) rfl (TL.nil (TX.seqN (TC.condT rfl (TC.seq (TC.region (TL.run (pr_pure rfl) rfl (TL.nil ?_)))))))
  refine TX.seqN (TC.ret (TX.thenR (TX.finS (.inr rfl) (results1 rfl (RVal.tmp rfl)) (congrArg Value.bool (by first | exact (mayB_F1 g10).symm | exact (mayB_F2 g14).symm | exact (mayB_F3 c19).symm | (rw [mayB_T h160, e]))))))
 ·
  have q10 := of_decide_eq_false g10
  refine TL.gdY rfl rfl (pr_pure rfl) rfl (TL.gdY rfl rfl (pr_pure rfl) rfl (TL.run (pr_pure rfl) rfl (TL.run (pr_pure rfl) rfl ?_)))
  refine TL.split (s := 14) rfl (fun g14 => ?_) (fun g14 => ?_)
  ·
   have q14 := of_decide_eq_true g14
   refine TL.gdN rfl rfl rfl rfl (TL.gdN rfl rfl rfl rfl (TL.gdN rfl rfl rfl rfl (TL.gdN rfl rfl rfl rfl (TL.run (pr_pure rfl) rfl (TL.nil (TX.seqN (TC.condT rfl ?_)))))))
   refine TC.seq (TC.region (TL.run (pr_pure rfl) rfl (TL.nil (TX.seqN (TC.ret (TX.thenR (TX.finS (.inr rfl) (results1 rfl (RVal.tmp rfl)) (congrArg Value.bool (by first | exact (mayB_F1 g10).symm | exact (mayB_F2 g14).symm | exact (mayB_F3 c19).symm | (rw [mayB_T h160, e]))))))))))
  ·
   have q14 := of_decide_eq_false g14
   refine TL.gdY rfl rfl (pr_pure rfl) rfl (TL.gdY rfl rfl (pr_own1 rfl (.here _) rfl) rfl (TL.gdY rfl rfl (pr_lenSl rfl rfl hT) rfl (TL.gdY rfl rfl (pr_pure rfl) rfl (TL.run (pr_pure rfl) rfl (TL.nil (TX.seqN ?_))))))
   refine TC.condD rfl (fun c19 => ?_) (fun c19 => ?_)
   ·
    refine TC.seq (TC.region (TL.run (pr_pure rfl) rfl (TL.nil (TX.seqN (TC.ret (TX.thenR (TX.finS (.inr rfl) (results1 rfl (RVal.tmp rfl)) (congrArg Value.bool (by first | exact (mayB_F1 g10).symm | exact (mayB_F2 g14).symm | exact (mayB_F3 c19).symm | (rw [mayB_T h160, e]))))))))))
   ·
    refine TC.skip (TX.seqN (TC.seq (TC.region (TL.run (pr_own1 rfl (.here _) rfl) rfl (TL.run (pr_lenSl rfl rfl hT) rfl ?_)))))
    refine TL.make rfl rfl (by first | omega | decide) (by first | omega | decide) (by first | omega | decide) rfl (fun b22 => ?_)
    refine TL.alloc rfl (fun b5 => ?_)
    refine TL.storeV rfl rfl rfl (.here _) rfl ?_
    refine TL.nil (TX.seqN (TC.seq (TC.region ?_)))
    refine TL.alloc rfl (fun b6 => ?_)
    refine TL.nil (TX.seqN (TC.seq (TC.region (TL.run (pr_pure rfl) rfl ?_))))
    refine TL.storeV rfl rfl rfl (.here _) rfl ?_
    refine TL.nil (TX.seqN (TC.seq (TC.region ?_)))
    refine TL.pub (by simp) (fun H_b6 le_b6 rd_b6 => ?_)
    refine TL.pub (by simp) (fun H_b5 le_b5 rd_b5 => ?_)
    refine TL.front (.there _ (.here _)) ?_
    refine TL.pub (by simp) (fun H_b2 le_b2 rd_b2 => ?_)
    have hT2 := ((hT.le le_b6).le le_b5).le le_b2
    have hl : H_b2 b2 0 = some v := rd_b2 0 _ rfl
    have hm := le_b2 _ _ _ (rd_b5 0 _ rfl)
    have hw := le_b2 _ _ _ (le_b5 _ _ _ (rd_b6 0 _ rfl))
    have h160 := mayB_in g10 g14 c19
    rw [reps_false]
    refine TL.run (pr_hp1 rfl hw) rfl (TL.run (pr_pure rfl) rfl ?_)
    refine TL.callM1 (enters rfl rfl rfl rfl) (walk_ok hT2 hnames hl hm hw (root.toNat + 1) root 1 _ (by omega) (by omega) (by omega) (by omega) (by simp)) rfl (fun v26 H26 cs26 hle26 hp26 => ?_)
    obtain ⟨b, m, e, rfl, rfl, hl2, rfl⟩ := hp26
    refine TL.run (pr_pure rfl) rfl (TL.nil (TX.seqN (TC.ret (TX.finS (.inr rfl) (results1 rfl (RVal.tmp rfl)) (congrArg Value.bool (by first | exact (mayB_F1 g10).symm | exact (mayB_F2 g14).symm | exact (mayB_F3 c19).symm | (rw [mayB_T h160, e])))))))
end Go.Sx

set_option linter.unusedVariables false
set_option linter.unusedSimpArgs false
namespace Go.Sx
open Go Go.Proofs
set_option maxRecDepth 100000 in
set_option maxHeartbeats 1000000 in
theorem n_Place_ok {H : Hp} {l : List Str} {v : Value} (s : Str) (hL : RdSl H 1 Str.cells v l) :
  FnS Try.prog 42 [v, gs s] H (.int .i64 (placeS l s)) := by
 have hmax := hL.max
 refine FnS.enter Try.func42 Try.ntmps42 rfl rfl (fun w0 => ?_)
 refine TC.seq (TC.region (TL.run (pr_pure rfl) rfl (TL.nil (TX.seqN (TC.seq (TC.seq (TC.region ?_)))))))
 refine TL.run (pr_pure rfl) rfl (TL.run (pr_lenSl rfl rfl hL) rfl (TL.run (pr_pure rfl) rfl (TL.nil (TX.seqN (TC.block ?_)))))
 refine TC.loop (V := fun k => [(8, .int .i64 k)]) (K := [(0, _), (1, _), (4, _), (7, _)]) (L := fun k => _) (I := fun k => 0 ≤ k ∧ k ≤ l.length ∧ ∀ j : Nat, j < k.toNat → l[j]? ≠ some s) (μ := fun k => (l.length - k).toNat) (i := (0 : Int)) ⟨rfl, rfl, rfl, rfl, rfl, trivial⟩ ⟨by omega, by omega, fun j hj => absurd hj (by simp)⟩ (fun w hw => hw) (fun k hI => ?_)
 refine TC.seq (TC.region (TL.run (pr_pure rfl) rfl (TL.nil (TX.seqN (TC.seq ?_)))))
 refine TC.condD rfl (fun c9 => ?_) (fun c9 => ?_)
 ·
  refine TC.skip (TX.seqN (TC.seq (TC.block (TC.seq (TC.region ?_)))))
  obtain ⟨x, hx⟩ := getSome (l := l) hI.1 c9
  refine TL.run (pr_pure rfl) rfl (TL.run (pr_pure rfl) rfl (TL.nil (TX.seqN (TC.seq (TC.region (TL.run (pr_pure rfl) rfl (TL.run (pr_pure rfl) rfl ?_)))))))
  refine TL.run (pr_indexSl rfl hL rfl (by omega) (by omega)) rfl (TL.run (pr_el0 hL hx rfl rfl) rfl (TL.run (pr_pure rfl) rfl (TL.run (pr_str rfl rfl rfl) rfl (TL.nil (TX.seqN ?_)))))
  refine TC.condD rfl (fun c16 => ?_) (fun c16 => ?_)
  ·
   refine TC.seq (TC.region (TL.run (pr_pure rfl) rfl (TL.run (pr_pure rfl) rfl (TL.nil (TX.seqN (TC.ret (TX.blkR ?_)))))))
   refine TX.thenR (TX.thenR (TX.blkR (TX.thenR (TX.finS (.inr rfl) (results1 rfl (RVal.tmp rfl)) (congrArg (Value.int .i64) (by first | exact (placeS_hit hI.1 (by rw [hx, c16]) hI.2.2).symm | exact (place_end hI.2.2 c9).symm))))))
  ·
   refine TC.skip (TX.blkN (TX.seqN (TC.region (TL.run ((by first | exact pr_add rfl rfl (by omega) (by omega) | exact pr_pure rfl)) rfl (TL.run (pr_pure rfl) rfl (TL.nil (TX.round (k + 1) ⟨by omega, by omega, place_next hI.1 hI.2.2 hx c16⟩ ⟨rfl, rfl, rfl, rfl, rfl, trivial⟩ (fun w hw => hw) (by omega))))))))
 ·
  refine TC.exit (TX.thenE (TX.thenE (TX.blkHit (TX.seqN (TC.seq (TC.region (TL.run (pr_pure rfl) rfl ?_)))))))
  refine TL.nil (TX.seqN (TC.ret (TX.finS (.inr rfl) (results1 rfl (RVal.tmp rfl)) (congrArg (Value.int .i64) (by first | exact (placeS_hit hI.1 (by rw [hx, c16]) hI.2.2).symm | exact (place_end hI.2.2 c9).symm)))))

set_option maxRecDepth 100000 in
set_option maxHeartbeats 1000000 in
theorem n_Has_ok {H : Hp} {l : List Str} {v : Value} (s : Str) (hL : RdSl H 1 Str.cells v l) :
  FnS Try.prog 39 [v, gs s] H (.bool (hasS l s)) := by
 refine FnS.enter Try.func39 Try.ntmps39 rfl rfl (fun w0 => ?_)
 refine TC.seq (TC.region (TL.run (pr_pure rfl) rfl (TL.nil (TX.seqN (TC.seq (TC.region (TL.run (pr_pure rfl) rfl ?_)))))))
 refine TL.run (pr_pure rfl) rfl ?_
 refine TL.callS (enters rfl rfl rfl rfl) (n_Place_ok s hL) rfl ?_
 refine TL.run (pr_pure rfl) rfl (TL.run (pr_pure rfl) rfl (TL.nil (TX.seqN (TC.ret (TX.finS (.inr rfl) (results1 rfl (RVal.tmp rfl)) (congrArg Value.bool (by rw [← hasS_place])))))))

set_option maxRecDepth 100000 in
set_option maxHeartbeats 1000000 in
theorem varsN_ok {H : Hp} {at_ : Int} {bl bo bw : Nat} {u : Value} {xs : List Str} {ob : Blks} (hneg : at_ < 0) (hO : OwnSl 1 Str.cells u xs ob) :
  FnX Try.prog 53 [.int .i64 at_, .pointer (some ⟨bw, 0, none⟩), .pointer (some ⟨bl, 0, none⟩), .pointer (some ⟨bo, 0, none⟩)] H ((bo, [u]) :: ob) (fun r H' L' => r = .tuple #[] ∧ H' = H ∧ ∃ u' ob', L' = (bo, [u']) :: ob' ∧ OwnSl 1 Str.cells u' xs ob') := by
 refine FnX.enter Try.func53 Try.ntmps53 rfl rfl (fun w0 => ?_)
 refine TC.seq (TC.seq (TC.region (TL.run (pr_pure rfl) rfl (TL.run (pr_pure rfl) rfl (TL.nil (TX.seqN ?_))))))
 refine TC.condD rfl (fun c6 => ?_) (fun c6 => ?_)
 ·
  refine TC.ret (TX.thenR (TX.finX (.inr rfl) (results0 rfl) (fun w hw => hw) ⟨rfl, rfl, _, _, rfl, hO⟩))
 ·
  exact absurd hneg c6

set_option maxRecDepth 100000 in
set_option maxHeartbeats 2000000 in
theorem varsW_ok {H : Hp} {l : List Term} {v : Value} {bl bo bw : Nat} (hT : RdSl H 6 Term.cells v l) (hl : H bl 0 = some v) (hw : H bw 0 = some (.func (.func 53) #[] #[.pointer (some ⟨bw, 0, none⟩), .pointer (some ⟨bl, 0, none⟩), .pointer (some ⟨bo, 0, none⟩)])) :
  ∀ (f : Nat) (at_ : Int), (at_ < 0 ∨ Tr l f at_) → ∀ (u : Value) (xs : List Str) (ob : Blks), OwnSl 1 Str.cells u xs ob → xs.length + (varsW l f at_).length ≤ 100000000 →
   FnX Try.prog 53 [.int .i64 at_, .pointer (some ⟨bw, 0, none⟩), .pointer (some ⟨bl, 0, none⟩), .pointer (some ⟨bo, 0, none⟩)] H ((bo, [u]) :: ob) (fun r H' L' => r = .tuple #[] ∧ H' = H ∧ ∃ u' ob', L' = (bo, [u']) :: ob' ∧ OwnSl 1 Str.cells u' (xs ++ varsW l f at_) ob') := by
 intro f
 induction f with
 | zero =>
  intro at_ h u xs ob hO hlen
  have h0 : at_ < 0 := h.resolve_right (fun h => h)
  rw [varsW_neg h0, List.append_nil]
  exact varsN_ok h0 hO
 | succ f ih =>
 intro at_ h u xs ob hO hlen
 have one0 := hT.isOne
 obtain ⟨ua, uc, rfl⟩ := hO.form
 refine FnX.enter Try.func53 Try.ntmps53 rfl rfl (fun w0 => ?_)
 refine TC.seq (TC.seq (TC.region (TL.run (pr_pure rfl) rfl (TL.run (pr_pure rfl) rfl (TL.nil (TX.seqN ?_))))))
 refine TC.condD rfl (fun c6 => ?_) (fun c6 => ?_)
 ·
  refine TC.ret (TX.thenR (TX.finX (.inr rfl) (results0 rfl) (fun w hw => hw) ⟨rfl, rfl, _, _, rfl, by rw [varsW_neg c6, List.append_nil]; exact hO⟩))
 ·
  obtain ⟨h0, t, hx, _, _, hTl0, hTl1, hTr0, hTr1⟩ := h.resolve_left c6
  have hlt : at_.toNat < l.length := (List.getElem?_eq_some_iff.1 hx).1
  rw [varsW_at c6 hx] at hlen
  simp only [List.length_append] at hlen
  have hTl : t.l < 0 ∨ Tr l f t.l := by rcases Int.lt_or_le (operandsI t.kind) 1 with h1 | h1; exact .inl (by have := hTl1 h1; omega); exact .inr (hTl0 h1)
  have hTr : t.r < 0 ∨ Tr l f t.r := by rcases Int.lt_or_le (operandsI t.kind) 2 with h1 | h1; exact .inl (by have := hTr1 h1; omega); exact .inr (hTr0 h1)
  refine TC.skip (TX.seqN (TC.seq ?_))
  refine TC.drawn (by kernel_rfl) (by kernel_rfl) ?_
  refine TD.leaf [(0, 2), (1, 2), (2, 1), (3, 1), (4, 1), (5, 2), (6, 0)] (by kernel_rfl) (by kernel_rfl) ?_
  refine TF.still (pr_hp1 rfl hw) rfl (TF.still (pr_hp1 rfl hl) rfl (TF.pure (pr_pure rfl) rfl (TF.pure (pr_indexSl rfl hT rfl (by omega) (by omega)) rfl (TF.pure (pr_field rfl) rfl (TF.still (pr_el1 hT hx rfl rfl) rfl (TF.loud ?_))))))
  refine TL.callX0 (L1 := (bo, [(.slice ua _ uc)]) :: ob) (enters rfl rfl rfl rfl) (ih t.l (hTl) _ _ _ hO (by omega)) rfl (fun v13 H13 L13 hle13 hp13 => ?_)
  obtain ⟨rfl, rfl, u13, ob13, rfl, hO13⟩ := hp13
  obtain ⟨ua13, uc13, rfl⟩ := hO13.form
  refine TF.back (TF.nil (TX.seqN (TC.seq ?_)))
  refine TC.drawn (by kernel_rfl) (by kernel_rfl) ?_
  refine TD.leaf [(0, 2), (1, 2), (2, 1), (3, 1), (4, 1), (5, 2), (6, 0)] (by kernel_rfl) (by kernel_rfl) ?_
  refine TF.still (pr_hp1 rfl hw) rfl (TF.still (pr_hp1 rfl hl) rfl (TF.pure (pr_pure rfl) rfl (TF.pure (pr_indexSl rfl hT rfl (by omega) (by omega)) rfl (TF.pure (pr_field rfl) rfl (TF.still (pr_el1 hT hx rfl rfl) rfl (TF.loud ?_))))))
  refine TL.callX0 (L1 := (bo, [(.slice ua13 _ uc13)]) :: ob13) (enters rfl rfl rfl rfl) (ih t.r (hTr) _ _ _ hO13 (by simp only [List.length_append]; omega)) rfl (fun v20 H20 L20 hle20 hp20 => ?_)
  obtain ⟨rfl, rfl, u20, ob20, rfl, hO20⟩ := hp20
  obtain ⟨ua20, uc20, rfl⟩ := hO20.form
  refine TF.back (TF.nil (TX.seqN (TC.seq (TC.region (TL.run (pr_hp1 rfl hl) rfl (TL.run (pr_pure rfl) rfl (TL.run (pr_indexSl rfl hT rfl (by omega) (by omega)) rfl ?_)))))))
  refine TL.run (pr_field rfl) rfl (TL.run (pr_el1 hT hx rfl rfl) rfl (TL.run (pr_pure rfl) rfl (TL.nil (TX.seqN ?_))))
  refine TC.condD rfl (fun c26 => ?_) (fun c26 => ?_)
  ·
   rw [if_pos c26] at hlen
   simp only [List.length_cons, List.length_nil] at hlen
   refine TC.drawn (by kernel_rfl) (by kernel_rfl) ?_
   refine TD.leaf [(0, 2), (1, 2), (2, 1), (3, 1), (4, 1), (5, 2), (6, 3), (7, 0), (8, 0)] (by kernel_rfl) (by kernel_rfl) ?_
   refine TF.still (pr_own1 rfl (.here _) rfl) rfl (TF.still (pr_hp1 rfl hl) rfl (TF.pure (pr_pure rfl) rfl (TF.pure (pr_indexSl rfl hT rfl (by omega) (by omega)) rfl (TF.pure (pr_field rfl) rfl (TF.still (pr_el1 hT hx rfl rfl) rfl ?_)))))
   refine TF.bslice rfl rfl rfl rfl (fun b33 => ?_)
   refine TF.loud ?_
   refine TL.append (enc := Str.cells) rfl rfl rfl hO20 (Src.own [t.name] (.here _) rfl rfl) (by simp; omega) rfl (.skip _ (.skip _ .all)) rfl (fun a34 c34 ob34 hO34 => ?_)
   refine TF.back (TF.loud ?_)
   refine TL.storeV rfl rfl rfl (.there _ (.here _)) rfl ?_
   refine TF.back (TF.nil (TX.finX (.inl rfl) (results0 rfl) (fun w hw => hw.drop) ⟨rfl, rfl, _, _, rfl, by rw [varsW_at c6 hx, if_pos c26, ← List.append_assoc, ← List.append_assoc]; exact hO34⟩))
  ·
   refine TC.skip (TX.finX (.inl rfl) (results0 rfl) (fun w hw => hw) ⟨rfl, rfl, _, _, rfl, by rw [varsW_at c6 hx, if_neg c26, List.append_nil, ← List.append_assoc]; exact hO20⟩)

set_option maxRecDepth 100000 in
set_option maxHeartbeats 1000000 in
theorem Vars_ok {H : Hp} {l : List Term} {v : Value} (root : Int) (hT : RdSl H 6 Term.cells v l) (hnames : ∀ t ∈ l, t.name.length ≤ 9223372036854775807) :
  Fn Try.prog 49 [v, .int .i64 root] H (fun r H1 => RdSl H1 1 Str.cells r (varsS l root)) := by
 have one1 := hT.isOne
 refine Fn.enter Try.func49 Try.ntmps49 rfl rfl (fun w0 => ?_)
 refine TC.seq (TC.region ?_)
 refine TL.box1 rfl rfl (fun b2 => ?_)
 refine TL.run (pr_pure rfl) rfl (TL.nil (TX.seqN (TC.seq (TC.seq (TC.region (TL.run (pr_own1 rfl (.here _) rfl) rfl (TL.run (pr_pure rfl) rfl ?_)))))))
 refine TL.callS (enters rfl rfl rfl rfl) (May_ok root hT hnames) rfl ?_
 refine TL.run (pr_pure rfl) rfl (TL.nil (TX.seqN ?_))
 refine TC.cond rfl (fun c10 => ?_) (fun c10 => ?_)
 ·
  refine TC.seq (TC.region (TL.run (pr_pure rfl) rfl (TL.nil (TX.seqN (TC.ret (TX.thenR (TX.fin0 (.inr rfl) (results1 rfl (RVal.tmp rfl)) (by unfold varsS; rw [if_neg (by simpa using c10)]; exact RdSl.nil))))))))
 ·
  refine TC.skip (TX.seqN (TC.seq (TC.region ?_)))
  refine TL.alloc rfl (fun b5 => ?_)
  refine TL.nil (TX.seqN (TC.seq (TC.region ?_)))
  refine TL.alloc rfl (fun b6 => ?_)
  refine TL.nil (TX.seqN (TC.seq (TC.region (TL.run (pr_pure rfl) rfl ?_))))
  refine TL.storeV rfl rfl rfl (.here _) rfl ?_
  refine TL.nil (TX.seqN (TC.seq (TC.region ?_)))
  refine TL.pub (by simp) (fun H_b6 le_b6 rd_b6 => ?_)
  refine TL.front (.there _ (.here _)) ?_
  refine TL.pub (by simp) (fun H_b2 le_b2 rd_b2 => ?_)
  have hT2 := (hT.le le_b6).le le_b2
  have hl : H_b2 b2 0 = some v := rd_b2 0 _ rfl
  have hw := le_b2 _ _ _ (rd_b6 0 _ rfl)
  have hm : mayB l root = true := by simpa using c10
  have hvl := mayB_vars hm
  refine TL.run (pr_hp1 rfl hw) rfl (TL.run (pr_pure rfl) rfl ?_)
  refine TL.callX0 (L1 := (b5, [.slice none 0 0]) :: []) (enters rfl rfl rfl rfl) (varsW_ok hT2 hl hw (root.toNat + 1) root (.inr (mayB_Tr hm)) _ [] [] OwnSl.nil (by simp; omega)) rfl (fun v14 H14 L14 hle14 hp14 => ?_)
  obtain ⟨rfl, rfl, u14, ob14, rfl, hO14⟩ := hp14
  rw [List.nil_append] at hO14
  obtain ⟨ua14, uc14, rfl⟩ := hO14.form
  refine TL.nil (TX.seqN (TC.seq (TC.region (TL.run (pr_own1 rfl (.here _) rfl) rfl ?_))))
  refine TL.sort (enters rfl rfl rfl rfl) sort_ok hO14 (.skip _ .all) (by omega) rfl (fun ob16 hO16 => ?_)
  refine TL.nil (TX.seqN (TC.seq (TC.region (TL.run (pr_own1 rfl (.here _) rfl) rfl ?_))))
  refine TL.compact (enters rfl rfl rfl rfl) compact_ok hO16 (.skip _ .all) rfl (fun a18 c18 ob18 hO18 => ?_)
  refine TL.run (pr_pure rfl) rfl (TL.nil (TX.seqN (TC.ret ?_)))
  refine TX.pubO hO18 (.skip _ .all) (by simp) (fun H1 hle hR => ?_)
  exact TX.fin0 (.inr rfl) (results1 rfl (RVal.tmp rfl)) (by unfold varsS; rw [if_pos hm]; exact hR)
end Go.Sx
