import Derived.Test.YtmlgpjficicagaaDoorWDataR
import Derived.Test.YtmlgpjficicagaaDoorWRly
set_option linter.unusedVariables false
set_option linter.unusedSimpArgs false
namespace Go.Sx
open Go Go.Proofs
set_option maxRecDepth 100000 in
set_option maxHeartbeats 2000000 in
theorem rShow_ok {H : Hp} {a : Val} {lv : Value} (hV : RdV H lv a) (hi : i64V a) (hs : mayV a = true → a.k = 5 → a.s.length ≤ 9223372036854775000) :
    FnS Tryd.prog 20 [.agg (a.cells lv).toArray] H (gs (showV a)) := by
  have hV1 : RdSl H 1 I64.cells lv a.l := hV
  have hmax := hV1.max
  refine FnS.enter Tryd.func20 Tryd.ntmps20 rfl rfl (fun w0 => ?_)
  refine TC.seq ?_
  refine TC.region ?_
  refine TL.box rfl rfl (fun b1 => ?_)
  refine TL.run (pr_pure rfl) rfl ?_
  refine TL.nil ?_
  refine TX.seqN ?_
  refine TC.seq ?_
  refine TC.seq ?_
  refine TC.region ?_
  refine TL.run (pr_ownA rfl (.here _) rfl) rfl ?_
  refine TL.callS (enters rfl rfl rfl rfl) (rMay_ok (x := a) (lv := lv) hV) rfl ?_
  refine TL.run (pr_pure rfl) rfl ?_
  refine TL.nil ?_
  refine TX.seqN ?_
  refine TC.cond rfl (fun c7 => ?_) (fun c7 => ?_)
  ·
    have hm : ¬ mayV a = true := by simpa using c7
    refine TC.seq ?_
    refine TC.region ?_
    refine TL.run (pr_pure rfl) rfl ?_
    refine TL.nil ?_
    refine TX.seqN ?_
    refine TC.ret ?_
    refine TX.thenR ?_
    exact TX.finS (.inr rfl) (results1 rfl (RVal.tmp rfl)) (congrArg gs (by unfold showV; first | (rw [if_neg hm]; done) | (rw [if_pos hm, if_pos c10]; done) | (rw [if_pos hm, if_neg c10, if_pos c12]; done) | (rw [if_pos hm, if_neg c10, if_neg c12, if_pos c17]; first | rw [if_pos c21] | rw [if_neg c21]; done) | (rw [if_pos hm, if_neg c10, if_neg c12, if_neg c17, if_pos c22]; done) | (rw [if_pos hm, if_neg c10, if_neg c12, if_neg c17, if_neg c22, if_neg (by omega)]; done) | (rw [if_pos hm, if_neg c10, if_neg c12, if_neg c17, if_neg c22, if_pos hk4, hJ, take_all c40 k0]; done)))
  ·
    have hm : mayV a = true := by simpa using c7
    obtain ⟨m0, m1, m2, m3, m4, m5⟩ := may_all hm
    refine TC.skip ?_
    refine TX.seqN ?_
    refine TC.seq ?_
    refine TC.seq ?_
    refine TC.region ?_
    refine TL.run (pr_field rfl) rfl ?_
    refine TL.run (pr_own1 rfl (.here _) rfl) rfl ?_
    refine TL.nil ?_
    refine TX.seqN ?_
    refine TC.block ?_
    refine TC.seq ?_
    refine TC.region ?_
    refine TL.run (pr_pure rfl) rfl ?_
    refine TL.run (pr_pure rfl) rfl ?_
    refine TL.nil ?_
    refine TX.seqN ?_
    refine TC.condD rfl (fun c10 => ?_) (fun c10 => ?_)
    ·
      refine TC.seq ?_
      refine TC.region ?_
      refine TL.run (pr_pure rfl) rfl ?_
      refine TL.nil ?_
      refine TX.seqN ?_
      refine TC.ret ?_
      refine TX.blkR ?_
      refine TX.thenR ?_
      exact TX.finS (.inr rfl) (results1 rfl (RVal.tmp rfl)) (congrArg gs (by unfold showV; first | (rw [if_neg hm]; done) | (rw [if_pos hm, if_pos c10]; done) | (rw [if_pos hm, if_neg c10, if_pos c12]; done) | (rw [if_pos hm, if_neg c10, if_neg c12, if_pos c17]; first | rw [if_pos c21] | rw [if_neg c21]; done) | (rw [if_pos hm, if_neg c10, if_neg c12, if_neg c17, if_pos c22]; done) | (rw [if_pos hm, if_neg c10, if_neg c12, if_neg c17, if_neg c22, if_neg (by omega)]; done) | (rw [if_pos hm, if_neg c10, if_neg c12, if_neg c17, if_neg c22, if_pos hk4, hJ, take_all c40 k0]; done)))
    ·
      refine TC.seq ?_
      refine TC.region ?_
      refine TL.run (pr_pure rfl) rfl ?_
      refine TL.run (pr_pure rfl) rfl ?_
      refine TL.nil ?_
      refine TX.seqN ?_
      refine TC.condD rfl (fun c12 => ?_) (fun c12 => ?_)
      ·
        refine TC.seq ?_
        refine TC.region ?_
        refine TL.run (pr_field rfl) rfl ?_
        refine TL.run (pr_own1 rfl (.here _) rfl) rfl ?_
        refine TL.callS (enters rfl rfl rfl rfl) (digits_ok a.n hi.1.1 hi.1.2) rfl ?_
        refine TL.run (pr_pure rfl) rfl ?_
        refine TL.nil ?_
        refine TX.seqN ?_
        refine TC.ret ?_
        refine TX.blkR ?_
        refine TX.thenR ?_
        exact TX.finS (.inr rfl) (results1 rfl (RVal.tmp rfl)) (congrArg gs (by unfold showV; first | (rw [if_neg hm]; done) | (rw [if_pos hm, if_pos c10]; done) | (rw [if_pos hm, if_neg c10, if_pos c12]; done) | (rw [if_pos hm, if_neg c10, if_neg c12, if_pos c17]; first | rw [if_pos c21] | rw [if_neg c21]; done) | (rw [if_pos hm, if_neg c10, if_neg c12, if_neg c17, if_pos c22]; done) | (rw [if_pos hm, if_neg c10, if_neg c12, if_neg c17, if_neg c22, if_neg (by omega)]; done) | (rw [if_pos hm, if_neg c10, if_neg c12, if_neg c17, if_neg c22, if_pos hk4, hJ, take_all c40 k0]; done)))
      ·
        refine TC.seq ?_
        refine TC.region ?_
        refine TL.run (pr_pure rfl) rfl ?_
        refine TL.run (pr_pure rfl) rfl ?_
        refine TL.nil ?_
        refine TX.seqN ?_
        refine TC.condD rfl (fun c17 => ?_) (fun c17 => ?_)
        ·
          refine TC.seq ?_
          refine TC.seq ?_
          refine TC.region ?_
          refine TL.run (pr_field rfl) rfl ?_
          refine TL.run (pr_own1 rfl (.here _) rfl) rfl ?_
          refine TL.run (pr_pure rfl) rfl ?_
          refine TL.nil ?_
          refine TX.seqN ?_
          refine TC.condD rfl (fun c21 => ?_) (fun c21 => ?_)
          ·
            refine TC.seq ?_
            refine TC.region ?_
            refine TL.run (pr_pure rfl) rfl ?_
            refine TL.nil ?_
            refine TX.seqN ?_
            refine TC.ret ?_
            refine TX.thenR ?_
            refine TX.blkR ?_
            refine TX.thenR ?_
            exact TX.finS (.inr rfl) (results1 rfl (RVal.tmp rfl)) (congrArg gs (by unfold showV; first | (rw [if_neg hm]; done) | (rw [if_pos hm, if_pos c10]; done) | (rw [if_pos hm, if_neg c10, if_pos c12]; done) | (rw [if_pos hm, if_neg c10, if_neg c12, if_pos c17]; first | rw [if_pos c21] | rw [if_neg c21]; done) | (rw [if_pos hm, if_neg c10, if_neg c12, if_neg c17, if_pos c22]; done) | (rw [if_pos hm, if_neg c10, if_neg c12, if_neg c17, if_neg c22, if_neg (by omega)]; done) | (rw [if_pos hm, if_neg c10, if_neg c12, if_neg c17, if_neg c22, if_pos hk4, hJ, take_all c40 k0]; done)))
          ·
            refine TC.skip ?_
            refine TX.seqN ?_
            refine TC.seq ?_
            refine TC.region ?_
            refine TL.run (pr_pure rfl) rfl ?_
            refine TL.nil ?_
            refine TX.seqN ?_
            refine TC.ret ?_
            refine TX.blkR ?_
            refine TX.thenR ?_
            exact TX.finS (.inr rfl) (results1 rfl (RVal.tmp rfl)) (congrArg gs (by unfold showV; first | (rw [if_neg hm]; done) | (rw [if_pos hm, if_pos c10]; done) | (rw [if_pos hm, if_neg c10, if_pos c12]; done) | (rw [if_pos hm, if_neg c10, if_neg c12, if_pos c17]; first | rw [if_pos c21] | rw [if_neg c21]; done) | (rw [if_pos hm, if_neg c10, if_neg c12, if_neg c17, if_pos c22]; done) | (rw [if_pos hm, if_neg c10, if_neg c12, if_neg c17, if_neg c22, if_neg (by omega)]; done) | (rw [if_pos hm, if_neg c10, if_neg c12, if_neg c17, if_neg c22, if_pos hk4, hJ, take_all c40 k0]; done)))
        ·
          refine TC.seq ?_
          refine TC.region ?_
          refine TL.run (pr_pure rfl) rfl ?_
          refine TL.run (pr_pure rfl) rfl ?_
          refine TL.nil ?_
          refine TX.seqN ?_
          refine TC.condD rfl (fun c22 => ?_) (fun c22 => ?_)
          ·
            have hs3 := (m3 c22).2
            refine TC.seq ?_
            refine TC.region ?_
            refine TL.run (pr_field rfl) rfl ?_
            refine TL.run (pr_own1 rfl (.here _) rfl) rfl ?_
            refine TL.callS (enters rfl rfl rfl rfl) (r_Quoted_ok a.s (by omega)) rfl ?_
            refine TL.run (pr_pure rfl) rfl ?_
            refine TL.nil ?_
            refine TX.seqN ?_
            refine TC.ret ?_
            refine TX.blkR ?_
            refine TX.thenR ?_
            exact TX.finS (.inr rfl) (results1 rfl (RVal.tmp rfl)) (congrArg gs (by unfold showV; first | (rw [if_neg hm]; done) | (rw [if_pos hm, if_pos c10]; done) | (rw [if_pos hm, if_neg c10, if_pos c12]; done) | (rw [if_pos hm, if_neg c10, if_neg c12, if_pos c17]; first | rw [if_pos c21] | rw [if_neg c21]; done) | (rw [if_pos hm, if_neg c10, if_neg c12, if_neg c17, if_pos c22]; done) | (rw [if_pos hm, if_neg c10, if_neg c12, if_neg c17, if_neg c22, if_neg (by omega)]; done) | (rw [if_pos hm, if_neg c10, if_neg c12, if_neg c17, if_neg c22, if_pos hk4, hJ, take_all c40 k0]; done)))
          ·
            refine TC.seq ?_
            refine TC.region ?_
            refine TL.run (pr_pure rfl) rfl ?_
            refine TL.run (pr_pure rfl) rfl ?_
            refine TL.nil ?_
            refine TX.seqN ?_
            refine TC.condD rfl (fun c27 => ?_) (fun c27 => ?_)
            ·
              have hs5 := hs hm c27
              have hil := itoa_len hi.1
              refine TC.seq ?_
              refine TC.quiet (by kernel_rfl) (by kernel_rfl) ?_
              refine TQ.run (pr_field rfl) rfl ?_
              refine TQ.run (pr_own1 rfl (.here _) rfl) rfl ?_
              refine TQ.run (pr_concat rfl rfl (by first | (simp; omega) | omega)) rfl ?_
              refine TQ.run (pr_field rfl) rfl ?_
              refine TQ.run (pr_own1 rfl (.here _) rfl) rfl ?_
              refine TQ.callS (enters rfl rfl rfl rfl) (digits_ok a.n hi.1.1 hi.1.2) rfl ?_
              refine TQ.run (pr_concat rfl rfl (by first | (simp; omega) | omega)) rfl ?_
              refine TQ.run (pr_pure rfl) rfl ?_
              refine TQ.nil ?_
              refine TX.seqN ?_
              refine TC.ret ?_
              refine TX.blkR ?_
              refine TX.thenR ?_
              exact TX.finS (.inr rfl) (results1 rfl (RVal.tmp rfl)) (congrArg gs (by unfold showV; first | (rw [if_neg hm]; done) | (rw [if_pos hm, if_pos c10]; done) | (rw [if_pos hm, if_neg c10, if_pos c12]; done) | (rw [if_pos hm, if_neg c10, if_neg c12, if_pos c17]; first | rw [if_pos c21] | rw [if_neg c21]; done) | (rw [if_pos hm, if_neg c10, if_neg c12, if_neg c17, if_pos c22]; done) | (rw [if_pos hm, if_neg c10, if_neg c12, if_neg c17, if_neg c22, if_neg (by omega)]; done) | (rw [if_pos hm, if_neg c10, if_neg c12, if_neg c17, if_neg c22, if_pos hk4, hJ, take_all c40 k0]; done)))
            ·
              have hk4 : a.k = 4 := by rcases may_k hm with e | e | e | e | e | e <;> first | exact e | exact absurd e (by assumption)
              have hl4 := (m4 hk4).2
              refine TC.skip ?_
              refine TX.blkN ?_
              refine TX.seqN ?_
              refine TC.seq ?_
              refine TC.region ?_
              refine TL.run (pr_pure rfl) rfl ?_
              refine TL.nil ?_
              refine TX.seqN ?_
              refine TC.seq ?_
              refine TC.seq ?_
              refine TC.region ?_
              refine TL.run (pr_pure rfl) rfl ?_
              refine TL.nil ?_
              refine TX.seqN ?_
              refine TC.block ?_
              refine TC.loop (V := fun (p : Int × Str) => [(3, gs p.2), (4, .int .i64 p.1)]) (K := [(1, _), (2, _)]) (L := fun (p : Int × Str) => _) (I := fun (p : Int × Str) => (0 ≤ p.1 ∧ p.1 ≤ a.l.length) ∧ p.2 = [91] ++ Lib.join ((a.l.take p.1.toNat).map Lib.itoa) [32] ∧ (p.2.length : Int) ≤ 1 + 22 * p.1) (μ := fun (p : Int × Str) => (a.l.length - p.1).toNat) (i := ((0 : Int), ([91] : Str))) ⟨rfl, rfl, rfl, rfl, trivial⟩ ⟨⟨by omega, by omega⟩, rfl, by decide⟩ (fun w hw => hw) (fun (p : Int × Str) hI => ?_)
              obtain ⟨⟨k0, k1⟩, hJ, hjl⟩ := hI
              refine TC.seq ?_
              refine TC.seq ?_
              refine TC.region ?_
              refine TL.run (pr_pure rfl) rfl ?_
              refine TL.run (pr_field rfl) rfl ?_
              refine TL.run (pr_own1 rfl (.here _) rfl) rfl ?_
              refine TL.run (pr_lenSl rfl rfl hV1) rfl ?_
              refine TL.run (pr_pure rfl) rfl ?_
              refine TL.nil ?_
              refine TX.seqN ?_
              refine TC.condD rfl (fun c40 => ?_) (fun c40 => ?_)
              ·
                obtain ⟨x, hx⟩ := getSome (l := a.l) k0 c40
                have hix := hi.2 x (List.mem_of_getElem? hx)
                have hil := itoa_len hix
                refine TC.skip ?_
                refine TX.seqN ?_
                refine TC.seq ?_
                refine TC.block ?_
                refine TC.seq ?_
                refine TC.seq ?_
                refine TC.region ?_
                refine TL.run (pr_pure rfl) rfl ?_
                refine TL.run (pr_pure rfl) rfl ?_
                refine TL.nil ?_
                refine TX.seqN ?_
                refine TC.condD rfl (fun c44 => ?_) (fun c44 => ?_)
                ·
                  refine TC.region ?_
                  refine TL.run (pr_pure rfl) rfl ?_
                  refine TL.run (pr_concat rfl rfl (by first | (simp; omega) | omega)) rfl ?_
                  refine TL.run (pr_pure rfl) rfl ?_
                  refine TL.nil ?_
                  refine TX.seqN ?_
                  refine TC.region ?_
                  refine TL.run (pr_pure rfl) rfl ?_
                  refine TL.run (pr_field rfl) rfl ?_
                  refine TL.run (pr_own1 rfl (.here _) rfl) rfl ?_
                  refine TL.run (pr_pure rfl) rfl ?_
                  refine TL.run (pr_indexSl rfl hV1 rfl (by omega) (by omega)) rfl ?_
                  refine TL.run (pr_el0 hV1 hx rfl rfl) rfl ?_
                  refine TL.callS (enters rfl rfl rfl rfl) (digits_ok x hix.1 hix.2) rfl ?_
                  refine TL.run (pr_concat rfl rfl (by first | (simp; omega) | omega)) rfl ?_
                  refine TL.run (pr_pure rfl) rfl ?_
                  refine TL.nil ?_
                  refine TX.blkN ?_
                  refine TX.seqN ?_
                  refine TC.region ?_
                  refine TL.run (pr_pure rfl) rfl ?_
                  refine TL.run ((by first | exact pr_add rfl rfl (by omega) (by omega) | exact pr_pure rfl)) rfl ?_
                  refine TL.run (pr_pure rfl) rfl ?_
                  refine TL.nil ?_
                  exact TX.round (p.1 + 1, _) ⟨⟨by omega, by omega⟩, rshow_next1 k0 hx (by omega) hJ, by first | (simp; omega) | omega⟩ ⟨rfl, rfl, rfl, rfl, trivial⟩ (fun w hw => hw) (by omega)
                ·
                  refine TC.skip ?_
                  refine TX.seqN ?_
                  refine TC.region ?_
                  refine TL.run (pr_pure rfl) rfl ?_
                  refine TL.run (pr_field rfl) rfl ?_
                  refine TL.run (pr_own1 rfl (.here _) rfl) rfl ?_
                  refine TL.run (pr_pure rfl) rfl ?_
                  refine TL.run (pr_indexSl rfl hV1 rfl (by omega) (by omega)) rfl ?_
                  refine TL.run (pr_el0 hV1 hx rfl rfl) rfl ?_
                  refine TL.callS (enters rfl rfl rfl rfl) (digits_ok x hix.1 hix.2) rfl ?_
                  refine TL.run (pr_concat rfl rfl (by first | (simp; omega) | omega)) rfl ?_
                  refine TL.run (pr_pure rfl) rfl ?_
                  refine TL.nil ?_
                  refine TX.blkN ?_
                  refine TX.seqN ?_
                  refine TC.region ?_
                  refine TL.run (pr_pure rfl) rfl ?_
                  refine TL.run ((by first | exact pr_add rfl rfl (by omega) (by omega) | exact pr_pure rfl)) rfl ?_
                  refine TL.run (pr_pure rfl) rfl ?_
                  refine TL.nil ?_
                  exact TX.round (p.1 + 1, _) ⟨⟨by omega, by omega⟩, rshow_next0 k0 hx (by omega) hJ, by first | (simp; omega) | omega⟩ ⟨rfl, rfl, rfl, rfl, trivial⟩ (fun w hw => hw) (by omega)
              ·
                refine TC.exit ?_
                refine TX.thenE ?_
                refine TX.thenE ?_
                refine TX.blkHit ?_
                refine TX.seqN ?_
                refine TC.seq ?_
                refine TC.region ?_
                refine TL.run (pr_pure rfl) rfl ?_
                refine TL.run (pr_concat rfl rfl (by first | (simp; omega) | omega)) rfl ?_
                refine TL.run (pr_pure rfl) rfl ?_
                refine TL.nil ?_
                refine TX.seqN ?_
                refine TC.ret ?_
                exact TX.finS (.inr rfl) (results1 rfl (RVal.tmp rfl)) (congrArg gs (by unfold showV; first | (rw [if_neg hm]; done) | (rw [if_pos hm, if_pos c10]; done) | (rw [if_pos hm, if_neg c10, if_pos c12]; done) | (rw [if_pos hm, if_neg c10, if_neg c12, if_pos c17]; first | rw [if_pos c21] | rw [if_neg c21]; done) | (rw [if_pos hm, if_neg c10, if_neg c12, if_neg c17, if_pos c22]; done) | (rw [if_pos hm, if_neg c10, if_neg c12, if_neg c17, if_neg c22, if_neg (by omega)]; done) | (rw [if_pos hm, if_neg c10, if_neg c12, if_neg c17, if_neg c22, if_pos hk4, hJ, take_all c40 k0]; done)))
end Go.Sx
