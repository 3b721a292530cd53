import Derived.Test.YtmlgpjficicagaaDoorWNames
import Derived.Test.YtmlgpjficicagaaDoorPureRx
set_option linter.unusedVariables false
set_option linter.unusedSimpArgs false
namespace Go.Sx
open Go Go.Proofs
set_option maxRecDepth 100000 in
set_option maxHeartbeats 1000000 in
theorem r_hex_ok {H : Hp} (c : UInt8) :
    FnS Tryd.prog 54 [.int .u8 (c.toNat : Int)] H (.int .i64 (hexI c)) := by
  refine FnS.enter Tryd.func54 Tryd.ntmps54 rfl rfl (fun w0 => ?_)
  refine TC.seq ?_
  refine TC.region ?_
  refine TL.run (pr_pure rfl) rfl ?_
  refine TL.nil ?_
  refine TX.seqN ?_
  refine TC.seq ?_
  refine TC.block ?_
  refine TC.seq ?_
  refine TC.region ?_
  refine TL.run (pr_pure rfl) rfl ?_
  refine TL.callS (enters rfl rfl rfl rfl) (r_digit_ok c) rfl ?_
  refine TL.run (pr_pure rfl) rfl ?_
  refine TL.nil ?_
  refine TX.seqN ?_
  refine TC.cond rfl (fun c3 => ?_) (fun c3 => ?_)
  ·
    refine TC.seq ?_
    refine TC.region ?_
    refine TL.run (pr_pure rfl) rfl ?_
    refine TL.run (PR.to (pr_pure rfl) (congrArg (Value.int .u8) (u8_wrap_sub c 48))) rfl ?_
    refine TL.run (PR.to (pr_conv rfl) (congrArg (Value.int .i64) (wrap_u8 (c - 48)))) rfl ?_
    refine TL.run (pr_pure rfl) rfl ?_
    refine TL.nil ?_
    refine TX.seqN ?_
    refine TC.ret ?_
    refine TX.blkR ?_
    refine TX.thenR ?_
    exact TX.finS (.inr rfl) (results1 rfl (RVal.tmp rfl)) (congrArg (Value.int .i64) (by first | exact (hexI_1 c3).symm | exact (hexI_2 c3 c9).symm | exact (hexI_3 c3 c9).symm))
  ·
    refine TC.sw (decide ((97 : Int) ≤ c.toNat) && decide ((c.toNat : Int) ≤ 102)) 9 [(0, _), (2, _)] ⟨rfl, rfl, trivial⟩ ?_ ?_
    ·
      refine TC.region ?_
      refine TL.run (pr_pure rfl) rfl ?_
      refine TL.run (pr_pure rfl) rfl ?_
      refine TL.run (pr_pure rfl) rfl ?_
      refine TL.split (s := 12) rfl (fun g12 => ?_) (fun g12 => ?_)
      ·
        have q12 := of_decide_eq_true g12
        refine TL.gdY rfl rfl (pr_pure rfl) rfl ?_
        refine TL.gdY rfl rfl (pr_pure rfl) rfl ?_
        refine TL.run (pr_pure rfl) rfl ?_
        refine TL.run (pr_pure rfl) rfl ?_
        refine TL.nil ?_
        exact TX.sw rfl (by first | (simp_all; done) | (simp_all; omega)) ⟨rfl, rfl, trivial⟩
      ·
        have q12 := of_decide_eq_false g12
        refine TL.gdN rfl rfl rfl rfl ?_
        refine TL.gdN rfl rfl rfl rfl ?_
        refine TL.run (pr_pure rfl) rfl ?_
        refine TL.run (pr_pure rfl) rfl ?_
        refine TL.nil ?_
        exact TX.sw rfl (by first | (simp_all; done) | (simp_all; omega)) ⟨rfl, rfl, trivial⟩
    refine TC.cond rfl (fun c9 => ?_) (fun c9 => ?_)
    ·
      refine TC.seq ?_
      refine TC.region ?_
      refine TL.run (pr_pure rfl) rfl ?_
      refine TL.run (PR.to (pr_pure rfl) (congrArg (Value.int .u8) (u8_wrap_sub c 97))) rfl ?_
      refine TL.run (PR.to (pr_conv rfl) (congrArg (Value.int .i64) (wrap_u8 (c - 97)))) rfl ?_
      refine TL.run (pr_add rfl rfl (by have := (c - 97).toNat_lt; omega) (by have := (c - 97).toNat_lt; omega)) rfl ?_
      refine TL.run (pr_pure rfl) rfl ?_
      refine TL.nil ?_
      refine TX.seqN ?_
      refine TC.ret ?_
      refine TX.blkR ?_
      refine TX.thenR ?_
      exact TX.finS (.inr rfl) (results1 rfl (RVal.tmp rfl)) (congrArg (Value.int .i64) (by first | exact (hexI_1 c3).symm | exact (hexI_2 c3 c9).symm | exact (hexI_3 c3 c9).symm))
    ·
      refine TC.skip ?_
      refine TX.blkN ?_
      refine TX.seqN ?_
      refine TC.seq ?_
      refine TC.region ?_
      refine TL.run (pr_pure rfl) rfl ?_
      refine TL.nil ?_
      refine TX.seqN ?_
      refine TC.ret ?_
      exact TX.finS (.inr rfl) (results1 rfl (RVal.tmp rfl)) (congrArg (Value.int .i64) (by first | exact (hexI_1 c3).symm | exact (hexI_2 c3 c9).symm | exact (hexI_3 c3 c9).symm))

set_option maxRecDepth 100000 in
set_option maxHeartbeats 4000000 in
theorem r_quote_ok {H : Hp} (s : Str) (at_ : Int) (h0 : 0 ≤ at_) (h1 : at_ < s.length) (hmax : s.length ≤ 140737488355328) :
    FnS Tryd.prog 34 [gs s, .int .i64 at_] H (quoteV s (quoteL (s.drop (at_ + 1).toNat))) := by
  refine FnS.enter Tryd.func34 Tryd.ntmps34 rfl rfl (fun w0 => ?_)
  refine TC.seq ?_
  refine TC.region ?_
  refine TL.run (pr_pure rfl) rfl ?_
  refine TL.run (pr_pure rfl) rfl ?_
  refine TL.run (pr_pure rfl) rfl ?_
  refine TL.nil ?_
  refine TX.seqN ?_
  refine TC.seq ?_
  refine TC.region ?_
  refine TL.run (pr_pure rfl) rfl ?_
  refine TL.nil ?_
  refine TX.seqN ?_
  refine TC.seq ?_
  refine TC.region ?_
  refine TL.run (pr_pure rfl) rfl ?_
  refine TL.run ((by first | exact pr_add rfl rfl (by omega) (by omega) | exact pr_pure rfl)) rfl ?_
  refine TL.run (pr_pure rfl) rfl ?_
  refine TL.nil ?_
  refine TX.seqN ?_
  refine TC.seq ?_
  refine TC.block ?_
  refine TC.loop4 (V := fun k v ob H1 => [(8, .int .i64 k), (7, v)]) (K := [(0, _), (4, _), (5, _), (6, _)]) (L := fun k v ob H1 => St [] w0 H H ob) (I := fun k v ob H1 => (at_ + 1 ≤ k ∧ k ≤ s.length) ∧ ∃ o : Str, OwnSl 1 U8.cells v o ob ∧ (quoteL (s.drop (at_ + 1).toNat)) = pre o (quoteL (s.drop k.toNat)) ∧ (o.length : Int) ≤ k) (μ := fun k => (s.length - k).toNat) (at_ + 1) (.slice none 0 0) [] H ⟨rfl, rfl, rfl, rfl, rfl, rfl, trivial⟩ ⟨⟨by omega, by omega⟩, [], OwnSl.nil, by cases quoteL (s.drop (at_ + 1).toNat) <;> rfl, by simp; omega⟩ (fun w hw => hw) (fun k v ob H1 hI => ?_)
  obtain ⟨⟨k0, k1⟩, o, hO, hq, hol⟩ := hI
  obtain ⟨va, vc, rfl⟩ := hO.form
  refine TC.seq ?_
  refine TC.seq ?_
  refine TC.region ?_
  refine TL.run (pr_pure rfl) rfl ?_
  refine TL.run (pr_pure rfl) rfl ?_
  refine TL.run (pr_lenStr rfl rfl) rfl ?_
  refine TL.run (pr_pure rfl) rfl ?_
  refine TL.nil ?_
  refine TX.seqN ?_
  refine TC.condD rfl (fun c15 => ?_) (fun c15 => ?_)
  ·
    obtain ⟨c, hc⟩ := getSome (l := s) (i := k) (by omega) c15
    refine TC.skip ?_
    refine TX.seqN ?_
    refine TC.block ?_
    refine TC.seq ?_
    refine TC.region ?_
    refine TL.run (pr_pure rfl) rfl ?_
    refine TL.run (pr_pure rfl) rfl ?_
    refine TL.run (pr_strIx rfl rfl (by omega) hc) rfl ?_
    refine TL.run (pr_pure rfl) rfl ?_
    refine TL.nil ?_
    refine TX.seqN ?_
    refine TC.seq ?_
    refine TC.block ?_
    refine TC.seq ?_
    refine TC.region ?_
    refine TL.run (pr_pure rfl) rfl ?_
    refine TL.run (pr_pure rfl) rfl ?_
    refine TL.run (pr_pure rfl) rfl ?_
    refine TL.nil ?_
    refine TX.seqN ?_
    refine TC.condD rfl (fun c19 => ?_) (fun c19 => ?_)
    ·
      refine TC.seq ?_
      refine TC.region ?_
      refine TL.run (pr_pure rfl) rfl ?_
      refine TL.run (pr_bytes rfl hO .all) rfl ?_
      refine TL.run (pr_pure rfl) rfl ?_
      refine TL.run ((by first | exact pr_add rfl rfl (by omega) (by omega) | exact pr_pure rfl)) rfl ?_
      refine TL.run (pr_pure rfl) rfl ?_
      refine TL.run (pr_pure rfl) rfl ?_
      refine TL.run (pr_pure rfl) rfl ?_
      refine TL.nil ?_
      refine TX.seqN ?_
      refine TC.ret ?_
      refine TX.blkR ?_
      refine TX.thenR ?_
      refine TX.blkR ?_
      refine TX.thenR ?_
      refine TX.blkR ?_
      refine TX.thenR ?_
      exact TX.finS (.inr rfl) (results3 rfl (RVal.tmp rfl) (RVal.tmp rfl) (RVal.tmp rfl)) (q_end (by omega) hc c19 hq)
    ·
      refine TC.sw (!plainB c) 26 [(0, _), (4, _), (5, _), (6, _), (7, _), (8, _), (9, _), (12, _), (13, _), (14, _), (15, _), (16, _), (17, _), (18, _), (19, _), (20, _), (21, _)] ⟨rfl, rfl, rfl, rfl, rfl, rfl, rfl, rfl, rfl, rfl, rfl, rfl, rfl, rfl, rfl, rfl, rfl, trivial⟩ ?_ ?_
      ·
        refine TC.region ?_
        refine TL.run (pr_pure rfl) rfl ?_
        refine TL.run (pr_pure rfl) rfl ?_
        refine TL.run (pr_pure rfl) rfl ?_
        refine TL.split (s := 29) rfl (fun g29 => ?_) (fun g29 => ?_)
        ·
          have q29 := of_decide_eq_true g29
          refine TL.gdN rfl rfl rfl rfl ?_
          refine TL.gdN rfl rfl rfl rfl ?_
          refine TL.run (pr_pure rfl) rfl ?_
          refine TL.run (pr_pure rfl) rfl ?_
          refine TL.nil ?_
          exact TX.sw rfl (by first | exact plain_1 g29 | exact plain_2 g29) ⟨rfl, rfl, rfl, rfl, rfl, rfl, rfl, rfl, rfl, rfl, rfl, rfl, rfl, rfl, rfl, rfl, rfl, trivial⟩
        ·
          have q29 := of_decide_eq_false g29
          refine TL.gdY rfl rfl (pr_pure rfl) rfl ?_
          refine TL.gdY rfl rfl (pr_pure rfl) rfl ?_
          refine TL.run (pr_pure rfl) rfl ?_
          refine TL.run (pr_pure rfl) rfl ?_
          refine TL.nil ?_
          exact TX.sw rfl (by first | exact plain_1 g29 | exact plain_2 g29) ⟨rfl, rfl, rfl, rfl, rfl, rfl, rfl, rfl, rfl, rfl, rfl, rfl, rfl, rfl, rfl, rfl, rfl, trivial⟩
      refine TC.cond rfl (fun c26 => ?_) (fun c26 => ?_)
      ·
        refine TC.seq ?_
        refine TC.region ?_
        refine TL.run (pr_pure rfl) rfl ?_
        refine TL.run (pr_pure rfl) rfl ?_
        refine TL.run (pr_pure rfl) rfl ?_
        refine TL.nil ?_
        refine TX.seqN ?_
        refine TC.ret ?_
        refine TX.blkR ?_
        refine TX.thenR ?_
        refine TX.blkR ?_
        refine TX.thenR ?_
        refine TX.blkR ?_
        refine TX.thenR ?_
        exact TX.finS (.inr rfl) (results3 rfl (RVal.tmp rfl) (RVal.tmp rfl) (RVal.tmp rfl)) (q_none (by first | exact q_out c15 hq | exact q_badc2 (by omega) hc c19 c26 hq | exact q_short (by omega) hc c33 c46 hq | exact q_bad3 (by omega) hc c33 he c51 c63 c70 hq | exact q_x3 (by omega) hc c33 he c70 q77 hq | exact q_x4 (by omega) hc c33 he c70 ha hb2 (.inl (of_decide_eq_true g85)) hq | exact q_x4 (by omega) hc c33 he c70 ha hb2 (.inr c92) hq))
      ·
        refine TC.seq ?_
        refine TC.region ?_
        refine TL.run (pr_pure rfl) rfl ?_
        refine TL.run (pr_pure rfl) rfl ?_
        refine TL.run (pr_pure rfl) rfl ?_
        refine TL.nil ?_
        refine TX.seqN ?_
        refine TC.condND rfl (fun c33 => ?_) (fun c33 => ?_)
        ·
          refine TC.seq ?_
          refine TC.region ?_
          refine TL.run (pr_pure rfl) rfl ?_
          refine TL.run (pr_pure rfl) rfl ?_
          refine TL.bslice rfl rfl rfl rfl (fun b38 => ?_)
          refine TL.append (enc := U8.cells) rfl rfl rfl hO (Src.own [c] (.here _) rfl rfl) (by simp; omega) rfl (.skip _ .all) rfl (fun a39 c39 ob39 hO39 => ?_)
          refine TL.run (pr_pure rfl) rfl ?_
          refine TL.nil ?_
          refine TX.seqN ?_
          refine TC.seq ?_
          refine TC.region ?_
          refine TL.run (pr_pure rfl) rfl ?_
          refine TL.run ((by first | exact pr_add rfl rfl (by omega) (by omega) | exact pr_pure rfl)) rfl ?_
          refine TL.run (pr_pure rfl) rfl ?_
          refine TL.nil ?_
          refine TX.seqN ?_
          refine TC.exit ?_
          refine TX.blkMiss rfl ?_
          refine TX.thenE ?_
          refine TX.blkHit ?_
          exact TX.round4 (k + 1) _ ob39 H1 ⟨⟨by omega, by omega⟩, _, hO39, q_plain (by omega) hc c19 c33 c26 hq, by simp; omega⟩ ⟨rfl, rfl, rfl, rfl, rfl, rfl, trivial⟩ (fun w hw => hw.drop) (by omega)
        ·
          refine TC.skip ?_
          refine TX.blkN ?_
          refine TX.seqN ?_
          refine TC.seq ?_
          refine TC.seq ?_
          refine TC.region ?_
          refine TL.run (pr_pure rfl) rfl ?_
          refine TL.run ((by first | exact pr_add rfl rfl (by omega) (by omega) | exact pr_pure rfl)) rfl ?_
          refine TL.run (pr_pure rfl) rfl ?_
          refine TL.run (pr_lenStr rfl rfl) rfl ?_
          refine TL.run (pr_pure rfl) rfl ?_
          refine TL.nil ?_
          refine TX.seqN ?_
          refine TC.condD rfl (fun c46 => ?_) (fun c46 => ?_)
          ·
            refine TC.seq ?_
            refine TC.region ?_
            refine TL.run (pr_pure rfl) rfl ?_
            refine TL.run (pr_pure rfl) rfl ?_
            refine TL.run (pr_pure rfl) rfl ?_
            refine TL.nil ?_
            refine TX.seqN ?_
            refine TC.ret ?_
            refine TX.thenR ?_
            refine TX.blkR ?_
            refine TX.thenR ?_
            refine TX.blkR ?_
            refine TX.thenR ?_
            exact TX.finS (.inr rfl) (results3 rfl (RVal.tmp rfl) (RVal.tmp rfl) (RVal.tmp rfl)) (q_none (by first | exact q_out c15 hq | exact q_badc2 (by omega) hc c19 c26 hq | exact q_short (by omega) hc c33 c46 hq | exact q_bad3 (by omega) hc c33 he c51 c63 c70 hq | exact q_x3 (by omega) hc c33 he c70 q77 hq | exact q_x4 (by omega) hc c33 he c70 ha hb2 (.inl (of_decide_eq_true g85)) hq | exact q_x4 (by omega) hc c33 he c70 ha hb2 (.inr c92) hq))
          ·
            obtain ⟨e, he⟩ := getSome (l := s) (i := k + 1) (by omega) (by omega)
            have hel := ix_lt he
            refine TC.skip ?_
            refine TX.seqN ?_
            refine TC.seq ?_
            refine TC.region ?_
            refine TL.run (pr_pure rfl) rfl ?_
            refine TL.run (pr_pure rfl) rfl ?_
            refine TL.run ((by first | exact pr_add rfl rfl (by omega) (by omega) | exact pr_pure rfl)) rfl ?_
            refine TL.run (pr_strIx rfl rfl (by omega) he) rfl ?_
            refine TL.nil ?_
            refine TX.seqN ?_
            refine TC.block ?_
            refine TC.sw (decide ((e.toNat : Int) = 34) || decide ((e.toNat : Int) = 92)) 51 [(0, _), (4, _), (5, _), (6, _), (7, _), (8, _), (9, _), (12, _), (13, _), (14, _), (15, _), (16, _), (17, _), (18, _), (19, _), (20, _), (21, _), (26, _), (33, _), (34, _), (35, _), (42, _), (43, _), (44, _), (45, _), (46, _), (47, _), (48, _), (49, _), (50, _)] ⟨rfl, rfl, rfl, rfl, rfl, rfl, rfl, rfl, rfl, rfl, rfl, rfl, rfl, rfl, rfl, rfl, rfl, rfl, rfl, rfl, rfl, rfl, rfl, rfl, rfl, rfl, rfl, rfl, rfl, rfl, trivial⟩ ?_ ?_
            ·
              refine TC.swG (pr_pure rfl) rfl rfl ⟨rfl, rfl, rfl, rfl, rfl, rfl, rfl, rfl, rfl, rfl, rfl, rfl, rfl, rfl, rfl, rfl, rfl, rfl, rfl, rfl, rfl, rfl, rfl, rfl, rfl, rfl, rfl, rfl, rfl, rfl, trivial⟩ ?_
              exact TC.swE (pr_pure rfl) rfl rfl ⟨rfl, rfl, rfl, rfl, rfl, rfl, rfl, rfl, rfl, rfl, rfl, rfl, rfl, rfl, rfl, rfl, rfl, rfl, rfl, rfl, rfl, rfl, rfl, rfl, rfl, rfl, rfl, rfl, rfl, rfl, trivial⟩
            refine TC.cond rfl (fun c51 => ?_) (fun c51 => ?_)
            ·
              refine TC.seq ?_
              refine TC.region ?_
              refine TL.run (pr_pure rfl) rfl ?_
              refine TL.run (pr_pure rfl) rfl ?_
              refine TL.run (pr_pure rfl) rfl ?_
              refine TL.run ((by first | exact pr_add rfl rfl (by omega) (by omega) | exact pr_pure rfl)) rfl ?_
              refine TL.run (pr_strIx rfl rfl (by omega) he) rfl ?_
              refine TL.bslice rfl rfl rfl rfl (fun b59 => ?_)
              refine TL.append (enc := U8.cells) rfl rfl rfl hO (Src.own [e] (.here _) rfl rfl) (by simp; omega) rfl (.skip _ .all) rfl (fun a60 c60 ob60 hO60 => ?_)
              refine TL.run (pr_pure rfl) rfl ?_
              refine TL.nil ?_
              refine TX.seqN ?_
              refine TC.region ?_
              refine TL.run (pr_pure rfl) rfl ?_
              refine TL.run ((by first | exact pr_add rfl rfl (by omega) (by omega) | exact pr_pure rfl)) rfl ?_
              refine TL.run (pr_pure rfl) rfl ?_
              refine TL.nil ?_
              refine TX.blkN ?_
              refine TX.blkN ?_
              exact TX.round4 (k + 2) _ ob60 H1 ⟨⟨by omega, by omega⟩, _, hO60, q_esc2 (by omega) hc c33 he (two_or c51) hq, by simp; omega⟩ ⟨rfl, rfl, rfl, rfl, rfl, rfl, trivial⟩ (fun w hw => hw.drop) (by omega)
            ·
              refine TC.seq ?_
              refine TC.region ?_
              refine TL.run (pr_pure rfl) rfl ?_
              refine TL.run (pr_pure rfl) rfl ?_
              refine TL.nil ?_
              refine TX.seqN ?_
              refine TC.condD rfl (fun c63 => ?_) (fun c63 => ?_)
              ·
                refine TC.seq ?_
                refine TC.region ?_
                refine TL.run (pr_pure rfl) rfl ?_
                refine TL.bslice rfl rfl rfl rfl (fun b66 => ?_)
                refine TL.append (enc := U8.cells) rfl rfl rfl hO (Src.own [10] (.here _) rfl rfl) (by simp; omega) rfl (.skip _ .all) rfl (fun a67 c67 ob67 hO67 => ?_)
                refine TL.run (pr_pure rfl) rfl ?_
                refine TL.nil ?_
                refine TX.seqN ?_
                refine TC.region ?_
                refine TL.run (pr_pure rfl) rfl ?_
                refine TL.run ((by first | exact pr_add rfl rfl (by omega) (by omega) | exact pr_pure rfl)) rfl ?_
                refine TL.run (pr_pure rfl) rfl ?_
                refine TL.nil ?_
                refine TX.blkN ?_
                refine TX.blkN ?_
                exact TX.round4 (k + 2) _ ob67 H1 ⟨⟨by omega, by omega⟩, _, hO67, q_n2 (by omega) hc c33 he c63 hq, by simp; omega⟩ ⟨rfl, rfl, rfl, rfl, rfl, rfl, trivial⟩ (fun w hw => hw.drop) (by omega)
              ·
                refine TC.seq ?_
                refine TC.region ?_
                refine TL.run (pr_pure rfl) rfl ?_
                refine TL.run (pr_pure rfl) rfl ?_
                refine TL.nil ?_
                refine TX.seqN ?_
                refine TC.condD rfl (fun c70 => ?_) (fun c70 => ?_)
                ·
                  refine TC.seq ?_
                  refine TC.seq ?_
                  refine TC.region ?_
                  refine TL.run (pr_pure rfl) rfl ?_
                  refine TL.run ((by first | exact pr_add rfl rfl (by omega) (by omega) | exact pr_pure rfl)) rfl ?_
                  refine TL.run (pr_pure rfl) rfl ?_
                  refine TL.run (pr_lenStr rfl rfl) rfl ?_
                  refine TL.run (pr_pure rfl) rfl ?_
                  refine TL.run (pr_pure rfl) rfl ?_
                  refine TL.split (s := 77) rfl (fun g77 => ?_) (fun g77 => ?_)
                  ·
                    have q77 := of_decide_eq_true g77
                    refine TL.gdN rfl rfl rfl rfl ?_
                    refine TL.gdN rfl rfl rfl rfl ?_
                    refine TL.gdN rfl rfl rfl rfl ?_
                    refine TL.gdN rfl rfl rfl rfl ?_
                    refine TL.gdN rfl rfl rfl rfl ?_
                    refine TL.gdN rfl rfl rfl rfl ?_
                    refine TL.run (pr_pure rfl) rfl ?_
                    refine TL.run (pr_pure rfl) rfl ?_
                    refine TL.gdN rfl rfl rfl rfl ?_
                    refine TL.gdN rfl rfl rfl rfl ?_
                    refine TL.gdN rfl rfl rfl rfl ?_
                    refine TL.gdN rfl rfl rfl rfl ?_
                    refine TL.gdN rfl rfl rfl rfl ?_
                    refine TL.gdN rfl rfl rfl rfl ?_
                    refine TL.run (pr_pure rfl) rfl ?_
                    refine TL.nil ?_
                    refine TX.seqN ?_
                    refine TC.condT rfl ?_
                    refine TC.seq ?_
                    refine TC.region ?_
                    refine TL.run (pr_pure rfl) rfl ?_
                    refine TL.run (pr_pure rfl) rfl ?_
                    refine TL.run (pr_pure rfl) rfl ?_
                    refine TL.nil ?_
                    refine TX.seqN ?_
                    refine TC.ret ?_
                    refine TX.thenR ?_
                    refine TX.blkR ?_
                    refine TX.blkR ?_
                    refine TX.thenR ?_
                    refine TX.blkR ?_
                    refine TX.thenR ?_
                    exact TX.finS (.inr rfl) (results3 rfl (RVal.tmp rfl) (RVal.tmp rfl) (RVal.tmp rfl)) (q_none (by first | exact q_out c15 hq | exact q_badc2 (by omega) hc c19 c26 hq | exact q_short (by omega) hc c33 c46 hq | exact q_bad3 (by omega) hc c33 he c51 c63 c70 hq | exact q_x3 (by omega) hc c33 he c70 q77 hq | exact q_x4 (by omega) hc c33 he c70 ha hb2 (.inl (of_decide_eq_true g85)) hq | exact q_x4 (by omega) hc c33 he c70 ha hb2 (.inr c92) hq))
                  ·
                    have q77 := of_decide_eq_false g77
                    obtain ⟨a, ha⟩ := getSome (l := s) (i := k + 2) (by omega) (by omega)
                    obtain ⟨b, hb2⟩ := getSome (l := s) (i := k + 3) (by omega) (by omega)
                    have hbl := ix_lt hb2
                    refine TL.gdY rfl rfl (pr_pure rfl) rfl ?_
                    refine TL.gdY rfl rfl (pr_pure rfl) rfl ?_
                    refine TL.gdY rfl rfl ((by first | exact pr_add rfl rfl (by omega) (by omega) | exact pr_pure rfl)) rfl ?_
                    refine TL.gdY rfl rfl (pr_strIx rfl rfl (by omega) ha) rfl ?_
                    refine TL.callSY rfl rfl (enters rfl rfl rfl rfl) (r_hex_ok a) rfl ?_
                    refine TL.gdY rfl rfl (pr_pure rfl) rfl ?_
                    refine TL.run (pr_pure rfl) rfl ?_
                    refine TL.run (pr_pure rfl) rfl ?_
                    refine TL.split (s := 85) rfl (fun g85 => ?_) (fun g85 => ?_)
                    ·
                      have q85 := of_decide_eq_true g85
                      refine TL.gdN rfl rfl rfl rfl ?_
                      refine TL.gdN rfl rfl rfl rfl ?_
                      refine TL.gdN rfl rfl rfl rfl ?_
                      refine TL.gdN rfl rfl rfl rfl ?_
                      refine TL.gdN rfl rfl rfl rfl ?_
                      refine TL.gdN rfl rfl rfl rfl ?_
                      refine TL.run (pr_pure rfl) rfl ?_
                      refine TL.nil ?_
                      refine TX.seqN ?_
                      refine TC.condT rfl ?_
                      refine TC.seq ?_
                      refine TC.region ?_
                      refine TL.run (pr_pure rfl) rfl ?_
                      refine TL.run (pr_pure rfl) rfl ?_
                      refine TL.run (pr_pure rfl) rfl ?_
                      refine TL.nil ?_
                      refine TX.seqN ?_
                      refine TC.ret ?_
                      refine TX.thenR ?_
                      refine TX.blkR ?_
                      refine TX.blkR ?_
                      refine TX.thenR ?_
                      refine TX.blkR ?_
                      refine TX.thenR ?_
                      exact TX.finS (.inr rfl) (results3 rfl (RVal.tmp rfl) (RVal.tmp rfl) (RVal.tmp rfl)) (q_none (by first | exact q_out c15 hq | exact q_badc2 (by omega) hc c19 c26 hq | exact q_short (by omega) hc c33 c46 hq | exact q_bad3 (by omega) hc c33 he c51 c63 c70 hq | exact q_x3 (by omega) hc c33 he c70 q77 hq | exact q_x4 (by omega) hc c33 he c70 ha hb2 (.inl (of_decide_eq_true g85)) hq | exact q_x4 (by omega) hc c33 he c70 ha hb2 (.inr c92) hq))
                    ·
                      have q85 := of_decide_eq_false g85
                      refine TL.gdY rfl rfl (pr_pure rfl) rfl ?_
                      refine TL.gdY rfl rfl (pr_pure rfl) rfl ?_
                      refine TL.gdY rfl rfl ((by first | exact pr_add rfl rfl (by omega) (by omega) | exact pr_pure rfl)) rfl ?_
                      refine TL.gdY rfl rfl (pr_strIx rfl rfl (by omega) hb2) rfl ?_
                      refine TL.callSY rfl rfl (enters rfl rfl rfl rfl) (r_hex_ok b) rfl ?_
                      refine TL.gdY rfl rfl (pr_pure rfl) rfl ?_
                      refine TL.run (pr_pure rfl) rfl ?_
                      refine TL.nil ?_
                      refine TX.seqN ?_
                      refine TC.condD rfl (fun c92 => ?_) (fun c92 => ?_)
                      ·
                        refine TC.seq ?_
                        refine TC.region ?_
                        refine TL.run (pr_pure rfl) rfl ?_
                        refine TL.run (pr_pure rfl) rfl ?_
                        refine TL.run (pr_pure rfl) rfl ?_
                        refine TL.nil ?_
                        refine TX.seqN ?_
                        refine TC.ret ?_
                        refine TX.thenR ?_
                        refine TX.blkR ?_
                        refine TX.blkR ?_
                        refine TX.thenR ?_
                        refine TX.blkR ?_
                        refine TX.thenR ?_
                        exact TX.finS (.inr rfl) (results3 rfl (RVal.tmp rfl) (RVal.tmp rfl) (RVal.tmp rfl)) (q_none (by first | exact q_out c15 hq | exact q_badc2 (by omega) hc c19 c26 hq | exact q_short (by omega) hc c33 c46 hq | exact q_bad3 (by omega) hc c33 he c51 c63 c70 hq | exact q_x3 (by omega) hc c33 he c70 q77 hq | exact q_x4 (by omega) hc c33 he c70 ha hb2 (.inl (of_decide_eq_true g85)) hq | exact q_x4 (by omega) hc c33 he c70 ha hb2 (.inr c92) hq))
                      ·
                        have hxx := hex_both (of_decide_eq_false g85) c92
                        have hxa := hexI_ok hxx.1
                        have hxb := hexI_ok hxx.2
                        refine TC.skip ?_
                        refine TX.seqN ?_
                        refine TC.seq ?_
                        refine TC.drawn (by kernel_rfl) (by kernel_rfl) ?_
                        refine TD.leaf [(0, 1), (1, 1), (2, 1), (3, 1), (4, 1), (7, 1), (8, 1), (9, 1), (10, 1), (5, 3), (6, 1), (11, 3), (12, 1), (13, 1), (14, 3), (15, 0), (16, 1)] (by kernel_rfl) (by kernel_rfl) ?_
                        refine TF.pure (pr_pure rfl) rfl ?_
                        refine TF.pure (pr_pure rfl) rfl ?_
                        refine TF.pure (pr_pure rfl) rfl ?_
                        refine TF.pure ((by first | exact pr_add rfl rfl (by omega) (by omega) | exact pr_pure rfl)) rfl ?_
                        refine TF.pure (pr_strIx rfl rfl (by omega) ha) rfl ?_
                        refine TF.pure (pr_pure rfl) rfl ?_
                        refine TF.pure (pr_pure rfl) rfl ?_
                        refine TF.pure ((by first | exact pr_add rfl rfl (by omega) (by omega) | exact pr_pure rfl)) rfl ?_
                        refine TF.pure (pr_strIx rfl rfl (by omega) hb2) rfl ?_
                        refine TF.callS (enters rfl rfl rfl rfl) (r_hex_ok a) rfl ?_
                        refine TF.pure ((by first | exact pr_mul rfl rfl (by omega) (by omega) | exact pr_pure rfl)) rfl ?_
                        refine TF.callS (enters rfl rfl rfl rfl) (r_hex_ok b) rfl ?_
                        refine TF.pure ((by first | exact pr_add rfl rfl (by omega) (by omega) | exact pr_pure rfl)) rfl ?_
                        refine TF.pure (PR.to (pr_conv rfl) (congrArg (Value.int .u8) (hex_byte hxx.1 hxx.2))) rfl ?_
                        refine TF.bslice rfl rfl rfl rfl (fun b107 => ?_)
                        refine TF.loud ?_
                        refine TL.append (enc := U8.cells) rfl rfl rfl hO (Src.own [(16 * worthB a + worthB b)] (.here _) rfl rfl) (by simp; omega) rfl (.skip _ .all) rfl (fun a108 c108 ob108 hO108 => ?_)
                        refine TF.back ?_
                        refine TF.pure (pr_pure rfl) rfl ?_
                        refine TF.nil ?_
                        refine TX.seqN ?_
                        refine TC.region ?_
                        refine TL.run (pr_pure rfl) rfl ?_
                        refine TL.run ((by first | exact pr_add rfl rfl (by omega) (by omega) | exact pr_pure rfl)) rfl ?_
                        refine TL.run (pr_pure rfl) rfl ?_
                        refine TL.nil ?_
                        refine TX.blkN ?_
                        refine TX.blkN ?_
                        exact TX.round4 (k + 4) _ ob108 H1 ⟨⟨by omega, by omega⟩, _, hO108, q_x2 (by omega) hc c33 he c70 ha hb2 hxx.1 hxx.2 hq, by simp; omega⟩ ⟨rfl, rfl, rfl, rfl, rfl, rfl, trivial⟩ (fun w hw => hw.drop) (by omega)
                ·
                  refine TC.seq ?_
                  refine TC.region ?_
                  refine TL.run (pr_pure rfl) rfl ?_
                  refine TL.run (pr_pure rfl) rfl ?_
                  refine TL.run (pr_pure rfl) rfl ?_
                  refine TL.nil ?_
                  refine TX.seqN ?_
                  refine TC.ret ?_
                  refine TX.blkR ?_
                  refine TX.blkR ?_
                  refine TX.thenR ?_
                  refine TX.blkR ?_
                  refine TX.thenR ?_
                  exact TX.finS (.inr rfl) (results3 rfl (RVal.tmp rfl) (RVal.tmp rfl) (RVal.tmp rfl)) (q_none (by first | exact q_out c15 hq | exact q_badc2 (by omega) hc c19 c26 hq | exact q_short (by omega) hc c33 c46 hq | exact q_bad3 (by omega) hc c33 he c51 c63 c70 hq | exact q_x3 (by omega) hc c33 he c70 q77 hq | exact q_x4 (by omega) hc c33 he c70 ha hb2 (.inl (of_decide_eq_true g85)) hq | exact q_x4 (by omega) hc c33 he c70 ha hb2 (.inr c92) hq))
  ·
    refine TC.exit ?_
    refine TX.thenE ?_
    refine TX.thenE ?_
    refine TX.blkHit ?_
    refine TX.seqN ?_
    refine TC.seq ?_
    refine TC.region ?_
    refine TL.run (pr_pure rfl) rfl ?_
    refine TL.run (pr_pure rfl) rfl ?_
    refine TL.run (pr_pure rfl) rfl ?_
    refine TL.nil ?_
    refine TX.seqN ?_
    refine TC.ret ?_
    exact TX.finS (.inr rfl) (results3 rfl (RVal.tmp rfl) (RVal.tmp rfl) (RVal.tmp rfl)) (q_none (by first | exact q_out c15 hq | exact q_badc2 (by omega) hc c19 c26 hq | exact q_short (by omega) hc c33 c46 hq | exact q_bad3 (by omega) hc c33 he c51 c63 c70 hq | exact q_x3 (by omega) hc c33 he c70 q77 hq | exact q_x4 (by omega) hc c33 he c70 ha hb2 (.inl (of_decide_eq_true g85)) hq | exact q_x4 (by omega) hc c33 he c70 ha hb2 (.inr c92) hq))
end Go.Sx
