import Derived.Test.YtmlgpjficicagaaDoorWDataS
import Derived.Test.YtmlgpjficicagaaDoorWDataT
set_option linter.unusedVariables false
set_option linter.unusedSimpArgs false
namespace Go.Sx
open Go Go.Proofs
set_option maxRecDepth 100000 in
set_option maxHeartbeats 400000 in
theorem rRead_ok {H : Hp} (s : Str) (hmax : s.length ≤ 100000) :
    Fn Tryd.prog 15 [gs s] H (fun v H1 => RV (readR s) v H1) := by
  refine Fn.enter Tryd.func15 Tryd.ntmps15 rfl rfl (fun w0 => ?_)
  refine TC.seq ?_
  refine TC.region ?_
  refine TL.alloc rfl (fun b2 => ?_)
  refine TL.run (pr_pure rfl) rfl ?_
  refine TL.nil ?_
  refine TX.seqN ?_
  refine TC.seq ?_
  refine TC.region ?_
  refine TL.run (pr_build rfl rfl) rfl ?_
  refine TL.alloc rfl (fun b4 => ?_)
  refine TL.storeA rfl rfl rfl rfl rfl (.here _) rfl rfl ?_
  refine TL.nil ?_
  refine TX.seqN ?_
  refine TC.seq ?_
  refine TC.block ?_
  refine TC.sw (decide (s = [116, 114, 117, 101]) || decide (s = [102, 97, 108, 115, 101])) 9 [(0, _), (2, _), (3, _), (4, _)] ⟨rfl, rfl, rfl, rfl, trivial⟩ ?_ ?_
  ·
    refine TC.region ?_
    refine TL.run (pr_pure rfl) rfl ?_
    refine TL.run (pr_str rfl rfl rfl) rfl ?_
    refine TL.run (pr_pure rfl) rfl ?_
    refine TL.split (s := 12) rfl (fun g12 => ?_) (fun g12 => ?_)
    ·
      have q12 := of_decide_eq_true g12
      refine TL.gdN rfl rfl rfl rfl ?_
      refine TL.gdN rfl rfl rfl rfl ?_
      refine TL.run (pr_pure rfl) rfl ?_
      refine TL.run (pr_pure rfl) rfl ?_
      refine TL.nil ?_
      exact TX.sw rfl (by first | exact or_1 g12 | exact or_2 g12) ⟨rfl, rfl, rfl, rfl, trivial⟩
    ·
      have q12 := of_decide_eq_false g12
      refine TL.gdY rfl rfl (pr_pure rfl) rfl ?_
      refine TL.gdY rfl rfl (pr_str rfl rfl rfl) rfl ?_
      refine TL.run (pr_pure rfl) rfl ?_
      refine TL.run (pr_pure rfl) rfl ?_
      refine TL.nil ?_
      exact TX.sw rfl (by first | exact or_1 g12 | exact or_2 g12) ⟨rfl, rfl, rfl, rfl, trivial⟩
  refine TC.cond rfl (fun c9 => ?_) (fun c9 => ?_)
  ·
    refine TC.seq ?_
    refine TC.region ?_
    refine TL.run (pr_field rfl) rfl ?_
    refine TL.store1 rfl rfl rfl (.here _) rfl rfl ?_
    refine TL.nil ?_
    refine TX.seqN ?_
    refine TC.seq ?_
    refine TC.region ?_
    refine TL.run (pr_pure rfl) rfl ?_
    refine TL.run (pr_str rfl rfl rfl) rfl ?_
    refine TL.nil ?_
    refine TX.seqN ?_
    refine TC.condD rfl (fun c18 => ?_) (fun c18 => ?_)
    ·
      refine TC.region ?_
      refine TL.run (pr_field rfl) rfl ?_
      refine TL.store1 rfl rfl rfl (.here _) rfl rfl ?_
      refine TL.nil ?_
      refine TX.blkN ?_
      refine TX.seqN ?_
      refine TC.seq ?_
      refine TC.seq ?_
      refine TC.region ?_
      refine TL.run (pr_ownA rfl (.here _) rfl) rfl ?_
      refine TL.callS (enters rfl rfl rfl rfl) (rShow_ok (a := ⟨2, 1, [], []⟩) (lv := .slice none 0 0) RdSl.nil (guessR_i64 (gr_b1 c18)).1 (fun _ h => absurd h (by decide))) rfl ?_
      refine TL.run (pr_pure rfl) rfl ?_
      refine TL.run (pr_str rfl rfl rfl) rfl ?_
      refine TL.nil ?_
      refine TX.seqN ?_
      refine TC.condND rfl (fun c64 => ?_) (fun c64 => ?_)
      ·
        refine TC.seq ?_
        refine TC.region ?_
        refine TL.run (pr_build rfl rfl) rfl ?_
        refine TL.storeA rfl rfl rfl rfl rfl (.there _ (.here _)) rfl rfl ?_
        refine TL.run (pr_pure rfl) rfl ?_
        refine TL.nil ?_
        refine TX.seqN ?_
        refine TC.ret ?_
        refine TX.thenR ?_
        exact TX.fin0 (.inr rfl) (results2 rfl (RVal.cellA rfl (.there _ (.here _)) rfl) (RVal.tmp rfl)) (RV.of (q := (v0, 300)) (rr_bad (gr_b1 c18) c64) RdSl.nil)
      ·
        refine TC.skip ?_
        refine TX.seqN ?_
        refine TC.seq ?_
        refine TC.region ?_
        refine TL.run (pr_ownA rfl (.here _) rfl) rfl ?_
        refine TL.storeA rfl rfl rfl rfl rfl (.there _ (.here _)) rfl rfl ?_
        refine TL.run (pr_pure rfl) rfl ?_
        refine TL.nil ?_
        refine TX.seqN ?_
        refine TC.ret ?_
        exact TX.fin0 (.inr rfl) (results2 rfl (RVal.cellA rfl (.there _ (.here _)) rfl) (RVal.tmp rfl)) (RV.of (q := (⟨2, 1, [], []⟩, 0)) (rr_ok (gr_b1 c18) c64) RdSl.nil)
    ·
      refine TC.skip ?_
      refine TX.blkN ?_
      refine TX.seqN ?_
      refine TC.seq ?_
      refine TC.seq ?_
      refine TC.region ?_
      refine TL.run (pr_ownA rfl (.here _) rfl) rfl ?_
      refine TL.callS (enters rfl rfl rfl rfl) (rShow_ok (a := ⟨2, 0, [], []⟩) (lv := .slice none 0 0) RdSl.nil (guessR_i64 (gr_b0 c9 c18)).1 (fun _ h => absurd h (by decide))) rfl ?_
      refine TL.run (pr_pure rfl) rfl ?_
      refine TL.run (pr_str rfl rfl rfl) rfl ?_
      refine TL.nil ?_
      refine TX.seqN ?_
      refine TC.condND rfl (fun c64 => ?_) (fun c64 => ?_)
      ·
        refine TC.seq ?_
        refine TC.region ?_
        refine TL.run (pr_build rfl rfl) rfl ?_
        refine TL.storeA rfl rfl rfl rfl rfl (.there _ (.here _)) rfl rfl ?_
        refine TL.run (pr_pure rfl) rfl ?_
        refine TL.nil ?_
        refine TX.seqN ?_
        refine TC.ret ?_
        refine TX.thenR ?_
        exact TX.fin0 (.inr rfl) (results2 rfl (RVal.cellA rfl (.there _ (.here _)) rfl) (RVal.tmp rfl)) (RV.of (q := (v0, 300)) (rr_bad (gr_b0 c9 c18) c64) RdSl.nil)
      ·
        refine TC.skip ?_
        refine TX.seqN ?_
        refine TC.seq ?_
        refine TC.region ?_
        refine TL.run (pr_ownA rfl (.here _) rfl) rfl ?_
        refine TL.storeA rfl rfl rfl rfl rfl (.there _ (.here _)) rfl rfl ?_
        refine TL.run (pr_pure rfl) rfl ?_
        refine TL.nil ?_
        refine TX.seqN ?_
        refine TC.ret ?_
        exact TX.fin0 (.inr rfl) (results2 rfl (RVal.cellA rfl (.there _ (.here _)) rfl) (RVal.tmp rfl)) (RV.of (q := (⟨2, 0, [], []⟩, 0)) (rr_ok (gr_b0 c9 c18) c64) RdSl.nil)
  ·
    refine TC.sw (decide (s.head? = some 34)) 20 [(0, _), (2, _), (3, _), (4, _)] ⟨rfl, rfl, rfl, rfl, trivial⟩ ?_ ?_
    ·
      refine TC.region ?_
      refine TL.run (pr_pure rfl) rfl ?_
      refine TL.run (pr_str rfl rfl rfl) rfl ?_
      refine TL.run (pr_pure rfl) rfl ?_
      refine TL.split (s := 23) rfl (fun g23 => ?_) (fun g23 => ?_)
      ·
        have q23 := of_ndec_true g23
        obtain ⟨c, hc⟩ := getSome (l := s) (i := 0) (by decide) (pos_of (by first | exact q22 | exact q23 | simpa using g23))
        refine TL.gdY rfl rfl (pr_pure rfl) rfl ?_
        refine TL.gdY rfl rfl (pr_strIx rfl rfl (by omega) hc) rfl ?_
        refine TL.gdY rfl rfl (pr_pure rfl) rfl ?_
        refine TL.run (pr_pure rfl) rfl ?_
        refine TL.run (pr_pure rfl) rfl ?_
        refine TL.nil ?_
        exact TX.sw rfl (by first | exact hd_0 g23 | exact hd_1 hc rfl) ⟨rfl, rfl, rfl, rfl, trivial⟩
      ·
        have q23 := of_ndec_false g23
        refine TL.gdN rfl rfl rfl rfl ?_
        refine TL.gdN rfl rfl rfl rfl ?_
        refine TL.gdN rfl rfl rfl rfl ?_
        refine TL.run (pr_pure rfl) rfl ?_
        refine TL.run (pr_pure rfl) rfl ?_
        refine TL.nil ?_
        exact TX.sw rfl (by first | exact hd_0 g23 | exact hd_1 hc rfl) ⟨rfl, rfl, rfl, rfl, trivial⟩
    refine TC.cond rfl (fun c20 => ?_) (fun c20 => ?_)
    ·
      have hpos := hd_pos c20
      refine TC.seq ?_
      refine TC.region ?_
      refine TL.run (pr_pure rfl) rfl ?_
      refine TL.callS (enters rfl rfl rfl rfl) (r_quote_ok s 0 (by decide) (by omega) (by omega)) rfl ?_
      rcases quote_two (quoteL (s.drop ((0 : Int) + 1).toNat)) with hq | ⟨qt, qr, hq⟩
      ·
        rw [hq]
        simp only [quoteV]
        refine TL.run (pr_pure rfl) rfl ?_
        refine TL.run (pr_pure rfl) rfl ?_
        refine TL.run (pr_pure rfl) rfl ?_
        refine TL.run (pr_pure rfl) rfl ?_
        refine TL.run (pr_pure rfl) rfl ?_
        refine TL.run (pr_pure rfl) rfl ?_
        refine TL.run (pr_pure rfl) rfl ?_
        refine TL.nil ?_
        refine TX.seqN ?_
        refine TC.seq ?_
        refine TC.seq ?_
        refine TC.region ?_
        refine TL.run (pr_pure rfl) rfl ?_
        refine TL.run (pr_pure rfl) rfl ?_
        refine TL.run (pr_pure rfl) rfl ?_
        refine TL.gdN rfl rfl rfl rfl ?_
        refine TL.gdN rfl rfl rfl rfl ?_
        refine TL.gdN rfl rfl rfl rfl ?_
        refine TL.gdN rfl rfl rfl rfl ?_
        refine TL.run (pr_pure rfl) rfl ?_
        refine TL.nil ?_
        refine TX.seqN ?_
        refine TC.condT rfl ?_
        refine TC.seq ?_
        refine TC.region ?_
        refine TL.run (pr_build rfl rfl) rfl ?_
        refine TL.storeA rfl rfl rfl rfl rfl (.there _ (.here _)) rfl rfl ?_
        refine TL.run (pr_pure rfl) rfl ?_
        refine TL.nil ?_
        refine TX.seqN ?_
        refine TC.ret ?_
        refine TX.thenR ?_
        refine TX.blkR ?_
        refine TX.thenR ?_
        exact TX.fin0 (.inr rfl) (results2 rfl (RVal.cellA rfl (.there _ (.here _)) rfl) (RVal.tmp rfl)) (RV.of (q := (v0, 300)) (rr_none (by first | exact gr_q0 c9 c20 hq | exact gr_q1 c9 c20 hq (fun e => c41 (by rw [e]; simp)))) RdSl.nil)
      ·
        rw [hq]
        simp only [quoteV]
        have hqs := quoteL_size hq
        rw [List.length_drop] at hqs
        refine TL.run (pr_pure rfl) rfl ?_
        refine TL.run (pr_pure rfl) rfl ?_
        refine TL.run (pr_pure rfl) rfl ?_
        refine TL.run (pr_pure rfl) rfl ?_
        refine TL.run (pr_pure rfl) rfl ?_
        refine TL.run (pr_pure rfl) rfl ?_
        refine TL.run (pr_pure rfl) rfl ?_
        refine TL.nil ?_
        refine TX.seqN ?_
        refine TC.seq ?_
        refine TC.seq ?_
        refine TC.region ?_
        refine TL.run (pr_pure rfl) rfl ?_
        refine TL.run (pr_pure rfl) rfl ?_
        refine TL.run (pr_pure rfl) rfl ?_
        refine TL.gdY rfl rfl (pr_pure rfl) rfl ?_
        refine TL.gdY rfl rfl (pr_pure rfl) rfl ?_
        refine TL.gdY rfl rfl (pr_lenStr rfl rfl) rfl ?_
        refine TL.gdY rfl rfl (pr_pure rfl) rfl ?_
        refine TL.run (pr_pure rfl) rfl ?_
        refine TL.nil ?_
        refine TX.seqN ?_
        refine TC.condND rfl (fun c41 => ?_) (fun c41 => ?_)
        ·
          refine TC.seq ?_
          refine TC.region ?_
          refine TL.run (pr_build rfl rfl) rfl ?_
          refine TL.storeA rfl rfl rfl rfl rfl (.there _ (.here _)) rfl rfl ?_
          refine TL.run (pr_pure rfl) rfl ?_
          refine TL.nil ?_
          refine TX.seqN ?_
          refine TC.ret ?_
          refine TX.thenR ?_
          refine TX.blkR ?_
          refine TX.thenR ?_
          exact TX.fin0 (.inr rfl) (results2 rfl (RVal.cellA rfl (.there _ (.here _)) rfl) (RVal.tmp rfl)) (RV.of (q := (v0, 300)) (rr_none (by first | exact gr_q0 c9 c20 hq | exact gr_q1 c9 c20 hq (fun e => c41 (by rw [e]; simp)))) RdSl.nil)
        ·
          refine TC.skip ?_
          refine TX.seqN ?_
          refine TC.region ?_
          refine TL.run (pr_pure rfl) rfl ?_
          refine TL.run (pr_build rfl rfl) rfl ?_
          refine TL.storeA rfl rfl rfl rfl rfl (.here _) rfl rfl ?_
          refine TL.nil ?_
          refine TX.blkN ?_
          refine TX.seqN ?_
          refine TC.seq ?_
          refine TC.seq ?_
          refine TC.region ?_
          refine TL.run (pr_ownA rfl (.here _) rfl) rfl ?_
          refine TL.callS (enters rfl rfl rfl rfl) (rShow_ok (a := ⟨3, 0, qt, []⟩) (lv := .slice none 0 0) RdSl.nil (guessR_i64 (gr_q c9 c20 hq (tail_nil c41))).1 (fun _ h => absurd h (by simp))) rfl ?_
          refine TL.run (pr_pure rfl) rfl ?_
          refine TL.run (pr_str rfl rfl rfl) rfl ?_
          refine TL.nil ?_
          refine TX.seqN ?_
          refine TC.condND rfl (fun c64 => ?_) (fun c64 => ?_)
          ·
            refine TC.seq ?_
            refine TC.region ?_
            refine TL.run (pr_build rfl rfl) rfl ?_
            refine TL.storeA rfl rfl rfl rfl rfl (.there _ (.here _)) rfl rfl ?_
            refine TL.run (pr_pure rfl) rfl ?_
            refine TL.nil ?_
            refine TX.seqN ?_
            refine TC.ret ?_
            refine TX.thenR ?_
            exact TX.fin0 (.inr rfl) (results2 rfl (RVal.cellA rfl (.there _ (.here _)) rfl) (RVal.tmp rfl)) (RV.of (q := (v0, 300)) (rr_bad (gr_q c9 c20 hq (tail_nil c41)) c64) RdSl.nil)
          ·
            refine TC.skip ?_
            refine TX.seqN ?_
            refine TC.seq ?_
            refine TC.region ?_
            refine TL.run (pr_ownA rfl (.here _) rfl) rfl ?_
            refine TL.storeA rfl rfl rfl rfl rfl (.there _ (.here _)) rfl rfl ?_
            refine TL.run (pr_pure rfl) rfl ?_
            refine TL.nil ?_
            refine TX.seqN ?_
            refine TC.ret ?_
            exact TX.fin0 (.inr rfl) (results2 rfl (RVal.cellA rfl (.there _ (.here _)) rfl) (RVal.tmp rfl)) (RV.of (q := (⟨3, 0, qt, []⟩, 0)) (rr_ok (gr_q c9 c20 hq (tail_nil c41)) c64) RdSl.nil)
    ·
      refine TC.sw (decide (s.head? = some 91)) 45 [(0, _), (2, _), (3, _), (4, _)] ⟨rfl, rfl, rfl, rfl, trivial⟩ ?_ ?_
      ·
        refine TC.region ?_
        refine TL.run (pr_pure rfl) rfl ?_
        refine TL.run (pr_str rfl rfl rfl) rfl ?_
        refine TL.run (pr_pure rfl) rfl ?_
        refine TL.split (s := 48) rfl (fun g48 => ?_) (fun g48 => ?_)
        ·
          have q48 := of_ndec_true g48
          obtain ⟨c, hc⟩ := getSome (l := s) (i := 0) (by decide) (pos_of (by first | exact q47 | exact q48 | simpa using g48))
          refine TL.gdY rfl rfl (pr_pure rfl) rfl ?_
          refine TL.gdY rfl rfl (pr_strIx rfl rfl (by omega) hc) rfl ?_
          refine TL.gdY rfl rfl (pr_pure rfl) rfl ?_
          refine TL.run (pr_pure rfl) rfl ?_
          refine TL.run (pr_pure rfl) rfl ?_
          refine TL.nil ?_
          exact TX.sw rfl (by first | exact hd_0 g48 | exact hd_1 hc rfl) ⟨rfl, rfl, rfl, rfl, trivial⟩
        ·
          have q48 := of_ndec_false g48
          refine TL.gdN rfl rfl rfl rfl ?_
          refine TL.gdN rfl rfl rfl rfl ?_
          refine TL.gdN rfl rfl rfl rfl ?_
          refine TL.run (pr_pure rfl) rfl ?_
          refine TL.run (pr_pure rfl) rfl ?_
          refine TL.nil ?_
          exact TX.sw rfl (by first | exact hd_0 g48 | exact hd_1 hc rfl) ⟨rfl, rfl, rfl, rfl, trivial⟩
      refine TC.cond rfl (fun c45 => ?_) (fun c45 => ?_)
      ·
        refine TC.region ?_
        refine TL.run (pr_pure rfl) rfl ?_
        refine TL.call (enters rfl rfl rfl rfl) (rReadList_ok s hmax) rfl (fun v54 H54 hle54 hp54 => ?_)
        obtain ⟨lv54, rfl, hR54⟩ := hp54
        have hR154 : RdSl H54 1 I64.cells lv54 (rl s) := hR54
        obtain ⟨la54, lc54, rfl⟩ := hR154.len
        refine TL.storeA rfl rfl rfl rfl rfl (.here _) rfl rfl ?_
        refine TL.nil ?_
        refine TX.blkN ?_
        refine TX.seqN ?_
        refine TC.seq ?_
        refine TC.seq ?_
        refine TC.region ?_
        refine TL.run (pr_ownA rfl (.here _) rfl) rfl ?_
        refine TL.callS (enters rfl rfl rfl rfl) (rShow_ok (a := ⟨4, 0, [], rl s⟩) hR54 (guessR_i64 (gr_l c9 c20 c45)).1 (fun _ h => absurd h (by simp))) rfl ?_
        refine TL.run (pr_pure rfl) rfl ?_
        refine TL.run (pr_str rfl rfl rfl) rfl ?_
        refine TL.nil ?_
        refine TX.seqN ?_
        refine TC.condND rfl (fun c64 => ?_) (fun c64 => ?_)
        ·
          refine TC.seq ?_
          refine TC.region ?_
          refine TL.run (pr_build rfl rfl) rfl ?_
          refine TL.storeA rfl rfl rfl rfl rfl (.there _ (.here _)) rfl rfl ?_
          refine TL.run (pr_pure rfl) rfl ?_
          refine TL.nil ?_
          refine TX.seqN ?_
          refine TC.ret ?_
          refine TX.thenR ?_
          exact TX.fin0 (.inr rfl) (results2 rfl (RVal.cellA rfl (.there _ (.here _)) rfl) (RVal.tmp rfl)) (RV.of (q := (v0, 300)) (rr_bad (gr_l c9 c20 c45) c64) RdSl.nil)
        ·
          refine TC.skip ?_
          refine TX.seqN ?_
          refine TC.seq ?_
          refine TC.region ?_
          refine TL.run (pr_ownA rfl (.here _) rfl) rfl ?_
          refine TL.storeA rfl rfl rfl rfl rfl (.there _ (.here _)) rfl rfl ?_
          refine TL.run (pr_pure rfl) rfl ?_
          refine TL.nil ?_
          refine TX.seqN ?_
          refine TC.ret ?_
          exact TX.fin0 (.inr rfl) (results2 rfl (RVal.cellA rfl (.there _ (.here _)) rfl) (RVal.tmp rfl)) (RV.of (q := (⟨4, 0, [], rl s⟩, 0)) (rr_ok (gr_l c9 c20 c45) c64) hR54)
      ·
        refine TC.seq ?_
        refine TC.region ?_
        refine TL.run (pr_pure rfl) rfl ?_
        refine TL.run (pr_str rfl rfl rfl) rfl ?_
        refine TL.run (pr_pure rfl) rfl ?_
        refine TL.nil ?_
        refine TX.seqN ?_
        refine TC.condND rfl (fun c55 => ?_) (fun c55 => ?_)
        ·
          refine TC.region ?_
          refine TL.run (pr_pure rfl) rfl ?_
          refine TL.callS (enters rfl rfl rfl rfl) (rInt_ok s (by omega)) rfl ?_
          refine TL.run (pr_build rfl rfl) rfl ?_
          refine TL.storeA rfl rfl rfl rfl rfl (.here _) rfl rfl ?_
          refine TL.nil ?_
          refine TX.blkN ?_
          refine TX.seqN ?_
          refine TC.seq ?_
          refine TC.seq ?_
          refine TC.region ?_
          refine TL.run (pr_ownA rfl (.here _) rfl) rfl ?_
          refine TL.callS (enters rfl rfl rfl rfl) (rShow_ok (a := ⟨1, intR s, [], []⟩) (lv := .slice none 0 0) RdSl.nil (guessR_i64 (gr_i c9 c20 c45 c55)).1 (fun _ h => absurd h (by simp))) rfl ?_
          refine TL.run (pr_pure rfl) rfl ?_
          refine TL.run (pr_str rfl rfl rfl) rfl ?_
          refine TL.nil ?_
          refine TX.seqN ?_
          refine TC.condND rfl (fun c64 => ?_) (fun c64 => ?_)
          ·
            refine TC.seq ?_
            refine TC.region ?_
            refine TL.run (pr_build rfl rfl) rfl ?_
            refine TL.storeA rfl rfl rfl rfl rfl (.there _ (.here _)) rfl rfl ?_
            refine TL.run (pr_pure rfl) rfl ?_
            refine TL.nil ?_
            refine TX.seqN ?_
            refine TC.ret ?_
            refine TX.thenR ?_
            exact TX.fin0 (.inr rfl) (results2 rfl (RVal.cellA rfl (.there _ (.here _)) rfl) (RVal.tmp rfl)) (RV.of (q := (v0, 300)) (rr_bad (gr_i c9 c20 c45 c55) c64) RdSl.nil)
          ·
            refine TC.skip ?_
            refine TX.seqN ?_
            refine TC.seq ?_
            refine TC.region ?_
            refine TL.run (pr_ownA rfl (.here _) rfl) rfl ?_
            refine TL.storeA rfl rfl rfl rfl rfl (.there _ (.here _)) rfl rfl ?_
            refine TL.run (pr_pure rfl) rfl ?_
            refine TL.nil ?_
            refine TX.seqN ?_
            refine TC.ret ?_
            exact TX.fin0 (.inr rfl) (results2 rfl (RVal.cellA rfl (.there _ (.here _)) rfl) (RVal.tmp rfl)) (RV.of (q := (⟨1, intR s, [], []⟩, 0)) (rr_ok (gr_i c9 c20 c45 c55) c64) RdSl.nil)
        ·
          refine TC.skip ?_
          refine TX.blkN ?_
          refine TX.seqN ?_
          refine TC.seq ?_
          refine TC.seq ?_
          refine TC.region ?_
          refine TL.run (pr_ownA rfl (.here _) rfl) rfl ?_
          refine TL.callS (enters rfl rfl rfl rfl) (rShow_ok (a := v0) (lv := .slice none 0 0) RdSl.nil i64V_v0 (fun _ h => absurd h (by decide))) rfl ?_
          refine TL.run (pr_pure rfl) rfl ?_
          refine TL.run (pr_str rfl rfl rfl) rfl ?_
          refine TL.nil ?_
          refine TX.seqN ?_
          refine TC.condND rfl (fun c64 => ?_) (fun c64 => ?_)
          ·
            refine TC.seq ?_
            refine TC.region ?_
            refine TL.run (pr_build rfl rfl) rfl ?_
            refine TL.storeA rfl rfl rfl rfl rfl (.there _ (.here _)) rfl rfl ?_
            refine TL.run (pr_pure rfl) rfl ?_
            refine TL.nil ?_
            refine TX.seqN ?_
            refine TC.ret ?_
            refine TX.thenR ?_
            exact TX.fin0 (.inr rfl) (results2 rfl (RVal.cellA rfl (.there _ (.here _)) rfl) (RVal.tmp rfl)) (RV.of (q := (v0, 300)) (rr_bad (gr_u c9 c20 c45 c55) c64) RdSl.nil)
          ·
            refine TC.skip ?_
            refine TX.seqN ?_
            refine TC.seq ?_
            refine TC.region ?_
            refine TL.run (pr_ownA rfl (.here _) rfl) rfl ?_
            refine TL.storeA rfl rfl rfl rfl rfl (.there _ (.here _)) rfl rfl ?_
            refine TL.run (pr_pure rfl) rfl ?_
            refine TL.nil ?_
            refine TX.seqN ?_
            refine TC.ret ?_
            exact TX.fin0 (.inr rfl) (results2 rfl (RVal.cellA rfl (.there _ (.here _)) rfl) (RVal.tmp rfl)) (RV.of (q := (v0, 0)) (rr_ok (gr_u c9 c20 c45 c55) c64) RdSl.nil)
end Go.Sx
