import Derived.Test.YtilggjefbbiccaaDoorWRlx
set_option linter.unusedVariables false
set_option linter.unusedSimpArgs false
namespace Go.Sx
open Go Go.Proofs
set_option maxRecDepth 100000 in
set_option maxHeartbeats 4000000 in
theorem r_Tokens_ok {H : Hp} (s : Str) :
    Fn Tryd.prog 15 [gs s] H (fun r H1 => LexP (lexS s) r H1) := by
  refine Fn.enter Tryd.func15 Tryd.ntmps15 rfl rfl (fun w0 => ?_)
  refine TC.seq ?_
  refine TC.region ?_
  refine TL.run (pr_pure rfl) rfl ?_
  refine TL.run (pr_pure rfl) rfl ?_
  refine TL.run (pr_pure rfl) rfl ?_
  refine TL.nil ?_
  refine TX.seqN ?_
  refine TC.seq ?_
  refine TC.seq ?_
  refine TC.region ?_
  refine TL.run (pr_pure rfl) rfl ?_
  refine TL.run (pr_lenStr rfl rfl) rfl ?_
  refine TL.run (pr_pure rfl) rfl ?_
  refine TL.nil ?_
  refine TX.seqN ?_
  refine TC.condD rfl (fun c13 => ?_) (fun c13 => ?_)
  ·
    refine TC.seq ?_
    refine TC.region ?_
    refine TL.run (pr_pure rfl) rfl ?_
    refine TL.run (pr_pure rfl) rfl ?_
    refine TL.run (pr_pure rfl) rfl ?_
    refine TL.nil ?_
    refine TX.seqN ?_
    refine TC.ret ?_
    refine TX.thenR ?_
    exact TX.fin0 (.inr rfl) (results3 rfl (RVal.tmp rfl) (RVal.tmp rfl) (RVal.tmp rfl)) ⟨_, by rw [lexS_long c13], by rw [lexS_long c13]; exact RdSl.nil⟩
  ·
    refine TC.skip ?_
    refine TX.seqN ?_
    refine TC.seq ?_
    refine TC.region ?_
    refine TL.run (pr_pure rfl) rfl ?_
    refine TL.nil ?_
    refine TX.seqN ?_
    refine TC.seq ?_
    refine TC.region ?_
    refine TL.run (pr_pure rfl) rfl ?_
    refine TL.call (enters rfl rfl rfl rfl) (r_skip_ok s 0 (by decide) (by omega) (by omega)) rfl (fun v15 H15 hle15 hp15 => ?_)
    obtain ⟨e15, sk15, rfl, sa15, sb15, sT15, sE15⟩ := hp15
    replace e15 := e15.symm
    subst e15
    refine TL.run (pr_pure rfl) rfl ?_
    refine TL.nil ?_
    refine TX.seqN ?_
    refine TC.seq ?_
    refine TC.block ?_
    refine TC.loop4 (V := fun k v ob H1 => [(5, v), (6, .int .i64 k)]) (K := [(0, _), (2, _), (3, _), (4, _)]) (L := fun k v ob H1 => St [] w0 H H ob) (I := fun k v ob H1 => (0 ≤ k ∧ k ≤ s.length) ∧ ∃ l : List Token, OwnSl 3 Token.cells v l ob ∧ lexN false 0 s = LexR.after l (lexN (lastB l) k (s.drop k.toNat)) ∧ (l.length : Int) ≤ k ∧ (∀ t ∈ l, 0 ≤ t.kind ∧ t.kind ≤ 3) ∧ (k < s.length → ∃ c, s[k.toNat]? = some c ∧ blankB c = false ∧ ¬ (c.toNat : Int) = 35)) (μ := fun k => (s.length - k).toNat) sk15 (.slice none 0 0) [] H ⟨rfl, rfl, rfl, rfl, rfl, rfl, trivial⟩ ⟨⟨by omega, by omega⟩, [], OwnSl.nil, by rw [LexR.after_nil]; exact sT15 false, by simp; omega, (fun t ht => by cases ht), sE15⟩ (fun w hw => hw) (fun k v ob H1 hI => ?_)
    obtain ⟨⟨k0, k1⟩, l, hO, hN, hll, hkk, hE⟩ := hI
    obtain ⟨va, vc, rfl⟩ := hO.form
    refine TC.seq ?_
    refine TC.seq ?_
    refine TC.region ?_
    refine TL.run (pr_pure rfl) rfl ?_
    refine TL.run (pr_pure rfl) rfl ?_
    refine TL.run (pr_lenStr rfl rfl) rfl ?_
    refine TL.run (pr_pure rfl) rfl ?_
    refine TL.nil ?_
    refine TX.seqN ?_
    refine TC.condD rfl (fun c19 => ?_) (fun c19 => ?_)
    ·
      obtain ⟨c, hc, hcb, hc35⟩ := hE c19
      refine TC.skip ?_
      refine TX.seqN ?_
      refine TC.block ?_
      refine TC.sw (lastB l) 7 [(0, _), (2, _), (3, _), (4, _), (5, _), (6, _), (16, _), (17, _), (18, _), (19, _)] ⟨rfl, rfl, rfl, rfl, rfl, rfl, rfl, rfl, rfl, rfl, trivial⟩ ?_ ?_
      ·
        refine TC.region ?_
        refine TL.run (pr_pure rfl) rfl ?_
        refine TL.run (pr_lenO rfl rfl hO) rfl ?_
        refine TL.run (pr_pure rfl) rfl ?_
        refine TL.run (pr_pure rfl) rfl ?_
        refine TL.split (s := 23) rfl (fun g23 => ?_) (fun g23 => ?_)
        ·
          have q23 := of_decide_eq_true g23
          obtain ⟨tl, htl⟩ := getLast (l := l) (by omega)
          refine TL.gdY rfl rfl (pr_pure rfl) rfl ?_
          refine TL.gdY rfl rfl (pr_pure rfl) rfl ?_
          refine TL.gdY rfl rfl (pr_lenO rfl rfl hO) rfl ?_
          refine TL.gdY rfl rfl ((by first | exact pr_sub rfl rfl (by omega) (by omega) | exact pr_pure rfl)) rfl ?_
          refine TL.gdY rfl rfl (pr_indexO rfl rfl hO (by omega) (by omega)) rfl ?_
          refine TL.gdY rfl rfl (pr_ldO rfl hO .all htl) rfl ?_
          refine TL.callSY rfl rfl (enters rfl rfl rfl rfl) (r_ends_ok tl) rfl ?_
          refine TL.run (pr_pure rfl) rfl ?_
          refine TL.run (pr_pure rfl) rfl ?_
          refine TL.nil ?_
          exact TX.sw rfl (by first | exact le_0 q23 | exact le_1 hkk htl) ⟨rfl, rfl, rfl, rfl, rfl, rfl, rfl, rfl, rfl, rfl, trivial⟩
        ·
          have q23 := of_decide_eq_false g23
          refine TL.gdN rfl rfl rfl rfl ?_
          refine TL.gdN rfl rfl rfl rfl ?_
          refine TL.gdN rfl rfl rfl rfl ?_
          refine TL.gdN rfl rfl rfl rfl ?_
          refine TL.gdN rfl rfl rfl rfl ?_
          refine TL.gdN rfl rfl rfl rfl ?_
          refine TL.gdN rfl rfl rfl rfl ?_
          refine TL.run (pr_pure rfl) rfl ?_
          refine TL.run (pr_pure rfl) rfl ?_
          refine TL.nil ?_
          exact TX.sw rfl (by first | exact le_0 q23 | exact le_1 hkk htl) ⟨rfl, rfl, rfl, rfl, rfl, rfl, rfl, rfl, rfl, rfl, trivial⟩
      refine TC.seq ?_
      refine TC.region ?_
      refine TL.run (pr_pure rfl) rfl ?_
      refine TL.run (pr_pure rfl) rfl ?_
      refine TL.run (pr_pure rfl) rfl ?_
      refine TL.callS (enters rfl rfl rfl rfl) (r_token_ok s k (lastB l) k0 (by omega) (by omega)) rfl ?_
      rcases tokV_two k (tok1 (lastB l) (s.drop k.toNat)) with ⟨te, htk⟩ | ⟨kd, tt, tn, htk⟩
      ·
        rw [htk]
        simp only [tokV]
        have hte := tok1_err_ne htk
        refine TL.run (pr_pure rfl) rfl ?_
        refine TL.run (pr_pure rfl) rfl ?_
        refine TL.run (pr_pure rfl) rfl ?_
        refine TL.run (pr_pure rfl) rfl ?_
        refine TL.alloc rfl (fun b8 => ?_)
        refine TL.storeA rfl rfl rfl rfl rfl (.here _) rfl rfl ?_
        refine TL.run (pr_pure rfl) rfl ?_
        refine TL.run (pr_pure rfl) rfl ?_
        refine TL.nil ?_
        refine TX.seqN ?_
        refine TC.seq ?_
        refine TC.seq ?_
        refine TC.region ?_
        refine TL.run (pr_pure rfl) rfl ?_
        refine TL.run (pr_pure rfl) rfl ?_
        refine TL.nil ?_
        refine TX.seqN ?_
        refine TC.condND rfl (fun c41 => ?_) (fun c41 => ?_)
        ·
          refine TC.seq ?_
          refine TC.region ?_
          refine TL.run (pr_pure rfl) rfl ?_
          refine TL.run (pr_pure rfl) rfl ?_
          refine TL.run (pr_pure rfl) rfl ?_
          refine TL.run (pr_pure rfl) rfl ?_
          refine TL.run (pr_pure rfl) rfl ?_
          refine TL.nil ?_
          refine TX.seqN ?_
          refine TC.ret ?_
          refine TX.thenR ?_
          refine TX.blkR ?_
          refine TX.thenR ?_
          refine TX.blkR ?_
          refine TX.thenR ?_
          exact TX.fin0 (.inr rfl) (results3 rfl (RVal.tmp rfl) (RVal.tmp rfl) (RVal.tmp rfl)) (LexP.err (lexS_N (by omega)) (lx_err k0 hc hcb hc35 htk hN))
        ·
          exact absurd c41 hte
      ·
        rw [htk]
        simp only [tokV]
        have htn := tok1_len htk
        rw [List.length_drop] at htn
        have htkd := tok1_kind htk
        have hstep := lx_ok k0 hc hcb hc35 htk rfl hN
        refine TL.run (pr_pure rfl) rfl ?_
        refine TL.run (pr_pure rfl) rfl ?_
        refine TL.run (pr_pure rfl) rfl ?_
        refine TL.run (pr_pure rfl) rfl ?_
        refine TL.alloc rfl (fun b8 => ?_)
        refine TL.storeA rfl rfl rfl rfl rfl (.here _) rfl rfl ?_
        refine TL.run (pr_pure rfl) rfl ?_
        refine TL.run (pr_pure rfl) rfl ?_
        refine TL.nil ?_
        refine TX.seqN ?_
        refine TC.seq ?_
        refine TC.seq ?_
        refine TC.region ?_
        refine TL.run (pr_pure rfl) rfl ?_
        refine TL.run (pr_pure rfl) rfl ?_
        refine TL.nil ?_
        refine TX.seqN ?_
        refine TC.condND rfl (fun c41 => ?_) (fun c41 => ?_)
        ·
          exact absurd rfl c41
        ·
          refine TC.skip ?_
          refine TX.seqN ?_
          refine TC.seq ?_
          refine TC.region ?_
          refine TL.run (pr_pure rfl) rfl ?_
          refine TL.run (pr_ownA rfl (.here _) rfl) rfl ?_
          refine TL.bslice rfl rfl rfl rfl (fun b46 => ?_)
          refine TL.append (enc := Token.cells) rfl rfl rfl hO (Src.own [⟨kd, tt, k⟩] (.here _) rfl rfl) (by simp; omega) rfl (.skip _ (.skip _ .all)) rfl (fun a47 c47 ob47 hO47 => ?_)
          refine TL.run (pr_pure rfl) rfl ?_
          refine TL.nil ?_
          refine TX.seqN ?_
          refine TC.region ?_
          refine TL.run (pr_pure rfl) rfl ?_
          refine TL.run (pr_pure rfl) rfl ?_
          refine TL.call (enters rfl rfl rfl rfl) (r_skip_ok s (k + tn) (by omega) (by omega) (by omega)) rfl (fun v50 H50 hle50 hp50 => ?_)
          obtain ⟨e50, sk50, rfl, sa50, sb50, sT50, sE50⟩ := hp50
          replace e50 := e50.symm
          subst e50
          refine TL.run (pr_pure rfl) rfl ?_
          refine TL.nil ?_
          refine TX.blkN ?_
          exact TX.round4 sk50 _ ob47 H1 ⟨⟨by omega, by omega⟩, _, hO47, hstep.trans (by rw [sT50 _]), by simp; omega, kinds_snoc hkk htkd, sE50⟩ ⟨rfl, rfl, rfl, rfl, rfl, rfl, trivial⟩ (fun w hw => hw.drop.drop) (by omega)
    ·
      refine TC.exit ?_
      refine TX.thenE ?_
      refine TX.thenE ?_
      refine TX.blkHit ?_
      refine TX.seqN ?_
      refine TC.seq ?_
      refine TC.region ?_
      refine TL.run (pr_pure rfl) rfl ?_
      refine TL.run (pr_pure rfl) rfl ?_
      refine TL.run (pr_pure rfl) rfl ?_
      refine TL.run (pr_pure rfl) rfl ?_
      refine TL.nil ?_
      refine TX.seqN ?_
      refine TC.ret ?_
      refine TX.pubO hO .all (by simp) (fun H2 hle2 hR => ?_)
      exact TX.fin0 (.inr rfl) (results3 rfl (RVal.tmp rfl) (RVal.tmp rfl) (RVal.tmp rfl)) ⟨_, by rw [lexS_N (by omega), lx_end c19 hN], by rw [lexS_N (by omega), lx_end c19 hN]; exact hR⟩

set_option maxRecDepth 100000 in
set_option maxHeartbeats 1000000 in
theorem r_tokenMay_ok {H : Hp} (t : Token) (hmax : t.text.length ≤ 281474976710656) :
    FnS Tryd.prog 35 [.agg t.cells.toArray] H (.bool (rightB t)) := by
  refine FnS.enter Tryd.func35 Tryd.ntmps35 rfl rfl (fun w0 => ?_)
  refine TC.seq ?_
  refine TC.region ?_
  refine TL.box rfl rfl (fun b1 => ?_)
  refine TL.run (pr_pure rfl) rfl ?_
  refine TL.nil ?_
  refine TX.seqN ?_
  refine TC.seq ?_
  refine TC.region ?_
  refine TL.run (pr_field rfl) rfl ?_
  refine TL.run (pr_own1 rfl (.here _) rfl) rfl ?_
  refine TL.run (pr_pure rfl) rfl ?_
  refine TL.nil ?_
  refine TX.seqN ?_
  refine TC.seq ?_
  refine TC.seq ?_
  refine TC.region ?_
  refine TL.run (pr_field rfl) rfl ?_
  refine TL.run (pr_own1 rfl (.here _) rfl) rfl ?_
  refine TL.nil ?_
  refine TX.seqN ?_
  refine TC.block ?_
  refine TC.seq ?_
  refine TC.region ?_
  refine TL.run (pr_pure rfl) rfl ?_
  refine TL.run (pr_pure rfl) rfl ?_
  refine TL.nil ?_
  refine TX.seqN ?_
  refine TC.condD rfl (fun c8 => ?_) (fun c8 => ?_)
  ·
    refine TC.seq ?_
    refine TC.region ?_
    refine TL.run (pr_pure rfl) rfl ?_
    refine TL.run (pr_str rfl rfl rfl) rfl ?_
    refine TL.run (pr_pure rfl) rfl ?_
    refine TL.split (s := 12) rfl (fun g12 => ?_) (fun g12 => ?_)
    ·
      have q12 := of_ndec_true g12
      have hpos := pos_of q12
      obtain ⟨c, hc⟩ := getSome (l := t.text) (i := 0) (by omega) hpos
      refine TL.gdY rfl rfl (pr_pure rfl) rfl ?_
      refine TL.gdY rfl rfl (pr_strIx rfl rfl (by omega) hc) rfl ?_
      refine TL.callSY rfl rfl (enters rfl rfl rfl rfl) (r_letter_ok c) rfl ?_
      refine TL.run (pr_pure rfl) rfl ?_
      refine TL.run (pr_pure rfl) rfl ?_
      refine TL.split (s := 17) rfl (fun g17 => ?_) (fun g17 => ?_)
      ·
        refine TL.gdY rfl rfl (pr_pure rfl) rfl ?_
        refine TL.callSY rfl rfl (enters rfl rfl rfl rfl) (r_run_ok t.text true nameC 0 (fun c => nameC_or c) (by decide) (by omega) (by omega)) rfl ?_
        refine TL.gdY rfl rfl (pr_pure rfl) rfl ?_
        refine TL.gdY rfl rfl (pr_lenStr rfl rfl) rfl ?_
        refine TL.gdY rfl rfl (pr_pure rfl) rfl ?_
        refine TL.run (pr_pure rfl) rfl ?_
        refine TL.run (pr_pure rfl) rfl ?_
        refine TL.nil ?_
        refine TX.seqN ?_
        refine TC.ret ?_
        refine TX.blkR ?_
        refine TX.thenR ?_
        exact TX.finS (.inr rfl) (results1 rfl (RVal.tmp rfl)) (congrArg Value.bool (by first | exact right_w0 c8 q12 | exact right_w1 c8 hc g17 | exact right_w2 c8 hc g17 | exact right_n c24 | exact right_q c28 | exact right_s0 c30 q34 | exact right_s2 c30 q34 | exact right_no c8 c24 c28 c30))
      ·
        refine TL.gdN rfl rfl rfl rfl ?_
        refine TL.gdN rfl rfl rfl rfl ?_
        refine TL.gdN rfl rfl rfl rfl ?_
        refine TL.gdN rfl rfl rfl rfl ?_
        refine TL.gdN rfl rfl rfl rfl ?_
        refine TL.run (pr_pure rfl) rfl ?_
        refine TL.run (pr_pure rfl) rfl ?_
        refine TL.nil ?_
        refine TX.seqN ?_
        refine TC.ret ?_
        refine TX.blkR ?_
        refine TX.thenR ?_
        exact TX.finS (.inr rfl) (results1 rfl (RVal.tmp rfl)) (congrArg Value.bool (by first | exact right_w0 c8 q12 | exact right_w1 c8 hc g17 | exact right_w2 c8 hc g17 | exact right_n c24 | exact right_q c28 | exact right_s0 c30 q34 | exact right_s2 c30 q34 | exact right_no c8 c24 c28 c30))
    ·
      have q12 := of_ndec_false g12
      refine TL.gdN rfl rfl rfl rfl ?_
      refine TL.gdN rfl rfl rfl rfl ?_
      refine TL.gdN rfl rfl rfl rfl ?_
      refine TL.run (pr_pure rfl) rfl ?_
      refine TL.run (pr_pure rfl) rfl ?_
      refine TL.gdN rfl rfl rfl rfl ?_
      refine TL.gdN rfl rfl rfl rfl ?_
      refine TL.gdN rfl rfl rfl rfl ?_
      refine TL.gdN rfl rfl rfl rfl ?_
      refine TL.gdN rfl rfl rfl rfl ?_
      refine TL.run (pr_pure rfl) rfl ?_
      refine TL.run (pr_pure rfl) rfl ?_
      refine TL.nil ?_
      refine TX.seqN ?_
      refine TC.ret ?_
      refine TX.blkR ?_
      refine TX.thenR ?_
      exact TX.finS (.inr rfl) (results1 rfl (RVal.tmp rfl)) (congrArg Value.bool (by first | exact right_w0 c8 q12 | exact right_w1 c8 hc g17 | exact right_w2 c8 hc g17 | exact right_n c24 | exact right_q c28 | exact right_s0 c30 q34 | exact right_s2 c30 q34 | exact right_no c8 c24 c28 c30))
  ·
    refine TC.seq ?_
    refine TC.region ?_
    refine TL.run (pr_pure rfl) rfl ?_
    refine TL.run (pr_pure rfl) rfl ?_
    refine TL.nil ?_
    refine TX.seqN ?_
    refine TC.condD rfl (fun c24 => ?_) (fun c24 => ?_)
    ·
      refine TC.seq ?_
      refine TC.region ?_
      refine TL.run (pr_pure rfl) rfl ?_
      refine TL.callS (enters rfl rfl rfl rfl) (r_numeral_ok t.text hmax) rfl ?_
      refine TL.run (pr_pure rfl) rfl ?_
      refine TL.nil ?_
      refine TX.seqN ?_
      refine TC.ret ?_
      refine TX.blkR ?_
      refine TX.thenR ?_
      exact TX.finS (.inr rfl) (results1 rfl (RVal.tmp rfl)) (congrArg Value.bool (by first | exact right_w0 c8 q12 | exact right_w1 c8 hc g17 | exact right_w2 c8 hc g17 | exact right_n c24 | exact right_q c28 | exact right_s0 c30 q34 | exact right_s2 c30 q34 | exact right_no c8 c24 c28 c30))
    ·
      refine TC.seq ?_
      refine TC.region ?_
      refine TL.run (pr_pure rfl) rfl ?_
      refine TL.run (pr_pure rfl) rfl ?_
      refine TL.nil ?_
      refine TX.seqN ?_
      refine TC.condD rfl (fun c28 => ?_) (fun c28 => ?_)
      ·
        refine TC.seq ?_
        refine TC.region ?_
        refine TL.run (pr_pure rfl) rfl ?_
        refine TL.nil ?_
        refine TX.seqN ?_
        refine TC.ret ?_
        refine TX.blkR ?_
        refine TX.thenR ?_
        exact TX.finS (.inr rfl) (results1 rfl (RVal.tmp rfl)) (congrArg Value.bool (by first | exact right_w0 c8 q12 | exact right_w1 c8 hc g17 | exact right_w2 c8 hc g17 | exact right_n c24 | exact right_q c28 | exact right_s0 c30 q34 | exact right_s2 c30 q34 | exact right_no c8 c24 c28 c30))
      ·
        refine TC.seq ?_
        refine TC.region ?_
        refine TL.run (pr_pure rfl) rfl ?_
        refine TL.run (pr_pure rfl) rfl ?_
        refine TL.nil ?_
        refine TX.seqN ?_
        refine TC.condD rfl (fun c30 => ?_) (fun c30 => ?_)
        ·
          refine TC.seq ?_
          refine TC.region ?_
          refine TL.run (pr_pure rfl) rfl ?_
          refine TL.run (pr_str rfl rfl rfl) rfl ?_
          refine TL.run (pr_pure rfl) rfl ?_
          refine TL.split (s := 34) rfl (fun g34 => ?_) (fun g34 => ?_)
          ·
            have q34 := of_ndec_true g34
            have hpos := pos_of q34
            refine TL.gdY rfl rfl (pr_pure rfl) rfl ?_
            refine TL.callSY rfl rfl (enters rfl rfl rfl rfl) (r_sign_ok t.text 0 (by decide) hpos hmax) rfl ?_
            refine TL.gdY rfl rfl (pr_pure rfl) rfl ?_
            refine TL.gdY rfl rfl (pr_lenStr rfl rfl) rfl ?_
            refine TL.gdY rfl rfl (pr_pure rfl) rfl ?_
            refine TL.run (pr_pure rfl) rfl ?_
            refine TL.run (pr_pure rfl) rfl ?_
            refine TL.nil ?_
            refine TX.seqN ?_
            refine TC.ret ?_
            refine TX.blkR ?_
            refine TX.thenR ?_
            exact TX.finS (.inr rfl) (results1 rfl (RVal.tmp rfl)) (congrArg Value.bool (by first | exact right_w0 c8 q12 | exact right_w1 c8 hc g17 | exact right_w2 c8 hc g17 | exact right_n c24 | exact right_q c28 | exact right_s0 c30 q34 | exact right_s2 c30 q34 | exact right_no c8 c24 c28 c30))
          ·
            have q34 := of_ndec_false g34
            refine TL.gdN rfl rfl rfl rfl ?_
            refine TL.gdN rfl rfl rfl rfl ?_
            refine TL.gdN rfl rfl rfl rfl ?_
            refine TL.gdN rfl rfl rfl rfl ?_
            refine TL.gdN rfl rfl rfl rfl ?_
            refine TL.run (pr_pure rfl) rfl ?_
            refine TL.run (pr_pure rfl) rfl ?_
            refine TL.nil ?_
            refine TX.seqN ?_
            refine TC.ret ?_
            refine TX.blkR ?_
            refine TX.thenR ?_
            exact TX.finS (.inr rfl) (results1 rfl (RVal.tmp rfl)) (congrArg Value.bool (by first | exact right_w0 c8 q12 | exact right_w1 c8 hc g17 | exact right_w2 c8 hc g17 | exact right_n c24 | exact right_q c28 | exact right_s0 c30 q34 | exact right_s2 c30 q34 | exact right_no c8 c24 c28 c30))
        ·
          refine TC.skip ?_
          refine TX.blkN ?_
          refine TX.seqN ?_
          refine TC.seq ?_
          refine TC.region ?_
          refine TL.run (pr_pure rfl) rfl ?_
          refine TL.nil ?_
          refine TX.seqN ?_
          refine TC.ret ?_
          exact TX.finS (.inr rfl) (results1 rfl (RVal.tmp rfl)) (congrArg Value.bool (by first | exact right_w0 c8 q12 | exact right_w1 c8 hc g17 | exact right_w2 c8 hc g17 | exact right_n c24 | exact right_q c28 | exact right_s0 c30 q34 | exact right_s2 c30 q34 | exact right_no c8 c24 c28 c30))

set_option maxRecDepth 100000 in
set_option maxHeartbeats 2000000 in
theorem r_Quoted_ok {H : Hp} (s : Str) (hmax : s.length ≤ 30000000000000) :
    FnS Tryd.prog 18 [gs s] H (gs (quotedL s)) := by
  refine FnS.enter Tryd.func18 Tryd.ntmps18 rfl rfl (fun w0 => ?_)
  refine TC.seq ?_
  refine TC.region ?_
  refine TL.run (pr_pure rfl) rfl ?_
  refine TL.nil ?_
  refine TX.seqN ?_
  refine TC.seq ?_
  refine TC.region ?_
  refine TL.bslice rfl rfl rfl rfl (fun b7 => ?_)
  refine TL.run (pr_pure rfl) rfl ?_
  refine TL.nil ?_
  refine TX.seqN ?_
  refine TC.seq ?_
  refine TC.region ?_
  refine TL.run (pr_pure rfl) rfl ?_
  refine TL.nil ?_
  refine TX.seqN ?_
  refine TC.seq ?_
  refine TC.seq ?_
  refine TC.region ?_
  refine TL.run (pr_pure rfl) rfl ?_
  refine TL.nil ?_
  refine TX.seqN ?_
  refine TC.block ?_
  refine TC.loop4 (V := fun k v ob H1 => [(3, v), (5, .int .i64 k)]) (K := [(0, _), (2, _), (4, _)]) (L := fun k v ob H1 => St [] w0 H H ob) (I := fun k v ob H1 => (0 ≤ k ∧ k ≤ s.length) ∧ ∃ o : Str, OwnSl 1 U8.cells v o ob ∧ o = 34 :: (s.take k.toNat).flatMap quotedC ∧ (o.length : Int) ≤ 4 * k + 1) (μ := fun k => (s.length - k).toNat) 0 (.slice (some ⟨b7, 0, none⟩) 1 1) [(b7, [.int .u8 34])] H ⟨rfl, rfl, rfl, rfl, rfl, trivial⟩ ⟨⟨by omega, by omega⟩, [34], OwnSl.blk [34] rfl rfl (by decide), rfl, by simp⟩ (fun w hw => hw) (fun k v ob H1 hI => ?_)
  obtain ⟨⟨k0, k1⟩, o, hO, ho, hol⟩ := hI
  obtain ⟨va, vc, rfl⟩ := hO.form
  refine TC.seq ?_
  refine TC.seq ?_
  refine TC.region ?_
  refine TL.run (pr_pure rfl) rfl ?_
  refine TL.run (pr_pure rfl) rfl ?_
  refine TL.run (pr_lenStr rfl rfl) rfl ?_
  refine TL.run (pr_pure rfl) rfl ?_
  refine TL.nil ?_
  refine TX.seqN ?_
  refine TC.condD rfl (fun c11 => ?_) (fun c11 => ?_)
  ·
    obtain ⟨c, hc⟩ := getSome (l := s) k0 c11
    refine TC.skip ?_
    refine TX.seqN ?_
    refine TC.seq ?_
    refine TC.block ?_
    refine TC.seq ?_
    refine TC.region ?_
    refine TL.run (pr_pure rfl) rfl ?_
    refine TL.run (pr_pure rfl) rfl ?_
    refine TL.run (pr_strIx rfl rfl (by omega) hc) rfl ?_
    refine TL.run (pr_pure rfl) rfl ?_
    refine TL.nil ?_
    refine TX.seqN ?_
    refine TC.block ?_
    refine TC.sw (decide (c = 34 ∨ c = 92)) 21 [(0, _), (2, _), (3, _), (4, _), (5, _), (6, _), (8, _), (9, _), (10, _), (11, _), (14, _), (15, _), (16, _)] ⟨rfl, rfl, rfl, rfl, rfl, rfl, rfl, rfl, rfl, rfl, rfl, rfl, rfl, trivial⟩ ?_ ?_
    ·
      refine TC.region ?_
      refine TL.run (pr_pure rfl) rfl ?_
      refine TL.run (pr_pure rfl) rfl ?_
      refine TL.run (pr_pure rfl) rfl ?_
      refine TL.split (s := 24) rfl (fun g24 => ?_) (fun g24 => ?_)
      ·
        have q24 := of_decide_eq_true g24
        refine TL.gdN rfl rfl rfl rfl ?_
        refine TL.gdN rfl rfl rfl rfl ?_
        refine TL.run (pr_pure rfl) rfl ?_
        refine TL.run (pr_pure rfl) rfl ?_
        refine TL.nil ?_
        exact TX.sw rfl (by first | exact esc_1 g24 | exact esc_2 g24) ⟨rfl, rfl, rfl, rfl, rfl, rfl, rfl, rfl, rfl, rfl, rfl, rfl, rfl, trivial⟩
      ·
        have q24 := of_decide_eq_false g24
        refine TL.gdY rfl rfl (pr_pure rfl) rfl ?_
        refine TL.gdY rfl rfl (pr_pure rfl) rfl ?_
        refine TL.run (pr_pure rfl) rfl ?_
        refine TL.run (pr_pure rfl) rfl ?_
        refine TL.nil ?_
        exact TX.sw rfl (by first | exact esc_1 g24 | exact esc_2 g24) ⟨rfl, rfl, rfl, rfl, rfl, rfl, rfl, rfl, rfl, rfl, rfl, rfl, rfl, trivial⟩
    refine TC.cond rfl (fun c21 => ?_) (fun c21 => ?_)
    ·
      refine TC.region ?_
      refine TL.run (pr_pure rfl) rfl ?_
      refine TL.run (pr_pure rfl) rfl ?_
      refine TL.bslice rfl rfl rfl rfl (fun b30 => ?_)
      refine TL.append (enc := U8.cells) rfl rfl rfl hO (Src.own [92, c] (.here _) rfl rfl) (by simp; omega) rfl (.skip _ .all) rfl (fun a31 c31 ob31 hO31 => ?_)
      refine TL.run (pr_pure rfl) rfl ?_
      refine TL.nil ?_
      refine TX.blkN ?_
      refine TX.blkN ?_
      refine TX.seqN ?_
      refine TC.region ?_
      refine TL.run (pr_pure rfl) rfl ?_
      refine TL.run ((by first | exact pr_add rfl rfl (by omega) (by omega) | exact pr_pure rfl)) rfl ?_
      refine TL.run (pr_pure rfl) rfl ?_
      refine TL.nil ?_
      exact TX.round4 (k + 1) _ ob31 H1 ⟨⟨by omega, by omega⟩, _, hO31, qd_next k0 hc (qc_esc c21) ho, by simp; omega⟩ ⟨rfl, rfl, rfl, rfl, rfl, trivial⟩ (fun w hw => hw.drop) (by omega)
    ·
      refine TC.seq ?_
      refine TC.region ?_
      refine TL.run (pr_pure rfl) rfl ?_
      refine TL.run (pr_pure rfl) rfl ?_
      refine TL.run (pr_pure rfl) rfl ?_
      refine TL.nil ?_
      refine TX.seqN ?_
      refine TC.condD rfl (fun c32 => ?_) (fun c32 => ?_)
      ·
        refine TC.region ?_
        refine TL.run (pr_pure rfl) rfl ?_
        refine TL.bslice rfl rfl rfl rfl (fun b36 => ?_)
        refine TL.append (enc := U8.cells) rfl rfl rfl hO (Src.own [92, 110] (.here _) rfl rfl) (by simp; omega) rfl (.skip _ .all) rfl (fun a37 c37 ob37 hO37 => ?_)
        refine TL.run (pr_pure rfl) rfl ?_
        refine TL.nil ?_
        refine TX.blkN ?_
        refine TX.blkN ?_
        refine TX.seqN ?_
        refine TC.region ?_
        refine TL.run (pr_pure rfl) rfl ?_
        refine TL.run ((by first | exact pr_add rfl rfl (by omega) (by omega) | exact pr_pure rfl)) rfl ?_
        refine TL.run (pr_pure rfl) rfl ?_
        refine TL.nil ?_
        exact TX.round4 (k + 1) _ ob37 H1 ⟨⟨by omega, by omega⟩, _, hO37, qd_next k0 hc (qc_n c21 c32) ho, by simp; omega⟩ ⟨rfl, rfl, rfl, rfl, rfl, trivial⟩ (fun w hw => hw.drop) (by omega)
      ·
        refine TC.sw (!plainB c) 38 [(0, _), (2, _), (3, _), (4, _), (5, _), (6, _), (8, _), (9, _), (10, _), (11, _), (14, _), (15, _), (16, _), (21, _), (32, _), (33, _), (34, _)] ⟨rfl, rfl, rfl, rfl, rfl, rfl, rfl, rfl, rfl, rfl, rfl, rfl, rfl, rfl, rfl, rfl, rfl, trivial⟩ ?_ ?_
        ·
          refine TC.region ?_
          refine TL.run (pr_pure rfl) rfl ?_
          refine TL.run (pr_pure rfl) rfl ?_
          refine TL.run (pr_pure rfl) rfl ?_
          refine TL.split (s := 41) rfl (fun g41 => ?_) (fun g41 => ?_)
          ·
            have q41 := of_decide_eq_true g41
            refine TL.gdN rfl rfl rfl rfl ?_
            refine TL.gdN rfl rfl rfl rfl ?_
            refine TL.run (pr_pure rfl) rfl ?_
            refine TL.run (pr_pure rfl) rfl ?_
            refine TL.nil ?_
            exact TX.sw rfl (by first | exact plain_1 g41 | exact plain_2 g41) ⟨rfl, rfl, rfl, rfl, rfl, rfl, rfl, rfl, rfl, rfl, rfl, rfl, rfl, rfl, rfl, rfl, rfl, trivial⟩
          ·
            have q41 := of_decide_eq_false g41
            refine TL.gdY rfl rfl (pr_pure rfl) rfl ?_
            refine TL.gdY rfl rfl (pr_pure rfl) rfl ?_
            refine TL.run (pr_pure rfl) rfl ?_
            refine TL.run (pr_pure rfl) rfl ?_
            refine TL.nil ?_
            exact TX.sw rfl (by first | exact plain_1 g41 | exact plain_2 g41) ⟨rfl, rfl, rfl, rfl, rfl, rfl, rfl, rfl, rfl, rfl, rfl, rfl, rfl, rfl, rfl, rfl, rfl, trivial⟩
        refine TC.cond rfl (fun c38 => ?_) (fun c38 => ?_)
        ·
          refine TC.drawn (by kernel_rfl) (by kernel_rfl) ?_
          refine TD.leaf [(0, 1), (1, 1), (2, 1), (3, 1), (4, 1), (5, 1), (6, 1), (7, 1), (8, 1), (9, 3), (10, 0), (11, 1)] (by kernel_rfl) (by kernel_rfl) ?_
          refine TF.pure (pr_pure rfl) rfl ?_
          refine TF.pure (pr_pure rfl) rfl ?_
          refine TF.pure (pr_pure rfl) rfl ?_
          refine TF.pure (PR.to (pr_shr rfl rfl (by decide) (by decide)) (congrArg (Value.int .u8) (u8_shr4 _))) rfl ?_
          refine TF.pure (pr_strIx rfl rfl (by omega) (hexd_hi c)) rfl ?_
          refine TF.pure (pr_pure rfl) rfl ?_
          refine TF.pure (pr_pure rfl) rfl ?_
          refine TF.pure (PR.to (pr_and rfl rfl) (congrArg (Value.int .u8) (u8_and15 _))) rfl ?_
          refine TF.pure (pr_strIx rfl rfl (by omega) (hexd_lo c)) rfl ?_
          refine TF.bslice rfl rfl rfl rfl (fun b54 => ?_)
          refine TF.loud ?_
          refine TL.append (enc := U8.cells) rfl rfl rfl hO (Src.own [92, 120, quotedC.hexC (c / 16), quotedC.hexC (c % 16)] (.here _) rfl rfl) (by simp; omega) rfl (.skip _ .all) rfl (fun a55 c55 ob55 hO55 => ?_)
          refine TF.back ?_
          refine TF.pure (pr_pure rfl) rfl ?_
          refine TF.nil ?_
          refine TX.blkN ?_
          refine TX.blkN ?_
          refine TX.seqN ?_
          refine TC.region ?_
          refine TL.run (pr_pure rfl) rfl ?_
          refine TL.run ((by first | exact pr_add rfl rfl (by omega) (by omega) | exact pr_pure rfl)) rfl ?_
          refine TL.run (pr_pure rfl) rfl ?_
          refine TL.nil ?_
          exact TX.round4 (k + 1) _ ob55 H1 ⟨⟨by omega, by omega⟩, _, hO55, qd_next k0 hc (qc_x c21 c32 c38) ho, by simp; omega⟩ ⟨rfl, rfl, rfl, rfl, rfl, trivial⟩ (fun w hw => hw.drop) (by omega)
        ·
          refine TC.region ?_
          refine TL.run (pr_pure rfl) rfl ?_
          refine TL.run (pr_pure rfl) rfl ?_
          refine TL.bslice rfl rfl rfl rfl (fun b19 => ?_)
          refine TL.append (enc := U8.cells) rfl rfl rfl hO (Src.own [c] (.here _) rfl rfl) (by simp; omega) rfl (.skip _ .all) rfl (fun a20 c20 ob20 hO20 => ?_)
          refine TL.run (pr_pure rfl) rfl ?_
          refine TL.nil ?_
          refine TX.blkN ?_
          refine TX.blkN ?_
          refine TX.seqN ?_
          refine TC.region ?_
          refine TL.run (pr_pure rfl) rfl ?_
          refine TL.run ((by first | exact pr_add rfl rfl (by omega) (by omega) | exact pr_pure rfl)) rfl ?_
          refine TL.run (pr_pure rfl) rfl ?_
          refine TL.nil ?_
          exact TX.round4 (k + 1) _ ob20 H1 ⟨⟨by omega, by omega⟩, _, hO20, qd_next k0 hc (qc_p c21 c32 c38) ho, by simp; omega⟩ ⟨rfl, rfl, rfl, rfl, rfl, trivial⟩ (fun w hw => hw.drop) (by omega)
  ·
    refine TC.exit ?_
    refine TX.thenE ?_
    refine TX.thenE ?_
    refine TX.blkHit ?_
    refine TX.seqN ?_
    refine TC.seq ?_
    refine TC.region ?_
    refine TL.run (pr_pure rfl) rfl ?_
    refine TL.bslice rfl rfl rfl rfl (fun b57 => ?_)
    refine TL.append (enc := U8.cells) rfl rfl rfl hO (Src.own [34] (.here _) rfl rfl) (by simp; omega) rfl (.skip _ .all) rfl (fun a58 c58 ob58 hO58 => ?_)
    refine TL.run (pr_bytes rfl hO58 (.skip _ .all)) rfl ?_
    refine TL.run (pr_pure rfl) rfl ?_
    refine TL.nil ?_
    refine TX.seqN ?_
    refine TC.ret ?_
    exact TX.finS (.inr rfl) (results1 rfl (RVal.tmp rfl)) (congrArg gs (qd_end k0 c11 ho))

set_option maxRecDepth 100000 in
set_option maxHeartbeats 4000000 in
theorem r_Write_ok {H : Hp} {l : List Token} {v : Value} (hL : RdSl H 3 Token.cells v l) (hs : sumW l ≤ 30000000000000) :
    FnS Tryd.prog 17 [v] H (.tuple #[gs (writeS l).1, .int .i64 (writeS l).2]) := by
  obtain ⟨la, lc, rfl⟩ := hL.len
  have hmx := hL.max
  refine FnS.enter Tryd.func17 Tryd.ntmps17 rfl rfl (fun w0 => ?_)
  refine TC.seq ?_
  refine TC.region ?_
  refine TL.run (pr_pure rfl) rfl ?_
  refine TL.run (pr_pure rfl) rfl ?_
  refine TL.nil ?_
  refine TX.seqN ?_
  refine TC.seq ?_
  refine TC.region ?_
  refine TL.run (pr_pure rfl) rfl ?_
  refine TL.nil ?_
  refine TX.seqN ?_
  refine TC.seq ?_
  refine TC.seq ?_
  refine TC.region ?_
  refine TL.run (pr_pure rfl) rfl ?_
  refine TL.nil ?_
  refine TX.seqN ?_
  refine TC.block ?_
  refine TC.loop (V := fun (p : Str × Int) => [(4, gs p.1), (5, .int .i64 p.2)]) (K := [(0, _), (2, _), (3, _)]) (L := fun (p : Str × Int) => _) (I := fun (p : Str × Int) => (0 ≤ p.2 ∧ p.2 ≤ l.length) ∧ writeF none l = (writeF (prevT l p.2) (l.drop p.2.toNat)).map (fun x => p.1 ++ x) ∧ p.1.length ≤ sumW (l.take p.2.toNat) ∧ ∀ t, prevT l p.2 = some t → rightB t = true) (μ := fun (p : Str × Int) => (l.length - p.2).toNat) (i := (([] : Str), (0 : Int))) ⟨rfl, rfl, rfl, rfl, rfl, trivial⟩ ⟨⟨by omega, by omega⟩, (by show writeF none l = (writeF none l).map _; simp), Nat.zero_le _, fun t ht => by cases ht⟩ (fun w hw => hw) (fun (p : Str × Int) hI => ?_)
  obtain ⟨⟨k0, k1⟩, hw, hol, hpr⟩ := hI
  refine TC.seq ?_
  refine TC.seq ?_
  refine TC.region ?_
  refine TL.run (pr_pure rfl) rfl ?_
  refine TL.run (pr_pure rfl) rfl ?_
  refine TL.run (pr_lenSl rfl rfl hL) rfl ?_
  refine TL.run (pr_pure rfl) rfl ?_
  refine TL.nil ?_
  refine TX.seqN ?_
  refine TC.condD rfl (fun c9 => ?_) (fun c9 => ?_)
  ·
    obtain ⟨t, hx⟩ := getSome (l := l) k0 c9
    have hsw := sumW_at k0 hx
    refine TC.skip ?_
    refine TX.seqN ?_
    refine TC.seq ?_
    refine TC.block ?_
    refine TC.seq ?_
    refine TC.sw (badW (prevT l p.2) t) 46 [(0, _), (2, _), (3, _), (4, _), (5, _), (6, _), (7, _), (8, _), (9, _)] ⟨rfl, rfl, rfl, rfl, rfl, rfl, rfl, rfl, rfl, trivial⟩ ?_ ?_
    ·
      refine TC.region ?_
      refine TL.run (pr_pure rfl) rfl ?_
      refine TL.run (pr_pure rfl) rfl ?_
      refine TL.run (pr_indexSl rfl hL rfl (by omega) (by omega)) rfl ?_
      refine TL.run (pr_elA hL hx rfl rfl) rfl ?_
      refine TL.callS (enters rfl rfl rfl rfl) (r_tokenMay_ok t (by omega)) rfl ?_
      refine TL.run (pr_pure rfl) rfl ?_
      refine TL.run (pr_pure rfl) rfl ?_
      refine TL.split (s := 18) rfl (fun g18 => ?_) (fun g18 => ?_)
      ·
        refine TL.gdN rfl rfl rfl rfl ?_
        refine TL.gdN rfl rfl rfl rfl ?_
        refine TL.gdN rfl rfl rfl rfl ?_
        refine TL.gdN rfl rfl rfl rfl ?_
        refine TL.gdN rfl rfl rfl rfl ?_
        refine TL.gdN rfl rfl rfl rfl ?_
        refine TL.gdN rfl rfl rfl rfl ?_
        refine TL.gdU rfl rfl rfl ?_
        refine TL.gdU rfl rfl rfl ?_
        refine TL.gdU rfl rfl rfl ?_
        refine TL.gdU rfl rfl rfl ?_
        refine TL.gdU rfl rfl rfl ?_
        refine TL.gdU rfl rfl rfl ?_
        refine TL.gdU rfl rfl rfl ?_
        refine TL.gdN rfl rfl rfl rfl ?_
        refine TL.gdN rfl rfl rfl rfl ?_
        refine TL.gdU rfl rfl rfl ?_
        refine TL.gdU rfl rfl rfl ?_
        refine TL.gdN rfl rfl rfl rfl ?_
        refine TL.gdN rfl rfl rfl rfl ?_
        refine TL.gdU rfl rfl rfl ?_
        refine TL.gdU rfl rfl rfl ?_
        refine TL.gdU rfl rfl rfl ?_
        refine TL.gdU rfl rfl rfl ?_
        refine TL.gdU rfl rfl rfl ?_
        refine TL.gdU rfl rfl rfl ?_
        refine TL.gdN rfl rfl rfl rfl ?_
        refine TL.run (pr_pure rfl) rfl ?_
        refine TL.nil ?_
        exact TX.sw rfl (by first | exact bw_1 g18 | exact bw_2 g18 q25 | exact bw_3 g18 hc g34 | exact bw_4 g18 q38 | exact bw_6 g18 q25 hc g34 hp q38 hpr) ⟨rfl, rfl, rfl, rfl, rfl, rfl, rfl, rfl, rfl, trivial⟩
      ·
        refine TL.gdY rfl rfl (pr_pure rfl) rfl ?_
        refine TL.gdY rfl rfl (pr_pure rfl) rfl ?_
        refine TL.gdY rfl rfl (pr_indexSl rfl hL rfl (by omega) (by omega)) rfl ?_
        refine TL.gdY rfl rfl (pr_field rfl) rfl ?_
        refine TL.gdY rfl rfl (pr_el1 hL hx rfl rfl) rfl ?_
        refine TL.gdY rfl rfl (pr_pure rfl) rfl ?_
        refine TL.gdY rfl rfl (pr_pure rfl) rfl ?_
        refine TL.split (s := 25) rfl (fun g25 => ?_) (fun g25 => ?_)
        ·
          have q25 := of_decide_eq_true g25
          obtain ⟨c, hc⟩ := right_head g18 q25
          refine TL.gdY rfl rfl (pr_pure rfl) rfl ?_
          refine TL.gdY rfl rfl (pr_pure rfl) rfl ?_
          refine TL.gdY rfl rfl (pr_indexSl rfl hL rfl (by omega) (by omega)) rfl ?_
          refine TL.gdY rfl rfl (pr_field rfl) rfl ?_
          refine TL.gdY rfl rfl (pr_el1 hL hx rfl rfl) rfl ?_
          refine TL.gdY rfl rfl (pr_strIx rfl rfl (by omega) hc) rfl ?_
          refine TL.gdY rfl rfl (pr_pure rfl) rfl ?_
          refine TL.gdY rfl rfl (pr_pure rfl) rfl ?_
          refine TL.gdY rfl rfl (pr_pure rfl) rfl ?_
          refine TL.split (s := 34) rfl (fun g34 => ?_) (fun g34 => ?_)
          ·
            have q34 := of_decide_eq_true g34
            refine TL.gdY rfl rfl (pr_pure rfl) rfl ?_
            refine TL.gdY rfl rfl (pr_pure rfl) rfl ?_
            refine TL.gdY rfl rfl (pr_pure rfl) rfl ?_
            refine TL.gdY rfl rfl (pr_pure rfl) rfl ?_
            refine TL.split (s := 38) rfl (fun g38 => ?_) (fun g38 => ?_)
            ·
              have q38 := of_decide_eq_true g38
              refine TL.gdY rfl rfl (pr_pure rfl) rfl ?_
              refine TL.gdY rfl rfl (pr_pure rfl) rfl ?_
              refine TL.gdY rfl rfl ((by first | exact pr_sub rfl rfl (by omega) (by omega) | exact pr_pure rfl)) rfl ?_
              obtain ⟨tp, hp⟩ := getSome (l := l) (i := p.2 - 1) (by simp_all; omega) (by omega)
              refine TL.gdY rfl rfl (pr_indexSl rfl hL rfl (by omega) (by omega)) rfl ?_
              refine TL.gdY rfl rfl (pr_elA hL hp rfl rfl) rfl ?_
              refine TL.callSY rfl rfl (enters rfl rfl rfl rfl) (r_ends_ok tp) rfl ?_
              refine TL.gdY rfl rfl (pr_pure rfl) rfl ?_
              refine TL.run (pr_pure rfl) rfl ?_
              refine TL.nil ?_
              exact TX.sw rfl (by first | exact bw_1 g18 | exact bw_2 g18 q25 | exact bw_3 g18 hc g34 | exact bw_4 g18 q38 | exact bw_6 g18 q25 hc g34 hp q38 hpr) ⟨rfl, rfl, rfl, rfl, rfl, rfl, rfl, rfl, rfl, trivial⟩
            ·
              have q38 := of_decide_eq_false g38
              refine TL.gdN rfl rfl rfl rfl ?_
              refine TL.gdN rfl rfl rfl rfl ?_
              refine TL.gdN rfl rfl rfl rfl ?_
              refine TL.gdN rfl rfl rfl rfl ?_
              refine TL.gdN rfl rfl rfl rfl ?_
              refine TL.gdN rfl rfl rfl rfl ?_
              refine TL.gdY rfl rfl (pr_pure rfl) rfl ?_
              refine TL.run (pr_pure rfl) rfl ?_
              refine TL.nil ?_
              exact TX.sw rfl (by first | exact bw_1 g18 | exact bw_2 g18 q25 | exact bw_3 g18 hc g34 | exact bw_4 g18 q38 | exact bw_6 g18 q25 hc g34 hp q38 hpr) ⟨rfl, rfl, rfl, rfl, rfl, rfl, rfl, rfl, rfl, trivial⟩
          ·
            have q34 := of_decide_eq_false g34
            refine TL.gdN rfl rfl rfl rfl ?_
            refine TL.gdN rfl rfl rfl rfl ?_
            refine TL.gdY rfl rfl (pr_pure rfl) rfl ?_
            refine TL.gdY rfl rfl (pr_pure rfl) rfl ?_
            refine TL.gdN rfl rfl rfl rfl ?_
            refine TL.gdN rfl rfl rfl rfl ?_
            refine TL.gdN rfl rfl rfl rfl ?_
            refine TL.gdN rfl rfl rfl rfl ?_
            refine TL.gdN rfl rfl rfl rfl ?_
            refine TL.gdN rfl rfl rfl rfl ?_
            refine TL.gdY rfl rfl (pr_pure rfl) rfl ?_
            refine TL.run (pr_pure rfl) rfl ?_
            refine TL.nil ?_
            exact TX.sw rfl (by first | exact bw_1 g18 | exact bw_2 g18 q25 | exact bw_3 g18 hc g34 | exact bw_4 g18 q38 | exact bw_6 g18 q25 hc g34 hp q38 hpr) ⟨rfl, rfl, rfl, rfl, rfl, rfl, rfl, rfl, rfl, trivial⟩
        ·
          have q25 := of_decide_eq_false g25
          refine TL.gdN rfl rfl rfl rfl ?_
          refine TL.gdN rfl rfl rfl rfl ?_
          refine TL.gdN rfl rfl rfl rfl ?_
          refine TL.gdN rfl rfl rfl rfl ?_
          refine TL.gdN rfl rfl rfl rfl ?_
          refine TL.gdN rfl rfl rfl rfl ?_
          refine TL.gdN rfl rfl rfl rfl ?_
          refine TL.gdY rfl rfl (pr_pure rfl) rfl ?_
          refine TL.gdY rfl rfl (pr_pure rfl) rfl ?_
          refine TL.gdN rfl rfl rfl rfl ?_
          refine TL.gdN rfl rfl rfl rfl ?_
          refine TL.gdY rfl rfl (pr_pure rfl) rfl ?_
          refine TL.gdY rfl rfl (pr_pure rfl) rfl ?_
          refine TL.gdN rfl rfl rfl rfl ?_
          refine TL.gdN rfl rfl rfl rfl ?_
          refine TL.gdN rfl rfl rfl rfl ?_
          refine TL.gdN rfl rfl rfl rfl ?_
          refine TL.gdN rfl rfl rfl rfl ?_
          refine TL.gdN rfl rfl rfl rfl ?_
          refine TL.gdY rfl rfl (pr_pure rfl) rfl ?_
          refine TL.run (pr_pure rfl) rfl ?_
          refine TL.nil ?_
          exact TX.sw rfl (by first | exact bw_1 g18 | exact bw_2 g18 q25 | exact bw_3 g18 hc g34 | exact bw_4 g18 q38 | exact bw_6 g18 q25 hc g34 hp q38 hpr) ⟨rfl, rfl, rfl, rfl, rfl, rfl, rfl, rfl, rfl, trivial⟩
    refine TC.cond rfl (fun c46 => ?_) (fun c46 => ?_)
    ·
      refine TC.seq ?_
      refine TC.region ?_
      refine TL.run (pr_pure rfl) rfl ?_
      refine TL.run (pr_pure rfl) rfl ?_
      refine TL.nil ?_
      refine TX.seqN ?_
      refine TC.ret ?_
      refine TX.thenR ?_
      refine TX.blkR ?_
      refine TX.thenR ?_
      refine TX.thenR ?_
      refine TX.blkR ?_
      refine TX.thenR ?_
      exact TX.finS (.inr rfl) (results2 rfl (RVal.tmp rfl) (RVal.tmp rfl)) (by rw [wr_bad k0 hx c46 hw]; rfl)
    ·
      have hbad := c46
      have hrt := (badW_not hbad).1
      refine TC.skip ?_
      refine TX.seqN ?_
      refine TC.seq ?_
      refine TC.seq ?_
      refine TC.region ?_
      refine TL.run (pr_pure rfl) rfl ?_
      refine TL.run (pr_pure rfl) rfl ?_
      refine TL.nil ?_
      refine TX.seqN ?_
      refine TC.condD rfl (fun c48 => ?_) (fun c48 => ?_)
      ·
        refine TC.region ?_
        refine TL.run (pr_pure rfl) rfl ?_
        refine TL.run (pr_concat rfl rfl (by have hq2 := (quotedL_len t.text).2; first | omega | (simp only [List.length_append, List.length_cons, List.length_nil]; omega))) rfl ?_
        refine TL.run (pr_pure rfl) rfl ?_
        refine TL.nil ?_
        refine TX.seqN ?_
        refine TC.seq ?_
        refine TC.region ?_
        refine TL.run (pr_pure rfl) rfl ?_
        refine TL.run (pr_pure rfl) rfl ?_
        refine TL.run (pr_indexSl rfl hL rfl (by omega) (by omega)) rfl ?_
        refine TL.run (pr_field rfl) rfl ?_
        refine TL.run (pr_el1 hL hx rfl rfl) rfl ?_
        refine TL.run (pr_pure rfl) rfl ?_
        refine TL.nil ?_
        refine TX.seqN ?_
        refine TC.condD rfl (fun c56 => ?_) (fun c56 => ?_)
        ·
          refine TC.region ?_
          refine TL.run (pr_pure rfl) rfl ?_
          refine TL.run (pr_pure rfl) rfl ?_
          refine TL.run (pr_pure rfl) rfl ?_
          refine TL.run (pr_indexSl rfl hL rfl (by omega) (by omega)) rfl ?_
          refine TL.run (pr_field rfl) rfl ?_
          refine TL.run (pr_el1 hL hx rfl rfl) rfl ?_
          refine TL.callS (enters rfl rfl rfl rfl) (r_Quoted_ok t.text (by omega)) rfl ?_
          refine TL.run (pr_concat rfl rfl (by have hq2 := (quotedL_len t.text).2; first | omega | (simp only [List.length_append, List.length_cons, List.length_nil]; omega))) rfl ?_
          refine TL.run (pr_pure rfl) rfl ?_
          refine TL.nil ?_
          refine TX.blkN ?_
          refine TX.seqN ?_
          refine TC.region ?_
          refine TL.run (pr_pure rfl) rfl ?_
          refine TL.run ((by first | exact pr_add rfl rfl (by omega) (by omega) | exact pr_pure rfl)) rfl ?_
          refine TL.run (pr_pure rfl) rfl ?_
          refine TL.nil ?_
          exact TX.round (_, p.2 + 1) ⟨by omega, wr_next_pq k0 hx hbad c48 c56 hw, by have hq2 := (quotedL_len t.text).2; simp only [List.length_append, List.length_cons, List.length_nil]; omega, fun u hu => by rw [prevT_next k0 hx] at hu; cases hu; exact hrt⟩ ⟨rfl, rfl, rfl, rfl, rfl, trivial⟩ (fun w hw => hw) (by omega)
        ·
          refine TC.region ?_
          refine TL.run (pr_pure rfl) rfl ?_
          refine TL.run (pr_pure rfl) rfl ?_
          refine TL.run (pr_pure rfl) rfl ?_
          refine TL.run (pr_indexSl rfl hL rfl (by omega) (by omega)) rfl ?_
          refine TL.run (pr_field rfl) rfl ?_
          refine TL.run (pr_el1 hL hx rfl rfl) rfl ?_
          refine TL.run (pr_concat rfl rfl (by have hq2 := (quotedL_len t.text).2; first | omega | (simp only [List.length_append, List.length_cons, List.length_nil]; omega))) rfl ?_
          refine TL.run (pr_pure rfl) rfl ?_
          refine TL.nil ?_
          refine TX.blkN ?_
          refine TX.seqN ?_
          refine TC.region ?_
          refine TL.run (pr_pure rfl) rfl ?_
          refine TL.run ((by first | exact pr_add rfl rfl (by omega) (by omega) | exact pr_pure rfl)) rfl ?_
          refine TL.run (pr_pure rfl) rfl ?_
          refine TL.nil ?_
          exact TX.round (_, p.2 + 1) ⟨by omega, wr_next_pt k0 hx hbad c48 c56 hw, by have hq2 := (quotedL_len t.text).2; simp only [List.length_append, List.length_cons, List.length_nil]; omega, fun u hu => by rw [prevT_next k0 hx] at hu; cases hu; exact hrt⟩ ⟨rfl, rfl, rfl, rfl, rfl, trivial⟩ (fun w hw => hw) (by omega)
      ·
        refine TC.skip ?_
        refine TX.seqN ?_
        refine TC.seq ?_
        refine TC.region ?_
        refine TL.run (pr_pure rfl) rfl ?_
        refine TL.run (pr_pure rfl) rfl ?_
        refine TL.run (pr_indexSl rfl hL rfl (by omega) (by omega)) rfl ?_
        refine TL.run (pr_field rfl) rfl ?_
        refine TL.run (pr_el1 hL hx rfl rfl) rfl ?_
        refine TL.run (pr_pure rfl) rfl ?_
        refine TL.nil ?_
        refine TX.seqN ?_
        refine TC.condD rfl (fun c56 => ?_) (fun c56 => ?_)
        ·
          refine TC.region ?_
          refine TL.run (pr_pure rfl) rfl ?_
          refine TL.run (pr_pure rfl) rfl ?_
          refine TL.run (pr_pure rfl) rfl ?_
          refine TL.run (pr_indexSl rfl hL rfl (by omega) (by omega)) rfl ?_
          refine TL.run (pr_field rfl) rfl ?_
          refine TL.run (pr_el1 hL hx rfl rfl) rfl ?_
          refine TL.callS (enters rfl rfl rfl rfl) (r_Quoted_ok t.text (by omega)) rfl ?_
          refine TL.run (pr_concat rfl rfl (by have hq2 := (quotedL_len t.text).2; first | omega | (simp only [List.length_append, List.length_cons, List.length_nil]; omega))) rfl ?_
          refine TL.run (pr_pure rfl) rfl ?_
          refine TL.nil ?_
          refine TX.blkN ?_
          refine TX.seqN ?_
          refine TC.region ?_
          refine TL.run (pr_pure rfl) rfl ?_
          refine TL.run ((by first | exact pr_add rfl rfl (by omega) (by omega) | exact pr_pure rfl)) rfl ?_
          refine TL.run (pr_pure rfl) rfl ?_
          refine TL.nil ?_
          exact TX.round (_, p.2 + 1) ⟨by omega, wr_next_zq k0 hx hbad c48 c56 hw, by have hq2 := (quotedL_len t.text).2; simp only [List.length_append, List.length_cons, List.length_nil]; omega, fun u hu => by rw [prevT_next k0 hx] at hu; cases hu; exact hrt⟩ ⟨rfl, rfl, rfl, rfl, rfl, trivial⟩ (fun w hw => hw) (by omega)
        ·
          refine TC.region ?_
          refine TL.run (pr_pure rfl) rfl ?_
          refine TL.run (pr_pure rfl) rfl ?_
          refine TL.run (pr_pure rfl) rfl ?_
          refine TL.run (pr_indexSl rfl hL rfl (by omega) (by omega)) rfl ?_
          refine TL.run (pr_field rfl) rfl ?_
          refine TL.run (pr_el1 hL hx rfl rfl) rfl ?_
          refine TL.run (pr_concat rfl rfl (by have hq2 := (quotedL_len t.text).2; first | omega | (simp only [List.length_append, List.length_cons, List.length_nil]; omega))) rfl ?_
          refine TL.run (pr_pure rfl) rfl ?_
          refine TL.nil ?_
          refine TX.blkN ?_
          refine TX.seqN ?_
          refine TC.region ?_
          refine TL.run (pr_pure rfl) rfl ?_
          refine TL.run ((by first | exact pr_add rfl rfl (by omega) (by omega) | exact pr_pure rfl)) rfl ?_
          refine TL.run (pr_pure rfl) rfl ?_
          refine TL.nil ?_
          exact TX.round (_, p.2 + 1) ⟨by omega, wr_next_zt k0 hx hbad c48 c56 hw, by have hq2 := (quotedL_len t.text).2; simp only [List.length_append, List.length_cons, List.length_nil]; omega, fun u hu => by rw [prevT_next k0 hx] at hu; cases hu; exact hrt⟩ ⟨rfl, rfl, rfl, rfl, rfl, trivial⟩ (fun w hw => hw) (by omega)
  ·
    refine TC.exit ?_
    refine TX.thenE ?_
    refine TX.thenE ?_
    refine TX.blkHit ?_
    refine TX.seqN ?_
    refine TC.seq ?_
    refine TC.region ?_
    refine TL.run (pr_pure rfl) rfl ?_
    refine TL.run (pr_pure rfl) rfl ?_
    refine TL.run (pr_pure rfl) rfl ?_
    refine TL.nil ?_
    refine TX.seqN ?_
    refine TC.ret ?_
    exact TX.finS (.inr rfl) (results2 rfl (RVal.tmp rfl) (RVal.tmp rfl)) (by rw [wr_end c9 k0 hw])
end Go.Sx
