import Derived.Test.YtepbjoagighhhaaWL4
set_option linter.unusedVariables false
set_option linter.unusedSimpArgs false
namespace Go.Sx
open Go Go.Proofs
set_option maxRecDepth 100000 in
set_option maxHeartbeats 4000000 in
theorem TermBools_ok {H : Hp} (a b : Bool) :
    FnS Try.prog 8 [.bool a, .bool b] H (.bool true) := by
  refine FnS.enter Try.func8 Try.ntmps8 rfl rfl (fun w0 => ?_)
  refine TC.seq ?_
  refine TC.region ?_
  refine TL.run (pr_pure rfl) rfl ?_
  refine TL.nil ?_
  refine TX.seqN ?_
  refine TC.seq ?_
  refine TC.seq ?_
  refine TC.region ?_
  refine TL.callS (enters rfl rfl rfl rfl) (first4_ok) rfl ?_
  refine TL.run (pr_pure rfl) rfl ?_
  refine TL.nil ?_
  refine TX.seqN ?_
  refine TC.cond rfl (fun c20 => ?_) (fun c20 => ?_)
  ·
    exact absurd c20 (by decide)
  ·
    refine TC.skip ?_
    refine TX.seqN ?_
    refine TC.seq ?_
    refine TC.region ?_
    refine TL.run (pr_pure rfl) rfl ?_
    refine TL.run (pr_pure rfl) rfl ?_
    refine TL.nil ?_
    refine TX.seqN ?_
    refine TC.seq ?_
    refine TC.seq ?_
    refine TC.region ?_
    refine TL.run (pr_pure rfl) rfl ?_
    refine TL.nil ?_
    refine TX.seqN ?_
    refine TC.cond rfl (fun c21 => ?_) (fun c21 => ?_)
    ·
      refine TC.region ?_
      refine TL.run (pr_pure rfl) rfl ?_
      refine TL.nil ?_
      refine TX.seqN ?_
      refine TC.seq ?_
      refine TC.seq ?_
      refine TC.region ?_
      refine TL.run (pr_pure rfl) rfl ?_
      refine TL.nil ?_
      refine TX.seqN ?_
      refine TC.cond rfl (fun c22 => ?_) (fun c22 => ?_)
      ·
        refine TC.region ?_
        refine TL.run (pr_pure rfl) rfl ?_
        refine TL.nil ?_
        refine TX.seqN ?_
        refine TC.seq ?_
        refine TC.region ?_
        refine TL.run (pr_pure rfl) rfl ?_
        refine TL.run (pr_build rfl rfl) rfl ?_
        refine TL.run (pr_pure rfl) rfl ?_
        refine TL.run (pr_build rfl rfl) rfl ?_
        refine TL.bslice rfl rfl rfl rfl (fun b27 => ?_)
        refine TL.run (pr_pure rfl) rfl ?_
        refine TL.nil ?_
        refine TX.seqN ?_
        refine TC.seq ?_
        refine TC.region ?_
        refine TL.run (pr_pure rfl) rfl ?_
        refine TL.append (enc := Term.cells) rfl rfl rfl (OwnSl.nil (enc := Term.cells)) (Src.own [⟨_, _, _, _, _, _⟩, ⟨_, _, _, _, _, _⟩] (.here _) rfl rfl) (by decide) rfl (.new _ rfl) rfl (fun a30 c30 ob30 hO30 => ?_)
        refine TL.callS (enters rfl rfl rfl rfl) (two4_ok _ _ _) rfl ?_
        refine TL.bslice rfl rfl rfl rfl (fun b32 => ?_)
        refine TL.append (enc := Term.cells) rfl rfl rfl hO30 (Src.own [⟨_, _, _, _, _, _⟩] (.here _) rfl rfl) (by decide) rfl (.skip _ (.skip _ .all)) rfl (fun a33 c33 ob33 hO33 => ?_)
        refine TL.pubO hO33 (.skip _ (.skip _ .all)) (by simp) (fun HL leL hT => ?_)
        refine TL.call (enters rfl rfl rfl rfl) (Eval_ok 2 hT binds_nil EnvOk.nil lens_nil (by decide)) rfl (fun v34 H34 hle34 hp34 => ?_)
        replace hp34 := hp34.eq ((show evalS ([⟨2, [], 1, [], -1, -1⟩, ⟨2, [], 1, [], -1, -1⟩] ++ [twoT 13 0 1]) 2 [] = (truthV true, 0) by kernel_rfl))
        obtain ⟨lv34, rfl, hR34⟩ := hp34
        obtain ⟨la34, lc34, rfl⟩ := RdSl.len hR34
        refine TL.run (pr_pure rfl) rfl ?_
        refine TL.run (pr_pure rfl) rfl ?_
        refine TL.run (pr_pure rfl) rfl ?_
        refine TL.alloc rfl (fun b8 => ?_)
        refine TL.storeA rfl rfl rfl rfl rfl (.here _) rfl rfl ?_
        refine TL.run (pr_pure rfl) rfl ?_
        refine TL.nil ?_
        refine TX.seqN ?_
        refine TC.seq ?_
        refine TC.region ?_
        refine TL.run (pr_pure rfl) rfl ?_
        refine TL.append (enc := Term.cells) rfl rfl rfl (OwnSl.nil (enc := Term.cells)) (Src.own [⟨_, _, _, _, _, _⟩, ⟨_, _, _, _, _, _⟩] (.there _ (.there _ (.here _))) rfl rfl) (by decide) rfl (.new _ rfl) rfl (fun a39 c39 ob39 hO39 => ?_)
        refine TL.callS (enters rfl rfl rfl rfl) (two4_ok _ _ _) rfl ?_
        refine TL.bslice rfl rfl rfl rfl (fun b41 => ?_)
        refine TL.append (enc := Term.cells) rfl rfl rfl hO39 (Src.own [⟨_, _, _, _, _, _⟩] (.here _) rfl rfl) (by decide) rfl (.skip _ (.skip _ (.skip _ (.skip _ .all)))) rfl (fun a42 c42 ob42 hO42 => ?_)
        refine TL.pubO hO42 (.skip _ (.skip _ (.skip _ (.skip _ .all)))) (by simp) (fun HL leL hT => ?_)
        replace hR34 := hR34.le leL
        refine TL.call (enters rfl rfl rfl rfl) (Eval_ok 2 hT binds_nil EnvOk.nil lens_nil (by decide)) rfl (fun v43 H43 hle43 hp43 => ?_)
        replace hp43 := hp43.eq ((show evalS ([⟨2, [], 1, [], -1, -1⟩, ⟨2, [], 1, [], -1, -1⟩] ++ [twoT 14 0 1]) 2 [] = (truthV true, 0) by kernel_rfl))
        obtain ⟨lv43, rfl, hR43⟩ := hp43
        replace hR34 := hR34.le hle43
        obtain ⟨la43, lc43, rfl⟩ := RdSl.len hR43
        refine TL.run (pr_pure rfl) rfl ?_
        refine TL.run (pr_pure rfl) rfl ?_
        refine TL.run (pr_pure rfl) rfl ?_
        refine TL.alloc rfl (fun b10 => ?_)
        refine TL.storeA rfl rfl rfl rfl rfl (.here _) rfl rfl ?_
        refine TL.run (pr_pure rfl) rfl ?_
        refine TL.nil ?_
        refine TX.seqN ?_
        refine TC.seq ?_
        refine TC.region ?_
        refine TL.run (pr_pure rfl) rfl ?_
        refine TL.run (pr_index rfl rfl (by omega) (by omega)) rfl ?_
        refine TL.run (pr_ownQ rfl (.there _ (.there _ (.there _ (.there _ (.here _))))) rfl) rfl ?_
        refine TL.run (pr_build rfl rfl) rfl ?_
        refine TL.bslice rfl rfl rfl rfl (fun b51 => ?_)
        refine TL.pub (by simp) (fun H_b51 le_b51 rd_b51 => ?_)
        replace hR34 := hR34.le le_b51
        replace hR43 := hR43.le le_b51
        have hT : RdSl H_b51 6 Term.cells _ ([⟨2, [], 1, [], -1, -1⟩, ⟨15, [], 0, [], 0, -1⟩]) := RdSl.blk (cap := 2) rd_b51 (by intro x hx; rfl) (by kernel_rfl) (by show 2 ≤ 9223372036854775807; decide)
        clear rd_b51
        refine TL.call (enters rfl rfl rfl rfl) (Eval_ok 1 hT binds_nil EnvOk.nil lens_nil (by decide)) rfl (fun v52 H52 hle52 hp52 => ?_)
        replace hp52 := hp52.eq ((show evalS ([⟨2, [], 1, [], -1, -1⟩, ⟨15, [], 0, [], 0, -1⟩]) 1 [] = (truthV false, 0) by kernel_rfl))
        obtain ⟨lv52, rfl, hR52⟩ := hp52
        replace hR34 := hR34.le hle52
        replace hR43 := hR43.le hle52
        obtain ⟨la52, lc52, rfl⟩ := RdSl.len hR52
        refine TL.run (pr_pure rfl) rfl ?_
        refine TL.run (pr_pure rfl) rfl ?_
        refine TL.run (pr_pure rfl) rfl ?_
        refine TL.alloc rfl (fun b12 => ?_)
        refine TL.storeA rfl rfl rfl rfl rfl (.here _) rfl rfl ?_
        refine TL.run (pr_pure rfl) rfl ?_
        refine TL.nil ?_
        refine TX.seqN ?_
        refine TC.seq ?_
        refine TC.drawn (by kernel_rfl) (by kernel_rfl) ?_
        refine TD.leaf [(0, 1), (1, 1), (2, 2), (3, 3), (4, 3), (5, 3), (6, 3), (7, 3), (8, 3), (9, 3), (10, 1)] (by kernel_rfl) (by kernel_rfl) ?_
        refine TF.pure (pr_pure rfl) rfl ?_
        refine TF.pure (pr_index rfl rfl (by omega) (by omega)) rfl ?_
        refine TF.still (pr_ownQ rfl (.there _ (.there _ (.there _ (.there _ (.there _ (.here _)))))) rfl) rfl ?_
        refine TF.callS (enters rfl rfl rfl rfl) (num4_ok _) rfl ?_
        refine TF.callS (enters rfl rfl rfl rfl) (num4_ok _) rfl ?_
        refine TF.callS (enters rfl rfl rfl rfl) (two4_ok _ _ _) rfl ?_
        refine TF.callS (enters rfl rfl rfl rfl) (num4_ok _) rfl ?_
        refine TF.callS (enters rfl rfl rfl rfl) (two4_ok _ _ _) rfl ?_
        refine TF.callS (enters rfl rfl rfl rfl) (two4_ok _ _ _) rfl ?_
        refine TF.bslice rfl rfl rfl rfl (fun b64 => ?_)
        refine TF.pure (pr_pure rfl) rfl ?_
        refine TF.nil ?_
        refine TX.seqN ?_
        refine TC.seq ?_
        refine TC.region ?_
        refine TL.run (pr_pure rfl) rfl ?_
        refine TL.callLend (by simp) (enters rfl rfl rfl rfl) (fun H2 le2 rd2 => Eval_ok (l := [⟨2, [], 1, [], -1, -1⟩, numT 1, numT 0, twoT 9 1 2, numT 3, twoT 11 3 4, twoT 13 0 5]) 6 (RdSl.blk (l := [⟨2, [], 1, [], -1, -1⟩, numT 1, numT 0, twoT 9 1 2, numT 3, twoT 11 3 4, twoT 13 0 5]) (cap := 7) rd2 (by intro x hx; rfl) (by kernel_rfl) (show 7 ≤ 9223372036854775807 by decide)) binds_nil EnvOk.nil lens_nil (by decide)) rfl (fun v67 H67 hle67 hp67 => ?_)
        obtain ⟨H67x, hl67x, hp67⟩ := hp67
        replace hp67 := hp67.eq (show evalS ([⟨2, [], 1, [], -1, -1⟩, numT 1, numT 0, twoT 9 1 2, numT 3, twoT 11 3 4, twoT 13 0 5]) 6 [] = (v0, 403) by kernel_rfl)
        obtain ⟨lv67, rfl, hR67⟩ := hp67
        obtain ⟨la67, lc67, rfl⟩ := RdSl.len hR67
        replace hR34 := hR34.le hle67
        replace hR43 := hR43.le hle67
        replace hR52 := hR52.le hle67
        refine TL.run (pr_pure rfl) rfl ?_
        refine TL.run (pr_pure rfl) rfl ?_
        refine TL.run (pr_pure rfl) rfl ?_
        refine TL.alloc rfl (fun b15 => ?_)
        refine TL.storeA rfl rfl rfl rfl rfl (.here _) rfl rfl ?_
        refine TL.run (pr_pure rfl) rfl ?_
        refine TL.nil ?_
        refine TX.seqN ?_
        refine TC.seq ?_
        refine TC.region ?_
        refine TL.run (pr_pure rfl) rfl ?_
        refine TL.run (pr_index rfl rfl (by omega) (by omega)) rfl ?_
        refine TL.run (pr_field rfl) rfl ?_
        refine TL.store1 rfl rfl rfl (.there _ (.here _)) rfl rfl ?_
        refine TL.nil ?_
        refine TX.seqN ?_
        refine TC.seq ?_
        refine TC.region ?_
        refine TL.run (pr_pure rfl) rfl ?_
        refine TL.front (.there _ (.here _)) ?_
        refine TL.pub (by simp) (fun H_b64 le_b64 rd_b64 => ?_)
        replace hR34 := hR34.le le_b64
        replace hR43 := hR43.le le_b64
        replace hR52 := hR52.le le_b64
        have hT : RdSl H_b64 6 Term.cells _ ([⟨2, [], 1, [], -1, -1⟩, numT 1, numT 0, twoT 9 1 2, numT 3, twoT 11 3 4, twoT 14 0 5]) := RdSl.blk (cap := 7) rd_b64 (by intro x hx; rfl) (by kernel_rfl) (by show 7 ≤ 9223372036854775807; decide)
        clear rd_b64
        refine TL.call (enters rfl rfl rfl rfl) (Eval_ok 6 hT binds_nil EnvOk.nil lens_nil (by decide)) rfl (fun v75 H75 hle75 hp75 => ?_)
        replace hp75 := hp75.eq ((show evalS ([⟨2, [], 1, [], -1, -1⟩, numT 1, numT 0, twoT 9 1 2, numT 3, twoT 11 3 4, twoT 14 0 5]) 6 [] = (v0, 403) by kernel_rfl))
        obtain ⟨lv75, rfl, hR75⟩ := hp75
        replace hR34 := hR34.le hle75
        replace hR43 := hR43.le hle75
        replace hR52 := hR52.le hle75
        obtain ⟨la75, lc75, rfl⟩ := RdSl.len hR75
        refine TL.run (pr_pure rfl) rfl ?_
        refine TL.run (pr_pure rfl) rfl ?_
        refine TL.run (pr_pure rfl) rfl ?_
        refine TL.alloc rfl (fun b17 => ?_)
        refine TL.storeA rfl rfl rfl rfl rfl (.here _) rfl rfl ?_
        refine TL.run (pr_pure rfl) rfl ?_
        refine TL.nil ?_
        refine TX.seqN ?_
        refine TC.seq ?_
        refine TC.region ?_
        refine TL.run (pr_pure rfl) rfl ?_
        refine TL.run (pr_pure rfl) rfl ?_
        refine TL.run (pr_pure rfl) rfl ?_
        refine TL.split (s := 80) rfl (fun g80 => ?_) (fun g80 => ?_)
        ·
          have q80 := of_decide_eq_true g80
          refine TL.gdY rfl rfl (pr_field rfl) rfl ?_
          refine TL.gdY rfl rfl (pr_own1 rfl (.there _ (.there _ (.there _ (.there _ (.there _ (.here _)))))) rfl) rfl ?_
          refine TL.gdY rfl rfl (pr_pure rfl) rfl ?_
          refine TL.gdY rfl rfl (pr_pure rfl) rfl ?_
          refine TL.gdY rfl rfl (pr_pure rfl) rfl ?_
          refine TL.split (s := 85) rfl (fun g85 => ?_) (fun g85 => ?_)
          ·
            refine TL.gdY rfl rfl (pr_pure rfl) rfl ?_
            refine TL.gdY rfl rfl (pr_pure rfl) rfl ?_
            refine TL.gdY rfl rfl (pr_bool rfl rfl rfl) rfl ?_
            refine TL.run (pr_pure rfl) rfl ?_
            refine TL.run (pr_pure rfl) rfl ?_
            refine TL.split (s := 90) rfl (fun g90 => ?_) (fun g90 => ?_)
            ·
              have q90 := of_decide_eq_true g90
              refine TL.gdY rfl rfl (pr_pure rfl) rfl ?_
              refine TL.gdY rfl rfl (pr_pure rfl) rfl ?_
              refine TL.run (pr_pure rfl) rfl ?_
              refine TL.run (pr_pure rfl) rfl ?_
              refine TL.split (s := 94) rfl (fun g94 => ?_) (fun g94 => ?_)
              ·
                have q94 := of_decide_eq_true g94
                refine TL.gdY rfl rfl (pr_field rfl) rfl ?_
                refine TL.gdY rfl rfl (pr_own1 rfl (.there _ (.there _ (.there _ (.here _)))) rfl) rfl ?_
                refine TL.gdY rfl rfl (pr_pure rfl) rfl ?_
                refine TL.gdY rfl rfl (pr_pure rfl) rfl ?_
                refine TL.gdY rfl rfl (pr_pure rfl) rfl ?_
                refine TL.split (s := 99) rfl (fun g99 => ?_) (fun g99 => ?_)
                ·
                  refine TL.gdN rfl rfl rfl rfl ?_
                  refine TL.gdY rfl rfl (pr_pure rfl) rfl ?_
                  refine TL.gdY rfl rfl (pr_bool rfl rfl rfl) rfl ?_
                  refine TL.run (pr_pure rfl) rfl ?_
                  refine TL.run (pr_pure rfl) rfl ?_
                  refine TL.split (s := 104) rfl (fun g104 => ?_) (fun g104 => ?_)
                  ·
                    have q104 := of_decide_eq_true g104
                    refine TL.gdY rfl rfl (pr_pure rfl) rfl ?_
                    refine TL.gdY rfl rfl (pr_pure rfl) rfl ?_
                    refine TL.run (pr_pure rfl) rfl ?_
                    refine TL.run (pr_pure rfl) rfl ?_
                    refine TL.split (s := 108) rfl (fun g108 => ?_) (fun g108 => ?_)
                    ·
                      have q108 := of_decide_eq_true g108
                      refine TL.gdY rfl rfl (pr_field rfl) rfl ?_
                      refine TL.gdY rfl rfl (pr_own1 rfl (.there _ (.there _ (.here _))) rfl) rfl ?_
                      refine TL.gdY rfl rfl (pr_pure rfl) rfl ?_
                      refine TL.gdY rfl rfl (pr_pure rfl) rfl ?_
                      refine TL.gdY rfl rfl (pr_pure rfl) rfl ?_
                      refine TL.gdY rfl rfl (pr_bool rfl rfl rfl) rfl ?_
                      refine TL.run (pr_pure rfl) rfl ?_
                      refine TL.run (pr_pure rfl) rfl ?_
                      refine TL.split (s := 116) rfl (fun g116 => ?_) (fun g116 => ?_)
                      ·
                        have q116 := of_decide_eq_true g116
                        refine TL.gdY rfl rfl (pr_pure rfl) rfl ?_
                        refine TL.gdY rfl rfl (pr_pure rfl) rfl ?_
                        refine TL.run (pr_pure rfl) rfl ?_
                        refine TL.run (pr_pure rfl) rfl ?_
                        refine TL.split (s := 120) rfl (fun g120 => ?_) (fun g120 => ?_)
                        ·
                          have q120 := of_decide_eq_true g120
                          refine TL.gdY rfl rfl (pr_pure rfl) rfl ?_
                          refine TL.gdY rfl rfl (pr_pure rfl) rfl ?_
                          refine TL.run (pr_pure rfl) rfl ?_
                          refine TL.run (pr_pure rfl) rfl ?_
                          refine TL.nil ?_
                          refine TX.seqN ?_
                          refine TC.ret ?_
                          exact TX.finS (.inr rfl) (results1 rfl (RVal.tmp rfl)) (congrArg Value.bool (by first | rfl | (simp_all [truthV]; done)))
                        ·
                          have q120 := of_decide_eq_false g120
                          refine TL.gdN rfl rfl rfl rfl ?_
                          refine TL.gdN rfl rfl rfl rfl ?_
                          refine TL.run (pr_pure rfl) rfl ?_
                          refine TL.run (pr_pure rfl) rfl ?_
                          refine TL.nil ?_
                          refine TX.seqN ?_
                          refine TC.ret ?_
                          exact TX.finS (.inr rfl) (results1 rfl (RVal.tmp rfl)) (congrArg Value.bool (by first | rfl | (simp_all [truthV]; done)))
                      ·
                        have q116 := of_decide_eq_false g116
                        refine TL.gdN rfl rfl rfl rfl ?_
                        refine TL.gdN rfl rfl rfl rfl ?_
                        refine TL.run (pr_pure rfl) rfl ?_
                        refine TL.run (pr_pure rfl) rfl ?_
                        refine TL.gdN rfl rfl rfl rfl ?_
                        refine TL.gdN rfl rfl rfl rfl ?_
                        refine TL.run (pr_pure rfl) rfl ?_
                        refine TL.run (pr_pure rfl) rfl ?_
                        refine TL.nil ?_
                        refine TX.seqN ?_
                        refine TC.ret ?_
                        exact TX.finS (.inr rfl) (results1 rfl (RVal.tmp rfl)) (congrArg Value.bool (by first | rfl | (simp_all [truthV]; done)))
                    ·
                      have q108 := of_decide_eq_false g108
                      refine TL.gdN rfl rfl rfl rfl ?_
                      refine TL.gdN rfl rfl rfl rfl ?_
                      refine TL.gdN rfl rfl rfl rfl ?_
                      refine TL.gdN rfl rfl rfl rfl ?_
                      refine TL.gdN rfl rfl rfl rfl ?_
                      refine TL.gdN rfl rfl rfl rfl ?_
                      refine TL.run (pr_pure rfl) rfl ?_
                      refine TL.run (pr_pure rfl) rfl ?_
                      refine TL.gdN rfl rfl rfl rfl ?_
                      refine TL.gdN rfl rfl rfl rfl ?_
                      refine TL.run (pr_pure rfl) rfl ?_
                      refine TL.run (pr_pure rfl) rfl ?_
                      refine TL.gdN rfl rfl rfl rfl ?_
                      refine TL.gdN rfl rfl rfl rfl ?_
                      refine TL.run (pr_pure rfl) rfl ?_
                      refine TL.run (pr_pure rfl) rfl ?_
                      refine TL.nil ?_
                      refine TX.seqN ?_
                      refine TC.ret ?_
                      exact TX.finS (.inr rfl) (results1 rfl (RVal.tmp rfl)) (congrArg Value.bool (by first | rfl | (simp_all [truthV]; done)))
                  ·
                    have q104 := of_decide_eq_false g104
                    refine TL.gdN rfl rfl rfl rfl ?_
                    refine TL.gdN rfl rfl rfl rfl ?_
                    refine TL.run (pr_pure rfl) rfl ?_
                    refine TL.run (pr_pure rfl) rfl ?_
                    refine TL.gdN rfl rfl rfl rfl ?_
                    refine TL.gdN rfl rfl rfl rfl ?_
                    refine TL.gdN rfl rfl rfl rfl ?_
                    refine TL.gdN rfl rfl rfl rfl ?_
                    refine TL.gdN rfl rfl rfl rfl ?_
                    refine TL.gdN rfl rfl rfl rfl ?_
                    refine TL.run (pr_pure rfl) rfl ?_
                    refine TL.run (pr_pure rfl) rfl ?_
                    refine TL.gdN rfl rfl rfl rfl ?_
                    refine TL.gdN rfl rfl rfl rfl ?_
                    refine TL.run (pr_pure rfl) rfl ?_
                    refine TL.run (pr_pure rfl) rfl ?_
                    refine TL.gdN rfl rfl rfl rfl ?_
                    refine TL.gdN rfl rfl rfl rfl ?_
                    refine TL.run (pr_pure rfl) rfl ?_
                    refine TL.run (pr_pure rfl) rfl ?_
                    refine TL.nil ?_
                    refine TX.seqN ?_
                    refine TC.ret ?_
                    exact TX.finS (.inr rfl) (results1 rfl (RVal.tmp rfl)) (congrArg Value.bool (by first | rfl | (simp_all [truthV]; done)))
                ·
                  refine TL.gdY rfl rfl (pr_pure rfl) rfl ?_
                  refine TL.gdY rfl rfl (pr_pure rfl) rfl ?_
                  refine TL.gdY rfl rfl (pr_bool rfl rfl rfl) rfl ?_
                  refine TL.run (pr_pure rfl) rfl ?_
                  refine TL.run (pr_pure rfl) rfl ?_
                  refine TL.split (s := 104) rfl (fun g104 => ?_) (fun g104 => ?_)
                  ·
                    have q104 := of_decide_eq_true g104
                    refine TL.gdY rfl rfl (pr_pure rfl) rfl ?_
                    refine TL.gdY rfl rfl (pr_pure rfl) rfl ?_
                    refine TL.run (pr_pure rfl) rfl ?_
                    refine TL.run (pr_pure rfl) rfl ?_
                    refine TL.split (s := 108) rfl (fun g108 => ?_) (fun g108 => ?_)
                    ·
                      have q108 := of_decide_eq_true g108
                      refine TL.gdY rfl rfl (pr_field rfl) rfl ?_
                      refine TL.gdY rfl rfl (pr_own1 rfl (.there _ (.there _ (.here _))) rfl) rfl ?_
                      refine TL.gdY rfl rfl (pr_pure rfl) rfl ?_
                      refine TL.gdY rfl rfl (pr_pure rfl) rfl ?_
                      refine TL.gdY rfl rfl (pr_pure rfl) rfl ?_
                      refine TL.gdY rfl rfl (pr_bool rfl rfl rfl) rfl ?_
                      refine TL.run (pr_pure rfl) rfl ?_
                      refine TL.run (pr_pure rfl) rfl ?_
                      refine TL.split (s := 116) rfl (fun g116 => ?_) (fun g116 => ?_)
                      ·
                        have q116 := of_decide_eq_true g116
                        refine TL.gdY rfl rfl (pr_pure rfl) rfl ?_
                        refine TL.gdY rfl rfl (pr_pure rfl) rfl ?_
                        refine TL.run (pr_pure rfl) rfl ?_
                        refine TL.run (pr_pure rfl) rfl ?_
                        refine TL.split (s := 120) rfl (fun g120 => ?_) (fun g120 => ?_)
                        ·
                          have q120 := of_decide_eq_true g120
                          refine TL.gdY rfl rfl (pr_pure rfl) rfl ?_
                          refine TL.gdY rfl rfl (pr_pure rfl) rfl ?_
                          refine TL.run (pr_pure rfl) rfl ?_
                          refine TL.run (pr_pure rfl) rfl ?_
                          refine TL.nil ?_
                          refine TX.seqN ?_
                          refine TC.ret ?_
                          exact TX.finS (.inr rfl) (results1 rfl (RVal.tmp rfl)) (congrArg Value.bool (by first | rfl | (simp_all [truthV]; done)))
                        ·
                          have q120 := of_decide_eq_false g120
                          refine TL.gdN rfl rfl rfl rfl ?_
                          refine TL.gdN rfl rfl rfl rfl ?_
                          refine TL.run (pr_pure rfl) rfl ?_
                          refine TL.run (pr_pure rfl) rfl ?_
                          refine TL.nil ?_
                          refine TX.seqN ?_
                          refine TC.ret ?_
                          exact TX.finS (.inr rfl) (results1 rfl (RVal.tmp rfl)) (congrArg Value.bool (by first | rfl | (simp_all [truthV]; done)))
                      ·
                        have q116 := of_decide_eq_false g116
                        refine TL.gdN rfl rfl rfl rfl ?_
                        refine TL.gdN rfl rfl rfl rfl ?_
                        refine TL.run (pr_pure rfl) rfl ?_
                        refine TL.run (pr_pure rfl) rfl ?_
                        refine TL.gdN rfl rfl rfl rfl ?_
                        refine TL.gdN rfl rfl rfl rfl ?_
                        refine TL.run (pr_pure rfl) rfl ?_
                        refine TL.run (pr_pure rfl) rfl ?_
                        refine TL.nil ?_
                        refine TX.seqN ?_
                        refine TC.ret ?_
                        exact TX.finS (.inr rfl) (results1 rfl (RVal.tmp rfl)) (congrArg Value.bool (by first | rfl | (simp_all [truthV]; done)))
                    ·
                      have q108 := of_decide_eq_false g108
                      refine TL.gdN rfl rfl rfl rfl ?_
                      refine TL.gdN rfl rfl rfl rfl ?_
                      refine TL.gdN rfl rfl rfl rfl ?_
                      refine TL.gdN rfl rfl rfl rfl ?_
                      refine TL.gdN rfl rfl rfl rfl ?_
                      refine TL.gdN rfl rfl rfl rfl ?_
                      refine TL.run (pr_pure rfl) rfl ?_
                      refine TL.run (pr_pure rfl) rfl ?_
                      refine TL.gdN rfl rfl rfl rfl ?_
                      refine TL.gdN rfl rfl rfl rfl ?_
                      refine TL.run (pr_pure rfl) rfl ?_
                      refine TL.run (pr_pure rfl) rfl ?_
                      refine TL.gdN rfl rfl rfl rfl ?_
                      refine TL.gdN rfl rfl rfl rfl ?_
                      refine TL.run (pr_pure rfl) rfl ?_
                      refine TL.run (pr_pure rfl) rfl ?_
                      refine TL.nil ?_
                      refine TX.seqN ?_
                      refine TC.ret ?_
                      exact TX.finS (.inr rfl) (results1 rfl (RVal.tmp rfl)) (congrArg Value.bool (by first | rfl | (simp_all [truthV]; done)))
                  ·
                    have q104 := of_decide_eq_false g104
                    refine TL.gdN rfl rfl rfl rfl ?_
                    refine TL.gdN rfl rfl rfl rfl ?_
                    refine TL.run (pr_pure rfl) rfl ?_
                    refine TL.run (pr_pure rfl) rfl ?_
                    refine TL.gdN rfl rfl rfl rfl ?_
                    refine TL.gdN rfl rfl rfl rfl ?_
                    refine TL.gdN rfl rfl rfl rfl ?_
                    refine TL.gdN rfl rfl rfl rfl ?_
                    refine TL.gdN rfl rfl rfl rfl ?_
                    refine TL.gdN rfl rfl rfl rfl ?_
                    refine TL.run (pr_pure rfl) rfl ?_
                    refine TL.run (pr_pure rfl) rfl ?_
                    refine TL.gdN rfl rfl rfl rfl ?_
                    refine TL.gdN rfl rfl rfl rfl ?_
                    refine TL.run (pr_pure rfl) rfl ?_
                    refine TL.run (pr_pure rfl) rfl ?_
                    refine TL.gdN rfl rfl rfl rfl ?_
                    refine TL.gdN rfl rfl rfl rfl ?_
                    refine TL.run (pr_pure rfl) rfl ?_
                    refine TL.run (pr_pure rfl) rfl ?_
                    refine TL.nil ?_
                    refine TX.seqN ?_
                    refine TC.ret ?_
                    exact TX.finS (.inr rfl) (results1 rfl (RVal.tmp rfl)) (congrArg Value.bool (by first | rfl | (simp_all [truthV]; done)))
              ·
                have q94 := of_decide_eq_false g94
                refine TL.gdN rfl rfl rfl rfl ?_
                refine TL.gdN rfl rfl rfl rfl ?_
                refine TL.gdN rfl rfl rfl rfl ?_
                refine TL.gdN rfl rfl rfl rfl ?_
                refine TL.gdN rfl rfl rfl rfl ?_
                refine TL.gdU rfl rfl rfl ?_
                refine TL.gdN rfl rfl rfl rfl ?_
                refine TL.gdN rfl rfl rfl rfl ?_
                refine TL.run (pr_pure rfl) rfl ?_
                refine TL.run (pr_pure rfl) rfl ?_
                refine TL.gdN rfl rfl rfl rfl ?_
                refine TL.gdN rfl rfl rfl rfl ?_
                refine TL.run (pr_pure rfl) rfl ?_
                refine TL.run (pr_pure rfl) rfl ?_
                refine TL.gdN rfl rfl rfl rfl ?_
                refine TL.gdN rfl rfl rfl rfl ?_
                refine TL.gdN rfl rfl rfl rfl ?_
                refine TL.gdN rfl rfl rfl rfl ?_
                refine TL.gdN rfl rfl rfl rfl ?_
                refine TL.gdN rfl rfl rfl rfl ?_
                refine TL.run (pr_pure rfl) rfl ?_
                refine TL.run (pr_pure rfl) rfl ?_
                refine TL.gdN rfl rfl rfl rfl ?_
                refine TL.gdN rfl rfl rfl rfl ?_
                refine TL.run (pr_pure rfl) rfl ?_
                refine TL.run (pr_pure rfl) rfl ?_
                refine TL.gdN rfl rfl rfl rfl ?_
                refine TL.gdN rfl rfl rfl rfl ?_
                refine TL.run (pr_pure rfl) rfl ?_
                refine TL.run (pr_pure rfl) rfl ?_
                refine TL.nil ?_
                refine TX.seqN ?_
                refine TC.ret ?_
                exact TX.finS (.inr rfl) (results1 rfl (RVal.tmp rfl)) (congrArg Value.bool (by first | rfl | (simp_all [truthV]; done)))
            ·
              have q90 := of_decide_eq_false g90
              refine TL.gdN rfl rfl rfl rfl ?_
              refine TL.gdN rfl rfl rfl rfl ?_
              refine TL.run (pr_pure rfl) rfl ?_
              refine TL.run (pr_pure rfl) rfl ?_
              refine TL.gdN rfl rfl rfl rfl ?_
              refine TL.gdN rfl rfl rfl rfl ?_
              refine TL.gdN rfl rfl rfl rfl ?_
              refine TL.gdN rfl rfl rfl rfl ?_
              refine TL.gdN rfl rfl rfl rfl ?_
              refine TL.gdU rfl rfl rfl ?_
              refine TL.gdN rfl rfl rfl rfl ?_
              refine TL.gdN rfl rfl rfl rfl ?_
              refine TL.run (pr_pure rfl) rfl ?_
              refine TL.run (pr_pure rfl) rfl ?_
              refine TL.gdN rfl rfl rfl rfl ?_
              refine TL.gdN rfl rfl rfl rfl ?_
              refine TL.run (pr_pure rfl) rfl ?_
              refine TL.run (pr_pure rfl) rfl ?_
              refine TL.gdN rfl rfl rfl rfl ?_
              refine TL.gdN rfl rfl rfl rfl ?_
              refine TL.gdN rfl rfl rfl rfl ?_
              refine TL.gdN rfl rfl rfl rfl ?_
              refine TL.gdN rfl rfl rfl rfl ?_
              refine TL.gdN rfl rfl rfl rfl ?_
              refine TL.run (pr_pure rfl) rfl ?_
              refine TL.run (pr_pure rfl) rfl ?_
              refine TL.gdN rfl rfl rfl rfl ?_
              refine TL.gdN rfl rfl rfl rfl ?_
              refine TL.run (pr_pure rfl) rfl ?_
              refine TL.run (pr_pure rfl) rfl ?_
              refine TL.gdN rfl rfl rfl rfl ?_
              refine TL.gdN rfl rfl rfl rfl ?_
              refine TL.run (pr_pure rfl) rfl ?_
              refine TL.run (pr_pure rfl) rfl ?_
              refine TL.nil ?_
              refine TX.seqN ?_
              refine TC.ret ?_
              exact TX.finS (.inr rfl) (results1 rfl (RVal.tmp rfl)) (congrArg Value.bool (by first | rfl | (simp_all [truthV]; done)))
          ·
            refine TL.gdN rfl rfl rfl rfl ?_
            refine TL.gdY rfl rfl (pr_pure rfl) rfl ?_
            refine TL.gdY rfl rfl (pr_bool rfl rfl rfl) rfl ?_
            refine TL.run (pr_pure rfl) rfl ?_
            refine TL.run (pr_pure rfl) rfl ?_
            refine TL.split (s := 90) rfl (fun g90 => ?_) (fun g90 => ?_)
            ·
              have q90 := of_decide_eq_true g90
              refine TL.gdY rfl rfl (pr_pure rfl) rfl ?_
              refine TL.gdY rfl rfl (pr_pure rfl) rfl ?_
              refine TL.run (pr_pure rfl) rfl ?_
              refine TL.run (pr_pure rfl) rfl ?_
              refine TL.split (s := 94) rfl (fun g94 => ?_) (fun g94 => ?_)
              ·
                have q94 := of_decide_eq_true g94
                refine TL.gdY rfl rfl (pr_field rfl) rfl ?_
                refine TL.gdY rfl rfl (pr_own1 rfl (.there _ (.there _ (.there _ (.here _)))) rfl) rfl ?_
                refine TL.gdY rfl rfl (pr_pure rfl) rfl ?_
                refine TL.gdY rfl rfl (pr_pure rfl) rfl ?_
                refine TL.gdY rfl rfl (pr_pure rfl) rfl ?_
                refine TL.split (s := 99) rfl (fun g99 => ?_) (fun g99 => ?_)
                ·
                  refine TL.gdN rfl rfl rfl rfl ?_
                  refine TL.gdY rfl rfl (pr_pure rfl) rfl ?_
                  refine TL.gdY rfl rfl (pr_bool rfl rfl rfl) rfl ?_
                  refine TL.run (pr_pure rfl) rfl ?_
                  refine TL.run (pr_pure rfl) rfl ?_
                  refine TL.split (s := 104) rfl (fun g104 => ?_) (fun g104 => ?_)
                  ·
                    have q104 := of_decide_eq_true g104
                    refine TL.gdY rfl rfl (pr_pure rfl) rfl ?_
                    refine TL.gdY rfl rfl (pr_pure rfl) rfl ?_
                    refine TL.run (pr_pure rfl) rfl ?_
                    refine TL.run (pr_pure rfl) rfl ?_
                    refine TL.split (s := 108) rfl (fun g108 => ?_) (fun g108 => ?_)
                    ·
                      have q108 := of_decide_eq_true g108
                      refine TL.gdY rfl rfl (pr_field rfl) rfl ?_
                      refine TL.gdY rfl rfl (pr_own1 rfl (.there _ (.there _ (.here _))) rfl) rfl ?_
                      refine TL.gdY rfl rfl (pr_pure rfl) rfl ?_
                      refine TL.gdY rfl rfl (pr_pure rfl) rfl ?_
                      refine TL.gdY rfl rfl (pr_pure rfl) rfl ?_
                      refine TL.gdY rfl rfl (pr_bool rfl rfl rfl) rfl ?_
                      refine TL.run (pr_pure rfl) rfl ?_
                      refine TL.run (pr_pure rfl) rfl ?_
                      refine TL.split (s := 116) rfl (fun g116 => ?_) (fun g116 => ?_)
                      ·
                        have q116 := of_decide_eq_true g116
                        refine TL.gdY rfl rfl (pr_pure rfl) rfl ?_
                        refine TL.gdY rfl rfl (pr_pure rfl) rfl ?_
                        refine TL.run (pr_pure rfl) rfl ?_
                        refine TL.run (pr_pure rfl) rfl ?_
                        refine TL.split (s := 120) rfl (fun g120 => ?_) (fun g120 => ?_)
                        ·
                          have q120 := of_decide_eq_true g120
                          refine TL.gdY rfl rfl (pr_pure rfl) rfl ?_
                          refine TL.gdY rfl rfl (pr_pure rfl) rfl ?_
                          refine TL.run (pr_pure rfl) rfl ?_
                          refine TL.run (pr_pure rfl) rfl ?_
                          refine TL.nil ?_
                          refine TX.seqN ?_
                          refine TC.ret ?_
                          exact TX.finS (.inr rfl) (results1 rfl (RVal.tmp rfl)) (congrArg Value.bool (by first | rfl | (simp_all [truthV]; done)))
                        ·
                          have q120 := of_decide_eq_false g120
                          refine TL.gdN rfl rfl rfl rfl ?_
                          refine TL.gdN rfl rfl rfl rfl ?_
                          refine TL.run (pr_pure rfl) rfl ?_
                          refine TL.run (pr_pure rfl) rfl ?_
                          refine TL.nil ?_
                          refine TX.seqN ?_
                          refine TC.ret ?_
                          exact TX.finS (.inr rfl) (results1 rfl (RVal.tmp rfl)) (congrArg Value.bool (by first | rfl | (simp_all [truthV]; done)))
                      ·
                        have q116 := of_decide_eq_false g116
                        refine TL.gdN rfl rfl rfl rfl ?_
                        refine TL.gdN rfl rfl rfl rfl ?_
                        refine TL.run (pr_pure rfl) rfl ?_
                        refine TL.run (pr_pure rfl) rfl ?_
                        refine TL.gdN rfl rfl rfl rfl ?_
                        refine TL.gdN rfl rfl rfl rfl ?_
                        refine TL.run (pr_pure rfl) rfl ?_
                        refine TL.run (pr_pure rfl) rfl ?_
                        refine TL.nil ?_
                        refine TX.seqN ?_
                        refine TC.ret ?_
                        exact TX.finS (.inr rfl) (results1 rfl (RVal.tmp rfl)) (congrArg Value.bool (by first | rfl | (simp_all [truthV]; done)))
                    ·
                      have q108 := of_decide_eq_false g108
                      refine TL.gdN rfl rfl rfl rfl ?_
                      refine TL.gdN rfl rfl rfl rfl ?_
                      refine TL.gdN rfl rfl rfl rfl ?_
                      refine TL.gdN rfl rfl rfl rfl ?_
                      refine TL.gdN rfl rfl rfl rfl ?_
                      refine TL.gdN rfl rfl rfl rfl ?_
                      refine TL.run (pr_pure rfl) rfl ?_
                      refine TL.run (pr_pure rfl) rfl ?_
                      refine TL.gdN rfl rfl rfl rfl ?_
                      refine TL.gdN rfl rfl rfl rfl ?_
                      refine TL.run (pr_pure rfl) rfl ?_
                      refine TL.run (pr_pure rfl) rfl ?_
                      refine TL.gdN rfl rfl rfl rfl ?_
                      refine TL.gdN rfl rfl rfl rfl ?_
                      refine TL.run (pr_pure rfl) rfl ?_
                      refine TL.run (pr_pure rfl) rfl ?_
                      refine TL.nil ?_
                      refine TX.seqN ?_
                      refine TC.ret ?_
                      exact TX.finS (.inr rfl) (results1 rfl (RVal.tmp rfl)) (congrArg Value.bool (by first | rfl | (simp_all [truthV]; done)))
                  ·
                    have q104 := of_decide_eq_false g104
                    refine TL.gdN rfl rfl rfl rfl ?_
                    refine TL.gdN rfl rfl rfl rfl ?_
                    refine TL.run (pr_pure rfl) rfl ?_
                    refine TL.run (pr_pure rfl) rfl ?_
                    refine TL.gdN rfl rfl rfl rfl ?_
                    refine TL.gdN rfl rfl rfl rfl ?_
                    refine TL.gdN rfl rfl rfl rfl ?_
                    refine TL.gdN rfl rfl rfl rfl ?_
                    refine TL.gdN rfl rfl rfl rfl ?_
                    refine TL.gdN rfl rfl rfl rfl ?_
                    refine TL.run (pr_pure rfl) rfl ?_
                    refine TL.run (pr_pure rfl) rfl ?_
                    refine TL.gdN rfl rfl rfl rfl ?_
                    refine TL.gdN rfl rfl rfl rfl ?_
                    refine TL.run (pr_pure rfl) rfl ?_
                    refine TL.run (pr_pure rfl) rfl ?_
                    refine TL.gdN rfl rfl rfl rfl ?_
                    refine TL.gdN rfl rfl rfl rfl ?_
                    refine TL.run (pr_pure rfl) rfl ?_
                    refine TL.run (pr_pure rfl) rfl ?_
                    refine TL.nil ?_
                    refine TX.seqN ?_
                    refine TC.ret ?_
                    exact TX.finS (.inr rfl) (results1 rfl (RVal.tmp rfl)) (congrArg Value.bool (by first | rfl | (simp_all [truthV]; done)))
                ·
                  refine TL.gdY rfl rfl (pr_pure rfl) rfl ?_
                  refine TL.gdY rfl rfl (pr_pure rfl) rfl ?_
                  refine TL.gdY rfl rfl (pr_bool rfl rfl rfl) rfl ?_
                  refine TL.run (pr_pure rfl) rfl ?_
                  refine TL.run (pr_pure rfl) rfl ?_
                  refine TL.split (s := 104) rfl (fun g104 => ?_) (fun g104 => ?_)
                  ·
                    have q104 := of_decide_eq_true g104
                    refine TL.gdY rfl rfl (pr_pure rfl) rfl ?_
                    refine TL.gdY rfl rfl (pr_pure rfl) rfl ?_
                    refine TL.run (pr_pure rfl) rfl ?_
                    refine TL.run (pr_pure rfl) rfl ?_
                    refine TL.split (s := 108) rfl (fun g108 => ?_) (fun g108 => ?_)
                    ·
                      have q108 := of_decide_eq_true g108
                      refine TL.gdY rfl rfl (pr_field rfl) rfl ?_
                      refine TL.gdY rfl rfl (pr_own1 rfl (.there _ (.there _ (.here _))) rfl) rfl ?_
                      refine TL.gdY rfl rfl (pr_pure rfl) rfl ?_
                      refine TL.gdY rfl rfl (pr_pure rfl) rfl ?_
                      refine TL.gdY rfl rfl (pr_pure rfl) rfl ?_
                      refine TL.gdY rfl rfl (pr_bool rfl rfl rfl) rfl ?_
                      refine TL.run (pr_pure rfl) rfl ?_
                      refine TL.run (pr_pure rfl) rfl ?_
                      refine TL.split (s := 116) rfl (fun g116 => ?_) (fun g116 => ?_)
                      ·
                        have q116 := of_decide_eq_true g116
                        refine TL.gdY rfl rfl (pr_pure rfl) rfl ?_
                        refine TL.gdY rfl rfl (pr_pure rfl) rfl ?_
                        refine TL.run (pr_pure rfl) rfl ?_
                        refine TL.run (pr_pure rfl) rfl ?_
                        refine TL.split (s := 120) rfl (fun g120 => ?_) (fun g120 => ?_)
                        ·
                          have q120 := of_decide_eq_true g120
                          refine TL.gdY rfl rfl (pr_pure rfl) rfl ?_
                          refine TL.gdY rfl rfl (pr_pure rfl) rfl ?_
                          refine TL.run (pr_pure rfl) rfl ?_
                          refine TL.run (pr_pure rfl) rfl ?_
                          refine TL.nil ?_
                          refine TX.seqN ?_
                          refine TC.ret ?_
                          exact TX.finS (.inr rfl) (results1 rfl (RVal.tmp rfl)) (congrArg Value.bool (by first | rfl | (simp_all [truthV]; done)))
                        ·
                          have q120 := of_decide_eq_false g120
                          refine TL.gdN rfl rfl rfl rfl ?_
                          refine TL.gdN rfl rfl rfl rfl ?_
                          refine TL.run (pr_pure rfl) rfl ?_
                          refine TL.run (pr_pure rfl) rfl ?_
                          refine TL.nil ?_
                          refine TX.seqN ?_
                          refine TC.ret ?_
                          exact TX.finS (.inr rfl) (results1 rfl (RVal.tmp rfl)) (congrArg Value.bool (by first | rfl | (simp_all [truthV]; done)))
                      ·
                        have q116 := of_decide_eq_false g116
                        refine TL.gdN rfl rfl rfl rfl ?_
                        refine TL.gdN rfl rfl rfl rfl ?_
                        refine TL.run (pr_pure rfl) rfl ?_
                        refine TL.run (pr_pure rfl) rfl ?_
                        refine TL.gdN rfl rfl rfl rfl ?_
                        refine TL.gdN rfl rfl rfl rfl ?_
                        refine TL.run (pr_pure rfl) rfl ?_
                        refine TL.run (pr_pure rfl) rfl ?_
                        refine TL.nil ?_
                        refine TX.seqN ?_
                        refine TC.ret ?_
                        exact TX.finS (.inr rfl) (results1 rfl (RVal.tmp rfl)) (congrArg Value.bool (by first | rfl | (simp_all [truthV]; done)))
                    ·
                      have q108 := of_decide_eq_false g108
                      refine TL.gdN rfl rfl rfl rfl ?_
                      refine TL.gdN rfl rfl rfl rfl ?_
                      refine TL.gdN rfl rfl rfl rfl ?_
                      refine TL.gdN rfl rfl rfl rfl ?_
                      refine TL.gdN rfl rfl rfl rfl ?_
                      refine TL.gdN rfl rfl rfl rfl ?_
                      refine TL.run (pr_pure rfl) rfl ?_
                      refine TL.run (pr_pure rfl) rfl ?_
                      refine TL.gdN rfl rfl rfl rfl ?_
                      refine TL.gdN rfl rfl rfl rfl ?_
                      refine TL.run (pr_pure rfl) rfl ?_
                      refine TL.run (pr_pure rfl) rfl ?_
                      refine TL.gdN rfl rfl rfl rfl ?_
                      refine TL.gdN rfl rfl rfl rfl ?_
                      refine TL.run (pr_pure rfl) rfl ?_
                      refine TL.run (pr_pure rfl) rfl ?_
                      refine TL.nil ?_
                      refine TX.seqN ?_
                      refine TC.ret ?_
                      exact TX.finS (.inr rfl) (results1 rfl (RVal.tmp rfl)) (congrArg Value.bool (by first | rfl | (simp_all [truthV]; done)))
                  ·
                    have q104 := of_decide_eq_false g104
                    refine TL.gdN rfl rfl rfl rfl ?_
                    refine TL.gdN rfl rfl rfl rfl ?_
                    refine TL.run (pr_pure rfl) rfl ?_
                    refine TL.run (pr_pure rfl) rfl ?_
                    refine TL.gdN rfl rfl rfl rfl ?_
                    refine TL.gdN rfl rfl rfl rfl ?_
                    refine TL.gdN rfl rfl rfl rfl ?_
                    refine TL.gdN rfl rfl rfl rfl ?_
                    refine TL.gdN rfl rfl rfl rfl ?_
                    refine TL.gdN rfl rfl rfl rfl ?_
                    refine TL.run (pr_pure rfl) rfl ?_
                    refine TL.run (pr_pure rfl) rfl ?_
                    refine TL.gdN rfl rfl rfl rfl ?_
                    refine TL.gdN rfl rfl rfl rfl ?_
                    refine TL.run (pr_pure rfl) rfl ?_
                    refine TL.run (pr_pure rfl) rfl ?_
                    refine TL.gdN rfl rfl rfl rfl ?_
                    refine TL.gdN rfl rfl rfl rfl ?_
                    refine TL.run (pr_pure rfl) rfl ?_
                    refine TL.run (pr_pure rfl) rfl ?_
                    refine TL.nil ?_
                    refine TX.seqN ?_
                    refine TC.ret ?_
                    exact TX.finS (.inr rfl) (results1 rfl (RVal.tmp rfl)) (congrArg Value.bool (by first | rfl | (simp_all [truthV]; done)))
              ·
                have q94 := of_decide_eq_false g94
                refine TL.gdN rfl rfl rfl rfl ?_
                refine TL.gdN rfl rfl rfl rfl ?_
                refine TL.gdN rfl rfl rfl rfl ?_
                refine TL.gdN rfl rfl rfl rfl ?_
                refine TL.gdN rfl rfl rfl rfl ?_
                refine TL.gdU rfl rfl rfl ?_
                refine TL.gdN rfl rfl rfl rfl ?_
                refine TL.gdN rfl rfl rfl rfl ?_
                refine TL.run (pr_pure rfl) rfl ?_
                refine TL.run (pr_pure rfl) rfl ?_
                refine TL.gdN rfl rfl rfl rfl ?_
                refine TL.gdN rfl rfl rfl rfl ?_
                refine TL.run (pr_pure rfl) rfl ?_
                refine TL.run (pr_pure rfl) rfl ?_
                refine TL.gdN rfl rfl rfl rfl ?_
                refine TL.gdN rfl rfl rfl rfl ?_
                refine TL.gdN rfl rfl rfl rfl ?_
                refine TL.gdN rfl rfl rfl rfl ?_
                refine TL.gdN rfl rfl rfl rfl ?_
                refine TL.gdN rfl rfl rfl rfl ?_
                refine TL.run (pr_pure rfl) rfl ?_
                refine TL.run (pr_pure rfl) rfl ?_
                refine TL.gdN rfl rfl rfl rfl ?_
                refine TL.gdN rfl rfl rfl rfl ?_
                refine TL.run (pr_pure rfl) rfl ?_
                refine TL.run (pr_pure rfl) rfl ?_
                refine TL.gdN rfl rfl rfl rfl ?_
                refine TL.gdN rfl rfl rfl rfl ?_
                refine TL.run (pr_pure rfl) rfl ?_
                refine TL.run (pr_pure rfl) rfl ?_
                refine TL.nil ?_
                refine TX.seqN ?_
                refine TC.ret ?_
                exact TX.finS (.inr rfl) (results1 rfl (RVal.tmp rfl)) (congrArg Value.bool (by first | rfl | (simp_all [truthV]; done)))
            ·
              have q90 := of_decide_eq_false g90
              refine TL.gdN rfl rfl rfl rfl ?_
              refine TL.gdN rfl rfl rfl rfl ?_
              refine TL.run (pr_pure rfl) rfl ?_
              refine TL.run (pr_pure rfl) rfl ?_
              refine TL.gdN rfl rfl rfl rfl ?_
              refine TL.gdN rfl rfl rfl rfl ?_
              refine TL.gdN rfl rfl rfl rfl ?_
              refine TL.gdN rfl rfl rfl rfl ?_
              refine TL.gdN rfl rfl rfl rfl ?_
              refine TL.gdU rfl rfl rfl ?_
              refine TL.gdN rfl rfl rfl rfl ?_
              refine TL.gdN rfl rfl rfl rfl ?_
              refine TL.run (pr_pure rfl) rfl ?_
              refine TL.run (pr_pure rfl) rfl ?_
              refine TL.gdN rfl rfl rfl rfl ?_
              refine TL.gdN rfl rfl rfl rfl ?_
              refine TL.run (pr_pure rfl) rfl ?_
              refine TL.run (pr_pure rfl) rfl ?_
              refine TL.gdN rfl rfl rfl rfl ?_
              refine TL.gdN rfl rfl rfl rfl ?_
              refine TL.gdN rfl rfl rfl rfl ?_
              refine TL.gdN rfl rfl rfl rfl ?_
              refine TL.gdN rfl rfl rfl rfl ?_
              refine TL.gdN rfl rfl rfl rfl ?_
              refine TL.run (pr_pure rfl) rfl ?_
              refine TL.run (pr_pure rfl) rfl ?_
              refine TL.gdN rfl rfl rfl rfl ?_
              refine TL.gdN rfl rfl rfl rfl ?_
              refine TL.run (pr_pure rfl) rfl ?_
              refine TL.run (pr_pure rfl) rfl ?_
              refine TL.gdN rfl rfl rfl rfl ?_
              refine TL.gdN rfl rfl rfl rfl ?_
              refine TL.run (pr_pure rfl) rfl ?_
              refine TL.run (pr_pure rfl) rfl ?_
              refine TL.nil ?_
              refine TX.seqN ?_
              refine TC.ret ?_
              exact TX.finS (.inr rfl) (results1 rfl (RVal.tmp rfl)) (congrArg Value.bool (by first | rfl | (simp_all [truthV]; done)))
        ·
          have q80 := of_decide_eq_false g80
          refine TL.gdN rfl rfl rfl rfl ?_
          refine TL.gdN rfl rfl rfl rfl ?_
          refine TL.gdN rfl rfl rfl rfl ?_
          refine TL.gdN rfl rfl rfl rfl ?_
          refine TL.gdN rfl rfl rfl rfl ?_
          refine TL.gdU rfl rfl rfl ?_
          refine TL.gdN rfl rfl rfl rfl ?_
          refine TL.gdN rfl rfl rfl rfl ?_
          refine TL.run (pr_pure rfl) rfl ?_
          refine TL.run (pr_pure rfl) rfl ?_
          refine TL.gdN rfl rfl rfl rfl ?_
          refine TL.gdN rfl rfl rfl rfl ?_
          refine TL.run (pr_pure rfl) rfl ?_
          refine TL.run (pr_pure rfl) rfl ?_
          refine TL.gdN rfl rfl rfl rfl ?_
          refine TL.gdN rfl rfl rfl rfl ?_
          refine TL.gdN rfl rfl rfl rfl ?_
          refine TL.gdN rfl rfl rfl rfl ?_
          refine TL.gdN rfl rfl rfl rfl ?_
          refine TL.gdU rfl rfl rfl ?_
          refine TL.gdN rfl rfl rfl rfl ?_
          refine TL.gdN rfl rfl rfl rfl ?_
          refine TL.run (pr_pure rfl) rfl ?_
          refine TL.run (pr_pure rfl) rfl ?_
          refine TL.gdN rfl rfl rfl rfl ?_
          refine TL.gdN rfl rfl rfl rfl ?_
          refine TL.run (pr_pure rfl) rfl ?_
          refine TL.run (pr_pure rfl) rfl ?_
          refine TL.gdN rfl rfl rfl rfl ?_
          refine TL.gdN rfl rfl rfl rfl ?_
          refine TL.gdN rfl rfl rfl rfl ?_
          refine TL.gdN rfl rfl rfl rfl ?_
          refine TL.gdN rfl rfl rfl rfl ?_
          refine TL.gdN rfl rfl rfl rfl ?_
          refine TL.run (pr_pure rfl) rfl ?_
          refine TL.run (pr_pure rfl) rfl ?_
          refine TL.gdN rfl rfl rfl rfl ?_
          refine TL.gdN rfl rfl rfl rfl ?_
          refine TL.run (pr_pure rfl) rfl ?_
          refine TL.run (pr_pure rfl) rfl ?_
          refine TL.gdN rfl rfl rfl rfl ?_
          refine TL.gdN rfl rfl rfl rfl ?_
          refine TL.run (pr_pure rfl) rfl ?_
          refine TL.run (pr_pure rfl) rfl ?_
          refine TL.nil ?_
          refine TX.seqN ?_
          refine TC.ret ?_
          exact TX.finS (.inr rfl) (results1 rfl (RVal.tmp rfl)) (congrArg Value.bool (by first | rfl | (simp_all [truthV]; done)))
      ·
        refine TC.skip ?_
        refine TX.seqN ?_
        refine TC.seq ?_
        refine TC.region ?_
        refine TL.run (pr_pure rfl) rfl ?_
        refine TL.run (pr_build rfl rfl) rfl ?_
        refine TL.run (pr_pure rfl) rfl ?_
        refine TL.run (pr_build rfl rfl) rfl ?_
        refine TL.bslice rfl rfl rfl rfl (fun b27 => ?_)
        refine TL.run (pr_pure rfl) rfl ?_
        refine TL.nil ?_
        refine TX.seqN ?_
        refine TC.seq ?_
        refine TC.region ?_
        refine TL.run (pr_pure rfl) rfl ?_
        refine TL.append (enc := Term.cells) rfl rfl rfl (OwnSl.nil (enc := Term.cells)) (Src.own [⟨_, _, _, _, _, _⟩, ⟨_, _, _, _, _, _⟩] (.here _) rfl rfl) (by decide) rfl (.new _ rfl) rfl (fun a30 c30 ob30 hO30 => ?_)
        refine TL.callS (enters rfl rfl rfl rfl) (two4_ok _ _ _) rfl ?_
        refine TL.bslice rfl rfl rfl rfl (fun b32 => ?_)
        refine TL.append (enc := Term.cells) rfl rfl rfl hO30 (Src.own [⟨_, _, _, _, _, _⟩] (.here _) rfl rfl) (by decide) rfl (.skip _ (.skip _ .all)) rfl (fun a33 c33 ob33 hO33 => ?_)
        refine TL.pubO hO33 (.skip _ (.skip _ .all)) (by simp) (fun HL leL hT => ?_)
        refine TL.call (enters rfl rfl rfl rfl) (Eval_ok 2 hT binds_nil EnvOk.nil lens_nil (by decide)) rfl (fun v34 H34 hle34 hp34 => ?_)
        replace hp34 := hp34.eq ((show evalS ([⟨2, [], 1, [], -1, -1⟩, ⟨2, [], 0, [], -1, -1⟩] ++ [twoT 13 0 1]) 2 [] = (truthV false, 0) by kernel_rfl))
        obtain ⟨lv34, rfl, hR34⟩ := hp34
        obtain ⟨la34, lc34, rfl⟩ := RdSl.len hR34
        refine TL.run (pr_pure rfl) rfl ?_
        refine TL.run (pr_pure rfl) rfl ?_
        refine TL.run (pr_pure rfl) rfl ?_
        refine TL.alloc rfl (fun b8 => ?_)
        refine TL.storeA rfl rfl rfl rfl rfl (.here _) rfl rfl ?_
        refine TL.run (pr_pure rfl) rfl ?_
        refine TL.nil ?_
        refine TX.seqN ?_
        refine TC.seq ?_
        refine TC.region ?_
        refine TL.run (pr_pure rfl) rfl ?_
        refine TL.append (enc := Term.cells) rfl rfl rfl (OwnSl.nil (enc := Term.cells)) (Src.own [⟨_, _, _, _, _, _⟩, ⟨_, _, _, _, _, _⟩] (.there _ (.there _ (.here _))) rfl rfl) (by decide) rfl (.new _ rfl) rfl (fun a39 c39 ob39 hO39 => ?_)
        refine TL.callS (enters rfl rfl rfl rfl) (two4_ok _ _ _) rfl ?_
        refine TL.bslice rfl rfl rfl rfl (fun b41 => ?_)
        refine TL.append (enc := Term.cells) rfl rfl rfl hO39 (Src.own [⟨_, _, _, _, _, _⟩] (.here _) rfl rfl) (by decide) rfl (.skip _ (.skip _ (.skip _ (.skip _ .all)))) rfl (fun a42 c42 ob42 hO42 => ?_)
        refine TL.pubO hO42 (.skip _ (.skip _ (.skip _ (.skip _ .all)))) (by simp) (fun HL leL hT => ?_)
        replace hR34 := hR34.le leL
        refine TL.call (enters rfl rfl rfl rfl) (Eval_ok 2 hT binds_nil EnvOk.nil lens_nil (by decide)) rfl (fun v43 H43 hle43 hp43 => ?_)
        replace hp43 := hp43.eq ((show evalS ([⟨2, [], 1, [], -1, -1⟩, ⟨2, [], 0, [], -1, -1⟩] ++ [twoT 14 0 1]) 2 [] = (truthV true, 0) by kernel_rfl))
        obtain ⟨lv43, rfl, hR43⟩ := hp43
        replace hR34 := hR34.le hle43
        obtain ⟨la43, lc43, rfl⟩ := RdSl.len hR43
        refine TL.run (pr_pure rfl) rfl ?_
        refine TL.run (pr_pure rfl) rfl ?_
        refine TL.run (pr_pure rfl) rfl ?_
        refine TL.alloc rfl (fun b10 => ?_)
        refine TL.storeA rfl rfl rfl rfl rfl (.here _) rfl rfl ?_
        refine TL.run (pr_pure rfl) rfl ?_
        refine TL.nil ?_
        refine TX.seqN ?_
        refine TC.seq ?_
        refine TC.region ?_
        refine TL.run (pr_pure rfl) rfl ?_
        refine TL.run (pr_index rfl rfl (by omega) (by omega)) rfl ?_
        refine TL.run (pr_ownQ rfl (.there _ (.there _ (.there _ (.there _ (.here _))))) rfl) rfl ?_
        refine TL.run (pr_build rfl rfl) rfl ?_
        refine TL.bslice rfl rfl rfl rfl (fun b51 => ?_)
        refine TL.pub (by simp) (fun H_b51 le_b51 rd_b51 => ?_)
        replace hR34 := hR34.le le_b51
        replace hR43 := hR43.le le_b51
        have hT : RdSl H_b51 6 Term.cells _ ([⟨2, [], 1, [], -1, -1⟩, ⟨15, [], 0, [], 0, -1⟩]) := RdSl.blk (cap := 2) rd_b51 (by intro x hx; rfl) (by kernel_rfl) (by show 2 ≤ 9223372036854775807; decide)
        clear rd_b51
        refine TL.call (enters rfl rfl rfl rfl) (Eval_ok 1 hT binds_nil EnvOk.nil lens_nil (by decide)) rfl (fun v52 H52 hle52 hp52 => ?_)
        replace hp52 := hp52.eq ((show evalS ([⟨2, [], 1, [], -1, -1⟩, ⟨15, [], 0, [], 0, -1⟩]) 1 [] = (truthV false, 0) by kernel_rfl))
        obtain ⟨lv52, rfl, hR52⟩ := hp52
        replace hR34 := hR34.le hle52
        replace hR43 := hR43.le hle52
        obtain ⟨la52, lc52, rfl⟩ := RdSl.len hR52
        refine TL.run (pr_pure rfl) rfl ?_
        refine TL.run (pr_pure rfl) rfl ?_
        refine TL.run (pr_pure rfl) rfl ?_
        refine TL.alloc rfl (fun b12 => ?_)
        refine TL.storeA rfl rfl rfl rfl rfl (.here _) rfl rfl ?_
        refine TL.run (pr_pure rfl) rfl ?_
        refine TL.nil ?_
        refine TX.seqN ?_
        refine TC.seq ?_
        refine TC.drawn (by kernel_rfl) (by kernel_rfl) ?_
        refine TD.leaf [(0, 1), (1, 1), (2, 2), (3, 3), (4, 3), (5, 3), (6, 3), (7, 3), (8, 3), (9, 3), (10, 1)] (by kernel_rfl) (by kernel_rfl) ?_
        refine TF.pure (pr_pure rfl) rfl ?_
        refine TF.pure (pr_index rfl rfl (by omega) (by omega)) rfl ?_
        refine TF.still (pr_ownQ rfl (.there _ (.there _ (.there _ (.there _ (.there _ (.here _)))))) rfl) rfl ?_
        refine TF.callS (enters rfl rfl rfl rfl) (num4_ok _) rfl ?_
        refine TF.callS (enters rfl rfl rfl rfl) (num4_ok _) rfl ?_
        refine TF.callS (enters rfl rfl rfl rfl) (two4_ok _ _ _) rfl ?_
        refine TF.callS (enters rfl rfl rfl rfl) (num4_ok _) rfl ?_
        refine TF.callS (enters rfl rfl rfl rfl) (two4_ok _ _ _) rfl ?_
        refine TF.callS (enters rfl rfl rfl rfl) (two4_ok _ _ _) rfl ?_
        refine TF.bslice rfl rfl rfl rfl (fun b64 => ?_)
        refine TF.pure (pr_pure rfl) rfl ?_
        refine TF.nil ?_
        refine TX.seqN ?_
        refine TC.seq ?_
        refine TC.region ?_
        refine TL.run (pr_pure rfl) rfl ?_
        refine TL.callLend (by simp) (enters rfl rfl rfl rfl) (fun H2 le2 rd2 => Eval_ok (l := [⟨2, [], 1, [], -1, -1⟩, numT 1, numT 0, twoT 9 1 2, numT 3, twoT 11 3 4, twoT 13 0 5]) 6 (RdSl.blk (l := [⟨2, [], 1, [], -1, -1⟩, numT 1, numT 0, twoT 9 1 2, numT 3, twoT 11 3 4, twoT 13 0 5]) (cap := 7) rd2 (by intro x hx; rfl) (by kernel_rfl) (show 7 ≤ 9223372036854775807 by decide)) binds_nil EnvOk.nil lens_nil (by decide)) rfl (fun v67 H67 hle67 hp67 => ?_)
        obtain ⟨H67x, hl67x, hp67⟩ := hp67
        replace hp67 := hp67.eq (show evalS ([⟨2, [], 1, [], -1, -1⟩, numT 1, numT 0, twoT 9 1 2, numT 3, twoT 11 3 4, twoT 13 0 5]) 6 [] = (v0, 403) by kernel_rfl)
        obtain ⟨lv67, rfl, hR67⟩ := hp67
        obtain ⟨la67, lc67, rfl⟩ := RdSl.len hR67
        replace hR34 := hR34.le hle67
        replace hR43 := hR43.le hle67
        replace hR52 := hR52.le hle67
        refine TL.run (pr_pure rfl) rfl ?_
        refine TL.run (pr_pure rfl) rfl ?_
        refine TL.run (pr_pure rfl) rfl ?_
        refine TL.alloc rfl (fun b15 => ?_)
        refine TL.storeA rfl rfl rfl rfl rfl (.here _) rfl rfl ?_
        refine TL.run (pr_pure rfl) rfl ?_
        refine TL.nil ?_
        refine TX.seqN ?_
        refine TC.seq ?_
        refine TC.region ?_
        refine TL.run (pr_pure rfl) rfl ?_
        refine TL.run (pr_index rfl rfl (by omega) (by omega)) rfl ?_
        refine TL.run (pr_field rfl) rfl ?_
        refine TL.store1 rfl rfl rfl (.there _ (.here _)) rfl rfl ?_
        refine TL.nil ?_
        refine TX.seqN ?_
        refine TC.seq ?_
        refine TC.region ?_
        refine TL.run (pr_pure rfl) rfl ?_
        refine TL.front (.there _ (.here _)) ?_
        refine TL.pub (by simp) (fun H_b64 le_b64 rd_b64 => ?_)
        replace hR34 := hR34.le le_b64
        replace hR43 := hR43.le le_b64
        replace hR52 := hR52.le le_b64
        have hT : RdSl H_b64 6 Term.cells _ ([⟨2, [], 1, [], -1, -1⟩, numT 1, numT 0, twoT 9 1 2, numT 3, twoT 11 3 4, twoT 14 0 5]) := RdSl.blk (cap := 7) rd_b64 (by intro x hx; rfl) (by kernel_rfl) (by show 7 ≤ 9223372036854775807; decide)
        clear rd_b64
        refine TL.call (enters rfl rfl rfl rfl) (Eval_ok 6 hT binds_nil EnvOk.nil lens_nil (by decide)) rfl (fun v75 H75 hle75 hp75 => ?_)
        replace hp75 := hp75.eq ((show evalS ([⟨2, [], 1, [], -1, -1⟩, numT 1, numT 0, twoT 9 1 2, numT 3, twoT 11 3 4, twoT 14 0 5]) 6 [] = (v0, 403) by kernel_rfl))
        obtain ⟨lv75, rfl, hR75⟩ := hp75
        replace hR34 := hR34.le hle75
        replace hR43 := hR43.le hle75
        replace hR52 := hR52.le hle75
        obtain ⟨la75, lc75, rfl⟩ := RdSl.len hR75
        refine TL.run (pr_pure rfl) rfl ?_
        refine TL.run (pr_pure rfl) rfl ?_
        refine TL.run (pr_pure rfl) rfl ?_
        refine TL.alloc rfl (fun b17 => ?_)
        refine TL.storeA rfl rfl rfl rfl rfl (.here _) rfl rfl ?_
        refine TL.run (pr_pure rfl) rfl ?_
        refine TL.nil ?_
        refine TX.seqN ?_
        refine TC.seq ?_
        refine TC.region ?_
        refine TL.run (pr_pure rfl) rfl ?_
        refine TL.run (pr_pure rfl) rfl ?_
        refine TL.run (pr_pure rfl) rfl ?_
        refine TL.split (s := 80) rfl (fun g80 => ?_) (fun g80 => ?_)
        ·
          have q80 := of_decide_eq_true g80
          refine TL.gdY rfl rfl (pr_field rfl) rfl ?_
          refine TL.gdY rfl rfl (pr_own1 rfl (.there _ (.there _ (.there _ (.there _ (.there _ (.here _)))))) rfl) rfl ?_
          refine TL.gdY rfl rfl (pr_pure rfl) rfl ?_
          refine TL.gdY rfl rfl (pr_pure rfl) rfl ?_
          refine TL.gdY rfl rfl (pr_pure rfl) rfl ?_
          refine TL.split (s := 85) rfl (fun g85 => ?_) (fun g85 => ?_)
          ·
            refine TL.gdY rfl rfl (pr_pure rfl) rfl ?_
            refine TL.gdY rfl rfl (pr_pure rfl) rfl ?_
            refine TL.gdY rfl rfl (pr_bool rfl rfl rfl) rfl ?_
            refine TL.run (pr_pure rfl) rfl ?_
            refine TL.run (pr_pure rfl) rfl ?_
            refine TL.split (s := 90) rfl (fun g90 => ?_) (fun g90 => ?_)
            ·
              have q90 := of_decide_eq_true g90
              refine TL.gdY rfl rfl (pr_pure rfl) rfl ?_
              refine TL.gdY rfl rfl (pr_pure rfl) rfl ?_
              refine TL.run (pr_pure rfl) rfl ?_
              refine TL.run (pr_pure rfl) rfl ?_
              refine TL.split (s := 94) rfl (fun g94 => ?_) (fun g94 => ?_)
              ·
                have q94 := of_decide_eq_true g94
                refine TL.gdY rfl rfl (pr_field rfl) rfl ?_
                refine TL.gdY rfl rfl (pr_own1 rfl (.there _ (.there _ (.there _ (.here _)))) rfl) rfl ?_
                refine TL.gdY rfl rfl (pr_pure rfl) rfl ?_
                refine TL.gdY rfl rfl (pr_pure rfl) rfl ?_
                refine TL.gdY rfl rfl (pr_pure rfl) rfl ?_
                refine TL.split (s := 99) rfl (fun g99 => ?_) (fun g99 => ?_)
                ·
                  refine TL.gdN rfl rfl rfl rfl ?_
                  refine TL.gdY rfl rfl (pr_pure rfl) rfl ?_
                  refine TL.gdY rfl rfl (pr_bool rfl rfl rfl) rfl ?_
                  refine TL.run (pr_pure rfl) rfl ?_
                  refine TL.run (pr_pure rfl) rfl ?_
                  refine TL.split (s := 104) rfl (fun g104 => ?_) (fun g104 => ?_)
                  ·
                    have q104 := of_decide_eq_true g104
                    refine TL.gdY rfl rfl (pr_pure rfl) rfl ?_
                    refine TL.gdY rfl rfl (pr_pure rfl) rfl ?_
                    refine TL.run (pr_pure rfl) rfl ?_
                    refine TL.run (pr_pure rfl) rfl ?_
                    refine TL.split (s := 108) rfl (fun g108 => ?_) (fun g108 => ?_)
                    ·
                      have q108 := of_decide_eq_true g108
                      refine TL.gdY rfl rfl (pr_field rfl) rfl ?_
                      refine TL.gdY rfl rfl (pr_own1 rfl (.there _ (.there _ (.here _))) rfl) rfl ?_
                      refine TL.gdY rfl rfl (pr_pure rfl) rfl ?_
                      refine TL.gdY rfl rfl (pr_pure rfl) rfl ?_
                      refine TL.gdY rfl rfl (pr_pure rfl) rfl ?_
                      refine TL.gdY rfl rfl (pr_bool rfl rfl rfl) rfl ?_
                      refine TL.run (pr_pure rfl) rfl ?_
                      refine TL.run (pr_pure rfl) rfl ?_
                      refine TL.split (s := 116) rfl (fun g116 => ?_) (fun g116 => ?_)
                      ·
                        have q116 := of_decide_eq_true g116
                        refine TL.gdY rfl rfl (pr_pure rfl) rfl ?_
                        refine TL.gdY rfl rfl (pr_pure rfl) rfl ?_
                        refine TL.run (pr_pure rfl) rfl ?_
                        refine TL.run (pr_pure rfl) rfl ?_
                        refine TL.split (s := 120) rfl (fun g120 => ?_) (fun g120 => ?_)
                        ·
                          have q120 := of_decide_eq_true g120
                          refine TL.gdY rfl rfl (pr_pure rfl) rfl ?_
                          refine TL.gdY rfl rfl (pr_pure rfl) rfl ?_
                          refine TL.run (pr_pure rfl) rfl ?_
                          refine TL.run (pr_pure rfl) rfl ?_
                          refine TL.nil ?_
                          refine TX.seqN ?_
                          refine TC.ret ?_
                          exact TX.finS (.inr rfl) (results1 rfl (RVal.tmp rfl)) (congrArg Value.bool (by first | rfl | (simp_all [truthV]; done)))
                        ·
                          have q120 := of_decide_eq_false g120
                          refine TL.gdN rfl rfl rfl rfl ?_
                          refine TL.gdN rfl rfl rfl rfl ?_
                          refine TL.run (pr_pure rfl) rfl ?_
                          refine TL.run (pr_pure rfl) rfl ?_
                          refine TL.nil ?_
                          refine TX.seqN ?_
                          refine TC.ret ?_
                          exact TX.finS (.inr rfl) (results1 rfl (RVal.tmp rfl)) (congrArg Value.bool (by first | rfl | (simp_all [truthV]; done)))
                      ·
                        have q116 := of_decide_eq_false g116
                        refine TL.gdN rfl rfl rfl rfl ?_
                        refine TL.gdN rfl rfl rfl rfl ?_
                        refine TL.run (pr_pure rfl) rfl ?_
                        refine TL.run (pr_pure rfl) rfl ?_
                        refine TL.gdN rfl rfl rfl rfl ?_
                        refine TL.gdN rfl rfl rfl rfl ?_
                        refine TL.run (pr_pure rfl) rfl ?_
                        refine TL.run (pr_pure rfl) rfl ?_
                        refine TL.nil ?_
                        refine TX.seqN ?_
                        refine TC.ret ?_
                        exact TX.finS (.inr rfl) (results1 rfl (RVal.tmp rfl)) (congrArg Value.bool (by first | rfl | (simp_all [truthV]; done)))
                    ·
                      have q108 := of_decide_eq_false g108
                      refine TL.gdN rfl rfl rfl rfl ?_
                      refine TL.gdN rfl rfl rfl rfl ?_
                      refine TL.gdN rfl rfl rfl rfl ?_
                      refine TL.gdN rfl rfl rfl rfl ?_
                      refine TL.gdN rfl rfl rfl rfl ?_
                      refine TL.gdN rfl rfl rfl rfl ?_
                      refine TL.run (pr_pure rfl) rfl ?_
                      refine TL.run (pr_pure rfl) rfl ?_
                      refine TL.gdN rfl rfl rfl rfl ?_
                      refine TL.gdN rfl rfl rfl rfl ?_
                      refine TL.run (pr_pure rfl) rfl ?_
                      refine TL.run (pr_pure rfl) rfl ?_
                      refine TL.gdN rfl rfl rfl rfl ?_
                      refine TL.gdN rfl rfl rfl rfl ?_
                      refine TL.run (pr_pure rfl) rfl ?_
                      refine TL.run (pr_pure rfl) rfl ?_
                      refine TL.nil ?_
                      refine TX.seqN ?_
                      refine TC.ret ?_
                      exact TX.finS (.inr rfl) (results1 rfl (RVal.tmp rfl)) (congrArg Value.bool (by first | rfl | (simp_all [truthV]; done)))
                  ·
                    have q104 := of_decide_eq_false g104
                    refine TL.gdN rfl rfl rfl rfl ?_
                    refine TL.gdN rfl rfl rfl rfl ?_
                    refine TL.run (pr_pure rfl) rfl ?_
                    refine TL.run (pr_pure rfl) rfl ?_
                    refine TL.gdN rfl rfl rfl rfl ?_
                    refine TL.gdN rfl rfl rfl rfl ?_
                    refine TL.gdN rfl rfl rfl rfl ?_
                    refine TL.gdN rfl rfl rfl rfl ?_
                    refine TL.gdN rfl rfl rfl rfl ?_
                    refine TL.gdN rfl rfl rfl rfl ?_
                    refine TL.run (pr_pure rfl) rfl ?_
                    refine TL.run (pr_pure rfl) rfl ?_
                    refine TL.gdN rfl rfl rfl rfl ?_
                    refine TL.gdN rfl rfl rfl rfl ?_
                    refine TL.run (pr_pure rfl) rfl ?_
                    refine TL.run (pr_pure rfl) rfl ?_
                    refine TL.gdN rfl rfl rfl rfl ?_
                    refine TL.gdN rfl rfl rfl rfl ?_
                    refine TL.run (pr_pure rfl) rfl ?_
                    refine TL.run (pr_pure rfl) rfl ?_
                    refine TL.nil ?_
                    refine TX.seqN ?_
                    refine TC.ret ?_
                    exact TX.finS (.inr rfl) (results1 rfl (RVal.tmp rfl)) (congrArg Value.bool (by first | rfl | (simp_all [truthV]; done)))
                ·
                  refine TL.gdY rfl rfl (pr_pure rfl) rfl ?_
                  refine TL.gdY rfl rfl (pr_pure rfl) rfl ?_
                  refine TL.gdY rfl rfl (pr_bool rfl rfl rfl) rfl ?_
                  refine TL.run (pr_pure rfl) rfl ?_
                  refine TL.run (pr_pure rfl) rfl ?_
                  refine TL.split (s := 104) rfl (fun g104 => ?_) (fun g104 => ?_)
                  ·
                    have q104 := of_decide_eq_true g104
                    refine TL.gdY rfl rfl (pr_pure rfl) rfl ?_
                    refine TL.gdY rfl rfl (pr_pure rfl) rfl ?_
                    refine TL.run (pr_pure rfl) rfl ?_
                    refine TL.run (pr_pure rfl) rfl ?_
                    refine TL.split (s := 108) rfl (fun g108 => ?_) (fun g108 => ?_)
                    ·
                      have q108 := of_decide_eq_true g108
                      refine TL.gdY rfl rfl (pr_field rfl) rfl ?_
                      refine TL.gdY rfl rfl (pr_own1 rfl (.there _ (.there _ (.here _))) rfl) rfl ?_
                      refine TL.gdY rfl rfl (pr_pure rfl) rfl ?_
                      refine TL.gdY rfl rfl (pr_pure rfl) rfl ?_
                      refine TL.gdY rfl rfl (pr_pure rfl) rfl ?_
                      refine TL.gdY rfl rfl (pr_bool rfl rfl rfl) rfl ?_
                      refine TL.run (pr_pure rfl) rfl ?_
                      refine TL.run (pr_pure rfl) rfl ?_
                      refine TL.split (s := 116) rfl (fun g116 => ?_) (fun g116 => ?_)
                      ·
                        have q116 := of_decide_eq_true g116
                        refine TL.gdY rfl rfl (pr_pure rfl) rfl ?_
                        refine TL.gdY rfl rfl (pr_pure rfl) rfl ?_
                        refine TL.run (pr_pure rfl) rfl ?_
                        refine TL.run (pr_pure rfl) rfl ?_
                        refine TL.split (s := 120) rfl (fun g120 => ?_) (fun g120 => ?_)
                        ·
                          have q120 := of_decide_eq_true g120
                          refine TL.gdY rfl rfl (pr_pure rfl) rfl ?_
                          refine TL.gdY rfl rfl (pr_pure rfl) rfl ?_
                          refine TL.run (pr_pure rfl) rfl ?_
                          refine TL.run (pr_pure rfl) rfl ?_
                          refine TL.nil ?_
                          refine TX.seqN ?_
                          refine TC.ret ?_
                          exact TX.finS (.inr rfl) (results1 rfl (RVal.tmp rfl)) (congrArg Value.bool (by first | rfl | (simp_all [truthV]; done)))
                        ·
                          have q120 := of_decide_eq_false g120
                          refine TL.gdN rfl rfl rfl rfl ?_
                          refine TL.gdN rfl rfl rfl rfl ?_
                          refine TL.run (pr_pure rfl) rfl ?_
                          refine TL.run (pr_pure rfl) rfl ?_
                          refine TL.nil ?_
                          refine TX.seqN ?_
                          refine TC.ret ?_
                          exact TX.finS (.inr rfl) (results1 rfl (RVal.tmp rfl)) (congrArg Value.bool (by first | rfl | (simp_all [truthV]; done)))
                      ·
                        have q116 := of_decide_eq_false g116
                        refine TL.gdN rfl rfl rfl rfl ?_
                        refine TL.gdN rfl rfl rfl rfl ?_
                        refine TL.run (pr_pure rfl) rfl ?_
                        refine TL.run (pr_pure rfl) rfl ?_
                        refine TL.gdN rfl rfl rfl rfl ?_
                        refine TL.gdN rfl rfl rfl rfl ?_
                        refine TL.run (pr_pure rfl) rfl ?_
                        refine TL.run (pr_pure rfl) rfl ?_
                        refine TL.nil ?_
                        refine TX.seqN ?_
                        refine TC.ret ?_
                        exact TX.finS (.inr rfl) (results1 rfl (RVal.tmp rfl)) (congrArg Value.bool (by first | rfl | (simp_all [truthV]; done)))
                    ·
                      have q108 := of_decide_eq_false g108
                      refine TL.gdN rfl rfl rfl rfl ?_
                      refine TL.gdN rfl rfl rfl rfl ?_
                      refine TL.gdN rfl rfl rfl rfl ?_
                      refine TL.gdN rfl rfl rfl rfl ?_
                      refine TL.gdN rfl rfl rfl rfl ?_
                      refine TL.gdN rfl rfl rfl rfl ?_
                      refine TL.run (pr_pure rfl) rfl ?_
                      refine TL.run (pr_pure rfl) rfl ?_
                      refine TL.gdN rfl rfl rfl rfl ?_
                      refine TL.gdN rfl rfl rfl rfl ?_
                      refine TL.run (pr_pure rfl) rfl ?_
                      refine TL.run (pr_pure rfl) rfl ?_
                      refine TL.gdN rfl rfl rfl rfl ?_
                      refine TL.gdN rfl rfl rfl rfl ?_
                      refine TL.run (pr_pure rfl) rfl ?_
                      refine TL.run (pr_pure rfl) rfl ?_
                      refine TL.nil ?_
                      refine TX.seqN ?_
                      refine TC.ret ?_
                      exact TX.finS (.inr rfl) (results1 rfl (RVal.tmp rfl)) (congrArg Value.bool (by first | rfl | (simp_all [truthV]; done)))
                  ·
                    have q104 := of_decide_eq_false g104
                    refine TL.gdN rfl rfl rfl rfl ?_
                    refine TL.gdN rfl rfl rfl rfl ?_
                    refine TL.run (pr_pure rfl) rfl ?_
                    refine TL.run (pr_pure rfl) rfl ?_
                    refine TL.gdN rfl rfl rfl rfl ?_
                    refine TL.gdN rfl rfl rfl rfl ?_
                    refine TL.gdN rfl rfl rfl rfl ?_
                    refine TL.gdN rfl rfl rfl rfl ?_
                    refine TL.gdN rfl rfl rfl rfl ?_
                    refine TL.gdN rfl rfl rfl rfl ?_
                    refine TL.run (pr_pure rfl) rfl ?_
                    refine TL.run (pr_pure rfl) rfl ?_
                    refine TL.gdN rfl rfl rfl rfl ?_
                    refine TL.gdN rfl rfl rfl rfl ?_
                    refine TL.run (pr_pure rfl) rfl ?_
                    refine TL.run (pr_pure rfl) rfl ?_
                    refine TL.gdN rfl rfl rfl rfl ?_
                    refine TL.gdN rfl rfl rfl rfl ?_
                    refine TL.run (pr_pure rfl) rfl ?_
                    refine TL.run (pr_pure rfl) rfl ?_
                    refine TL.nil ?_
                    refine TX.seqN ?_
                    refine TC.ret ?_
                    exact TX.finS (.inr rfl) (results1 rfl (RVal.tmp rfl)) (congrArg Value.bool (by first | rfl | (simp_all [truthV]; done)))
              ·
                have q94 := of_decide_eq_false g94
                refine TL.gdN rfl rfl rfl rfl ?_
                refine TL.gdN rfl rfl rfl rfl ?_
                refine TL.gdN rfl rfl rfl rfl ?_
                refine TL.gdN rfl rfl rfl rfl ?_
                refine TL.gdN rfl rfl rfl rfl ?_
                refine TL.gdU rfl rfl rfl ?_
                refine TL.gdN rfl rfl rfl rfl ?_
                refine TL.gdN rfl rfl rfl rfl ?_
                refine TL.run (pr_pure rfl) rfl ?_
                refine TL.run (pr_pure rfl) rfl ?_
                refine TL.gdN rfl rfl rfl rfl ?_
                refine TL.gdN rfl rfl rfl rfl ?_
                refine TL.run (pr_pure rfl) rfl ?_
                refine TL.run (pr_pure rfl) rfl ?_
                refine TL.gdN rfl rfl rfl rfl ?_
                refine TL.gdN rfl rfl rfl rfl ?_
                refine TL.gdN rfl rfl rfl rfl ?_
                refine TL.gdN rfl rfl rfl rfl ?_
                refine TL.gdN rfl rfl rfl rfl ?_
                refine TL.gdN rfl rfl rfl rfl ?_
                refine TL.run (pr_pure rfl) rfl ?_
                refine TL.run (pr_pure rfl) rfl ?_
                refine TL.gdN rfl rfl rfl rfl ?_
                refine TL.gdN rfl rfl rfl rfl ?_
                refine TL.run (pr_pure rfl) rfl ?_
                refine TL.run (pr_pure rfl) rfl ?_
                refine TL.gdN rfl rfl rfl rfl ?_
                refine TL.gdN rfl rfl rfl rfl ?_
                refine TL.run (pr_pure rfl) rfl ?_
                refine TL.run (pr_pure rfl) rfl ?_
                refine TL.nil ?_
                refine TX.seqN ?_
                refine TC.ret ?_
                exact TX.finS (.inr rfl) (results1 rfl (RVal.tmp rfl)) (congrArg Value.bool (by first | rfl | (simp_all [truthV]; done)))
            ·
              have q90 := of_decide_eq_false g90
              refine TL.gdN rfl rfl rfl rfl ?_
              refine TL.gdN rfl rfl rfl rfl ?_
              refine TL.run (pr_pure rfl) rfl ?_
              refine TL.run (pr_pure rfl) rfl ?_
              refine TL.gdN rfl rfl rfl rfl ?_
              refine TL.gdN rfl rfl rfl rfl ?_
              refine TL.gdN rfl rfl rfl rfl ?_
              refine TL.gdN rfl rfl rfl rfl ?_
              refine TL.gdN rfl rfl rfl rfl ?_
              refine TL.gdU rfl rfl rfl ?_
              refine TL.gdN rfl rfl rfl rfl ?_
              refine TL.gdN rfl rfl rfl rfl ?_
              refine TL.run (pr_pure rfl) rfl ?_
              refine TL.run (pr_pure rfl) rfl ?_
              refine TL.gdN rfl rfl rfl rfl ?_
              refine TL.gdN rfl rfl rfl rfl ?_
              refine TL.run (pr_pure rfl) rfl ?_
              refine TL.run (pr_pure rfl) rfl ?_
              refine TL.gdN rfl rfl rfl rfl ?_
              refine TL.gdN rfl rfl rfl rfl ?_
              refine TL.gdN rfl rfl rfl rfl ?_
              refine TL.gdN rfl rfl rfl rfl ?_
              refine TL.gdN rfl rfl rfl rfl ?_
              refine TL.gdN rfl rfl rfl rfl ?_
              refine TL.run (pr_pure rfl) rfl ?_
              refine TL.run (pr_pure rfl) rfl ?_
              refine TL.gdN rfl rfl rfl rfl ?_
              refine TL.gdN rfl rfl rfl rfl ?_
              refine TL.run (pr_pure rfl) rfl ?_
              refine TL.run (pr_pure rfl) rfl ?_
              refine TL.gdN rfl rfl rfl rfl ?_
              refine TL.gdN rfl rfl rfl rfl ?_
              refine TL.run (pr_pure rfl) rfl ?_
              refine TL.run (pr_pure rfl) rfl ?_
              refine TL.nil ?_
              refine TX.seqN ?_
              refine TC.ret ?_
              exact TX.finS (.inr rfl) (results1 rfl (RVal.tmp rfl)) (congrArg Value.bool (by first | rfl | (simp_all [truthV]; done)))
          ·
            refine TL.gdN rfl rfl rfl rfl ?_
            refine TL.gdY rfl rfl (pr_pure rfl) rfl ?_
            refine TL.gdY rfl rfl (pr_bool rfl rfl rfl) rfl ?_
            refine TL.run (pr_pure rfl) rfl ?_
            refine TL.run (pr_pure rfl) rfl ?_
            refine TL.split (s := 90) rfl (fun g90 => ?_) (fun g90 => ?_)
            ·
              have q90 := of_decide_eq_true g90
              refine TL.gdY rfl rfl (pr_pure rfl) rfl ?_
              refine TL.gdY rfl rfl (pr_pure rfl) rfl ?_
              refine TL.run (pr_pure rfl) rfl ?_
              refine TL.run (pr_pure rfl) rfl ?_
              refine TL.split (s := 94) rfl (fun g94 => ?_) (fun g94 => ?_)
              ·
                have q94 := of_decide_eq_true g94
                refine TL.gdY rfl rfl (pr_field rfl) rfl ?_
                refine TL.gdY rfl rfl (pr_own1 rfl (.there _ (.there _ (.there _ (.here _)))) rfl) rfl ?_
                refine TL.gdY rfl rfl (pr_pure rfl) rfl ?_
                refine TL.gdY rfl rfl (pr_pure rfl) rfl ?_
                refine TL.gdY rfl rfl (pr_pure rfl) rfl ?_
                refine TL.split (s := 99) rfl (fun g99 => ?_) (fun g99 => ?_)
                ·
                  refine TL.gdN rfl rfl rfl rfl ?_
                  refine TL.gdY rfl rfl (pr_pure rfl) rfl ?_
                  refine TL.gdY rfl rfl (pr_bool rfl rfl rfl) rfl ?_
                  refine TL.run (pr_pure rfl) rfl ?_
                  refine TL.run (pr_pure rfl) rfl ?_
                  refine TL.split (s := 104) rfl (fun g104 => ?_) (fun g104 => ?_)
                  ·
                    have q104 := of_decide_eq_true g104
                    refine TL.gdY rfl rfl (pr_pure rfl) rfl ?_
                    refine TL.gdY rfl rfl (pr_pure rfl) rfl ?_
                    refine TL.run (pr_pure rfl) rfl ?_
                    refine TL.run (pr_pure rfl) rfl ?_
                    refine TL.split (s := 108) rfl (fun g108 => ?_) (fun g108 => ?_)
                    ·
                      have q108 := of_decide_eq_true g108
                      refine TL.gdY rfl rfl (pr_field rfl) rfl ?_
                      refine TL.gdY rfl rfl (pr_own1 rfl (.there _ (.there _ (.here _))) rfl) rfl ?_
                      refine TL.gdY rfl rfl (pr_pure rfl) rfl ?_
                      refine TL.gdY rfl rfl (pr_pure rfl) rfl ?_
                      refine TL.gdY rfl rfl (pr_pure rfl) rfl ?_
                      refine TL.gdY rfl rfl (pr_bool rfl rfl rfl) rfl ?_
                      refine TL.run (pr_pure rfl) rfl ?_
                      refine TL.run (pr_pure rfl) rfl ?_
                      refine TL.split (s := 116) rfl (fun g116 => ?_) (fun g116 => ?_)
                      ·
                        have q116 := of_decide_eq_true g116
                        refine TL.gdY rfl rfl (pr_pure rfl) rfl ?_
                        refine TL.gdY rfl rfl (pr_pure rfl) rfl ?_
                        refine TL.run (pr_pure rfl) rfl ?_
                        refine TL.run (pr_pure rfl) rfl ?_
                        refine TL.split (s := 120) rfl (fun g120 => ?_) (fun g120 => ?_)
                        ·
                          have q120 := of_decide_eq_true g120
                          refine TL.gdY rfl rfl (pr_pure rfl) rfl ?_
                          refine TL.gdY rfl rfl (pr_pure rfl) rfl ?_
                          refine TL.run (pr_pure rfl) rfl ?_
                          refine TL.run (pr_pure rfl) rfl ?_
                          refine TL.nil ?_
                          refine TX.seqN ?_
                          refine TC.ret ?_
                          exact TX.finS (.inr rfl) (results1 rfl (RVal.tmp rfl)) (congrArg Value.bool (by first | rfl | (simp_all [truthV]; done)))
                        ·
                          have q120 := of_decide_eq_false g120
                          refine TL.gdN rfl rfl rfl rfl ?_
                          refine TL.gdN rfl rfl rfl rfl ?_
                          refine TL.run (pr_pure rfl) rfl ?_
                          refine TL.run (pr_pure rfl) rfl ?_
                          refine TL.nil ?_
                          refine TX.seqN ?_
                          refine TC.ret ?_
                          exact TX.finS (.inr rfl) (results1 rfl (RVal.tmp rfl)) (congrArg Value.bool (by first | rfl | (simp_all [truthV]; done)))
                      ·
                        have q116 := of_decide_eq_false g116
                        refine TL.gdN rfl rfl rfl rfl ?_
                        refine TL.gdN rfl rfl rfl rfl ?_
                        refine TL.run (pr_pure rfl) rfl ?_
                        refine TL.run (pr_pure rfl) rfl ?_
                        refine TL.gdN rfl rfl rfl rfl ?_
                        refine TL.gdN rfl rfl rfl rfl ?_
                        refine TL.run (pr_pure rfl) rfl ?_
                        refine TL.run (pr_pure rfl) rfl ?_
                        refine TL.nil ?_
                        refine TX.seqN ?_
                        refine TC.ret ?_
                        exact TX.finS (.inr rfl) (results1 rfl (RVal.tmp rfl)) (congrArg Value.bool (by first | rfl | (simp_all [truthV]; done)))
                    ·
                      have q108 := of_decide_eq_false g108
                      refine TL.gdN rfl rfl rfl rfl ?_
                      refine TL.gdN rfl rfl rfl rfl ?_
                      refine TL.gdN rfl rfl rfl rfl ?_
                      refine TL.gdN rfl rfl rfl rfl ?_
                      refine TL.gdN rfl rfl rfl rfl ?_
                      refine TL.gdN rfl rfl rfl rfl ?_
                      refine TL.run (pr_pure rfl) rfl ?_
                      refine TL.run (pr_pure rfl) rfl ?_
                      refine TL.gdN rfl rfl rfl rfl ?_
                      refine TL.gdN rfl rfl rfl rfl ?_
                      refine TL.run (pr_pure rfl) rfl ?_
                      refine TL.run (pr_pure rfl) rfl ?_
                      refine TL.gdN rfl rfl rfl rfl ?_
                      refine TL.gdN rfl rfl rfl rfl ?_
                      refine TL.run (pr_pure rfl) rfl ?_
                      refine TL.run (pr_pure rfl) rfl ?_
                      refine TL.nil ?_
                      refine TX.seqN ?_
                      refine TC.ret ?_
                      exact TX.finS (.inr rfl) (results1 rfl (RVal.tmp rfl)) (congrArg Value.bool (by first | rfl | (simp_all [truthV]; done)))
                  ·
                    have q104 := of_decide_eq_false g104
                    refine TL.gdN rfl rfl rfl rfl ?_
                    refine TL.gdN rfl rfl rfl rfl ?_
                    refine TL.run (pr_pure rfl) rfl ?_
                    refine TL.run (pr_pure rfl) rfl ?_
                    refine TL.gdN rfl rfl rfl rfl ?_
                    refine TL.gdN rfl rfl rfl rfl ?_
                    refine TL.gdN rfl rfl rfl rfl ?_
                    refine TL.gdN rfl rfl rfl rfl ?_
                    refine TL.gdN rfl rfl rfl rfl ?_
                    refine TL.gdN rfl rfl rfl rfl ?_
                    refine TL.run (pr_pure rfl) rfl ?_
                    refine TL.run (pr_pure rfl) rfl ?_
                    refine TL.gdN rfl rfl rfl rfl ?_
                    refine TL.gdN rfl rfl rfl rfl ?_
                    refine TL.run (pr_pure rfl) rfl ?_
                    refine TL.run (pr_pure rfl) rfl ?_
                    refine TL.gdN rfl rfl rfl rfl ?_
                    refine TL.gdN rfl rfl rfl rfl ?_
                    refine TL.run (pr_pure rfl) rfl ?_
                    refine TL.run (pr_pure rfl) rfl ?_
                    refine TL.nil ?_
                    refine TX.seqN ?_
                    refine TC.ret ?_
                    exact TX.finS (.inr rfl) (results1 rfl (RVal.tmp rfl)) (congrArg Value.bool (by first | rfl | (simp_all [truthV]; done)))
                ·
                  refine TL.gdY rfl rfl (pr_pure rfl) rfl ?_
                  refine TL.gdY rfl rfl (pr_pure rfl) rfl ?_
                  refine TL.gdY rfl rfl (pr_bool rfl rfl rfl) rfl ?_
                  refine TL.run (pr_pure rfl) rfl ?_
                  refine TL.run (pr_pure rfl) rfl ?_
                  refine TL.split (s := 104) rfl (fun g104 => ?_) (fun g104 => ?_)
                  ·
                    have q104 := of_decide_eq_true g104
                    refine TL.gdY rfl rfl (pr_pure rfl) rfl ?_
                    refine TL.gdY rfl rfl (pr_pure rfl) rfl ?_
                    refine TL.run (pr_pure rfl) rfl ?_
                    refine TL.run (pr_pure rfl) rfl ?_
                    refine TL.split (s := 108) rfl (fun g108 => ?_) (fun g108 => ?_)
                    ·
                      have q108 := of_decide_eq_true g108
                      refine TL.gdY rfl rfl (pr_field rfl) rfl ?_
                      refine TL.gdY rfl rfl (pr_own1 rfl (.there _ (.there _ (.here _))) rfl) rfl ?_
                      refine TL.gdY rfl rfl (pr_pure rfl) rfl ?_
                      refine TL.gdY rfl rfl (pr_pure rfl) rfl ?_
                      refine TL.gdY rfl rfl (pr_pure rfl) rfl ?_
                      refine TL.gdY rfl rfl (pr_bool rfl rfl rfl) rfl ?_
                      refine TL.run (pr_pure rfl) rfl ?_
                      refine TL.run (pr_pure rfl) rfl ?_
                      refine TL.split (s := 116) rfl (fun g116 => ?_) (fun g116 => ?_)
                      ·
                        have q116 := of_decide_eq_true g116
                        refine TL.gdY rfl rfl (pr_pure rfl) rfl ?_
                        refine TL.gdY rfl rfl (pr_pure rfl) rfl ?_
                        refine TL.run (pr_pure rfl) rfl ?_
                        refine TL.run (pr_pure rfl) rfl ?_
                        refine TL.split (s := 120) rfl (fun g120 => ?_) (fun g120 => ?_)
                        ·
                          have q120 := of_decide_eq_true g120
                          refine TL.gdY rfl rfl (pr_pure rfl) rfl ?_
                          refine TL.gdY rfl rfl (pr_pure rfl) rfl ?_
                          refine TL.run (pr_pure rfl) rfl ?_
                          refine TL.run (pr_pure rfl) rfl ?_
                          refine TL.nil ?_
                          refine TX.seqN ?_
                          refine TC.ret ?_
                          exact TX.finS (.inr rfl) (results1 rfl (RVal.tmp rfl)) (congrArg Value.bool (by first | rfl | (simp_all [truthV]; done)))
                        ·
                          have q120 := of_decide_eq_false g120
                          refine TL.gdN rfl rfl rfl rfl ?_
                          refine TL.gdN rfl rfl rfl rfl ?_
                          refine TL.run (pr_pure rfl) rfl ?_
                          refine TL.run (pr_pure rfl) rfl ?_
                          refine TL.nil ?_
                          refine TX.seqN ?_
                          refine TC.ret ?_
                          exact TX.finS (.inr rfl) (results1 rfl (RVal.tmp rfl)) (congrArg Value.bool (by first | rfl | (simp_all [truthV]; done)))
                      ·
                        have q116 := of_decide_eq_false g116
                        refine TL.gdN rfl rfl rfl rfl ?_
                        refine TL.gdN rfl rfl rfl rfl ?_
                        refine TL.run (pr_pure rfl) rfl ?_
                        refine TL.run (pr_pure rfl) rfl ?_
                        refine TL.gdN rfl rfl rfl rfl ?_
                        refine TL.gdN rfl rfl rfl rfl ?_
                        refine TL.run (pr_pure rfl) rfl ?_
                        refine TL.run (pr_pure rfl) rfl ?_
                        refine TL.nil ?_
                        refine TX.seqN ?_
                        refine TC.ret ?_
                        exact TX.finS (.inr rfl) (results1 rfl (RVal.tmp rfl)) (congrArg Value.bool (by first | rfl | (simp_all [truthV]; done)))
                    ·
                      have q108 := of_decide_eq_false g108
                      refine TL.gdN rfl rfl rfl rfl ?_
                      refine TL.gdN rfl rfl rfl rfl ?_
                      refine TL.gdN rfl rfl rfl rfl ?_
                      refine TL.gdN rfl rfl rfl rfl ?_
                      refine TL.gdN rfl rfl rfl rfl ?_
                      refine TL.gdN rfl rfl rfl rfl ?_
                      refine TL.run (pr_pure rfl) rfl ?_
                      refine TL.run (pr_pure rfl) rfl ?_
                      refine TL.gdN rfl rfl rfl rfl ?_
                      refine TL.gdN rfl rfl rfl rfl ?_
                      refine TL.run (pr_pure rfl) rfl ?_
                      refine TL.run (pr_pure rfl) rfl ?_
                      refine TL.gdN rfl rfl rfl rfl ?_
                      refine TL.gdN rfl rfl rfl rfl ?_
                      refine TL.run (pr_pure rfl) rfl ?_
                      refine TL.run (pr_pure rfl) rfl ?_
                      refine TL.nil ?_
                      refine TX.seqN ?_
                      refine TC.ret ?_
                      exact TX.finS (.inr rfl) (results1 rfl (RVal.tmp rfl)) (congrArg Value.bool (by first | rfl | (simp_all [truthV]; done)))
                  ·
                    have q104 := of_decide_eq_false g104
                    refine TL.gdN rfl rfl rfl rfl ?_
                    refine TL.gdN rfl rfl rfl rfl ?_
                    refine TL.run (pr_pure rfl) rfl ?_
                    refine TL.run (pr_pure rfl) rfl ?_
                    refine TL.gdN rfl rfl rfl rfl ?_
                    refine TL.gdN rfl rfl rfl rfl ?_
                    refine TL.gdN rfl rfl rfl rfl ?_
                    refine TL.gdN rfl rfl rfl rfl ?_
                    refine TL.gdN rfl rfl rfl rfl ?_
                    refine TL.gdN rfl rfl rfl rfl ?_
                    refine TL.run (pr_pure rfl) rfl ?_
                    refine TL.run (pr_pure rfl) rfl ?_
                    refine TL.gdN rfl rfl rfl rfl ?_
                    refine TL.gdN rfl rfl rfl rfl ?_
                    refine TL.run (pr_pure rfl) rfl ?_
                    refine TL.run (pr_pure rfl) rfl ?_
                    refine TL.gdN rfl rfl rfl rfl ?_
                    refine TL.gdN rfl rfl rfl rfl ?_
                    refine TL.run (pr_pure rfl) rfl ?_
                    refine TL.run (pr_pure rfl) rfl ?_
                    refine TL.nil ?_
                    refine TX.seqN ?_
                    refine TC.ret ?_
                    exact TX.finS (.inr rfl) (results1 rfl (RVal.tmp rfl)) (congrArg Value.bool (by first | rfl | (simp_all [truthV]; done)))
              ·
                have q94 := of_decide_eq_false g94
                refine TL.gdN rfl rfl rfl rfl ?_
                refine TL.gdN rfl rfl rfl rfl ?_
                refine TL.gdN rfl rfl rfl rfl ?_
                refine TL.gdN rfl rfl rfl rfl ?_
                refine TL.gdN rfl rfl rfl rfl ?_
                refine TL.gdU rfl rfl rfl ?_
                refine TL.gdN rfl rfl rfl rfl ?_
                refine TL.gdN rfl rfl rfl rfl ?_
                refine TL.run (pr_pure rfl) rfl ?_
                refine TL.run (pr_pure rfl) rfl ?_
                refine TL.gdN rfl rfl rfl rfl ?_
                refine TL.gdN rfl rfl rfl rfl ?_
                refine TL.run (pr_pure rfl) rfl ?_
                refine TL.run (pr_pure rfl) rfl ?_
                refine TL.gdN rfl rfl rfl rfl ?_
                refine TL.gdN rfl rfl rfl rfl ?_
                refine TL.gdN rfl rfl rfl rfl ?_
                refine TL.gdN rfl rfl rfl rfl ?_
                refine TL.gdN rfl rfl rfl rfl ?_
                refine TL.gdN rfl rfl rfl rfl ?_
                refine TL.run (pr_pure rfl) rfl ?_
                refine TL.run (pr_pure rfl) rfl ?_
                refine TL.gdN rfl rfl rfl rfl ?_
                refine TL.gdN rfl rfl rfl rfl ?_
                refine TL.run (pr_pure rfl) rfl ?_
                refine TL.run (pr_pure rfl) rfl ?_
                refine TL.gdN rfl rfl rfl rfl ?_
                refine TL.gdN rfl rfl rfl rfl ?_
                refine TL.run (pr_pure rfl) rfl ?_
                refine TL.run (pr_pure rfl) rfl ?_
                refine TL.nil ?_
                refine TX.seqN ?_
                refine TC.ret ?_
                exact TX.finS (.inr rfl) (results1 rfl (RVal.tmp rfl)) (congrArg Value.bool (by first | rfl | (simp_all [truthV]; done)))
            ·
              have q90 := of_decide_eq_false g90
              refine TL.gdN rfl rfl rfl rfl ?_
              refine TL.gdN rfl rfl rfl rfl ?_
              refine TL.run (pr_pure rfl) rfl ?_
              refine TL.run (pr_pure rfl) rfl ?_
              refine TL.gdN rfl rfl rfl rfl ?_
              refine TL.gdN rfl rfl rfl rfl ?_
              refine TL.gdN rfl rfl rfl rfl ?_
              refine TL.gdN rfl rfl rfl rfl ?_
              refine TL.gdN rfl rfl rfl rfl ?_
              refine TL.gdU rfl rfl rfl ?_
              refine TL.gdN rfl rfl rfl rfl ?_
              refine TL.gdN rfl rfl rfl rfl ?_
              refine TL.run (pr_pure rfl) rfl ?_
              refine TL.run (pr_pure rfl) rfl ?_
              refine TL.gdN rfl rfl rfl rfl ?_
              refine TL.gdN rfl rfl rfl rfl ?_
              refine TL.run (pr_pure rfl) rfl ?_
              refine TL.run (pr_pure rfl) rfl ?_
              refine TL.gdN rfl rfl rfl rfl ?_
              refine TL.gdN rfl rfl rfl rfl ?_
              refine TL.gdN rfl rfl rfl rfl ?_
              refine TL.gdN rfl rfl rfl rfl ?_
              refine TL.gdN rfl rfl rfl rfl ?_
              refine TL.gdN rfl rfl rfl rfl ?_
              refine TL.run (pr_pure rfl) rfl ?_
              refine TL.run (pr_pure rfl) rfl ?_
              refine TL.gdN rfl rfl rfl rfl ?_
              refine TL.gdN rfl rfl rfl rfl ?_
              refine TL.run (pr_pure rfl) rfl ?_
              refine TL.run (pr_pure rfl) rfl ?_
              refine TL.gdN rfl rfl rfl rfl ?_
              refine TL.gdN rfl rfl rfl rfl ?_
              refine TL.run (pr_pure rfl) rfl ?_
              refine TL.run (pr_pure rfl) rfl ?_
              refine TL.nil ?_
              refine TX.seqN ?_
              refine TC.ret ?_
              exact TX.finS (.inr rfl) (results1 rfl (RVal.tmp rfl)) (congrArg Value.bool (by first | rfl | (simp_all [truthV]; done)))
        ·
          have q80 := of_decide_eq_false g80
          refine TL.gdN rfl rfl rfl rfl ?_
          refine TL.gdN rfl rfl rfl rfl ?_
          refine TL.gdN rfl rfl rfl rfl ?_
          refine TL.gdN rfl rfl rfl rfl ?_
          refine TL.gdN rfl rfl rfl rfl ?_
          refine TL.gdU rfl rfl rfl ?_
          refine TL.gdN rfl rfl rfl rfl ?_
          refine TL.gdN rfl rfl rfl rfl ?_
          refine TL.run (pr_pure rfl) rfl ?_
          refine TL.run (pr_pure rfl) rfl ?_
          refine TL.gdN rfl rfl rfl rfl ?_
          refine TL.gdN rfl rfl rfl rfl ?_
          refine TL.run (pr_pure rfl) rfl ?_
          refine TL.run (pr_pure rfl) rfl ?_
          refine TL.gdN rfl rfl rfl rfl ?_
          refine TL.gdN rfl rfl rfl rfl ?_
          refine TL.gdN rfl rfl rfl rfl ?_
          refine TL.gdN rfl rfl rfl rfl ?_
          refine TL.gdN rfl rfl rfl rfl ?_
          refine TL.gdU rfl rfl rfl ?_
          refine TL.gdN rfl rfl rfl rfl ?_
          refine TL.gdN rfl rfl rfl rfl ?_
          refine TL.run (pr_pure rfl) rfl ?_
          refine TL.run (pr_pure rfl) rfl ?_
          refine TL.gdN rfl rfl rfl rfl ?_
          refine TL.gdN rfl rfl rfl rfl ?_
          refine TL.run (pr_pure rfl) rfl ?_
          refine TL.run (pr_pure rfl) rfl ?_
          refine TL.gdN rfl rfl rfl rfl ?_
          refine TL.gdN rfl rfl rfl rfl ?_
          refine TL.gdN rfl rfl rfl rfl ?_
          refine TL.gdN rfl rfl rfl rfl ?_
          refine TL.gdN rfl rfl rfl rfl ?_
          refine TL.gdN rfl rfl rfl rfl ?_
          refine TL.run (pr_pure rfl) rfl ?_
          refine TL.run (pr_pure rfl) rfl ?_
          refine TL.gdN rfl rfl rfl rfl ?_
          refine TL.gdN rfl rfl rfl rfl ?_
          refine TL.run (pr_pure rfl) rfl ?_
          refine TL.run (pr_pure rfl) rfl ?_
          refine TL.gdN rfl rfl rfl rfl ?_
          refine TL.gdN rfl rfl rfl rfl ?_
          refine TL.run (pr_pure rfl) rfl ?_
          refine TL.run (pr_pure rfl) rfl ?_
          refine TL.nil ?_
          refine TX.seqN ?_
          refine TC.ret ?_
          exact TX.finS (.inr rfl) (results1 rfl (RVal.tmp rfl)) (congrArg Value.bool (by first | rfl | (simp_all [truthV]; done)))
    ·
      refine TC.skip ?_
      refine TX.seqN ?_
      refine TC.seq ?_
      refine TC.seq ?_
      refine TC.region ?_
      refine TL.run (pr_pure rfl) rfl ?_
      refine TL.nil ?_
      refine TX.seqN ?_
      refine TC.cond rfl (fun c22 => ?_) (fun c22 => ?_)
      ·
        refine TC.region ?_
        refine TL.run (pr_pure rfl) rfl ?_
        refine TL.nil ?_
        refine TX.seqN ?_
        refine TC.seq ?_
        refine TC.region ?_
        refine TL.run (pr_pure rfl) rfl ?_
        refine TL.run (pr_build rfl rfl) rfl ?_
        refine TL.run (pr_pure rfl) rfl ?_
        refine TL.run (pr_build rfl rfl) rfl ?_
        refine TL.bslice rfl rfl rfl rfl (fun b27 => ?_)
        refine TL.run (pr_pure rfl) rfl ?_
        refine TL.nil ?_
        refine TX.seqN ?_
        refine TC.seq ?_
        refine TC.region ?_
        refine TL.run (pr_pure rfl) rfl ?_
        refine TL.append (enc := Term.cells) rfl rfl rfl (OwnSl.nil (enc := Term.cells)) (Src.own [⟨_, _, _, _, _, _⟩, ⟨_, _, _, _, _, _⟩] (.here _) rfl rfl) (by decide) rfl (.new _ rfl) rfl (fun a30 c30 ob30 hO30 => ?_)
        refine TL.callS (enters rfl rfl rfl rfl) (two4_ok _ _ _) rfl ?_
        refine TL.bslice rfl rfl rfl rfl (fun b32 => ?_)
        refine TL.append (enc := Term.cells) rfl rfl rfl hO30 (Src.own [⟨_, _, _, _, _, _⟩] (.here _) rfl rfl) (by decide) rfl (.skip _ (.skip _ .all)) rfl (fun a33 c33 ob33 hO33 => ?_)
        refine TL.pubO hO33 (.skip _ (.skip _ .all)) (by simp) (fun HL leL hT => ?_)
        refine TL.call (enters rfl rfl rfl rfl) (Eval_ok 2 hT binds_nil EnvOk.nil lens_nil (by decide)) rfl (fun v34 H34 hle34 hp34 => ?_)
        replace hp34 := hp34.eq ((show evalS ([⟨2, [], 0, [], -1, -1⟩, ⟨2, [], 1, [], -1, -1⟩] ++ [twoT 13 0 1]) 2 [] = (truthV false, 0) by kernel_rfl))
        obtain ⟨lv34, rfl, hR34⟩ := hp34
        obtain ⟨la34, lc34, rfl⟩ := RdSl.len hR34
        refine TL.run (pr_pure rfl) rfl ?_
        refine TL.run (pr_pure rfl) rfl ?_
        refine TL.run (pr_pure rfl) rfl ?_
        refine TL.alloc rfl (fun b8 => ?_)
        refine TL.storeA rfl rfl rfl rfl rfl (.here _) rfl rfl ?_
        refine TL.run (pr_pure rfl) rfl ?_
        refine TL.nil ?_
        refine TX.seqN ?_
        refine TC.seq ?_
        refine TC.region ?_
        refine TL.run (pr_pure rfl) rfl ?_
        refine TL.append (enc := Term.cells) rfl rfl rfl (OwnSl.nil (enc := Term.cells)) (Src.own [⟨_, _, _, _, _, _⟩, ⟨_, _, _, _, _, _⟩] (.there _ (.there _ (.here _))) rfl rfl) (by decide) rfl (.new _ rfl) rfl (fun a39 c39 ob39 hO39 => ?_)
        refine TL.callS (enters rfl rfl rfl rfl) (two4_ok _ _ _) rfl ?_
        refine TL.bslice rfl rfl rfl rfl (fun b41 => ?_)
        refine TL.append (enc := Term.cells) rfl rfl rfl hO39 (Src.own [⟨_, _, _, _, _, _⟩] (.here _) rfl rfl) (by decide) rfl (.skip _ (.skip _ (.skip _ (.skip _ .all)))) rfl (fun a42 c42 ob42 hO42 => ?_)
        refine TL.pubO hO42 (.skip _ (.skip _ (.skip _ (.skip _ .all)))) (by simp) (fun HL leL hT => ?_)
        replace hR34 := hR34.le leL
        refine TL.call (enters rfl rfl rfl rfl) (Eval_ok 2 hT binds_nil EnvOk.nil lens_nil (by decide)) rfl (fun v43 H43 hle43 hp43 => ?_)
        replace hp43 := hp43.eq ((show evalS ([⟨2, [], 0, [], -1, -1⟩, ⟨2, [], 1, [], -1, -1⟩] ++ [twoT 14 0 1]) 2 [] = (truthV true, 0) by kernel_rfl))
        obtain ⟨lv43, rfl, hR43⟩ := hp43
        replace hR34 := hR34.le hle43
        obtain ⟨la43, lc43, rfl⟩ := RdSl.len hR43
        refine TL.run (pr_pure rfl) rfl ?_
        refine TL.run (pr_pure rfl) rfl ?_
        refine TL.run (pr_pure rfl) rfl ?_
        refine TL.alloc rfl (fun b10 => ?_)
        refine TL.storeA rfl rfl rfl rfl rfl (.here _) rfl rfl ?_
        refine TL.run (pr_pure rfl) rfl ?_
        refine TL.nil ?_
        refine TX.seqN ?_
        refine TC.seq ?_
        refine TC.region ?_
        refine TL.run (pr_pure rfl) rfl ?_
        refine TL.run (pr_index rfl rfl (by omega) (by omega)) rfl ?_
        refine TL.run (pr_ownQ rfl (.there _ (.there _ (.there _ (.there _ (.here _))))) rfl) rfl ?_
        refine TL.run (pr_build rfl rfl) rfl ?_
        refine TL.bslice rfl rfl rfl rfl (fun b51 => ?_)
        refine TL.pub (by simp) (fun H_b51 le_b51 rd_b51 => ?_)
        replace hR34 := hR34.le le_b51
        replace hR43 := hR43.le le_b51
        have hT : RdSl H_b51 6 Term.cells _ ([⟨2, [], 0, [], -1, -1⟩, ⟨15, [], 0, [], 0, -1⟩]) := RdSl.blk (cap := 2) rd_b51 (by intro x hx; rfl) (by kernel_rfl) (by show 2 ≤ 9223372036854775807; decide)
        clear rd_b51
        refine TL.call (enters rfl rfl rfl rfl) (Eval_ok 1 hT binds_nil EnvOk.nil lens_nil (by decide)) rfl (fun v52 H52 hle52 hp52 => ?_)
        replace hp52 := hp52.eq ((show evalS ([⟨2, [], 0, [], -1, -1⟩, ⟨15, [], 0, [], 0, -1⟩]) 1 [] = (truthV true, 0) by kernel_rfl))
        obtain ⟨lv52, rfl, hR52⟩ := hp52
        replace hR34 := hR34.le hle52
        replace hR43 := hR43.le hle52
        obtain ⟨la52, lc52, rfl⟩ := RdSl.len hR52
        refine TL.run (pr_pure rfl) rfl ?_
        refine TL.run (pr_pure rfl) rfl ?_
        refine TL.run (pr_pure rfl) rfl ?_
        refine TL.alloc rfl (fun b12 => ?_)
        refine TL.storeA rfl rfl rfl rfl rfl (.here _) rfl rfl ?_
        refine TL.run (pr_pure rfl) rfl ?_
        refine TL.nil ?_
        refine TX.seqN ?_
        refine TC.seq ?_
        refine TC.drawn (by kernel_rfl) (by kernel_rfl) ?_
        refine TD.leaf [(0, 1), (1, 1), (2, 2), (3, 3), (4, 3), (5, 3), (6, 3), (7, 3), (8, 3), (9, 3), (10, 1)] (by kernel_rfl) (by kernel_rfl) ?_
        refine TF.pure (pr_pure rfl) rfl ?_
        refine TF.pure (pr_index rfl rfl (by omega) (by omega)) rfl ?_
        refine TF.still (pr_ownQ rfl (.there _ (.there _ (.there _ (.there _ (.there _ (.here _)))))) rfl) rfl ?_
        refine TF.callS (enters rfl rfl rfl rfl) (num4_ok _) rfl ?_
        refine TF.callS (enters rfl rfl rfl rfl) (num4_ok _) rfl ?_
        refine TF.callS (enters rfl rfl rfl rfl) (two4_ok _ _ _) rfl ?_
        refine TF.callS (enters rfl rfl rfl rfl) (num4_ok _) rfl ?_
        refine TF.callS (enters rfl rfl rfl rfl) (two4_ok _ _ _) rfl ?_
        refine TF.callS (enters rfl rfl rfl rfl) (two4_ok _ _ _) rfl ?_
        refine TF.bslice rfl rfl rfl rfl (fun b64 => ?_)
        refine TF.pure (pr_pure rfl) rfl ?_
        refine TF.nil ?_
        refine TX.seqN ?_
        refine TC.seq ?_
        refine TC.region ?_
        refine TL.run (pr_pure rfl) rfl ?_
        refine TL.callLend (by simp) (enters rfl rfl rfl rfl) (fun H2 le2 rd2 => Eval_ok (l := [⟨2, [], 0, [], -1, -1⟩, numT 1, numT 0, twoT 9 1 2, numT 3, twoT 11 3 4, twoT 13 0 5]) 6 (RdSl.blk (l := [⟨2, [], 0, [], -1, -1⟩, numT 1, numT 0, twoT 9 1 2, numT 3, twoT 11 3 4, twoT 13 0 5]) (cap := 7) rd2 (by intro x hx; rfl) (by kernel_rfl) (show 7 ≤ 9223372036854775807 by decide)) binds_nil EnvOk.nil lens_nil (by decide)) rfl (fun v67 H67 hle67 hp67 => ?_)
        obtain ⟨H67x, hl67x, hp67⟩ := hp67
        replace hp67 := hp67.eq (show evalS ([⟨2, [], 0, [], -1, -1⟩, numT 1, numT 0, twoT 9 1 2, numT 3, twoT 11 3 4, twoT 13 0 5]) 6 [] = (v0, 403) by kernel_rfl)
        obtain ⟨lv67, rfl, hR67⟩ := hp67
        obtain ⟨la67, lc67, rfl⟩ := RdSl.len hR67
        replace hR34 := hR34.le hle67
        replace hR43 := hR43.le hle67
        replace hR52 := hR52.le hle67
        refine TL.run (pr_pure rfl) rfl ?_
        refine TL.run (pr_pure rfl) rfl ?_
        refine TL.run (pr_pure rfl) rfl ?_
        refine TL.alloc rfl (fun b15 => ?_)
        refine TL.storeA rfl rfl rfl rfl rfl (.here _) rfl rfl ?_
        refine TL.run (pr_pure rfl) rfl ?_
        refine TL.nil ?_
        refine TX.seqN ?_
        refine TC.seq ?_
        refine TC.region ?_
        refine TL.run (pr_pure rfl) rfl ?_
        refine TL.run (pr_index rfl rfl (by omega) (by omega)) rfl ?_
        refine TL.run (pr_field rfl) rfl ?_
        refine TL.store1 rfl rfl rfl (.there _ (.here _)) rfl rfl ?_
        refine TL.nil ?_
        refine TX.seqN ?_
        refine TC.seq ?_
        refine TC.region ?_
        refine TL.run (pr_pure rfl) rfl ?_
        refine TL.front (.there _ (.here _)) ?_
        refine TL.pub (by simp) (fun H_b64 le_b64 rd_b64 => ?_)
        replace hR34 := hR34.le le_b64
        replace hR43 := hR43.le le_b64
        replace hR52 := hR52.le le_b64
        have hT : RdSl H_b64 6 Term.cells _ ([⟨2, [], 0, [], -1, -1⟩, numT 1, numT 0, twoT 9 1 2, numT 3, twoT 11 3 4, twoT 14 0 5]) := RdSl.blk (cap := 7) rd_b64 (by intro x hx; rfl) (by kernel_rfl) (by show 7 ≤ 9223372036854775807; decide)
        clear rd_b64
        refine TL.call (enters rfl rfl rfl rfl) (Eval_ok 6 hT binds_nil EnvOk.nil lens_nil (by decide)) rfl (fun v75 H75 hle75 hp75 => ?_)
        replace hp75 := hp75.eq ((show evalS ([⟨2, [], 0, [], -1, -1⟩, numT 1, numT 0, twoT 9 1 2, numT 3, twoT 11 3 4, twoT 14 0 5]) 6 [] = (v0, 403) by kernel_rfl))
        obtain ⟨lv75, rfl, hR75⟩ := hp75
        replace hR34 := hR34.le hle75
        replace hR43 := hR43.le hle75
        replace hR52 := hR52.le hle75
        obtain ⟨la75, lc75, rfl⟩ := RdSl.len hR75
        refine TL.run (pr_pure rfl) rfl ?_
        refine TL.run (pr_pure rfl) rfl ?_
        refine TL.run (pr_pure rfl) rfl ?_
        refine TL.alloc rfl (fun b17 => ?_)
        refine TL.storeA rfl rfl rfl rfl rfl (.here _) rfl rfl ?_
        refine TL.run (pr_pure rfl) rfl ?_
        refine TL.nil ?_
        refine TX.seqN ?_
        refine TC.seq ?_
        refine TC.region ?_
        refine TL.run (pr_pure rfl) rfl ?_
        refine TL.run (pr_pure rfl) rfl ?_
        refine TL.run (pr_pure rfl) rfl ?_
        refine TL.split (s := 80) rfl (fun g80 => ?_) (fun g80 => ?_)
        ·
          have q80 := of_decide_eq_true g80
          refine TL.gdY rfl rfl (pr_field rfl) rfl ?_
          refine TL.gdY rfl rfl (pr_own1 rfl (.there _ (.there _ (.there _ (.there _ (.there _ (.here _)))))) rfl) rfl ?_
          refine TL.gdY rfl rfl (pr_pure rfl) rfl ?_
          refine TL.gdY rfl rfl (pr_pure rfl) rfl ?_
          refine TL.gdY rfl rfl (pr_pure rfl) rfl ?_
          refine TL.split (s := 85) rfl (fun g85 => ?_) (fun g85 => ?_)
          ·
            refine TL.gdY rfl rfl (pr_pure rfl) rfl ?_
            refine TL.gdY rfl rfl (pr_pure rfl) rfl ?_
            refine TL.gdY rfl rfl (pr_bool rfl rfl rfl) rfl ?_
            refine TL.run (pr_pure rfl) rfl ?_
            refine TL.run (pr_pure rfl) rfl ?_
            refine TL.split (s := 90) rfl (fun g90 => ?_) (fun g90 => ?_)
            ·
              have q90 := of_decide_eq_true g90
              refine TL.gdY rfl rfl (pr_pure rfl) rfl ?_
              refine TL.gdY rfl rfl (pr_pure rfl) rfl ?_
              refine TL.run (pr_pure rfl) rfl ?_
              refine TL.run (pr_pure rfl) rfl ?_
              refine TL.split (s := 94) rfl (fun g94 => ?_) (fun g94 => ?_)
              ·
                have q94 := of_decide_eq_true g94
                refine TL.gdY rfl rfl (pr_field rfl) rfl ?_
                refine TL.gdY rfl rfl (pr_own1 rfl (.there _ (.there _ (.there _ (.here _)))) rfl) rfl ?_
                refine TL.gdY rfl rfl (pr_pure rfl) rfl ?_
                refine TL.gdY rfl rfl (pr_pure rfl) rfl ?_
                refine TL.gdY rfl rfl (pr_pure rfl) rfl ?_
                refine TL.split (s := 99) rfl (fun g99 => ?_) (fun g99 => ?_)
                ·
                  refine TL.gdN rfl rfl rfl rfl ?_
                  refine TL.gdY rfl rfl (pr_pure rfl) rfl ?_
                  refine TL.gdY rfl rfl (pr_bool rfl rfl rfl) rfl ?_
                  refine TL.run (pr_pure rfl) rfl ?_
                  refine TL.run (pr_pure rfl) rfl ?_
                  refine TL.split (s := 104) rfl (fun g104 => ?_) (fun g104 => ?_)
                  ·
                    have q104 := of_decide_eq_true g104
                    refine TL.gdY rfl rfl (pr_pure rfl) rfl ?_
                    refine TL.gdY rfl rfl (pr_pure rfl) rfl ?_
                    refine TL.run (pr_pure rfl) rfl ?_
                    refine TL.run (pr_pure rfl) rfl ?_
                    refine TL.split (s := 108) rfl (fun g108 => ?_) (fun g108 => ?_)
                    ·
                      have q108 := of_decide_eq_true g108
                      refine TL.gdY rfl rfl (pr_field rfl) rfl ?_
                      refine TL.gdY rfl rfl (pr_own1 rfl (.there _ (.there _ (.here _))) rfl) rfl ?_
                      refine TL.gdY rfl rfl (pr_pure rfl) rfl ?_
                      refine TL.gdY rfl rfl (pr_pure rfl) rfl ?_
                      refine TL.gdY rfl rfl (pr_pure rfl) rfl ?_
                      refine TL.gdY rfl rfl (pr_bool rfl rfl rfl) rfl ?_
                      refine TL.run (pr_pure rfl) rfl ?_
                      refine TL.run (pr_pure rfl) rfl ?_
                      refine TL.split (s := 116) rfl (fun g116 => ?_) (fun g116 => ?_)
                      ·
                        have q116 := of_decide_eq_true g116
                        refine TL.gdY rfl rfl (pr_pure rfl) rfl ?_
                        refine TL.gdY rfl rfl (pr_pure rfl) rfl ?_
                        refine TL.run (pr_pure rfl) rfl ?_
                        refine TL.run (pr_pure rfl) rfl ?_
                        refine TL.split (s := 120) rfl (fun g120 => ?_) (fun g120 => ?_)
                        ·
                          have q120 := of_decide_eq_true g120
                          refine TL.gdY rfl rfl (pr_pure rfl) rfl ?_
                          refine TL.gdY rfl rfl (pr_pure rfl) rfl ?_
                          refine TL.run (pr_pure rfl) rfl ?_
                          refine TL.run (pr_pure rfl) rfl ?_
                          refine TL.nil ?_
                          refine TX.seqN ?_
                          refine TC.ret ?_
                          exact TX.finS (.inr rfl) (results1 rfl (RVal.tmp rfl)) (congrArg Value.bool (by first | rfl | (simp_all [truthV]; done)))
                        ·
                          have q120 := of_decide_eq_false g120
                          refine TL.gdN rfl rfl rfl rfl ?_
                          refine TL.gdN rfl rfl rfl rfl ?_
                          refine TL.run (pr_pure rfl) rfl ?_
                          refine TL.run (pr_pure rfl) rfl ?_
                          refine TL.nil ?_
                          refine TX.seqN ?_
                          refine TC.ret ?_
                          exact TX.finS (.inr rfl) (results1 rfl (RVal.tmp rfl)) (congrArg Value.bool (by first | rfl | (simp_all [truthV]; done)))
                      ·
                        have q116 := of_decide_eq_false g116
                        refine TL.gdN rfl rfl rfl rfl ?_
                        refine TL.gdN rfl rfl rfl rfl ?_
                        refine TL.run (pr_pure rfl) rfl ?_
                        refine TL.run (pr_pure rfl) rfl ?_
                        refine TL.gdN rfl rfl rfl rfl ?_
                        refine TL.gdN rfl rfl rfl rfl ?_
                        refine TL.run (pr_pure rfl) rfl ?_
                        refine TL.run (pr_pure rfl) rfl ?_
                        refine TL.nil ?_
                        refine TX.seqN ?_
                        refine TC.ret ?_
                        exact TX.finS (.inr rfl) (results1 rfl (RVal.tmp rfl)) (congrArg Value.bool (by first | rfl | (simp_all [truthV]; done)))
                    ·
                      have q108 := of_decide_eq_false g108
                      refine TL.gdN rfl rfl rfl rfl ?_
                      refine TL.gdN rfl rfl rfl rfl ?_
                      refine TL.gdN rfl rfl rfl rfl ?_
                      refine TL.gdN rfl rfl rfl rfl ?_
                      refine TL.gdN rfl rfl rfl rfl ?_
                      refine TL.gdN rfl rfl rfl rfl ?_
                      refine TL.run (pr_pure rfl) rfl ?_
                      refine TL.run (pr_pure rfl) rfl ?_
                      refine TL.gdN rfl rfl rfl rfl ?_
                      refine TL.gdN rfl rfl rfl rfl ?_
                      refine TL.run (pr_pure rfl) rfl ?_
                      refine TL.run (pr_pure rfl) rfl ?_
                      refine TL.gdN rfl rfl rfl rfl ?_
                      refine TL.gdN rfl rfl rfl rfl ?_
                      refine TL.run (pr_pure rfl) rfl ?_
                      refine TL.run (pr_pure rfl) rfl ?_
                      refine TL.nil ?_
                      refine TX.seqN ?_
                      refine TC.ret ?_
                      exact TX.finS (.inr rfl) (results1 rfl (RVal.tmp rfl)) (congrArg Value.bool (by first | rfl | (simp_all [truthV]; done)))
                  ·
                    have q104 := of_decide_eq_false g104
                    refine TL.gdN rfl rfl rfl rfl ?_
                    refine TL.gdN rfl rfl rfl rfl ?_
                    refine TL.run (pr_pure rfl) rfl ?_
                    refine TL.run (pr_pure rfl) rfl ?_
                    refine TL.gdN rfl rfl rfl rfl ?_
                    refine TL.gdN rfl rfl rfl rfl ?_
                    refine TL.gdN rfl rfl rfl rfl ?_
                    refine TL.gdN rfl rfl rfl rfl ?_
                    refine TL.gdN rfl rfl rfl rfl ?_
                    refine TL.gdN rfl rfl rfl rfl ?_
                    refine TL.run (pr_pure rfl) rfl ?_
                    refine TL.run (pr_pure rfl) rfl ?_
                    refine TL.gdN rfl rfl rfl rfl ?_
                    refine TL.gdN rfl rfl rfl rfl ?_
                    refine TL.run (pr_pure rfl) rfl ?_
                    refine TL.run (pr_pure rfl) rfl ?_
                    refine TL.gdN rfl rfl rfl rfl ?_
                    refine TL.gdN rfl rfl rfl rfl ?_
                    refine TL.run (pr_pure rfl) rfl ?_
                    refine TL.run (pr_pure rfl) rfl ?_
                    refine TL.nil ?_
                    refine TX.seqN ?_
                    refine TC.ret ?_
                    exact TX.finS (.inr rfl) (results1 rfl (RVal.tmp rfl)) (congrArg Value.bool (by first | rfl | (simp_all [truthV]; done)))
                ·
                  refine TL.gdY rfl rfl (pr_pure rfl) rfl ?_
                  refine TL.gdY rfl rfl (pr_pure rfl) rfl ?_
                  refine TL.gdY rfl rfl (pr_bool rfl rfl rfl) rfl ?_
                  refine TL.run (pr_pure rfl) rfl ?_
                  refine TL.run (pr_pure rfl) rfl ?_
                  refine TL.split (s := 104) rfl (fun g104 => ?_) (fun g104 => ?_)
                  ·
                    have q104 := of_decide_eq_true g104
                    refine TL.gdY rfl rfl (pr_pure rfl) rfl ?_
                    refine TL.gdY rfl rfl (pr_pure rfl) rfl ?_
                    refine TL.run (pr_pure rfl) rfl ?_
                    refine TL.run (pr_pure rfl) rfl ?_
                    refine TL.split (s := 108) rfl (fun g108 => ?_) (fun g108 => ?_)
                    ·
                      have q108 := of_decide_eq_true g108
                      refine TL.gdY rfl rfl (pr_field rfl) rfl ?_
                      refine TL.gdY rfl rfl (pr_own1 rfl (.there _ (.there _ (.here _))) rfl) rfl ?_
                      refine TL.gdY rfl rfl (pr_pure rfl) rfl ?_
                      refine TL.gdY rfl rfl (pr_pure rfl) rfl ?_
                      refine TL.gdY rfl rfl (pr_pure rfl) rfl ?_
                      refine TL.gdY rfl rfl (pr_bool rfl rfl rfl) rfl ?_
                      refine TL.run (pr_pure rfl) rfl ?_
                      refine TL.run (pr_pure rfl) rfl ?_
                      refine TL.split (s := 116) rfl (fun g116 => ?_) (fun g116 => ?_)
                      ·
                        have q116 := of_decide_eq_true g116
                        refine TL.gdY rfl rfl (pr_pure rfl) rfl ?_
                        refine TL.gdY rfl rfl (pr_pure rfl) rfl ?_
                        refine TL.run (pr_pure rfl) rfl ?_
                        refine TL.run (pr_pure rfl) rfl ?_
                        refine TL.split (s := 120) rfl (fun g120 => ?_) (fun g120 => ?_)
                        ·
                          have q120 := of_decide_eq_true g120
                          refine TL.gdY rfl rfl (pr_pure rfl) rfl ?_
                          refine TL.gdY rfl rfl (pr_pure rfl) rfl ?_
                          refine TL.run (pr_pure rfl) rfl ?_
                          refine TL.run (pr_pure rfl) rfl ?_
                          refine TL.nil ?_
                          refine TX.seqN ?_
                          refine TC.ret ?_
                          exact TX.finS (.inr rfl) (results1 rfl (RVal.tmp rfl)) (congrArg Value.bool (by first | rfl | (simp_all [truthV]; done)))
                        ·
                          have q120 := of_decide_eq_false g120
                          refine TL.gdN rfl rfl rfl rfl ?_
                          refine TL.gdN rfl rfl rfl rfl ?_
                          refine TL.run (pr_pure rfl) rfl ?_
                          refine TL.run (pr_pure rfl) rfl ?_
                          refine TL.nil ?_
                          refine TX.seqN ?_
                          refine TC.ret ?_
                          exact TX.finS (.inr rfl) (results1 rfl (RVal.tmp rfl)) (congrArg Value.bool (by first | rfl | (simp_all [truthV]; done)))
                      ·
                        have q116 := of_decide_eq_false g116
                        refine TL.gdN rfl rfl rfl rfl ?_
                        refine TL.gdN rfl rfl rfl rfl ?_
                        refine TL.run (pr_pure rfl) rfl ?_
                        refine TL.run (pr_pure rfl) rfl ?_
                        refine TL.gdN rfl rfl rfl rfl ?_
                        refine TL.gdN rfl rfl rfl rfl ?_
                        refine TL.run (pr_pure rfl) rfl ?_
                        refine TL.run (pr_pure rfl) rfl ?_
                        refine TL.nil ?_
                        refine TX.seqN ?_
                        refine TC.ret ?_
                        exact TX.finS (.inr rfl) (results1 rfl (RVal.tmp rfl)) (congrArg Value.bool (by first | rfl | (simp_all [truthV]; done)))
                    ·
                      have q108 := of_decide_eq_false g108
                      refine TL.gdN rfl rfl rfl rfl ?_
                      refine TL.gdN rfl rfl rfl rfl ?_
                      refine TL.gdN rfl rfl rfl rfl ?_
                      refine TL.gdN rfl rfl rfl rfl ?_
                      refine TL.gdN rfl rfl rfl rfl ?_
                      refine TL.gdN rfl rfl rfl rfl ?_
                      refine TL.run (pr_pure rfl) rfl ?_
                      refine TL.run (pr_pure rfl) rfl ?_
                      refine TL.gdN rfl rfl rfl rfl ?_
                      refine TL.gdN rfl rfl rfl rfl ?_
                      refine TL.run (pr_pure rfl) rfl ?_
                      refine TL.run (pr_pure rfl) rfl ?_
                      refine TL.gdN rfl rfl rfl rfl ?_
                      refine TL.gdN rfl rfl rfl rfl ?_
                      refine TL.run (pr_pure rfl) rfl ?_
                      refine TL.run (pr_pure rfl) rfl ?_
                      refine TL.nil ?_
                      refine TX.seqN ?_
                      refine TC.ret ?_
                      exact TX.finS (.inr rfl) (results1 rfl (RVal.tmp rfl)) (congrArg Value.bool (by first | rfl | (simp_all [truthV]; done)))
                  ·
                    have q104 := of_decide_eq_false g104
                    refine TL.gdN rfl rfl rfl rfl ?_
                    refine TL.gdN rfl rfl rfl rfl ?_
                    refine TL.run (pr_pure rfl) rfl ?_
                    refine TL.run (pr_pure rfl) rfl ?_
                    refine TL.gdN rfl rfl rfl rfl ?_
                    refine TL.gdN rfl rfl rfl rfl ?_
                    refine TL.gdN rfl rfl rfl rfl ?_
                    refine TL.gdN rfl rfl rfl rfl ?_
                    refine TL.gdN rfl rfl rfl rfl ?_
                    refine TL.gdN rfl rfl rfl rfl ?_
                    refine TL.run (pr_pure rfl) rfl ?_
                    refine TL.run (pr_pure rfl) rfl ?_
                    refine TL.gdN rfl rfl rfl rfl ?_
                    refine TL.gdN rfl rfl rfl rfl ?_
                    refine TL.run (pr_pure rfl) rfl ?_
                    refine TL.run (pr_pure rfl) rfl ?_
                    refine TL.gdN rfl rfl rfl rfl ?_
                    refine TL.gdN rfl rfl rfl rfl ?_
                    refine TL.run (pr_pure rfl) rfl ?_
                    refine TL.run (pr_pure rfl) rfl ?_
                    refine TL.nil ?_
                    refine TX.seqN ?_
                    refine TC.ret ?_
                    exact TX.finS (.inr rfl) (results1 rfl (RVal.tmp rfl)) (congrArg Value.bool (by first | rfl | (simp_all [truthV]; done)))
              ·
                have q94 := of_decide_eq_false g94
                refine TL.gdN rfl rfl rfl rfl ?_
                refine TL.gdN rfl rfl rfl rfl ?_
                refine TL.gdN rfl rfl rfl rfl ?_
                refine TL.gdN rfl rfl rfl rfl ?_
                refine TL.gdN rfl rfl rfl rfl ?_
                refine TL.gdU rfl rfl rfl ?_
                refine TL.gdN rfl rfl rfl rfl ?_
                refine TL.gdN rfl rfl rfl rfl ?_
                refine TL.run (pr_pure rfl) rfl ?_
                refine TL.run (pr_pure rfl) rfl ?_
                refine TL.gdN rfl rfl rfl rfl ?_
                refine TL.gdN rfl rfl rfl rfl ?_
                refine TL.run (pr_pure rfl) rfl ?_
                refine TL.run (pr_pure rfl) rfl ?_
                refine TL.gdN rfl rfl rfl rfl ?_
                refine TL.gdN rfl rfl rfl rfl ?_
                refine TL.gdN rfl rfl rfl rfl ?_
                refine TL.gdN rfl rfl rfl rfl ?_
                refine TL.gdN rfl rfl rfl rfl ?_
                refine TL.gdN rfl rfl rfl rfl ?_
                refine TL.run (pr_pure rfl) rfl ?_
                refine TL.run (pr_pure rfl) rfl ?_
                refine TL.gdN rfl rfl rfl rfl ?_
                refine TL.gdN rfl rfl rfl rfl ?_
                refine TL.run (pr_pure rfl) rfl ?_
                refine TL.run (pr_pure rfl) rfl ?_
                refine TL.gdN rfl rfl rfl rfl ?_
                refine TL.gdN rfl rfl rfl rfl ?_
                refine TL.run (pr_pure rfl) rfl ?_
                refine TL.run (pr_pure rfl) rfl ?_
                refine TL.nil ?_
                refine TX.seqN ?_
                refine TC.ret ?_
                exact TX.finS (.inr rfl) (results1 rfl (RVal.tmp rfl)) (congrArg Value.bool (by first | rfl | (simp_all [truthV]; done)))
            ·
              have q90 := of_decide_eq_false g90
              refine TL.gdN rfl rfl rfl rfl ?_
              refine TL.gdN rfl rfl rfl rfl ?_
              refine TL.run (pr_pure rfl) rfl ?_
              refine TL.run (pr_pure rfl) rfl ?_
              refine TL.gdN rfl rfl rfl rfl ?_
              refine TL.gdN rfl rfl rfl rfl ?_
              refine TL.gdN rfl rfl rfl rfl ?_
              refine TL.gdN rfl rfl rfl rfl ?_
              refine TL.gdN rfl rfl rfl rfl ?_
              refine TL.gdU rfl rfl rfl ?_
              refine TL.gdN rfl rfl rfl rfl ?_
              refine TL.gdN rfl rfl rfl rfl ?_
              refine TL.run (pr_pure rfl) rfl ?_
              refine TL.run (pr_pure rfl) rfl ?_
              refine TL.gdN rfl rfl rfl rfl ?_
              refine TL.gdN rfl rfl rfl rfl ?_
              refine TL.run (pr_pure rfl) rfl ?_
              refine TL.run (pr_pure rfl) rfl ?_
              refine TL.gdN rfl rfl rfl rfl ?_
              refine TL.gdN rfl rfl rfl rfl ?_
              refine TL.gdN rfl rfl rfl rfl ?_
              refine TL.gdN rfl rfl rfl rfl ?_
              refine TL.gdN rfl rfl rfl rfl ?_
              refine TL.gdN rfl rfl rfl rfl ?_
              refine TL.run (pr_pure rfl) rfl ?_
              refine TL.run (pr_pure rfl) rfl ?_
              refine TL.gdN rfl rfl rfl rfl ?_
              refine TL.gdN rfl rfl rfl rfl ?_
              refine TL.run (pr_pure rfl) rfl ?_
              refine TL.run (pr_pure rfl) rfl ?_
              refine TL.gdN rfl rfl rfl rfl ?_
              refine TL.gdN rfl rfl rfl rfl ?_
              refine TL.run (pr_pure rfl) rfl ?_
              refine TL.run (pr_pure rfl) rfl ?_
              refine TL.nil ?_
              refine TX.seqN ?_
              refine TC.ret ?_
              exact TX.finS (.inr rfl) (results1 rfl (RVal.tmp rfl)) (congrArg Value.bool (by first | rfl | (simp_all [truthV]; done)))
          ·
            refine TL.gdN rfl rfl rfl rfl ?_
            refine TL.gdY rfl rfl (pr_pure rfl) rfl ?_
            refine TL.gdY rfl rfl (pr_bool rfl rfl rfl) rfl ?_
            refine TL.run (pr_pure rfl) rfl ?_
            refine TL.run (pr_pure rfl) rfl ?_
            refine TL.split (s := 90) rfl (fun g90 => ?_) (fun g90 => ?_)
            ·
              have q90 := of_decide_eq_true g90
              refine TL.gdY rfl rfl (pr_pure rfl) rfl ?_
              refine TL.gdY rfl rfl (pr_pure rfl) rfl ?_
              refine TL.run (pr_pure rfl) rfl ?_
              refine TL.run (pr_pure rfl) rfl ?_
              refine TL.split (s := 94) rfl (fun g94 => ?_) (fun g94 => ?_)
              ·
                have q94 := of_decide_eq_true g94
                refine TL.gdY rfl rfl (pr_field rfl) rfl ?_
                refine TL.gdY rfl rfl (pr_own1 rfl (.there _ (.there _ (.there _ (.here _)))) rfl) rfl ?_
                refine TL.gdY rfl rfl (pr_pure rfl) rfl ?_
                refine TL.gdY rfl rfl (pr_pure rfl) rfl ?_
                refine TL.gdY rfl rfl (pr_pure rfl) rfl ?_
                refine TL.split (s := 99) rfl (fun g99 => ?_) (fun g99 => ?_)
                ·
                  refine TL.gdN rfl rfl rfl rfl ?_
                  refine TL.gdY rfl rfl (pr_pure rfl) rfl ?_
                  refine TL.gdY rfl rfl (pr_bool rfl rfl rfl) rfl ?_
                  refine TL.run (pr_pure rfl) rfl ?_
                  refine TL.run (pr_pure rfl) rfl ?_
                  refine TL.split (s := 104) rfl (fun g104 => ?_) (fun g104 => ?_)
                  ·
                    have q104 := of_decide_eq_true g104
                    refine TL.gdY rfl rfl (pr_pure rfl) rfl ?_
                    refine TL.gdY rfl rfl (pr_pure rfl) rfl ?_
                    refine TL.run (pr_pure rfl) rfl ?_
                    refine TL.run (pr_pure rfl) rfl ?_
                    refine TL.split (s := 108) rfl (fun g108 => ?_) (fun g108 => ?_)
                    ·
                      have q108 := of_decide_eq_true g108
                      refine TL.gdY rfl rfl (pr_field rfl) rfl ?_
                      refine TL.gdY rfl rfl (pr_own1 rfl (.there _ (.there _ (.here _))) rfl) rfl ?_
                      refine TL.gdY rfl rfl (pr_pure rfl) rfl ?_
                      refine TL.gdY rfl rfl (pr_pure rfl) rfl ?_
                      refine TL.gdY rfl rfl (pr_pure rfl) rfl ?_
                      refine TL.gdY rfl rfl (pr_bool rfl rfl rfl) rfl ?_
                      refine TL.run (pr_pure rfl) rfl ?_
                      refine TL.run (pr_pure rfl) rfl ?_
                      refine TL.split (s := 116) rfl (fun g116 => ?_) (fun g116 => ?_)
                      ·
                        have q116 := of_decide_eq_true g116
                        refine TL.gdY rfl rfl (pr_pure rfl) rfl ?_
                        refine TL.gdY rfl rfl (pr_pure rfl) rfl ?_
                        refine TL.run (pr_pure rfl) rfl ?_
                        refine TL.run (pr_pure rfl) rfl ?_
                        refine TL.split (s := 120) rfl (fun g120 => ?_) (fun g120 => ?_)
                        ·
                          have q120 := of_decide_eq_true g120
                          refine TL.gdY rfl rfl (pr_pure rfl) rfl ?_
                          refine TL.gdY rfl rfl (pr_pure rfl) rfl ?_
                          refine TL.run (pr_pure rfl) rfl ?_
                          refine TL.run (pr_pure rfl) rfl ?_
                          refine TL.nil ?_
                          refine TX.seqN ?_
                          refine TC.ret ?_
                          exact TX.finS (.inr rfl) (results1 rfl (RVal.tmp rfl)) (congrArg Value.bool (by first | rfl | (simp_all [truthV]; done)))
                        ·
                          have q120 := of_decide_eq_false g120
                          refine TL.gdN rfl rfl rfl rfl ?_
                          refine TL.gdN rfl rfl rfl rfl ?_
                          refine TL.run (pr_pure rfl) rfl ?_
                          refine TL.run (pr_pure rfl) rfl ?_
                          refine TL.nil ?_
                          refine TX.seqN ?_
                          refine TC.ret ?_
                          exact TX.finS (.inr rfl) (results1 rfl (RVal.tmp rfl)) (congrArg Value.bool (by first | rfl | (simp_all [truthV]; done)))
                      ·
                        have q116 := of_decide_eq_false g116
                        refine TL.gdN rfl rfl rfl rfl ?_
                        refine TL.gdN rfl rfl rfl rfl ?_
                        refine TL.run (pr_pure rfl) rfl ?_
                        refine TL.run (pr_pure rfl) rfl ?_
                        refine TL.gdN rfl rfl rfl rfl ?_
                        refine TL.gdN rfl rfl rfl rfl ?_
                        refine TL.run (pr_pure rfl) rfl ?_
                        refine TL.run (pr_pure rfl) rfl ?_
                        refine TL.nil ?_
                        refine TX.seqN ?_
                        refine TC.ret ?_
                        exact TX.finS (.inr rfl) (results1 rfl (RVal.tmp rfl)) (congrArg Value.bool (by first | rfl | (simp_all [truthV]; done)))
                    ·
                      have q108 := of_decide_eq_false g108
                      refine TL.gdN rfl rfl rfl rfl ?_
                      refine TL.gdN rfl rfl rfl rfl ?_
                      refine TL.gdN rfl rfl rfl rfl ?_
                      refine TL.gdN rfl rfl rfl rfl ?_
                      refine TL.gdN rfl rfl rfl rfl ?_
                      refine TL.gdN rfl rfl rfl rfl ?_
                      refine TL.run (pr_pure rfl) rfl ?_
                      refine TL.run (pr_pure rfl) rfl ?_
                      refine TL.gdN rfl rfl rfl rfl ?_
                      refine TL.gdN rfl rfl rfl rfl ?_
                      refine TL.run (pr_pure rfl) rfl ?_
                      refine TL.run (pr_pure rfl) rfl ?_
                      refine TL.gdN rfl rfl rfl rfl ?_
                      refine TL.gdN rfl rfl rfl rfl ?_
                      refine TL.run (pr_pure rfl) rfl ?_
                      refine TL.run (pr_pure rfl) rfl ?_
                      refine TL.nil ?_
                      refine TX.seqN ?_
                      refine TC.ret ?_
                      exact TX.finS (.inr rfl) (results1 rfl (RVal.tmp rfl)) (congrArg Value.bool (by first | rfl | (simp_all [truthV]; done)))
                  ·
                    have q104 := of_decide_eq_false g104
                    refine TL.gdN rfl rfl rfl rfl ?_
                    refine TL.gdN rfl rfl rfl rfl ?_
                    refine TL.run (pr_pure rfl) rfl ?_
                    refine TL.run (pr_pure rfl) rfl ?_
                    refine TL.gdN rfl rfl rfl rfl ?_
                    refine TL.gdN rfl rfl rfl rfl ?_
                    refine TL.gdN rfl rfl rfl rfl ?_
                    refine TL.gdN rfl rfl rfl rfl ?_
                    refine TL.gdN rfl rfl rfl rfl ?_
                    refine TL.gdN rfl rfl rfl rfl ?_
                    refine TL.run (pr_pure rfl) rfl ?_
                    refine TL.run (pr_pure rfl) rfl ?_
                    refine TL.gdN rfl rfl rfl rfl ?_
                    refine TL.gdN rfl rfl rfl rfl ?_
                    refine TL.run (pr_pure rfl) rfl ?_
                    refine TL.run (pr_pure rfl) rfl ?_
                    refine TL.gdN rfl rfl rfl rfl ?_
                    refine TL.gdN rfl rfl rfl rfl ?_
                    refine TL.run (pr_pure rfl) rfl ?_
                    refine TL.run (pr_pure rfl) rfl ?_
                    refine TL.nil ?_
                    refine TX.seqN ?_
                    refine TC.ret ?_
                    exact TX.finS (.inr rfl) (results1 rfl (RVal.tmp rfl)) (congrArg Value.bool (by first | rfl | (simp_all [truthV]; done)))
                ·
                  refine TL.gdY rfl rfl (pr_pure rfl) rfl ?_
                  refine TL.gdY rfl rfl (pr_pure rfl) rfl ?_
                  refine TL.gdY rfl rfl (pr_bool rfl rfl rfl) rfl ?_
                  refine TL.run (pr_pure rfl) rfl ?_
                  refine TL.run (pr_pure rfl) rfl ?_
                  refine TL.split (s := 104) rfl (fun g104 => ?_) (fun g104 => ?_)
                  ·
                    have q104 := of_decide_eq_true g104
                    refine TL.gdY rfl rfl (pr_pure rfl) rfl ?_
                    refine TL.gdY rfl rfl (pr_pure rfl) rfl ?_
                    refine TL.run (pr_pure rfl) rfl ?_
                    refine TL.run (pr_pure rfl) rfl ?_
                    refine TL.split (s := 108) rfl (fun g108 => ?_) (fun g108 => ?_)
                    ·
                      have q108 := of_decide_eq_true g108
                      refine TL.gdY rfl rfl (pr_field rfl) rfl ?_
                      refine TL.gdY rfl rfl (pr_own1 rfl (.there _ (.there _ (.here _))) rfl) rfl ?_
                      refine TL.gdY rfl rfl (pr_pure rfl) rfl ?_
                      refine TL.gdY rfl rfl (pr_pure rfl) rfl ?_
                      refine TL.gdY rfl rfl (pr_pure rfl) rfl ?_
                      refine TL.gdY rfl rfl (pr_bool rfl rfl rfl) rfl ?_
                      refine TL.run (pr_pure rfl) rfl ?_
                      refine TL.run (pr_pure rfl) rfl ?_
                      refine TL.split (s := 116) rfl (fun g116 => ?_) (fun g116 => ?_)
                      ·
                        have q116 := of_decide_eq_true g116
                        refine TL.gdY rfl rfl (pr_pure rfl) rfl ?_
                        refine TL.gdY rfl rfl (pr_pure rfl) rfl ?_
                        refine TL.run (pr_pure rfl) rfl ?_
                        refine TL.run (pr_pure rfl) rfl ?_
                        refine TL.split (s := 120) rfl (fun g120 => ?_) (fun g120 => ?_)
                        ·
                          have q120 := of_decide_eq_true g120
                          refine TL.gdY rfl rfl (pr_pure rfl) rfl ?_
                          refine TL.gdY rfl rfl (pr_pure rfl) rfl ?_
                          refine TL.run (pr_pure rfl) rfl ?_
                          refine TL.run (pr_pure rfl) rfl ?_
                          refine TL.nil ?_
                          refine TX.seqN ?_
                          refine TC.ret ?_
                          exact TX.finS (.inr rfl) (results1 rfl (RVal.tmp rfl)) (congrArg Value.bool (by first | rfl | (simp_all [truthV]; done)))
                        ·
                          have q120 := of_decide_eq_false g120
                          refine TL.gdN rfl rfl rfl rfl ?_
                          refine TL.gdN rfl rfl rfl rfl ?_
                          refine TL.run (pr_pure rfl) rfl ?_
                          refine TL.run (pr_pure rfl) rfl ?_
                          refine TL.nil ?_
                          refine TX.seqN ?_
                          refine TC.ret ?_
                          exact TX.finS (.inr rfl) (results1 rfl (RVal.tmp rfl)) (congrArg Value.bool (by first | rfl | (simp_all [truthV]; done)))
                      ·
                        have q116 := of_decide_eq_false g116
                        refine TL.gdN rfl rfl rfl rfl ?_
                        refine TL.gdN rfl rfl rfl rfl ?_
                        refine TL.run (pr_pure rfl) rfl ?_
                        refine TL.run (pr_pure rfl) rfl ?_
                        refine TL.gdN rfl rfl rfl rfl ?_
                        refine TL.gdN rfl rfl rfl rfl ?_
                        refine TL.run (pr_pure rfl) rfl ?_
                        refine TL.run (pr_pure rfl) rfl ?_
                        refine TL.nil ?_
                        refine TX.seqN ?_
                        refine TC.ret ?_
                        exact TX.finS (.inr rfl) (results1 rfl (RVal.tmp rfl)) (congrArg Value.bool (by first | rfl | (simp_all [truthV]; done)))
                    ·
                      have q108 := of_decide_eq_false g108
                      refine TL.gdN rfl rfl rfl rfl ?_
                      refine TL.gdN rfl rfl rfl rfl ?_
                      refine TL.gdN rfl rfl rfl rfl ?_
                      refine TL.gdN rfl rfl rfl rfl ?_
                      refine TL.gdN rfl rfl rfl rfl ?_
                      refine TL.gdN rfl rfl rfl rfl ?_
                      refine TL.run (pr_pure rfl) rfl ?_
                      refine TL.run (pr_pure rfl) rfl ?_
                      refine TL.gdN rfl rfl rfl rfl ?_
                      refine TL.gdN rfl rfl rfl rfl ?_
                      refine TL.run (pr_pure rfl) rfl ?_
                      refine TL.run (pr_pure rfl) rfl ?_
                      refine TL.gdN rfl rfl rfl rfl ?_
                      refine TL.gdN rfl rfl rfl rfl ?_
                      refine TL.run (pr_pure rfl) rfl ?_
                      refine TL.run (pr_pure rfl) rfl ?_
                      refine TL.nil ?_
                      refine TX.seqN ?_
                      refine TC.ret ?_
                      exact TX.finS (.inr rfl) (results1 rfl (RVal.tmp rfl)) (congrArg Value.bool (by first | rfl | (simp_all [truthV]; done)))
                  ·
                    have q104 := of_decide_eq_false g104
                    refine TL.gdN rfl rfl rfl rfl ?_
                    refine TL.gdN rfl rfl rfl rfl ?_
                    refine TL.run (pr_pure rfl) rfl ?_
                    refine TL.run (pr_pure rfl) rfl ?_
                    refine TL.gdN rfl rfl rfl rfl ?_
                    refine TL.gdN rfl rfl rfl rfl ?_
                    refine TL.gdN rfl rfl rfl rfl ?_
                    refine TL.gdN rfl rfl rfl rfl ?_
                    refine TL.gdN rfl rfl rfl rfl ?_
                    refine TL.gdN rfl rfl rfl rfl ?_
                    refine TL.run (pr_pure rfl) rfl ?_
                    refine TL.run (pr_pure rfl) rfl ?_
                    refine TL.gdN rfl rfl rfl rfl ?_
                    refine TL.gdN rfl rfl rfl rfl ?_
                    refine TL.run (pr_pure rfl) rfl ?_
                    refine TL.run (pr_pure rfl) rfl ?_
                    refine TL.gdN rfl rfl rfl rfl ?_
                    refine TL.gdN rfl rfl rfl rfl ?_
                    refine TL.run (pr_pure rfl) rfl ?_
                    refine TL.run (pr_pure rfl) rfl ?_
                    refine TL.nil ?_
                    refine TX.seqN ?_
                    refine TC.ret ?_
                    exact TX.finS (.inr rfl) (results1 rfl (RVal.tmp rfl)) (congrArg Value.bool (by first | rfl | (simp_all [truthV]; done)))
              ·
                have q94 := of_decide_eq_false g94
                refine TL.gdN rfl rfl rfl rfl ?_
                refine TL.gdN rfl rfl rfl rfl ?_
                refine TL.gdN rfl rfl rfl rfl ?_
                refine TL.gdN rfl rfl rfl rfl ?_
                refine TL.gdN rfl rfl rfl rfl ?_
                refine TL.gdU rfl rfl rfl ?_
                refine TL.gdN rfl rfl rfl rfl ?_
                refine TL.gdN rfl rfl rfl rfl ?_
                refine TL.run (pr_pure rfl) rfl ?_
                refine TL.run (pr_pure rfl) rfl ?_
                refine TL.gdN rfl rfl rfl rfl ?_
                refine TL.gdN rfl rfl rfl rfl ?_
                refine TL.run (pr_pure rfl) rfl ?_
                refine TL.run (pr_pure rfl) rfl ?_
                refine TL.gdN rfl rfl rfl rfl ?_
                refine TL.gdN rfl rfl rfl rfl ?_
                refine TL.gdN rfl rfl rfl rfl ?_
                refine TL.gdN rfl rfl rfl rfl ?_
                refine TL.gdN rfl rfl rfl rfl ?_
                refine TL.gdN rfl rfl rfl rfl ?_
                refine TL.run (pr_pure rfl) rfl ?_
                refine TL.run (pr_pure rfl) rfl ?_
                refine TL.gdN rfl rfl rfl rfl ?_
                refine TL.gdN rfl rfl rfl rfl ?_
                refine TL.run (pr_pure rfl) rfl ?_
                refine TL.run (pr_pure rfl) rfl ?_
                refine TL.gdN rfl rfl rfl rfl ?_
                refine TL.gdN rfl rfl rfl rfl ?_
                refine TL.run (pr_pure rfl) rfl ?_
                refine TL.run (pr_pure rfl) rfl ?_
                refine TL.nil ?_
                refine TX.seqN ?_
                refine TC.ret ?_
                exact TX.finS (.inr rfl) (results1 rfl (RVal.tmp rfl)) (congrArg Value.bool (by first | rfl | (simp_all [truthV]; done)))
            ·
              have q90 := of_decide_eq_false g90
              refine TL.gdN rfl rfl rfl rfl ?_
              refine TL.gdN rfl rfl rfl rfl ?_
              refine TL.run (pr_pure rfl) rfl ?_
              refine TL.run (pr_pure rfl) rfl ?_
              refine TL.gdN rfl rfl rfl rfl ?_
              refine TL.gdN rfl rfl rfl rfl ?_
              refine TL.gdN rfl rfl rfl rfl ?_
              refine TL.gdN rfl rfl rfl rfl ?_
              refine TL.gdN rfl rfl rfl rfl ?_
              refine TL.gdU rfl rfl rfl ?_
              refine TL.gdN rfl rfl rfl rfl ?_
              refine TL.gdN rfl rfl rfl rfl ?_
              refine TL.run (pr_pure rfl) rfl ?_
              refine TL.run (pr_pure rfl) rfl ?_
              refine TL.gdN rfl rfl rfl rfl ?_
              refine TL.gdN rfl rfl rfl rfl ?_
              refine TL.run (pr_pure rfl) rfl ?_
              refine TL.run (pr_pure rfl) rfl ?_
              refine TL.gdN rfl rfl rfl rfl ?_
              refine TL.gdN rfl rfl rfl rfl ?_
              refine TL.gdN rfl rfl rfl rfl ?_
              refine TL.gdN rfl rfl rfl rfl ?_
              refine TL.gdN rfl rfl rfl rfl ?_
              refine TL.gdN rfl rfl rfl rfl ?_
              refine TL.run (pr_pure rfl) rfl ?_
              refine TL.run (pr_pure rfl) rfl ?_
              refine TL.gdN rfl rfl rfl rfl ?_
              refine TL.gdN rfl rfl rfl rfl ?_
              refine TL.run (pr_pure rfl) rfl ?_
              refine TL.run (pr_pure rfl) rfl ?_
              refine TL.gdN rfl rfl rfl rfl ?_
              refine TL.gdN rfl rfl rfl rfl ?_
              refine TL.run (pr_pure rfl) rfl ?_
              refine TL.run (pr_pure rfl) rfl ?_
              refine TL.nil ?_
              refine TX.seqN ?_
              refine TC.ret ?_
              exact TX.finS (.inr rfl) (results1 rfl (RVal.tmp rfl)) (congrArg Value.bool (by first | rfl | (simp_all [truthV]; done)))
        ·
          have q80 := of_decide_eq_false g80
          refine TL.gdN rfl rfl rfl rfl ?_
          refine TL.gdN rfl rfl rfl rfl ?_
          refine TL.gdN rfl rfl rfl rfl ?_
          refine TL.gdN rfl rfl rfl rfl ?_
          refine TL.gdN rfl rfl rfl rfl ?_
          refine TL.gdU rfl rfl rfl ?_
          refine TL.gdN rfl rfl rfl rfl ?_
          refine TL.gdN rfl rfl rfl rfl ?_
          refine TL.run (pr_pure rfl) rfl ?_
          refine TL.run (pr_pure rfl) rfl ?_
          refine TL.gdN rfl rfl rfl rfl ?_
          refine TL.gdN rfl rfl rfl rfl ?_
          refine TL.run (pr_pure rfl) rfl ?_
          refine TL.run (pr_pure rfl) rfl ?_
          refine TL.gdN rfl rfl rfl rfl ?_
          refine TL.gdN rfl rfl rfl rfl ?_
          refine TL.gdN rfl rfl rfl rfl ?_
          refine TL.gdN rfl rfl rfl rfl ?_
          refine TL.gdN rfl rfl rfl rfl ?_
          refine TL.gdU rfl rfl rfl ?_
          refine TL.gdN rfl rfl rfl rfl ?_
          refine TL.gdN rfl rfl rfl rfl ?_
          refine TL.run (pr_pure rfl) rfl ?_
          refine TL.run (pr_pure rfl) rfl ?_
          refine TL.gdN rfl rfl rfl rfl ?_
          refine TL.gdN rfl rfl rfl rfl ?_
          refine TL.run (pr_pure rfl) rfl ?_
          refine TL.run (pr_pure rfl) rfl ?_
          refine TL.gdN rfl rfl rfl rfl ?_
          refine TL.gdN rfl rfl rfl rfl ?_
          refine TL.gdN rfl rfl rfl rfl ?_
          refine TL.gdN rfl rfl rfl rfl ?_
          refine TL.gdN rfl rfl rfl rfl ?_
          refine TL.gdN rfl rfl rfl rfl ?_
          refine TL.run (pr_pure rfl) rfl ?_
          refine TL.run (pr_pure rfl) rfl ?_
          refine TL.gdN rfl rfl rfl rfl ?_
          refine TL.gdN rfl rfl rfl rfl ?_
          refine TL.run (pr_pure rfl) rfl ?_
          refine TL.run (pr_pure rfl) rfl ?_
          refine TL.gdN rfl rfl rfl rfl ?_
          refine TL.gdN rfl rfl rfl rfl ?_
          refine TL.run (pr_pure rfl) rfl ?_
          refine TL.run (pr_pure rfl) rfl ?_
          refine TL.nil ?_
          refine TX.seqN ?_
          refine TC.ret ?_
          exact TX.finS (.inr rfl) (results1 rfl (RVal.tmp rfl)) (congrArg Value.bool (by first | rfl | (simp_all [truthV]; done)))
      ·
        refine TC.skip ?_
        refine TX.seqN ?_
        refine TC.seq ?_
        refine TC.region ?_
        refine TL.run (pr_pure rfl) rfl ?_
        refine TL.run (pr_build rfl rfl) rfl ?_
        refine TL.run (pr_pure rfl) rfl ?_
        refine TL.run (pr_build rfl rfl) rfl ?_
        refine TL.bslice rfl rfl rfl rfl (fun b27 => ?_)
        refine TL.run (pr_pure rfl) rfl ?_
        refine TL.nil ?_
        refine TX.seqN ?_
        refine TC.seq ?_
        refine TC.region ?_
        refine TL.run (pr_pure rfl) rfl ?_
        refine TL.append (enc := Term.cells) rfl rfl rfl (OwnSl.nil (enc := Term.cells)) (Src.own [⟨_, _, _, _, _, _⟩, ⟨_, _, _, _, _, _⟩] (.here _) rfl rfl) (by decide) rfl (.new _ rfl) rfl (fun a30 c30 ob30 hO30 => ?_)
        refine TL.callS (enters rfl rfl rfl rfl) (two4_ok _ _ _) rfl ?_
        refine TL.bslice rfl rfl rfl rfl (fun b32 => ?_)
        refine TL.append (enc := Term.cells) rfl rfl rfl hO30 (Src.own [⟨_, _, _, _, _, _⟩] (.here _) rfl rfl) (by decide) rfl (.skip _ (.skip _ .all)) rfl (fun a33 c33 ob33 hO33 => ?_)
        refine TL.pubO hO33 (.skip _ (.skip _ .all)) (by simp) (fun HL leL hT => ?_)
        refine TL.call (enters rfl rfl rfl rfl) (Eval_ok 2 hT binds_nil EnvOk.nil lens_nil (by decide)) rfl (fun v34 H34 hle34 hp34 => ?_)
        replace hp34 := hp34.eq ((show evalS ([⟨2, [], 0, [], -1, -1⟩, ⟨2, [], 0, [], -1, -1⟩] ++ [twoT 13 0 1]) 2 [] = (truthV false, 0) by kernel_rfl))
        obtain ⟨lv34, rfl, hR34⟩ := hp34
        obtain ⟨la34, lc34, rfl⟩ := RdSl.len hR34
        refine TL.run (pr_pure rfl) rfl ?_
        refine TL.run (pr_pure rfl) rfl ?_
        refine TL.run (pr_pure rfl) rfl ?_
        refine TL.alloc rfl (fun b8 => ?_)
        refine TL.storeA rfl rfl rfl rfl rfl (.here _) rfl rfl ?_
        refine TL.run (pr_pure rfl) rfl ?_
        refine TL.nil ?_
        refine TX.seqN ?_
        refine TC.seq ?_
        refine TC.region ?_
        refine TL.run (pr_pure rfl) rfl ?_
        refine TL.append (enc := Term.cells) rfl rfl rfl (OwnSl.nil (enc := Term.cells)) (Src.own [⟨_, _, _, _, _, _⟩, ⟨_, _, _, _, _, _⟩] (.there _ (.there _ (.here _))) rfl rfl) (by decide) rfl (.new _ rfl) rfl (fun a39 c39 ob39 hO39 => ?_)
        refine TL.callS (enters rfl rfl rfl rfl) (two4_ok _ _ _) rfl ?_
        refine TL.bslice rfl rfl rfl rfl (fun b41 => ?_)
        refine TL.append (enc := Term.cells) rfl rfl rfl hO39 (Src.own [⟨_, _, _, _, _, _⟩] (.here _) rfl rfl) (by decide) rfl (.skip _ (.skip _ (.skip _ (.skip _ .all)))) rfl (fun a42 c42 ob42 hO42 => ?_)
        refine TL.pubO hO42 (.skip _ (.skip _ (.skip _ (.skip _ .all)))) (by simp) (fun HL leL hT => ?_)
        replace hR34 := hR34.le leL
        refine TL.call (enters rfl rfl rfl rfl) (Eval_ok 2 hT binds_nil EnvOk.nil lens_nil (by decide)) rfl (fun v43 H43 hle43 hp43 => ?_)
        replace hp43 := hp43.eq ((show evalS ([⟨2, [], 0, [], -1, -1⟩, ⟨2, [], 0, [], -1, -1⟩] ++ [twoT 14 0 1]) 2 [] = (truthV false, 0) by kernel_rfl))
        obtain ⟨lv43, rfl, hR43⟩ := hp43
        replace hR34 := hR34.le hle43
        obtain ⟨la43, lc43, rfl⟩ := RdSl.len hR43
        refine TL.run (pr_pure rfl) rfl ?_
        refine TL.run (pr_pure rfl) rfl ?_
        refine TL.run (pr_pure rfl) rfl ?_
        refine TL.alloc rfl (fun b10 => ?_)
        refine TL.storeA rfl rfl rfl rfl rfl (.here _) rfl rfl ?_
        refine TL.run (pr_pure rfl) rfl ?_
        refine TL.nil ?_
        refine TX.seqN ?_
        refine TC.seq ?_
        refine TC.region ?_
        refine TL.run (pr_pure rfl) rfl ?_
        refine TL.run (pr_index rfl rfl (by omega) (by omega)) rfl ?_
        refine TL.run (pr_ownQ rfl (.there _ (.there _ (.there _ (.there _ (.here _))))) rfl) rfl ?_
        refine TL.run (pr_build rfl rfl) rfl ?_
        refine TL.bslice rfl rfl rfl rfl (fun b51 => ?_)
        refine TL.pub (by simp) (fun H_b51 le_b51 rd_b51 => ?_)
        replace hR34 := hR34.le le_b51
        replace hR43 := hR43.le le_b51
        have hT : RdSl H_b51 6 Term.cells _ ([⟨2, [], 0, [], -1, -1⟩, ⟨15, [], 0, [], 0, -1⟩]) := RdSl.blk (cap := 2) rd_b51 (by intro x hx; rfl) (by kernel_rfl) (by show 2 ≤ 9223372036854775807; decide)
        clear rd_b51
        refine TL.call (enters rfl rfl rfl rfl) (Eval_ok 1 hT binds_nil EnvOk.nil lens_nil (by decide)) rfl (fun v52 H52 hle52 hp52 => ?_)
        replace hp52 := hp52.eq ((show evalS ([⟨2, [], 0, [], -1, -1⟩, ⟨15, [], 0, [], 0, -1⟩]) 1 [] = (truthV true, 0) by kernel_rfl))
        obtain ⟨lv52, rfl, hR52⟩ := hp52
        replace hR34 := hR34.le hle52
        replace hR43 := hR43.le hle52
        obtain ⟨la52, lc52, rfl⟩ := RdSl.len hR52
        refine TL.run (pr_pure rfl) rfl ?_
        refine TL.run (pr_pure rfl) rfl ?_
        refine TL.run (pr_pure rfl) rfl ?_
        refine TL.alloc rfl (fun b12 => ?_)
        refine TL.storeA rfl rfl rfl rfl rfl (.here _) rfl rfl ?_
        refine TL.run (pr_pure rfl) rfl ?_
        refine TL.nil ?_
        refine TX.seqN ?_
        refine TC.seq ?_
        refine TC.drawn (by kernel_rfl) (by kernel_rfl) ?_
        refine TD.leaf [(0, 1), (1, 1), (2, 2), (3, 3), (4, 3), (5, 3), (6, 3), (7, 3), (8, 3), (9, 3), (10, 1)] (by kernel_rfl) (by kernel_rfl) ?_
        refine TF.pure (pr_pure rfl) rfl ?_
        refine TF.pure (pr_index rfl rfl (by omega) (by omega)) rfl ?_
        refine TF.still (pr_ownQ rfl (.there _ (.there _ (.there _ (.there _ (.there _ (.here _)))))) rfl) rfl ?_
        refine TF.callS (enters rfl rfl rfl rfl) (num4_ok _) rfl ?_
        refine TF.callS (enters rfl rfl rfl rfl) (num4_ok _) rfl ?_
        refine TF.callS (enters rfl rfl rfl rfl) (two4_ok _ _ _) rfl ?_
        refine TF.callS (enters rfl rfl rfl rfl) (num4_ok _) rfl ?_
        refine TF.callS (enters rfl rfl rfl rfl) (two4_ok _ _ _) rfl ?_
        refine TF.callS (enters rfl rfl rfl rfl) (two4_ok _ _ _) rfl ?_
        refine TF.bslice rfl rfl rfl rfl (fun b64 => ?_)
        refine TF.pure (pr_pure rfl) rfl ?_
        refine TF.nil ?_
        refine TX.seqN ?_
        refine TC.seq ?_
        refine TC.region ?_
        refine TL.run (pr_pure rfl) rfl ?_
        refine TL.callLend (by simp) (enters rfl rfl rfl rfl) (fun H2 le2 rd2 => Eval_ok (l := [⟨2, [], 0, [], -1, -1⟩, numT 1, numT 0, twoT 9 1 2, numT 3, twoT 11 3 4, twoT 13 0 5]) 6 (RdSl.blk (l := [⟨2, [], 0, [], -1, -1⟩, numT 1, numT 0, twoT 9 1 2, numT 3, twoT 11 3 4, twoT 13 0 5]) (cap := 7) rd2 (by intro x hx; rfl) (by kernel_rfl) (show 7 ≤ 9223372036854775807 by decide)) binds_nil EnvOk.nil lens_nil (by decide)) rfl (fun v67 H67 hle67 hp67 => ?_)
        obtain ⟨H67x, hl67x, hp67⟩ := hp67
        replace hp67 := hp67.eq (show evalS ([⟨2, [], 0, [], -1, -1⟩, numT 1, numT 0, twoT 9 1 2, numT 3, twoT 11 3 4, twoT 13 0 5]) 6 [] = (v0, 403) by kernel_rfl)
        obtain ⟨lv67, rfl, hR67⟩ := hp67
        obtain ⟨la67, lc67, rfl⟩ := RdSl.len hR67
        replace hR34 := hR34.le hle67
        replace hR43 := hR43.le hle67
        replace hR52 := hR52.le hle67
        refine TL.run (pr_pure rfl) rfl ?_
        refine TL.run (pr_pure rfl) rfl ?_
        refine TL.run (pr_pure rfl) rfl ?_
        refine TL.alloc rfl (fun b15 => ?_)
        refine TL.storeA rfl rfl rfl rfl rfl (.here _) rfl rfl ?_
        refine TL.run (pr_pure rfl) rfl ?_
        refine TL.nil ?_
        refine TX.seqN ?_
        refine TC.seq ?_
        refine TC.region ?_
        refine TL.run (pr_pure rfl) rfl ?_
        refine TL.run (pr_index rfl rfl (by omega) (by omega)) rfl ?_
        refine TL.run (pr_field rfl) rfl ?_
        refine TL.store1 rfl rfl rfl (.there _ (.here _)) rfl rfl ?_
        refine TL.nil ?_
        refine TX.seqN ?_
        refine TC.seq ?_
        refine TC.region ?_
        refine TL.run (pr_pure rfl) rfl ?_
        refine TL.front (.there _ (.here _)) ?_
        refine TL.pub (by simp) (fun H_b64 le_b64 rd_b64 => ?_)
        replace hR34 := hR34.le le_b64
        replace hR43 := hR43.le le_b64
        replace hR52 := hR52.le le_b64
        have hT : RdSl H_b64 6 Term.cells _ ([⟨2, [], 0, [], -1, -1⟩, numT 1, numT 0, twoT 9 1 2, numT 3, twoT 11 3 4, twoT 14 0 5]) := RdSl.blk (cap := 7) rd_b64 (by intro x hx; rfl) (by kernel_rfl) (by show 7 ≤ 9223372036854775807; decide)
        clear rd_b64
        refine TL.call (enters rfl rfl rfl rfl) (Eval_ok 6 hT binds_nil EnvOk.nil lens_nil (by decide)) rfl (fun v75 H75 hle75 hp75 => ?_)
        replace hp75 := hp75.eq ((show evalS ([⟨2, [], 0, [], -1, -1⟩, numT 1, numT 0, twoT 9 1 2, numT 3, twoT 11 3 4, twoT 14 0 5]) 6 [] = (v0, 403) by kernel_rfl))
        obtain ⟨lv75, rfl, hR75⟩ := hp75
        replace hR34 := hR34.le hle75
        replace hR43 := hR43.le hle75
        replace hR52 := hR52.le hle75
        obtain ⟨la75, lc75, rfl⟩ := RdSl.len hR75
        refine TL.run (pr_pure rfl) rfl ?_
        refine TL.run (pr_pure rfl) rfl ?_
        refine TL.run (pr_pure rfl) rfl ?_
        refine TL.alloc rfl (fun b17 => ?_)
        refine TL.storeA rfl rfl rfl rfl rfl (.here _) rfl rfl ?_
        refine TL.run (pr_pure rfl) rfl ?_
        refine TL.nil ?_
        refine TX.seqN ?_
        refine TC.seq ?_
        refine TC.region ?_
        refine TL.run (pr_pure rfl) rfl ?_
        refine TL.run (pr_pure rfl) rfl ?_
        refine TL.run (pr_pure rfl) rfl ?_
        refine TL.split (s := 80) rfl (fun g80 => ?_) (fun g80 => ?_)
        ·
          have q80 := of_decide_eq_true g80
          refine TL.gdY rfl rfl (pr_field rfl) rfl ?_
          refine TL.gdY rfl rfl (pr_own1 rfl (.there _ (.there _ (.there _ (.there _ (.there _ (.here _)))))) rfl) rfl ?_
          refine TL.gdY rfl rfl (pr_pure rfl) rfl ?_
          refine TL.gdY rfl rfl (pr_pure rfl) rfl ?_
          refine TL.gdY rfl rfl (pr_pure rfl) rfl ?_
          refine TL.split (s := 85) rfl (fun g85 => ?_) (fun g85 => ?_)
          ·
            refine TL.gdY rfl rfl (pr_pure rfl) rfl ?_
            refine TL.gdY rfl rfl (pr_pure rfl) rfl ?_
            refine TL.gdY rfl rfl (pr_bool rfl rfl rfl) rfl ?_
            refine TL.run (pr_pure rfl) rfl ?_
            refine TL.run (pr_pure rfl) rfl ?_
            refine TL.split (s := 90) rfl (fun g90 => ?_) (fun g90 => ?_)
            ·
              have q90 := of_decide_eq_true g90
              refine TL.gdY rfl rfl (pr_pure rfl) rfl ?_
              refine TL.gdY rfl rfl (pr_pure rfl) rfl ?_
              refine TL.run (pr_pure rfl) rfl ?_
              refine TL.run (pr_pure rfl) rfl ?_
              refine TL.split (s := 94) rfl (fun g94 => ?_) (fun g94 => ?_)
              ·
                have q94 := of_decide_eq_true g94
                refine TL.gdY rfl rfl (pr_field rfl) rfl ?_
                refine TL.gdY rfl rfl (pr_own1 rfl (.there _ (.there _ (.there _ (.here _)))) rfl) rfl ?_
                refine TL.gdY rfl rfl (pr_pure rfl) rfl ?_
                refine TL.gdY rfl rfl (pr_pure rfl) rfl ?_
                refine TL.gdY rfl rfl (pr_pure rfl) rfl ?_
                refine TL.split (s := 99) rfl (fun g99 => ?_) (fun g99 => ?_)
                ·
                  refine TL.gdN rfl rfl rfl rfl ?_
                  refine TL.gdY rfl rfl (pr_pure rfl) rfl ?_
                  refine TL.gdY rfl rfl (pr_bool rfl rfl rfl) rfl ?_
                  refine TL.run (pr_pure rfl) rfl ?_
                  refine TL.run (pr_pure rfl) rfl ?_
                  refine TL.split (s := 104) rfl (fun g104 => ?_) (fun g104 => ?_)
                  ·
                    have q104 := of_decide_eq_true g104
                    refine TL.gdY rfl rfl (pr_pure rfl) rfl ?_
                    refine TL.gdY rfl rfl (pr_pure rfl) rfl ?_
                    refine TL.run (pr_pure rfl) rfl ?_
                    refine TL.run (pr_pure rfl) rfl ?_
                    refine TL.split (s := 108) rfl (fun g108 => ?_) (fun g108 => ?_)
                    ·
                      have q108 := of_decide_eq_true g108
                      refine TL.gdY rfl rfl (pr_field rfl) rfl ?_
                      refine TL.gdY rfl rfl (pr_own1 rfl (.there _ (.there _ (.here _))) rfl) rfl ?_
                      refine TL.gdY rfl rfl (pr_pure rfl) rfl ?_
                      refine TL.gdY rfl rfl (pr_pure rfl) rfl ?_
                      refine TL.gdY rfl rfl (pr_pure rfl) rfl ?_
                      refine TL.gdY rfl rfl (pr_bool rfl rfl rfl) rfl ?_
                      refine TL.run (pr_pure rfl) rfl ?_
                      refine TL.run (pr_pure rfl) rfl ?_
                      refine TL.split (s := 116) rfl (fun g116 => ?_) (fun g116 => ?_)
                      ·
                        have q116 := of_decide_eq_true g116
                        refine TL.gdY rfl rfl (pr_pure rfl) rfl ?_
                        refine TL.gdY rfl rfl (pr_pure rfl) rfl ?_
                        refine TL.run (pr_pure rfl) rfl ?_
                        refine TL.run (pr_pure rfl) rfl ?_
                        refine TL.split (s := 120) rfl (fun g120 => ?_) (fun g120 => ?_)
                        ·
                          have q120 := of_decide_eq_true g120
                          refine TL.gdY rfl rfl (pr_pure rfl) rfl ?_
                          refine TL.gdY rfl rfl (pr_pure rfl) rfl ?_
                          refine TL.run (pr_pure rfl) rfl ?_
                          refine TL.run (pr_pure rfl) rfl ?_
                          refine TL.nil ?_
                          refine TX.seqN ?_
                          refine TC.ret ?_
                          exact TX.finS (.inr rfl) (results1 rfl (RVal.tmp rfl)) (congrArg Value.bool (by first | rfl | (simp_all [truthV]; done)))
                        ·
                          have q120 := of_decide_eq_false g120
                          refine TL.gdN rfl rfl rfl rfl ?_
                          refine TL.gdN rfl rfl rfl rfl ?_
                          refine TL.run (pr_pure rfl) rfl ?_
                          refine TL.run (pr_pure rfl) rfl ?_
                          refine TL.nil ?_
                          refine TX.seqN ?_
                          refine TC.ret ?_
                          exact TX.finS (.inr rfl) (results1 rfl (RVal.tmp rfl)) (congrArg Value.bool (by first | rfl | (simp_all [truthV]; done)))
                      ·
                        have q116 := of_decide_eq_false g116
                        refine TL.gdN rfl rfl rfl rfl ?_
                        refine TL.gdN rfl rfl rfl rfl ?_
                        refine TL.run (pr_pure rfl) rfl ?_
                        refine TL.run (pr_pure rfl) rfl ?_
                        refine TL.gdN rfl rfl rfl rfl ?_
                        refine TL.gdN rfl rfl rfl rfl ?_
                        refine TL.run (pr_pure rfl) rfl ?_
                        refine TL.run (pr_pure rfl) rfl ?_
                        refine TL.nil ?_
                        refine TX.seqN ?_
                        refine TC.ret ?_
                        exact TX.finS (.inr rfl) (results1 rfl (RVal.tmp rfl)) (congrArg Value.bool (by first | rfl | (simp_all [truthV]; done)))
                    ·
                      have q108 := of_decide_eq_false g108
                      refine TL.gdN rfl rfl rfl rfl ?_
                      refine TL.gdN rfl rfl rfl rfl ?_
                      refine TL.gdN rfl rfl rfl rfl ?_
                      refine TL.gdN rfl rfl rfl rfl ?_
                      refine TL.gdN rfl rfl rfl rfl ?_
                      refine TL.gdN rfl rfl rfl rfl ?_
                      refine TL.run (pr_pure rfl) rfl ?_
                      refine TL.run (pr_pure rfl) rfl ?_
                      refine TL.gdN rfl rfl rfl rfl ?_
                      refine TL.gdN rfl rfl rfl rfl ?_
                      refine TL.run (pr_pure rfl) rfl ?_
                      refine TL.run (pr_pure rfl) rfl ?_
                      refine TL.gdN rfl rfl rfl rfl ?_
                      refine TL.gdN rfl rfl rfl rfl ?_
                      refine TL.run (pr_pure rfl) rfl ?_
                      refine TL.run (pr_pure rfl) rfl ?_
                      refine TL.nil ?_
                      refine TX.seqN ?_
                      refine TC.ret ?_
                      exact TX.finS (.inr rfl) (results1 rfl (RVal.tmp rfl)) (congrArg Value.bool (by first | rfl | (simp_all [truthV]; done)))
                  ·
                    have q104 := of_decide_eq_false g104
                    refine TL.gdN rfl rfl rfl rfl ?_
                    refine TL.gdN rfl rfl rfl rfl ?_
                    refine TL.run (pr_pure rfl) rfl ?_
                    refine TL.run (pr_pure rfl) rfl ?_
                    refine TL.gdN rfl rfl rfl rfl ?_
                    refine TL.gdN rfl rfl rfl rfl ?_
                    refine TL.gdN rfl rfl rfl rfl ?_
                    refine TL.gdN rfl rfl rfl rfl ?_
                    refine TL.gdN rfl rfl rfl rfl ?_
                    refine TL.gdN rfl rfl rfl rfl ?_
                    refine TL.run (pr_pure rfl) rfl ?_
                    refine TL.run (pr_pure rfl) rfl ?_
                    refine TL.gdN rfl rfl rfl rfl ?_
                    refine TL.gdN rfl rfl rfl rfl ?_
                    refine TL.run (pr_pure rfl) rfl ?_
                    refine TL.run (pr_pure rfl) rfl ?_
                    refine TL.gdN rfl rfl rfl rfl ?_
                    refine TL.gdN rfl rfl rfl rfl ?_
                    refine TL.run (pr_pure rfl) rfl ?_
                    refine TL.run (pr_pure rfl) rfl ?_
                    refine TL.nil ?_
                    refine TX.seqN ?_
                    refine TC.ret ?_
                    exact TX.finS (.inr rfl) (results1 rfl (RVal.tmp rfl)) (congrArg Value.bool (by first | rfl | (simp_all [truthV]; done)))
                ·
                  refine TL.gdY rfl rfl (pr_pure rfl) rfl ?_
                  refine TL.gdY rfl rfl (pr_pure rfl) rfl ?_
                  refine TL.gdY rfl rfl (pr_bool rfl rfl rfl) rfl ?_
                  refine TL.run (pr_pure rfl) rfl ?_
                  refine TL.run (pr_pure rfl) rfl ?_
                  refine TL.split (s := 104) rfl (fun g104 => ?_) (fun g104 => ?_)
                  ·
                    have q104 := of_decide_eq_true g104
                    refine TL.gdY rfl rfl (pr_pure rfl) rfl ?_
                    refine TL.gdY rfl rfl (pr_pure rfl) rfl ?_
                    refine TL.run (pr_pure rfl) rfl ?_
                    refine TL.run (pr_pure rfl) rfl ?_
                    refine TL.split (s := 108) rfl (fun g108 => ?_) (fun g108 => ?_)
                    ·
                      have q108 := of_decide_eq_true g108
                      refine TL.gdY rfl rfl (pr_field rfl) rfl ?_
                      refine TL.gdY rfl rfl (pr_own1 rfl (.there _ (.there _ (.here _))) rfl) rfl ?_
                      refine TL.gdY rfl rfl (pr_pure rfl) rfl ?_
                      refine TL.gdY rfl rfl (pr_pure rfl) rfl ?_
                      refine TL.gdY rfl rfl (pr_pure rfl) rfl ?_
                      refine TL.gdY rfl rfl (pr_bool rfl rfl rfl) rfl ?_
                      refine TL.run (pr_pure rfl) rfl ?_
                      refine TL.run (pr_pure rfl) rfl ?_
                      refine TL.split (s := 116) rfl (fun g116 => ?_) (fun g116 => ?_)
                      ·
                        have q116 := of_decide_eq_true g116
                        refine TL.gdY rfl rfl (pr_pure rfl) rfl ?_
                        refine TL.gdY rfl rfl (pr_pure rfl) rfl ?_
                        refine TL.run (pr_pure rfl) rfl ?_
                        refine TL.run (pr_pure rfl) rfl ?_
                        refine TL.split (s := 120) rfl (fun g120 => ?_) (fun g120 => ?_)
                        ·
                          have q120 := of_decide_eq_true g120
                          refine TL.gdY rfl rfl (pr_pure rfl) rfl ?_
                          refine TL.gdY rfl rfl (pr_pure rfl) rfl ?_
                          refine TL.run (pr_pure rfl) rfl ?_
                          refine TL.run (pr_pure rfl) rfl ?_
                          refine TL.nil ?_
                          refine TX.seqN ?_
                          refine TC.ret ?_
                          exact TX.finS (.inr rfl) (results1 rfl (RVal.tmp rfl)) (congrArg Value.bool (by first | rfl | (simp_all [truthV]; done)))
                        ·
                          have q120 := of_decide_eq_false g120
                          refine TL.gdN rfl rfl rfl rfl ?_
                          refine TL.gdN rfl rfl rfl rfl ?_
                          refine TL.run (pr_pure rfl) rfl ?_
                          refine TL.run (pr_pure rfl) rfl ?_
                          refine TL.nil ?_
                          refine TX.seqN ?_
                          refine TC.ret ?_
                          exact TX.finS (.inr rfl) (results1 rfl (RVal.tmp rfl)) (congrArg Value.bool (by first | rfl | (simp_all [truthV]; done)))
                      ·
                        have q116 := of_decide_eq_false g116
                        refine TL.gdN rfl rfl rfl rfl ?_
                        refine TL.gdN rfl rfl rfl rfl ?_
                        refine TL.run (pr_pure rfl) rfl ?_
                        refine TL.run (pr_pure rfl) rfl ?_
                        refine TL.gdN rfl rfl rfl rfl ?_
                        refine TL.gdN rfl rfl rfl rfl ?_
                        refine TL.run (pr_pure rfl) rfl ?_
                        refine TL.run (pr_pure rfl) rfl ?_
                        refine TL.nil ?_
                        refine TX.seqN ?_
                        refine TC.ret ?_
                        exact TX.finS (.inr rfl) (results1 rfl (RVal.tmp rfl)) (congrArg Value.bool (by first | rfl | (simp_all [truthV]; done)))
                    ·
                      have q108 := of_decide_eq_false g108
                      refine TL.gdN rfl rfl rfl rfl ?_
                      refine TL.gdN rfl rfl rfl rfl ?_
                      refine TL.gdN rfl rfl rfl rfl ?_
                      refine TL.gdN rfl rfl rfl rfl ?_
                      refine TL.gdN rfl rfl rfl rfl ?_
                      refine TL.gdN rfl rfl rfl rfl ?_
                      refine TL.run (pr_pure rfl) rfl ?_
                      refine TL.run (pr_pure rfl) rfl ?_
                      refine TL.gdN rfl rfl rfl rfl ?_
                      refine TL.gdN rfl rfl rfl rfl ?_
                      refine TL.run (pr_pure rfl) rfl ?_
                      refine TL.run (pr_pure rfl) rfl ?_
                      refine TL.gdN rfl rfl rfl rfl ?_
                      refine TL.gdN rfl rfl rfl rfl ?_
                      refine TL.run (pr_pure rfl) rfl ?_
                      refine TL.run (pr_pure rfl) rfl ?_
                      refine TL.nil ?_
                      refine TX.seqN ?_
                      refine TC.ret ?_
                      exact TX.finS (.inr rfl) (results1 rfl (RVal.tmp rfl)) (congrArg Value.bool (by first | rfl | (simp_all [truthV]; done)))
                  ·
                    have q104 := of_decide_eq_false g104
                    refine TL.gdN rfl rfl rfl rfl ?_
                    refine TL.gdN rfl rfl rfl rfl ?_
                    refine TL.run (pr_pure rfl) rfl ?_
                    refine TL.run (pr_pure rfl) rfl ?_
                    refine TL.gdN rfl rfl rfl rfl ?_
                    refine TL.gdN rfl rfl rfl rfl ?_
                    refine TL.gdN rfl rfl rfl rfl ?_
                    refine TL.gdN rfl rfl rfl rfl ?_
                    refine TL.gdN rfl rfl rfl rfl ?_
                    refine TL.gdN rfl rfl rfl rfl ?_
                    refine TL.run (pr_pure rfl) rfl ?_
                    refine TL.run (pr_pure rfl) rfl ?_
                    refine TL.gdN rfl rfl rfl rfl ?_
                    refine TL.gdN rfl rfl rfl rfl ?_
                    refine TL.run (pr_pure rfl) rfl ?_
                    refine TL.run (pr_pure rfl) rfl ?_
                    refine TL.gdN rfl rfl rfl rfl ?_
                    refine TL.gdN rfl rfl rfl rfl ?_
                    refine TL.run (pr_pure rfl) rfl ?_
                    refine TL.run (pr_pure rfl) rfl ?_
                    refine TL.nil ?_
                    refine TX.seqN ?_
                    refine TC.ret ?_
                    exact TX.finS (.inr rfl) (results1 rfl (RVal.tmp rfl)) (congrArg Value.bool (by first | rfl | (simp_all [truthV]; done)))
              ·
                have q94 := of_decide_eq_false g94
                refine TL.gdN rfl rfl rfl rfl ?_
                refine TL.gdN rfl rfl rfl rfl ?_
                refine TL.gdN rfl rfl rfl rfl ?_
                refine TL.gdN rfl rfl rfl rfl ?_
                refine TL.gdN rfl rfl rfl rfl ?_
                refine TL.gdU rfl rfl rfl ?_
                refine TL.gdN rfl rfl rfl rfl ?_
                refine TL.gdN rfl rfl rfl rfl ?_
                refine TL.run (pr_pure rfl) rfl ?_
                refine TL.run (pr_pure rfl) rfl ?_
                refine TL.gdN rfl rfl rfl rfl ?_
                refine TL.gdN rfl rfl rfl rfl ?_
                refine TL.run (pr_pure rfl) rfl ?_
                refine TL.run (pr_pure rfl) rfl ?_
                refine TL.gdN rfl rfl rfl rfl ?_
                refine TL.gdN rfl rfl rfl rfl ?_
                refine TL.gdN rfl rfl rfl rfl ?_
                refine TL.gdN rfl rfl rfl rfl ?_
                refine TL.gdN rfl rfl rfl rfl ?_
                refine TL.gdN rfl rfl rfl rfl ?_
                refine TL.run (pr_pure rfl) rfl ?_
                refine TL.run (pr_pure rfl) rfl ?_
                refine TL.gdN rfl rfl rfl rfl ?_
                refine TL.gdN rfl rfl rfl rfl ?_
                refine TL.run (pr_pure rfl) rfl ?_
                refine TL.run (pr_pure rfl) rfl ?_
                refine TL.gdN rfl rfl rfl rfl ?_
                refine TL.gdN rfl rfl rfl rfl ?_
                refine TL.run (pr_pure rfl) rfl ?_
                refine TL.run (pr_pure rfl) rfl ?_
                refine TL.nil ?_
                refine TX.seqN ?_
                refine TC.ret ?_
                exact TX.finS (.inr rfl) (results1 rfl (RVal.tmp rfl)) (congrArg Value.bool (by first | rfl | (simp_all [truthV]; done)))
            ·
              have q90 := of_decide_eq_false g90
              refine TL.gdN rfl rfl rfl rfl ?_
              refine TL.gdN rfl rfl rfl rfl ?_
              refine TL.run (pr_pure rfl) rfl ?_
              refine TL.run (pr_pure rfl) rfl ?_
              refine TL.gdN rfl rfl rfl rfl ?_
              refine TL.gdN rfl rfl rfl rfl ?_
              refine TL.gdN rfl rfl rfl rfl ?_
              refine TL.gdN rfl rfl rfl rfl ?_
              refine TL.gdN rfl rfl rfl rfl ?_
              refine TL.gdU rfl rfl rfl ?_
              refine TL.gdN rfl rfl rfl rfl ?_
              refine TL.gdN rfl rfl rfl rfl ?_
              refine TL.run (pr_pure rfl) rfl ?_
              refine TL.run (pr_pure rfl) rfl ?_
              refine TL.gdN rfl rfl rfl rfl ?_
              refine TL.gdN rfl rfl rfl rfl ?_
              refine TL.run (pr_pure rfl) rfl ?_
              refine TL.run (pr_pure rfl) rfl ?_
              refine TL.gdN rfl rfl rfl rfl ?_
              refine TL.gdN rfl rfl rfl rfl ?_
              refine TL.gdN rfl rfl rfl rfl ?_
              refine TL.gdN rfl rfl rfl rfl ?_
              refine TL.gdN rfl rfl rfl rfl ?_
              refine TL.gdN rfl rfl rfl rfl ?_
              refine TL.run (pr_pure rfl) rfl ?_
              refine TL.run (pr_pure rfl) rfl ?_
              refine TL.gdN rfl rfl rfl rfl ?_
              refine TL.gdN rfl rfl rfl rfl ?_
              refine TL.run (pr_pure rfl) rfl ?_
              refine TL.run (pr_pure rfl) rfl ?_
              refine TL.gdN rfl rfl rfl rfl ?_
              refine TL.gdN rfl rfl rfl rfl ?_
              refine TL.run (pr_pure rfl) rfl ?_
              refine TL.run (pr_pure rfl) rfl ?_
              refine TL.nil ?_
              refine TX.seqN ?_
              refine TC.ret ?_
              exact TX.finS (.inr rfl) (results1 rfl (RVal.tmp rfl)) (congrArg Value.bool (by first | rfl | (simp_all [truthV]; done)))
          ·
            refine TL.gdN rfl rfl rfl rfl ?_
            refine TL.gdY rfl rfl (pr_pure rfl) rfl ?_
            refine TL.gdY rfl rfl (pr_bool rfl rfl rfl) rfl ?_
            refine TL.run (pr_pure rfl) rfl ?_
            refine TL.run (pr_pure rfl) rfl ?_
            refine TL.split (s := 90) rfl (fun g90 => ?_) (fun g90 => ?_)
            ·
              have q90 := of_decide_eq_true g90
              refine TL.gdY rfl rfl (pr_pure rfl) rfl ?_
              refine TL.gdY rfl rfl (pr_pure rfl) rfl ?_
              refine TL.run (pr_pure rfl) rfl ?_
              refine TL.run (pr_pure rfl) rfl ?_
              refine TL.split (s := 94) rfl (fun g94 => ?_) (fun g94 => ?_)
              ·
                have q94 := of_decide_eq_true g94
                refine TL.gdY rfl rfl (pr_field rfl) rfl ?_
                refine TL.gdY rfl rfl (pr_own1 rfl (.there _ (.there _ (.there _ (.here _)))) rfl) rfl ?_
                refine TL.gdY rfl rfl (pr_pure rfl) rfl ?_
                refine TL.gdY rfl rfl (pr_pure rfl) rfl ?_
                refine TL.gdY rfl rfl (pr_pure rfl) rfl ?_
                refine TL.split (s := 99) rfl (fun g99 => ?_) (fun g99 => ?_)
                ·
                  refine TL.gdN rfl rfl rfl rfl ?_
                  refine TL.gdY rfl rfl (pr_pure rfl) rfl ?_
                  refine TL.gdY rfl rfl (pr_bool rfl rfl rfl) rfl ?_
                  refine TL.run (pr_pure rfl) rfl ?_
                  refine TL.run (pr_pure rfl) rfl ?_
                  refine TL.split (s := 104) rfl (fun g104 => ?_) (fun g104 => ?_)
                  ·
                    have q104 := of_decide_eq_true g104
                    refine TL.gdY rfl rfl (pr_pure rfl) rfl ?_
                    refine TL.gdY rfl rfl (pr_pure rfl) rfl ?_
                    refine TL.run (pr_pure rfl) rfl ?_
                    refine TL.run (pr_pure rfl) rfl ?_
                    refine TL.split (s := 108) rfl (fun g108 => ?_) (fun g108 => ?_)
                    ·
                      have q108 := of_decide_eq_true g108
                      refine TL.gdY rfl rfl (pr_field rfl) rfl ?_
                      refine TL.gdY rfl rfl (pr_own1 rfl (.there _ (.there _ (.here _))) rfl) rfl ?_
                      refine TL.gdY rfl rfl (pr_pure rfl) rfl ?_
                      refine TL.gdY rfl rfl (pr_pure rfl) rfl ?_
                      refine TL.gdY rfl rfl (pr_pure rfl) rfl ?_
                      refine TL.gdY rfl rfl (pr_bool rfl rfl rfl) rfl ?_
                      refine TL.run (pr_pure rfl) rfl ?_
                      refine TL.run (pr_pure rfl) rfl ?_
                      refine TL.split (s := 116) rfl (fun g116 => ?_) (fun g116 => ?_)
                      ·
                        have q116 := of_decide_eq_true g116
                        refine TL.gdY rfl rfl (pr_pure rfl) rfl ?_
                        refine TL.gdY rfl rfl (pr_pure rfl) rfl ?_
                        refine TL.run (pr_pure rfl) rfl ?_
                        refine TL.run (pr_pure rfl) rfl ?_
                        refine TL.split (s := 120) rfl (fun g120 => ?_) (fun g120 => ?_)
                        ·
                          have q120 := of_decide_eq_true g120
                          refine TL.gdY rfl rfl (pr_pure rfl) rfl ?_
                          refine TL.gdY rfl rfl (pr_pure rfl) rfl ?_
                          refine TL.run (pr_pure rfl) rfl ?_
                          refine TL.run (pr_pure rfl) rfl ?_
                          refine TL.nil ?_
                          refine TX.seqN ?_
                          refine TC.ret ?_
                          exact TX.finS (.inr rfl) (results1 rfl (RVal.tmp rfl)) (congrArg Value.bool (by first | rfl | (simp_all [truthV]; done)))
                        ·
                          have q120 := of_decide_eq_false g120
                          refine TL.gdN rfl rfl rfl rfl ?_
                          refine TL.gdN rfl rfl rfl rfl ?_
                          refine TL.run (pr_pure rfl) rfl ?_
                          refine TL.run (pr_pure rfl) rfl ?_
                          refine TL.nil ?_
                          refine TX.seqN ?_
                          refine TC.ret ?_
                          exact TX.finS (.inr rfl) (results1 rfl (RVal.tmp rfl)) (congrArg Value.bool (by first | rfl | (simp_all [truthV]; done)))
                      ·
                        have q116 := of_decide_eq_false g116
                        refine TL.gdN rfl rfl rfl rfl ?_
                        refine TL.gdN rfl rfl rfl rfl ?_
                        refine TL.run (pr_pure rfl) rfl ?_
                        refine TL.run (pr_pure rfl) rfl ?_
                        refine TL.gdN rfl rfl rfl rfl ?_
                        refine TL.gdN rfl rfl rfl rfl ?_
                        refine TL.run (pr_pure rfl) rfl ?_
                        refine TL.run (pr_pure rfl) rfl ?_
                        refine TL.nil ?_
                        refine TX.seqN ?_
                        refine TC.ret ?_
                        exact TX.finS (.inr rfl) (results1 rfl (RVal.tmp rfl)) (congrArg Value.bool (by first | rfl | (simp_all [truthV]; done)))
                    ·
                      have q108 := of_decide_eq_false g108
                      refine TL.gdN rfl rfl rfl rfl ?_
                      refine TL.gdN rfl rfl rfl rfl ?_
                      refine TL.gdN rfl rfl rfl rfl ?_
                      refine TL.gdN rfl rfl rfl rfl ?_
                      refine TL.gdN rfl rfl rfl rfl ?_
                      refine TL.gdN rfl rfl rfl rfl ?_
                      refine TL.run (pr_pure rfl) rfl ?_
                      refine TL.run (pr_pure rfl) rfl ?_
                      refine TL.gdN rfl rfl rfl rfl ?_
                      refine TL.gdN rfl rfl rfl rfl ?_
                      refine TL.run (pr_pure rfl) rfl ?_
                      refine TL.run (pr_pure rfl) rfl ?_
                      refine TL.gdN rfl rfl rfl rfl ?_
                      refine TL.gdN rfl rfl rfl rfl ?_
                      refine TL.run (pr_pure rfl) rfl ?_
                      refine TL.run (pr_pure rfl) rfl ?_
                      refine TL.nil ?_
                      refine TX.seqN ?_
                      refine TC.ret ?_
                      exact TX.finS (.inr rfl) (results1 rfl (RVal.tmp rfl)) (congrArg Value.bool (by first | rfl | (simp_all [truthV]; done)))
                  ·
                    have q104 := of_decide_eq_false g104
                    refine TL.gdN rfl rfl rfl rfl ?_
                    refine TL.gdN rfl rfl rfl rfl ?_
                    refine TL.run (pr_pure rfl) rfl ?_
                    refine TL.run (pr_pure rfl) rfl ?_
                    refine TL.gdN rfl rfl rfl rfl ?_
                    refine TL.gdN rfl rfl rfl rfl ?_
                    refine TL.gdN rfl rfl rfl rfl ?_
                    refine TL.gdN rfl rfl rfl rfl ?_
                    refine TL.gdN rfl rfl rfl rfl ?_
                    refine TL.gdN rfl rfl rfl rfl ?_
                    refine TL.run (pr_pure rfl) rfl ?_
                    refine TL.run (pr_pure rfl) rfl ?_
                    refine TL.gdN rfl rfl rfl rfl ?_
                    refine TL.gdN rfl rfl rfl rfl ?_
                    refine TL.run (pr_pure rfl) rfl ?_
                    refine TL.run (pr_pure rfl) rfl ?_
                    refine TL.gdN rfl rfl rfl rfl ?_
                    refine TL.gdN rfl rfl rfl rfl ?_
                    refine TL.run (pr_pure rfl) rfl ?_
                    refine TL.run (pr_pure rfl) rfl ?_
                    refine TL.nil ?_
                    refine TX.seqN ?_
                    refine TC.ret ?_
                    exact TX.finS (.inr rfl) (results1 rfl (RVal.tmp rfl)) (congrArg Value.bool (by first | rfl | (simp_all [truthV]; done)))
                ·
                  refine TL.gdY rfl rfl (pr_pure rfl) rfl ?_
                  refine TL.gdY rfl rfl (pr_pure rfl) rfl ?_
                  refine TL.gdY rfl rfl (pr_bool rfl rfl rfl) rfl ?_
                  refine TL.run (pr_pure rfl) rfl ?_
                  refine TL.run (pr_pure rfl) rfl ?_
                  refine TL.split (s := 104) rfl (fun g104 => ?_) (fun g104 => ?_)
                  ·
                    have q104 := of_decide_eq_true g104
                    refine TL.gdY rfl rfl (pr_pure rfl) rfl ?_
                    refine TL.gdY rfl rfl (pr_pure rfl) rfl ?_
                    refine TL.run (pr_pure rfl) rfl ?_
                    refine TL.run (pr_pure rfl) rfl ?_
                    refine TL.split (s := 108) rfl (fun g108 => ?_) (fun g108 => ?_)
                    ·
                      have q108 := of_decide_eq_true g108
                      refine TL.gdY rfl rfl (pr_field rfl) rfl ?_
                      refine TL.gdY rfl rfl (pr_own1 rfl (.there _ (.there _ (.here _))) rfl) rfl ?_
                      refine TL.gdY rfl rfl (pr_pure rfl) rfl ?_
                      refine TL.gdY rfl rfl (pr_pure rfl) rfl ?_
                      refine TL.gdY rfl rfl (pr_pure rfl) rfl ?_
                      refine TL.gdY rfl rfl (pr_bool rfl rfl rfl) rfl ?_
                      refine TL.run (pr_pure rfl) rfl ?_
                      refine TL.run (pr_pure rfl) rfl ?_
                      refine TL.split (s := 116) rfl (fun g116 => ?_) (fun g116 => ?_)
                      ·
                        have q116 := of_decide_eq_true g116
                        refine TL.gdY rfl rfl (pr_pure rfl) rfl ?_
                        refine TL.gdY rfl rfl (pr_pure rfl) rfl ?_
                        refine TL.run (pr_pure rfl) rfl ?_
                        refine TL.run (pr_pure rfl) rfl ?_
                        refine TL.split (s := 120) rfl (fun g120 => ?_) (fun g120 => ?_)
                        ·
                          have q120 := of_decide_eq_true g120
                          refine TL.gdY rfl rfl (pr_pure rfl) rfl ?_
                          refine TL.gdY rfl rfl (pr_pure rfl) rfl ?_
                          refine TL.run (pr_pure rfl) rfl ?_
                          refine TL.run (pr_pure rfl) rfl ?_
                          refine TL.nil ?_
                          refine TX.seqN ?_
                          refine TC.ret ?_
                          exact TX.finS (.inr rfl) (results1 rfl (RVal.tmp rfl)) (congrArg Value.bool (by first | rfl | (simp_all [truthV]; done)))
                        ·
                          have q120 := of_decide_eq_false g120
                          refine TL.gdN rfl rfl rfl rfl ?_
                          refine TL.gdN rfl rfl rfl rfl ?_
                          refine TL.run (pr_pure rfl) rfl ?_
                          refine TL.run (pr_pure rfl) rfl ?_
                          refine TL.nil ?_
                          refine TX.seqN ?_
                          refine TC.ret ?_
                          exact TX.finS (.inr rfl) (results1 rfl (RVal.tmp rfl)) (congrArg Value.bool (by first | rfl | (simp_all [truthV]; done)))
                      ·
                        have q116 := of_decide_eq_false g116
                        refine TL.gdN rfl rfl rfl rfl ?_
                        refine TL.gdN rfl rfl rfl rfl ?_
                        refine TL.run (pr_pure rfl) rfl ?_
                        refine TL.run (pr_pure rfl) rfl ?_
                        refine TL.gdN rfl rfl rfl rfl ?_
                        refine TL.gdN rfl rfl rfl rfl ?_
                        refine TL.run (pr_pure rfl) rfl ?_
                        refine TL.run (pr_pure rfl) rfl ?_
                        refine TL.nil ?_
                        refine TX.seqN ?_
                        refine TC.ret ?_
                        exact TX.finS (.inr rfl) (results1 rfl (RVal.tmp rfl)) (congrArg Value.bool (by first | rfl | (simp_all [truthV]; done)))
                    ·
                      have q108 := of_decide_eq_false g108
                      refine TL.gdN rfl rfl rfl rfl ?_
                      refine TL.gdN rfl rfl rfl rfl ?_
                      refine TL.gdN rfl rfl rfl rfl ?_
                      refine TL.gdN rfl rfl rfl rfl ?_
                      refine TL.gdN rfl rfl rfl rfl ?_
                      refine TL.gdN rfl rfl rfl rfl ?_
                      refine TL.run (pr_pure rfl) rfl ?_
                      refine TL.run (pr_pure rfl) rfl ?_
                      refine TL.gdN rfl rfl rfl rfl ?_
                      refine TL.gdN rfl rfl rfl rfl ?_
                      refine TL.run (pr_pure rfl) rfl ?_
                      refine TL.run (pr_pure rfl) rfl ?_
                      refine TL.gdN rfl rfl rfl rfl ?_
                      refine TL.gdN rfl rfl rfl rfl ?_
                      refine TL.run (pr_pure rfl) rfl ?_
                      refine TL.run (pr_pure rfl) rfl ?_
                      refine TL.nil ?_
                      refine TX.seqN ?_
                      refine TC.ret ?_
                      exact TX.finS (.inr rfl) (results1 rfl (RVal.tmp rfl)) (congrArg Value.bool (by first | rfl | (simp_all [truthV]; done)))
                  ·
                    have q104 := of_decide_eq_false g104
                    refine TL.gdN rfl rfl rfl rfl ?_
                    refine TL.gdN rfl rfl rfl rfl ?_
                    refine TL.run (pr_pure rfl) rfl ?_
                    refine TL.run (pr_pure rfl) rfl ?_
                    refine TL.gdN rfl rfl rfl rfl ?_
                    refine TL.gdN rfl rfl rfl rfl ?_
                    refine TL.gdN rfl rfl rfl rfl ?_
                    refine TL.gdN rfl rfl rfl rfl ?_
                    refine TL.gdN rfl rfl rfl rfl ?_
                    refine TL.gdN rfl rfl rfl rfl ?_
                    refine TL.run (pr_pure rfl) rfl ?_
                    refine TL.run (pr_pure rfl) rfl ?_
                    refine TL.gdN rfl rfl rfl rfl ?_
                    refine TL.gdN rfl rfl rfl rfl ?_
                    refine TL.run (pr_pure rfl) rfl ?_
                    refine TL.run (pr_pure rfl) rfl ?_
                    refine TL.gdN rfl rfl rfl rfl ?_
                    refine TL.gdN rfl rfl rfl rfl ?_
                    refine TL.run (pr_pure rfl) rfl ?_
                    refine TL.run (pr_pure rfl) rfl ?_
                    refine TL.nil ?_
                    refine TX.seqN ?_
                    refine TC.ret ?_
                    exact TX.finS (.inr rfl) (results1 rfl (RVal.tmp rfl)) (congrArg Value.bool (by first | rfl | (simp_all [truthV]; done)))
              ·
                have q94 := of_decide_eq_false g94
                refine TL.gdN rfl rfl rfl rfl ?_
                refine TL.gdN rfl rfl rfl rfl ?_
                refine TL.gdN rfl rfl rfl rfl ?_
                refine TL.gdN rfl rfl rfl rfl ?_
                refine TL.gdN rfl rfl rfl rfl ?_
                refine TL.gdU rfl rfl rfl ?_
                refine TL.gdN rfl rfl rfl rfl ?_
                refine TL.gdN rfl rfl rfl rfl ?_
                refine TL.run (pr_pure rfl) rfl ?_
                refine TL.run (pr_pure rfl) rfl ?_
                refine TL.gdN rfl rfl rfl rfl ?_
                refine TL.gdN rfl rfl rfl rfl ?_
                refine TL.run (pr_pure rfl) rfl ?_
                refine TL.run (pr_pure rfl) rfl ?_
                refine TL.gdN rfl rfl rfl rfl ?_
                refine TL.gdN rfl rfl rfl rfl ?_
                refine TL.gdN rfl rfl rfl rfl ?_
                refine TL.gdN rfl rfl rfl rfl ?_
                refine TL.gdN rfl rfl rfl rfl ?_
                refine TL.gdN rfl rfl rfl rfl ?_
                refine TL.run (pr_pure rfl) rfl ?_
                refine TL.run (pr_pure rfl) rfl ?_
                refine TL.gdN rfl rfl rfl rfl ?_
                refine TL.gdN rfl rfl rfl rfl ?_
                refine TL.run (pr_pure rfl) rfl ?_
                refine TL.run (pr_pure rfl) rfl ?_
                refine TL.gdN rfl rfl rfl rfl ?_
                refine TL.gdN rfl rfl rfl rfl ?_
                refine TL.run (pr_pure rfl) rfl ?_
                refine TL.run (pr_pure rfl) rfl ?_
                refine TL.nil ?_
                refine TX.seqN ?_
                refine TC.ret ?_
                exact TX.finS (.inr rfl) (results1 rfl (RVal.tmp rfl)) (congrArg Value.bool (by first | rfl | (simp_all [truthV]; done)))
            ·
              have q90 := of_decide_eq_false g90
              refine TL.gdN rfl rfl rfl rfl ?_
              refine TL.gdN rfl rfl rfl rfl ?_
              refine TL.run (pr_pure rfl) rfl ?_
              refine TL.run (pr_pure rfl) rfl ?_
              refine TL.gdN rfl rfl rfl rfl ?_
              refine TL.gdN rfl rfl rfl rfl ?_
              refine TL.gdN rfl rfl rfl rfl ?_
              refine TL.gdN rfl rfl rfl rfl ?_
              refine TL.gdN rfl rfl rfl rfl ?_
              refine TL.gdU rfl rfl rfl ?_
              refine TL.gdN rfl rfl rfl rfl ?_
              refine TL.gdN rfl rfl rfl rfl ?_
              refine TL.run (pr_pure rfl) rfl ?_
              refine TL.run (pr_pure rfl) rfl ?_
              refine TL.gdN rfl rfl rfl rfl ?_
              refine TL.gdN rfl rfl rfl rfl ?_
              refine TL.run (pr_pure rfl) rfl ?_
              refine TL.run (pr_pure rfl) rfl ?_
              refine TL.gdN rfl rfl rfl rfl ?_
              refine TL.gdN rfl rfl rfl rfl ?_
              refine TL.gdN rfl rfl rfl rfl ?_
              refine TL.gdN rfl rfl rfl rfl ?_
              refine TL.gdN rfl rfl rfl rfl ?_
              refine TL.gdN rfl rfl rfl rfl ?_
              refine TL.run (pr_pure rfl) rfl ?_
              refine TL.run (pr_pure rfl) rfl ?_
              refine TL.gdN rfl rfl rfl rfl ?_
              refine TL.gdN rfl rfl rfl rfl ?_
              refine TL.run (pr_pure rfl) rfl ?_
              refine TL.run (pr_pure rfl) rfl ?_
              refine TL.gdN rfl rfl rfl rfl ?_
              refine TL.gdN rfl rfl rfl rfl ?_
              refine TL.run (pr_pure rfl) rfl ?_
              refine TL.run (pr_pure rfl) rfl ?_
              refine TL.nil ?_
              refine TX.seqN ?_
              refine TC.ret ?_
              exact TX.finS (.inr rfl) (results1 rfl (RVal.tmp rfl)) (congrArg Value.bool (by first | rfl | (simp_all [truthV]; done)))
        ·
          have q80 := of_decide_eq_false g80
          refine TL.gdN rfl rfl rfl rfl ?_
          refine TL.gdN rfl rfl rfl rfl ?_
          refine TL.gdN rfl rfl rfl rfl ?_
          refine TL.gdN rfl rfl rfl rfl ?_
          refine TL.gdN rfl rfl rfl rfl ?_
          refine TL.gdU rfl rfl rfl ?_
          refine TL.gdN rfl rfl rfl rfl ?_
          refine TL.gdN rfl rfl rfl rfl ?_
          refine TL.run (pr_pure rfl) rfl ?_
          refine TL.run (pr_pure rfl) rfl ?_
          refine TL.gdN rfl rfl rfl rfl ?_
          refine TL.gdN rfl rfl rfl rfl ?_
          refine TL.run (pr_pure rfl) rfl ?_
          refine TL.run (pr_pure rfl) rfl ?_
          refine TL.gdN rfl rfl rfl rfl ?_
          refine TL.gdN rfl rfl rfl rfl ?_
          refine TL.gdN rfl rfl rfl rfl ?_
          refine TL.gdN rfl rfl rfl rfl ?_
          refine TL.gdN rfl rfl rfl rfl ?_
          refine TL.gdU rfl rfl rfl ?_
          refine TL.gdN rfl rfl rfl rfl ?_
          refine TL.gdN rfl rfl rfl rfl ?_
          refine TL.run (pr_pure rfl) rfl ?_
          refine TL.run (pr_pure rfl) rfl ?_
          refine TL.gdN rfl rfl rfl rfl ?_
          refine TL.gdN rfl rfl rfl rfl ?_
          refine TL.run (pr_pure rfl) rfl ?_
          refine TL.run (pr_pure rfl) rfl ?_
          refine TL.gdN rfl rfl rfl rfl ?_
          refine TL.gdN rfl rfl rfl rfl ?_
          refine TL.gdN rfl rfl rfl rfl ?_
          refine TL.gdN rfl rfl rfl rfl ?_
          refine TL.gdN rfl rfl rfl rfl ?_
          refine TL.gdN rfl rfl rfl rfl ?_
          refine TL.run (pr_pure rfl) rfl ?_
          refine TL.run (pr_pure rfl) rfl ?_
          refine TL.gdN rfl rfl rfl rfl ?_
          refine TL.gdN rfl rfl rfl rfl ?_
          refine TL.run (pr_pure rfl) rfl ?_
          refine TL.run (pr_pure rfl) rfl ?_
          refine TL.gdN rfl rfl rfl rfl ?_
          refine TL.gdN rfl rfl rfl rfl ?_
          refine TL.run (pr_pure rfl) rfl ?_
          refine TL.run (pr_pure rfl) rfl ?_
          refine TL.nil ?_
          refine TX.seqN ?_
          refine TC.ret ?_
          exact TX.finS (.inr rfl) (results1 rfl (RVal.tmp rfl)) (congrArg Value.bool (by first | rfl | (simp_all [truthV]; done)))
end Go.Sx
