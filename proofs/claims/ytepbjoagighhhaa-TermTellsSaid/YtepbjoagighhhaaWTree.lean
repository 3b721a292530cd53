import Derived.Test.YtepbjoagighhhaaWKindR
set_option linter.unusedVariables false
set_option linter.unusedSimpArgs false
namespace Go.Sx
open Go Go.Proofs
set_option maxRecDepth 100000 in
set_option maxHeartbeats 1000000 in
theorem tree_ok {H : Hp} {l : List Term} {v : Value} (root : Int) (hT : RdSl H 6 Term.cells v l) (hnames : ∀ t ∈ l, t.name.length ≤ 9223372036854775807) :
    Fn Try.prog 34 [v, .int .i64 root] H (fun v' H' => TreeR (treeS l root) l.length v' H') := by
  have hmax := hT.max
  refine Fn.enter Try.func34 Try.ntmps34 rfl rfl (fun w0 => ?_)
  refine TC.seq ?_
  refine TC.region ?_
  refine TL.run (pr_pure rfl) rfl ?_
  refine TL.run (pr_pure rfl) rfl ?_
  refine TL.nil ?_
  refine TX.seqN ?_
  refine TC.seq ?_
  refine TC.seq ?_
  refine TC.region ?_
  refine TL.run (pr_pure rfl) rfl ?_
  refine TL.run (pr_lenSl rfl rfl hT) rfl ?_
  refine TL.run (pr_pure rfl) rfl ?_
  refine TL.run (pr_pure rfl) rfl ?_
  refine TL.split (s := 14) rfl (fun g14 => ?_) (fun g14 => ?_)
  ·
    have q14 := of_decide_eq_true g14
    refine TL.gdN rfl rfl rfl rfl ?_
    refine TL.gdN rfl rfl rfl rfl ?_
    refine TL.run (pr_pure rfl) rfl ?_
    refine TL.run (pr_pure rfl) rfl ?_
    refine TL.gdN rfl rfl rfl rfl ?_
    refine TL.gdN rfl rfl rfl rfl ?_
    refine TL.gdN rfl rfl rfl rfl ?_
    refine TL.gdN rfl rfl rfl rfl ?_
    refine TL.run (pr_pure rfl) rfl ?_
    refine TL.nil ?_
    refine TX.seqN ?_
    refine TC.condT rfl ?_
    refine TC.seq ?_
    refine TC.region ?_
    refine TL.run (pr_pure rfl) rfl ?_
    refine TL.run (pr_pure rfl) rfl ?_
    refine TL.nil ?_
    refine TX.seqN ?_
    refine TC.ret ?_
    refine TX.thenR ?_
    refine TX.fin0 (.inr rfl) (results2 rfl (RVal.tmp rfl) (RVal.tmp rfl)) ?_
    have hr : treeS l root = none := by
      first
        | exact treeS_F (.inl (of_decide_eq_true g14))
        | exact treeS_F (.inr (.inl (of_decide_eq_true g18)))
        | exact treeS_F (.inr (.inr c23))
        | exact tree_none hp0 hI.2.2.2.2 (treeStep_F hx c39 (by first | exact .inl (by simpa using g46) | exact .inr c52))
        | exact tree_none hp0 hI.2.2.2.2 ((treeStep_T hx c39 hal h24).trans (treeOps_n (by omega) (treeOp_F (by first | exact .inl (of_decide_eq_true g78_0) | exact .inr (.inl (of_decide_eq_true g83_0)) | exact .inr (.inr c89_0)))))
        | exact tree_none hp0 hI.2.2.2.2 ((treeStep_T hx c39 hal h24).trans (treeOps_2 (by omega) o0 (by omega) (treeOp_F (by first | exact .inl (of_decide_eq_true g78_1) | exact .inr (.inl (of_decide_eq_true g83_1)) | exact .inr (.inr c89_1)))))
    rw [hr]; rfl
  ·
    have q14 := of_decide_eq_false g14
    refine TL.gdY rfl rfl (pr_pure rfl) rfl ?_
    refine TL.gdY rfl rfl (pr_pure rfl) rfl ?_
    refine TL.run (pr_pure rfl) rfl ?_
    refine TL.run (pr_pure rfl) rfl ?_
    refine TL.split (s := 18) rfl (fun g18 => ?_) (fun g18 => ?_)
    ·
      have q18 := of_decide_eq_true g18
      refine TL.gdN rfl rfl rfl rfl ?_
      refine TL.gdN rfl rfl rfl rfl ?_
      refine TL.gdN rfl rfl rfl rfl ?_
      refine TL.gdN rfl rfl rfl rfl ?_
      refine TL.run (pr_pure rfl) rfl ?_
      refine TL.nil ?_
      refine TX.seqN ?_
      refine TC.condT rfl ?_
      refine TC.seq ?_
      refine TC.region ?_
      refine TL.run (pr_pure rfl) rfl ?_
      refine TL.run (pr_pure rfl) rfl ?_
      refine TL.nil ?_
      refine TX.seqN ?_
      refine TC.ret ?_
      refine TX.thenR ?_
      refine TX.fin0 (.inr rfl) (results2 rfl (RVal.tmp rfl) (RVal.tmp rfl)) ?_
      have hr : treeS l root = none := by
        first
          | exact treeS_F (.inl (of_decide_eq_true g14))
          | exact treeS_F (.inr (.inl (of_decide_eq_true g18)))
          | exact treeS_F (.inr (.inr c23))
          | exact tree_none hp0 hI.2.2.2.2 (treeStep_F hx c39 (by first | exact .inl (by simpa using g46) | exact .inr c52))
          | exact tree_none hp0 hI.2.2.2.2 ((treeStep_T hx c39 hal h24).trans (treeOps_n (by omega) (treeOp_F (by first | exact .inl (of_decide_eq_true g78_0) | exact .inr (.inl (of_decide_eq_true g83_0)) | exact .inr (.inr c89_0)))))
          | exact tree_none hp0 hI.2.2.2.2 ((treeStep_T hx c39 hal h24).trans (treeOps_2 (by omega) o0 (by omega) (treeOp_F (by first | exact .inl (of_decide_eq_true g78_1) | exact .inr (.inl (of_decide_eq_true g83_1)) | exact .inr (.inr c89_1)))))
      rw [hr]; rfl
    ·
      have q18 := of_decide_eq_false g18
      refine TL.gdY rfl rfl (pr_pure rfl) rfl ?_
      refine TL.gdY rfl rfl (pr_pure rfl) rfl ?_
      refine TL.gdY rfl rfl (pr_lenSl rfl rfl hT) rfl ?_
      refine TL.gdY rfl rfl (pr_pure rfl) rfl ?_
      refine TL.run (pr_pure rfl) rfl ?_
      refine TL.nil ?_
      refine TX.seqN ?_
      refine TC.condD rfl (fun c23 => ?_) (fun c23 => ?_)
      ·
        refine TC.seq ?_
        refine TC.region ?_
        refine TL.run (pr_pure rfl) rfl ?_
        refine TL.run (pr_pure rfl) rfl ?_
        refine TL.nil ?_
        refine TX.seqN ?_
        refine TC.ret ?_
        refine TX.thenR ?_
        refine TX.fin0 (.inr rfl) (results2 rfl (RVal.tmp rfl) (RVal.tmp rfl)) ?_
        have hr : treeS l root = none := by
          first
            | exact treeS_F (.inl (of_decide_eq_true g14))
            | exact treeS_F (.inr (.inl (of_decide_eq_true g18)))
            | exact treeS_F (.inr (.inr c23))
            | exact tree_none hp0 hI.2.2.2.2 (treeStep_F hx c39 (by first | exact .inl (by simpa using g46) | exact .inr c52))
            | exact tree_none hp0 hI.2.2.2.2 ((treeStep_T hx c39 hal h24).trans (treeOps_n (by omega) (treeOp_F (by first | exact .inl (of_decide_eq_true g78_0) | exact .inr (.inl (of_decide_eq_true g83_0)) | exact .inr (.inr c89_0)))))
            | exact tree_none hp0 hI.2.2.2.2 ((treeStep_T hx c39 hal h24).trans (treeOps_2 (by omega) o0 (by omega) (treeOp_F (by first | exact .inl (of_decide_eq_true g78_1) | exact .inr (.inl (of_decide_eq_true g83_1)) | exact .inr (.inr c89_1)))))
        rw [hr]; rfl
      ·
        refine TC.skip ?_
        refine TX.seqN ?_
        refine TC.seq ?_
        refine TC.region ?_
        have hb : (l.length : Int) ≤ 160 ∧ 0 ≤ root ∧ root < l.length := mayB_in g14 g18 c23
        refine TL.run (pr_pure rfl) rfl ?_
        refine TL.run (pr_lenSl rfl rfl hT) rfl ?_
        refine TL.make rfl rfl (by omega) (by omega) (by omega) rfl (fun b26 => ?_)
        refine TL.run (pr_pure rfl) rfl ?_
        refine TL.nil ?_
        refine TX.seqN ?_
        refine TC.seq ?_
        refine TC.region ?_
        rw [reps_zero]
        refine TL.run (pr_pure rfl) rfl ?_
        refine TL.run (pr_pure rfl) rfl ?_
        refine TL.run (pr_index rfl rfl (by omega) (by omega)) rfl ?_
        refine TL.store1 rfl rfl rfl (.here _) (by simp; omega) rfl ?_
        refine TL.nil ?_
        rw [ints_set]
        refine TX.seqN ?_
        refine TC.seq ?_
        refine TC.seq ?_
        refine TC.region ?_
        refine TL.run (pr_pure rfl) rfl ?_
        refine TL.run (pr_pure rfl) rfl ?_
        refine TL.nil ?_
        refine TX.seqN ?_
        refine TC.block ?_
        refine TC.loop (V := fun p => [(7, .int .i64 p.1)]) (K := [(0, _), (4, _), (5, _), (6, _)]) (L := fun p => St [] w0 H H ((b26, p.2.map (Value.int .i64)) :: [])) (I := fun p => -1 ≤ p.1 ∧ p.1 ≤ root ∧ p.2.length = l.length ∧ Nn p.2 ∧ treeS l root = treeLoop l (p.1 + 1).toNat p.2) (μ := fun p => (p.1 + 1).toNat) (i := ((root, (List.replicate l.length 0).set root.toNat 1) : Int × List Int)) ⟨rfl, rfl, rfl, rfl, rfl, trivial⟩ ⟨by omega, by omega, by simp, Nn_start _ _, treeS_T hb⟩ (fun w hw => hw) (fun p hI => ?_)
        refine TC.seq ?_
        refine TC.seq ?_
        refine TC.region ?_
        refine TL.run (pr_pure rfl) rfl ?_
        refine TL.run (pr_pure rfl) rfl ?_
        refine TL.nil ?_
        refine TX.seqN ?_
        refine TC.condD rfl (fun c32 => ?_) (fun c32 => ?_)
        ·
          refine TC.skip ?_
          refine TX.seqN ?_
          refine TC.seq ?_
          refine TC.block ?_
          refine TC.seq ?_
          refine TC.seq ?_
          refine TC.region ?_
          have hp0 : 0 ≤ p.1 := c32
          have hlt : p.1.toNat < p.2.length := by omega
          obtain ⟨t, hx⟩ := getSome (l := l) (i := p.1) hp0 (by omega)
          have hnn := hI.2.2.2.1 p.1.toNat
          have hN : t.name.length ≤ 9223372036854775807 := hnames t (List.mem_of_getElem? hx)
          refine TL.run (pr_pure rfl) rfl ?_
          refine TL.run (pr_pure rfl) rfl ?_
          refine TL.run (pr_index rfl rfl (by omega) (by omega)) rfl ?_
          refine TL.run (pr_own1 rfl (.here _) (ints_get hlt)) rfl ?_
          refine TL.run (pr_pure rfl) rfl ?_
          refine TL.nil ?_
          refine TX.seqN ?_
          refine TC.condD rfl (fun c39 => ?_) (fun c39 => ?_)
          ·
            refine TC.exit ?_
            refine TX.thenE ?_
            refine TX.blkHit ?_
            refine TX.seqN ?_
            refine TC.region ?_
            refine TL.run (pr_pure rfl) rfl ?_
            refine TL.run ((by first | exact pr_sub rfl rfl (by omega) (by omega) | exact pr_pure rfl)) rfl ?_
            refine TL.run (pr_pure rfl) rfl ?_
            refine TL.nil ?_
            exact TX.round (p.1 - 1, p.2) ⟨by omega, by omega, by simp [hI.2.2.1], hI.2.2.2.1, (by first | exact tree_some hp0 hI.2.2.2.2 (treeStep_0 c39) | exact tree_some hp0 hI.2.2.2.2 ((treeStep_T hx c39 hal h24).trans (treeOps_0 (by omega))))⟩ ⟨rfl, rfl, rfl, rfl, rfl, trivial⟩ (fun w hw => hw) (by omega)
          ·
            refine TC.skip ?_
            refine TX.seqN ?_
            refine TC.seq ?_
            refine TC.seq ?_
            refine TC.region ?_
            refine TL.run (pr_pure rfl) rfl ?_
            refine TL.run (pr_pure rfl) rfl ?_
            refine TL.run (pr_indexSl rfl hT rfl (by omega) (by omega)) rfl ?_
            refine TL.run (pr_elA hT hx rfl rfl) rfl ?_
            refine TL.callS (enters rfl rfl rfl rfl) (alone_ok t hN) rfl ?_
            refine TL.run (pr_pure rfl) rfl ?_
            refine TL.run (pr_pure rfl) rfl ?_
            refine TL.split (s := 46) rfl (fun g46 => ?_) (fun g46 => ?_)
            ·
              refine TL.gdN rfl rfl rfl rfl ?_
              refine TL.gdN rfl rfl rfl rfl ?_
              refine TL.gdN rfl rfl rfl rfl ?_
              refine TL.gdN rfl rfl rfl rfl ?_
              refine TL.gdN rfl rfl rfl rfl ?_
              refine TL.run (pr_pure rfl) rfl ?_
              refine TL.nil ?_
              refine TX.seqN ?_
              refine TC.condT rfl ?_
              refine TC.seq ?_
              refine TC.region ?_
              refine TL.run (pr_pure rfl) rfl ?_
              refine TL.run (pr_pure rfl) rfl ?_
              refine TL.nil ?_
              refine TX.seqN ?_
              refine TC.ret ?_
              refine TX.thenR ?_
              refine TX.blkR ?_
              refine TX.thenR ?_
              refine TX.thenR ?_
              refine TX.blkR ?_
              refine TX.thenR ?_
              refine TX.fin0 (.inr rfl) (results2 rfl (RVal.tmp rfl) (RVal.tmp rfl)) ?_
              have hr : treeS l root = none := by
                first
                  | exact treeS_F (.inl (of_decide_eq_true g14))
                  | exact treeS_F (.inr (.inl (of_decide_eq_true g18)))
                  | exact treeS_F (.inr (.inr c23))
                  | exact tree_none hp0 hI.2.2.2.2 (treeStep_F hx c39 (by first | exact .inl (by simpa using g46) | exact .inr c52))
                  | exact tree_none hp0 hI.2.2.2.2 ((treeStep_T hx c39 hal h24).trans (treeOps_n (by omega) (treeOp_F (by first | exact .inl (of_decide_eq_true g78_0) | exact .inr (.inl (of_decide_eq_true g83_0)) | exact .inr (.inr c89_0)))))
                  | exact tree_none hp0 hI.2.2.2.2 ((treeStep_T hx c39 hal h24).trans (treeOps_2 (by omega) o0 (by omega) (treeOp_F (by first | exact .inl (of_decide_eq_true g78_1) | exact .inr (.inl (of_decide_eq_true g83_1)) | exact .inr (.inr c89_1)))))
              rw [hr]; rfl
            ·
              refine TL.gdY rfl rfl (pr_pure rfl) rfl ?_
              refine TL.gdY rfl rfl (pr_pure rfl) rfl ?_
              refine TL.gdY rfl rfl (pr_index rfl rfl (by omega) (by omega)) rfl ?_
              refine TL.gdY rfl rfl (pr_own1 rfl (.here _) (ints_get hlt)) rfl ?_
              refine TL.gdY rfl rfl (pr_pure rfl) rfl ?_
              refine TL.run (pr_pure rfl) rfl ?_
              refine TL.nil ?_
              refine TX.seqN ?_
              refine TC.condD rfl (fun c52 => ?_) (fun c52 => ?_)
              ·
                refine TC.seq ?_
                refine TC.region ?_
                refine TL.run (pr_pure rfl) rfl ?_
                refine TL.run (pr_pure rfl) rfl ?_
                refine TL.nil ?_
                refine TX.seqN ?_
                refine TC.ret ?_
                refine TX.thenR ?_
                refine TX.blkR ?_
                refine TX.thenR ?_
                refine TX.thenR ?_
                refine TX.blkR ?_
                refine TX.thenR ?_
                refine TX.fin0 (.inr rfl) (results2 rfl (RVal.tmp rfl) (RVal.tmp rfl)) ?_
                have hr : treeS l root = none := by
                  first
                    | exact treeS_F (.inl (of_decide_eq_true g14))
                    | exact treeS_F (.inr (.inl (of_decide_eq_true g18)))
                    | exact treeS_F (.inr (.inr c23))
                    | exact tree_none hp0 hI.2.2.2.2 (treeStep_F hx c39 (by first | exact .inl (by simpa using g46) | exact .inr c52))
                    | exact tree_none hp0 hI.2.2.2.2 ((treeStep_T hx c39 hal h24).trans (treeOps_n (by omega) (treeOp_F (by first | exact .inl (of_decide_eq_true g78_0) | exact .inr (.inl (of_decide_eq_true g83_0)) | exact .inr (.inr c89_0)))))
                    | exact tree_none hp0 hI.2.2.2.2 ((treeStep_T hx c39 hal h24).trans (treeOps_2 (by omega) o0 (by omega) (treeOp_F (by first | exact .inl (of_decide_eq_true g78_1) | exact .inr (.inl (of_decide_eq_true g83_1)) | exact .inr (.inr c89_1)))))
                rw [hr]; rfl
              ·
                refine TC.skip ?_
                refine TX.seqN ?_
                refine TC.seq ?_
                refine TC.region ?_
                have hal : aloneB t = true := by simpa using g46
                have h24 : ¬ 24 < p.2[p.1.toNat]?.getD 0 := c52
                refine TL.run (pr_pure rfl) rfl ?_
                refine TL.run (pr_pure rfl) rfl ?_
                refine TL.run (pr_indexSl rfl hT rfl (by omega) (by omega)) rfl ?_
                refine TL.run (pr_field rfl) rfl ?_
                refine TL.run (pr_el1 hT hx rfl rfl) rfl ?_
                refine TL.callS (enters rfl rfl rfl rfl) (arity_ok t.kind) rfl ?_
                refine TL.run (pr_pure rfl) rfl ?_
                refine TL.nil ?_
                refine TX.seqN ?_
                refine TC.seq ?_
                refine TC.region ?_
                refine TL.run (pr_pure rfl) rfl ?_
                refine TL.nil ?_
                refine TX.seqN ?_
                refine TC.block ?_
                refine TC.rounds 3 ?_
                refine TR.succ ?_
                refine TC.seq ?_
                refine TC.seq ?_
                refine TC.region ?_
                refine TL.run (pr_pure rfl) rfl ?_
                refine TL.run (pr_pure rfl) rfl ?_
                refine TL.run (pr_pure rfl) rfl ?_
                refine TL.nil ?_
                refine TX.seqN ?_
                refine TC.condD rfl (fun c61_0 => ?_) (fun c61_0 => ?_)
                ·
                  refine TC.skip ?_
                  refine TX.seqN ?_
                  refine TC.seq ?_
                  refine TC.block ?_
                  refine TC.seq ?_
                  refine TC.region ?_
                  refine TL.run (pr_pure rfl) rfl ?_
                  refine TL.run (pr_pure rfl) rfl ?_
                  refine TL.run (pr_indexSl rfl hT rfl (by omega) (by omega)) rfl ?_
                  refine TL.run (pr_field rfl) rfl ?_
                  refine TL.run (pr_el1 hT hx rfl rfl) rfl ?_
                  refine TL.run (pr_pure rfl) rfl ?_
                  refine TL.nil ?_
                  refine TX.seqN ?_
                  refine TC.seq ?_
                  refine TC.seq ?_
                  refine TC.region ?_
                  refine TL.run (pr_pure rfl) rfl ?_
                  refine TL.run (pr_pure rfl) rfl ?_
                  refine TL.nil ?_
                  refine TX.seqN ?_
                  refine TC.condF rfl ?_
                  refine TC.skip ?_
                  refine TX.seqN ?_
                  refine TC.seq ?_
                  refine TC.seq ?_
                  refine TC.region ?_
                  refine TL.run (pr_pure rfl) rfl ?_
                  refine TL.run (pr_pure rfl) rfl ?_
                  refine TL.run (pr_pure rfl) rfl ?_
                  refine TL.split (s := 78) rfl (fun g78_0 => ?_) (fun g78_0 => ?_)
                  ·
                    have q78_0 := of_decide_eq_true g78_0
                    refine TL.gdN rfl rfl rfl rfl ?_
                    refine TL.gdN rfl rfl rfl rfl ?_
                    refine TL.gdN rfl rfl rfl rfl ?_
                    refine TL.run (pr_pure rfl) rfl ?_
                    refine TL.run (pr_pure rfl) rfl ?_
                    refine TL.gdN rfl rfl rfl rfl ?_
                    refine TL.gdN rfl rfl rfl rfl ?_
                    refine TL.gdN rfl rfl rfl rfl ?_
                    refine TL.gdN rfl rfl rfl rfl ?_
                    refine TL.gdN rfl rfl rfl rfl ?_
                    refine TL.run (pr_pure rfl) rfl ?_
                    refine TL.nil ?_
                    refine TX.seqN ?_
                    refine TC.condT rfl ?_
                    refine TC.seq ?_
                    refine TC.region ?_
                    refine TL.run (pr_pure rfl) rfl ?_
                    refine TL.run (pr_pure rfl) rfl ?_
                    refine TL.nil ?_
                    refine TX.seqN ?_
                    refine TC.ret ?_
                    refine TX.thenR ?_
                    refine TX.blkR ?_
                    refine TX.thenR ?_
                    refine TX.thenR ?_
                    refine TX.blkR ?_
                    refine TX.blkR ?_
                    refine TX.thenR ?_
                    refine TX.thenR ?_
                    refine TX.blkR ?_
                    refine TX.thenR ?_
                    refine TX.fin0 (.inr rfl) (results2 rfl (RVal.tmp rfl) (RVal.tmp rfl)) ?_
                    have hr : treeS l root = none := by
                      first
                        | exact treeS_F (.inl (of_decide_eq_true g14))
                        | exact treeS_F (.inr (.inl (of_decide_eq_true g18)))
                        | exact treeS_F (.inr (.inr c23))
                        | exact tree_none hp0 hI.2.2.2.2 (treeStep_F hx c39 (by first | exact .inl (by simpa using g46) | exact .inr c52))
                        | exact tree_none hp0 hI.2.2.2.2 ((treeStep_T hx c39 hal h24).trans (treeOps_n (by omega) (treeOp_F (by first | exact .inl (of_decide_eq_true g78_0) | exact .inr (.inl (of_decide_eq_true g83_0)) | exact .inr (.inr c89_0)))))
                        | exact tree_none hp0 hI.2.2.2.2 ((treeStep_T hx c39 hal h24).trans (treeOps_2 (by omega) o0 (by omega) (treeOp_F (by first | exact .inl (of_decide_eq_true g78_1) | exact .inr (.inl (of_decide_eq_true g83_1)) | exact .inr (.inr c89_1)))))
                    rw [hr]; rfl
                  ·
                    have q78_0 := of_decide_eq_false g78_0
                    refine TL.gdY rfl rfl (pr_pure rfl) rfl ?_
                    refine TL.gdY rfl rfl (pr_pure rfl) rfl ?_
                    refine TL.gdY rfl rfl (pr_pure rfl) rfl ?_
                    refine TL.run (pr_pure rfl) rfl ?_
                    refine TL.run (pr_pure rfl) rfl ?_
                    refine TL.split (s := 83) rfl (fun g83_0 => ?_) (fun g83_0 => ?_)
                    ·
                      have q83_0 := of_decide_eq_true g83_0
                      refine TL.gdN rfl rfl rfl rfl ?_
                      refine TL.gdN rfl rfl rfl rfl ?_
                      refine TL.gdN rfl rfl rfl rfl ?_
                      refine TL.gdN rfl rfl rfl rfl ?_
                      refine TL.gdN rfl rfl rfl rfl ?_
                      refine TL.run (pr_pure rfl) rfl ?_
                      refine TL.nil ?_
                      refine TX.seqN ?_
                      refine TC.condT rfl ?_
                      refine TC.seq ?_
                      refine TC.region ?_
                      refine TL.run (pr_pure rfl) rfl ?_
                      refine TL.run (pr_pure rfl) rfl ?_
                      refine TL.nil ?_
                      refine TX.seqN ?_
                      refine TC.ret ?_
                      refine TX.thenR ?_
                      refine TX.blkR ?_
                      refine TX.thenR ?_
                      refine TX.thenR ?_
                      refine TX.blkR ?_
                      refine TX.blkR ?_
                      refine TX.thenR ?_
                      refine TX.thenR ?_
                      refine TX.blkR ?_
                      refine TX.thenR ?_
                      refine TX.fin0 (.inr rfl) (results2 rfl (RVal.tmp rfl) (RVal.tmp rfl)) ?_
                      have hr : treeS l root = none := by
                        first
                          | exact treeS_F (.inl (of_decide_eq_true g14))
                          | exact treeS_F (.inr (.inl (of_decide_eq_true g18)))
                          | exact treeS_F (.inr (.inr c23))
                          | exact tree_none hp0 hI.2.2.2.2 (treeStep_F hx c39 (by first | exact .inl (by simpa using g46) | exact .inr c52))
                          | exact tree_none hp0 hI.2.2.2.2 ((treeStep_T hx c39 hal h24).trans (treeOps_n (by omega) (treeOp_F (by first | exact .inl (of_decide_eq_true g78_0) | exact .inr (.inl (of_decide_eq_true g83_0)) | exact .inr (.inr c89_0)))))
                          | exact tree_none hp0 hI.2.2.2.2 ((treeStep_T hx c39 hal h24).trans (treeOps_2 (by omega) o0 (by omega) (treeOp_F (by first | exact .inl (of_decide_eq_true g78_1) | exact .inr (.inl (of_decide_eq_true g83_1)) | exact .inr (.inr c89_1)))))
                      rw [hr]; rfl
                    ·
                      have q83_0 := of_decide_eq_false g83_0
                      refine TL.gdY rfl rfl (pr_pure rfl) rfl ?_
                      refine TL.gdY rfl rfl (pr_pure rfl) rfl ?_
                      refine TL.gdY rfl rfl (pr_index rfl rfl (by omega) (by omega)) rfl ?_
                      refine TL.gdY rfl rfl (pr_own1 rfl (.here _) (ints_get (by first | omega | (simp; omega)))) rfl ?_
                      refine TL.gdY rfl rfl (pr_pure rfl) rfl ?_
                      refine TL.run (pr_pure rfl) rfl ?_
                      refine TL.nil ?_
                      refine TX.seqN ?_
                      refine TC.condD rfl (fun c89_0 => ?_) (fun c89_0 => ?_)
                      ·
                        refine TC.seq ?_
                        refine TC.region ?_
                        refine TL.run (pr_pure rfl) rfl ?_
                        refine TL.run (pr_pure rfl) rfl ?_
                        refine TL.nil ?_
                        refine TX.seqN ?_
                        refine TC.ret ?_
                        refine TX.thenR ?_
                        refine TX.blkR ?_
                        refine TX.thenR ?_
                        refine TX.thenR ?_
                        refine TX.blkR ?_
                        refine TX.blkR ?_
                        refine TX.thenR ?_
                        refine TX.thenR ?_
                        refine TX.blkR ?_
                        refine TX.thenR ?_
                        refine TX.fin0 (.inr rfl) (results2 rfl (RVal.tmp rfl) (RVal.tmp rfl)) ?_
                        have hr : treeS l root = none := by
                          first
                            | exact treeS_F (.inl (of_decide_eq_true g14))
                            | exact treeS_F (.inr (.inl (of_decide_eq_true g18)))
                            | exact treeS_F (.inr (.inr c23))
                            | exact tree_none hp0 hI.2.2.2.2 (treeStep_F hx c39 (by first | exact .inl (by simpa using g46) | exact .inr c52))
                            | exact tree_none hp0 hI.2.2.2.2 ((treeStep_T hx c39 hal h24).trans (treeOps_n (by omega) (treeOp_F (by first | exact .inl (of_decide_eq_true g78_0) | exact .inr (.inl (of_decide_eq_true g83_0)) | exact .inr (.inr c89_0)))))
                            | exact tree_none hp0 hI.2.2.2.2 ((treeStep_T hx c39 hal h24).trans (treeOps_2 (by omega) o0 (by omega) (treeOp_F (by first | exact .inl (of_decide_eq_true g78_1) | exact .inr (.inl (of_decide_eq_true g83_1)) | exact .inr (.inr c89_1)))))
                        rw [hr]; rfl
                      ·
                        refine TC.skip ?_
                        refine TX.seqN ?_
                        refine TC.region ?_
                        refine TL.run (pr_pure rfl) rfl ?_
                        refine TL.run (pr_pure rfl) rfl ?_
                        refine TL.run (pr_pure rfl) rfl ?_
                        refine TL.run (pr_pure rfl) rfl ?_
                        refine TL.run (pr_index rfl rfl (by omega) (by omega)) rfl ?_
                        refine TL.run (pr_own1 rfl (.here _) (ints_get (by first | omega | (simp; omega)))) rfl ?_
                        refine TL.run ((by first | exact pr_add rfl rfl (by omega) (by omega) | exact pr_pure rfl)) rfl ?_
                        refine TL.run (pr_index rfl rfl (by omega) (by omega)) rfl ?_
                        refine TL.store1 rfl rfl rfl (.here _) (by simp; omega) rfl ?_
                        refine TL.nil ?_
                        rw [ints_set]
                        refine TX.blkN ?_
                        refine TX.seqN ?_
                        refine TC.region ?_
                        refine TL.run (pr_pure rfl) rfl ?_
                        refine TL.run (pr_add rfl rfl (by omega) (by omega)) rfl ?_
                        refine TL.run (pr_pure rfl) rfl ?_
                        refine TL.nil ?_
                        have o0 : treeOp p.2 p.1 t.l = some (p.2.set t.l.toNat (p.2[p.1.toNat]?.getD 0 + 1)) := treeOp_T (of_decide_eq_false g78_0) (of_decide_eq_false g83_0) c89_0
                        have hsame : (p.2.set t.l.toNat (p.2[p.1.toNat]?.getD 0 + 1))[p.1.toNat]?.getD 0 = p.2[p.1.toNat]?.getD 0 := set_ne (by have q1 := of_decide_eq_false g78_0; have q2 := of_decide_eq_false g83_0; omega)
                        have h24b : (p.2.set t.l.toNat (p.2[p.1.toNat]?.getD 0 + 1))[p.1.toNat]?.getD 0 ≤ 24 := by omega
                        have hnnb : 0 ≤ (p.2.set t.l.toNat (p.2[p.1.toNat]?.getD 0 + 1))[p.1.toNat]?.getD 0 := by omega
                        refine TX.rnd ?_
                        refine TR.succ ?_
                        refine TC.seq ?_
                        refine TC.seq ?_
                        refine TC.region ?_
                        refine TL.run (pr_pure rfl) rfl ?_
                        refine TL.run (pr_pure rfl) rfl ?_
                        refine TL.run (pr_pure rfl) rfl ?_
                        refine TL.nil ?_
                        refine TX.seqN ?_
                        refine TC.condD rfl (fun c61_1 => ?_) (fun c61_1 => ?_)
                        ·
                          refine TC.skip ?_
                          refine TX.seqN ?_
                          refine TC.seq ?_
                          refine TC.block ?_
                          refine TC.seq ?_
                          refine TC.region ?_
                          refine TL.run (pr_pure rfl) rfl ?_
                          refine TL.run (pr_pure rfl) rfl ?_
                          refine TL.run (pr_indexSl rfl hT rfl (by omega) (by omega)) rfl ?_
                          refine TL.run (pr_field rfl) rfl ?_
                          refine TL.run (pr_el1 hT hx rfl rfl) rfl ?_
                          refine TL.run (pr_pure rfl) rfl ?_
                          refine TL.nil ?_
                          refine TX.seqN ?_
                          refine TC.seq ?_
                          refine TC.seq ?_
                          refine TC.region ?_
                          refine TL.run (pr_pure rfl) rfl ?_
                          refine TL.run (pr_pure rfl) rfl ?_
                          refine TL.nil ?_
                          refine TX.seqN ?_
                          refine TC.condT rfl ?_
                          refine TC.region ?_
                          refine TL.run (pr_pure rfl) rfl ?_
                          refine TL.run (pr_pure rfl) rfl ?_
                          refine TL.run (pr_indexSl rfl hT rfl (by omega) (by omega)) rfl ?_
                          refine TL.run (pr_field rfl) rfl ?_
                          refine TL.run (pr_el1 hT hx rfl rfl) rfl ?_
                          refine TL.run (pr_pure rfl) rfl ?_
                          refine TL.nil ?_
                          refine TX.seqN ?_
                          refine TC.seq ?_
                          refine TC.seq ?_
                          refine TC.region ?_
                          refine TL.run (pr_pure rfl) rfl ?_
                          refine TL.run (pr_pure rfl) rfl ?_
                          refine TL.run (pr_pure rfl) rfl ?_
                          refine TL.split (s := 78) rfl (fun g78_1 => ?_) (fun g78_1 => ?_)
                          ·
                            have q78_1 := of_decide_eq_true g78_1
                            refine TL.gdN rfl rfl rfl rfl ?_
                            refine TL.gdN rfl rfl rfl rfl ?_
                            refine TL.gdN rfl rfl rfl rfl ?_
                            refine TL.run (pr_pure rfl) rfl ?_
                            refine TL.run (pr_pure rfl) rfl ?_
                            refine TL.gdN rfl rfl rfl rfl ?_
                            refine TL.gdN rfl rfl rfl rfl ?_
                            refine TL.gdN rfl rfl rfl rfl ?_
                            refine TL.gdN rfl rfl rfl rfl ?_
                            refine TL.gdN rfl rfl rfl rfl ?_
                            refine TL.run (pr_pure rfl) rfl ?_
                            refine TL.nil ?_
                            refine TX.seqN ?_
                            refine TC.condT rfl ?_
                            refine TC.seq ?_
                            refine TC.region ?_
                            refine TL.run (pr_pure rfl) rfl ?_
                            refine TL.run (pr_pure rfl) rfl ?_
                            refine TL.nil ?_
                            refine TX.seqN ?_
                            refine TC.ret ?_
                            refine TX.thenR ?_
                            refine TX.blkR ?_
                            refine TX.thenR ?_
                            refine TX.thenR ?_
                            refine TX.blkR ?_
                            refine TX.blkR ?_
                            refine TX.thenR ?_
                            refine TX.thenR ?_
                            refine TX.blkR ?_
                            refine TX.thenR ?_
                            refine TX.fin0 (.inr rfl) (results2 rfl (RVal.tmp rfl) (RVal.tmp rfl)) ?_
                            have hr : treeS l root = none := by
                              first
                                | exact treeS_F (.inl (of_decide_eq_true g14))
                                | exact treeS_F (.inr (.inl (of_decide_eq_true g18)))
                                | exact treeS_F (.inr (.inr c23))
                                | exact tree_none hp0 hI.2.2.2.2 (treeStep_F hx c39 (by first | exact .inl (by simpa using g46) | exact .inr c52))
                                | exact tree_none hp0 hI.2.2.2.2 ((treeStep_T hx c39 hal h24).trans (treeOps_n (by omega) (treeOp_F (by first | exact .inl (of_decide_eq_true g78_0) | exact .inr (.inl (of_decide_eq_true g83_0)) | exact .inr (.inr c89_0)))))
                                | exact tree_none hp0 hI.2.2.2.2 ((treeStep_T hx c39 hal h24).trans (treeOps_2 (by omega) o0 (by omega) (treeOp_F (by first | exact .inl (of_decide_eq_true g78_1) | exact .inr (.inl (of_decide_eq_true g83_1)) | exact .inr (.inr c89_1)))))
                            rw [hr]; rfl
                          ·
                            have q78_1 := of_decide_eq_false g78_1
                            refine TL.gdY rfl rfl (pr_pure rfl) rfl ?_
                            refine TL.gdY rfl rfl (pr_pure rfl) rfl ?_
                            refine TL.gdY rfl rfl (pr_pure rfl) rfl ?_
                            refine TL.run (pr_pure rfl) rfl ?_
                            refine TL.run (pr_pure rfl) rfl ?_
                            refine TL.split (s := 83) rfl (fun g83_1 => ?_) (fun g83_1 => ?_)
                            ·
                              have q83_1 := of_decide_eq_true g83_1
                              refine TL.gdN rfl rfl rfl rfl ?_
                              refine TL.gdN rfl rfl rfl rfl ?_
                              refine TL.gdN rfl rfl rfl rfl ?_
                              refine TL.gdN rfl rfl rfl rfl ?_
                              refine TL.gdN rfl rfl rfl rfl ?_
                              refine TL.run (pr_pure rfl) rfl ?_
                              refine TL.nil ?_
                              refine TX.seqN ?_
                              refine TC.condT rfl ?_
                              refine TC.seq ?_
                              refine TC.region ?_
                              refine TL.run (pr_pure rfl) rfl ?_
                              refine TL.run (pr_pure rfl) rfl ?_
                              refine TL.nil ?_
                              refine TX.seqN ?_
                              refine TC.ret ?_
                              refine TX.thenR ?_
                              refine TX.blkR ?_
                              refine TX.thenR ?_
                              refine TX.thenR ?_
                              refine TX.blkR ?_
                              refine TX.blkR ?_
                              refine TX.thenR ?_
                              refine TX.thenR ?_
                              refine TX.blkR ?_
                              refine TX.thenR ?_
                              refine TX.fin0 (.inr rfl) (results2 rfl (RVal.tmp rfl) (RVal.tmp rfl)) ?_
                              have hr : treeS l root = none := by
                                first
                                  | exact treeS_F (.inl (of_decide_eq_true g14))
                                  | exact treeS_F (.inr (.inl (of_decide_eq_true g18)))
                                  | exact treeS_F (.inr (.inr c23))
                                  | exact tree_none hp0 hI.2.2.2.2 (treeStep_F hx c39 (by first | exact .inl (by simpa using g46) | exact .inr c52))
                                  | exact tree_none hp0 hI.2.2.2.2 ((treeStep_T hx c39 hal h24).trans (treeOps_n (by omega) (treeOp_F (by first | exact .inl (of_decide_eq_true g78_0) | exact .inr (.inl (of_decide_eq_true g83_0)) | exact .inr (.inr c89_0)))))
                                  | exact tree_none hp0 hI.2.2.2.2 ((treeStep_T hx c39 hal h24).trans (treeOps_2 (by omega) o0 (by omega) (treeOp_F (by first | exact .inl (of_decide_eq_true g78_1) | exact .inr (.inl (of_decide_eq_true g83_1)) | exact .inr (.inr c89_1)))))
                              rw [hr]; rfl
                            ·
                              have q83_1 := of_decide_eq_false g83_1
                              refine TL.gdY rfl rfl (pr_pure rfl) rfl ?_
                              refine TL.gdY rfl rfl (pr_pure rfl) rfl ?_
                              refine TL.gdY rfl rfl (pr_index rfl rfl (by omega) (by omega)) rfl ?_
                              refine TL.gdY rfl rfl (pr_own1 rfl (.here _) (ints_get (by first | omega | (simp; omega)))) rfl ?_
                              refine TL.gdY rfl rfl (pr_pure rfl) rfl ?_
                              refine TL.run (pr_pure rfl) rfl ?_
                              refine TL.nil ?_
                              refine TX.seqN ?_
                              refine TC.condD rfl (fun c89_1 => ?_) (fun c89_1 => ?_)
                              ·
                                refine TC.seq ?_
                                refine TC.region ?_
                                refine TL.run (pr_pure rfl) rfl ?_
                                refine TL.run (pr_pure rfl) rfl ?_
                                refine TL.nil ?_
                                refine TX.seqN ?_
                                refine TC.ret ?_
                                refine TX.thenR ?_
                                refine TX.blkR ?_
                                refine TX.thenR ?_
                                refine TX.thenR ?_
                                refine TX.blkR ?_
                                refine TX.blkR ?_
                                refine TX.thenR ?_
                                refine TX.thenR ?_
                                refine TX.blkR ?_
                                refine TX.thenR ?_
                                refine TX.fin0 (.inr rfl) (results2 rfl (RVal.tmp rfl) (RVal.tmp rfl)) ?_
                                have hr : treeS l root = none := by
                                  first
                                    | exact treeS_F (.inl (of_decide_eq_true g14))
                                    | exact treeS_F (.inr (.inl (of_decide_eq_true g18)))
                                    | exact treeS_F (.inr (.inr c23))
                                    | exact tree_none hp0 hI.2.2.2.2 (treeStep_F hx c39 (by first | exact .inl (by simpa using g46) | exact .inr c52))
                                    | exact tree_none hp0 hI.2.2.2.2 ((treeStep_T hx c39 hal h24).trans (treeOps_n (by omega) (treeOp_F (by first | exact .inl (of_decide_eq_true g78_0) | exact .inr (.inl (of_decide_eq_true g83_0)) | exact .inr (.inr c89_0)))))
                                    | exact tree_none hp0 hI.2.2.2.2 ((treeStep_T hx c39 hal h24).trans (treeOps_2 (by omega) o0 (by omega) (treeOp_F (by first | exact .inl (of_decide_eq_true g78_1) | exact .inr (.inl (of_decide_eq_true g83_1)) | exact .inr (.inr c89_1)))))
                                rw [hr]; rfl
                              ·
                                refine TC.skip ?_
                                refine TX.seqN ?_
                                refine TC.region ?_
                                refine TL.run (pr_pure rfl) rfl ?_
                                refine TL.run (pr_pure rfl) rfl ?_
                                refine TL.run (pr_pure rfl) rfl ?_
                                refine TL.run (pr_pure rfl) rfl ?_
                                refine TL.run (pr_index rfl rfl (by omega) (by omega)) rfl ?_
                                refine TL.run (pr_own1 rfl (.here _) (ints_get (by first | omega | (simp; omega)))) rfl ?_
                                refine TL.run ((by first | exact pr_add rfl rfl (by omega) (by omega) | exact pr_pure rfl)) rfl ?_
                                refine TL.run (pr_index rfl rfl (by omega) (by omega)) rfl ?_
                                refine TL.store1 rfl rfl rfl (.here _) (by simp; omega) rfl ?_
                                refine TL.nil ?_
                                rw [ints_set]
                                refine TX.blkN ?_
                                refine TX.seqN ?_
                                refine TC.region ?_
                                refine TL.run (pr_pure rfl) rfl ?_
                                refine TL.run (pr_add rfl rfl (by omega) (by omega)) rfl ?_
                                refine TL.run (pr_pure rfl) rfl ?_
                                refine TL.nil ?_
                                have o1 : treeOp (p.2.set t.l.toNat (p.2[p.1.toNat]?.getD 0 + 1)) p.1 t.r = some ((p.2.set t.l.toNat (p.2[p.1.toNat]?.getD 0 + 1)).set t.r.toNat ((p.2.set t.l.toNat (p.2[p.1.toNat]?.getD 0 + 1))[p.1.toNat]?.getD 0 + 1)) := treeOp_T (of_decide_eq_false g78_1) (of_decide_eq_false g83_1) c89_1
                                refine TX.rnd ?_
                                refine TR.succ ?_
                                refine TC.seq ?_
                                refine TC.seq ?_
                                refine TC.region ?_
                                refine TL.run (pr_pure rfl) rfl ?_
                                refine TL.run (pr_pure rfl) rfl ?_
                                refine TL.run (pr_pure rfl) rfl ?_
                                refine TL.nil ?_
                                refine TX.seqN ?_
                                refine TC.condD rfl (fun c61_2 => ?_) (fun c61_2 => ?_)
                                ·
                                  exact absurd c61_2 (by have := operandsI_le t.kind; omega)
                                ·
                                  refine TC.exit ?_
                                  refine TX.thenE ?_
                                  refine TX.thenE ?_
                                  refine TX.blkHit ?_
                                  refine TX.blkN ?_
                                  refine TX.seqN ?_
                                  refine TC.region ?_
                                  refine TL.run (pr_pure rfl) rfl ?_
                                  refine TL.run ((by first | exact pr_sub rfl rfl (by omega) (by omega) | exact pr_pure rfl)) rfl ?_
                                  refine TL.run (pr_pure rfl) rfl ?_
                                  refine TL.nil ?_
                                  exact TX.round (p.1 - 1, ((p.2.set t.l.toNat (p.2[p.1.toNat]?.getD 0 + 1)).set t.r.toNat ((p.2.set t.l.toNat (p.2[p.1.toNat]?.getD 0 + 1))[p.1.toNat]?.getD 0 + 1))) ⟨by omega, by omega, by simp [hI.2.2.1], (Nn_set (Nn_set hI.2.2.2.1 (by omega)) (by omega)), (tree_some hp0 hI.2.2.2.2 ((treeStep_T hx c39 hal h24).trans (treeOps_2 (by omega) o0 (by omega) o1)))⟩ ⟨rfl, rfl, rfl, rfl, rfl, trivial⟩ (fun w hw => hw) (by omega)
                        ·
                          refine TC.exit ?_
                          refine TX.thenE ?_
                          refine TX.thenE ?_
                          refine TX.blkHit ?_
                          refine TX.blkN ?_
                          refine TX.seqN ?_
                          refine TC.region ?_
                          refine TL.run (pr_pure rfl) rfl ?_
                          refine TL.run ((by first | exact pr_sub rfl rfl (by omega) (by omega) | exact pr_pure rfl)) rfl ?_
                          refine TL.run (pr_pure rfl) rfl ?_
                          refine TL.nil ?_
                          exact TX.round (p.1 - 1, (p.2.set t.l.toNat (p.2[p.1.toNat]?.getD 0 + 1))) ⟨by omega, by omega, by simp [hI.2.2.1], (Nn_set hI.2.2.2.1 (by omega)), (tree_some hp0 hI.2.2.2.2 ((treeStep_T hx c39 hal h24).trans (treeOps_1 (by omega) o0 (by omega))))⟩ ⟨rfl, rfl, rfl, rfl, rfl, trivial⟩ (fun w hw => hw) (by omega)
                ·
                  refine TC.exit ?_
                  refine TX.thenE ?_
                  refine TX.thenE ?_
                  refine TX.blkHit ?_
                  refine TX.blkN ?_
                  refine TX.seqN ?_
                  refine TC.region ?_
                  refine TL.run (pr_pure rfl) rfl ?_
                  refine TL.run ((by first | exact pr_sub rfl rfl (by omega) (by omega) | exact pr_pure rfl)) rfl ?_
                  refine TL.run (pr_pure rfl) rfl ?_
                  refine TL.nil ?_
                  exact TX.round (p.1 - 1, p.2) ⟨by omega, by omega, by simp [hI.2.2.1], hI.2.2.2.1, (by first | exact tree_some hp0 hI.2.2.2.2 (treeStep_0 c39) | exact tree_some hp0 hI.2.2.2.2 ((treeStep_T hx c39 hal h24).trans (treeOps_0 (by omega))))⟩ ⟨rfl, rfl, rfl, rfl, rfl, trivial⟩ (fun w hw => hw) (by omega)
        ·
          refine TC.exit ?_
          refine TX.thenE ?_
          refine TX.thenE ?_
          refine TX.blkHit ?_
          refine TX.seqN ?_
          refine TC.seq ?_
          refine TC.region ?_
          refine TL.run (pr_pure rfl) rfl ?_
          refine TL.run (pr_pure rfl) rfl ?_
          refine TL.run (pr_pure rfl) rfl ?_
          refine TL.nil ?_
          refine TX.seqN ?_
          refine TC.ret ?_
          refine TX.pub (by simp) (fun Hb le_b rd_b => ?_)
          refine TX.fin0 (.inr rfl) (results2 rfl (RVal.tmp rfl) (RVal.tmp rfl)) ?_
          have hr : treeS l root = some p.2 := tree_end hI.2.2.2.2 c32
          rw [hr]; exact ⟨_, rfl, by have := RdSl.ints (cap := l.length) rd_b (by omega); rwa [hI.2.2.1] at this, hI.2.2.1⟩

set_option maxRecDepth 100000 in
set_option maxHeartbeats 1000000 in
theorem TermMay_ok {H : Hp} {l : List Term} {v : Value} (root : Int) (hT : RdSl H 6 Term.cells v l) (hnames : ∀ t ∈ l, t.name.length ≤ 9223372036854775807) :
    FnS Try.prog 24 [v, .int .i64 root] H (.bool (treeS l root).isSome) := by
  refine FnS.enter Try.func24 Try.ntmps24 rfl rfl (fun w0 => ?_)
  refine TC.seq ?_
  refine TC.region ?_
  refine TL.run (pr_pure rfl) rfl ?_
  refine TL.nil ?_
  refine TX.seqN ?_
  refine TC.seq ?_
  refine TC.region ?_
  refine TL.run (pr_pure rfl) rfl ?_
  refine TL.run (pr_pure rfl) rfl ?_
  refine TL.call (enters rfl rfl rfl rfl) (tree_ok root hT hnames) rfl (fun v10 H10 hle10 hp10 => ?_)
  rcases treeR_cases hp10 with ⟨ht, rfl⟩ | ⟨d, sv, ht, rfl, hsv, hln⟩
  ·
    refine TL.run (pr_pure rfl) rfl ?_
    refine TL.run (pr_pure rfl) rfl ?_
    refine TL.run (pr_pure rfl) rfl ?_
    refine TL.run (pr_pure rfl) rfl ?_
    refine TL.run (pr_pure rfl) rfl ?_
    refine TL.nil ?_
    refine TX.seqN ?_
    refine TC.seq ?_
    refine TC.region ?_
    refine TL.run (pr_pure rfl) rfl ?_
    refine TL.run (pr_pure rfl) rfl ?_
    refine TL.nil ?_
    refine TX.seqN ?_
    refine TC.ret ?_
    exact TX.finS (.inr rfl) (results1 rfl (RVal.tmp rfl)) (congrArg Value.bool (by rw [ht]; rfl))
  ·
    refine TL.run (pr_pure rfl) rfl ?_
    refine TL.run (pr_pure rfl) rfl ?_
    refine TL.run (pr_pure rfl) rfl ?_
    refine TL.run (pr_pure rfl) rfl ?_
    refine TL.run (pr_pure rfl) rfl ?_
    refine TL.nil ?_
    refine TX.seqN ?_
    refine TC.seq ?_
    refine TC.region ?_
    refine TL.run (pr_pure rfl) rfl ?_
    refine TL.run (pr_pure rfl) rfl ?_
    refine TL.nil ?_
    refine TX.seqN ?_
    refine TC.ret ?_
    exact TX.finS (.inr rfl) (results1 rfl (RVal.tmp rfl)) (congrArg Value.bool (by rw [ht]; rfl))
end Go.Sx
