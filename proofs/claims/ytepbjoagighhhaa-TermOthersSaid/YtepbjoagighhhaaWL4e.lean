import Derived.Test.YtepbjoagighhhaaWL4
import Derived.Test.YtepbjoagighhhaaWTq
import Derived.Test.YtepbjoagighhhaaWVars
set_option linter.unusedVariables false
set_option linter.unusedSimpArgs false
namespace Go.Sx
open Go Go.Proofs
set_option maxRecDepth 100000 in
set_option maxHeartbeats 4000000 in
theorem TermOthers_ok {H : Hp} {l : List Term} {env more : List Bind} {v ve vm : Value} (root : Int) (hT : RdSl H 6 Term.cells v l) (hE : RdSl H 5 Bind.cells ve env) (hEv : EnvOk H env) (hM : RdSl H 5 Bind.cells vm more) (hMv : EnvOk H more) (hN : ∀ t ∈ l, t.name.length ≤ 9223372036854775807) :
    FnS Try.prog 11 [v, .int .i64 root, ve, vm] H (.bool true) := by
  obtain ⟨ta, tc, rfl⟩ := hT.len
  obtain ⟨ea, ec, rfl⟩ := hE.len
  obtain ⟨ma, mc, rfl⟩ := hM.len
  have hoth := others l root env more
  have hmx1 := hE.max
  have hmx2 := hM.max
  refine FnS.enter Try.func11 Try.ntmps11 rfl rfl (fun w0 => ?_)
  refine TC.seq ?_
  refine TC.region ?_
  refine TL.run (pr_pure rfl) rfl ?_
  refine TL.nil ?_
  refine TX.seqN ?_
  refine TC.seq ?_
  refine TC.seq ?_
  refine TC.region ?_
  refine TL.callS (enters rfl rfl rfl rfl) (first4_ok) rfl ?_
  refine TL.run (pr_pure rfl) rfl ?_
  refine TL.nil ?_
  refine TX.seqN ?_
  refine TC.cond rfl (fun c18 => ?_) (fun c18 => ?_)
  ·
    exact absurd c18 (by decide)
  ·
    refine TC.skip ?_
    refine TX.seqN ?_
    refine TC.seq ?_
    refine TC.seq ?_
    refine TC.region ?_
    refine TL.run (pr_pure rfl) rfl ?_
    refine TL.run (pr_lenSl rfl rfl hT) rfl ?_
    refine TL.run (pr_pure rfl) rfl ?_
    refine TL.run (pr_pure rfl) rfl ?_
    refine TL.split (s := 22) rfl (fun g22 => ?_) (fun g22 => ?_)
    ·
      have q22 := of_decide_eq_true g22
      refine TL.gdN rfl rfl rfl rfl ?_
      refine TL.gdN rfl rfl rfl rfl ?_
      refine TL.gdN rfl rfl rfl rfl ?_
      refine TL.run (pr_pure rfl) rfl ?_
      refine TL.run (pr_pure rfl) rfl ?_
      refine TL.gdN rfl rfl rfl rfl ?_
      refine TL.gdN rfl rfl rfl rfl ?_
      refine TL.gdN rfl rfl rfl rfl ?_
      refine TL.run (pr_pure rfl) rfl ?_
      refine TL.nil ?_
      refine TX.seqN ?_
      refine TC.condT rfl ?_
      refine TC.seq ?_
      refine TC.region ?_
      refine TL.run (pr_pure rfl) rfl ?_
      refine TL.nil ?_
      refine TX.seqN ?_
      refine TC.ret ?_
      refine TX.thenR ?_
      exact TX.finS (.inr rfl) (results1 rfl (RVal.tmp rfl)) (congrArg Value.bool (by first | rfl | (simp_all; done)))
    ·
      have q22 := of_decide_eq_false g22
      refine TL.gdY rfl rfl (pr_pure rfl) rfl ?_
      refine TL.callSY rfl rfl (enters rfl rfl rfl rfl) (some4_ok hE hEv) rfl ?_
      refine TL.gdY rfl rfl (pr_pure rfl) rfl ?_
      refine TL.run (pr_pure rfl) rfl ?_
      refine TL.run (pr_pure rfl) rfl ?_
      refine TL.split (s := 27) rfl (fun g27 => ?_) (fun g27 => ?_)
      ·
        refine TL.gdN rfl rfl rfl rfl ?_
        refine TL.gdN rfl rfl rfl rfl ?_
        refine TL.gdN rfl rfl rfl rfl ?_
        refine TL.run (pr_pure rfl) rfl ?_
        refine TL.nil ?_
        refine TX.seqN ?_
        refine TC.condT rfl ?_
        refine TC.seq ?_
        refine TC.region ?_
        refine TL.run (pr_pure rfl) rfl ?_
        refine TL.nil ?_
        refine TX.seqN ?_
        refine TC.ret ?_
        refine TX.thenR ?_
        exact TX.finS (.inr rfl) (results1 rfl (RVal.tmp rfl)) (congrArg Value.bool (by first | rfl | (simp_all; done)))
      ·
        refine TL.gdY rfl rfl (pr_pure rfl) rfl ?_
        refine TL.callSY rfl rfl (enters rfl rfl rfl rfl) (some4_ok hM hMv) rfl ?_
        refine TL.gdY rfl rfl (pr_pure rfl) rfl ?_
        refine TL.run (pr_pure rfl) rfl ?_
        refine TL.nil ?_
        refine TX.seqN ?_
        refine TC.cond rfl (fun c31 => ?_) (fun c31 => ?_)
        ·
          refine TC.seq ?_
          refine TC.region ?_
          refine TL.run (pr_pure rfl) rfl ?_
          refine TL.nil ?_
          refine TX.seqN ?_
          refine TC.ret ?_
          refine TX.thenR ?_
          exact TX.finS (.inr rfl) (results1 rfl (RVal.tmp rfl)) (congrArg Value.bool (by first | rfl | (simp_all; done)))
        ·
          have hsm : someB env = true ∧ someB more = true := by simp_all
          obtain ⟨hle1, hlen⟩ := someB_T hsm.1
          obtain ⟨hle2, hmlen⟩ := someB_T hsm.2
          refine TC.skip ?_
          refine TX.seqN ?_
          refine TC.seq ?_
          refine TC.region ?_
          refine TL.run (pr_pure rfl) rfl ?_
          refine TL.run (pr_pure rfl) rfl ?_
          refine TL.call (enters rfl rfl rfl rfl) (Vars_ok root hT hN) rfl (fun v34 H34 hle34 hp34 => ?_)
          replace hT := hT.le hle34
          replace hE := hE.le hle34
          replace hEv := hEv.le hle34
          replace hM := hM.le hle34
          replace hMv := hMv.le hle34
          have hV : RdSl H34 1 Str.cells v34 (varsS l root) := hp34
          have hVm := varsS_len l root
          obtain ⟨va, vc, rfl⟩ := hV.len
          refine TL.run (pr_pure rfl) rfl ?_
          refine TL.nil ?_
          refine TX.seqN ?_
          refine TC.seq ?_
          refine TC.region ?_
          refine TL.run (pr_pure rfl) rfl ?_
          refine TL.nil ?_
          refine TX.seqN ?_
          refine TC.seq ?_
          refine TC.seq ?_
          refine TC.region ?_
          refine TL.run (pr_pure rfl) rfl ?_
          refine TL.nil ?_
          refine TX.seqN ?_
          refine TC.block ?_
          refine TC.loop4 (V := fun k v ob H1 => [(10, v), (11, .int .i64 k)]) (K := [(0, _), (1, _), (2, _), (3, _), (8, _), (9, _)]) (L := fun k v ob H1 => St [] w0 H H34 (ob)) (I := fun k v ob H1 => OwnSl 5 Bind.cells2 v (keepB (varsS l root) (more.take k.toNat)) ob ∧ 0 ≤ k ∧ k ≤ more.length) (μ := fun k => (more.length - k).toNat) 0 (.slice none 0 0) [] H34 ⟨rfl, rfl, rfl, rfl, rfl, rfl, rfl, rfl, trivial⟩ ⟨OwnSl.nil, by omega, by omega⟩ (fun w hw => hw) (fun k v ob H1 hI => ?_)
          obtain ⟨hO, h0, h1⟩ := hI
          have hkl := keepB_len (varsS l root) (more.take k.toNat)
          have hkl2 : (more.take k.toNat).length ≤ 40 := by simp; omega
          obtain ⟨ka, kc, rfl⟩ := hO.form
          refine TC.seq ?_
          refine TC.seq ?_
          refine TC.region ?_
          refine TL.run (pr_pure rfl) rfl ?_
          refine TL.run (pr_pure rfl) rfl ?_
          refine TL.run (pr_lenSl rfl rfl hM) rfl ?_
          refine TL.run (pr_pure rfl) rfl ?_
          refine TL.nil ?_
          refine TX.seqN ?_
          refine TC.condD rfl (fun c38 => ?_) (fun c38 => ?_)
          ·
            obtain ⟨x, hx⟩ := getSome (l := more) h0 c38
            have hxV := hMv x (List.mem_of_getElem? hx)
            obtain ⟨xn, xv, xl⟩ := x
            dsimp only at hxV
            obtain ⟨xa, xc, rfl⟩ := RdSl.len hxV
            refine TC.skip ?_
            refine TX.seqN ?_
            refine TC.seq ?_
            refine TC.block ?_
            refine TC.seq ?_
            refine TC.region ?_
            refine TL.run (pr_pure rfl) rfl ?_
            refine TL.run (pr_pure rfl) rfl ?_
            refine TL.run (pr_pure rfl) rfl ?_
            refine TL.run (pr_indexSl rfl hM rfl (by omega) (by omega)) rfl ?_
            refine TL.run (pr_field rfl) rfl ?_
            refine TL.run (pr_el1 hM hx rfl rfl) rfl ?_
            refine TL.callS (enters rfl rfl rfl rfl) (n_Has_ok _ hV) rfl ?_
            refine TL.run (pr_pure rfl) rfl ?_
            refine TL.nil ?_
            refine TX.seqN ?_
            refine TC.cond rfl (fun c48 => ?_) (fun c48 => ?_)
            ·
              refine TC.region ?_
              refine TL.run (pr_pure rfl) rfl ?_
              refine TL.run (pr_pure rfl) rfl ?_
              refine TL.run (pr_pure rfl) rfl ?_
              refine TL.run (pr_indexSl rfl hM rfl (by omega) (by omega)) rfl ?_
              refine TL.run (pr_elA hM hx rfl rfl) rfl ?_
              refine TL.bslice rfl rfl rfl rfl (fun b54 => ?_)
              refine TL.append (enc := Bind.cells2) rfl rfl rfl hO (Src.own [⟨xn, xv, .slice xa xv.l.length xc⟩] (.here _) rfl rfl) (by simp; omega) rfl (.skip _ .all) rfl (fun a55 c55 ob55 hO55 => ?_)
              refine TL.run (pr_pure rfl) rfl ?_
              refine TL.nil ?_
              refine TX.blkN ?_
              refine TX.seqN ?_
              refine TC.region ?_
              refine TL.run (pr_pure rfl) rfl ?_
              refine TL.run ((by first | exact pr_add rfl rfl (by omega) (by omega) | exact pr_pure rfl)) rfl ?_
              refine TL.run (pr_pure rfl) rfl ?_
              refine TL.nil ?_
              exact TX.round4 (k + 1) _ ob55 H34 ⟨by rw [take_snoc h0 hx, keepB_snoc, if_neg (by simpa using c48)]; exact hO55, by omega, by omega⟩ ⟨rfl, rfl, rfl, rfl, rfl, rfl, rfl, rfl, trivial⟩ (fun w hw => hw.drop) (by omega)
            ·
              refine TC.skip ?_
              refine TX.blkN ?_
              refine TX.seqN ?_
              refine TC.region ?_
              refine TL.run (pr_pure rfl) rfl ?_
              refine TL.run ((by first | exact pr_add rfl rfl (by omega) (by omega) | exact pr_pure rfl)) rfl ?_
              refine TL.run (pr_pure rfl) rfl ?_
              refine TL.nil ?_
              exact TX.round4 (k + 1) _ ob H34 ⟨by rw [take_snoc h0 hx, keepB_snoc, if_pos (by simpa using c48)]; exact hO, by omega, by omega⟩ ⟨rfl, rfl, rfl, rfl, rfl, rfl, rfl, rfl, trivial⟩ (fun w hw => hw) (by omega)
          ·
            refine TC.exit ?_
            refine TX.thenE ?_
            refine TX.thenE ?_
            refine TX.blkHit ?_
            refine TX.seqN ?_
            refine TC.seq ?_
            refine TC.region ?_
            refine TL.run (pr_pure rfl) rfl ?_
            refine TL.run (pr_pure rfl) rfl ?_
            refine TL.append (enc := Bind.cells2) rfl rfl rfl hO (Src.sl (hE.to2 hEv.slb)) (by omega) rfl .all rfl (fun a58 c58 ob58 hO58 => ?_)
            refine TL.run (pr_pure rfl) rfl ?_
            refine TL.nil ?_
            refine TX.seqN ?_
            refine TC.seq ?_
            refine TC.seq ?_
            refine TC.region ?_
            refine TL.run (pr_pure rfl) rfl ?_
            refine TL.nil ?_
            refine TX.seqN ?_
            refine TC.block ?_
            refine TC.loop4 (V := fun i v ob H1 => [(10, v), (12, .int .i64 i)]) (K := [(0, _), (1, _), (2, _), (8, _)]) (L := fun i v ob H1 => St [] w0 H H34 (ob)) (I := fun i v ob H1 => OwnSl 5 Bind.cells2 v ((keepB (varsS l root) (more.take k.toNat) ++ env) ++ (env.take i.toNat).map junkV) ob ∧ 0 ≤ i ∧ i ≤ env.length) (μ := fun i => (env.length - i).toNat) 0 _ ob58 H34 ⟨rfl, rfl, rfl, rfl, rfl, rfl, trivial⟩ ⟨by simpa using hO58, by omega, by omega⟩ (fun w hw => hw) (fun i v ob H1 hI => ?_)
            obtain ⟨hO, i0, i1⟩ := hI
            obtain ⟨ka2, kc2, rfl⟩ := hO.form
            have hil : (env.take i.toNat).length ≤ 40 := by simp; omega
            refine TC.seq ?_
            refine TC.seq ?_
            refine TC.region ?_
            refine TL.run (pr_pure rfl) rfl ?_
            refine TL.run (pr_pure rfl) rfl ?_
            refine TL.run (pr_lenSl rfl rfl hE) rfl ?_
            refine TL.run (pr_pure rfl) rfl ?_
            refine TL.nil ?_
            refine TX.seqN ?_
            refine TC.condD rfl (fun c62 => ?_) (fun c62 => ?_)
            ·
              obtain ⟨y, hy⟩ := getSome (l := env) i0 c62
              refine TC.skip ?_
              refine TX.seqN ?_
              refine TC.seq ?_
              refine TC.block ?_
              refine TC.region ?_
              refine TL.run (pr_pure rfl) rfl ?_
              refine TL.run (pr_pure rfl) rfl ?_
              refine TL.run (pr_pure rfl) rfl ?_
              refine TL.run (pr_indexSl rfl hE rfl (by omega) (by omega)) rfl ?_
              refine TL.run (pr_field rfl) rfl ?_
              refine TL.run (pr_el1 hE hy rfl rfl) rfl ?_
              refine TL.run (pr_build rfl rfl) rfl ?_
              refine TL.run (pr_build rfl rfl) rfl ?_
              refine TL.bslice rfl rfl rfl rfl (fun b73 => ?_)
              refine TL.append (enc := Bind.cells2) rfl rfl rfl hO (Src.own [junkV y] (.here _) rfl rfl) (by simp; omega) rfl (.skip _ .all) rfl (fun a74 c74 ob74 hO74 => ?_)
              refine TL.run (pr_pure rfl) rfl ?_
              refine TL.nil ?_
              refine TX.blkN ?_
              refine TX.seqN ?_
              refine TC.region ?_
              refine TL.run (pr_pure rfl) rfl ?_
              refine TL.run ((by first | exact pr_add rfl rfl (by omega) (by omega) | exact pr_pure rfl)) rfl ?_
              refine TL.run (pr_pure rfl) rfl ?_
              refine TL.nil ?_
              exact TX.round4 (i + 1) _ ob74 H34 ⟨by rw [map_take_snoc i0 hy, ← List.append_assoc]; exact hO74, by omega, by omega⟩ ⟨rfl, rfl, rfl, rfl, rfl, rfl, trivial⟩ (fun w hw => hw.drop) (by omega)
            ·
              refine TC.exit ?_
              refine TX.thenE ?_
              refine TX.thenE ?_
              refine TX.blkHit ?_
              refine TX.seqN ?_
              refine TC.seq ?_
              refine TC.region ?_
              refine TL.pubO hO .all (by simp) (fun HA leA hA2 => ?_)
              replace hT := hT.le leA
              replace hE := hE.le leA
              replace hEv := hEv.le leA
              replace hM := hM.le leA
              replace hMv := hMv.le leA
              replace hV := hV.le leA
              have tk := take_all c38 h0
              have ti := take_all c62 i0
              have hAV : EnvOk HA ((keepB (varsS l root) (more.take k.toNat) ++ env) ++ (env.take i.toNat).map junkV) := others_env hEv hMv _ _
              have hA := hA2.of2 hAV.slb
              have hAlen : ∀ b ∈ ((keepB (varsS l root) (more.take k.toNat) ++ env) ++ (env.take i.toNat).map junkV), b.v.l.length ≤ 100000 := others_len hlen hmlen _ _
              have hz : evalS l root ((keepB (varsS l root) (more.take k.toNat) ++ env) ++ (env.take i.toNat).map junkV) = evalS l root env := by rw [tk, ti]; exact hoth
              have hs := sameV_refl (evalS l root env).1
              refine TL.run (pr_pure rfl) rfl ?_
              refine TL.run (pr_pure rfl) rfl ?_
              refine TL.run (pr_pure rfl) rfl ?_
              refine TL.call (enters rfl rfl rfl rfl) (Eval_ok root hT hE hEv hlen hN) rfl (fun v79 H79 hle79 hp79 => ?_)
              obtain ⟨lv79, rfl, hR79⟩ := hp79
              replace hT := hT.le hle79
              replace hE := hE.le hle79
              replace hEv := hEv.le hle79
              replace hM := hM.le hle79
              replace hMv := hMv.le hle79
              replace hV := hV.le hle79
              replace hA := hA.le hle79
              replace hAV := hAV.le hle79
              obtain ⟨la79, lc79, rfl⟩ := RdSl.len hR79
              refine TL.run (pr_pure rfl) rfl ?_
              refine TL.run (pr_pure rfl) rfl ?_
              refine TL.run (pr_pure rfl) rfl ?_
              refine TL.alloc rfl (fun b13 => ?_)
              refine TL.storeA rfl rfl rfl rfl rfl (.here _) rfl rfl ?_
              refine TL.run (pr_pure rfl) rfl ?_
              refine TL.nil ?_
              refine TX.seqN ?_
              refine TC.seq ?_
              refine TC.region ?_
              refine TL.run (pr_pure rfl) rfl ?_
              refine TL.run (pr_pure rfl) rfl ?_
              refine TL.run (pr_pure rfl) rfl ?_
              refine TL.call (enters rfl rfl rfl rfl) (Eval_ok root hT hA hAV hAlen hN) rfl (fun v86 H86 hle86 hp86 => ?_)
              obtain ⟨lv86, rfl, hR86⟩ := hp86
              replace hT := hT.le hle86
              replace hE := hE.le hle86
              replace hEv := hEv.le hle86
              replace hM := hM.le hle86
              replace hMv := hMv.le hle86
              replace hV := hV.le hle86
              replace hA := hA.le hle86
              replace hAV := hAV.le hle86
              replace hR79 := hR79.le hle86
              obtain ⟨la86, lc86, rfl⟩ := RdSl.len hR86
              refine TL.run (pr_pure rfl) rfl ?_
              refine TL.run (pr_pure rfl) rfl ?_
              refine TL.run (pr_pure rfl) rfl ?_
              refine TL.alloc rfl (fun b15 => ?_)
              refine TL.storeA rfl rfl rfl rfl rfl (.here _) rfl rfl ?_
              refine TL.run (pr_pure rfl) rfl ?_
              refine TL.nil ?_
              refine TX.seqN ?_
              refine TC.seq ?_
              refine TC.region ?_
              refine TL.run (pr_pure rfl) rfl ?_
              refine TL.run (pr_pure rfl) rfl ?_
              refine TL.run (pr_pure rfl) rfl ?_
              refine TL.run (pr_pure rfl) rfl ?_
              refine TL.split (s := 92) rfl (fun g92 => ?_) (fun g92 => ?_)
              ·
                have q92 := of_decide_eq_true g92
                refine TL.gdY rfl rfl (pr_ownA rfl (.there _ (.here _)) rfl) rfl ?_
                refine TL.gdY rfl rfl (pr_ownA rfl (.here _) rfl) rfl ?_
                refine TL.callSY rfl rfl (enters rfl rfl rfl rfl) (dSame_ok hR79 hR86) rfl ?_
                refine TL.run (pr_pure rfl) rfl ?_
                refine TL.run (pr_pure rfl) rfl ?_
                refine TL.nil ?_
                refine TX.seqN ?_
                refine TC.ret ?_
                exact TX.finS (.inr rfl) (results1 rfl (RVal.tmp rfl)) (congrArg Value.bool (by first | rfl | (simp_all; done)))
              ·
                have q92 := of_decide_eq_false g92
                refine TL.gdN rfl rfl rfl rfl ?_
                refine TL.gdN rfl rfl rfl rfl ?_
                refine TL.gdN rfl rfl rfl rfl ?_
                refine TL.run (pr_pure rfl) rfl ?_
                refine TL.run (pr_pure rfl) rfl ?_
                refine TL.nil ?_
                refine TX.seqN ?_
                refine TC.ret ?_
                exact TX.finS (.inr rfl) (results1 rfl (RVal.tmp rfl)) (congrArg Value.bool (by first | rfl | (simp_all; done)))
end Go.Sx
