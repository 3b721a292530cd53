import Derived.Test.YtepbjoagighhhaaWRef
import Derived.Test.YtepbjoagighhhaaWTree
set_option linter.unusedVariables false
set_option linter.unusedSimpArgs false
namespace Go.Sx
open Go Go.Proofs
set_option maxRecDepth 100000 in
set_option maxHeartbeats 4000000 in
theorem reval_ok {l : List Term} {env : List Bind} {v ve : Value} (hlen : ∀ b ∈ env, b.v.l.length ≤ 100000) :
    ∀ (f : Nat) (at_ : Int), Tr l f at_ → ∀ (H : Hp), RdSl H 6 Term.cells v l → RdSl H 5 Bind.cells ve env → EnvOk H env → Fn Try.prog 38 [v, .int .i64 at_, ve] H (fun r H1 => RV (evalW l env f at_) r H1) := by
  intro f
  induction f with
  | zero => intro at_ h; exact h.elim
  | succ f ih =>
  intro at_ hTr H hT hE hEv
  obtain ⟨h0, t, hx, hop, hfd, hTl0, _, hTr0, _⟩ := hTr
  have h1 : at_ < l.length := by have := (List.getElem?_eq_some_iff.1 hx).1; omega
  obtain ⟨ta, tc, rfl⟩ := hT.len
  obtain ⟨ea, ec, rfl⟩ := hE.len
  have hop2 := operandsI_le t.kind
  refine Fn.enter Try.func38 Try.ntmps38 rfl rfl (fun w0 => ?_)
  refine TC.seq ?_
  refine TC.region ?_
  refine TL.alloc rfl (fun b6 => ?_)
  refine TL.run (pr_pure rfl) rfl ?_
  refine TL.nil ?_
  refine TX.seqN ?_
  refine TC.seq ?_
  refine TC.region ?_
  refine TL.run (pr_pure rfl) rfl ?_
  refine TL.run (pr_pure rfl) rfl ?_
  refine TL.run (pr_indexSl rfl hT rfl (by omega) (by omega)) rfl ?_
  refine TL.run (pr_elA hT hx rfl rfl) rfl ?_
  refine TL.alloc rfl (fun b8 => ?_)
  refine TL.storeA rfl rfl rfl rfl rfl (.here _) rfl rfl ?_
  refine TL.nil ?_
  refine TX.seqN ?_
  refine TC.seq ?_
  refine TC.region ?_
  refine TL.run (pr_field rfl) rfl ?_
  refine TL.run (pr_own1 rfl (.here _) rfl) rfl ?_
  refine TL.callS (enters rfl rfl rfl rfl) (arity_ok t.kind) rfl ?_
  refine TL.run (pr_pure rfl) rfl ?_
  refine TL.nil ?_
  refine TX.seqN ?_
  refine TC.seq ?_
  refine TC.seq ?_
  refine TC.region ?_
  refine TL.run (pr_pure rfl) rfl ?_
  refine TL.run (pr_pure rfl) rfl ?_
  refine TL.nil ?_
  refine TX.seqN ?_
  refine TC.condD rfl (fun c22 => ?_) (fun c22 => ?_)
  ·
    refine TC.seq ?_
    refine TC.region ?_
    refine TL.run (pr_ownA rfl (.here _) rfl) rfl ?_
    refine TL.run (pr_pure rfl) rfl ?_
    refine TL.call (enters rfl rfl rfl rfl) (rleaf_ok hfd c22 hE hEv hlen) rfl (fun v25 H25 hle25 hp25 => ?_)
    obtain ⟨lv25, rfl, hR25⟩ := hp25
    replace hT := hT.le hle25
    replace hE := hE.le hle25
    replace hEv := hEv.le hle25
    obtain ⟨la25, lc25, rfl⟩ := RdSl.len hR25
    refine TL.run (pr_pure rfl) rfl ?_
    refine TL.run (pr_pure rfl) rfl ?_
    refine TL.storeA rfl rfl rfl rfl rfl (.there _ (.here _)) rfl rfl ?_
    refine TL.run (pr_pure rfl) rfl ?_
    refine TL.nil ?_
    refine TX.seqN ?_
    refine TC.ret ?_
    refine TX.thenR ?_
    exact TX.fin0 (.inr rfl) (results2 rfl (RVal.cellA rfl (.there _ (.here _)) rfl) (RVal.tmp rfl)) (RV.of (q := leafV t env) (evalW_leaf hx c22).symm hR25)
  ·
    refine TC.skip ?_
    refine TX.seqN ?_
    refine TC.seq ?_
    refine TC.region ?_
    refine TL.run (pr_pure rfl) rfl ?_
    refine TL.run (pr_field rfl) rfl ?_
    refine TL.run (pr_own1 rfl (.here _) rfl) rfl ?_
    refine TL.run (pr_pure rfl) rfl ?_
    refine TL.call (enters rfl rfl rfl rfl) (ih t.l (hTl0 (by omega)) _ hT hE hEv) rfl (fun v33 H33 hle33 hp33 => ?_)
    obtain ⟨lv33, rfl, hR33⟩ := hp33
    replace hT := hT.le hle33
    replace hE := hE.le hle33
    replace hEv := hEv.le hle33
    obtain ⟨la33, lc33, rfl⟩ := RdSl.len hR33
    refine TL.run (pr_pure rfl) rfl ?_
    refine TL.run (pr_pure rfl) rfl ?_
    refine TL.run (pr_pure rfl) rfl ?_
    refine TL.alloc rfl (fun b10 => ?_)
    refine TL.storeA rfl rfl rfl rfl rfl (.here _) rfl rfl ?_
    refine TL.run (pr_pure rfl) rfl ?_
    refine TL.nil ?_
    refine TX.seqN ?_
    refine TC.seq ?_
    refine TC.seq ?_
    refine TC.region ?_
    refine TL.run (pr_pure rfl) rfl ?_
    refine TL.run (pr_pure rfl) rfl ?_
    refine TL.nil ?_
    refine TX.seqN ?_
    refine TC.condND rfl (fun c37 => ?_) (fun c37 => ?_)
    ·
      refine TC.seq ?_
      refine TC.region ?_
      refine TL.run (pr_build rfl rfl) rfl ?_
      refine TL.run (pr_pure rfl) rfl ?_
      refine TL.storeA rfl rfl rfl rfl rfl (.there _ (.there _ (.here _))) rfl rfl ?_
      refine TL.run (pr_pure rfl) rfl ?_
      refine TL.nil ?_
      refine TX.seqN ?_
      refine TC.ret ?_
      refine TX.thenR ?_
      exact TX.fin0 (.inr rfl) (results2 rfl (RVal.cellA rfl (.there _ (.there _ (.here _))) rfl) (RVal.tmp rfl)) (RV.of (q := (v0, (evalW l env f t.l).2)) (evalW_a hx c22 c37).symm RdSl.nil)
    ·
      refine TC.skip ?_
      refine TX.seqN ?_
      refine TC.seq ?_
      refine TC.seq ?_
      refine TC.region ?_
      refine TL.run (pr_pure rfl) rfl ?_
      refine TL.run (pr_pure rfl) rfl ?_
      refine TL.nil ?_
      refine TX.seqN ?_
      refine TC.condD rfl (fun c41 => ?_) (fun c41 => ?_)
      ·
        refine TC.seq ?_
        refine TC.region ?_
        refine TL.run (pr_ownA rfl (.there _ (.here _)) rfl) rfl ?_
        refine TL.run (pr_ownA rfl (.here _) rfl) rfl ?_
        refine TL.call (enters rfl rfl rfl rfl) (rone_ok c41 hR33) rfl (fun v44 H44 hle44 hp44 => ?_)
        obtain ⟨lv44, rfl, hR44⟩ := hp44
        replace hT := hT.le hle44
        replace hE := hE.le hle44
        replace hEv := hEv.le hle44
        replace hR33 := hR33.le hle44
        obtain ⟨la44, lc44, rfl⟩ := RdSl.len hR44
        refine TL.run (pr_pure rfl) rfl ?_
        refine TL.run (pr_pure rfl) rfl ?_
        refine TL.storeA rfl rfl rfl rfl rfl (.there _ (.there _ (.here _))) rfl rfl ?_
        refine TL.run (pr_pure rfl) rfl ?_
        refine TL.nil ?_
        refine TX.seqN ?_
        refine TC.ret ?_
        refine TX.thenR ?_
        exact TX.fin0 (.inr rfl) (results2 rfl (RVal.cellA rfl (.there _ (.there _ (.here _))) rfl) (RVal.tmp rfl)) (RV.of (q := applyV t.kind (evalW l env f t.l).1 v0) (evalW_1 hx c22 c37 (by omega)).symm hR44)
      ·
        have ho2 : operandsI t.kind = 2 := by omega
        refine TC.skip ?_
        refine TX.seqN ?_
        refine TC.seq ?_
        refine TC.region ?_
        refine TL.run (pr_pure rfl) rfl ?_
        refine TL.run (pr_field rfl) rfl ?_
        refine TL.run (pr_own1 rfl (.there _ (.here _)) rfl) rfl ?_
        refine TL.run (pr_pure rfl) rfl ?_
        refine TL.call (enters rfl rfl rfl rfl) (ih t.r (hTr0 (by omega)) _ hT hE hEv) rfl (fun v52 H52 hle52 hp52 => ?_)
        obtain ⟨lv52, rfl, hR52⟩ := hp52
        replace hT := hT.le hle52
        replace hE := hE.le hle52
        replace hEv := hEv.le hle52
        replace hR33 := hR33.le hle52
        obtain ⟨la52, lc52, rfl⟩ := RdSl.len hR52
        refine TL.run (pr_pure rfl) rfl ?_
        refine TL.run (pr_pure rfl) rfl ?_
        refine TL.run (pr_pure rfl) rfl ?_
        refine TL.alloc rfl (fun b12 => ?_)
        refine TL.storeA rfl rfl rfl rfl rfl (.here _) rfl rfl ?_
        refine TL.run (pr_pure rfl) rfl ?_
        refine TL.nil ?_
        refine TX.seqN ?_
        refine TC.seq ?_
        refine TC.seq ?_
        refine TC.region ?_
        refine TL.run (pr_pure rfl) rfl ?_
        refine TL.run (pr_pure rfl) rfl ?_
        refine TL.nil ?_
        refine TX.seqN ?_
        refine TC.condND rfl (fun c56 => ?_) (fun c56 => ?_)
        ·
          refine TC.seq ?_
          refine TC.region ?_
          refine TL.run (pr_build rfl rfl) rfl ?_
          refine TL.run (pr_pure rfl) rfl ?_
          refine TL.storeA rfl rfl rfl rfl rfl (.there _ (.there _ (.there _ (.here _)))) rfl rfl ?_
          refine TL.run (pr_pure rfl) rfl ?_
          refine TL.nil ?_
          refine TX.seqN ?_
          refine TC.ret ?_
          refine TX.thenR ?_
          exact TX.fin0 (.inr rfl) (results2 rfl (RVal.cellA rfl (.there _ (.there _ (.there _ (.here _)))) rfl) (RVal.tmp rfl)) (RV.of (q := (v0, (evalW l env f t.r).2)) (evalW_b hx c22 c37 ho2 c56).symm RdSl.nil)
        ·
          refine TC.skip ?_
          refine TX.seqN ?_
          refine TC.seq ?_
          refine TC.region ?_
          refine TL.run (pr_ownA rfl (.there _ (.there _ (.here _))) rfl) rfl ?_
          refine TL.run (pr_ownA rfl (.there _ (.here _)) rfl) rfl ?_
          refine TL.run (pr_ownA rfl (.here _) rfl) rfl ?_
          refine TL.call (enters rfl rfl rfl rfl) (rtwo_ok ho2 (evalW_may _ _ (hTl0 (by omega)) c37) (evalW_may _ _ (hTr0 (by omega)) c56) hR33 hR52) rfl (fun v62 H62 hle62 hp62 => ?_)
          obtain ⟨lv62, rfl, hR62⟩ := hp62
          replace hT := hT.le hle62
          replace hE := hE.le hle62
          replace hEv := hEv.le hle62
          replace hR33 := hR33.le hle62
          replace hR52 := hR52.le hle62
          obtain ⟨la62, lc62, rfl⟩ := RdSl.len hR62
          refine TL.run (pr_pure rfl) rfl ?_
          refine TL.run (pr_pure rfl) rfl ?_
          refine TL.storeA rfl rfl rfl rfl rfl (.there _ (.there _ (.there _ (.here _)))) rfl rfl ?_
          refine TL.run (pr_pure rfl) rfl ?_
          refine TL.nil ?_
          refine TX.seqN ?_
          refine TC.ret ?_
          exact TX.fin0 (.inr rfl) (results2 rfl (RVal.cellA rfl (.there _ (.there _ (.there _ (.here _)))) rfl) (RVal.tmp rfl)) (RV.of (q := applyV t.kind (evalW l env f t.l).1 (evalW l env f t.r).1) (evalW_2 hx c22 c37 ho2 c56).symm hR62)

set_option maxRecDepth 100000 in
set_option maxHeartbeats 1000000 in
theorem rEval_ok {H : Hp} {l : List Term} {env : List Bind} {v ve : Value} (root : Int) (hT : RdSl H 6 Term.cells v l) (hE : RdSl H 5 Bind.cells ve env) (hEv : EnvOk H env) (hlen : ∀ b ∈ env, b.v.l.length ≤ 100000) (hnames : ∀ t ∈ l, t.name.length ≤ 9223372036854775807) :
    Fn Try.prog 23 [v, .int .i64 root, ve] H (fun r H1 => RV (evalS l root env) r H1) := by
  obtain ⟨ta, tc, rfl⟩ := hT.len
  obtain ⟨ea, ec, rfl⟩ := hE.len
  refine Fn.enter Try.func23 Try.ntmps23 rfl rfl (fun w0 => ?_)
  refine TC.seq ?_
  refine TC.region ?_
  refine TL.alloc rfl (fun b6 => ?_)
  refine TL.run (pr_pure rfl) rfl ?_
  refine TL.nil ?_
  refine TX.seqN ?_
  refine TC.seq ?_
  refine TC.seq ?_
  refine TC.region ?_
  refine TL.run (pr_pure rfl) rfl ?_
  refine TL.run (pr_pure rfl) rfl ?_
  refine TL.callS (enters rfl rfl rfl rfl) (TermMay_ok root hT hnames) rfl ?_
  refine TL.run (pr_pure rfl) rfl ?_
  refine TL.nil ?_
  refine TX.seqN ?_
  refine TC.cond rfl (fun c11 => ?_) (fun c11 => ?_)
  ·
    refine TC.seq ?_
    refine TC.region ?_
    refine TL.run (pr_build rfl rfl) rfl ?_
    refine TL.storeA rfl rfl rfl rfl rfl (.here _) rfl rfl ?_
    refine TL.run (pr_pure rfl) rfl ?_
    refine TL.nil ?_
    refine TX.seqN ?_
    refine TC.ret ?_
    refine TX.thenR ?_
    exact TX.fin0 (.inr rfl) (results2 rfl (RVal.cellA rfl (.here _) rfl) (RVal.tmp rfl)) (RV.of (q := (v0, 400)) (by unfold evalS; rw [if_neg (by rw [tree_may]; simpa using c11)]) RdSl.nil)
  ·
    refine TC.skip ?_
    refine TX.seqN ?_
    refine TC.seq ?_
    refine TC.region ?_
    have hm : mayB l root = true := by rw [tree_may]; simpa using c11
    refine TL.run (pr_pure rfl) rfl ?_
    refine TL.run (pr_pure rfl) rfl ?_
    refine TL.run (pr_pure rfl) rfl ?_
    refine TL.call (enters rfl rfl rfl rfl) (reval_ok hlen (root.toNat + 1) root (mayB_Tr hm) _ hT hE hEv) rfl (fun v16 H16 hle16 hp16 => ?_)
    obtain ⟨lv16, rfl, hR16⟩ := hp16
    replace hT := hT.le hle16
    replace hE := hE.le hle16
    replace hEv := hEv.le hle16
    obtain ⟨la16, lc16, rfl⟩ := RdSl.len hR16
    refine TL.run (pr_pure rfl) rfl ?_
    refine TL.run (pr_pure rfl) rfl ?_
    refine TL.storeA rfl rfl rfl rfl rfl (.here _) rfl rfl ?_
    refine TL.run (pr_pure rfl) rfl ?_
    refine TL.nil ?_
    refine TX.seqN ?_
    refine TC.ret ?_
    exact TX.fin0 (.inr rfl) (results2 rfl (RVal.cellA rfl (.here _) rfl) (RVal.tmp rfl)) (RV.of (q := evalW l env (root.toNat + 1) root) (by unfold evalS; rw [if_pos hm]) hR16)
end Go.Sx
