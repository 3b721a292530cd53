import Derived.Test.YticophnilpjdlaaWTree
import Derived.Test.YticophnilpjdlaaWKindR
import Derived.Test.YticophnilpjdlaaPureK4
set_option linter.unusedVariables false
set_option linter.unusedSimpArgs false
namespace Go.Sx
open Go Go.Proofs
set_option maxRecDepth 100000 in
set_option maxHeartbeats 1000000 in
theorem kindOf_ok {H : Hp} {l : List Term} {env : List Typing} {v ve : Value} (hT : RdSl H 6 Term.cells v l) (hE : RdSl H 3 Typing.cells ve env) :
    ∀ (f : Nat) (at_ : Int), Tr l f at_ → FnS Try.prog 21 [v, .int .i64 at_, ve] H (pairV (kRef l env f at_)) := by
  intro f
  induction f with
  | zero => intro at_ h; exact h.elim
  | succ f ih =>
  intro at_ hTr
  obtain ⟨h0, t, hx, hop, hfd, hTl0, _, hTr0, _⟩ := hTr
  have h1 : at_ < l.length := by have := (List.getElem?_eq_some_iff.1 hx).1; omega
  have hTl : 0 < operandsI t.kind → Tr l f t.l := fun h => hTl0 (by omega)
  have hTr : 1 < operandsI t.kind → Tr l f t.r := fun h => hTr0 (by omega)
  refine FnS.enter Try.func21 Try.ntmps21 rfl rfl (fun w0 => ?_)
  refine TC.seq ?_
  refine TC.region ?_
  refine TL.run (pr_pure rfl) rfl ?_
  refine TL.run (pr_pure rfl) rfl ?_
  refine TL.nil ?_
  refine TX.seqN ?_
  refine TC.seq ?_
  refine TC.region ?_
  refine TL.run (pr_pure rfl) rfl ?_
  refine TL.run (pr_pure rfl) rfl ?_
  refine TL.run (pr_indexSl rfl hT rfl (by omega) (by omega)) rfl ?_
  refine TL.run (pr_elA hT hx rfl rfl) rfl ?_
  refine TL.alloc rfl (fun b8 => ?_)
  refine TL.storeA rfl rfl rfl rfl rfl (.here _) rfl rfl ?_
  refine TL.nil ?_
  refine TX.seqN ?_
  refine TC.seq ?_
  refine TC.region ?_
  refine TL.run (pr_field rfl) rfl ?_
  refine TL.run (pr_own1 rfl (.here _) rfl) rfl ?_
  refine TL.callS (enters rfl rfl rfl rfl) (arity_ok t.kind) rfl ?_
  refine TL.run (pr_pure rfl) rfl ?_
  refine TL.nil ?_
  refine TX.seqN ?_
  refine TC.seq ?_
  refine TC.seq ?_
  refine TC.region ?_
  refine TL.run (pr_pure rfl) rfl ?_
  refine TL.run (pr_pure rfl) rfl ?_
  refine TL.nil ?_
  refine TX.seqN ?_
  refine TC.condD rfl (fun c21 => ?_) (fun c21 => ?_)
  ·
    refine TC.seq ?_
    refine TC.region ?_
    refine TL.run (pr_ownA rfl (.here _) rfl) rfl ?_
    refine TL.run (pr_pure rfl) rfl ?_
    refine TL.callS (enters rfl rfl rfl rfl) (leafKind_ok t hE) rfl ?_
    refine TL.run (pr_pure rfl) rfl ?_
    refine TL.run (pr_pure rfl) rfl ?_
    refine TL.run (pr_pure rfl) rfl ?_
    refine TL.run (pr_pure rfl) rfl ?_
    refine TL.nil ?_
    refine TX.seqN ?_
    refine TC.ret ?_
    refine TX.thenR ?_
    refine TX.finS (.inr rfl) (results2 rfl (RVal.tmp rfl) (RVal.tmp rfl)) ?_
    first
      | exact pair_ret (kRef_0 hx c21)
      | exact pair_ret (kRef_l hx c21 c36)
      | exact pair_ret (kRef_r hx c21 c36 c39 c49)
      | exact pair_ret (kRef_2 hx c21 c36 c39 c49)
      | exact pair_ret (kRef_1 hx c21 c36 c39)
  ·
    refine TC.skip ?_
    refine TX.seqN ?_
    refine TC.seq ?_
    refine TC.region ?_
    refine TL.run (pr_pure rfl) rfl ?_
    refine TL.run (pr_field rfl) rfl ?_
    refine TL.run (pr_own1 rfl (.here _) rfl) rfl ?_
    refine TL.run (pr_pure rfl) rfl ?_
    refine TL.callS (enters rfl rfl rfl rfl) (ih t.l (hTl (by omega))) rfl ?_
    refine TL.run (pr_pure rfl) rfl ?_
    refine TL.run (pr_pure rfl) rfl ?_
    refine TL.run (pr_pure rfl) rfl ?_
    refine TL.run (pr_pure rfl) rfl ?_
    refine TL.run (pr_pure rfl) rfl ?_
    refine TL.nil ?_
    refine TX.seqN ?_
    refine TC.seq ?_
    refine TC.seq ?_
    refine TC.region ?_
    refine TL.run (pr_pure rfl) rfl ?_
    refine TL.run (pr_pure rfl) rfl ?_
    refine TL.nil ?_
    refine TX.seqN ?_
    refine TC.condND rfl (fun c36 => ?_) (fun c36 => ?_)
    ·
      refine TC.seq ?_
      refine TC.region ?_
      refine TL.run (pr_pure rfl) rfl ?_
      refine TL.run (pr_pure rfl) rfl ?_
      refine TL.run (pr_pure rfl) rfl ?_
      refine TL.nil ?_
      refine TX.seqN ?_
      refine TC.ret ?_
      refine TX.thenR ?_
      refine TX.finS (.inr rfl) (results2 rfl (RVal.tmp rfl) (RVal.tmp rfl)) ?_
      first
        | exact pair_ret (kRef_0 hx c21)
        | exact pair_ret (kRef_l hx c21 c36)
        | exact pair_ret (kRef_r hx c21 c36 c39 c49)
        | exact pair_ret (kRef_2 hx c21 c36 c39 c49)
        | exact pair_ret (kRef_1 hx c21 c36 c39)
    ·
      refine TC.skip ?_
      refine TX.seqN ?_
      refine TC.seq ?_
      refine TC.region ?_
      refine TL.run (pr_pure rfl) rfl ?_
      refine TL.nil ?_
      refine TX.seqN ?_
      refine TC.seq ?_
      refine TC.seq ?_
      refine TC.region ?_
      refine TL.run (pr_pure rfl) rfl ?_
      refine TL.run (pr_pure rfl) rfl ?_
      refine TL.nil ?_
      refine TX.seqN ?_
      refine TC.condD rfl (fun c39 => ?_) (fun c39 => ?_)
      ·
        refine TC.seq ?_
        refine TC.region ?_
        refine TL.run (pr_pure rfl) rfl ?_
        refine TL.run (pr_field rfl) rfl ?_
        refine TL.run (pr_own1 rfl (.here _) rfl) rfl ?_
        refine TL.run (pr_pure rfl) rfl ?_
        refine TL.callS (enters rfl rfl rfl rfl) (ih t.r (hTr (by omega))) rfl ?_
        refine TL.run (pr_pure rfl) rfl ?_
        refine TL.run (pr_pure rfl) rfl ?_
        refine TL.run (pr_pure rfl) rfl ?_
        refine TL.run (pr_pure rfl) rfl ?_
        refine TL.run (pr_pure rfl) rfl ?_
        refine TL.nil ?_
        refine TX.seqN ?_
        refine TC.seq ?_
        refine TC.region ?_
        refine TL.run (pr_pure rfl) rfl ?_
        refine TL.run (pr_pure rfl) rfl ?_
        refine TL.nil ?_
        refine TX.seqN ?_
        refine TC.condND rfl (fun c49 => ?_) (fun c49 => ?_)
        ·
          refine TC.seq ?_
          refine TC.region ?_
          refine TL.run (pr_pure rfl) rfl ?_
          refine TL.run (pr_pure rfl) rfl ?_
          refine TL.run (pr_pure rfl) rfl ?_
          refine TL.nil ?_
          refine TX.seqN ?_
          refine TC.ret ?_
          refine TX.thenR ?_
          refine TX.finS (.inr rfl) (results2 rfl (RVal.tmp rfl) (RVal.tmp rfl)) ?_
          first
            | exact pair_ret (kRef_0 hx c21)
            | exact pair_ret (kRef_l hx c21 c36)
            | exact pair_ret (kRef_r hx c21 c36 c39 c49)
            | exact pair_ret (kRef_2 hx c21 c36 c39 c49)
            | exact pair_ret (kRef_1 hx c21 c36 c39)
        ·
          refine TC.skip ?_
          refine TX.seqN ?_
          refine TC.seq ?_
          refine TC.region ?_
          refine TL.run (pr_field rfl) rfl ?_
          refine TL.run (pr_own1 rfl (.here _) rfl) rfl ?_
          refine TL.run (pr_pure rfl) rfl ?_
          refine TL.run (pr_pure rfl) rfl ?_
          refine TL.callS (enters rfl rfl rfl rfl) (mixed_ok _ _ _) rfl ?_
          refine TL.run (pr_pure rfl) rfl ?_
          refine TL.run (pr_pure rfl) rfl ?_
          refine TL.run (pr_pure rfl) rfl ?_
          refine TL.run (pr_pure rfl) rfl ?_
          refine TL.nil ?_
          refine TX.seqN ?_
          refine TC.ret ?_
          refine TX.finS (.inr rfl) (results2 rfl (RVal.tmp rfl) (RVal.tmp rfl)) ?_
          first
            | exact pair_ret (kRef_0 hx c21)
            | exact pair_ret (kRef_l hx c21 c36)
            | exact pair_ret (kRef_r hx c21 c36 c39 c49)
            | exact pair_ret (kRef_2 hx c21 c36 c39 c49)
            | exact pair_ret (kRef_1 hx c21 c36 c39)
      ·
        refine TC.skip ?_
        refine TX.seqN ?_
        refine TC.seq ?_
        refine TC.region ?_
        refine TL.run (pr_field rfl) rfl ?_
        refine TL.run (pr_own1 rfl (.here _) rfl) rfl ?_
        refine TL.run (pr_pure rfl) rfl ?_
        refine TL.run (pr_pure rfl) rfl ?_
        refine TL.callS (enters rfl rfl rfl rfl) (mixed_ok _ _ _) rfl ?_
        refine TL.run (pr_pure rfl) rfl ?_
        refine TL.run (pr_pure rfl) rfl ?_
        refine TL.run (pr_pure rfl) rfl ?_
        refine TL.run (pr_pure rfl) rfl ?_
        refine TL.nil ?_
        refine TX.seqN ?_
        refine TC.ret ?_
        refine TX.finS (.inr rfl) (results2 rfl (RVal.tmp rfl) (RVal.tmp rfl)) ?_
        first
          | exact pair_ret (kRef_0 hx c21)
          | exact pair_ret (kRef_l hx c21 c36)
          | exact pair_ret (kRef_r hx c21 c36 c39 c49)
          | exact pair_ret (kRef_2 hx c21 c36 c39 c49)
          | exact pair_ret (kRef_1 hx c21 c36 c39)

set_option maxRecDepth 100000 in
set_option maxHeartbeats 1000000 in
theorem Kind_ok {H : Hp} {l : List Term} {env : List Typing} {v ve : Value} (root : Int) (hT : RdSl H 6 Term.cells v l) (hE : RdSl H 3 Typing.cells ve env) (hnames : ∀ t ∈ l, t.name.length ≤ 9223372036854775807) :
    FnS Try.prog 10 [v, .int .i64 root, ve] H (pairV (kindRef l root env)) := by
  refine FnS.enter Try.func10 Try.ntmps10 rfl rfl (fun w0 => ?_)
  refine TC.seq ?_
  refine TC.region ?_
  refine TL.run (pr_pure rfl) rfl ?_
  refine TL.run (pr_pure rfl) rfl ?_
  refine TL.nil ?_
  refine TX.seqN ?_
  refine TC.seq ?_
  refine TC.seq ?_
  refine TC.region ?_
  refine TL.run (pr_pure rfl) rfl ?_
  refine TL.run (pr_pure rfl) rfl ?_
  refine TL.callS (enters rfl rfl rfl rfl) (TermMay_ok root hT hnames) rfl ?_
  refine TL.run (pr_pure rfl) rfl ?_
  refine TL.nil ?_
  refine TX.seqN ?_
  refine TC.cond rfl (fun c11 => ?_) (fun c11 => ?_)
  ·
    refine TC.seq ?_
    refine TC.region ?_
    refine TL.run (pr_pure rfl) rfl ?_
    refine TL.run (pr_pure rfl) rfl ?_
    refine TL.nil ?_
    refine TX.seqN ?_
    refine TC.ret ?_
    refine TX.thenR ?_
    exact TX.finS (.inr rfl) (results2 rfl (RVal.tmp rfl) (RVal.tmp rfl)) (pair_ret (by unfold kindRef; first | (rw [if_neg (by rw [tree_may]; simpa using c11)]; done) | (rw [if_pos hm]; done)))
  ·
    refine TC.skip ?_
    refine TX.seqN ?_
    refine TC.seq ?_
    refine TC.region ?_
    have hm : mayB l root = true := by rw [tree_may]; simpa using c11
    refine TL.run (pr_pure rfl) rfl ?_
    refine TL.run (pr_pure rfl) rfl ?_
    refine TL.run (pr_pure rfl) rfl ?_
    refine TL.callS (enters rfl rfl rfl rfl) (kindOf_ok hT hE (root.toNat + 1) root (mayB_Tr hm)) rfl ?_
    refine TL.run (pr_pure rfl) rfl ?_
    refine TL.run (pr_pure rfl) rfl ?_
    refine TL.run (pr_pure rfl) rfl ?_
    refine TL.run (pr_pure rfl) rfl ?_
    refine TL.nil ?_
    refine TX.seqN ?_
    refine TC.ret ?_
    exact TX.finS (.inr rfl) (results2 rfl (RVal.tmp rfl) (RVal.tmp rfl)) (pair_ret (by unfold kindRef; first | (rw [if_neg (by rw [tree_may]; simpa using c11)]; done) | (rw [if_pos hm]; done)))
end Go.Sx
