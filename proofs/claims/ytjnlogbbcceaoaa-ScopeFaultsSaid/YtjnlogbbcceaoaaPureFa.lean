import Derived.Test.YtjnlogbbcceaoaaPuR
set_option linter.unusedVariables false
set_option linter.unusedSimpArgs false
namespace Go.Sx
open Go
/-! ## the programs of ScopeFaults -/
def eqF (a b : SFault) : Bool := (a.e == b.e) && ((a.part == b.part) && ((a.at_ == b.at_) && true))
abbrev nS : Sp := (none, 0)
def endS : SStep := ⟨0, [], [], [], [], -1, [], nS, [], nS, [], nS, -1⟩
def stopP (sp qp : Sp) : SProg := ⟨[], nS, [], nS, [⟨sMain, [], nS, [], nS, [endS], sp⟩], qp⟩
theorem stop_check (sp qp : Sp) : checkS (stopP sp qp) = okF := by rfl
theorem nil_check : checkS nilPg = ⟨1504, -1, -1⟩ := by rfl
theorem stop_find (sp qp : Sp) : findS (stopP sp qp).procs sMain = 0 := by rfl
theorem stop_no (sp qp : Sp) : findS (stopP sp qp).procs [120] = -1 := by rfl
theorem stop_rise {sp qp : Sp} {pg : SProg} (h : pg.bare = riseS (stopP sp qp)) : pg.procs.length = 1 := by
  have h1 : pg.bare.procs.length = (riseS (stopP sp qp)).procs.length := by rw [h]
  rw [rise_good (by rw [stop_check]; rfl)] at h1
  simpa [SProg.bare, stopP] using h1
theorem end_ok (H : Hp) : StepOk H endS := ⟨RdSl.nil, RdSl.nil, (fun _ h => by cases h), RdSl.nil⟩
theorem stop_prog {H : Hp} {sp qp : Sp} (h1 : RdSl H 10 SStep.cells (.slice sp.1 1 sp.2) [endS]) (h2 : RdSl H 4 SProc.cells (.slice qp.1 1 qp.2) [⟨sMain, [], nS, [], nS, [endS], sp⟩]) : ProgOk H (stopP sp qp) :=
  ⟨RdSl.nil, (fun _ h => by cases h), RdSl.nil, (fun _ h => by cases h), h2, fun q hq => by
    simp [stopP] at hq; subst hq
    exact ⟨RdSl.nil, (fun _ h => by cases h), by simp, RdSl.nil, (fun _ h => by cases h), h1, fun s hs => by simp at hs; subst hs; exact end_ok H⟩⟩
def letS (name : Str) (t nx : Int) : SStep := ⟨1, name, [], [], [], t, [], nS, [], nS, [], nS, nx⟩
def prS (t nx : Int) : SStep := ⟨2, [], [], [], [], t, [], nS, [], nS, [], nS, nx⟩
def callS (pr : Str) (args : List Int) (ap : Sp) : SStep := ⟨6, [], [], [], pr, -1, args, ap, [], nS, [], nS, -1⟩
def openS (name : Str) (cp : Sp) : SStep := ⟨8, name, [97], [112], [], -1, [], nS, [⟨[98], [102], [], nS⟩], cp, [], nS, 1⟩
def oneT : Term := ⟨1, [], 1, [], -1, -1⟩
def varT0 (name : Str) : Term := ⟨0, name, 0, [], -1, -1⟩
abbrev fs3 (name : Str) : List Term := [oneT, oneT, varT0 name]
def fProc (fn : Str) (sf : Sp) : SProc := ⟨fn, [], nS, [], nS, [endS], sf⟩
def mProc (name mn : Str) (tp : Sp) (ss : List SStep) (sp : Sp) : SProc := ⟨mn, [], nS, fs3 name, tp, ss, sp⟩
def fPg (f m : SProc) (qp : Sp) : SProg := ⟨[], nS, [], nS, [f, m], qp⟩
section
variable {name : Str}
theorem may_let (hn : nameMay name = true) (t nx : Int) : mayS (letS name t nx) = true := by simp [mayS, letS, badX, bareS, goesB, hn]
theorem may_pr (t nx : Int) : mayS (prS t nx) = true := by simp [mayS, prS, badX, bareS, goesB]
theorem may_call {pr : Str} (hn : nameMay pr = true) {args : List Int} {ap : Sp} (h : args.length ≤ 6) : mayS (callS pr args ap) = true := by
  have h' : (args.length : Int) ≤ 6 := by omega
  simp [mayS, callS, badX, bareS, goesB, hn, h']
theorem may_end : mayS endS = true := by rfl
theorem may_open (hn : nameMay name = true) (cp : Sp) : mayS (openS name cp) = true := by
  have h1 : nameMay [97] = true := by decide
  have h2 : nameMay [98] = true := by decide
  have h3 : nameMay [102] = true := by decide
  have h4 : nameMay [112] = true := by decide
  simp [mayS, openS, badX, bareS, goesB, castBad, hn, h1, h2, h3, h4]
theorem f102 : nameMay [102] = true := by decide
theorem fmain : nameMay sMain = true := by decide
theorem mt0 : mayB (fs3 name) 0 = true := by simp [mayB, mayW, fs3, oneT, operandsI, fieldsB, opW]
theorem mt1 : mayB (fs3 name) 1 = true := by simp [mayB, mayW, fs3, oneT, operandsI, fieldsB, opW]
theorem mt2 (hn : nameMay name = true) : mayB (fs3 name) 2 = true := by simp [mayB, mayW, fs3, oneT, varT0, operandsI, fieldsB, opW, hn]
theorem pt0 : postS (fs3 name) 0 = [0] := by simp [postS, postW, fs3, oneT]
theorem pt1 : postS (fs3 name) 1 = [1] := by simp [postS, postW, fs3, oneT]
theorem pt2 : postS (fs3 name) 2 = [2] := by simp [postS, postW, fs3, varT0]
theorem fhead (fn mn : Str) (sf : Sp) (m : SProc) (h : nameMay fn = true) : headF [fProc fn sf, m] 0 (fProc fn sf) = okF := by
  simp [headF, headGood, fProc, h, findS, placeS, onceS, endS]
theorem fshape (fn : Str) (sf : Sp) : shapeF 0 (fProc fn sf) = okF := by rfl
theorem mhead (fn mn : Str) (sf tp sp : Sp) (ss : List SStep) (h : nameMay mn = true) (hne : fn ≠ mn) (h1 : 1 ≤ ss.length) (h2 : ss.length ≤ 80) : headF [fProc fn sf, mProc name mn tp ss sp] 1 (mProc name mn tp ss sp) = okF := by
  have e : placeS [fn, mn] mn = 1 := by simp [placeS, hne]
  unfold headF
  rw [if_neg, if_neg]
  · simp [findS, fProc, mProc, e, onceS]
  · have h3 : (1 : Int) ≤ ss.length := by omega
    have h4 : (ss.length : Int) ≤ 80 := by omega
    simp [headGood, mProc, h, h3, h4]
theorem mhead2 (sf tp sp : Sp) (ss : List SStep) (h1 : 1 ≤ ss.length) (h2 : ss.length ≤ 80) : headF [fProc sMain sf, mProc name sMain tp ss sp] 1 (mProc name sMain tp ss sp) = ⟨1501, 1, -1⟩ := by
  have e : placeS [sMain, sMain] sMain = 0 := by simp [placeS]
  unfold headF
  rw [if_neg, if_pos]
  · simp [findS, fProc, mProc, e]
  · have h3 : (1 : Int) ≤ ss.length := by omega
    have h4 : (ss.length : Int) ≤ 80 := by omega
    simp [headGood, mProc, fmain, h3, h4]
theorem fa_head {f m : SProc} {qp : Sp} {sf : Sp} {fn : Str} (hf : f = fProc fn sf) (h : nameMay fn = true) : eachF (headShape [f, m]) [f, m] 0 = if (headShape [f, m] 1 m).e ≠ 0 then headShape [f, m] 1 m else okF := by
  subst hf
  rw [eachF, if_neg, eachF]
  · rfl
  · unfold headShape
    rw [fhead fn fn sf m h]
    simp [okF, fshape]
theorem fa_sense {f m : SProc} {P : SProg} {sf : Sp} {fn : Str} (hf : f = fProc fn sf) : eachF (senseF P) [f, m] 0 = if (senseF P 1 m).e ≠ 0 then senseF P 1 m else okF := by
  subst hf
  rw [eachF, if_neg, eachF]
  · rfl
  · simp [senseF, senseGo, fProc, endS, stepE, askedS, termsS, bindsS, nextsS, goesB, okF]
theorem fa_check {f m : SProc} {qp : Sp} {sf : Sp} {fn : Str} {F : SFault} (hf : f = fProc fn sf) (h : nameMay fn = true)
    (hF : (headShape [f, m] 1 m = F ∧ F.e ≠ 0) ∨ (headShape [f, m] 1 m = okF ∧ mainF [f, m] = F ∧ F.e ≠ 0) ∨ (headShape [f, m] 1 m = okF ∧ mainF [f, m] = okF ∧ senseF (fPg f m qp) 1 m = F ∧ F.e ≠ 0)) : checkS (fPg f m qp) = F := by
  have ha : allF (fPg f m qp) = okF := by simp [allF, fPg]
  have hp : (fPg f m qp).procs = [f, m] := rfl
  rcases hF with ⟨h1, h2⟩ | ⟨h1, h2, h3⟩ | ⟨h1, h2, h3, h4⟩
  · rw [chk_1 (by rw [ha]; rfl)]
    · rw [hp, fa_head (qp := qp) hf h, h1, if_pos h2]
    · rw [hp, fa_head (qp := qp) hf h, h1, if_pos h2]; exact h2
  · rw [chk_2 (by rw [ha]; rfl)]
    · exact h2
    · rw [hp, fa_head (qp := qp) hf h, h1]; rfl
    · rw [hp, h2]; exact h3
  · rw [chk_3 (by rw [ha]; rfl)]
    · rw [hp, fa_sense hf, h3, if_pos h4]
    · rw [hp, fa_head (qp := qp) hf h, h1]; rfl
    · rw [hp, h2]; rfl
theorem hs_ok {l : List SProc} {i : Int} {q : SProc} (h1 : headF l i q = okF) : headShape l i q = shapeF i q := by unfold headShape; rw [h1]; rfl
theorem find_main (sf tp sp : Sp) (ss : List SStep) : mainF [fProc [102] sf, mProc name sMain tp ss sp] = okF := by
  have e : placeS [[102], sMain] sMain = 1 := by decide
  have e2 : findS [fProc [102] sf, mProc name sMain tp ss sp] sMain = 1 := e
  unfold mainF
  rw [e2]
  simp [getP, mProc]
theorem calls_f (sf tp sp : Sp) (ss : List SStep) (n : Int) : callsB [fProc [102] sf, mProc name sMain tp ss sp] [102] n = decide (0 = n) := by
  have e2 : findS [fProc [102] sf, mProc name sMain tp ss sp] [102] = 0 := by simp [findS, placeS, fProc]
  unfold callsB
  rw [e2]
  simp [getP, fProc]
theorem calls_no (h1 : name ≠ sMain) (h2 : name ≠ [102]) (sf tp sp : Sp) (ss : List SStep) (n : Int) : callsB [fProc [102] sf, mProc name sMain tp ss sp] name n = false := by
  have e2 : findS [fProc [102] sf, mProc name sMain tp ss sp] name = -1 := by simp [findS, placeS, fProc, mProc, Ne.symm h1, Ne.symm h2]
  unfold callsB
  rw [e2]
  simp
variable (sf tp sp qp ap cp : Sp)
theorem shp {q : SProc} {i : Int} : shapeF i q = shapeGo q i q.steps 0 (List.replicate q.steps.length 0) (List.replicate q.steps.length 0) (List.replicate q.terms.length false) := rfl
theorem wInc1 : IntKind.i64.wrap (0 + 1) = 1 := by decide
theorem vt0 : varsS (fs3 name) 0 = [] := by
  have h : varsW (fs3 name) ((0 : Int).toNat + 1) 0 = [] := by simp [varsW, fs3, oneT]
  exact List.eq_nil_iff_forall_not_mem.2 (fun x hx => by rw [mem_varsS mt0, h] at hx; cases hx)
theorem vt1 : varsS (fs3 name) 1 = [] := by
  have h : varsW (fs3 name) ((1 : Int).toNat + 1) 1 = [] := by simp [varsW, fs3, oneT]
  exact List.eq_nil_iff_forall_not_mem.2 (fun x hx => by rw [mem_varsS mt1, h] at hx; cases hx)
theorem vt2 (hn : nameMay name = true) : name ∈ varsS (fs3 name) 2 := by
  have h : varsW (fs3 name) ((2 : Int).toNat + 1) 2 = [name] := by simp [varsW, fs3, varT0]
  rw [mem_varsS (mt2 hn), h]; simp
theorem name_ne (hn : nameMay name = true) : name ≠ [] := by rintro rfl; exact absurd hn (by decide)
theorem wOne : IntKind.i64.wrap 1 = 1 := by decide
section
variable (n : Str) (t x : Int) (k : Int) (d : List Int) (pr : Str) (args : List Int)
theorem nx_let : nextsS (letS n t x) = [x] := rfl
theorem tm_let : termsS (letS n t x) = [t] := rfl
theorem dp_let : deepGo (letS n t x) k d = d := rfl
theorem nx_pr : nextsS (prS t x) = [x] := rfl
theorem tm_pr : termsS (prS t x) = [t] := rfl
theorem dp_pr : deepGo (prS t x) k d = d := rfl
theorem nx_call : nextsS (callS pr args ap) = [] := rfl
theorem tm_call : termsS (callS pr args ap) = args := by show ([] ++ args) ++ [] = args; simp
theorem dp_call : deepGo (callS pr args ap) k d = d := rfl
theorem nx_open : nextsS (openS n cp) = [1] := rfl
theorem tm_open : termsS (openS n cp) = [] := rfl
theorem dp_open : deepGo (openS n cp) k d = d := rfl
theorem nx_end : nextsS endS = [] := rfl
theorem tm_end : termsS endS = [] := rfl
theorem dp_end : deepGo endS k d = d := rfl
end
theorem sg_bad {P : SProg} {q : SProc} {i at_ v : Int} {s : SStep} {r : List SStep} {b : List (List Str)} {x : List Str} (hb : b[at_.toNat]?.getD [] = x) (he : stepE P q.terms s x = v) (hv : v ≠ 0) : senseGo P q i (s :: r) at_ b = ⟨v, i, at_⟩ := by
  rw [senseGo, hb]; try simp only
  rw [he, if_pos hv]
theorem sg_ok {P : SProg} {q : SProc} {i at_ : Int} {s : SStep} {r : List SStep} {b : List (List Str)} {x : List Str} (hb : b[at_.toNat]?.getD [] = x) (he : stepE P q.terms s x = 0) : senseGo P q i (s :: r) at_ b = senseGo P q i r (at_ + 1) (boundGo at_ (nextsS s) (bindsS s) b) := by
  rw [senseGo, hb]; try simp only
  rw [he]; rfl
theorem shapeLC (hn : nameMay name = true) {t : Int} (ht : t = 0 ∨ t = 2) {pr : Str} (hp : nameMay pr = true) {args : List Int} (ha : args = [] ∨ args = [1]) {mn : Str} : shapeF 1 (mProc name mn tp [letS name t 1, callS pr args ap] sp) = okF := by
  rcases ht with rfl | rfl <;> rcases ha with rfl | rfl <;>
    simp [shp, mProc, shapeGo, may_let hn, may_call hp, mt2 hn, nx_let, tm_let, dp_let, nx_pr, tm_pr, dp_pr, nx_call, tm_call, dp_call, nx_open, tm_open, dp_open, nx_end, tm_end, dp_end, nextsGo, incI, getI, wOne, rootsGo, mt0, mt1, pt0, pt1, pt2, useGo]
theorem fa0 (hn : nameMay name = true) (h1 : name ≠ sMain) (h2 : name ≠ [102]) : checkS (fPg (fProc [102] sf) (mProc name name tp [letS name 0 1, callS [102] [] ap] sp) qp) = ⟨1504, -1, -1⟩ :=
  fa_check rfl f102 (.inr (.inl ⟨by rw [hs_ok (mhead _ _ _ _ _ _ hn (Ne.symm h2) (by simp) (by simp)), shapeLC tp sp ap hn (.inl rfl) f102 (.inl rfl)], by
    have e : findS [fProc [102] sf, mProc name name tp [letS name 0 1, callS [102] [] ap] sp] sMain = -1 := by
      have h1' : ¬ name = [109, 97, 105, 110] := h1
      simp [findS, placeS, fProc, mProc, h1', sMain]
    unfold mainF; rw [e]; rfl, by decide⟩))
theorem hsm (hn : nameMay name = true) {ss : List SStep} (h1 : 1 ≤ ss.length) (h2 : ss.length ≤ 80) : headShape [fProc [102] sf, mProc name sMain tp ss sp] 1 (mProc name sMain tp ss sp) = shapeF 1 (mProc name sMain tp ss sp) :=
  hs_ok (mhead _ _ _ _ _ _ fmain (by decide) h1 h2)
theorem fa1 (hn : nameMay name = true) : checkS (fPg (fProc [102] sf) (mProc name sMain tp [letS name 2 1, callS [102] [] ap] sp) qp) = ⟨1505, 1, 0⟩ :=
  fa_check rfl f102 (.inr (.inr ⟨by rw [hsm _ _ _ hn (by simp) (by simp), shapeLC tp sp ap hn (.inr rfl) f102 (.inl rfl)], find_main _ _ _ _, by
    have ht : (letS name 2 1).term = 2 := rfl
    have e : stepE (fPg (fProc [102] sf) (mProc name sMain tp [letS name 2 1, callS [102] [] ap] sp) qp) (fs3 name) (letS name 2 1) [] = 1505 := by
      refine step_1 ?_
      rw [List.all_eq_false]
      refine ⟨name, ?_, by simp [hasS]⟩
      have : name ∈ varsS (fs3 name) 2 := vt2 hn
      unfold askedS
      rw [tm_let]
      simp [this]
    have hb : (bound0 (mProc name sMain tp [letS name 2 1, callS [102] [] ap] sp))[(0 : Int).toNat]?.getD [] = [] := by simp [bound0, mProc]
    exact sg_bad hb e (by decide), by decide⟩))
/-- the first step binds the name -/
theorem sense_let (hn : nameMay name = true) {P : SProg} {r : List SStep} : senseF P 1 (mProc name sMain tp (letS name 0 1 :: r) sp) = senseGo P (mProc name sMain tp (letS name 0 1 :: r) sp) 1 r 1 (putAt (bound0 (mProc name sMain tp (letS name 0 1 :: r) sp)) 0 1 name) := by
  have hb : (bound0 (mProc name sMain tp (letS name 0 1 :: r) sp))[(0 : Int).toNat]?.getD [] = [] := by simp [bound0, mProc]
  have e : stepE P (fs3 name) (letS name 0 1) [] = 0 := by
    refine step_6 ?_ ?_ ?_ ?_ ?_
    · have : askedS (fs3 name) (letS name 0 1) = [] := by simp [askedS, termsS, letS, vt0]
      rw [this]; rfl
    · simp [bindsS, letS, hasS]
    · simp [letS]
    · simp [letS]
    · simp [letS]
  exact sg_ok hb e
theorem bound_let (hn : nameMay name = true) {r : List SStep} (hr : r ≠ []) : (putAt (bound0 (mProc name sMain tp (letS name 0 1 :: r) sp)) 0 1 name)[(1 : Int).toNat]?.getD [] = [name] := by
  cases r with
  | nil => exact absurd rfl hr
  | cons a r => simp [putAt, bound0, mProc, name_ne hn]
theorem fa_call (hn : nameMay name = true) {pr : Str} {args : List Int} {P : SProg} (hp : nameMay pr = true) (ha : args = [] ∨ args = [1]) (hc : callsB P.procs pr args.length = false) :
    senseF P 1 (mProc name sMain tp [letS name 0 1, callS pr args ap] sp) = ⟨1507, 1, 1⟩ := by
  rw [sense_let tp sp hn]
  have e : stepE P (fs3 name) (callS pr args ap) [name] = 1507 := by
    refine step_3 ?_ ?_ ?_
    · have : askedS (fs3 name) (callS pr args ap) = [] := by rcases ha with rfl | rfl <;> simp [askedS, termsS, callS, vt1]
      rw [this]; rfl
    · simp [bindsS, callS, nextsS, goesB]
    · have h3 : pr ≠ [] := by rintro rfl; exact absurd hp (by decide)
      have : (callS pr args ap).proc = pr := rfl
      rw [this]
      have h4 : (callS pr args ap).args.length = args.length := rfl
      rw [h4, hc]; simp [h3]
  exact sg_bad (bound_let tp sp hn (by simp)) e (by decide)
theorem fa3 (hn : nameMay name = true) (h1 : name ≠ sMain) (h2 : name ≠ [102]) : checkS (fPg (fProc [102] sf) (mProc name sMain tp [letS name 0 1, callS name [] ap] sp) qp) = ⟨1507, 1, 1⟩ :=
  fa_check rfl f102 (.inr (.inr ⟨by rw [hsm _ _ _ hn (by simp) (by simp), shapeLC tp sp ap hn (.inl rfl) hn (.inl rfl)], find_main _ _ _ _, fa_call tp sp ap hn hn (.inl rfl) (calls_no h1 h2 _ _ _ _ _), by decide⟩))
theorem fa4 (hn : nameMay name = true) : checkS (fPg (fProc [102] sf) (mProc name sMain tp [letS name 0 1, callS [102] [1] ap] sp) qp) = ⟨1507, 1, 1⟩ :=
  fa_check rfl f102 (.inr (.inr ⟨by rw [hsm _ _ _ hn (by simp) (by simp), shapeLC tp sp ap hn (.inl rfl) f102 (.inr rfl)], find_main _ _ _ _, fa_call tp sp ap hn f102 (.inr rfl) (by show callsB [_, _] _ _ = false; rw [calls_f]; rfl), by decide⟩))
theorem fa5 (hn : nameMay name = true) : checkS (fPg (fProc [102] sf) (mProc name sMain tp [letS name 0 0, callS [102] [] ap] sp) qp) = ⟨1502, 1, 0⟩ :=
  fa_check rfl f102 (.inl ⟨by rw [hsm _ _ _ hn (by simp) (by simp)]; simp [shp, mProc, shapeGo, may_let hn, may_call f102, nx_let, tm_let, dp_let, nx_pr, tm_pr, dp_pr, nx_call, tm_call, dp_call, nx_open, tm_open, dp_open, nx_end, tm_end, dp_end, nextsGo, incI, getI, wOne, rootsGo, mt0, mt1, pt0, pt1, pt2, useGo], by decide⟩)
theorem fa6 (hn : nameMay name = true) : checkS (fPg (fProc [102] sf) (mProc name sMain tp [letS name 0 1, callS [102] [] ap, endS] sp) qp) = ⟨1502, 1, 2⟩ :=
  fa_check rfl f102 (.inl ⟨by rw [hsm _ _ _ hn (by simp) (by simp)]; simp [shp, mProc, shapeGo, may_let hn, may_call f102, may_end, nx_let, tm_let, dp_let, nx_pr, tm_pr, dp_pr, nx_call, tm_call, dp_call, nx_open, tm_open, dp_open, nx_end, tm_end, dp_end, nextsGo, incI, getI, wOne, rootsGo, mt0, mt1, pt0, pt1, pt2, useGo], by decide⟩)
theorem fa7 (hn : nameMay name = true) : checkS (fPg (fProc [102] sf) (mProc name sMain tp [letS name 0 1, prS 0 2, callS [102] [] ap] sp) qp) = ⟨1503, 1, 1⟩ :=
  fa_check rfl f102 (.inl ⟨by rw [hsm _ _ _ hn (by simp) (by simp)]; simp [shp, mProc, shapeGo, may_let hn, may_pr, may_call f102, nx_let, tm_let, dp_let, nx_pr, tm_pr, dp_pr, nx_call, tm_call, dp_call, nx_open, tm_open, dp_open, nx_end, tm_end, dp_end, nextsGo, incI, getI, wOne, rootsGo, mt0, mt1, pt0, pt1, pt2, useGo], by decide⟩)
theorem fa2 (hn : nameMay name = true) : checkS (fPg (fProc [102] sf) (mProc name sMain tp [letS name 0 1, letS name 1 2, callS [102] [] ap] sp) qp) = ⟨1506, 1, 1⟩ :=
  fa_check rfl f102 (.inr (.inr ⟨by rw [hsm _ _ _ hn (by simp) (by simp)]; simp [shp, mProc, shapeGo, may_let hn, may_call f102, nx_let, tm_let, dp_let, nx_pr, tm_pr, dp_pr, nx_call, tm_call, dp_call, nx_open, tm_open, dp_open, nx_end, tm_end, dp_end, nextsGo, incI, getI, wOne, rootsGo, mt0, mt1, pt0, pt1, pt2, useGo], find_main _ _ _ _, by
    rw [sense_let tp sp hn]
    have e : ∀ P, stepE P (fs3 name) (letS name 1 2) [name] = 1506 := fun P => by
      refine step_2 ?_ ?_
      · have : askedS (fs3 name) (letS name 1 2) = [] := by simp [askedS, termsS, letS, vt1]
        rw [this]; rfl
      · simp [bindsS, letS, hasS, name_ne hn]
    exact sg_bad (bound_let tp sp hn (by simp)) (e _) (by decide), by decide⟩))
theorem fa8 (hn : nameMay name = true) : checkS (fPg (fProc [102] sf) (mProc name sMain tp [openS name cp, callS [102] [] ap] sp) qp) = ⟨1507, 1, 0⟩ :=
  fa_check rfl f102 (.inr (.inr ⟨by rw [hsm _ _ _ hn (by simp) (by simp)]; simp [shp, mProc, shapeGo, may_open hn, may_call f102, nx_let, tm_let, dp_let, nx_pr, tm_pr, dp_pr, nx_call, tm_call, dp_call, nx_open, tm_open, dp_open, nx_end, tm_end, dp_end, nextsGo, incI, getI, wOne, rootsGo, mt0, mt1, pt0, pt1, pt2, useGo], find_main _ _ _ _, by
    have e : stepE (fPg (fProc [102] sf) (mProc name sMain tp [openS name cp, callS [102] [] ap] sp) qp) (fs3 name) (openS name cp) [] = 1507 := by
      refine step_4 ?_ ?_ ?_ ?_
      · have : askedS (fs3 name) (openS name cp) = [] := by simp [askedS, termsS, openS]
        rw [this]; rfl
      · simp [bindsS, openS, hasS]
      · simp [openS]
      · have h : callsB (fPg (fProc [102] sf) (mProc name sMain tp [openS name cp, callS [102] [] ap] sp) qp).procs [102] (([] : List Int).length + 1) = false := by
          show callsB [_, _] _ _ = false; rw [calls_f]; rfl
        show List.all [_] _ = false
        rw [List.all_cons]
        show (callsB _ [102] (([] : List Int).length + 1) && _) = false
        rw [h]; rfl
    have hb : (bound0 (mProc name sMain tp [openS name cp, callS [102] [] ap] sp))[(0 : Int).toNat]?.getD [] = [] := by simp [bound0, mProc]
    exact sg_bad hb e (by decide), by decide⟩))
theorem fa9 (hn : nameMay name = true) : checkS (fPg (fProc sMain sf) (mProc name sMain tp [letS name 0 1, callS [102] [] ap] sp) qp) = ⟨1501, 1, -1⟩ :=
  fa_check rfl fmain (.inl ⟨by unfold headShape; rw [mhead2 _ _ _ _ (by simp) (by simp)]; rfl, by decide⟩)
end
theorem plain_ok {H : Hp} (s : SStep) (h1 : (s.args, s.ap) = ([], nS)) (h2 : (s.casts, s.cp) = ([], nS)) (h3 : (s.ways, s.wp) = ([], nS)) : StepOk H s :=
  ⟨by rw [(Prod.mk.inj h1).1, (Prod.mk.inj h1).2]; exact RdSl.nil, by rw [(Prod.mk.inj h2).1, (Prod.mk.inj h2).2]; exact RdSl.nil, (fun c hc => by rw [(Prod.mk.inj h2).1] at hc; cases hc), by rw [(Prod.mk.inj h3).1, (Prod.mk.inj h3).2]; exact RdSl.nil⟩
theorem call_ok {H : Hp} (pr : Str) {args : List Int} {ap : Sp} (h : RdSl H 1 I64.cells (.slice ap.1 args.length ap.2) args) : StepOk H (callS pr args ap) := ⟨h, RdSl.nil, (fun c hc => by cases hc), RdSl.nil⟩
theorem open_ok {H : Hp} {name : Str} {cp : Sp} (h : RdSl H 3 SCast.cells (.slice cp.1 1 cp.2) [⟨[98], [102], [], nS⟩]) : StepOk H (openS name cp) := ⟨RdSl.nil, h, (fun c hc => by simp [openS] at hc; subst hc; exact RdSl.nil), RdSl.nil⟩
theorem fault_prog {H : Hp} {fn mn name : Str} {sf tp sp qp : Sp} {S : List SStep} (hSf : RdSl H 10 SStep.cells (.slice sf.1 1 sf.2) [endS]) (hT : RdSl H 6 Term.cells (.slice tp.1 3 tp.2) (fs3 name)) (hS : RdSl H 10 SStep.cells (.slice sp.1 S.length sp.2) S)
    (hQ : RdSl H 4 SProc.cells (.slice qp.1 2 qp.2) [fProc fn sf, mProc name mn tp S sp]) (hOk : ∀ s ∈ S, StepOk H s) (hn : name.length ≤ 9223372036854775807) : ProgOk H (fPg (fProc fn sf) (mProc name mn tp S sp) qp) := by
  refine ⟨RdSl.nil, (fun _ h => by cases h), RdSl.nil, (fun _ h => by cases h), hQ, fun q hq => ?_⟩
  simp only [fPg, List.mem_cons, List.not_mem_nil, or_false] at hq
  rcases hq with rfl | rfl
  · exact ⟨RdSl.nil, (fun _ h => by cases h), by simp [fProc], RdSl.nil, (fun _ h => by cases h), hSf, fun s hs => by simp [fProc] at hs; subst hs; exact end_ok H⟩
  · refine ⟨RdSl.nil, (fun _ h => by cases h), by simp [mProc], hT, fun t ht => ?_, hS, hOk⟩
    simp only [mProc, fs3, List.mem_cons, List.not_mem_nil, or_false] at ht
    rcases ht with rfl | rfl | rfl
    · simp [oneT]
    · simp [oneT]
    · exact hn
end Go.Sx
