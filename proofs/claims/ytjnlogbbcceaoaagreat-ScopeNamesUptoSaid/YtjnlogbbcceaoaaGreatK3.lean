import Derived.Test.YtjnlogbbcceaoaaGreatK2
set_option linter.all false
set_option maxRecDepth 100000
namespace Go.Sx
open Go
abbrev Sp := Option Addr × Nat
structure SWay where
  label : Str
  name : Str
  next : Int
def SWay.cells (w : SWay) : List Value := [gs w.label, gs w.name, .int .i64 w.next]
structure SCast where
  role : Str
  proc : Str
  args : List Int
  ap : Sp
def SCast.cells (c : SCast) : List Value := [gs c.role, gs c.proc, .slice c.ap.1 c.args.length c.ap.2]
structure SStep where
  kind : Int
  name : Str
  peer : Str
  label : Str
  proc : Str
  term : Int
  args : List Int
  ap : Sp
  casts : List SCast
  cp : Sp
  ways : List SWay
  wp : Sp
  next : Int
def SStep.cells (s : SStep) : List Value := [.int .i64 s.kind, gs s.name, gs s.peer, gs s.label, gs s.proc, .int .i64 s.term, .slice s.ap.1 s.args.length s.ap.2, .slice s.cp.1 s.casts.length s.cp.2, .slice s.wp.1 s.ways.length s.wp.2, .int .i64 s.next]
structure SArm where
  label : Str
  ck : Int
  cn : Str
  next : Int
def SArm.cells (a : SArm) : List Value := [gs a.label, .int .i64 a.ck, gs a.cn, .int .i64 a.next]
structure STurn where
  kind : Int
  peer : Str
  arms : List SArm
  ap : Sp
def STurn.cells (t : STurn) : List Value := [.int .i64 t.kind, gs t.peer, .slice t.ap.1 t.arms.length t.ap.2]
structure SLocal where
  name : Str
  turns : List STurn
  tp : Sp
def SLocal.cells (l : SLocal) : List Value := [gs l.name, .slice l.tp.1 l.turns.length l.tp.2]
structure SPoint where
  frm : Str
  to : Str
  arms : List SArm
  ap : Sp
def SPoint.cells (p : SPoint) : List Value := [gs p.frm, gs p.to, .slice p.ap.1 p.arms.length p.ap.2]
structure SProto where
  name : Str
  roles : List Str
  rp : Sp
  points : List SPoint
  pp : Sp
def SProto.cells (p : SProto) : List Value := [gs p.name, .slice p.rp.1 p.roles.length p.rp.2, .slice p.pp.1 p.points.length p.pp.2]
structure SParam where
  name : Str
  ck : Int
  cn : Str
def SParam.cells (p : SParam) : List Value := [gs p.name, .int .i64 p.ck, gs p.cn]
structure SProc where
  name : Str
  params : List SParam
  pp : Sp
  terms : List Term
  tp : Sp
  steps : List SStep
  sp : Sp
def SProc.cells (q : SProc) : List Value := [gs q.name, .slice q.pp.1 q.params.length q.pp.2, .slice q.tp.1 q.terms.length q.tp.2, .slice q.sp.1 q.steps.length q.sp.2]
structure SProg where
  protos : List SProto
  rp : Sp
  locals : List SLocal
  lp : Sp
  procs : List SProc
  qp : Sp
def SProg.cells (p : SProg) : List Value := [.slice p.rp.1 p.protos.length p.rp.2, .slice p.lp.1 p.locals.length p.lp.2, .slice p.qp.1 p.procs.length p.qp.2]
instance : Cells 3 SWay.cells := ⟨fun _ => rfl, by decide, fun _ => rfl⟩
instance : Cells 3 SCast.cells := ⟨fun _ => rfl, by decide, fun _ => rfl⟩
instance : Cells 10 SStep.cells := ⟨fun _ => rfl, by decide, fun _ => rfl⟩
instance : Cells 4 SArm.cells := ⟨fun _ => rfl, by decide, fun _ => rfl⟩
instance : Cells 3 STurn.cells := ⟨fun _ => rfl, by decide, fun _ => rfl⟩
instance : Cells 2 SLocal.cells := ⟨fun _ => rfl, by decide, fun _ => rfl⟩
instance : Cells 3 SPoint.cells := ⟨fun _ => rfl, by decide, fun _ => rfl⟩
instance : Cells 3 SProto.cells := ⟨fun _ => rfl, by decide, fun _ => rfl⟩
instance : Cells 3 SParam.cells := ⟨fun _ => rfl, by decide, fun _ => rfl⟩
instance : Cells 4 SProc.cells := ⟨fun _ => rfl, by decide, fun _ => rfl⟩
structure TurnOk (H : Hp) (t : STurn) : Prop where
  a : RdSl H 4 SArm.cells (.slice t.ap.1 t.arms.length t.ap.2) t.arms
  z : ∀ a ∈ t.arms, a.cn.length ≤ 4294960000
theorem TurnOk.le {H H' : Hp} {t : STurn} (h : TurnOk H t) (hl : H.le H') : TurnOk H' t := ⟨h.a.le hl, h.z⟩
structure LocalOk (H : Hp) (l : SLocal) : Prop where
  t : RdSl H 3 STurn.cells (.slice l.tp.1 l.turns.length l.tp.2) l.turns
  ts : ∀ t ∈ l.turns, TurnOk H t
theorem LocalOk.le {H H' : Hp} {l : SLocal} (h : LocalOk H l) (hl : H.le H') : LocalOk H' l := ⟨h.t.le hl, fun t ht => (h.ts t ht).le hl⟩
structure PointOk (H : Hp) (p : SPoint) : Prop where
  a : RdSl H 4 SArm.cells (.slice p.ap.1 p.arms.length p.ap.2) p.arms
  z : ∀ a ∈ p.arms, a.cn.length ≤ 4294960000
theorem PointOk.le {H H' : Hp} {p : SPoint} (h : PointOk H p) (hl : H.le H') : PointOk H' p := ⟨h.a.le hl, h.z⟩
structure ProtoOk (H : Hp) (p : SProto) : Prop where
  r : RdSl H 1 Str.cells (.slice p.rp.1 p.roles.length p.rp.2) p.roles
  pt : RdSl H 3 SPoint.cells (.slice p.pp.1 p.points.length p.pp.2) p.points
  ps : ∀ x ∈ p.points, PointOk H x
theorem ProtoOk.le {H H' : Hp} {p : SProto} (h : ProtoOk H p) (hl : H.le H') : ProtoOk H' p := ⟨h.r.le hl, h.pt.le hl, fun x hx => (h.ps x hx).le hl⟩
structure StepOk (H : Hp) (s : SStep) : Prop where
  a : RdSl H 1 I64.cells (.slice s.ap.1 s.args.length s.ap.2) s.args
  c : RdSl H 3 SCast.cells (.slice s.cp.1 s.casts.length s.cp.2) s.casts
  cs : ∀ c ∈ s.casts, RdSl H 1 I64.cells (.slice c.ap.1 c.args.length c.ap.2) c.args
  w : RdSl H 3 SWay.cells (.slice s.wp.1 s.ways.length s.wp.2) s.ways
theorem StepOk.le {H H' : Hp} {s : SStep} (h : StepOk H s) (hl : H.le H') : StepOk H' s := ⟨h.a.le hl, h.c.le hl, fun c hc => (h.cs c hc).le hl, h.w.le hl⟩
structure ProcOk (H : Hp) (q : SProc) : Prop where
  pa : RdSl H 3 SParam.cells (.slice q.pp.1 q.params.length q.pp.2) q.params
  pz : ∀ x ∈ q.params, x.cn.length ≤ 4294960000
  pl : q.params.length ≤ 2000000
  t : RdSl H 6 Term.cells (.slice q.tp.1 q.terms.length q.tp.2) q.terms
  tn : ∀ t ∈ q.terms, t.name.length ≤ 9223372036854775807
  s : RdSl H 10 SStep.cells (.slice q.sp.1 q.steps.length q.sp.2) q.steps
  ss : ∀ s ∈ q.steps, StepOk H s
theorem ProcOk.le {H H' : Hp} {q : SProc} (h : ProcOk H q) (hl : H.le H') : ProcOk H' q := ⟨h.pa.le hl, h.pz, h.pl, h.t.le hl, h.tn, h.s.le hl, fun s hs => (h.ss s hs).le hl⟩
structure ProgOk (H : Hp) (P : SProg) : Prop where
  r : RdSl H 3 SProto.cells (.slice P.rp.1 P.protos.length P.rp.2) P.protos
  rs : ∀ p ∈ P.protos, ProtoOk H p
  l : RdSl H 2 SLocal.cells (.slice P.lp.1 P.locals.length P.lp.2) P.locals
  ls : ∀ l ∈ P.locals, LocalOk H l
  q : RdSl H 4 SProc.cells (.slice P.qp.1 P.procs.length P.qp.2) P.procs
  qs : ∀ q ∈ P.procs, ProcOk H q
theorem ProgOk.le {H H' : Hp} {P : SProg} (h : ProgOk H P) (hl : H.le H') : ProgOk H' P := ⟨h.r.le hl, fun p hp => (h.rs p hp).le hl, h.l.le hl, fun l hh => (h.ls l hh).le hl, h.q.le hl, fun q hq => (h.qs q hq).le hl⟩
def goesB (k : Int) : Bool := decide (k = 1) || (decide (k = 2) || (decide (k = 4) || (decide (k = 7) || (decide (k = 8) || decide (k = 9)))))
def nextsS (s : SStep) : List Int := if goesB s.kind = true then [s.next] else s.ways.map (·.next)
def termsS (s : SStep) : List Int := ((if s.kind = 1 ∨ s.kind = 2 ∨ s.kind = 3 ∨ (s.kind = 4 ∧ s.term ≠ -1) then [s.term] else []) ++ s.args) ++ s.casts.flatMap (·.args)
def bindsS (s : SStep) : List Str := if s.kind = 1 ∨ s.kind = 8 then [s.name] else if s.kind = 5 then s.ways.map (·.name) else List.replicate (nextsS s).length []
def wayBad (w : SWay) : Bool := (decide (w.label = []) && !decide (w.name = [])) || ((!decide (w.label = []) && !nameMay w.label) || (!decide (w.name = []) && !nameMay w.name))
def w00 : SWay := ⟨[], [], 0⟩
def bare2 (w : SWay) : Bool := decide (w.label = []) && decide (w.name = [])
def waysS (s : SStep) : Bool :=
  if s.kind = 3 then decide ((s.ways.length : Int) = 2) && (bare2 (s.ways[0]?.getD w00) && bare2 (s.ways[1]?.getD w00))
  else decide ((1 : Int) ≤ s.ways.length) && (decide ((s.ways.length : Int) ≤ 7) && (s.ways.all (fun w => !wayBad w) && onceS (s.ways.map (·.label))))
def bareS (s : SStep) : SStep :=
  { kind := s.kind
    name := if s.kind = 1 ∨ s.kind = 4 ∨ s.kind = 5 ∨ s.kind = 8 ∨ s.kind = 9 then [] else s.name
    peer := if s.kind = 4 ∨ s.kind = 5 ∨ s.kind = 8 then [] else s.peer
    label := if s.kind = 4 ∨ s.kind = 8 then [] else s.label
    proc := if s.kind = 6 ∨ s.kind = 7 then [] else s.proc
    term := if s.kind = 1 ∨ s.kind = 2 ∨ s.kind = 3 ∨ s.kind = 4 then -1 else s.term
    args := if s.kind = 6 ∨ s.kind = 7 then [] else s.args
    ap := if s.kind = 6 ∨ s.kind = 7 then (none, 0) else s.ap
    casts := if s.kind = 8 then [] else s.casts
    cp := if s.kind = 8 then (none, 0) else s.cp
    ways := if s.kind = 3 ∨ s.kind = 5 then [] else s.ways
    wp := if s.kind = 3 ∨ s.kind = 5 then (none, 0) else s.wp
    next := if goesB s.kind = true then -1 else s.next }
def badX (x : SStep) : Bool := !decide (x.name = []) || (!decide (x.peer = []) || (!decide (x.label = []) || (!decide (x.proc = []) || (!decide (x.term = -1) || (decide (0 < (x.args.length : Int)) || (decide (0 < (x.casts.length : Int)) || (decide (0 < (x.ways.length : Int)) || !decide (x.next = -1))))))))
def castBad (c : SCast) : Bool := !nameMay c.role || (!nameMay c.proc || decide (6 < (c.args.length : Int)))
def mayS (s : SStep) : Bool :=
  if s.kind < 0 ∨ 10 < s.kind then false
  else if badX (bareS s) = true then false
  else if s.kind = 1 ∨ s.kind = 9 then nameMay s.name
  else if s.kind = 3 then waysS s
  else if s.kind = 4 then nameMay s.name && (nameMay s.peer && nameMay s.label)
  else if s.kind = 5 then nameMay s.name && (nameMay s.peer && waysS s)
  else if s.kind = 6 ∨ s.kind = 7 then nameMay s.proc && decide ((s.args.length : Int) ≤ 6)
  else if s.kind = 8 then nameMay s.name && (nameMay s.label && (nameMay s.peer && (decide ((1 : Int) ≤ s.casts.length) && (decide ((s.casts.length : Int) ≤ 4) && s.casts.all (fun c => !castBad c)))))
  else true
def postW (l : List Term) : Nat → Int → List Int
  | 0, _ => []
  | f + 1, at_ => if at_ < 0 then [] else match l[at_.toNat]? with
    | none => []
    | some t => postW l f t.l ++ (postW l f t.r ++ [at_])
theorem postW_neg {l : List Term} {f : Nat} {at_ : Int} (h : at_ < 0) : postW l f at_ = [] := by
  cases f with
  | zero => rfl
  | succ f => unfold postW; rw [if_pos h]
theorem postW_at {l : List Term} {f : Nat} {at_ : Int} {t : Term} (h : ¬ at_ < 0) (hx : l[at_.toNat]? = some t) : postW l (f + 1) at_ = postW l f t.l ++ (postW l f t.r ++ [at_]) := by
  rw [postW, if_neg h, hx]
def postS (l : List Term) (root : Int) : List Int := postW l (root.toNat + 1) root
def findS (l : List SProc) (s : Str) : Int := placeS (l.map (·.name)) s
structure SFault where
  e : Int
  part : Int
  at_ : Int
def SFault.cells (f : SFault) : List Value := [.int .i64 f.e, .int .i64 f.part, .int .i64 f.at_]
def okF : SFault := ⟨0, 0, 0⟩
end Go.Sx
namespace Go.Sx
open Go
theorem nb_T {b : Bool} (h : (!b) = true) : b = false := by simpa using h
theorem nb_F {b : Bool} (h : (!b) = false) : b = true := by simpa using h
theorem find_range (l : List SProc) (s : Str) : findS l s = -1 ∨ (0 ≤ findS l s ∧ findS l s < l.length) := by
  have := placeS_range (l.map (·.name)) s
  rwa [List.length_map] at this
def q00 : SProc := ⟨[], [], (none, 0), [], (none, 0), [], (none, 0)⟩
def getP (l : List SProc) (k : Int) : SProc := l[k.toNat]?.getD q00
theorem ix_lt2 {α : Type} {s : List α} {i : Int} {e : α} (h : s[i.toNat]? = some e) : i < s.length := by
  have := (List.getElem?_eq_some_iff.1 h).1; omega
theorem RdSl.cast {α : Type} {H : Hp} {m : Nat} {enc : α → List Value} {v : Value} {l l' : List α} (h : RdSl H m enc v l) (e : l = l') : RdSl H m enc v l' := e ▸ h
theorem map_at {α β : Type} {f : α → β} {l : List α} {k : Nat} {x : α} (h : l[k]? = some x) : (l.map f)[k]? = some (f x) := by rw [List.getElem?_map, h]; rfl
theorem all_next {α : Type} {p : α → Bool} {l : List α} {k : Int} {x : α} (k0 : 0 ≤ k) (hx : l[k.toNat]? = some x) (hp : p x = true) {b : Bool} (h : b = (l.drop k.toNat).all p) : b = (l.drop (k + 1).toNat).all p := by
  rw [h, drop_of hx, List.all_cons, hp, Bool.true_and, show (k + 1).toNat = k.toNat + 1 by omega]
theorem all_bad {α : Type} {p : α → Bool} {l : List α} {k : Int} {x : α} (k0 : 0 ≤ k) (hx : l[k.toNat]? = some x) (hp : p x = false) {b : Bool} (h : b = (l.drop k.toNat).all p) : b = false := by
  rw [h, drop_of hx, List.all_cons, hp, Bool.false_and]
theorem all_end {α : Type} {p : α → Bool} {l : List α} {k : Int} (k0 : 0 ≤ k) (hk : ¬ k < l.length) {b : Bool} (h : b = (l.drop k.toNat).all p) : b = true := by
  rw [h, List.drop_of_length_le (by omega)]; rfl
theorem OwnSl.cast {α : Type} {m : Nat} {enc : α → List Value} {v : Value} {l l' : List α} {ob : Blks} (h : OwnSl m enc v l ob) (e : l = l') : OwnSl m enc v l' ob := e ▸ h
def tHead (s : SStep) : List Int := (if s.kind = 1 ∨ s.kind = 2 ∨ s.kind = 3 ∨ (s.kind = 4 ∧ s.term ≠ -1) then [s.term] else []) ++ s.args
theorem tHead_T {s : SStep} (h : s.kind = 1 ∨ s.kind = 2 ∨ s.kind = 3) : tHead s = [s.term] ++ s.args := by
  unfold tHead; rcases h with e | e | e <;> simp [e]
theorem tHead_4 {s : SStep} (h : s.kind = 4) (h2 : ¬ s.term = -1) : tHead s = [s.term] ++ s.args := by unfold tHead; simp [h, h2]
theorem tHead_F {s : SStep} (h : ¬ s.kind = 1 ∧ ¬ s.kind = 2 ∧ ¬ s.kind = 3) (h2 : ¬ s.kind = 4 ∨ s.term = -1) : tHead s = s.args := by
  unfold tHead; obtain ⟨a, b, c⟩ := h
  rcases h2 with h2 | h2 <;> simp [a, b, c, h2]
theorem termsS_eq (s : SStep) : tHead s ++ s.casts.flatMap (·.args) = termsS s := rfl
theorem tHead_len (s : SStep) : (tHead s).length ≤ 1 + s.args.length := by unfold tHead; split <;> simp <;> omega
theorem nexts_len (s : SStep) (h : s.ways.length ≤ 1000) : (nextsS s).length ≤ 1000 := by unfold nextsS; split <;> simp <;> omega
theorem may_sizes {s : SStep} (h : mayS s = true) : s.ways.length ≤ 7 ∧ (s.args.length ≤ 6 ∧ s.casts.length ≤ 4 ∧ ∀ c ∈ s.casts, c.args.length ≤ 6) := by
  unfold mayS at h
  split at h; · cases h
  split at h; · cases h
  rename_i hk hb
  have hb : badX (bareS s) = false := by simpa using hb
  simp only [badX, Bool.or_eq_false_iff, decide_eq_false_iff_not] at hb
  obtain ⟨-, -, -, -, -, ha, hc, hw, -⟩ := hb
  have hw0 : ¬ (s.kind = 3 ∨ s.kind = 5) → s.ways.length ≤ 7 := fun hn => by
    simp only [bareS, if_neg hn] at hw; omega
  have ha0 : ¬ (s.kind = 6 ∨ s.kind = 7) → s.args.length ≤ 6 := fun hn => by
    simp only [bareS, if_neg hn] at ha; omega
  have hc0 : ¬ s.kind = 8 → s.casts.length = 0 := fun hn => by
    simp only [bareS, if_neg hn] at hc; omega
  have hcn : ¬ s.kind = 8 → s.casts.length ≤ 4 ∧ ∀ c ∈ s.casts, c.args.length ≤ 6 := fun hn => by
    have h0 := List.length_eq_zero_iff.1 (hc0 hn)
    rw [h0]; exact ⟨by simp, fun c hc => by cases hc⟩
  have wy : waysS s = true → s.ways.length ≤ 7 := fun hy => by
    unfold waysS at hy
    split at hy
    · simp only [Bool.and_eq_true, decide_eq_true_eq] at hy; omega
    · simp only [Bool.and_eq_true, decide_eq_true_eq] at hy; omega
  split at h
  · rename_i h1
    exact ⟨hw0 (by omega), ha0 (by omega), hcn (by omega)⟩
  split at h
  · rename_i h1 h3
    exact ⟨wy h, ha0 (by omega), hcn (by omega)⟩
  split at h
  · exact ⟨hw0 (by omega), ha0 (by omega), hcn (by omega)⟩
  split at h
  · simp only [Bool.and_eq_true] at h
    exact ⟨wy h.2.2, ha0 (by omega), hcn (by omega)⟩
  split at h
  · simp only [Bool.and_eq_true, decide_eq_true_eq] at h
    exact ⟨hw0 (by omega), by omega, hcn (by omega)⟩
  split at h
  · rename_i h8
    simp only [Bool.and_eq_true, decide_eq_true_eq] at h
    obtain ⟨-, -, -, -, h4, h5⟩ := h
    refine ⟨hw0 (by omega), ha0 (by omega), by omega, fun c hc => ?_⟩
    have h6 := List.all_eq_true.1 h5 c hc
    simp only [castBad, Bool.not_eq_true', Bool.or_eq_false_iff, decide_eq_false_iff_not] at h6
    omega
  · exact ⟨hw0 (by omega), ha0 (by omega), hcn (by omega)⟩
theorem flat_reps {α : Type} {enc : α → List Value} {x : α} {u : Value} (he : enc x = [u]) : ∀ n : Nat, (List.replicate n x).flatMap enc = reps n [u]
  | 0 => rfl
  | n + 1 => by rw [List.replicate_succ, List.flatMap_cons, flat_reps he n, he]; rfl
theorem reps_own {l : List Str} {b n : Nat} (e : l = List.replicate n ([] : Str)) (hn : n ≤ 1000) : OwnSl 1 Str.cells (.slice (some ⟨b, 0, none⟩) n n) l [(b, reps n [gs []])] := by
  subst e
  exact OwnSl.blk (enc := Str.cells) (List.replicate n ([] : Str)) (by simp) (flat_reps (enc := Str.cells) (x := ([] : Str)) rfl n).symm (by omega)
section
variable {s : SStep} {k : Int} {x w0 w1 : SWay}
theorem ways_3 {b : Bool} (hk : s.kind = 3) (h0 : s.ways[(0 : Int).toNat]? = some w0) (h1 : s.ways[(1 : Int).toNat]? = some w1) (h : b = (decide ((s.ways.length : Int) = 2) && (bare2 w0 && bare2 w1))) : b = waysS s := by
  unfold waysS
  rw [if_pos hk, h]
  rw [show (0 : Int).toNat = 0 from rfl] at h0
  rw [show (1 : Int).toNat = 1 from rfl] at h1
  rw [h0, h1]; rfl
theorem ways_3n (hk : s.kind = 3) (h : decide ((s.ways.length : Int) = 2) = false) : false = waysS s := by
  unfold waysS; rw [if_pos hk, h]; rfl
theorem ways_n (hk : ¬ s.kind = 3) (h : ¬ ((1 : Int) ≤ s.ways.length ∧ (s.ways.length : Int) ≤ 7)) : waysS s = false := by
  unfold waysS
  rw [if_neg hk]
  by_cases h1 : (1 : Int) ≤ s.ways.length
  · rw [decide_eq_true h1, decide_eq_false (fun h2 => h ⟨h1, h2⟩)]; rfl
  · rw [decide_eq_false h1]; rfl
theorem ways_bad (hk : ¬ s.kind = 3) (k0 : 0 ≤ k) (hx : s.ways[k.toNat]? = some x) (hb : wayBad x = true) (h : s.ways.all (fun w => !wayBad w) = (s.ways.drop k.toNat).all (fun w => !wayBad w)) : waysS s = false := by
  unfold waysS
  rw [if_neg hk, all_bad (p := fun w => !wayBad w) k0 hx (by simp [hb]) h]
  simp
theorem ways_end (hk : ¬ s.kind = 3) (hn : (1 : Int) ≤ s.ways.length ∧ (s.ways.length : Int) ≤ 7) (k0 : 0 ≤ k) (he : ¬ k < s.ways.length) (h : s.ways.all (fun w => !wayBad w) = (s.ways.drop k.toNat).all (fun w => !wayBad w)) : waysS s = onceS (s.ways.map (·.label)) := by
  unfold waysS
  rw [if_neg hk, all_end (p := fun w => !wayBad w) k0 he h, decide_eq_true hn.1, decide_eq_true hn.2]
  simp
theorem bare_rd {H : Hp} (hs : StepOk H s) : StepOk H (bareS s) := by
  unfold bareS
  constructor <;> simp only
  · by_cases h : s.kind = 6 ∨ s.kind = 7
    · simp only [if_pos h]; exact RdSl.nil
    · simp only [if_neg h]; exact hs.a
  · by_cases h : s.kind = 8
    · simp only [if_pos h]; exact RdSl.nil
    · simp only [if_neg h]; exact hs.c
  · by_cases h : s.kind = 8
    · simp only [if_pos h]; intro c hc; cases hc
    · simp only [if_neg h]; exact hs.cs
  · by_cases h : s.kind = 3 ∨ s.kind = 5
    · simp only [if_pos h]; exact RdSl.nil
    · simp only [if_neg h]; exact hs.w
end
end Go.Sx
namespace Go.Sx
open Go
theorem mayW_post {l : List Term} : ∀ (f : Nat) (at_ deep : Int) (met : List Bool), 0 ≤ at_ → 1 ≤ deep → (mayW l f at_ deep met).1 = true → (postW l f at_).length + 1 ≤ 2 ^ (26 - deep.toNat) := by
  intro f
  induction f with
  | zero => intro at_ deep met _ _ h; simp [mayW] at h
  | succ f ih =>
    intro at_ deep met h0 hd h
    cases hx : l[at_.toNat]? with
    | none => simp [mayW, hx] at h
    | some t =>
      by_cases hg : met[at_.toNat]?.getD false = true ∨ 24 < deep ∨ operandsI t.kind < 0 ∨ fieldsB t = false
      · rw [mayW_F hx hg] at h; cases h
      · have hgg : MayG deep met at_ t := by
          refine ⟨?_, ?_, ?_, ?_⟩
          · cases hb : met[at_.toNat]?.getD false with
            | false => rfl
            | true => exact absurd (.inl hb) hg
          · intro h1; exact hg (.inr (.inl h1))
          · intro h1; exact hg (.inr (.inr (.inl h1)))
          · cases hb : fieldsB t with
            | true => rfl
            | false => exact absurd (.inr (.inr (.inr hb))) hg
        generalize h00 : opW (operandsI t.kind) at_ (fun to m => mayW l f to (deep + 1) m) 0 t.l (met.set at_.toNat true) = r0
        obtain ⟨b0, m0⟩ := r0
        cases b0 with
        | false => rw [mayW_0 hx hgg h00] at h; cases h
        | true =>
          generalize h11 : opW (operandsI t.kind) at_ (fun to m => mayW l f to (deep + 1) m) 1 t.r m0 = r1
          rw [mayW_1 hx hgg h00 h11] at h
          have h24 := hgg.2.1
          have h1 : 0 < 2 ^ (26 - (deep + 1).toNat) := Nat.two_pow_pos _
          have key : ∀ (i to : Int) (m m' : List Bool), opW (operandsI t.kind) at_ (fun to m => mayW l f to (deep + 1) m) i to m = (true, m') → (postW l f to).length + 1 ≤ 2 ^ (26 - (deep + 1).toNat) := by
            intro i to m m' he
            by_cases hi : i < operandsI t.kind
            · by_cases hb : to < 0 ∨ at_ ≤ to
              · rw [opW_bad (by omega) hb] at he; cases he
              · rw [opW_rec (by omega) (by omega) (by omega)] at he
                exact ih to (deep + 1) m (by omega) (by omega) (by rw [he])
            · rw [opW_le (by omega)] at he
              have : to = -1 := by simpa using congrArg Prod.fst he
              rw [postW_neg (by omega)]; simp; omega
          have k0 := key 0 t.l _ _ h00
          have k1 := key 1 t.r _ r1.2 (by rw [h11]; cases r1; simp at h; simp [h])
          rw [postW_at (by omega) hx]
          have hp : 2 ^ (26 - deep.toNat) = 2 * 2 ^ (26 - (deep + 1).toNat) := by
            rw [show 26 - deep.toNat = (26 - (deep + 1).toNat) + 1 by omega, Nat.pow_succ]; omega
          simp only [List.length_append, List.length_cons, List.length_nil]
          omega
theorem mayB_post {l : List Term} {root : Int} (h : mayB l root = true) : (postW l (root.toNat + 1) root).length ≤ 33554432 := by
  unfold mayB at h
  split at h
  · cases h
  · split at h
    · cases h
    · split at h
      · cases h
      · have := mayW_post _ _ _ _ (by omega) (by decide) h
        simp at this
        omega
theorem post_in {l : List Term} : ∀ (f : Nat) (at_ : Int), ∀ k ∈ postW l f at_, 0 ≤ k ∧ k < l.length
  | 0, at_, k, h => by cases h
  | f + 1, at_, k, h => by
    rw [postW] at h
    split at h
    · cases h
    · split at h
      · cases h
      · rename_i hn t hx
        rcases List.mem_append.1 h with h | h
        · exact post_in f _ k h
        · rcases List.mem_append.1 h with h | h
          · exact post_in f _ k h
          · simp at h; subst h
            have := (List.getElem?_eq_some_iff.1 hx).1
            omega
def callsB (l : List SProc) (name : Str) (n : Int) : Bool := decide (0 ≤ findS l name) && decide (((getP l (findS l name)).params.length : Int) = n)
def castOf (s : SStep) : List Str := s.peer :: s.casts.map (·.role)
def opensX (x : SProto) (s : SStep) : Bool := decide (((castOf s).length : Int) = x.roles.length) && (onceS (castOf s) && (castOf s).all (fun r => hasS x.roles r))
def opensGo (s : SStep) : List SProto → Bool
  | [] => false
  | x :: r => if x.name = s.label then opensX x s else opensGo s r
def opensB (P : SProg) (s : SStep) : Bool := opensGo s P.protos
def askedS (ts : List Term) (s : SStep) : List Str := (termsS s).flatMap (varsS ts) ++ (if s.kind = 4 ∨ s.kind = 5 ∨ s.kind = 9 then [s.name] else [])
def stepE (P : SProg) (ts : List Term) (s : SStep) (bound : List Str) : Int :=
  if (askedS ts s).all (fun n => hasS bound n) = false then 1505
  else if (bindsS s).all (fun n => !(!decide (n = []) && hasS bound n)) = false then 1506
  else if (!decide (s.proc = []) && !callsB P.procs s.proc s.args.length) = true then 1507
  else if s.casts.all (fun c => callsB P.procs c.proc (c.args.length + 1)) = false then 1507
  else if (decide (s.kind = 8) && !opensB P s) = true then 1508 else 0
def carriesB (ck : Int) (cn : Str) : Bool :=
  if ck < 0 ∨ 5 < ck then false
  else if ck ≠ 5 then decide (cn = [])
  else nameMay (cutS cn).1 && (!(cutS cn).2.2 || nameMay (cutS cn).2.1)
def armB (n : Int) (a : SArm) : Bool := nameMay a.label && (carriesB a.ck a.cn && (!decide (a.next < 0) && !decide (n ≤ a.next)))
def armsB (l : List SArm) (n : Int) : Bool := (decide (1 ≤ l.length) && decide (l.length ≤ 6)) && (l.all (armB n) && onceS (l.map (·.label)))
def turnB (n : Int) (t : STurn) : Bool :=
  if t.kind = 0 then decide (t.peer = []) && !decide (0 < (t.arms.length : Int))
  else if t.kind = 1 ∨ t.kind = 2 then nameMay t.peer && armsB t.arms n
  else false
def localB (l : SLocal) : Bool := (decide (1 ≤ l.turns.length) && decide (l.turns.length ≤ 40)) && l.turns.all (turnB l.turns.length)
def graphT (x : SPoint) : STurn := if ¬ x.frm = [] ∨ ¬ x.to = [] ∨ 0 < x.arms.length then ⟨1, x.to, x.arms, x.ap⟩ else ⟨0, [], x.arms, x.ap⟩
def emptyP (x : SPoint) : Bool := decide (x.frm = []) && (decide (x.to = []) && decide ((x.arms.length : Int) = 0))
def pointM (roles : List Str) (x : SPoint) : Bool := hasS roles x.frm && (hasS roles x.to && !decide (x.frm = x.to))
def pointB (roles : List Str) (x : SPoint) : Bool := emptyP x || pointM roles x
def protoHead (p : SProto) : Bool := nameMay p.name && (decide ((2 : Int) ≤ p.roles.length) && (decide ((p.roles.length : Int) ≤ 5) && (onceS p.roles && !decide ((24 : Int) < p.points.length))))
def protoB (p : SProto) : Bool := protoHead p && (p.roles.all nameMay && (p.points.all (pointB p.roles) && localB ⟨[], p.points.map graphT, (none, 0)⟩))
def headGood (q : SProc) : Bool := nameMay q.name && (decide ((q.params.length : Int) ≤ 6) && (decide ((1 : Int) ≤ q.steps.length) && (decide ((q.steps.length : Int) ≤ 80) && decide ((q.terms.length : Int) ≤ 160))))
def paramB (x : SParam) : Bool := nameMay x.name && carriesB x.ck x.cn
def headF (l : List SProc) (i : Int) (q : SProc) : SFault :=
  if (headGood q && q.params.all paramB) = false then ⟨1500, i, -1⟩
  else if (decide (findS l q.name < i) || !onceS (q.params.map (·.name))) = true then ⟨1501, i, -1⟩ else okF
def getI (l : List Int) (i : Int) : Int := l[i.toNat]?.getD 0
def incI (l : List Int) (i : Int) : List Int := l.set i.toNat (IntKind.i64.wrap (getI l i + 1))
def nextsGo (n at_ : Int) : List Int → List Int → List Int → Option (List Int × List Int)
  | [], c, d => some (c, d)
  | t :: r, c, d => if t ≤ at_ ∨ n ≤ t then none else nextsGo n at_ r (incI c t) (d.set t.toNat (getI d at_))
def useGo : List Int → List Bool → Option (List Bool)
  | [], u => some u
  | k :: r, u => if u[k.toNat]?.getD false = true then none else useGo r (u.set k.toNat true)
def rootsGo (ts : List Term) : List Int → List Bool → Option (List Bool)
  | [], u => some u
  | t :: r, u => if mayB ts t = false then none else match useGo (postS ts t) u with
    | none => none
    | some u2 => rootsGo ts r u2
def deepGo (s : SStep) (at_ : Int) (d : List Int) : List Int := if s.kind = 3 ∨ s.kind = 5 then incI d at_ else d
def shapeGo (q : SProc) (i : Int) : List SStep → Int → List Int → List Int → List Bool → SFault
  | [], _, _, _, _ => okF
  | s :: r, at_, c, d, u =>
    if mayS s = false then ⟨1500, i, at_⟩
    else if 0 < at_ ∧ ¬ getI c at_ = 1 then ⟨1502, i, at_⟩
    else match nextsGo q.steps.length at_ (nextsS s) c (deepGo s at_ d) with
      | none => ⟨1502, i, at_⟩
      | some (c2, d2) =>
        if 24 < getI d2 at_ then ⟨1502, i, at_⟩
        else match rootsGo q.terms (termsS s) u with
          | none => ⟨1503, i, at_⟩
          | some u2 => shapeGo q i r (at_ + 1) c2 d2 u2
def shapeF (i : Int) (q : SProc) : SFault := shapeGo q i q.steps 0 (List.replicate q.steps.length 0) (List.replicate q.steps.length 0) (List.replicate q.terms.length false)
def putAt (b : List (List Str)) (at_ : Int) (t : Int) (m : Str) : List (List Str) := b.set t.toNat ((b[at_.toNat]?.getD []) ++ (if m = [] then [] else [m]))
def boundGo (at_ : Int) : List Int → List Str → List (List Str) → List (List Str)
  | [], _, b => b
  | t :: r, ms, b => boundGo at_ r (ms.drop 1) (putAt b at_ t (ms.headD []))
def senseGo (P : SProg) (q : SProc) (i : Int) : List SStep → Int → List (List Str) → SFault
  | [], _, _ => okF
  | s :: r, at_, b =>
    let e := stepE P q.terms s (b[at_.toNat]?.getD [])
    if e ≠ 0 then ⟨e, i, at_⟩ else senseGo P q i r (at_ + 1) (boundGo at_ (nextsS s) (bindsS s) b)
def bound0 (q : SProc) : List (List Str) := (List.replicate q.steps.length ([] : List Str)).set 0 (q.params.map (·.name))
def senseF (P : SProg) (i : Int) (q : SProc) : SFault := senseGo P q i q.steps 0 (bound0 q)
def eachF (f : Int → SProc → SFault) : List SProc → Int → SFault
  | [], _ => okF
  | q :: r, i => if (f i q).e ≠ 0 then f i q else eachF f r (i + 1)
def headShape (l : List SProc) (i : Int) (q : SProc) : SFault := if (headF l i q).e ≠ 0 then headF l i q else shapeF i q
def allF (P : SProg) : SFault :=
  if 6 < (P.protos.length : Int) ∨ 12 < (P.locals.length : Int) ∨ 24 < (P.procs.length : Int) then ⟨1500, -1, -1⟩
  else if P.protos.all protoB = false then ⟨1500, -1, -1⟩
  else if P.locals.all (fun l => localB l && nameMay l.name) = false then ⟨1500, -1, -1⟩
  else okF
def sMain : Str := [109, 97, 105, 110]
def mainF (l : List SProc) : SFault := if findS l sMain < 0 ∨ 0 < ((getP l (findS l sMain)).params.length : Int) then ⟨1504, -1, -1⟩ else okF
def checkS (P : SProg) : SFault :=
  if (allF P).e ≠ 0 then allF P
  else if (eachF (headShape P.procs) P.procs 0).e ≠ 0 then eachF (headShape P.procs) P.procs 0
  else if (mainF P.procs).e ≠ 0 then mainF P.procs
  else eachF (senseF P) P.procs 0
end Go.Sx
namespace Go.Sx
open Go
section
variable {P : SProg} {ts : List Term} {s : SStep} {bound : List Str}
theorem step_1 (h : (askedS ts s).all (fun n => hasS bound n) = false) : stepE P ts s bound = 1505 := by unfold stepE; rw [if_pos h]
theorem step_2 (h : (askedS ts s).all (fun n => hasS bound n) = true) (h2 : (bindsS s).all (fun n => !(!decide (n = []) && hasS bound n)) = false) : stepE P ts s bound = 1506 := by
  unfold stepE; rw [if_neg (by rw [h]; decide), if_pos h2]
theorem step_3 (h : (askedS ts s).all (fun n => hasS bound n) = true) (h2 : (bindsS s).all (fun n => !(!decide (n = []) && hasS bound n)) = true) (h3 : (!decide (s.proc = []) && !callsB P.procs s.proc s.args.length) = true) : stepE P ts s bound = 1507 := by
  unfold stepE; rw [if_neg (by rw [h]; decide), if_neg (by rw [h2]; decide), if_pos h3]
theorem step_4 (h : (askedS ts s).all (fun n => hasS bound n) = true) (h2 : (bindsS s).all (fun n => !(!decide (n = []) && hasS bound n)) = true) (h3 : (!decide (s.proc = []) && !callsB P.procs s.proc s.args.length) = false)
    (h4 : s.casts.all (fun c => callsB P.procs c.proc (c.args.length + 1)) = false) : stepE P ts s bound = 1507 := by
  unfold stepE; rw [if_neg (by rw [h]; decide), if_neg (by rw [h2]; decide), if_neg (by rw [h3]; decide), if_pos h4]
theorem step_5 (h : (askedS ts s).all (fun n => hasS bound n) = true) (h2 : (bindsS s).all (fun n => !(!decide (n = []) && hasS bound n)) = true) (h3 : (!decide (s.proc = []) && !callsB P.procs s.proc s.args.length) = false)
    (h4 : s.casts.all (fun c => callsB P.procs c.proc (c.args.length + 1)) = true) (h5 : (decide (s.kind = 8) && !opensB P s) = true) : stepE P ts s bound = 1508 := by
  unfold stepE; rw [if_neg (by rw [h]; decide), if_neg (by rw [h2]; decide), if_neg (by rw [h3]; decide), if_neg (by rw [h4]; decide), if_pos h5]
theorem step_6 (h : (askedS ts s).all (fun n => hasS bound n) = true) (h2 : (bindsS s).all (fun n => !(!decide (n = []) && hasS bound n)) = true) (h3 : (!decide (s.proc = []) && !callsB P.procs s.proc s.args.length) = false)
    (h4 : s.casts.all (fun c => callsB P.procs c.proc (c.args.length + 1)) = true) (h5 : (decide (s.kind = 8) && !opensB P s) = false) : stepE P ts s bound = 0 := by
  unfold stepE; rw [if_neg (by rw [h]; decide), if_neg (by rw [h2]; decide), if_neg (by rw [h3]; decide), if_neg (by rw [h4]; decide), if_neg (by rw [h5]; decide)]
theorem terms_len (h : s.args.length ≤ 6 ∧ s.casts.length ≤ 4 ∧ ∀ c ∈ s.casts, c.args.length ≤ 6) : (termsS s).length ≤ 100 := by
  have h1 := tHead_len s
  have h2 : ∀ l : List SCast, (∀ c ∈ l, c.args.length ≤ 6) → (l.flatMap (·.args)).length ≤ 6 * l.length := by
    intro l
    induction l with
    | nil => simp
    | cons c l ih =>
      intro h
      have := ih (fun x hx => h x (by simp [hx]))
      have := h c (by simp)
      simp only [List.flatMap_cons, List.length_append, List.length_cons]; omega
  have h3 := h2 s.casts h.2.2
  rw [← termsS_eq, List.length_append]
  omega
theorem vars_fl : ∀ (r : List Int), (r.flatMap (varsS ts)).length ≤ 16777216 * r.length
  | [] => by simp
  | t :: r => by
    have := vars_fl r
    have := varsS_len ts t
    simp only [List.flatMap_cons, List.length_append, List.length_cons]; omega
theorem head_1 {l : List SProc} {i : Int} {q : SProc} (h : (headGood q && q.params.all paramB) = false) : headF l i q = ⟨1500, i, -1⟩ := by unfold headF; rw [if_pos h]
theorem head_2 {l : List SProc} {i : Int} {q : SProc} (h : (headGood q && q.params.all paramB) = true) (h2 : (decide (findS l q.name < i) || !onceS (q.params.map (·.name))) = true) : headF l i q = ⟨1501, i, -1⟩ := by
  unfold headF; rw [if_neg (by rw [h]; decide), if_pos h2]
theorem head_3 {l : List SProc} {i : Int} {q : SProc} (h : (headGood q && q.params.all paramB) = true) (h2 : (decide (findS l q.name < i) || !onceS (q.params.map (·.name))) = false) : headF l i q = okF := by
  unfold headF; rw [if_neg (by rw [h]; decide), if_neg (by rw [h2]; decide)]
end
theorem nodup_snoc {k : Int} {l : List SArm} {x : SArm} (k0 : 0 ≤ k) (hx : l[k.toNat]? = some x) (h : ((l.take k.toNat).map (·.label)).Nodup) (hn : x.label ∉ (l.take k.toNat).map (·.label)) : ((l.take (k + 1).toNat).map (·.label)).Nodup := by
  rw [map_take_snoc k0 hx, List.nodup_append]
  refine ⟨h, by simp, ?_⟩
  intro a ha b hb e
  simp at hb
  subst hb; subst e
  exact hn ha
section
variable {l : List SArm} {n k : Int} {x : SArm}
theorem arms_len (h : ¬ (1 ≤ l.length ∧ l.length ≤ 6)) : false = armsB l n := by
  unfold armsB
  by_cases h1 : 1 ≤ l.length
  · rw [decide_eq_true h1, decide_eq_false (fun h2 => h ⟨h1, h2⟩)]; rfl
  · rw [decide_eq_false h1]; rfl
theorem arms_bad (k0 : 0 ≤ k) (hx : l[k.toNat]? = some x) (h : armB n x = false ∨ x.label ∈ (l.take k.toNat).map (·.label)) : false = armsB l n := by
  unfold armsB
  rcases h with h | h
  · rw [show l.all (armB n) = false from ?_]; · simp
    rw [List.all_eq_false]
    exact ⟨x, List.mem_of_getElem? hx, by simp [h]⟩
  · rw [show onceS (l.map (·.label)) = false from ?_]; · simp
    unfold onceS
    refine decide_eq_false (fun hn => ?_)
    have e : l.map (·.label) = (l.take k.toNat).map (·.label) ++ (l.drop k.toNat).map (·.label) := by rw [← List.map_append, List.take_append_drop]
    rw [e, List.nodup_append] at hn
    rw [drop_of hx, List.map_cons] at hn
    exact hn.2.2 _ h _ (List.mem_cons_self ..) rfl
theorem arms_end (hl : 1 ≤ l.length ∧ l.length ≤ 6) (k0 : 0 ≤ k) (hk : ¬ k < l.length) (h : (l.take k.toNat).all (armB n) = true) (hn : ((l.take k.toNat).map (·.label)).Nodup) : true = armsB l n := by
  rw [take_all hk k0] at h hn
  unfold armsB onceS
  rw [decide_eq_true hl.1, decide_eq_true hl.2, h, decide_eq_true hn]; rfl
end
section
variable {l : SLocal} {k : Int} {x : STurn}
theorem local_len (h : ¬ (1 ≤ l.turns.length ∧ l.turns.length ≤ 40)) : false = localB l := by
  unfold localB
  by_cases h1 : 1 ≤ l.turns.length
  · rw [decide_eq_true h1, decide_eq_false (fun h2 => h ⟨h1, h2⟩)]; rfl
  · rw [decide_eq_false h1]; rfl
theorem local_bad (k0 : 0 ≤ k) (hx : l.turns[k.toNat]? = some x) (hb : turnB l.turns.length x = false) (h : l.turns.all (turnB l.turns.length) = (l.turns.drop k.toNat).all (turnB l.turns.length)) : false = localB l := by
  unfold localB; rw [all_bad k0 hx hb h]; simp
theorem local_end (hl : 1 ≤ l.turns.length ∧ l.turns.length ≤ 40) (k0 : 0 ≤ k) (hk : ¬ k < l.turns.length) (h : l.turns.all (turnB l.turns.length) = (l.turns.drop k.toNat).all (turnB l.turns.length)) : true = localB l := by
  unfold localB; rw [all_end k0 hk h, decide_eq_true hl.1, decide_eq_true hl.2]; rfl
end
theorem carries_local (ck : Int) (cn : Str) (p q : Sp) : localB ⟨[], [⟨1, [120], [⟨[120], ck, cn, 0⟩], p⟩], q⟩ = carriesB ck cn := by
  simp [localB, turnB, armsB, armB, onceS, show nameMay [120] = true by decide]
theorem graph_T {x : SPoint} (h : ¬ x.frm = [] ∨ ¬ x.to = [] ∨ 0 < x.arms.length) : graphT x = ⟨1, x.to, x.arms, x.ap⟩ := by unfold graphT; rw [if_pos h]
theorem graph_F {x : SPoint} (h : ¬ (¬ x.frm = [] ∨ ¬ x.to = [] ∨ 0 < x.arms.length)) : graphT x = ⟨0, [], x.arms, x.ap⟩ := by unfold graphT; rw [if_neg h]
theorem graph_turns {H : Hp} {p : SProto} (hP : ProtoOk H p) : ∀ t ∈ p.points.map graphT, TurnOk H t := by
  intro t ht
  obtain ⟨x, hx, rfl⟩ := List.mem_map.1 ht
  have h := hP.ps x hx
  unfold graphT
  split <;> exact ⟨h.a, h.z⟩
theorem pt_1 {r : List Str} {x : SPoint} (h : emptyP x = true) : pointB r x = true := by unfold pointB; rw [h]; rfl
theorem pt_2 {r : List Str} {x : SPoint} (h : (!pointM r x) = false) : pointB r x = true := by unfold pointB; rw [nb_F h, Bool.or_true]
theorem pt_3 {r : List Str} {x : SPoint} (h1 : emptyP x = false) (h : (!pointM r x) = true) : pointB r x = false := by unfold pointB; rw [nb_T h, h1]; rfl
theorem proto_1 {p : SProto} (h : (!protoHead p) = true) : false = protoB p := by unfold protoB; rw [nb_T h]; rfl
theorem proto_2 {p : SProto} (h1 : p.roles.all nameMay = false) : false = protoB p := by unfold protoB; rw [h1]; simp
theorem proto_3 {p : SProto} (h1 : p.points.all (pointB p.roles) = false) : false = protoB p := by unfold protoB; rw [h1]; simp
theorem proto_4 {p : SProto} {q : Sp} (h : protoHead p = true) (h1 : p.roles.all nameMay = true) (h2 : p.points.all (pointB p.roles) = true) : localB ⟨[], p.points.map graphT, q⟩ = protoB p := by
  unfold protoB; rw [h, h1, h2]; rfl
theorem proto_24 {p : SProto} (h : protoHead p = true) : p.points.length ≤ 24 := by
  unfold protoHead at h; simp only [Bool.and_eq_true, decide_eq_true_eq, Bool.not_eq_true', decide_eq_false_iff_not] at h; omega
section
variable {pg : SProg} {s : SStep} {k : Int} {x : SProto}
theorem opens_next (k0 : 0 ≤ k) (hx : pg.protos[k.toNat]? = some x) (hn : ¬ x.name = s.label) (h : opensB pg s = opensGo s (pg.protos.drop k.toNat)) : opensB pg s = opensGo s (pg.protos.drop (k + 1).toNat) := by
  rw [h, drop_of hx, opensGo, if_neg hn, show (k + 1).toNat = k.toNat + 1 by omega]
theorem opens_end (k0 : 0 ≤ k) (hk : ¬ k < pg.protos.length) (h : opensB pg s = opensGo s (pg.protos.drop k.toNat)) : opensB pg s = false := by
  rw [h, List.drop_of_length_le (by omega)]; rfl
theorem opens_1 (k0 : 0 ≤ k) (hx : pg.protos[k.toNat]? = some x) (hn : x.name = s.label) (h : opensB pg s = opensGo s (pg.protos.drop k.toNat)) (hb : (!(decide (((castOf s).length : Int) = x.roles.length) && onceS (castOf s))) = true) : opensB pg s = false := by
  rw [h, drop_of hx, opensGo, if_pos hn, opensX]
  have hb := nb_T hb
  cases h1 : decide (((castOf s).length : Int) = x.roles.length) with
  | false => rfl
  | true => rw [h1] at hb; simp at hb; simp [hb]
theorem opens_2 {b : Bool} (k0 : 0 ≤ k) (hx : pg.protos[k.toNat]? = some x) (hn : x.name = s.label) (h : opensB pg s = opensGo s (pg.protos.drop k.toNat)) (hb : (!(decide (((castOf s).length : Int) = x.roles.length) && onceS (castOf s))) = false) (ha : (castOf s).all (fun r => hasS x.roles r) = b) : opensB pg s = b := by
  rw [h, drop_of hx, opensGo, if_pos hn, opensX]
  have hb := nb_F hb
  simp only [Bool.and_eq_true] at hb
  rw [hb.1, hb.2, ha]; simp
end
theorem head_par {q : SProc} {k : Int} {x : SParam} {b b2 : Bool} (k0 : 0 ≤ k) (hx : q.params[k.toNat]? = some x) (h : b = (headGood q && (q.params.take k.toNat).all paramB)) (h2 : b2 = (b && paramB x)) : b2 = (headGood q && (q.params.take (k + 1).toNat).all paramB) := by
  rw [h2, h, take_snoc k0 hx, List.all_append]; simp [Bool.and_assoc]
section
variable {pg : SProg}
theorem all_1 (h : (decide (6 < (pg.protos.length : Int)) || (decide (12 < (pg.locals.length : Int)) || decide (24 < (pg.procs.length : Int)))) = true) : allF pg = ⟨1500, -1, -1⟩ := by
  unfold allF; rw [if_pos (by simpa using h)]
theorem all_0 (h : (decide (6 < (pg.protos.length : Int)) || (decide (12 < (pg.locals.length : Int)) || decide (24 < (pg.procs.length : Int)))) = false) : ¬ (6 < (pg.protos.length : Int) ∨ 12 < (pg.locals.length : Int) ∨ 24 < (pg.procs.length : Int)) := by
  intro e; rw [← Bool.not_eq_true] at h; exact h (by simpa using e)
theorem all_2 (h : (decide (6 < (pg.protos.length : Int)) || (decide (12 < (pg.locals.length : Int)) || decide (24 < (pg.procs.length : Int)))) = false) (h2 : pg.protos.all protoB = false) : allF pg = ⟨1500, -1, -1⟩ := by
  unfold allF; rw [if_neg (all_0 h), if_pos h2]
theorem all_3 (h : (decide (6 < (pg.protos.length : Int)) || (decide (12 < (pg.locals.length : Int)) || decide (24 < (pg.procs.length : Int)))) = false) (h2 : pg.protos.all protoB = true) (h3 : pg.locals.all (fun l => localB l && nameMay l.name) = false) : allF pg = ⟨1500, -1, -1⟩ := by
  unfold allF; rw [if_neg (all_0 h), if_neg (by rw [h2]; decide), if_pos h3]
theorem all_4 (h : (decide (6 < (pg.protos.length : Int)) || (decide (12 < (pg.locals.length : Int)) || decide (24 < (pg.procs.length : Int)))) = false) (h2 : pg.protos.all protoB = true) (h3 : pg.locals.all (fun l => localB l && nameMay l.name) = true) : allF pg = okF := by
  unfold allF; rw [if_neg (all_0 h), if_neg (by rw [h2]; decide), if_neg (by rw [h3]; decide)]
end
theorem reps_i0 : ∀ n : Nat, reps n [Value.int .i64 0] = (List.replicate n (0 : Int)).map (Value.int .i64)
  | 0 => rfl
  | n + 1 => by rw [List.replicate_succ, List.map_cons, ← reps_i0 n]; rfl
theorem reps_b0 : ∀ n : Nat, reps n [Value.bool false] = (List.replicate n false).map Value.bool
  | 0 => rfl
  | n + 1 => by rw [List.replicate_succ, List.map_cons, ← reps_b0 n]; rfl
theorem bs_get {c : List Bool} {k : Int} (h : k.toNat < c.length) : (c.map Value.bool)[0 + k.toNat * 1]? = some (.bool (c[k.toNat]?.getD false)) := by
  rw [show 0 + k.toNat * 1 = k.toNat by omega, List.getElem?_map, List.getElem?_eq_getElem h]
  simp [h]
theorem bs_set {c : List Bool} {k : Int} {x : Bool} : (c.map Value.bool).set (0 + k.toNat * 1) (.bool x) = (c.set k.toNat x).map Value.bool := by
  rw [show 0 + k.toNat * 1 = k.toNat by omega, List.map_set]
theorem is_get {c : List Int} {k : Int} (h : k.toNat < c.length) : (c.map (Value.int .i64))[0 + k.toNat * 1]? = some (.int .i64 (getI c k)) := by
  rw [show 0 + k.toNat * 1 = k.toNat by omega, List.getElem?_map, List.getElem?_eq_getElem h]
  simp [getI, h]
theorem is_set {c : List Int} {k x : Int} : (c.map (Value.int .i64)).set (0 + k.toNat * 1) (.int .i64 x) = (c.set k.toNat x).map (Value.int .i64) := by
  rw [show 0 + k.toNat * 1 = k.toNat by omega, List.map_set]
section
variable {n at_ : Int} {L : List Int} {k x : Int} {c d c2 d2 : List Int} {N : Option (List Int × List Int)}
theorem ng_bad (k0 : 0 ≤ k) (hx : L[k.toNat]? = some x) (hb : (decide (x ≤ at_) || decide (n ≤ x)) = true) (h : N = nextsGo n at_ (L.drop k.toNat) c d) : N = none := by
  rw [h, drop_of hx, nextsGo, if_pos (by simpa using hb)]
theorem ng_next (k0 : 0 ≤ k) (hx : L[k.toNat]? = some x) (hb : (decide (x ≤ at_) || decide (n ≤ x)) = false) (h : N = nextsGo n at_ (L.drop k.toNat) c d) : N = nextsGo n at_ (L.drop (k + 1).toNat) (incI c x) (d.set x.toNat (getI d at_)) := by
  rw [h, drop_of hx, nextsGo, if_neg (by intro e; rw [Bool.or_eq_false_iff] at hb; simp at hb; omega), show (k + 1).toNat = k.toNat + 1 by omega]
theorem ng_end (k0 : 0 ≤ k) (hk : ¬ k < L.length) (h : N = nextsGo n at_ (L.drop k.toNat) c d) : N = some (c, d) := by
  rw [h, List.drop_of_length_le (by omega)]; rfl
end
section
variable {L : List Int} {k x : Int} {u u2 : List Bool} {N : Option (List Bool)} {ts : List Term}
theorem ug_bad (k0 : 0 ≤ k) (hx : L[k.toNat]? = some x) (hb : u[x.toNat]?.getD false = true) (h : N = useGo (L.drop k.toNat) u) : N = none := by
  rw [h, drop_of hx, useGo, if_pos hb]
theorem ug_next (k0 : 0 ≤ k) (hx : L[k.toNat]? = some x) (hb : u[x.toNat]?.getD false = false) (h : N = useGo (L.drop k.toNat) u) : N = useGo (L.drop (k + 1).toNat) (u.set x.toNat true) := by
  rw [h, drop_of hx, useGo, if_neg (by rw [hb]; decide), show (k + 1).toNat = k.toNat + 1 by omega]
theorem ug_end (k0 : 0 ≤ k) (hk : ¬ k < L.length) (h : N = useGo (L.drop k.toNat) u) : N = some u := by
  rw [h, List.drop_of_length_le (by omega)]; rfl
theorem rg_may (k0 : 0 ≤ k) (hx : L[k.toNat]? = some x) (hb : mayB ts x = false) (h : N = rootsGo ts (L.drop k.toNat) u) : N = none := by
  rw [h, drop_of hx, rootsGo, if_pos hb]
theorem rg_bad (k0 : 0 ≤ k) (hx : L[k.toNat]? = some x) (hb : mayB ts x = true) (hu : useGo (postS ts x) u = none) (h : N = rootsGo ts (L.drop k.toNat) u) : N = none := by
  rw [h, drop_of hx, rootsGo, if_neg (by rw [hb]; decide), hu]
theorem rg_next (k0 : 0 ≤ k) (hx : L[k.toNat]? = some x) (hb : mayB ts x = true) (hu : useGo (postS ts x) u = some u2) (h : N = rootsGo ts (L.drop k.toNat) u) : N = rootsGo ts (L.drop (k + 1).toNat) u2 := by
  rw [h, drop_of hx, rootsGo, if_neg (by rw [hb]; decide), hu, show (k + 1).toNat = k.toNat + 1 by omega]
theorem rg_end (k0 : 0 ≤ k) (hk : ¬ k < L.length) (h : N = rootsGo ts (L.drop k.toNat) u) : N = some u := by
  rw [h, List.drop_of_length_le (by omega)]; rfl
end
section
variable {q : SProc} {i k : Int} {s : SStep} {c d c2 d2 : List Int} {u u2 : List Bool} {F : SFault}
theorem sh_form (k0 : 0 ≤ k) (hx : q.steps[k.toNat]? = some s) (hm : mayS s = false) (h : F = shapeGo q i (q.steps.drop k.toNat) k c d u) : F = ⟨1500, i, k⟩ := by
  rw [h, drop_of hx, shapeGo, if_pos hm]
theorem sh_tree (k0 : 0 ≤ k) (hx : q.steps[k.toNat]? = some s) (hm : mayS s = true) (ht : (decide (0 < k) && !decide (getI c k = 1)) = true) (h : F = shapeGo q i (q.steps.drop k.toNat) k c d u) : F = ⟨1502, i, k⟩ := by
  rw [h, drop_of hx, shapeGo, if_neg (by rw [hm]; decide), if_pos (by simpa using ht)]
theorem sh_n (k0 : 0 ≤ k) (hx : q.steps[k.toNat]? = some s) (hm : mayS s = true) (ht : (decide (0 < k) && !decide (getI c k = 1)) = false) (hn : nextsGo q.steps.length k (nextsS s) c (deepGo s k d) = none) (h : F = shapeGo q i (q.steps.drop k.toNat) k c d u) : F = ⟨1502, i, k⟩ := by
  rw [h, drop_of hx, shapeGo, if_neg (by rw [hm]; decide), if_neg (by intro e; simp [e] at ht), hn]
theorem sh_d (k0 : 0 ≤ k) (hx : q.steps[k.toNat]? = some s) (hm : mayS s = true) (ht : (decide (0 < k) && !decide (getI c k = 1)) = false) (hn : nextsGo q.steps.length k (nextsS s) c (deepGo s k d) = some (c2, d2)) (hd : 24 < getI d2 k)
    (h : F = shapeGo q i (q.steps.drop k.toNat) k c d u) : F = ⟨1502, i, k⟩ := by
  rw [h, drop_of hx, shapeGo, if_neg (by rw [hm]; decide), if_neg (by intro e; simp [e] at ht), hn]; simp only; rw [if_pos hd]
theorem sh_t (k0 : 0 ≤ k) (hx : q.steps[k.toNat]? = some s) (hm : mayS s = true) (ht : (decide (0 < k) && !decide (getI c k = 1)) = false) (hn : nextsGo q.steps.length k (nextsS s) c (deepGo s k d) = some (c2, d2)) (hd : ¬ 24 < getI d2 k)
    (hr : rootsGo q.terms (termsS s) u = none) (h : F = shapeGo q i (q.steps.drop k.toNat) k c d u) : F = ⟨1503, i, k⟩ := by
  rw [h, drop_of hx, shapeGo, if_neg (by rw [hm]; decide), if_neg (by intro e; simp [e] at ht), hn]; simp only; rw [if_neg hd, hr]
theorem sh_next (k0 : 0 ≤ k) (hx : q.steps[k.toNat]? = some s) (hm : mayS s = true) (ht : (decide (0 < k) && !decide (getI c k = 1)) = false) (hn : nextsGo q.steps.length k (nextsS s) c (deepGo s k d) = some (c2, d2)) (hd : ¬ 24 < getI d2 k)
    (hr : rootsGo q.terms (termsS s) u = some u2) (h : F = shapeGo q i (q.steps.drop k.toNat) k c d u) : F = shapeGo q i (q.steps.drop (k + 1).toNat) (k + 1) c2 d2 u2 := by
  rw [h, drop_of hx, shapeGo, if_neg (by rw [hm]; decide), if_neg (by intro e; simp [e] at ht), hn]; simp only; rw [if_neg hd, hr, show (k + 1).toNat = k.toNat + 1 by omega]
theorem sh_end (k0 : 0 ≤ k) (hk : ¬ k < q.steps.length) (h : F = shapeGo q i (q.steps.drop k.toNat) k c d u) : F = okF := by
  rw [h, List.drop_of_length_le (by omega)]; rfl
theorem deep_T (h : (decide (s.kind = 3) || decide (s.kind = 5)) = true) : incI d k = deepGo s k d := by unfold deepGo; rw [if_pos (by simpa using h)]
theorem deep_F (h : (decide (s.kind = 3) || decide (s.kind = 5)) = false) : d = deepGo s k d := by unfold deepGo; rw [if_neg (by intro e; rcases e with e | e <;> simp [e] at h)]
theorem dp_len : (deepGo s k d).length = d.length := by unfold deepGo incI; split <;> simp
end
theorem inc_len (c : List Int) (k : Int) : (incI c k).length = c.length := by simp [incI]
end Go.Sx
namespace Go.Sx
open Go
abbrev nilV : Value := .slice none 0 0
abbrev SnIx := Int × List Value × List (List Str)
def BRow (H : Hp) (vs : List Value) (b : List (List Str)) : Prop := vs.length = b.length ∧ (∀ (i : Nat) v x, vs[i]? = some v → b[i]? = some x → RdSl H 1 Str.cells v x) ∧ ∀ (i : Nat) x, b[i]? = some x → x.length ≤ 2000000 + i
theorem BRow.le {H H' : Hp} {vs : List Value} {b : List (List Str)} (h : BRow H vs b) (hl : H.le H') : BRow H' vs b := ⟨h.1, fun i v x h1 h2 => (h.2.1 i v x h1 h2).le hl, h.2.2⟩
theorem BRow.set {H : Hp} {vs : List Value} {b : List (List Str)} (h : BRow H vs b) {t : Nat} {v : Value} {x : List Str} (hx : RdSl H 1 Str.cells v x) (hl : x.length ≤ 2000000 + t) : BRow H (vs.set t v) (b.set t x) := by
  refine ⟨by simp [h.1], fun i v' x' h1 h2 => ?_, fun i x' h2 => ?_⟩
  · rw [List.getElem?_set] at h1 h2
    by_cases e : t = i
    · subst e
      rw [if_pos rfl] at h1 h2
      split at h1
      · rw [h.1] at *
        rename_i hl
        rw [if_pos hl] at h2
        cases h1; cases h2; exact hx
      · cases h1
    · rw [if_neg e] at h1 h2; exact h.2.1 i v' x' h1 h2
  · rw [List.getElem?_set] at h2
    by_cases e : t = i
    · subst e
      rw [if_pos rfl] at h2
      split at h2
      · cases h2; exact hl
      · cases h2
    · rw [if_neg e] at h2; exact h.2.2 i x' h2
theorem BRow.at_ {H : Hp} {vs : List Value} {b : List (List Str)} (h : BRow H vs b) {k : Int} (hk : k.toNat < b.length) : ∃ v x, vs[k.toNat]? = some v ∧ b[k.toNat]? = some x ∧ RdSl H 1 Str.cells v x := by
  have h1 := List.getElem?_eq_getElem (l := vs) (i := k.toNat) (by rw [h.1]; exact hk)
  have h2 := List.getElem?_eq_getElem hk
  exact ⟨_, _, h1, h2, h.2.1 _ _ _ h1 h2⟩
theorem reps_one (v : Value) : ∀ n : Nat, reps n [v] = List.replicate n v
  | 0 => rfl
  | n + 1 => by rw [List.replicate_succ, ← reps_one v n]; rfl
theorem rep_set0 (v : Value) (n : Nat) : (List.replicate n v).set 0 v = List.replicate n v := by
  cases n <;> rfl
theorem set_get0 {vs : List Value} {v : Value} (h : 0 < vs.length) : (vs.set 0 v)[0 + (0 : Int).toNat * 1]? = some v := by
  show (vs.set 0 v)[0]? = some v
  rw [List.getElem?_set, if_pos rfl, if_pos h]
theorem set_getk {vs : List Value} {v : Value} {k : Int} (h : k.toNat < vs.length) : (vs.set (0 + k.toNat * 1) v)[0 + k.toNat * 1]? = some v := by
  rw [List.getElem?_set, if_pos rfl, if_pos (by omega)]
theorem get_k {vs : List Value} {v : Value} {k : Int} (h : vs[k.toNat]? = some v) : vs[0 + k.toNat * 1]? = some v := by
  rwa [show 0 + k.toNat * 1 = k.toNat by omega]
theorem set_k {vs : List Value} {v : Value} {k : Int} : vs.set (0 + k.toNat * 1) v = vs.set k.toNat v := by rw [show 0 + k.toNat * 1 = k.toNat by omega]
theorem brow0 {H : Hp} {q : SProc} {v : Value} (h : RdSl H 1 Str.cells v (q.params.map (·.name))) (hl : q.params.length ≤ 2000000) : BRow H ((List.replicate q.steps.length nilV).set 0 v) (bound0 q) := by
  unfold bound0
  refine BRow.set ⟨by simp, fun i v' x' h1 h2 => ?_, fun i x' h2 => ?_⟩ h (by simpa using hl)
  · rw [List.getElem?_replicate] at h1 h2
    split at h1
    · rename_i hl
      rw [if_pos hl] at h2
      cases h1; cases h2; exact RdSl.nil
    · cases h1
  · rw [List.getElem?_replicate] at h2
    split at h2
    · cases h2; simp
    · cases h2
theorem bound0_len (q : SProc) : (bound0 q).length = q.steps.length := by simp [bound0]
def ShapeOk (q : SProc) : Prop := ∀ (k : Nat) (s : SStep), q.steps[k]? = some s → mayS s = true ∧ ∀ t ∈ nextsS s, (k : Int) < t ∧ t < q.steps.length
theorem nextsGo_in {n at_ : Int} : ∀ {L c d c2 d2}, nextsGo n at_ L c d = some (c2, d2) → ∀ t ∈ L, at_ < t ∧ t < n
  | [], _, _, _, _, _, t, ht => by cases ht
  | x :: r, c, d, c2, d2, h, t, ht => by
    rw [nextsGo] at h
    split at h
    · cases h
    · rcases List.mem_cons.1 ht with rfl | ht
      · omega
      · exact nextsGo_in h t ht
theorem shapeGo_good {q : SProc} {i : Int} : ∀ (l : List SStep) (k : Nat) (c d : List Int) (u : List Bool), l = q.steps.drop k → shapeGo q i l k c d u = okF → ∀ (j : Nat) (s : SStep), k ≤ j → q.steps[j]? = some s → mayS s = true ∧ ∀ t ∈ nextsS s, (j : Int) < t ∧ t < q.steps.length := by
  intro l
  induction l with
  | nil =>
    intro k c d u hl _ j s hj hs
    have h1 := (List.getElem?_eq_some_iff.1 hs).1
    have h2 : (q.steps.drop k).length = 0 := by rw [← hl]; rfl
    rw [List.length_drop] at h2; omega
  | cons x r ih =>
    intro k c d u hl h j s hj hs
    have hx : q.steps[k]? = some x := by
      have h1 : (q.steps.drop k)[0]? = some x := by rw [← hl]; rfl
      rwa [List.getElem?_drop, Nat.add_zero] at h1
    have hr : r = q.steps.drop (k + 1) := by
      have h1 : (q.steps.drop k).drop 1 = r := by rw [← hl]; rfl
      rw [← h1, List.drop_drop]
    rw [shapeGo] at h
    split at h
    · cases h
    · rename_i hm
      split at h
      · cases h
      · split at h
        · cases h
        · rename_i c2 d2 hn
          split at h
          · cases h
          · split at h
            · cases h
            · rename_i u2 _
              rcases Nat.lt_or_ge k j with hlt | hge
              · exact ih (k + 1) c2 d2 u2 hr (by rw [← h]; rfl) j s hlt hs
              · have : j = k := by omega
                subst this
                rw [hx] at hs; cases hs
                exact ⟨by simpa using hm, nextsGo_in hn⟩
theorem shape_good {q : SProc} {i : Int} (h : shapeF i q = okF) : ShapeOk q := fun k s hs => shapeGo_good _ 0 _ _ _ rfl h k s (Nat.zero_le _) hs
theorem binds_len (s : SStep) : (bindsS s).length = (nextsS s).length := by
  unfold bindsS
  split
  · rename_i h; unfold nextsS; rw [if_pos (by rcases h with h | h <;> simp [goesB, h])]; rfl
  · split
    · rename_i h; unfold nextsS; rw [if_neg (by simp [goesB, h])]; simp
    · simp
section
variable {pg : SProg} {q : SProc} {i k : Int} {s : SStep} {b : List (List Str)} {x : List Str} {F : SFault}
theorem sn_bad (k0 : 0 ≤ k) (hx : q.steps[k.toNat]? = some s) (hb : b[k.toNat]? = some x) (he : ¬ stepE pg q.terms s x = 0) (h : F = senseGo pg q i (q.steps.drop k.toNat) k b) : F = ⟨stepE pg q.terms s x, i, k⟩ := by
  rw [h, drop_of hx, senseGo, hb]; simp only [Option.getD_some]; rw [if_pos he]
theorem sn_next (k0 : 0 ≤ k) (hx : q.steps[k.toNat]? = some s) (hb : b[k.toNat]? = some x) (he : stepE pg q.terms s x = 0) (h : F = senseGo pg q i (q.steps.drop k.toNat) k b) :
    F = senseGo pg q i (q.steps.drop (k + 1).toNat) (k + 1) (boundGo k (nextsS s) (bindsS s) b) := by
  rw [h, drop_of hx, senseGo, hb]; simp only [Option.getD_some]; rw [if_neg (by simpa using he), show (k + 1).toNat = k.toNat + 1 by omega]
theorem sn_end (k0 : 0 ≤ k) (hk : ¬ k < q.steps.length) (h : F = senseGo pg q i (q.steps.drop k.toNat) k b) : F = okF := by
  rw [h, List.drop_of_length_le (by omega)]; rfl
variable {N M : List Int} {ms : List Str} {j t : Int} {m : Str} {B b' : List (List Str)}
theorem bg_next {L : List Int} {ms : List Str} (j0 : 0 ≤ j) (ht : L[j.toNat]? = some t) (hm : ms[j.toNat]? = some m) (h : B = boundGo k (L.drop j.toNat) (ms.drop j.toNat) b') : B = boundGo k (L.drop (j + 1).toNat) (ms.drop (j + 1).toNat) (putAt b' k t m) := by
  rw [h, drop_of ht, drop_of hm, boundGo, show (j + 1).toNat = j.toNat + 1 by omega]; rfl
theorem bg_end {L : List Int} {ms : List Str} (j0 : 0 ≤ j) (hj : ¬ j < L.length) (h : B = boundGo k (L.drop j.toNat) (ms.drop j.toNat) b') : B = b' := by
  rw [h, List.drop_of_length_le (by omega)]; rfl
theorem putAt_T (hb : b'[k.toNat]? = some x) (hm : ¬ m = []) : putAt b' k t m = b'.set t.toNat (x ++ [m]) := by unfold putAt; rw [hb, if_neg hm]; rfl
theorem putAt_F (hb : b'[k.toNat]? = some x) (hm : m = []) : putAt b' k t m = b'.set t.toNat x := by unfold putAt; rw [hb, if_pos hm]; simp
end
theorem binds_of {s : SStep} {j : Int} (h0 : 0 ≤ j) (h : j < (nextsS s).length) : ∃ m, (bindsS s)[j.toNat]? = some m := getSome h0 (by rw [binds_len]; exact h)
end Go.Sx
namespace Go.Sx
open Go
def PgAt (H : Hp) (b : Nat) (pg : SProg) : Prop := ∀ (j : Nat) v, pg.cells[j]? = some v → H b j = some v
theorem PgAt.le {H H' : Hp} {b : Nat} {pg : SProg} (h : PgAt H b pg) (hl : H.le H') : PgAt H' b pg := fun j v hv => hl _ _ _ (h j v hv)
theorem PgAt.add {H : Hp} {b : Nat} {pg : SProg} (h : PgAt H b pg) : ∀ (j : Nat) v, pg.cells[j]? = some v → H b (0 + j) = some v := fun j v hv => by rw [Nat.zero_add]; exact h j v hv
def Fc.cells (f : FuncId) : List Value := [.func (.func f) #[] #[]]
instance : Cells 1 Fc.cells := ⟨fun _ => rfl, by decide, fun _ => rfl⟩
def CellAt (H : Hp) (b : Nat) (v : Value) : Prop := H b 0 = some v
theorem CellAt.le {H H' : Hp} {b : Nat} {v : Value} (h : CellAt H b v) (hl : H.le H') : CellAt H' b v := hl _ _ _ h
theorem head_sizes {l : List SProc} {i : Int} {q : SProc} (h : (headF l i q).e = 0) : 1 ≤ q.steps.length ∧ q.steps.length ≤ 80 ∧ q.terms.length ≤ 160 := by
  unfold headF at h
  split at h
  · cases h
  · rename_i hg
    have hg : (headGood q && q.params.all paramB) = true := by simpa using hg
    simp only [Bool.and_eq_true] at hg
    have h1 := hg.1
    unfold headGood at h1
    simp only [Bool.and_eq_true, decide_eq_true_eq] at h1
    omega
theorem shapeGo_ok {q : SProc} {i : Int} : ∀ (l : List SStep) (k : Int) (c d : List Int) (u : List Bool), (shapeGo q i l k c d u).e = 0 → shapeGo q i l k c d u = okF
  | [], _, _, _, _, _ => rfl
  | s :: r, k, c, d, u, h => by
    rw [shapeGo] at h ⊢
    split at h
    · cases h
    · rename_i h1
      rw [if_neg h1]
      split at h
      · cases h
      · rename_i h2
        rw [if_neg h2]
        split at h
        · cases h
        · rename_i c2 d2 h3
          split at h
          · cases h
          · rename_i h4
            try simp only at h ⊢
            rw [if_neg h4]
            split at h
            · cases h
            · exact shapeGo_ok r (k + 1) _ _ _ h
theorem shape_ok0 {q : SProc} {i : Int} (h : (shapeF i q).e = 0) : ShapeOk q := shape_good (i := i) (shapeGo_ok _ _ _ _ _ h)
def ProcGood (q : SProc) : Prop := ShapeOk q ∧ 1 ≤ q.steps.length ∧ q.steps.length ≤ 80 ∧ q.terms.length ≤ 160
theorem each_good {l : List SProc} : ∀ (r : List SProc) (i : Int), (eachF (headShape l) r i).e = 0 → ∀ q ∈ r, ProcGood q
  | [], _, _, q, hq => by cases hq
  | x :: r, i, h, q, hq => by
    rw [eachF] at h
    split at h
    · rename_i h1; exact absurd h h1
    · rename_i h1
      have h1 : (headShape l i x).e = 0 := by simpa using h1
      rcases List.mem_cons.1 hq with rfl | hq
      · unfold headShape at h1
        split at h1
        · rename_i h2; exact absurd h1 h2
        · rename_i h2
          exact ⟨shape_ok0 h1, head_sizes (by simpa using h2)⟩
      · exact each_good r (i + 1) h q hq
section
variable {f : Int → SProc → SFault} {l : List SProc} {k : Int} {q : SProc} {F : SFault}
theorem each_bad (k0 : 0 ≤ k) (hx : l[k.toNat]? = some q) (he : ¬ (f k q).e = 0) (h : F = eachF f (l.drop k.toNat) k) : F = f k q := by
  rw [h, drop_of hx, eachF, if_pos he]
theorem each_next (k0 : 0 ≤ k) (hx : l[k.toNat]? = some q) (he : (f k q).e = 0) (h : F = eachF f (l.drop k.toNat) k) : F = eachF f (l.drop (k + 1).toNat) (k + 1) := by
  rw [h, drop_of hx, eachF, if_neg (by simpa using he), show (k + 1).toNat = k.toNat + 1 by omega]
theorem each_end (k0 : 0 ≤ k) (hk : ¬ k < l.length) (h : F = eachF f (l.drop k.toNat) k) : F = okF := by
  rw [h, List.drop_of_length_le (by omega)]; rfl
theorem hs_1 {pl : List SProc} (h : ¬ (headF pl k q).e = 0) : headShape pl k q = headF pl k q := by unfold headShape; rw [if_pos h]
theorem hs_2 {pl : List SProc} (h : (headF pl k q).e = 0) : headShape pl k q = shapeF k q := by unfold headShape; rw [if_neg (by simpa using h)]
end
theorem main_1 {l : List SProc} (h : (decide (findS l sMain < 0) || decide (0 < ((getP l (findS l sMain)).params.length : Int))) = true) : mainF l = ⟨1504, -1, -1⟩ := by
  unfold mainF; rw [if_pos (by simpa using h)]
theorem main_2 {l : List SProc} (h : (decide (findS l sMain < 0) || decide (0 < ((getP l (findS l sMain)).params.length : Int))) = false) : mainF l = okF := by
  unfold mainF; rw [if_neg (by intro e; rw [← Bool.not_eq_true] at h; exact h (by simpa using e))]
section
variable {pg : SProg}
theorem chk_0 (h : ¬ (allF pg).e = 0) : checkS pg = allF pg := by unfold checkS; rw [if_pos h]
theorem chk_1 (h0 : (allF pg).e = 0) (h : ¬ (eachF (headShape pg.procs) pg.procs 0).e = 0) : checkS pg = eachF (headShape pg.procs) pg.procs 0 := by unfold checkS; rw [if_neg (by simpa using h0), if_pos h]
theorem chk_2 (h0 : (allF pg).e = 0) (h1 : (eachF (headShape pg.procs) pg.procs 0).e = 0) (h : ¬ (mainF pg.procs).e = 0) : checkS pg = mainF pg.procs := by
  unfold checkS; rw [if_neg (by simpa using h0), if_neg (by simpa using h1), if_pos h]
theorem chk_3 (h0 : (allF pg).e = 0) (h1 : (eachF (headShape pg.procs) pg.procs 0).e = 0) (h2 : (mainF pg.procs).e = 0) : checkS pg = eachF (senseF pg) pg.procs 0 := by
  unfold checkS; rw [if_neg (by simpa using h0), if_neg (by simpa using h1), if_neg (by simpa using h2)]
theorem senseGo_ok {q : SProc} {i : Int} : ∀ (l : List SStep) (k : Int) (b : List (List Str)), (senseGo pg q i l k b).e = 0 → senseGo pg q i l k b = okF
  | [], _, _, _ => rfl
  | s :: r, k, b, h => by
    rw [senseGo] at h ⊢
    try simp only at h ⊢
    split at h
    · rename_i h1; exact absurd h h1
    · rename_i h1; rw [if_neg h1]; exact senseGo_ok r _ _ h
theorem each_ok {f : Int → SProc → SFault} (hf : ∀ i q, (f i q).e = 0 → f i q = okF) : ∀ (l : List SProc) (i : Int), (eachF f l i).e = 0 → eachF f l i = okF
  | [], _, _ => rfl
  | q :: r, i, h => by
    rw [eachF] at h ⊢
    split at h
    · rename_i h1; exact absurd h h1
    · rename_i h1; rw [if_neg h1]; exact each_ok hf r _ h
theorem chk_ok (h3 : (eachF (senseF pg) pg.procs 0).e = 0) (h0 : (allF pg).e = 0) (h1 : (eachF (headShape pg.procs) pg.procs 0).e = 0) (h2 : (mainF pg.procs).e = 0) : checkS pg = okF := by
  rw [chk_3 h0 h1 h2]; exact each_ok (fun i q h => senseGo_ok _ _ _ h) _ _ h3
theorem check_good (h : (checkS pg).e = 0) : (allF pg).e = 0 ∧ (eachF (headShape pg.procs) pg.procs 0).e = 0 ∧ (mainF pg.procs).e = 0 ∧ (eachF (senseF pg) pg.procs 0).e = 0 := by
  unfold checkS at h
  split at h
  · rename_i h1; exact absurd h h1
  · rename_i h1
    split at h
    · rename_i h2; exact absurd h h2
    · rename_i h2
      split at h
      · rename_i h3; exact absurd h h3
      · rename_i h3
        exact ⟨by simpa using h1, by simpa using h2, by simpa using h3, h⟩
end
end Go.Sx
