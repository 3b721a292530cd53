import Derived.Test.YtjnlogbbcceaoaaGreatL7
import Derived.Shelf.Small.Bits
import Derived.Shelf.Strconv.Itoa0
import Derived.Shelf.Strings.Search1
import Derived.Shelf.Strings.Search2
import Derived.Shelf.Strings.Cut
import Derived.Shelf.LaysM
import Derived.Shelf.Strings.Shaped
import Derived.Shelf.Sort.Plain
import Derived.Shelf.Slices.CompactS
import Derived.Shelf.Slices.Cells
import Derived.Shelf.Slices.In.SortNone
import Derived.Test.YtjnlogbbcceaoaaGreatProg
set_option linter.all false
set_option maxRecDepth 100000
set_option maxHeartbeats 32000000
namespace Go.Sx
open Go
theorem uB (s : SStep) : aS s.bare = aS s := rfl
theorem zU (s : SStep) : cd s.bare = cd s := rfl
theorem zd (s : SStep) : bD s.bare = bD s := by
  unfold bD SStep.bare
  simp only [List.flatMap_map]
  rfl
theorem roots_b (s : SStep) : gh s.bare = gh s := by
  unfold gh SStep.bare
  simp only [List.flatMap_map]
  rfl
theorem mayS_b (s : SStep) : eg s.bare = eg s := by
  have e1 : iO (cR s.bare) = iO (cR s) := by
    have h : (cR s.bare).casts.length = (cR s).casts.length := by
      unfold cR
      show (if s.kind = 8 then [] else s.casts.map SCast.bare).length = (if s.kind = 8 then [] else s.casts).length
      split <;> simp
    unfold iO
    rw [h]
    rfl
  have e2 : eW s.bare = eW s := rfl
  have e3 : s.bare.casts.all (fun c => !eM c) = s.casts.all (fun c => !eM c) := by
    rw [show s.bare.casts = s.casts.map SCast.bare from rfl, List.all_map]; rfl
  have e4 : s.bare.casts.length = s.casts.length := by rw [show s.bare.casts = s.casts.map SCast.bare from rfl, List.length_map]
  unfold eg
  rw [e1, e2, e3, e4]
  rfl
theorem s5 {q : SProc} (i : Int) : ∀ (l : List SStep) (a : Int) (c d : List Int) (u : List Bool), bF q.bare i (l.map SStep.bare) a c d u = bF q i l a c d u
  | [], _, _, _, _ => rfl
  | s :: r, a, c, d, u => by
    have e2 : q.bare.steps.length = q.steps.length := by simp [SProc.bare]
    rw [List.map_cons]
    unfold bF
    rw [mayS_b, e2, uB, zd, show dr s.bare a d = dr s a d from rfl, show q.bare.terms = q.terms from rfl]
    split
    · rfl
    · split
      · rfl
      · split
        · rfl
        · split
          · rfl
          · split
            · rfl
            · exact s5 i r _ _ _ _
theorem shape_b (q : SProc) (i : Int) : dR i q.bare = dR i q := by
  unfold dR
  rw [show q.bare.steps = q.steps.map SStep.bare from rfl, List.length_map]
  exact s5 i _ _ _ _ _
theorem yn (l : List SProc) (s : Str) : dq (l.map SProc.bare) s = dq l s := by unfold dq; rw [List.map_map]; rfl
theorem Dq (l : List SProc) (k : Int) : (kX (l.map SProc.bare) k).params.length = (kX l k).params.length := by
  unfold kX
  rw [List.getElem?_map]
  cases l[k.toNat]? <;> rfl
theorem zT (l : List SProc) (s : Str) (n : Int) : bN (l.map SProc.bare) s n = bN l s n := by
  unfold bN; rw [yn, Dq]
theorem head_b (l : List SProc) (i : Int) (q : SProc) : ew (l.map SProc.bare) i q.bare = ew l i q := by
  have e1 : bL q.bare = bL q := by
    unfold bL
    rw [show q.bare.steps = q.steps.map SStep.bare from rfl, List.length_map]
    rfl
  unfold ew
  rw [e1, yn]
  rfl
theorem DC (s : SStep) : dW s.bare = dW s := by
  unfold dW
  rw [show s.bare.casts = s.casts.map SCast.bare from rfl, List.map_map]
  rfl
theorem tE (s : SStep) : ∀ l : List SProto, de s.bare (l.map SProto.bare) = de s l
  | [] => rfl
  | x :: r => by
    rw [List.map_cons]
    unfold de
    rw [tE s r]
    have : mY x.bare s.bare = mY x s := by unfold mY; rw [DC]; rfl
    rw [this]
    rfl
theorem stepE_b (P : SProg) (ts : List Term) (s : SStep) (bd : List Str) : eE P.bare ts s.bare bd = eE P ts s bd := by
  have e1 : cM ts s.bare = cM ts s := by unfold cM; rw [zd]; rfl
  have e4 : (s.casts.map SCast.bare).all (fun c => bN (P.procs.map SProc.bare) c.proc (c.args.length + 1)) = s.casts.all (fun c => bN P.procs c.proc (c.args.length + 1)) := by
    rw [List.all_map]
    congr 1
    funext c
    exact zT _ _ _
  unfold eE
  rw [e1, zU]
  show (if _ then _ else if _ then _ else if (!decide (s.proc = []) && !bN (P.procs.map SProc.bare) s.proc s.args.length) = true then _ else if (s.casts.map SCast.bare).all (fun c => bN (P.procs.map SProc.bare) c.proc (c.args.length + 1)) = false then _ else if (decide (s.kind = 8) && !de s.bare (P.protos.map SProto.bare)) = true then _ else _) = _
  rw [e4, zT, tE]
  rfl
theorem s6 (P : SProg) (q : SProc) (i : Int) : ∀ (l : List SStep) (a : Int) (b : List (List Str)), du P.bare q.bare i (l.map SStep.bare) a b = du P q i l a b
  | [], _, _ => rfl
  | s :: r, a, b => by
    rw [List.map_cons]
    unfold du
    rw [show q.bare.terms = q.terms from rfl, stepE_b, uB, zU, s6 P q i r]
theorem sense_b (P : SProg) (q : SProc) (i : Int) : dS P.bare i q.bare = dS P i q := by
  have e : gj q.bare = gj q := by
    unfold gj
    rw [show q.bare.steps = q.steps.map SStep.bare from rfl, List.length_map]
    rfl
  unfold dS
  rw [e]
  exact s6 P q i _ _ _
theorem uI (l : SLocal) : ci l.bare = ci l := by
  unfold ci
  rw [show l.bare.turns = l.turns.map SArms.bare from rfl, List.length_map, List.all_map]
  rfl
theorem proto_b (p : SProto) : cK p.bare = cK p := by
  have e1 : cE p.bare = cE p := by
    unfold cE
    rw [show p.bare.points = p.points.map SPoint.bare from rfl, List.length_map]
    rfl
  have e2 : p.bare.points.all (eF p.bare.roles) = p.points.all (eF p.roles) := by
    rw [show p.bare.points = p.points.map SPoint.bare from rfl, List.all_map]; rfl
  have e3 : ci ⟨[], p.bare.points.map dJ, (none, 0)⟩ = ci ⟨[], p.points.map dJ, (none, 0)⟩ := by
    rw [← uI ⟨[], p.bare.points.map dJ, (none, 0)⟩, ← uI ⟨[], p.points.map dJ, (none, 0)⟩]
    congr 1
    unfold SLocal.bare
    simp only [show p.bare.points = p.points.map SPoint.bare from rfl, List.map_map]
    congr 1
    refine List.map_congr_left (fun x _ => ?_)
    show SArms.bare (dJ x.bare) = SArms.bare (dJ x)
    unfold dJ SPoint.bare SArms.bare
    dsimp only
    split <;> rfl
  unfold cK
  rw [e1, e2, e3]
  rfl
theorem zR (P : SProg) : bW P.bare = bW P := by
  have e0 : gb P.bare = gb P := by
    have h1 : (P.protos.map SProto.bare).all cK = P.protos.all cK := by rw [List.all_map]; congr 1; funext x; exact proto_b x
    have h2 : (P.locals.map SLocal.bare).all (fun l => ci l && aG l.name) = P.locals.all (fun l => ci l && aG l.name) := by rw [List.all_map]; congr 1; funext x; show (ci x.bare && aG x.name) = _; rw [uI]
    unfold gb
    rw [show P.bare.procs = P.procs.map SProc.bare from rfl, show P.bare.protos = P.protos.map SProto.bare from rfl, show P.bare.locals = P.locals.map SLocal.bare from rfl, List.length_map, List.length_map, List.length_map, h1, h2]
  have e1 : cb (aX P.bare.procs) P.bare.procs 0 = cb (aX P.procs) P.procs 0 := jQ _ _ (fun j q hq => by unfold aX; rw [show P.bare.procs = P.procs.map SProc.bare from rfl, head_b, shape_b])
  have e2 : fP P.bare.procs = fP P.procs := by
    unfold fP
    rw [show P.bare.procs = P.procs.map SProc.bare from rfl, yn, Dq]
  have e3 : cb (dS P.bare) P.bare.procs 0 = cb (dS P) P.procs 0 := jQ _ _ (fun j q hq => sense_b P q _)
  unfold bW
  rw [e0, e1, e2, e3]
theorem rb {a b : SProg} (h : a.bare = b.bare) : bW a = bW b := by rw [← zR a, ← zR b, h]
end Go.Sx
namespace Go.Sx
open Go
theorem cast_bb (l : List SCast) : (l.map SCast.bare).map SCast.bare = l.map SCast.bare := by rw [List.map_map]; rfl
theorem nmSt_b (s : SStep) : (d4 s.bare).bare = (d4 s).bare := by
  unfold SStep.bare d4
  simp only [cast_bb]
theorem nmQ_b (q : SProc) : (nmQ q.bare).bare = (nmQ q).bare := by
  rw [oQ, oQ]
  show (⟨q.name, q.params.map nmP, (none, 0), q.terms.map nmT, (none, 0), (q.steps.map SStep.bare).map (fun s => (d4 s).bare), (none, 0)⟩ : SProc) = _
  rw [List.map_map]
  congr 1
  exact List.map_congr_left (fun s _ => nmSt_b s)
theorem pt_bb (p : SProto) : p.bare.bare = p.bare := by
  unfold SProto.bare
  simp only [List.map_map]
  rfl
theorem lo_bb (p : SLocal) : p.bare.bare = p.bare := by
  unfold SLocal.bare
  simp only [List.map_map]
  rfl
theorem nmG_b (P : SProg) : (nmG P.bare).bare = (nmG P).bare := by
  show (⟨(P.protos.map SProto.bare).map SProto.bare, (none, 0), (P.locals.map SLocal.bare).map SLocal.bare, (none, 0), ((P.procs.map SProc.bare).map nmQ).map SProc.bare, (none, 0)⟩ : SProg) = ⟨P.protos.map SProto.bare, (none, 0), P.locals.map SLocal.bare, (none, 0), (P.procs.map nmQ).map SProc.bare, (none, 0)⟩
  simp only [List.map_map]
  congr 1
  · exact List.map_congr_left (fun x _ => pt_bb x)
  · exact List.map_congr_left (fun x _ => lo_bb x)
  · exact List.map_congr_left (fun x _ => nmQ_b x)
theorem CZ (q : SProc) : ∀ (f : Nat) (a : Int), fF q.bare f a = fF q f a
  | 0, _ => rfl
  | f + 1, a => by
    have ih : fF q.bare f = fF q f := funext (CZ q f)
    rw [fF, fF, show q.bare.steps = q.steps.map SStep.bare from rfl, List.getElem?_map]
    cases q.steps[a.toNat]? with
    | none => rfl
    | some s => simp only [Option.map_some]; rw [uB, ih]
theorem ya (q : SProc) : dm q.bare = dm q := by unfold dm; rw [CZ, show q.bare.steps = q.steps.map SStep.bare from rfl, List.length_map]
theorem zx (q : SProc) : ∀ (f : Nat) (a : Int), fF (nmQ q) f a = fF q f a
  | 0, _ => rfl
  | f + 1, a => by
    have ih : fF (nmQ q) f = fF q f := funext (zx q f)
    rw [fF, fF, show (nmQ q).steps = q.steps.map d4 from rfl, List.getElem?_map]
    cases q.steps[a.toNat]? with
    | none => rfl
    | some s => simp only [Option.map_some]; rw [l8, ih]
theorem uw (q : SProc) : dm (nmQ q) = dm q := by unfold dm; rw [zx, show (nmQ q).steps = q.steps.map d4 from rfl, List.length_map]
theorem gT_b (q : SProc) (k : Int) : gT q.bare k = gT q k := by
  unfold gT iD
  rw [show q.bare.steps = q.steps.map SStep.bare from rfl, List.getElem?_map]
  cases q.steps[k.toNat]? with
  | none => rfl
  | some s => simp only [Option.map_some]; rw [roots_b]; rfl
theorem ze (q : SProc) : f5 q.bare = f5 q := by
  rw [← oz, ← oz, ya]
  congr 1
  exact funext (gT_b q)
theorem gT_nm (q : SProc) (k : Int) : gT (nmQ q) k = gT q k := by
  unfold gT iD
  rw [show (nmQ q).steps = q.steps.map d4 from rfl, List.getElem?_map]
  cases q.steps[k.toNat]? with
  | none => rfl
  | some s =>
    simp only [Option.map_some]
    rw [CA, show (nmQ q).terms = q.terms.map nmT from rfl]
    congr 1
    exact funext (zq q.terms)
theorem ww (q : SProc) : f5 (nmQ q) = f5 q := by
  rw [← oz, ← oz, uw]
  congr 1
  exact funext (gT_nm q)
theorem stepP_b (O T : List Int) (s : SStep) : kA O T s.bare = kA O T s := by
  unfold kA SStep.bare
  simp only [List.map_map]
  rfl
theorem Cn (O T : List Int) (s : SStep) : kA O T (d4 s) = (d4 (kA O T s)).bare := by
  unfold kA d4 SStep.bare
  simp only [List.map_map]
  rfl
theorem zk (q : SProc) : gp q.bare = gp q := by
  have e : gf q.bare (dm q) = gf q (dm q) := by
    unfold gf
    rw [ya, ze]
    congr 1
    funext k
    rw [show q.bare.steps = q.steps.map SStep.bare from rfl, List.getElem?_map, Option.map_map]
    congr 1
    exact funext (stepP_b _ _)
  unfold gp
  rw [ya, ze, e]
  rfl
theorem getT_nm (ts : List Term) (k : Int) : qT (ts.map nmT) k = nmT (qT ts k) := by
  unfold qT
  rw [List.getElem?_map]
  cases ts[k.toNat]? <;> rfl
theorem CD (q : SProc) : gp (nmQ q) = (nmQ (gp q)).bare := by
  have e : gf (nmQ q) (dm q) = (gf q (dm q)).map (fun s => (d4 s).bare) := by
    unfold gf
    rw [uw, ww, List.map_filterMap]
    congr 1
    funext k
    rw [show (nmQ q).steps = q.steps.map d4 from rfl, List.getElem?_map, Option.map_map, Option.map_map]
    congr 1
    exact funext (Cn _ _)
  rw [oQ]
  unfold gp
  rw [uw, ww, e]
  simp only [List.map_map]
  congr 1
  refine List.map_congr_left (fun k _ => ?_)
  show mvP (f5 q) (qT ((nmQ q).terms) k) = nmT (mvP (f5 q) (qT q.terms k))
  rw [show (nmQ q).terms = q.terms.map nmT from rfl, getT_nm]
  rfl
theorem zp {a b : SProg} (h : a.bare = b.bare) : a.protos.map SProto.bare = b.protos.map SProto.bare ∧ a.locals.map SLocal.bare = b.locals.map SLocal.bare ∧ a.procs.map SProc.bare = b.procs.map SProc.bare := by
  unfold SProg.bare at h
  injection h with h1 _ h2 _ h3 _
  exact ⟨h1, h2, h3⟩
theorem wL {p p8 p30 p31 p33 : SProg} (hv : ∀ q ∈ p.procs, VarOk q) (h8 : p8.bare = (nmG p).bare) (h30 : p30.bare = iJ p) (h31 : p31.bare = (nmG p30).bare) (h33 : p33.bare = iJ p8) : p31.bare = p33.bare := by
  have hc : bW p8 = bW p := (rb h8).trans (xt hv)
  rw [h31, h33, ← nmG_b, h30]
  by_cases he : (bW p).e = 0
  · have he8 : (bW p8).e = 0 := by rw [hc]; exact he
    rw [gx he, gx he8]
    obtain ⟨g1, g2, g3⟩ := zp h8
    have r8 : p8.procs.map fD = p8.procs.map gp := List.map_congr_left (fun q hq => (kZ he8 q hq).symm)
    have r8b : p8.procs.map gp = (p8.procs.map SProc.bare).map gp := by rw [List.map_map]; exact List.map_congr_left (fun q _ => (zk q).symm)
    have r9 : ((nmG p).procs.map SProc.bare).map gp = (nmG p).procs.map gp := by rw [List.map_map]; exact List.map_congr_left (fun q _ => zk q)
    rw [r8, r8b, g3, r9, g1, g2]
    show (⟨(p.protos.map SProto.bare).map SProto.bare, (none, 0), (p.locals.map SLocal.bare).map SLocal.bare, (none, 0), ((p.procs.map fD).map nmQ).map SProc.bare, (none, 0)⟩ : SProg) = ⟨p.protos.map SProto.bare, (none, 0), p.locals.map SLocal.bare, (none, 0), (p.procs.map nmQ).map gp, (none, 0)⟩
    simp only [List.map_map]
    congr 1
    · exact List.map_congr_left (fun x _ => pt_bb x)
    · exact List.map_congr_left (fun x _ => lo_bb x)
    · refine List.map_congr_left (fun q hq => ?_)
      show (nmQ (fD q)).bare = gp (nmQ q)
      rw [CD, kZ he q hq]
  · have he8 : ¬ (bW p8).e = 0 := by rw [hc]; exact he
    rw [← jD he, ← jD he8]
    rfl
theorem NmOk.of_bare {q : SProc} (h : NmOk q.bare) : NmOk q := by
  refine ⟨h.p, h.t, fun s hs => ?_, h.pl, h.tl, by have := h.sl; simpa [SProc.bare] using this⟩
  exact h.s s.bare (List.mem_map.2 ⟨s, hs, rfl⟩)
theorem s9 {p p30 : SProg} (hn : ∀ q ∈ p.procs, NmOk q) (h : p30.bare = iJ p) : ∀ q ∈ p30.procs, NmOk q := by
  intro x hx
  refine NmOk.of_bare ?_
  have hb : x.bare ∈ (iJ p).procs := by rw [← h]; exact List.mem_map.2 ⟨x, hx, rfl⟩
  by_cases he : (bW p).e = 0
  · rw [gx he] at hb
    obtain ⟨q, hq, e⟩ := List.mem_map.1 hb
    rw [← e, ← kZ he q hq]
    have hN := hn q hq
    obtain ⟨hR, _, hT⟩ := A1 he q hq
    have hl := hT.len
    have ho := x9 hR.s hR.t
    have h160 := hR.t160
    have h80 := hR.n80
    refine ⟨hN.p, fun t ht => ?_, fun s hs => ?_, hN.pl, ?_, ?_⟩
    · obtain ⟨k, hk, rfl⟩ := List.mem_map.1 ht
      show (qT q.terms k).name.length ≤ 1000
      obtain ⟨y, hy⟩ := ao (l := q.terms) (hT.rg k hk).1 (hT.rg k hk).2
      rw [getT_at hy]
      exact hN.t y (List.mem_of_getElem? hy)
    · obtain ⟨k, hk, hs⟩ := List.mem_filterMap.1 hs
      cases hx : q.steps[k.toNat]? with
      | none => rw [hx] at hs; cases hs
      | some y =>
        rw [hx] at hs
        obtain rfl := Option.some.inj hs
        have := hN.s y (List.mem_of_getElem? hx)
        refine ⟨this.1, by show (y.ways.map _).length ≤ _; rw [List.length_map]; exact this.2.1, fun w hw => ?_⟩
        obtain ⟨v, hv, rfl⟩ := List.mem_map.1 hw
        exact this.2.2 v hv
    · show ((f5 q).map _).length ≤ _
      rw [List.length_map]; omega
    · show (gf q (dm q)).length ≤ _
      have := List.length_filterMap_le (fun k => q.steps[k.toNat]?.map (kA (dm q) (f5 q))) (dm q)
      unfold gf
      omega
  · rw [← jD he] at hb
    cases hb
theorem wI {p p30 : SProg} (h : p30.bare = iJ p) : p30.procs.length ≤ p.procs.length := by
  have e : p30.procs.length = (iJ p).procs.length := by rw [← h]; simp [SProg.bare]
  rw [e]
  by_cases he : (bW p).e = 0
  · rw [gx he]; simp
  · rw [← jD he]; exact Nat.zero_le _
end Go.Sx
namespace Go.Sx
open Go Go.Proofs
theorem jL {H : Hp} (c : UInt8) :
  FnS Tryz.prog 136 [.int .u8 (c.toNat : Int)] H (.bool (fc c)) := by
 refine FnS.enter Tryz.func136 Tryz.ntmps136 rfl rfl (fun w0 => ?_)
 refine kj ?_; refine gU ?_
 refine aj (s := 5) rfl (fun g5 => ?_) (fun g5 => ?_)
 ·
  have q5 := of_decide_eq_true g5
  refine wg ?_
  exact aQ (.inr rfl) (ae rfl (RVal.tmp rfl)) ⟨congrArg Value.bool (by simp [fc, g5]), rfl⟩
 have q5 := of_decide_eq_false g5
 refine lh ?_; refine ff ?_
 exact aQ (.inr rfl) (ae rfl (RVal.tmp rfl)) ⟨congrArg Value.bool (by simp [fc, g5]), rfl⟩
theorem yd {H : Hp} (c : UInt8) :
  FnS Tryz.prog 138 [.int .u8 (c.toNat : Int)] H (.bool (im c)) := by
 refine FnS.enter Tryz.func138 Tryz.ntmps138 rfl rfl (fun w0 => ?_)
 refine kj ?_; refine gU ?_
 refine aj (s := 5) rfl (fun g5 => ?_) (fun g5 => ?_)
 ·
  have q5 := of_decide_eq_true g5
  refine wg ?_
  exact aQ (.inr rfl) (ae rfl (RVal.tmp rfl)) ⟨congrArg Value.bool (by simp [im, g5]), rfl⟩
 have q5 := of_decide_eq_false g5
 refine lh ?_; refine ff ?_
 exact aQ (.inr rfl) (ae rfl (RVal.tmp rfl)) ⟨congrArg Value.bool (by simp [im, g5]), rfl⟩
theorem mb {H : Hp} (s : Str) :
  FnS Tryz.prog 137 [gs s] H (.bool (dp s)) := by
 refine FnS.enter Tryz.func137 Tryz.ntmps137 rfl rfl (fun w0 => ?_)
 refine jq ?_
 refine cf (kw1 s) 4 [(2, _), (3, _)] ⟨rfl, rfl, trivial⟩ ?_ ?_
 ·
  refine y3 ?_; refine yC ?_
  exact eT (bV rfl rfl rfl) rfl rfl ⟨rfl, rfl, trivial⟩
 refine TC.cond rfl (fun c4 => ?_) (fun c4 => ?_)
 ·
  refine or ?_
  exact aQ (.inr rfl) (ae rfl (RVal.tmp rfl)) ⟨congrArg Value.bool (by simp_all [dp]), rfl⟩
 refine cf (kw2 s) 18 [(2, _), (3, _)] ⟨rfl, rfl, trivial⟩ ?_ ?_
 ·
  refine y3 ?_; refine yC ?_
  exact eT (bV rfl rfl rfl) rfl rfl ⟨rfl, rfl, trivial⟩
 refine TC.cond rfl (fun c18 => ?_) (fun c18 => ?_)
 ·
  refine or ?_
  exact aQ (.inr rfl) (ae rfl (RVal.tmp rfl)) ⟨congrArg Value.bool (by simp_all [dp]), rfl⟩
 refine cf (kw3 s) 32 [(2, _)] ⟨rfl, trivial⟩ ?_ ?_
 ·
  refine BP ?_; refine Bt ?_
  exact eT (bV rfl rfl rfl) rfl rfl ⟨rfl, trivial⟩
 refine TC.cond rfl (fun c32 => ?_) (fun c32 => ?_)
 ·
  refine or ?_
  exact aQ (.inr rfl) (ae rfl (RVal.tmp rfl)) ⟨congrArg Value.bool (by simp_all [dp]), rfl⟩
 refine we ?_
 exact aQ (.inr rfl) (ae rfl (RVal.tmp rfl)) ⟨congrArg Value.bool (by simp_all [dp]), rfl⟩
theorem C9 {H : Hp} (s : Str) (hmax : s.length ≤ 9223372036854775807) :
  FnS Tryz.prog 79 [gs s] H (.bool (aG s)) := by
 refine FnS.enter Tryz.func79 Tryz.ntmps79 rfl rfl (fun w0 => ?_)
 refine ln ?_; refine TL.run (eo rfl rfl) rfl ?_; refine zm3 ?_
 refine aj (s := 7) rfl (fun g7 => ?_) (fun g7 => ?_)
 · exact zq42
 have q7 := of_decide_eq_false g7
 refine cN ?_; refine aw rfl rfl (eo rfl rfl) rfl ?_; refine dD ?_
 refine aj (s := 12) rfl (fun g12 => ?_) (fun g12 => ?_)
 ·
  have q12 := of_decide_eq_true g12
  exact zq44
 have q12 := of_decide_eq_false g12
 refine cN ?_
 have hlen : (0 : Int) < s.length := by have := of_decide_eq_false g7; omega
 obtain ⟨c0, hc0⟩ := ao (l := s) (i := 0) (by omega) hlen
 refine aw rfl rfl (f7 rfl rfl (by omega) hc0) rfl (aK rfl rfl (ab rfl rfl rfl rfl) (jL c0) rfl ?_); refine dD ?_
 refine aj (s := 18) rfl (fun g18 => ?_) (fun g18 => ?_)
 · exact zq50
 refine cN ?_; refine aK rfl rfl (ab rfl rfl rfl rfl) (mb s) rfl ?_; refine zm1 ?_
 refine TC.cond rfl (fun c21 => ?_) (fun c21 => ?_)
 · exact zq56
 have hn := m4 g7 g12 hc0 g18 c21
 exact zq0
theorem nW {H : Hp} (c : UInt8) :
  FnS Tryz.prog 99 [.int .u8 (c.toNat : Int)] H (.bool (fc c)) := by
 refine FnS.enter Tryz.func99 Tryz.ntmps99 rfl rfl (fun w0 => ?_)
 refine kj ?_; refine gU ?_
 refine aj (s := 5) rfl (fun g5 => ?_) (fun g5 => ?_)
 ·
  have q5 := of_decide_eq_true g5
  refine wg ?_
  exact aQ (.inr rfl) (ae rfl (RVal.tmp rfl)) ⟨congrArg Value.bool (by simp [fc, g5]), rfl⟩
 have q5 := of_decide_eq_false g5
 refine lh ?_; refine ff ?_
 exact aQ (.inr rfl) (ae rfl (RVal.tmp rfl)) ⟨congrArg Value.bool (by simp [fc, g5]), rfl⟩
theorem xX {H : Hp} (c : UInt8) :
  FnS Tryz.prog 101 [.int .u8 (c.toNat : Int)] H (.bool (im c)) := by
 refine FnS.enter Tryz.func101 Tryz.ntmps101 rfl rfl (fun w0 => ?_)
 refine kj ?_; refine gU ?_
 refine aj (s := 5) rfl (fun g5 => ?_) (fun g5 => ?_)
 ·
  have q5 := of_decide_eq_true g5
  refine wg ?_
  exact aQ (.inr rfl) (ae rfl (RVal.tmp rfl)) ⟨congrArg Value.bool (by simp [im, g5]), rfl⟩
 have q5 := of_decide_eq_false g5
 refine lh ?_; refine ff ?_
 exact aQ (.inr rfl) (ae rfl (RVal.tmp rfl)) ⟨congrArg Value.bool (by simp [im, g5]), rfl⟩
theorem um {H : Hp} (s : Str) :
  FnS Tryz.prog 100 [gs s] H (.bool (dp s)) := by
 refine FnS.enter Tryz.func100 Tryz.ntmps100 rfl rfl (fun w0 => ?_)
 refine jq ?_
 refine cf (rkw1 s) 4 [(2, _), (3, _)] ⟨rfl, rfl, trivial⟩ ?_ ?_
 ·
  refine y3 ?_; refine y3 ?_
  exact cC (bV rfl rfl rfl) rfl rfl ⟨rfl, rfl, trivial⟩ (cC (bV rfl rfl rfl) rfl rfl ⟨rfl, rfl, trivial⟩ (cC (bV rfl rfl rfl) rfl rfl ⟨rfl, rfl, trivial⟩ (eT (bV rfl rfl rfl) rfl rfl ⟨rfl, rfl, trivial⟩)))
 refine TC.cond rfl (fun c4 => ?_) (fun c4 => ?_)
 ·
  refine or ?_
  exact aQ (.inr rfl) (ae rfl (RVal.tmp rfl)) ⟨congrArg Value.bool (by simp_all [← xU]), rfl⟩
 refine cf (rkw2 s) 25 [(2, _)] ⟨rfl, trivial⟩ ?_ ?_
 · refine BP ?_; refine BP ?_; exact cC (bV rfl rfl rfl) rfl rfl ⟨rfl, trivial⟩ (cC (bV rfl rfl rfl) rfl rfl ⟨rfl, trivial⟩ (eT (bV rfl rfl rfl) rfl rfl ⟨rfl, trivial⟩))
 refine TC.cond rfl (fun c25 => ?_) (fun c25 => ?_)
 ·
  refine or ?_
  exact aQ (.inr rfl) (ae rfl (RVal.tmp rfl)) ⟨congrArg Value.bool (by simp_all [← xU]), rfl⟩
 refine we ?_
 exact aQ (.inr rfl) (ae rfl (RVal.tmp rfl)) ⟨congrArg Value.bool (by simp_all [← xU]), rfl⟩
end Go.Sx
namespace Go.Proofs
open Go.Shelf
def Tryz.lays145_ren : Go.Shelf.Ren := ⟨fun | 145 => 196 | 220 => 200 | 219 => 201 | 217 => 202 | 225 => 203 | 224 => 204 | 267 => 205 | 266 => 206 | 314 => 207 | n => n, fun | 9 => 9 | 4 => 4 | 59 => 226 | 3 => 3 | 5 => 5 | 46 => 30 | 146 => 233 | 51 => 195 | n => n, fun | 1 => 0 | n => n⟩
theorem Tryz.lays145 : Go.Proofs.Lays.n145 Tryz.prog Tryz.lays145_ren := {
  mixed := by kernel_rfl
  f145 := Tryz.func196.trans (congrArg some (by kernel_rfl))
  f217 := Tryz.func202.trans (congrArg some (by kernel_rfl))
  f219 := Tryz.func201.trans (congrArg some (by kernel_rfl))
  f220 := Tryz.func200.trans (congrArg some (by kernel_rfl))
  f224 := Tryz.func204.trans (congrArg some (by kernel_rfl))
  f225 := Tryz.func203.trans (congrArg some (by kernel_rfl))
  f266 := Tryz.func206.trans (congrArg some (by kernel_rfl))
  f267 := Tryz.func205.trans (congrArg some (by kernel_rfl))
  f314 := Tryz.func207.trans (congrArg some (by kernel_rfl))
  t3 := Tryz.underlying3
  a3 := Tryz.isAgg3
  z3 := Tryz.sizeOf3
  v3 := Tryz.zeroValue3
  t4 := Tryz.underlying4
  a4 := Tryz.isAgg4
  z4 := Tryz.sizeOf4
  v4 := Tryz.zeroValue4
  t5 := Tryz.underlying5
  a5 := Tryz.isAgg5
  z5 := Tryz.sizeOf5
  v5 := Tryz.zeroValue5
  t9 := Tryz.underlying9
  a9 := Tryz.isAgg9
  z9 := Tryz.sizeOf9
  v9 := Tryz.zeroValue9
  t46 := Tryz.underlying30
  a46 := Tryz.isAgg30
  z46 := Tryz.sizeOf30
  v46 := Tryz.zeroValue30
  t51 := Tryz.underlying195
  a51 := Tryz.isAgg195
  z51 := Tryz.sizeOf195
  v51 := Tryz.zeroValue195
  t59 := Tryz.underlying226
  a59 := Tryz.isAgg226
  z59 := Tryz.sizeOf226
  v59 := Tryz.zeroValue226
  t146 := Tryz.underlying233
  a146 := Tryz.isAgg233
  z146 := Tryz.sizeOf233
  v146 := Tryz.zeroValue233
  g1 := by kernel_rfl }
open Go.RowKit Go.Lib in
theorem Tryz.strings_Cut (s sep : ByteArray) (m : Int) (w : World) (hs : s.size < 4294967281) (hm : w.cell? ⟨0, 0, none⟩ = some (.int .i64 m)) :
    Calls Tryz.prog 196 #[.string s, .string sep] w fun e w' => e = .returned (.tuple #[.string ⟨(Lib.cut s.data.toList sep.data.toList).1.toArray⟩, .string ⟨(Lib.cut s.data.toList sep.data.toList).2.1.toArray⟩, .bool (Lib.cut s.data.toList sep.data.toList).2.2]) ∧ ∃ n, w' = w.drewN n := Any.strings_Cut Tryz.lays145 s sep m w hs hm
def Tryz.lays190_ren : Go.Shelf.Ren := ⟨fun | 190 => 61 | 125 => 122 | 258 => 121 | 128 => 166 | 129 => 167 | 302 => 157 | 303 => 158 | 304 => 159 | 305 => 160 | 306 => 161 | 307 => 162 | 308 => 163 | 309 => 164 | 310 => 165 | 333 => 186 | 329 => 187 | 330 => 188 | 334 => 189 | 335 => 190 | 336 => 191 | 344 => 199 | n => n, fun | 31 => 61 | 9 => 9 | 3 => 3 | 46 => 30 | 0 => 0 | 51 => 195 | 53 => 197 | 4 => 4 | 183 => 187 | 182 => 186 | 131 => 192 | 5 => 5 | 218 => 215 | 222 => 219 | 228 => 228 | 229 => 229 | n => n, fun | n => n⟩
theorem Tryz.lays190 : Go.Proofs.Lays.n190 Tryz.prog Tryz.lays190_ren := {
  mixed := by kernel_rfl
  f125 := Tryz.func122.trans (congrArg some (by kernel_rfl))
  f128 := Tryz.func166.trans (congrArg some (by kernel_rfl))
  f129 := Tryz.func167.trans (congrArg some (by kernel_rfl))
  f190 := Tryz.func61.trans (congrArg some (by kernel_rfl))
  f258 := Tryz.func121.trans (congrArg some (by kernel_rfl))
  f302 := Tryz.func157.trans (congrArg some (by kernel_rfl))
  f303 := Tryz.func158.trans (congrArg some (by kernel_rfl))
  f304 := Tryz.func159.trans (congrArg some (by kernel_rfl))
  f305 := Tryz.func160.trans (congrArg some (by kernel_rfl))
  f306 := Tryz.func161.trans (congrArg some (by kernel_rfl))
  f307 := Tryz.func162.trans (congrArg some (by kernel_rfl))
  f308 := Tryz.func163.trans (congrArg some (by kernel_rfl))
  f309 := Tryz.func164.trans (congrArg some (by kernel_rfl))
  f310 := Tryz.func165.trans (congrArg some (by kernel_rfl))
  f329 := Tryz.func187.trans (congrArg some (by kernel_rfl))
  f330 := Tryz.func188.trans (congrArg some (by kernel_rfl))
  f333 := Tryz.func186.trans (congrArg some (by kernel_rfl))
  f334 := Tryz.func189.trans (congrArg some (by kernel_rfl))
  f335 := Tryz.func190.trans (congrArg some (by kernel_rfl))
  f336 := Tryz.func191.trans (congrArg some (by kernel_rfl))
  f344 := Tryz.func199.trans (congrArg some (by kernel_rfl))
  t0 := Tryz.underlying0
  a0 := Tryz.isAgg0
  z0 := Tryz.sizeOf0
  v0 := Tryz.zeroValue0
  t3 := Tryz.underlying3
  a3 := Tryz.isAgg3
  z3 := Tryz.sizeOf3
  v3 := Tryz.zeroValue3
  t4 := Tryz.underlying4
  a4 := Tryz.isAgg4
  z4 := Tryz.sizeOf4
  v4 := Tryz.zeroValue4
  t5 := Tryz.underlying5
  a5 := Tryz.isAgg5
  z5 := Tryz.sizeOf5
  v5 := Tryz.zeroValue5
  t9 := Tryz.underlying9
  a9 := Tryz.isAgg9
  z9 := Tryz.sizeOf9
  v9 := Tryz.zeroValue9
  t31 := Tryz.underlying61
  a31 := Tryz.isAgg61
  z31 := Tryz.sizeOf61
  v31 := Tryz.zeroValue61
  t46 := Tryz.underlying30
  a46 := Tryz.isAgg30
  z46 := Tryz.sizeOf30
  v46 := Tryz.zeroValue30
  t51 := Tryz.underlying195
  a51 := Tryz.isAgg195
  z51 := Tryz.sizeOf195
  v51 := Tryz.zeroValue195
  t53 := Tryz.underlying197
  a53 := Tryz.isAgg197
  z53 := Tryz.sizeOf197
  v53 := Tryz.zeroValue197
  t131 := Tryz.underlying192
  a131 := Tryz.isAgg192
  z131 := Tryz.sizeOf192
  v131 := Tryz.zeroValue192
  t182 := Tryz.underlying186
  a182 := Tryz.isAgg186
  z182 := Tryz.sizeOf186
  v182 := Tryz.zeroValue186
  t183 := Tryz.underlying187
  a183 := Tryz.isAgg187
  z183 := Tryz.sizeOf187
  v183 := Tryz.zeroValue187
  t218 := Tryz.underlying215
  a218 := Tryz.isAgg215
  z218 := Tryz.sizeOf215
  v218 := Tryz.zeroValue215
  t222 := Tryz.underlying219
  a222 := Tryz.isAgg219
  z222 := Tryz.sizeOf219
  v222 := Tryz.zeroValue219
  t228 := Tryz.underlying228
  a228 := Tryz.isAgg228
  z228 := Tryz.sizeOf228
  v228 := Tryz.zeroValue228
  t229 := Tryz.underlying229
  a229 := Tryz.isAgg229
  z229 := Tryz.sizeOf229
  v229 := Tryz.zeroValue229 }
open Go.Sort Go.RowKit in
theorem Tryz.slices_Sort_string (blk off cap : Nat) (ss : List (List UInt8)) (w : World) (hH : Holds encStr w blk off ss.toArray) (hblk : blk < w.heap.size) (hsz : ss.length < 4611686018427387904) :
    Calls Tryz.prog 61 #[.slice (some ⟨blk, off, none⟩) ss.length cap] w fun e w' =>
      e = .returned (.tuple #[]) ∧ ∃ n os, w' = grow (putRow encStr (Sort.ahead w n) blk off (ss.mergeSort fun x y => decide (x ≤ y)).toArray) os := Any.slices_Sort_string Tryz.lays190 blk off cap ss w hH hblk hsz
def Tryz.lays194_ren : Go.Shelf.Ren := ⟨fun | 194 => 62 | n => n, fun | 31 => 61 | 9 => 9 | 3 => 3 | 4 => 4 | 0 => 0 | n => n, fun | n => n⟩
theorem Tryz.lays194 : Go.Proofs.Lays.n194 Tryz.prog Tryz.lays194_ren := {
  mixed := by kernel_rfl
  f194 := Tryz.func62.trans (congrArg some (by kernel_rfl))
  t0 := Tryz.underlying0
  a0 := Tryz.isAgg0
  z0 := Tryz.sizeOf0
  v0 := Tryz.zeroValue0
  t3 := Tryz.underlying3
  a3 := Tryz.isAgg3
  z3 := Tryz.sizeOf3
  v3 := Tryz.zeroValue3
  t4 := Tryz.underlying4
  a4 := Tryz.isAgg4
  z4 := Tryz.sizeOf4
  v4 := Tryz.zeroValue4
  t9 := Tryz.underlying9
  a9 := Tryz.isAgg9
  z9 := Tryz.sizeOf9
  v9 := Tryz.zeroValue9
  t31 := Tryz.underlying61
  a31 := Tryz.isAgg61
  z31 := Tryz.sizeOf61
  v31 := Tryz.zeroValue61 }
open Go.RowKit Go.Lib Go.Sort in
theorem Tryz.slices_Compact_string (blk off cap : Nat) (zs : List (List UInt8)) (w : World) (hH : Holds encStr w blk off zs.toArray) (hsz : zs.length ≤ 9223372036854775807) (hcap : zs.length ≤ cap) :
    Calls Tryz.prog 62 #[.slice (some ⟨blk, off, none⟩) zs.length cap] w fun e w' => e = .returned (.slice (some ⟨blk, off, none⟩) (Lib.compact zs).length cap) ∧ ∃ q, w' = putRow encStr (Sort.ahead w q) blk off (Lib.compact zs ++ List.replicate (zs.length - (Lib.compact zs).length) []).toArray := Any.slices_Compact_string Tryz.lays194 blk off cap zs w hH hsz hcap
open Go.RowKit Go.Lib Go.Sort in
theorem Tryz.slices_Compact_string_empty (a : Option Addr) (cap : Nat) (w : World) :
    Calls Tryz.prog 62 #[.slice a 0 cap] w fun e w' => e = .returned (.slice a 0 cap) ∧ w' = w := Any.slices_Compact_string_empty Tryz.lays194 a cap w
open Go.RowKit Go.Sort in
theorem Tryz.slices_Sort_string_none (p : Option Addr) (cap : Nat) (w : World) :
    Calls Tryz.prog 61 #[.slice p 0 cap] w fun e w' => e = .returned (.tuple #[]) ∧ w' = w := Any.slices_Sort_string_none Tryz.lays190 p cap w
end Go.Proofs
namespace Go.Sx
open Go Go.Proofs
theorem sort_ok : SortC Tryz.prog 61 := ⟨fun b off cap ss w h1 h2 h3 => Tryz.slices_Sort_string b off cap ss w h1 h2 h3, fun p cap w => Tryz.slices_Sort_string_none p cap w⟩
theorem yt : CompactC Tryz.prog 62 := ⟨fun b off cap zs w h1 h2 h3 => Tryz.slices_Compact_string b off cap zs w h1 h2 h3, fun p cap w => Tryz.slices_Compact_string_empty p cap w⟩
def MaxG (H : Hp) : Prop := ∃ m, H 0 0 = some (.int .i64 m)
theorem MaxG.le {H H1 : Hp} (h : MaxG H) (hl : H.le H1) : MaxG H1 := by
  obtain ⟨m, hm⟩ := h
  exact ⟨m, hl _ _ _ hm⟩
theorem cut_ok {H : Hp} (s : Str) (hs : s.length ≤ 4294960000) (hM : MaxG H) : FnS Tryz.prog 196 [gs s, gs [46]] H (.tuple #[gs (kY s).1, gs (kY s).2.1, .bool (kY s).2.2]) := by
  refine FnS.ext (fun w hw => ?_)
  obtain ⟨m, hm⟩ := hM
  refine (Tryz.strings_Cut ⟨s.toArray⟩ ⟨[46].toArray⟩ m w (by simp [ByteArray.size]; omega) (hw.hp _ _ _ hm)).mono ?_
  rintro e w1 ⟨rfl, n, rfl⟩
  exact ⟨rfl, ⟨rfl, rfl, rfl, Nat.le_refl _, fun _ _ => rfl⟩⟩
end Go.Sx
namespace Go.Sx
open Go Go.Proofs
theorem wV {H : Hp} (k : Int) :
  FnS Tryz.prog 119 [.int .i64 k] H (.int .i64 (ak k)) := by
 refine FnS.enter Tryz.func119 Tryz.ntmps119 rfl rfl (fun w0 => ?_)
 refine jq ?_
 refine cf (decide (k = 0) || (decide (k = 1) || (decide (k = 2) || (decide (k = 3) || (decide (k = 4) || decide (k = 5)))))) 4 [(2, _), (3, _)] ⟨rfl, rfl, trivial⟩ ?_ ?_
 ·
  refine sG ?_; refine sG ?_; refine sG ?_; refine sG ?_; refine sG ?_
  exact eT (ah rfl) rfl rfl ⟨rfl, rfl, trivial⟩
 refine TC.cond rfl (fun c4 => ?_) (fun c4 => ?_)
 ·
  refine or ?_
  exact aQ (.inr rfl) (ae rfl (RVal.tmp rfl)) ⟨congrArg (Value.int .i64) (by simp only [Bool.or_eq_true, Bool.or_eq_false_iff, decide_eq_true_eq, decide_eq_false_iff_not] at *; unfold ak; (repeat' split) <;> omega), rfl⟩
 refine cf (decide (k = 15) || decide (k = 16)) 11 [(2, _), (3, _)] ⟨rfl, rfl, trivial⟩ ?_ ?_
 ·
  refine sG ?_
  exact eT (ah rfl) rfl rfl ⟨rfl, rfl, trivial⟩
 refine TC.cond rfl (fun c11 => ?_) (fun c11 => ?_)
 ·
  refine or ?_
  exact aQ (.inr rfl) (ae rfl (RVal.tmp rfl)) ⟨congrArg (Value.int .i64) (by simp only [Bool.or_eq_true, Bool.or_eq_false_iff, decide_eq_true_eq, decide_eq_false_iff_not] at *; unfold ak; (repeat' split) <;> omega), rfl⟩
 refine cf (decide (k = 6) || (decide (k = 7) || (decide (k = 8) || (decide (k = 9) || (decide (k = 10) || (decide (k = 11) || (decide (k = 12) || (decide (k = 13) || (decide (k = 14) || (decide (k = 17) || (decide (k = 18) || decide (k = 19)))))))))))) 14 [(2, _)] ⟨rfl, trivial⟩ ?_ ?_
 · refine BO ?_; refine BO ?_; exact cC (ah rfl) rfl rfl ⟨rfl, trivial⟩ (cC (ah rfl) rfl rfl ⟨rfl, trivial⟩ (cC (ah rfl) rfl rfl ⟨rfl, trivial⟩ (eT (ah rfl) rfl rfl ⟨rfl, trivial⟩)))
 refine TC.cond rfl (fun c14 => ?_) (fun c14 => ?_)
 ·
  refine or ?_
  exact aQ (.inr rfl) (ae rfl (RVal.tmp rfl)) ⟨congrArg (Value.int .i64) (by simp only [Bool.or_eq_true, Bool.or_eq_false_iff, decide_eq_true_eq, decide_eq_false_iff_not] at *; unfold ak; (repeat' split) <;> omega), rfl⟩
 refine we ?_
 exact aQ (.inr rfl) (ae rfl (RVal.tmp rfl)) ⟨congrArg (Value.int .i64) (by simp only [Bool.or_eq_true, Bool.or_eq_false_iff, decide_eq_true_eq, decide_eq_false_iff_not] at *; unfold ak; (repeat' split) <;> omega), rfl⟩
theorem AW {H : Hp} (t : Term) (hn : t.name.length ≤ 9223372036854775807) :
  FnS Tryz.prog 120 [.agg t.cells.toArray] H (.bool (ce t)) := by
 refine FnS.enter Tryz.func120 Tryz.ntmps120 rfl rfl (fun w0 => ?_)
 refine zm2 ?_
 refine TL.box rfl rfl (fun b1 => ?_)
 refine pO ?_; refine sF ?_
 refine ag rfl (fun c5 => ?_) (fun c5 => ?_)
 ·
  refine fw ?_; refine ay (ab rfl rfl rfl rfl) (C9 t.name hn) rfl ?_; refine zm0 ?_
  refine aj (s := 10) rfl (fun g10 => ?_) (fun g10 => ?_)
  ·
   refine pN ?_
   refine aj (s := 15) rfl (fun g15 => ?_) (fun g15 => ?_)
   ·
    have q15 := of_decide_eq_true g15
    refine rT ?_
    exact ol
   have q15 := of_decide_eq_false g15
   refine iR ?_
   exact ol
  refine jt ?_; refine iR ?_
  exact ol
 refine dN ?_
 refine ag rfl (fun c20 => ?_) (fun c20 => ?_)
 ·
  refine wd ?_
  refine aj (s := 25) rfl (fun g25 => ?_) (fun g25 => ?_)
  ·
   have q25 := of_decide_eq_true g25
   refine rT ?_
   exact ol
  have q25 := of_decide_eq_false g25
  refine iR ?_
  exact ol
 refine dN ?_
 refine ag rfl (fun c30 => ?_) (fun c30 => ?_)
 ·
  refine wd ?_
  refine aj (s := 35) rfl (fun g35 => ?_) (fun g35 => ?_)
  ·
   have q35 := of_decide_eq_true g35
   refine o7 ?_
   refine aj (s := 40) rfl (fun g40 => ?_) (fun g40 => ?_)
   ·
    have q40 := of_decide_eq_true g40
    refine zm9 ?_; refine ge ?_
    refine aj (s := 44) rfl (fun g44 => ?_) (fun g44 => ?_)
    ·
     have q44 := of_decide_eq_true g44
     refine iR ?_; refine cN ?_
     exact ol
    have q44 := of_decide_eq_false g44
    refine zm9 ?_; refine ge ?_
    exact ol
   have q40 := of_decide_eq_false g40
   refine wb ?_; refine eq rfl rfl rfl ?_; refine cI ?_
   exact ol
  have q35 := of_decide_eq_false g35
  refine lI ?_; refine eq rfl rfl rfl (eq rfl rfl rfl (eq rfl rfl rfl ?_)); refine cI ?_
  exact ol
 refine dN ?_
 refine ag rfl (fun c50 => ?_) (fun c50 => ?_)
 ·
  refine wd ?_
  refine aj (s := 55) rfl (fun g55 => ?_) (fun g55 => ?_)
  ·
   have q55 := of_decide_eq_true g55
   refine pN ?_
   refine aj (s := 60) rfl (fun g60 => ?_) (fun g60 => ?_)
   ·
    have q60 := of_decide_eq_true g60
    refine zm9 ?_; refine aw rfl rfl (eo rfl rfl) rfl ?_; refine cN ?_
    exact ol
   have q60 := of_decide_eq_false g60
   refine eB ?_
   exact ol
  have q55 := of_decide_eq_false g55
  refine lI ?_
  exact ol
 refine TC.skip (bA (ad ?_)); refine wd ?_
 refine aj (s := 69) rfl (fun g69 => ?_) (fun g69 => ?_)
 ·
  have q69 := of_decide_eq_true g69
  refine pN ?_
  refine aj (s := 74) rfl (fun g74 => ?_) (fun g74 => ?_)
  ·
   have q74 := of_decide_eq_true g74
   refine rT ?_; refine ff ?_
   exact aQ (.inr rfl) (ae rfl (RVal.tmp rfl)) ⟨congrArg Value.bool (by simp_all [ce]), rfl⟩
  have q74 := of_decide_eq_false g74
  refine vZ ?_
  exact aQ (.inr rfl) (ae rfl (RVal.tmp rfl)) ⟨congrArg Value.bool (by simp_all [ce]), rfl⟩
 have q69 := of_decide_eq_false g69
 refine jt ?_; refine vZ ?_
 exact aQ (.inr rfl) (ae rfl (RVal.tmp rfl)) ⟨congrArg Value.bool (by simp_all [ce]), rfl⟩
theorem walk_ok {H : Hp} {l : List Term} {v : Value} {bl bm bmv bw : Nat} (hT : RdSl H 6 Term.cells v l) (hnames : ∀ t ∈ l, t.name.length ≤ 9223372036854775807) (hl : H bl 0 = some v) (hm : H bmv 0 = some (.slice (some ⟨bm, 0, none⟩) l.length l.length)) (hw : H bw 0 = some (.func (.func 118) #[] #[.pointer (some ⟨bl, 0, none⟩), .pointer (some ⟨bmv, 0, none⟩), .pointer (some ⟨bw, 0, none⟩)])) :
  ∀ (f : Nat) (at_ deep : Int) (met : List Bool), 0 ≤ at_ → at_ < l.length → at_.toNat < f → 1 ≤ deep ∧ deep ≤ 25 → met.length = l.length →
   FnM1 Tryz.prog 118 [.int .i64 at_, .int .i64 deep, .pointer (some ⟨bl, 0, none⟩), .pointer (some ⟨bmv, 0, none⟩), .pointer (some ⟨bw, 0, none⟩)] H bm (met.map Value.bool)
    (fun v' H' cs' => ∃ b m, cG l f at_ deep met = (b, m) ∧ v' = .bool b ∧ cs' = m.map Value.bool ∧ m.length = l.length ∧ H' = H) := by
 intro f
 induction f with
 | zero => intro at_ deep met _ _ h; omega
 | succ f ih =>
 intro at_ deep met h0 h1 hf hd hlen
 have hmax := hT.max
 have hlt : at_.toNat < met.length := by omega
 obtain ⟨t, hx⟩ := ao h0 h1
 have hN : t.name.length ≤ 9223372036854775807 := hnames t (List.mem_of_getElem? hx)
 refine FnM1.enter Tryz.func118 Tryz.ntmps118 rfl rfl (fun w0 => ?_)
 refine TC.seq (TC.region (TL.run (ah rfl) rfl (TL.nil (ad (TC.seq (TC.region (TL.run (bI rfl hl) rfl ?_)))))))
 refine TL.run (ah rfl) rfl (TL.run (af rfl hT rfl (by omega) (by omega)) rfl (TL.run (bh hT hx rfl rfl) rfl ?_))
 refine TL.alloc rfl (fun b8 => ?_)
 refine cF rfl rfl rfl rfl rfl (.here _) rfl rfl ?_
 refine TL.nil (ad (TC.seq (TC.region (TL.run (cP rfl) rfl (TL.run (aD rfl (.here _) rfl) rfl ?_)))))
 refine ay (ab rfl rfl rfl rfl) (wV t.kind) rfl ?_
 refine TL.run (ah rfl) rfl (TL.nil (ad (TC.seq (TC.seq (TC.region (TL.run (bI rfl hm) rfl (TL.run (ah rfl) rfl ?_)))))))
 refine TL.run (dT rfl rfl (by omega) (by omega)) rfl (TL.run (aD rfl (.there _ (.here _)) (A7 hlt)) rfl (TL.run (ah rfl) rfl ?_))
 refine aj (s := 23) rfl (fun g23 => ?_) (fun g23 => ?_)
 ·
  refine bi rfl rfl rfl rfl (bi rfl rfl rfl rfl (TL.run (ah rfl) rfl (TL.run (ah rfl) rfl (bi rfl rfl rfl rfl (bi rfl rfl rfl rfl (TL.run (ah rfl) rfl (TL.run (ah rfl) rfl ?_)))))))
  refine bi rfl rfl rfl rfl (bi rfl rfl rfl rfl (bi rfl rfl rfl rfl (TL.run (ah rfl) rfl (TL.nil (ad (bO rfl (TC.seq ?_)))))))
  refine TC.region (TL.run (ah rfl) rfl (TL.nil (ad (TC.ret (al ?_)))))
  refine cB (.inr rfl) (ae rfl (RVal.tmp rfl)) (.there _ (.here _)) ⟨_, _, ?_, rfl, rfl, ?_, rfl⟩
  ·
   first
    | exact cX hx (by simp_all)
    | exact aZ hx hg o0 o1
    | exact aZ hx hg o0 (by first | exact aO c52_1 c54_1 | exact aI c52_1 c54_1 | exact bg c52_1 g57_1 | exact bf c52_1 g62_1 | exact bn c52_1 g57_1 g62_1 (e1.trans (by simp_all)))
    | exact aZ hx hg o0 (by first | exact aO c52_1 c54_1 | exact aI c52_1 c54_1 | exact bg c52_1 g57_1 | exact bf c52_1 g62_1 | exact bn c52_1 g57_1 g62_1 (e2.trans (by simp_all)))
    | exact cY hx hg (by first | exact aO c52_0 c54_0 | exact aI c52_0 c54_0 | exact bg c52_0 g57_0 | exact bf c52_0 g62_0 | exact bn c52_0 g57_0 g62_0 (e1.trans (by simp_all)))
  · first | assumption | (simp; done) | (simp; assumption)
 ·
  refine aw rfl rfl (ah rfl) rfl (aw rfl rfl (ah rfl) rfl (TL.run (ah rfl) rfl (TL.run (ah rfl) rfl ?_)))
  refine aj (s := 27) rfl (fun g27 => ?_) (fun g27 => ?_)
  ·
   have q27 := of_decide_eq_true g27
   refine bi rfl rfl rfl rfl (bi rfl rfl rfl rfl (TL.run (ah rfl) rfl (TL.run (ah rfl) rfl (bi rfl rfl rfl rfl (bi rfl rfl rfl rfl (bi rfl rfl rfl rfl (TL.run (ah rfl) rfl ?_)))))))
   refine TL.nil (ad (bO rfl (TC.seq (TC.region (TL.run (ah rfl) rfl (TL.nil (ad ?_)))))))
   refine TC.ret (al ?_)
   refine cB (.inr rfl) (ae rfl (RVal.tmp rfl)) (.there _ (.here _)) ⟨_, _, ?_, rfl, rfl, ?_, rfl⟩
   ·
    first
     | exact cX hx (by simp_all)
     | exact aZ hx hg o0 o1
     | exact aZ hx hg o0 (by first | exact aO c52_1 c54_1 | exact aI c52_1 c54_1 | exact bg c52_1 g57_1 | exact bf c52_1 g62_1 | exact bn c52_1 g57_1 g62_1 (e1.trans (by simp_all)))
     | exact aZ hx hg o0 (by first | exact aO c52_1 c54_1 | exact aI c52_1 c54_1 | exact bg c52_1 g57_1 | exact bf c52_1 g62_1 | exact bn c52_1 g57_1 g62_1 (e2.trans (by simp_all)))
     | exact cY hx hg (by first | exact aO c52_0 c54_0 | exact aI c52_0 c54_0 | exact bg c52_0 g57_0 | exact bf c52_0 g62_0 | exact bn c52_0 g57_0 g62_0 (e1.trans (by simp_all)))
   · first | assumption | (simp; done) | (simp; assumption)
  ·
   have q27 := of_decide_eq_false g27
   refine aw rfl rfl (ah rfl) rfl (aw rfl rfl (ah rfl) rfl (TL.run (ah rfl) rfl (TL.run (ah rfl) rfl ?_)))
   refine aj (s := 31) rfl (fun g31 => ?_) (fun g31 => ?_)
   ·
    have q31 := of_decide_eq_true g31
    refine bi rfl rfl rfl rfl (bi rfl rfl rfl rfl (bi rfl rfl rfl rfl (TL.run (ah rfl) rfl (TL.nil (ad (bO rfl (TC.seq ?_)))))))
    refine TC.region (TL.run (ah rfl) rfl (TL.nil (ad (TC.ret (al ?_)))))
    refine cB (.inr rfl) (ae rfl (RVal.tmp rfl)) (.there _ (.here _)) ⟨_, _, ?_, rfl, rfl, ?_, rfl⟩
    ·
     first
      | exact cX hx (by simp_all)
      | exact aZ hx hg o0 o1
      | exact aZ hx hg o0 (by first | exact aO c52_1 c54_1 | exact aI c52_1 c54_1 | exact bg c52_1 g57_1 | exact bf c52_1 g62_1 | exact bn c52_1 g57_1 g62_1 (e1.trans (by simp_all)))
      | exact aZ hx hg o0 (by first | exact aO c52_1 c54_1 | exact aI c52_1 c54_1 | exact bg c52_1 g57_1 | exact bf c52_1 g62_1 | exact bn c52_1 g57_1 g62_1 (e2.trans (by simp_all)))
      | exact cY hx hg (by first | exact aO c52_0 c54_0 | exact aI c52_0 c54_0 | exact bg c52_0 g57_0 | exact bf c52_0 g62_0 | exact bn c52_0 g57_0 g62_0 (e1.trans (by simp_all)))
    · first | assumption | (simp; done) | (simp; assumption)
   ·
    have q31 := of_decide_eq_false g31
    refine aw rfl rfl (bu rfl (.here _) rfl) rfl ?_
    refine aK rfl rfl (ab rfl rfl rfl rfl) (AW t hN) rfl ?_
    refine aw rfl rfl (ah rfl) rfl (TL.run (ah rfl) rfl (TL.nil (ad ?_)))
    refine TC.cond rfl (fun c35 => ?_) (fun c35 => ?_)
    ·
     refine TC.seq (TC.region (TL.run (ah rfl) rfl (TL.nil (ad (TC.ret (al ?_))))))
     refine cB (.inr rfl) (ae rfl (RVal.tmp rfl)) (.there _ (.here _)) ⟨_, _, ?_, rfl, rfl, ?_, rfl⟩
     ·
      first
       | exact cX hx (by simp_all)
       | exact aZ hx hg o0 o1
       | exact aZ hx hg o0 (by first | exact aO c52_1 c54_1 | exact aI c52_1 c54_1 | exact bg c52_1 g57_1 | exact bf c52_1 g62_1 | exact bn c52_1 g57_1 g62_1 (e1.trans (by simp_all)))
       | exact aZ hx hg o0 (by first | exact aO c52_1 c54_1 | exact aI c52_1 c54_1 | exact bg c52_1 g57_1 | exact bf c52_1 g62_1 | exact bn c52_1 g57_1 g62_1 (e2.trans (by simp_all)))
       | exact cY hx hg (by first | exact aO c52_0 c54_0 | exact aI c52_0 c54_0 | exact bg c52_0 g57_0 | exact bf c52_0 g62_0 | exact bn c52_0 g57_0 g62_0 (e1.trans (by simp_all)))
     · first | assumption | (simp; done) | (simp; assumption)
    ·
     refine TC.skip (ad (TC.seq (TC.region ?_)))
     have hg : xJ deep met at_ t := ⟨by simp_all, by simp_all, by simp_all, by simp_all⟩
     refine TL.run (bI rfl hm) rfl (TL.run (ah rfl) rfl (TL.run (dT rfl rfl (by omega) (by omega)) rfl ?_))
     refine bz rfl rfl rfl (.there _ (.here _)) (by simp; omega) rfl ?_
     refine TL.nil ?_
     rw [A6]
     refine ad (TC.seq (TC.seq (TC.region (TL.run (cP rfl) rfl (TL.run (aD rfl (.here _) rfl) rfl (TL.run (cP rfl) rfl (TL.run (aD rfl (.here _) rfl) rfl ?_)))))))
     refine aB rfl rfl rfl rfl (fun b43 => ?_)
     refine TL.run (dv rfl rfl) rfl (TL.run (ah rfl) rfl (TL.nil (ad (TC.block ?_))))
     refine TC.rounds 3 ?_
     refine eA ?_
     refine TC.seq (TC.region (TL.run (ah rfl) rfl (TL.nil (ad (TC.seq (bO rfl (TC.skip ?_)))))))
     refine ad (TC.seq (TC.block (TC.seq (TC.region (TL.run (ah rfl) rfl (TL.run (dT rfl rfl (by omega) (by omega)) rfl (TL.run (aD rfl (.here _) rfl) rfl ?_)))))))
     refine TL.run (ah rfl) rfl (TL.run (ah rfl) rfl (TL.nil (ad (TC.seq (TC.seq (TC.region (TL.run (ah rfl) rfl ?_)))))))
     refine TL.run (ah rfl) rfl (TL.run (ah rfl) rfl (TL.nil (ad ?_)))
     refine ag rfl (fun c52_0 => ?_) (fun c52_0 => ?_)
     ·
      refine TC.seq (TC.seq (TC.region (TL.run (ah rfl) rfl (TL.run (ah rfl) rfl (TL.nil (ad ?_))))))
      refine aW rfl (fun c54_0 => ?_) (fun c54_0 => ?_)
      ·
       refine TC.seq (TC.region (TL.run (ah rfl) rfl (TL.nil (ad (TC.ret (al (al ?_)))))))
       refine aN (al (al (aN (al ?_))))
       refine cB (.inr rfl) (ae rfl (RVal.tmp rfl)) (.there _ (.there _ (.here _))) ⟨_, _, ?_, rfl, rfl, ?_, rfl⟩
       ·
        first
         | exact cX hx (by simp_all)
         | exact aZ hx hg o0 o1
         | exact aZ hx hg o0 (by first | exact aO c52_1 c54_1 | exact aI c52_1 c54_1 | exact bg c52_1 g57_1 | exact bf c52_1 g62_1 | exact bn c52_1 g57_1 g62_1 (e1.trans (by simp_all)))
         | exact aZ hx hg o0 (by first | exact aO c52_1 c54_1 | exact aI c52_1 c54_1 | exact bg c52_1 g57_1 | exact bf c52_1 g62_1 | exact bn c52_1 g57_1 g62_1 (e2.trans (by simp_all)))
         | exact cY hx hg (by first | exact aO c52_0 c54_0 | exact aI c52_0 c54_0 | exact bg c52_0 g57_0 | exact bf c52_0 g62_0 | exact bn c52_0 g57_0 g62_0 (e1.trans (by simp_all)))
       · first | assumption | (simp; done) | (simp; assumption)
      ·
       refine TC.skip (ad (TC.exit (bv (bS (ad (TC.region (TL.run (dc rfl rfl (by omega) (by omega)) rfl ?_)))))))
       refine TL.run (ah rfl) rfl (TL.nil ?_)
       have o0 : opW (ak t.kind) at_ (fun to m => cG l f to (deep + 1) m) 0 t.l (met.set at_.toNat true) = (true, (met.set at_.toNat true)) := by first | exact aI c52_0 c54_0 | exact bn c52_0 g57_0 g62_0 (e1.trans (by simp_all; done)) | exact bn c52_0 g57_0 g62_0 (e2.trans (by simp_all; done))
       refine jd ?_
       refine eA ?_
       refine TC.seq (TC.region (TL.run (ah rfl) rfl (TL.nil (ad (TC.seq (bO rfl (TC.skip ?_)))))))
       refine ad (TC.seq (TC.block (TC.seq (TC.region (TL.run (ah rfl) rfl (TL.run (dT rfl rfl (by omega) (by omega)) rfl (TL.run (aD rfl (.here _) rfl) rfl ?_)))))))
       refine TL.run (ah rfl) rfl (TL.run (ah rfl) rfl (TL.nil (ad (TC.seq (TC.seq (TC.region (TL.run (ah rfl) rfl ?_)))))))
       refine TL.run (ah rfl) rfl (TL.run (ah rfl) rfl (TL.nil (ad ?_)))
       refine ag rfl (fun c52_1 => ?_) (fun c52_1 => ?_)
       ·
        refine TC.seq (TC.seq (TC.region (TL.run (ah rfl) rfl (TL.run (ah rfl) rfl (TL.nil (ad ?_))))))
        refine aW rfl (fun c54_1 => ?_) (fun c54_1 => ?_)
        ·
         refine TC.seq (TC.region (TL.run (ah rfl) rfl (TL.nil (ad (TC.ret (al (al ?_)))))))
         refine aN (al (al (aN (al ?_))))
         refine cB (.inr rfl) (ae rfl (RVal.tmp rfl)) (.there _ (.there _ (.here _))) ⟨_, _, ?_, rfl, rfl, ?_, rfl⟩
         ·
          first
           | exact cX hx (by simp_all)
           | exact aZ hx hg o0 o1
           | exact aZ hx hg o0 (by first | exact aO c52_1 c54_1 | exact aI c52_1 c54_1 | exact bg c52_1 g57_1 | exact bf c52_1 g62_1 | exact bn c52_1 g57_1 g62_1 (e1.trans (by simp_all)))
           | exact aZ hx hg o0 (by first | exact aO c52_1 c54_1 | exact aI c52_1 c54_1 | exact bg c52_1 g57_1 | exact bf c52_1 g62_1 | exact bn c52_1 g57_1 g62_1 (e2.trans (by simp_all)))
           | exact cY hx hg (by first | exact aO c52_0 c54_0 | exact aI c52_0 c54_0 | exact bg c52_0 g57_0 | exact bf c52_0 g62_0 | exact bn c52_0 g57_0 g62_0 (e1.trans (by simp_all)))
         · first | assumption | (simp; done) | (simp; assumption)
        ·
         refine TC.skip (ad (TC.exit (bv (bS (ad (TC.region (TL.run (dc rfl rfl (by omega) (by omega)) rfl ?_)))))))
         refine TL.run (ah rfl) rfl (TL.nil ?_)
         have o1 : opW (ak t.kind) at_ (fun to m => cG l f to (deep + 1) m) 1 t.r (met.set at_.toNat true) = (true, (met.set at_.toNat true)) := by first | exact aI c52_1 c54_1 | exact bn c52_1 g57_1 g62_1 (e1.trans (by simp_all; done)) | exact bn c52_1 g57_1 g62_1 (e2.trans (by simp_all; done))
         refine jd ?_
         refine eA ?_
         refine TC.seq (TC.region (TL.run (ah rfl) rfl (TL.nil (ad (TC.seq (dG rfl (TC.exit ?_)))))))
         refine bv (bv (bS (ad (TC.seq (TC.region (TL.run (ah rfl) rfl (TL.nil ?_)))))))
         refine ad (TC.ret ?_)
         refine cB (.inr rfl) (ae rfl (RVal.tmp rfl)) (.there _ (.there _ (.here _))) ⟨_, _, ?_, rfl, rfl, ?_, rfl⟩
         ·
          first
           | exact cX hx (by simp_all)
           | exact aZ hx hg o0 o1
           | exact aZ hx hg o0 (by first | exact aO c52_1 c54_1 | exact aI c52_1 c54_1 | exact bg c52_1 g57_1 | exact bf c52_1 g62_1 | exact bn c52_1 g57_1 g62_1 (e1.trans (by simp_all)))
           | exact aZ hx hg o0 (by first | exact aO c52_1 c54_1 | exact aI c52_1 c54_1 | exact bg c52_1 g57_1 | exact bf c52_1 g62_1 | exact bn c52_1 g57_1 g62_1 (e2.trans (by simp_all)))
           | exact cY hx hg (by first | exact aO c52_0 c54_0 | exact aI c52_0 c54_0 | exact bg c52_0 g57_0 | exact bf c52_0 g62_0 | exact bn c52_0 g57_0 g62_0 (e1.trans (by simp_all)))
         · first | assumption | (simp; done) | (simp; assumption)
       ·
        refine TC.skip (ad (TC.seq (TC.region (TL.run (ah rfl) rfl (TL.run (ah rfl) rfl (TL.run (ah rfl) rfl ?_))))))
        refine aj (s := 57) rfl (fun g57_1 => ?_) (fun g57_1 => ?_)
        ·
         have q57_1 := of_decide_eq_true g57_1
         refine bi rfl rfl rfl rfl (bi rfl rfl rfl rfl (bi rfl rfl rfl rfl (TL.run (ah rfl) rfl (TL.run (ah rfl) rfl (bi rfl rfl rfl rfl (bi rfl rfl rfl rfl (bi rfl rfl rfl rfl ?_)))))))
         refine bi rfl rfl rfl rfl (bi rfl rfl rfl rfl (bi rfl rfl rfl rfl (TL.run (ah rfl) rfl (TL.nil (ad (bO rfl (TC.seq ?_)))))))
         refine TC.region (TL.run (ah rfl) rfl (TL.nil (ad (TC.ret (aN (al (al ?_)))))))
         refine aN (al ?_)
         refine cB (.inr rfl) (ae rfl (RVal.tmp rfl)) (.there _ (.there _ (.here _))) ⟨_, _, ?_, rfl, rfl, ?_, rfl⟩
         ·
          first
           | exact cX hx (by simp_all)
           | exact aZ hx hg o0 o1
           | exact aZ hx hg o0 (by first | exact aO c52_1 c54_1 | exact aI c52_1 c54_1 | exact bg c52_1 g57_1 | exact bf c52_1 g62_1 | exact bn c52_1 g57_1 g62_1 (e1.trans (by simp_all)))
           | exact aZ hx hg o0 (by first | exact aO c52_1 c54_1 | exact aI c52_1 c54_1 | exact bg c52_1 g57_1 | exact bf c52_1 g62_1 | exact bn c52_1 g57_1 g62_1 (e2.trans (by simp_all)))
           | exact cY hx hg (by first | exact aO c52_0 c54_0 | exact aI c52_0 c54_0 | exact bg c52_0 g57_0 | exact bf c52_0 g62_0 | exact bn c52_0 g57_0 g62_0 (e1.trans (by simp_all)))
         · first | assumption | (simp; done) | (simp; assumption)
        ·
         have q57_1 := of_decide_eq_false g57_1
         refine aw rfl rfl (ah rfl) rfl (aw rfl rfl (ah rfl) rfl (aw rfl rfl (ah rfl) rfl (TL.run (ah rfl) rfl (TL.run (ah rfl) rfl ?_))))
         refine aj (s := 62) rfl (fun g62_1 => ?_) (fun g62_1 => ?_)
         ·
          have q62_1 := of_decide_eq_true g62_1
          refine bi rfl rfl rfl rfl (bi rfl rfl rfl rfl (bi rfl rfl rfl rfl (bi rfl rfl rfl rfl (bi rfl rfl rfl rfl (bi rfl rfl rfl rfl (TL.run (ah rfl) rfl (TL.nil ?_)))))))
          refine ad (bO rfl (TC.seq (TC.region (TL.run (ah rfl) rfl (TL.nil (ad (TC.ret ?_)))))))
          refine aN (al (al (aN (al ?_))))
          refine cB (.inr rfl) (ae rfl (RVal.tmp rfl)) (.there _ (.there _ (.here _))) ⟨_, _, ?_, rfl, rfl, ?_, rfl⟩
          ·
           first
            | exact cX hx (by simp_all)
            | exact aZ hx hg o0 o1
            | exact aZ hx hg o0 (by first | exact aO c52_1 c54_1 | exact aI c52_1 c54_1 | exact bg c52_1 g57_1 | exact bf c52_1 g62_1 | exact bn c52_1 g57_1 g62_1 (e1.trans (by simp_all)))
            | exact aZ hx hg o0 (by first | exact aO c52_1 c54_1 | exact aI c52_1 c54_1 | exact bg c52_1 g57_1 | exact bf c52_1 g62_1 | exact bn c52_1 g57_1 g62_1 (e2.trans (by simp_all)))
            | exact cY hx hg (by first | exact aO c52_0 c54_0 | exact aI c52_0 c54_0 | exact bg c52_0 g57_0 | exact bf c52_0 g62_0 | exact bn c52_0 g57_0 g62_0 (e1.trans (by simp_all)))
          · first | assumption | (simp; done) | (simp; assumption)
         ·
          have q62_1 := of_decide_eq_false g62_1
          refine aw rfl rfl (bI rfl hw) rfl (aw rfl rfl (ah rfl) rfl (aw rfl rfl (ah rfl) rfl (aw rfl rfl ((by first | exact dc rfl rfl (by omega) (by omega) | exact ah rfl)) rfl ?_)))
          refine eI (.there _ (.there _ (.here _))) ?_
          refine k5 rfl rfl (ab rfl rfl rfl rfl) (ih _ (deep + 1) _ (by have q1 := of_decide_eq_false g57_1; have q2 := of_decide_eq_false g62_1; omega) (by have q1 := of_decide_eq_false g57_1; have q2 := of_decide_eq_false g62_1; omega) (by have q1 := of_decide_eq_false g57_1; have q2 := of_decide_eq_false g62_1; omega) ⟨by omega, by have := hg.2.1; omega⟩ (by first | assumption | (simp; assumption))) rfl (fun v67 H67 cs67 hle67 hp67 => ?_)
          obtain ⟨r1, m1, e1, rfl, rfl, hl1, rfl⟩ := hp67
          refine aw rfl rfl (ah rfl) rfl (TL.run (ah rfl) rfl (TL.nil (ad ?_)))
          refine TC.cond rfl (fun c69_1 => ?_) (fun c69_1 => ?_)
          ·
           refine TC.seq (TC.region (TL.run (ah rfl) rfl (TL.nil (ad (TC.ret (aN (al ?_)))))))
           refine al (aN (al ?_))
           refine cB (.inr rfl) (ae rfl (RVal.tmp rfl)) (.here _) ⟨_, _, ?_, rfl, rfl, ?_, rfl⟩
           ·
            first
             | exact cX hx (by simp_all)
             | exact aZ hx hg o0 o1
             | exact aZ hx hg o0 (by first | exact aO c52_1 c54_1 | exact aI c52_1 c54_1 | exact bg c52_1 g57_1 | exact bf c52_1 g62_1 | exact bn c52_1 g57_1 g62_1 (e1.trans (by simp_all)))
             | exact aZ hx hg o0 (by first | exact aO c52_1 c54_1 | exact aI c52_1 c54_1 | exact bg c52_1 g57_1 | exact bf c52_1 g62_1 | exact bn c52_1 g57_1 g62_1 (e2.trans (by simp_all)))
             | exact cY hx hg (by first | exact aO c52_0 c54_0 | exact aI c52_0 c54_0 | exact bg c52_0 g57_0 | exact bf c52_0 g62_0 | exact bn c52_0 g57_0 g62_0 (e1.trans (by simp_all)))
           · first | assumption | (simp; done) | (simp; assumption)
          ·
           refine TC.skip (bA (ad (TC.region (TL.run (dc rfl rfl (by omega) (by omega)) rfl (TL.run (ah rfl) rfl (TL.nil ?_))))))
           have o1 : opW (ak t.kind) at_ (fun to m => cG l f to (deep + 1) m) 1 t.r (met.set at_.toNat true) = (true, m1) := by first | exact aI c52_1 c54_1 | exact bn c52_1 g57_1 g62_1 (e1.trans (by simp_all; done)) | exact bn c52_1 g57_1 g62_1 (e2.trans (by simp_all; done))
           refine jd ?_
           refine eA ?_
           refine TC.seq (TC.region (TL.run (ah rfl) rfl (TL.nil (ad (TC.seq (dG rfl (TC.exit ?_)))))))
           refine bv (bv (bS (ad (TC.seq (TC.region (TL.run (ah rfl) rfl (TL.nil ?_)))))))
           refine ad (TC.ret ?_)
           refine cB (.inr rfl) (ae rfl (RVal.tmp rfl)) (.here _) ⟨_, _, ?_, rfl, rfl, ?_, rfl⟩
           ·
            first
             | exact cX hx (by simp_all)
             | exact aZ hx hg o0 o1
             | exact aZ hx hg o0 (by first | exact aO c52_1 c54_1 | exact aI c52_1 c54_1 | exact bg c52_1 g57_1 | exact bf c52_1 g62_1 | exact bn c52_1 g57_1 g62_1 (e1.trans (by simp_all)))
             | exact aZ hx hg o0 (by first | exact aO c52_1 c54_1 | exact aI c52_1 c54_1 | exact bg c52_1 g57_1 | exact bf c52_1 g62_1 | exact bn c52_1 g57_1 g62_1 (e2.trans (by simp_all)))
             | exact cY hx hg (by first | exact aO c52_0 c54_0 | exact aI c52_0 c54_0 | exact bg c52_0 g57_0 | exact bf c52_0 g62_0 | exact bn c52_0 g57_0 g62_0 (e1.trans (by simp_all)))
           · first | assumption | (simp; done) | (simp; assumption)
     ·
      refine TC.skip (ad (TC.seq (TC.region (TL.run (ah rfl) rfl (TL.run (ah rfl) rfl (TL.run (ah rfl) rfl ?_))))))
      refine aj (s := 57) rfl (fun g57_0 => ?_) (fun g57_0 => ?_)
      ·
       have q57_0 := of_decide_eq_true g57_0
       refine bi rfl rfl rfl rfl (bi rfl rfl rfl rfl (bi rfl rfl rfl rfl (TL.run (ah rfl) rfl (TL.run (ah rfl) rfl (bi rfl rfl rfl rfl (bi rfl rfl rfl rfl (bi rfl rfl rfl rfl ?_)))))))
       refine bi rfl rfl rfl rfl (bi rfl rfl rfl rfl (bi rfl rfl rfl rfl (TL.run (ah rfl) rfl (TL.nil (ad (bO rfl (TC.seq ?_)))))))
       refine TC.region (TL.run (ah rfl) rfl (TL.nil (ad (TC.ret (aN (al (al ?_)))))))
       refine aN (al ?_)
       refine cB (.inr rfl) (ae rfl (RVal.tmp rfl)) (.there _ (.there _ (.here _))) ⟨_, _, ?_, rfl, rfl, ?_, rfl⟩
       ·
        first
         | exact cX hx (by simp_all)
         | exact aZ hx hg o0 o1
         | exact aZ hx hg o0 (by first | exact aO c52_1 c54_1 | exact aI c52_1 c54_1 | exact bg c52_1 g57_1 | exact bf c52_1 g62_1 | exact bn c52_1 g57_1 g62_1 (e1.trans (by simp_all)))
         | exact aZ hx hg o0 (by first | exact aO c52_1 c54_1 | exact aI c52_1 c54_1 | exact bg c52_1 g57_1 | exact bf c52_1 g62_1 | exact bn c52_1 g57_1 g62_1 (e2.trans (by simp_all)))
         | exact cY hx hg (by first | exact aO c52_0 c54_0 | exact aI c52_0 c54_0 | exact bg c52_0 g57_0 | exact bf c52_0 g62_0 | exact bn c52_0 g57_0 g62_0 (e1.trans (by simp_all)))
       · first | assumption | (simp; done) | (simp; assumption)
      ·
       have q57_0 := of_decide_eq_false g57_0
       refine aw rfl rfl (ah rfl) rfl (aw rfl rfl (ah rfl) rfl (aw rfl rfl (ah rfl) rfl (TL.run (ah rfl) rfl (TL.run (ah rfl) rfl ?_))))
       refine aj (s := 62) rfl (fun g62_0 => ?_) (fun g62_0 => ?_)
       ·
        have q62_0 := of_decide_eq_true g62_0
        refine bi rfl rfl rfl rfl (bi rfl rfl rfl rfl (bi rfl rfl rfl rfl (bi rfl rfl rfl rfl (bi rfl rfl rfl rfl (bi rfl rfl rfl rfl (TL.run (ah rfl) rfl (TL.nil ?_)))))))
        refine ad (bO rfl (TC.seq (TC.region (TL.run (ah rfl) rfl (TL.nil (ad (TC.ret ?_)))))))
        refine aN (al (al (aN (al ?_))))
        refine cB (.inr rfl) (ae rfl (RVal.tmp rfl)) (.there _ (.there _ (.here _))) ⟨_, _, ?_, rfl, rfl, ?_, rfl⟩
        ·
         first
          | exact cX hx (by simp_all)
          | exact aZ hx hg o0 o1
          | exact aZ hx hg o0 (by first | exact aO c52_1 c54_1 | exact aI c52_1 c54_1 | exact bg c52_1 g57_1 | exact bf c52_1 g62_1 | exact bn c52_1 g57_1 g62_1 (e1.trans (by simp_all)))
          | exact aZ hx hg o0 (by first | exact aO c52_1 c54_1 | exact aI c52_1 c54_1 | exact bg c52_1 g57_1 | exact bf c52_1 g62_1 | exact bn c52_1 g57_1 g62_1 (e2.trans (by simp_all)))
          | exact cY hx hg (by first | exact aO c52_0 c54_0 | exact aI c52_0 c54_0 | exact bg c52_0 g57_0 | exact bf c52_0 g62_0 | exact bn c52_0 g57_0 g62_0 (e1.trans (by simp_all)))
        · first | assumption | (simp; done) | (simp; assumption)
       ·
        have q62_0 := of_decide_eq_false g62_0
        refine aw rfl rfl (bI rfl hw) rfl (aw rfl rfl (ah rfl) rfl (aw rfl rfl (ah rfl) rfl (aw rfl rfl ((by first | exact dc rfl rfl (by omega) (by omega) | exact ah rfl)) rfl ?_)))
        refine eI (.there _ (.there _ (.here _))) ?_
        refine k5 rfl rfl (ab rfl rfl rfl rfl) (ih _ (deep + 1) _ (by have q1 := of_decide_eq_false g57_0; have q2 := of_decide_eq_false g62_0; omega) (by have q1 := of_decide_eq_false g57_0; have q2 := of_decide_eq_false g62_0; omega) (by have q1 := of_decide_eq_false g57_0; have q2 := of_decide_eq_false g62_0; omega) ⟨by omega, by have := hg.2.1; omega⟩ (by first | assumption | (simp; assumption))) rfl (fun v67 H67 cs67 hle67 hp67 => ?_)
        obtain ⟨r1, m1, e1, rfl, rfl, hl1, rfl⟩ := hp67
        refine aw rfl rfl (ah rfl) rfl (TL.run (ah rfl) rfl (TL.nil (ad ?_)))
        refine TC.cond rfl (fun c69_0 => ?_) (fun c69_0 => ?_)
        ·
         refine TC.seq (TC.region (TL.run (ah rfl) rfl (TL.nil (ad (TC.ret (aN (al ?_)))))))
         refine al (aN (al ?_))
         refine cB (.inr rfl) (ae rfl (RVal.tmp rfl)) (.here _) ⟨_, _, ?_, rfl, rfl, ?_, rfl⟩
         ·
          first
           | exact cX hx (by simp_all)
           | exact aZ hx hg o0 o1
           | exact aZ hx hg o0 (by first | exact aO c52_1 c54_1 | exact aI c52_1 c54_1 | exact bg c52_1 g57_1 | exact bf c52_1 g62_1 | exact bn c52_1 g57_1 g62_1 (e1.trans (by simp_all)))
           | exact aZ hx hg o0 (by first | exact aO c52_1 c54_1 | exact aI c52_1 c54_1 | exact bg c52_1 g57_1 | exact bf c52_1 g62_1 | exact bn c52_1 g57_1 g62_1 (e2.trans (by simp_all)))
           | exact cY hx hg (by first | exact aO c52_0 c54_0 | exact aI c52_0 c54_0 | exact bg c52_0 g57_0 | exact bf c52_0 g62_0 | exact bn c52_0 g57_0 g62_0 (e1.trans (by simp_all)))
         · first | assumption | (simp; done) | (simp; assumption)
        ·
         refine TC.skip (bA (ad (TC.region (TL.run (dc rfl rfl (by omega) (by omega)) rfl (TL.run (ah rfl) rfl (TL.nil ?_))))))
         have o0 : opW (ak t.kind) at_ (fun to m => cG l f to (deep + 1) m) 0 t.l (met.set at_.toNat true) = (true, m1) := by first | exact aI c52_0 c54_0 | exact bn c52_0 g57_0 g62_0 (e1.trans (by simp_all; done)) | exact bn c52_0 g57_0 g62_0 (e2.trans (by simp_all; done))
         refine jd ?_
         refine eA ?_
         refine TC.seq (TC.region (TL.run (ah rfl) rfl (TL.nil (ad (TC.seq (bO rfl (TC.skip ?_)))))))
         refine ad (TC.seq (TC.block (TC.seq (TC.region (TL.run (ah rfl) rfl (TL.run (dT rfl rfl (by omega) (by omega)) rfl (TL.run (aD rfl (.there _ (.here _)) rfl) rfl ?_)))))))
         refine TL.run (ah rfl) rfl (TL.run (ah rfl) rfl (TL.nil (ad (TC.seq (TC.seq (TC.region (TL.run (ah rfl) rfl ?_)))))))
         refine TL.run (ah rfl) rfl (TL.run (ah rfl) rfl (TL.nil (ad ?_)))
         refine ag rfl (fun c52_1 => ?_) (fun c52_1 => ?_)
         ·
          refine TC.seq (TC.seq (TC.region (TL.run (ah rfl) rfl (TL.run (ah rfl) rfl (TL.nil (ad ?_))))))
          refine aW rfl (fun c54_1 => ?_) (fun c54_1 => ?_)
          ·
           refine TC.seq (TC.region (TL.run (ah rfl) rfl (TL.nil (ad (TC.ret (al (al ?_)))))))
           refine aN (al (al (aN (al ?_))))
           refine cB (.inr rfl) (ae rfl (RVal.tmp rfl)) (.here _) ⟨_, _, ?_, rfl, rfl, ?_, rfl⟩
           ·
            first
             | exact cX hx (by simp_all)
             | exact aZ hx hg o0 o1
             | exact aZ hx hg o0 (by first | exact aO c52_1 c54_1 | exact aI c52_1 c54_1 | exact bg c52_1 g57_1 | exact bf c52_1 g62_1 | exact bn c52_1 g57_1 g62_1 (e1.trans (by simp_all)))
             | exact aZ hx hg o0 (by first | exact aO c52_1 c54_1 | exact aI c52_1 c54_1 | exact bg c52_1 g57_1 | exact bf c52_1 g62_1 | exact bn c52_1 g57_1 g62_1 (e2.trans (by simp_all)))
             | exact cY hx hg (by first | exact aO c52_0 c54_0 | exact aI c52_0 c54_0 | exact bg c52_0 g57_0 | exact bf c52_0 g62_0 | exact bn c52_0 g57_0 g62_0 (e1.trans (by simp_all)))
           · first | assumption | (simp; done) | (simp; assumption)
          ·
           refine TC.skip (ad (TC.exit (bv (bS (ad (TC.region (TL.run (dc rfl rfl (by omega) (by omega)) rfl ?_)))))))
           refine TL.run (ah rfl) rfl (TL.nil ?_)
           have o1 : opW (ak t.kind) at_ (fun to m => cG l f to (deep + 1) m) 1 t.r m1 = (true, m1) := by first | exact aI c52_1 c54_1 | exact bn c52_1 g57_1 g62_1 (e1.trans (by simp_all; done)) | exact bn c52_1 g57_1 g62_1 (e2.trans (by simp_all; done))
           refine jd ?_
           refine eA ?_
           refine TC.seq (TC.region (TL.run (ah rfl) rfl (TL.nil (ad (TC.seq (dG rfl (TC.exit ?_)))))))
           refine bv (bv (bS (ad (TC.seq (TC.region (TL.run (ah rfl) rfl (TL.nil ?_)))))))
           refine ad (TC.ret ?_)
           refine cB (.inr rfl) (ae rfl (RVal.tmp rfl)) (.here _) ⟨_, _, ?_, rfl, rfl, ?_, rfl⟩
           ·
            first
             | exact cX hx (by simp_all)
             | exact aZ hx hg o0 o1
             | exact aZ hx hg o0 (by first | exact aO c52_1 c54_1 | exact aI c52_1 c54_1 | exact bg c52_1 g57_1 | exact bf c52_1 g62_1 | exact bn c52_1 g57_1 g62_1 (e1.trans (by simp_all)))
             | exact aZ hx hg o0 (by first | exact aO c52_1 c54_1 | exact aI c52_1 c54_1 | exact bg c52_1 g57_1 | exact bf c52_1 g62_1 | exact bn c52_1 g57_1 g62_1 (e2.trans (by simp_all)))
             | exact cY hx hg (by first | exact aO c52_0 c54_0 | exact aI c52_0 c54_0 | exact bg c52_0 g57_0 | exact bf c52_0 g62_0 | exact bn c52_0 g57_0 g62_0 (e1.trans (by simp_all)))
           · first | assumption | (simp; done) | (simp; assumption)
         ·
          refine TC.skip (ad (TC.seq (TC.region (TL.run (ah rfl) rfl (TL.run (ah rfl) rfl (TL.run (ah rfl) rfl ?_))))))
          refine aj (s := 57) rfl (fun g57_1 => ?_) (fun g57_1 => ?_)
          ·
           have q57_1 := of_decide_eq_true g57_1
           refine bi rfl rfl rfl rfl (bi rfl rfl rfl rfl (bi rfl rfl rfl rfl (TL.run (ah rfl) rfl (TL.run (ah rfl) rfl (bi rfl rfl rfl rfl (bi rfl rfl rfl rfl (bi rfl rfl rfl rfl ?_)))))))
           refine bi rfl rfl rfl rfl (bi rfl rfl rfl rfl (bi rfl rfl rfl rfl (TL.run (ah rfl) rfl (TL.nil (ad (bO rfl (TC.seq ?_)))))))
           refine TC.region (TL.run (ah rfl) rfl (TL.nil (ad (TC.ret (aN (al (al ?_)))))))
           refine aN (al ?_)
           refine cB (.inr rfl) (ae rfl (RVal.tmp rfl)) (.here _) ⟨_, _, ?_, rfl, rfl, ?_, rfl⟩
           ·
            first
             | exact cX hx (by simp_all)
             | exact aZ hx hg o0 o1
             | exact aZ hx hg o0 (by first | exact aO c52_1 c54_1 | exact aI c52_1 c54_1 | exact bg c52_1 g57_1 | exact bf c52_1 g62_1 | exact bn c52_1 g57_1 g62_1 (e1.trans (by simp_all)))
             | exact aZ hx hg o0 (by first | exact aO c52_1 c54_1 | exact aI c52_1 c54_1 | exact bg c52_1 g57_1 | exact bf c52_1 g62_1 | exact bn c52_1 g57_1 g62_1 (e2.trans (by simp_all)))
             | exact cY hx hg (by first | exact aO c52_0 c54_0 | exact aI c52_0 c54_0 | exact bg c52_0 g57_0 | exact bf c52_0 g62_0 | exact bn c52_0 g57_0 g62_0 (e1.trans (by simp_all)))
           · first | assumption | (simp; done) | (simp; assumption)
          ·
           have q57_1 := of_decide_eq_false g57_1
           refine aw rfl rfl (ah rfl) rfl (aw rfl rfl (ah rfl) rfl (aw rfl rfl (ah rfl) rfl (TL.run (ah rfl) rfl (TL.run (ah rfl) rfl ?_))))
           refine aj (s := 62) rfl (fun g62_1 => ?_) (fun g62_1 => ?_)
           ·
            have q62_1 := of_decide_eq_true g62_1
            refine bi rfl rfl rfl rfl (bi rfl rfl rfl rfl (bi rfl rfl rfl rfl (bi rfl rfl rfl rfl (bi rfl rfl rfl rfl (bi rfl rfl rfl rfl (TL.run (ah rfl) rfl (TL.nil ?_)))))))
            refine ad (bO rfl (TC.seq (TC.region (TL.run (ah rfl) rfl (TL.nil (ad (TC.ret ?_)))))))
            refine aN (al (al (aN (al ?_))))
            refine cB (.inr rfl) (ae rfl (RVal.tmp rfl)) (.here _) ⟨_, _, ?_, rfl, rfl, ?_, rfl⟩
            ·
             first
              | exact cX hx (by simp_all)
              | exact aZ hx hg o0 o1
              | exact aZ hx hg o0 (by first | exact aO c52_1 c54_1 | exact aI c52_1 c54_1 | exact bg c52_1 g57_1 | exact bf c52_1 g62_1 | exact bn c52_1 g57_1 g62_1 (e1.trans (by simp_all)))
              | exact aZ hx hg o0 (by first | exact aO c52_1 c54_1 | exact aI c52_1 c54_1 | exact bg c52_1 g57_1 | exact bf c52_1 g62_1 | exact bn c52_1 g57_1 g62_1 (e2.trans (by simp_all)))
              | exact cY hx hg (by first | exact aO c52_0 c54_0 | exact aI c52_0 c54_0 | exact bg c52_0 g57_0 | exact bf c52_0 g62_0 | exact bn c52_0 g57_0 g62_0 (e1.trans (by simp_all)))
            · first | assumption | (simp; done) | (simp; assumption)
           ·
            have q62_1 := of_decide_eq_false g62_1
            refine aw rfl rfl (bI rfl hw) rfl (aw rfl rfl (ah rfl) rfl (aw rfl rfl (ah rfl) rfl (aw rfl rfl ((by first | exact dc rfl rfl (by omega) (by omega) | exact ah rfl)) rfl ?_)))
            refine k5 rfl rfl (ab rfl rfl rfl rfl) (ih _ (deep + 1) _ (by have q1 := of_decide_eq_false g57_1; have q2 := of_decide_eq_false g62_1; omega) (by have q1 := of_decide_eq_false g57_1; have q2 := of_decide_eq_false g62_1; omega) (by have q1 := of_decide_eq_false g57_1; have q2 := of_decide_eq_false g62_1; omega) ⟨by omega, by have := hg.2.1; omega⟩ (by first | assumption | (simp; assumption))) rfl (fun v67 H67 cs67 hle67 hp67 => ?_)
            obtain ⟨r2, m2, e2, rfl, rfl, hl2, rfl⟩ := hp67
            refine aw rfl rfl (ah rfl) rfl (TL.run (ah rfl) rfl (TL.nil (ad ?_)))
            refine TC.cond rfl (fun c69_1 => ?_) (fun c69_1 => ?_)
            ·
             refine TC.seq (TC.region (TL.run (ah rfl) rfl (TL.nil (ad (TC.ret (aN (al ?_)))))))
             refine al (aN (al ?_))
             refine cB (.inr rfl) (ae rfl (RVal.tmp rfl)) (.here _) ⟨_, _, ?_, rfl, rfl, ?_, rfl⟩
             ·
              first
               | exact cX hx (by simp_all)
               | exact aZ hx hg o0 o1
               | exact aZ hx hg o0 (by first | exact aO c52_1 c54_1 | exact aI c52_1 c54_1 | exact bg c52_1 g57_1 | exact bf c52_1 g62_1 | exact bn c52_1 g57_1 g62_1 (e1.trans (by simp_all)))
               | exact aZ hx hg o0 (by first | exact aO c52_1 c54_1 | exact aI c52_1 c54_1 | exact bg c52_1 g57_1 | exact bf c52_1 g62_1 | exact bn c52_1 g57_1 g62_1 (e2.trans (by simp_all)))
               | exact cY hx hg (by first | exact aO c52_0 c54_0 | exact aI c52_0 c54_0 | exact bg c52_0 g57_0 | exact bf c52_0 g62_0 | exact bn c52_0 g57_0 g62_0 (e1.trans (by simp_all)))
             · first | assumption | (simp; done) | (simp; assumption)
            ·
             refine TC.skip (bA (ad (TC.region (TL.run (dc rfl rfl (by omega) (by omega)) rfl (TL.run (ah rfl) rfl (TL.nil ?_))))))
             have o1 : opW (ak t.kind) at_ (fun to m => cG l f to (deep + 1) m) 1 t.r m1 = (true, m2) := by first | exact aI c52_1 c54_1 | exact bn c52_1 g57_1 g62_1 (e1.trans (by simp_all; done)) | exact bn c52_1 g57_1 g62_1 (e2.trans (by simp_all; done))
             refine jd ?_
             refine eA ?_
             refine TC.seq (TC.region (TL.run (ah rfl) rfl (TL.nil (ad (TC.seq (dG rfl (TC.exit ?_)))))))
             refine bv (bv (bS (ad (TC.seq (TC.region (TL.run (ah rfl) rfl (TL.nil ?_)))))))
             refine ad (TC.ret ?_)
             refine cB (.inr rfl) (ae rfl (RVal.tmp rfl)) (.here _) ⟨_, _, ?_, rfl, rfl, ?_, rfl⟩
             ·
              first
               | exact cX hx (by simp_all)
               | exact aZ hx hg o0 o1
               | exact aZ hx hg o0 (by first | exact aO c52_1 c54_1 | exact aI c52_1 c54_1 | exact bg c52_1 g57_1 | exact bf c52_1 g62_1 | exact bn c52_1 g57_1 g62_1 (e1.trans (by simp_all)))
               | exact aZ hx hg o0 (by first | exact aO c52_1 c54_1 | exact aI c52_1 c54_1 | exact bg c52_1 g57_1 | exact bf c52_1 g62_1 | exact bn c52_1 g57_1 g62_1 (e2.trans (by simp_all)))
               | exact cY hx hg (by first | exact aO c52_0 c54_0 | exact aI c52_0 c54_0 | exact bg c52_0 g57_0 | exact bf c52_0 g62_0 | exact bn c52_0 g57_0 g62_0 (e1.trans (by simp_all)))
             · first | assumption | (simp; done) | (simp; assumption)
theorem DT {H : Hp} {l : List Term} {v : Value} (root : Int) (hT : RdSl H 6 Term.cells v l) (hnames : ∀ t ∈ l, t.name.length ≤ 9223372036854775807) :
  FnS Tryz.prog 59 [v, .int .i64 root] H (.bool (cA l root)) := by
 have hmax := hT.max
 have one1 := hT.isOne
 refine FnS.enter Tryz.func59 Tryz.ntmps59 rfl rfl (fun w0 => ?_)
 refine zm2 ?_
 refine oU rfl rfl (fun b2 => ?_)
 refine wi ?_; refine k7 ?_; refine TL.run (ai rfl rfl hT) rfl ?_; refine zm3 ?_
 refine aj (s := 10) rfl (fun g10 => ?_) (fun g10 => ?_)
 ·
  have q10 := of_decide_eq_true g10
  refine pj ?_; refine lH ?_
  exact ax (.inr rfl) (ae rfl (RVal.tmp rfl)) (congrArg Value.bool (by first | exact (mh g10).symm | exact (mg g14).symm | exact (mf c19).symm | (rw [m6 h160, e])))
 have q10 := of_decide_eq_false g10
 refine BQ ?_
 refine aj (s := 14) rfl (fun g14 => ?_) (fun g14 => ?_)
 ·
  have q14 := of_decide_eq_true g14
  refine eB ?_; refine lH ?_
  exact ax (.inr rfl) (ae rfl (RVal.tmp rfl)) (congrArg Value.bool (by first | exact (mh g10).symm | exact (mg g14).symm | exact (mf c19).symm | (rw [m6 h160, e])))
 have q14 := of_decide_eq_false g14
 refine cN ?_; refine aw rfl rfl (aD rfl (.here _) rfl) rfl (aw rfl rfl (ai rfl rfl hT) rfl ?_); refine gW ?_
 refine ag rfl (fun c19 => ?_) (fun c19 => ?_)
 ·
  refine o8 ?_
  exact ax (.inr rfl) (ae rfl (RVal.tmp rfl)) (congrArg Value.bool (by first | exact (mh g10).symm | exact (mg g14).symm | exact (mf c19).symm | (rw [m6 h160, e])))
 refine pQ ?_; refine k7 ?_; refine TL.run (ai rfl rfl hT) rfl (gw rfl rfl (by first | omega | decide) (by first | omega | decide) (by first | omega | decide) rfl (fun b22 => ?_))
 refine TL.alloc rfl (fun b5 => ?_)
 refine sJ ?_
 refine TL.alloc rfl (fun b6 => ?_)
 refine gE ?_; refine sJ ?_
 refine dK (by simp) (fun H_b6 le_b6 rd_b6 => ?_)
 refine dK (by simp) (fun H_b5 le_b5 rd_b5 => ?_)
 refine eI (.there _ (.here _)) (dK (by simp) (fun H_b2 le_b2 rd_b2 => ?_))
 have hT2 := ((hT.le le_b6).le le_b5).le le_b2
 have hl : H_b2 b2 0 = some v := rd_b2 0 _ rfl
 have hm := le_b2 _ _ _ (rd_b5 0 _ rfl)
 have hw := le_b2 _ _ _ (le_b5 _ _ _ (rd_b6 0 _ rfl))
 have h160 := mayB_in g10 g14 c19
 rw [xV]
 refine TL.run (bI rfl hw) rfl ?_; refine zm0 ?_
 refine Bb (ab rfl rfl rfl rfl) (walk_ok hT2 hnames hl hm hw (root.toNat + 1) root 1 _ (by omega) (by omega) (by omega) (by omega) (by simp)) rfl (fun v26 H26 cs26 hle26 hp26 => ?_)
 obtain ⟨b, m, e, rfl, rfl, hl2, rfl⟩ := hp26
 refine eh ?_
 exact ax (.inr rfl) (ae rfl (RVal.tmp rfl)) (congrArg Value.bool (by first | exact (mh g10).symm | exact (mg g14).symm | exact (mf c19).symm | (rw [m6 h160, e])))
end Go.Sx
namespace Go.Sx
open Go Go.Proofs
theorem qI {H : Hp} {l : List Str} {v : Value} (s : Str) (hL : RdSl H 1 Str.cells v l) :
  FnS Tryz.prog 63 [v, gs s] H (.int .i64 (cx l s)) := by
 have hmax := hL.max
 refine FnS.enter Tryz.func63 Tryz.ntmps63 rfl rfl (fun w0 => ?_)
 refine ln ?_; refine TL.run (ai rfl rfl hL) rfl ?_; refine zm8 ?_
 refine TC.loop (V := fun k => [(8, .int .i64 k)]) (K := [(0, _), (1, _), (4, _), (7, _)]) (L := fun k => _) (I := fun k => 0 ≤ k ∧ k ≤ l.length ∧ ∀ j : Nat, j < k.toNat → l[j]? ≠ some s) (μ := fun k => (l.length - k).toNat) (i := (0 : Int)) ky ⟨by omega, by omega, fun j hj => absurd hj (by simp)⟩ (fun w hw => hw) (fun k hI => ?_)
 refine zm6 ?_
 refine ag rfl (fun c9 => ?_) (fun c9 => ?_)
 ·
  refine dC ?_
  obtain ⟨x, hx⟩ := ao (l := l) hI.1 c9
  refine kK ?_; refine eJ ?_; refine nL ?_; refine TL.run (aM hL hx rfl rfl) rfl ?_; refine vY ?_
  refine ag rfl (fun c16 => ?_) (fun c16 => ?_)
  ·
   refine vX ?_
   exact ax (.inr rfl) (ae rfl (RVal.tmp rfl)) (congrArg (Value.int .i64) (by first | exact (ef hI.1 (by rw [hx, c16]) hI.2.2).symm | exact (fl hI.2.2 c9).symm))
  refine lg ?_
  exact aR (k + 1) ⟨by omega, by omega, kU hI.1 hI.2.2 hx c16⟩ ky (fun w hw => hw) (by omega)
 refine gv ?_
 exact ax (.inr rfl) (ae rfl (RVal.tmp rfl)) (congrArg (Value.int .i64) (by first | exact (ef hI.1 (by rw [hx, c16]) hI.2.2).symm | exact (fl hI.2.2 c9).symm))
theorem iL {H : Hp} {l : List Str} {v : Value} (s : Str) (hL : RdSl H 1 Str.cells v l) :
  FnS Tryz.prog 24 [v, gs s] H (.bool (cq l s)) := by
 refine FnS.enter Tryz.func24 Tryz.ntmps24 rfl rfl (fun w0 => ?_)
 refine sE ?_; refine ay (ab rfl rfl rfl rfl) (qI s hL) rfl ?_; refine ff ?_
 exact ax (.inr rfl) (ae rfl (RVal.tmp rfl)) (congrArg Value.bool (by rw [← qS]))
theorem B7 {H : Hp} {at_ : Int} {bl bo bw : Nat} {u : Value} {xs : List Str} {ob : aq} (hneg : at_ < 0) (hO : OwnSl 1 Str.cells u xs ob) :
  FnX Tryz.prog 60 [.int .i64 at_, .pointer (some ⟨bw, 0, none⟩), .pointer (some ⟨bl, 0, none⟩), .pointer (some ⟨bo, 0, none⟩)] H ((bo, [u]) :: ob) (fun r H' L' => r = .tuple #[] ∧ H' = H ∧ ∃ u' ob', L' = (bo, [u']) :: ob' ∧ OwnSl 1 Str.cells u' xs ob') := by
 refine FnX.enter Tryz.func60 Tryz.ntmps60 rfl rfl (fun w0 => ?_)
 refine y8 ?_
 refine ag rfl (fun c6 => ?_) (fun c6 => ?_)
 · exact TC.ret (al (aY (.inr rfl) (cg rfl) (fun w hw => hw) ⟨rfl, rfl, _, _, rfl, hO⟩))
 exact absurd hneg c6
theorem BZ {H : Hp} {l : List Term} {v : Value} {bl bo bw : Nat} (hT : RdSl H 6 Term.cells v l) (hl : H bl 0 = some v) (hw : H bw 0 = some (.func (.func 60) #[] #[.pointer (some ⟨bw, 0, none⟩), .pointer (some ⟨bl, 0, none⟩), .pointer (some ⟨bo, 0, none⟩)])) :
  ∀ (f : Nat) (at_ : Int), (at_ < 0 ∨ Tr l f at_) → ∀ (u : Value) (xs : List Str) (ob : aq), OwnSl 1 Str.cells u xs ob → xs.length + (eN l f at_).length ≤ 100000000 →
   FnX Tryz.prog 60 [.int .i64 at_, .pointer (some ⟨bw, 0, none⟩), .pointer (some ⟨bl, 0, none⟩), .pointer (some ⟨bo, 0, none⟩)] H ((bo, [u]) :: ob) (fun r H' L' => r = .tuple #[] ∧ H' = H ∧ ∃ u' ob', L' = (bo, [u']) :: ob' ∧ OwnSl 1 Str.cells u' (xs ++ eN l f at_) ob') := by
 intro f
 induction f with
 | zero =>
  intro at_ h u xs ob hO hlen
  have h0 : at_ < 0 := h.resolve_right (fun h => h)
  rw [mG h0, List.append_nil]
  exact B7 h0 hO
 | succ f ih =>
 intro at_ h u xs ob hO hlen
 have one0 := hT.isOne
 obtain ⟨ua, uc, rfl⟩ := hO.form
 refine FnX.enter Tryz.func60 Tryz.ntmps60 rfl rfl (fun w0 => ?_)
 refine y8 ?_
 refine ag rfl (fun c6 => ?_) (fun c6 => ?_)
 · exact TC.ret (al (aY (.inr rfl) (cg rfl) (fun w hw => hw) ⟨rfl, rfl, _, _, rfl, by rw [mG c6, List.append_nil]; exact hO⟩))
 obtain ⟨h0, t, hx, _, _, hTl0, hTl1, hTr0, hTr1⟩ := h.resolve_left c6
 have hlt : at_.toNat < l.length := (List.getElem?_eq_some_iff.1 hx).1
 rw [lL c6 hx] at hlen
 simp only [List.length_append] at hlen
 have hTl : t.l < 0 ∨ Tr l f t.l := by rcases Int.lt_or_le (ak t.kind) 1 with h1 | h1; exact .inl (by have := hTl1 h1; omega); exact .inr (hTl0 h1)
 have hTr : t.r < 0 ∨ Tr l f t.r := by rcases Int.lt_or_le (ak t.kind) 2 with h1 | h1; exact .inl (by have := hTr1 h1; omega); exact .inr (hTr0 h1)
 refine iS ?_; refine eP ?_; refine y2 ?_; refine a7 (bI rfl hw) rfl ?_; refine vW ?_
 refine bj (fZ (L1 := (bo, [(.slice ua _ uc)]) :: ob) (ab rfl rfl rfl rfl) (ih t.l (hTl) _ _ _ hO (by omega)) rfl (fun v13 H13 L13 hle13 hp13 => ?_))
 obtain ⟨rfl, rfl, u13, ob13, rfl, hO13⟩ := hp13
 obtain ⟨ua13, uc13, rfl⟩ := hO13.form
 refine jr ?_; refine k6 ?_; refine y2 ?_; refine a7 (bI rfl hw) rfl ?_; refine vW ?_
 refine bj (fZ (L1 := (bo, [(.slice ua13 _ uc13)]) :: ob13) (ab rfl rfl rfl rfl) (ih t.r (hTr) _ _ _ hO13 (by simp only [List.length_append]; omega)) rfl (fun v20 H20 L20 hle20 hp20 => ?_))
 obtain ⟨rfl, rfl, u20, ob20, rfl, hO20⟩ := hp20
 obtain ⟨ua20, uc20, rfl⟩ := hO20.form
 refine jr ?_; refine zm2 ?_; refine TL.run (bI rfl hl) rfl ?_; refine zm0 ?_; refine TL.run (af rfl hT rfl (by omega) (by omega)) rfl ?_; refine zm7 ?_; refine TL.run (br hT hx rfl rfl) rfl ?_; refine zm1 ?_
 refine ag rfl (fun c26 => ?_) (fun c26 => ?_)
 ·
  rw [if_pos c26] at hlen
  simp only [List.length_cons, List.length_nil] at hlen
  refine eP ?_; refine bZ [(0, 2), (1, 2), (2, 1), (3, 1), (4, 1), (5, 2), (6, 3), (7, 0), (8, 0)] (by kernel_rfl) (by kernel_rfl) ?_; refine nt ?_; refine vW ?_
  refine aE rfl rfl rfl rfl (fun b33 => ?_)
  refine bj (TL.append (enc := Str.cells) rfl rfl rfl hO20 (Src.own [t.name] (.here _) rfl rfl) (by simp; omega) rfl (.skip _ (.skip _ .all)) rfl (fun a34 c34 ob34 hO34 => ?_))
  refine TF.back (bj (iP rfl rfl rfl (.there _ (.here _)) rfl (TF.back ?_)))
  exact TF.nil (aY (.inl rfl) (cg rfl) (fun w hw => hw.drop) ⟨rfl, rfl, _, _, rfl, by rw [lL c6 hx, if_pos c26, ← List.append_assoc, ← List.append_assoc]; exact hO34⟩)
 exact TC.skip (aY (.inl rfl) (cg rfl) (fun w hw => hw) ⟨rfl, rfl, _, _, rfl, by rw [lL c6 hx, if_neg c26, List.append_nil, ← List.append_assoc]; exact hO20⟩)
theorem Vars_ok {H : Hp} {l : List Term} {v : Value} (root : Int) (hT : RdSl H 6 Term.cells v l) (hnames : ∀ t ∈ l, t.name.length ≤ 9223372036854775807) :
  Fn Tryz.prog 23 [v, .int .i64 root] H (fun r H1 => RdSl H1 1 Str.cells r (gl l root)) := by
 have one1 := hT.isOne
 refine Fn.enter Tryz.func23 Tryz.ntmps23 rfl rfl (fun w0 => ?_)
 refine TC.seq (TC.region ?_)
 refine oU rfl rfl (fun b2 => ?_)
 refine TL.run (ah rfl) rfl (TL.nil (ad (TC.seq (TC.seq (TC.region (TL.run (aD rfl (.here _) rfl) rfl (TL.run (ah rfl) rfl ?_)))))))
 refine ay (ab rfl rfl rfl rfl) (DT root hT hnames) rfl ?_
 refine TL.run (ah rfl) rfl (TL.nil (ad ?_))
 refine TC.cond rfl (fun c10 => ?_) (fun c10 => ?_)
 · refine TC.seq (TC.region (TL.run (ah rfl) rfl (TL.nil (ad (TC.ret (al (aQ (.inr rfl) (ae rfl (RVal.tmp rfl)) (by unfold gl; rw [if_neg (by simpa using c10)]; exact RdSl.nil))))))))
 ·
  refine TC.skip (ad (TC.seq (TC.region ?_)))
  refine TL.alloc rfl (fun b5 => ?_)
  refine TL.nil (ad (TC.seq (TC.region ?_)))
  refine TL.alloc rfl (fun b6 => ?_)
  refine TL.nil (ad (TC.seq (TC.region (TL.run (ah rfl) rfl ?_))))
  refine iP rfl rfl rfl (.here _) rfl ?_
  refine TL.nil (ad (TC.seq (TC.region ?_)))
  refine dK (by simp) (fun H_b6 le_b6 rd_b6 => ?_)
  refine eI (.there _ (.here _)) ?_
  refine dK (by simp) (fun H_b2 le_b2 rd_b2 => ?_)
  have hT2 := (hT.le le_b6).le le_b2
  have hl : H_b2 b2 0 = some v := rd_b2 0 _ rfl
  have hw := le_b2 _ _ _ (rd_b6 0 _ rfl)
  have hm : cA l root = true := by simpa using c10
  have hvl := tG hm
  refine TL.run (bI rfl hw) rfl (TL.run (ah rfl) rfl ?_)
  refine fZ (L1 := (b5, [.slice none 0 0]) :: []) (ab rfl rfl rfl rfl) (BZ hT2 hl hw (root.toNat + 1) root (.inr (md hm)) _ [] [] OwnSl.nil (by simp; omega)) rfl (fun v14 H14 L14 hle14 hp14 => ?_)
  obtain ⟨rfl, rfl, u14, ob14, rfl, hO14⟩ := hp14
  rw [List.nil_append] at hO14
  obtain ⟨ua14, uc14, rfl⟩ := hO14.form
  refine TL.nil (ad (TC.seq (TC.region (TL.run (aD rfl (.here _) rfl) rfl ?_))))
  refine TL.sort (ab rfl rfl rfl rfl) sort_ok hO14 (.skip _ .all) (by omega) rfl (fun ob16 hO16 => ?_)
  refine TL.nil (ad (TC.seq (TC.region (TL.run (aD rfl (.here _) rfl) rfl ?_))))
  refine TL.compact (ab rfl rfl rfl rfl) yt hO16 (.skip _ .all) rfl (fun a18 c18 ob18 hO18 => ?_)
  refine TL.run (ah rfl) rfl (TL.nil (ad (TC.ret ?_)))
  refine TX.pubO hO18 (.skip _ .all) (by simp) (fun H1 hle hR => ?_)
  exact aQ (.inr rfl) (ae rfl (RVal.tmp rfl)) (by unfold gl; rw [if_pos hm]; exact hR)
end Go.Sx
