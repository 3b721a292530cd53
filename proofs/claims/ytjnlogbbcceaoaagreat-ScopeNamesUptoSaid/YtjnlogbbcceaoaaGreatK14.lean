import Derived.Test.YtjnlogbbcceaoaaGreatK13
import Derived.Test.YtjnlogbbcceaoaaGreatRows
import Derived.ProofKit
import Derived.Shelf.Vars
import Derived.Deep.DeepHandedRow
import Derived.OpenShut
set_option linter.all false
set_option maxRecDepth 100000
namespace Go.Sx
open Go Go.Proofs
set_option maxHeartbeats 16000000 in
theorem ScopeNames_ok {H : Hp} {lv : Value} {l : List Int} (hl : RdSl H 1 I64.cells lv l) (hm : l.length ≤ 1000000000000) (hM : MaxG H) :
  Fn Tryz.prog 8 [lv] H (fun v H1 => v = .bool true) := by
 refine Fn.enter Tryz.func8 Tryz.ntmps8 rfl rfl (fun w0 => ?_)
 refine zm142 ?_; refine zm88 ?_
 refine TL.call (enters rfl rfl rfl rfl) (first15_ok hM) rfl (fun v16 H16 hle16 hp16 => ?_)
 replace hM := hM.le hle16
 replace hl := hl.le hle16
 subst hp16
 refine zm2 ?_
 refine TC.cond rfl (fun c17 => ?_) (fun c17 => ?_)
 · exact absurd c17 (by decide)
 ·
  refine zm103 ?_
  refine TL.callO (enters rfl rfl rfl rfl) (mProgram_ok hl hm) rfl (fun v19 H19 ob19 hle19 hp19 => ?_)
  obtain ⟨ps, qs, S, pv, psv, ob1, B, rfl, rfl, hps, hPs, hO, hB, hq, hN, hn1, hn11⟩ := hp19
  obtain ⟨psa, psc, rfl⟩ := hps.len
  obtain ⟨pva, pvc, rfl⟩ := hO.form
  replace hM := hM.le hle19
  refine TL.pubO hO (.app _) (by simp) (fun HQ leQ hR => ?_)
  refine TL.pubB (hB.leH leQ) .all (by simp) (fun HB leB hBH => ?_)
  have leQB := leQ.trans leB
  obtain ⟨pg, hpg, hP, hgp, _, _⟩ := gen_prog hBH (hR.le leB) (fun x hx => (hq x hx).le leQB (.refl _)) (hps.le leQB) ((hPs.le leQB).pk) hN (by omega) (by omega)
  replace hM := hM.le leQB
  rw [hpg]
  refine TL.alloc rfl (fun b3 => ?_)
  refine zm26 ?_; refine zm88 ?_; refine zm19 ?_
  refine TL.call (enters rfl rfl rfl rfl) (check_ok hP hM) rfl (fun v21 H21 hle21 hp21 => ?_)
  replace hP := hP.le hle21
  subst hp21
  refine TL.run (pr_fieldV (off := 0) rfl (by kernel_rfl) rfl) rfl ?_; refine zm2 ?_
  refine TC.condND rfl (fun c23 => ?_) (fun c23 => ?_)
  ·
   refine zm171 ?_
   exact TX.fin0 (.inr rfl) (results1 rfl (RVal.tmp rfl)) rfl
  ·
   have hck : (checkS pg).e = 0 := by simpa using c23
   have hCO := check_ok0 hck
   refine zm12 ?_; refine zm55 ?_
   refine TC.loop4 (V := fun ip vA obA HA => [(4, .int .i64 ip)]) (K := [(2, _), (3, _)]) (L := fun ip vA obA HA => St [] w0 H HA ((b3, pg.cells) :: [])) (I := fun ip vA obA HA => (0 ≤ ip ∧ ip ≤ pg.procs.length) ∧ H21.le HA) (μ := fun ip => (pg.procs.length - ip).toNat) (0 : Int) .nilFunc [] H21 ⟨rfl, rfl, rfl, trivial⟩ ⟨⟨by omega, by omega⟩, Hp.le.refl _⟩ (fun w hw => hw) (fun ip vA obA HA hI => ?_)
   obtain ⟨⟨p0, p1⟩, hleA⟩ := hI
   replace hP := hP.le hleA
   refine zm93 ?_; refine TL.run (pr_lenSl rfl rfl hP.q) rfl ?_; refine zm2 ?_
   refine TC.condD rfl (fun c28 => ?_) (fun c28 => ?_)
   ·
    have hmxq := hP.q.max
    obtain ⟨q, hq⟩ := getSome (l := pg.procs) p0 c28
    have hQ := hP.qs q (List.mem_of_getElem? hq)
    have hRO := hCO.q.2 q (List.mem_of_getElem? hq)
    have hz0 := hRO.n1
    have hz1 := hRO.n2
    have hpl := hQ.pl
    have hsh := hRO.s
    have hS0 := sense_at hck p0 hq
    refine zm15 ?_; refine zm200 ?_; refine TL.run (pr_indexSl rfl hP.q rfl (by omega) (by omega)) rfl (TL.run (pr_elA hP.q hq rfl rfl) rfl (TL.alloc rfl (fun b5 => ?_)))
    refine zm98 ?_; refine TL.run (pr_lenSl rfl rfl hQ.s) rfl (TL.make rfl rfl (by first | omega | decide) (by first | omega | decide) (by first | omega | decide) rfl (fun b39 => ?_))
    refine zm156 ?_
    refine TC.loop4 (V := fun k v ob HX => [(7, .int .i64 k)]) (K := [(2, _), (3, _), (4, _), (5, _), (6, _), (24, _), (25, _), (26, _), (27, _), (28, _), (31, _), (32, _), (33, _), (34, _), (35, _), (36, _), (37, _), (38, _), (39, _)]) (L := fun k v ob HX => St [] w0 H HA ((b39, (List.replicate q.steps.length nilV).set 0 v) :: (b5, q.cells) :: (b3, pg.cells) :: ob)) (I := fun k v ob HX => (0 ≤ k ∧ k ≤ q.params.length) ∧ OwnSl 1 Str.cells v ((q.params.take k.toNat).map (·.name)) ob) (μ := fun k => (q.params.length - k).toNat) 0 nilV [] HA ⟨rfl, rfl, rfl, rfl, rfl, rfl, rfl, rfl, rfl, rfl, rfl, rfl, rfl, rfl, rfl, rfl, rfl, rfl, rfl, rfl, trivial⟩ ⟨⟨by omega, by omega⟩, OwnSl.nil⟩ (fun w hw => by rw [rep_set0]; rw [reps_one] at hw; exact hw) (fun k v ob HX hI => ?_)
    obtain ⟨⟨k0, k1⟩, hO⟩ := hI
    obtain ⟨va, vc, rfl⟩ := hO.form
    refine zm261 ?_; refine TL.run (pr_lenSl rfl rfl hQ.pa) rfl ?_; refine zm2 ?_
    refine TC.condD rfl (fun c44 => ?_) (fun c44 => ?_)
    ·
     obtain ⟨x, hx⟩ := getSome (l := q.params) k0 c44
     refine zm290 ?_; refine zm477 ?_; refine zm72 ?_; refine zm71 ?_; refine TF.still (pr_own1 rfl (.here _) (set_get0 (by simp; omega))) rfl ?_; refine zm76 ?_; refine zm5 ?_
     refine TF.pure (pr_indexSl rfl hQ.pa rfl (by omega) (by omega)) rfl ?_; refine zm3 ?_; refine TF.still (pr_el1 hQ.pa hx rfl rfl) rfl (TF.bslice rfl rfl rfl rfl (fun b57 => ?_))
     refine TF.loud (TL.append (enc := Str.cells) rfl rfl rfl hO (Src.own [x.name] (.here _) rfl rfl) (by simp; omega) rfl (.skip _ (.skip _ (.skip _ (.skip _ .all)))) rfl (fun a58 c58 ob58 hO58 => ?_))
     refine TF.back ?_; refine zm71 ?_; refine TF.loud ?_; refine zm266 ?_; refine TF.back (TF.nil ?_); refine zm188 ?_
     exact TX.round4 (k + 1) _ ob58 HA ⟨⟨by omega, by omega⟩, hO58.cast (by rw [map_take_snoc k0 hx])⟩ ⟨rfl, rfl, rfl, rfl, rfl, rfl, rfl, rfl, rfl, rfl, rfl, rfl, rfl, rfl, rfl, rfl, rfl, rfl, rfl, rfl, trivial⟩ (fun w hw => by have hw2 := hw.drop; rw [set_k] at hw2; rw [← List.set_set]; exact hw2) (by omega)
    ·
     refine zm84 ?_
     refine TL.pubO hO (.skip _ (.skip _ (.skip _ .all))) (by simp) (fun HJ leJ hJ => ?_)
     replace hleA := hleA.trans leJ
     replace hQ := hQ.le leJ
     have hJ2 := hJ.cast (show _ = q.params.map (·.name) by rw [take_all c44 k0])
     refine zm10 ?_
     refine TC.loop4 (V := fun (p : SnIx) v ob H1 => [(8, .int .i64 p.1)]) (K := [(2, _), (3, _), (4, _), (5, _), (6, _), (7, _), (24, _), (25, _), (26, _), (27, _), (28, _), (31, _), (32, _), (33, _), (34, _), (35, _), (36, _), (37, _), (38, _), (39, _), (40, _), (41, _), (42, _), (43, _), (44, _)]) (L := fun (p : SnIx) v ob H1 => St [] w0 H H1 ((b39, p.2.1) :: (b5, q.cells) :: (b3, pg.cells) :: [])) (I := fun (p : SnIx) v ob H1 => (0 ≤ p.1 ∧ p.1 ≤ q.steps.length) ∧ HJ.le H1 ∧ BRow H1 p.2.1 p.2.2 ∧ p.2.2.length = q.steps.length ∧ senseF pg ip q = senseGo pg q ip (q.steps.drop p.1.toNat) p.1 p.2.2) (μ := fun (p : SnIx) => (q.steps.length - p.1).toNat) ((0 : Int), (List.replicate q.steps.length nilV).set 0 _, bound0 q) .nilFunc [] HJ ⟨rfl, rfl, rfl, rfl, rfl, rfl, rfl, rfl, rfl, rfl, rfl, rfl, rfl, rfl, rfl, rfl, rfl, rfl, rfl, rfl, rfl, rfl, rfl, rfl, rfl, rfl, trivial⟩ ⟨⟨by omega, by omega⟩, Hp.le.refl _, brow0 hJ2 hpl, bound0_len q, rfl⟩ (fun w hw => hw) (fun p v ob H1 hI => ?_)
     obtain ⟨⟨k0, k1⟩, hle, hB, hbl, hS⟩ := hI
     obtain ⟨k, vs, b⟩ := p
     dsimp only at *
     replace hleA := hleA.trans hle
     replace hQ := hQ.le hle
     refine zm261 ?_; refine TL.run (pr_lenSl rfl rfl hQ.s) rfl ?_; refine zm2 ?_
     refine TC.condD rfl (fun c64 => ?_) (fun c64 => ?_)
     ·
      obtain ⟨s, hx⟩ := getSome (l := q.steps) k0 c64
      have hs := hQ.ss s (List.mem_of_getElem? hx)
      obtain ⟨hm0, hin⟩ := hsh k.toNat s hx
      have hsz := may_sizes hm0
      obtain ⟨vk, bk, hvk, hbk, hBk⟩ := hB.at_ (k := k) (by omega)
      have hvl := hB.1
      have hBk3 := hB.2.2 _ _ hbk
      have he0 := sn_good k0 hx hbk hS hS0
      have hrt := roots_terms hm0 (rooted_of hRO.m hx)
      refine zm15 ?_; refine zm89 ?_; refine zm228 ?_; refine TL.run (pr_elA hQ.s hx rfl rfl) rfl (TL.alloc rfl (fun b9 => ?_))
      refine zm26 ?_; refine zm34 ?_
      refine TL.callO (enters rfl rfl rfl rfl) (k_Roots_ok s hs hsz.2) rfl (fun v73 H73 ob73 hle73 hp73 => ?_)
      obtain ⟨eH73, hO73⟩ := hp73
      subst H73
      obtain ⟨a73, c73, rfl⟩ := hO73.form
      refine TL.pubO hO73 (.skip _ (.skip _ (.skip _ (.skip _ .all)))) (by simp) (fun HP73 leP73 hR73 => ?_)
      replace hQ := hQ.le leP73
      replace hle := hle.trans leP73
      replace hs := hs.le leP73
      replace hB := hB.le leP73
      replace hBk := hBk.le leP73
      have hR73m := hR73.max
      refine zm156 ?_
      refine TC.loop4 (V := fun j vR obR HR => [(11, .int .i64 j)]) (K := [(2, _), (3, _), (4, _), (5, _), (6, _), (7, _), (8, _), (9, _), (10, _), (24, _), (25, _), (26, _), (27, _), (28, _), (31, _), (32, _), (33, _), (34, _), (35, _), (36, _), (37, _), (38, _), (39, _), (40, _), (41, _), (42, _), (43, _), (44, _), (60, _), (61, _), (62, _), (63, _), (64, _), (67, _), (68, _), (69, _), (70, _), (71, _), (72, _), (73, _)]) (L := fun j vR obR HR => St [] w0 H HR ((b9, s.cells) :: (b39, vs) :: (b5, q.cells) :: (b3, pg.cells) :: [])) (I := fun j vR obR HR => (0 ≤ j ∧ j ≤ (rootsS s).length) ∧ HP73.le HR) (μ := fun j => ((rootsS s).length - j).toNat) (0 : Int) .nilFunc [] HP73 ⟨rfl, rfl, rfl, rfl, rfl, rfl, rfl, rfl, rfl, rfl, rfl, rfl, rfl, rfl, rfl, rfl, rfl, rfl, rfl, rfl, rfl, rfl, rfl, rfl, rfl, rfl, rfl, rfl, rfl, rfl, rfl, rfl, rfl, rfl, rfl, rfl, rfl, rfl, rfl, rfl, rfl, trivial⟩ ⟨⟨by omega, by omega⟩, Hp.le.refl _⟩ (fun w hw => hw) (fun j vR obR HR hI => ?_)
      obtain ⟨⟨j0, j1⟩, hleR⟩ := hI
      replace hQ := hQ.le hleR
      replace hle := hle.trans hleR
      replace hs := hs.le hleR
      replace hB := hB.le hleR
      replace hBk := hBk.le hleR
      replace hR73 := hR73.le hleR
      refine zm32 ?_; refine TL.run (pr_lenSl rfl rfl hR73) rfl ?_; refine zm2 ?_
      refine TC.condD rfl (fun c77 => ?_) (fun c77 => ?_)
      ·
       obtain ⟨r, hr⟩ := getSome (l := rootsS s) j0 c77
       refine zm162 ?_; refine TD.leaf [(0, 1), (1, 2), (2, 1), (3, 1), (4, 1), (5, 2), (6, 0), (7, 1)] (by kernel_rfl) (by kernel_rfl) ?_; refine zm3 ?_; refine zm165 ?_; refine zm72 ?_
       refine TF.pure (pr_indexSl rfl hR73 rfl (by omega) (by omega)) rfl (TF.still (pr_el0 hR73 hr rfl rfl) rfl (TF.loud (TL.call (enters rfl rfl rfl rfl) (Vars_ok r hQ.t hQ.tn) rfl (fun v86 H86 hle86 hp86 => ?_))))
       replace hBk := hBk.le hle86
       replace hleR := hleR.trans hle86
       have hV := hp86
       have hVm := hV.max
       obtain ⟨va86, vc86, rfl⟩ := hV.len
       refine TF.back ?_; refine zm201 ?_; refine zm94 ?_
       refine TC.loop (V := fun i => [(13, .int .i64 i)]) (K := [(2, _), (3, _), (4, _), (5, _), (6, _), (7, _), (8, _), (9, _), (10, _), (11, _), (12, _), (24, _), (25, _), (26, _), (27, _), (28, _), (31, _), (32, _), (33, _), (34, _), (35, _), (36, _), (37, _), (38, _), (39, _), (40, _), (41, _), (42, _), (43, _), (44, _), (60, _), (61, _), (62, _), (63, _), (64, _), (67, _), (68, _), (69, _), (70, _), (71, _), (72, _), (73, _), (74, _), (75, _), (76, _), (77, _), (80, _), (81, _), (82, _), (83, _), (84, _), (85, _), (86, _)]) (L := fun i => _) (I := fun i => 0 ≤ i ∧ i ≤ (varsS q.terms r).length) (μ := fun i => ((varsS q.terms r).length - i).toNat) (i := (0 : Int)) ⟨rfl, rfl, rfl, rfl, rfl, rfl, rfl, rfl, rfl, rfl, rfl, rfl, rfl, rfl, rfl, rfl, rfl, rfl, rfl, rfl, rfl, rfl, rfl, rfl, rfl, rfl, rfl, rfl, rfl, rfl, rfl, rfl, rfl, rfl, rfl, rfl, rfl, rfl, rfl, rfl, rfl, rfl, rfl, rfl, rfl, rfl, rfl, rfl, rfl, rfl, rfl, rfl, rfl, rfl, trivial⟩ ⟨by omega, by omega⟩ (fun w hw => hw) (fun i hI => ?_)
       obtain ⟨i0, i1⟩ := hI
       refine zm32 ?_; refine TL.run (pr_lenSl rfl rfl hV) rfl ?_; refine zm2 ?_
       refine TC.condD rfl (fun c90 => ?_) (fun c90 => ?_)
       ·
        obtain ⟨x, hxv⟩ := getSome (l := varsS q.terms r) i0 c90
        have hasx := st_asked he0 (hrt ▸ hr) hxv
        refine zm109 ?_; refine zm78 ?_; refine TQ.run (pr_index rfl rfl (by omega) (by omega)) rfl (TQ.run (pr_own1 rfl (.there _ (.here _)) (get_k hvk)) rfl ?_); refine zm78 ?_
        refine TQ.run (pr_indexSl rfl hV rfl (by omega) (by omega)) rfl (TQ.run (pr_el0 hV hxv rfl rfl) rfl (TQ.callS (enters rfl rfl rfl rfl) (n_Has_ok x hBk) rfl ?_)); refine zm79 ?_
        refine TC.cond rfl (fun c102 => ?_) (fun c102 => ?_)
        · exact absurd c102 (by rw [hasx]; decide)
        ·
         refine zm56 ?_
         exact TX.round (i + 1) ⟨by omega, by omega⟩ ⟨rfl, rfl, rfl, rfl, rfl, rfl, rfl, rfl, rfl, rfl, rfl, rfl, rfl, rfl, rfl, rfl, rfl, rfl, rfl, rfl, rfl, rfl, rfl, rfl, rfl, rfl, rfl, rfl, rfl, rfl, rfl, rfl, rfl, rfl, rfl, rfl, rfl, rfl, rfl, rfl, rfl, rfl, rfl, rfl, rfl, rfl, rfl, rfl, rfl, rfl, rfl, rfl, rfl, rfl, trivial⟩ (fun w hw => hw) (by omega)
       ·
        refine zm163 ?_
        exact TX.round4 (j + 1) .nilFunc [] H86 ⟨⟨by omega, by omega⟩, hleR⟩ ⟨rfl, rfl, rfl, rfl, rfl, rfl, rfl, rfl, rfl, rfl, rfl, rfl, rfl, rfl, rfl, rfl, rfl, rfl, rfl, rfl, rfl, rfl, rfl, rfl, rfl, rfl, rfl, rfl, rfl, rfl, rfl, rfl, rfl, rfl, rfl, rfl, rfl, rfl, rfl, rfl, rfl, trivial⟩ (fun w hw => hw) (by omega)
      ·
       refine zm38 ?_; refine zm24 ?_; refine zm21 ?_
       refine TL.run (pr_own1 rfl (.there _ (.here _)) (get_k hvk)) rfl (TL.append (enc := Str.cells) rfl rfl rfl (OwnSl.nil (enc := Str.cells)) (Src.sl hBk) (by simp; omega) rfl (.new _ rfl) rfl (fun a107 c107 ob107 hO107 => ?_))
       refine zm2 ?_
       refine TC.seq (TC.sw (decide (s.kind = 1) || decide (s.kind = 8)) 115 [(2, _), (3, _), (4, _), (5, _), (6, _), (7, _), (8, _), (9, _), (10, _), (11, _), (14, _), (24, _), (25, _), (26, _), (27, _), (28, _), (31, _), (32, _), (33, _), (34, _), (35, _), (36, _), (37, _), (38, _), (39, _), (40, _), (41, _), (42, _), (43, _), (44, _), (60, _), (61, _), (62, _), (63, _), (64, _), (67, _), (68, _), (69, _), (70, _), (71, _), (72, _), (73, _), (74, _), (75, _), (76, _), (77, _), (103, _), (104, _), (105, _), (106, _), (107, _)] ⟨rfl, rfl, rfl, rfl, rfl, rfl, rfl, rfl, rfl, rfl, rfl, rfl, rfl, rfl, rfl, rfl, rfl, rfl, rfl, rfl, rfl, rfl, rfl, rfl, rfl, rfl, rfl, rfl, rfl, rfl, rfl, rfl, rfl, rfl, rfl, rfl, rfl, rfl, rfl, rfl, rfl, rfl, rfl, rfl, rfl, rfl, rfl, rfl, rfl, rfl, rfl, trivial⟩ ?_ ?_)
       ·
        refine zm86 ?_; refine zm9 ?_
        refine TL.split (s := 111) rfl (fun g111 => ?_) (fun g111 => ?_)
        ·
         have q111 := of_decide_eq_true g111
         refine zm82 ?_
         exact zq2431
        ·
         have q111 := of_decide_eq_false g111
         refine zm13 ?_; refine zm8 ?_
         exact zq2431
       refine TC.cond rfl (fun c115 => ?_) (fun c115 => ?_)
       ·
        have h18 : s.kind = 1 ∨ s.kind = 8 := by simpa using c115
        have hnm := st_name he0 hm0 h18
        have hgo : goesB s.kind = true := by unfold goesB; rcases h18 with h | h <;> simp [h]
        have hwn := goes_ways hm0 hgo
        refine zm93 ?_
        refine TL.callSO hO107 (.skip _ (.skip _ (.skip _ (.skip _ .all)))) (by simp) (enters rfl rfl rfl rfl) (fun H2 le2 hR2 => n_Has_ok s.name hR2) rfl (fun H119 le119 => ?_)
        replace hle := hle.trans le119
        replace hs := hs.le le119
        replace hB := hB.le le119
        refine zm33 ?_
        refine TC.cond rfl (fun c119 => ?_) (fun c119 => ?_)
        · exact absurd c119 (by rw [List.nil_append, hnm.2]; decide)
        ·
         refine zm12 ?_; refine zm52 ?_
         refine TL.bslice rfl rfl rfl rfl (fun b123 => ?_)
         refine TL.append (enc := Str.cells) rfl rfl rfl hO107 (Src.own [s.name] (.here _) rfl rfl) (by simp; omega) rfl (.skip _ (.skip _ (.skip _ (.skip _ (.skip _ .all))))) rfl (fun a124 c124 ob124 hO124 => ?_)
         refine zm59 ?_
         have hBd := hO124
         refine TL.pubO hO124 (.skip _ (.skip _ (.skip _ (.skip _ (.skip _ .all))))) (by simp) (fun HPb lePb hPb => ?_)
         replace hle := hle.trans lePb
         replace hs := hs.le lePb
         replace hB := hB.le lePb
         clear hBd
         refine zm20 ?_; refine zm2 ?_
         refine TC.condD rfl (fun c127 => ?_) (fun c127 => ?_)
         ·
          replace c127 : 0 ≤ s.next := by simpa using c127
          have hnx := hin s.next (by unfold nextsS; rw [if_pos hgo]; simp)
          refine zm66 ?_; refine zm20 ?_; refine zm132 ?_; refine zm183 ?_; refine zm33 ?_; refine zm94 ?_
          refine TC.loop4 (V := fun (e : SnIx) v2 ob2 HW => [(15, .int .i64 e.1)]) (K := [(2, _), (3, _), (4, _), (5, _), (6, _), (7, _), (8, _), (9, _), (10, _), (11, _), (14, _), (24, _), (25, _), (26, _), (27, _), (28, _), (31, _), (32, _), (33, _), (34, _), (35, _), (36, _), (37, _), (38, _), (39, _), (40, _), (41, _), (42, _), (43, _), (44, _), (60, _), (61, _), (62, _), (63, _), (64, _), (67, _), (68, _), (69, _), (70, _), (71, _), (72, _), (73, _), (74, _), (75, _), (76, _), (77, _), (103, _), (104, _), (105, _), (106, _), (107, _), (115, _), (116, _), (117, _), (118, _), (119, _), (120, _), (121, _), (122, _), (123, _), (124, _), (125, _), (126, _), (127, _), (128, _), (129, _), (130, _), (131, _), (132, _)]) (L := fun (e : SnIx) v2 ob2 HW => St [] w0 H HW ((b9, s.cells) :: (b39, e.2.1) :: (b5, q.cells) :: (b3, pg.cells) :: [])) (I := fun (e : SnIx) v2 ob2 HW => (0 ≤ e.1 ∧ e.1 ≤ (s.ways).length) ∧ HPb.le HW ∧ BRow HW e.2.1 e.2.2 ∧ e.2.2.length = q.steps.length ∧ boundGo k (nextsS s) (bindsS s) b = boundGo k ((s.ways.map (·.next)).drop e.1.toNat) ((s.ways.map (·.name)).drop e.1.toNat) e.2.2 ∧ (e.1 < (s.ways).length → e.2.2[k.toNat]? = some bk)) (μ := fun (e : SnIx) => ((s.ways).length - e.1).toNat) ((0 : Int), vs.set s.next.toNat _, (b.set s.next.toNat (bk ++ [s.name]))) .nilFunc [] HPb ⟨rfl, rfl, rfl, rfl, rfl, rfl, rfl, rfl, rfl, rfl, rfl, rfl, rfl, rfl, rfl, rfl, rfl, rfl, rfl, rfl, rfl, rfl, rfl, rfl, rfl, rfl, rfl, rfl, rfl, rfl, rfl, rfl, rfl, rfl, rfl, rfl, rfl, rfl, rfl, rfl, rfl, rfl, rfl, rfl, rfl, rfl, rfl, rfl, rfl, rfl, rfl, rfl, rfl, rfl, rfl, rfl, rfl, rfl, rfl, rfl, rfl, rfl, rfl, rfl, rfl, rfl, rfl, rfl, rfl, rfl, trivial⟩ ⟨⟨by omega, by omega⟩, Hp.le.refl _, hB.set hPb (by first | omega | (simp; omega)), by rw [List.length_set]; exact hbl, by rw [goes_bound hm0 hgo hbk (N := (bk ++ [s.name])) (by rw [if_pos h18]) (fun _ => hnm.1), hwn]; rfl, fun h => absurd h (by rw [hwn]; simp)⟩ (fun w hw => by have hw2 := hw.drop; simp only [set_k] at hw2; exact hw2) (fun e v2 ob2 HW hI => ?_)
          exact zq2434
         ·
          replace c127 : ¬ 0 ≤ s.next := by simpa using c127
          have hnx := hin s.next (by unfold nextsS; rw [if_pos hgo]; simp)
          refine zm12 ?_; refine zm94 ?_
          exact absurd hnx.1 (by omega)
       ·
        have h18 : ¬ (s.kind = 1 ∨ s.kind = 8) := by simpa using c115
        refine zm12 ?_; refine zm88 ?_
        have hBd := hO107
        refine TL.pubO hO107 (.skip _ (.skip _ (.skip _ (.skip _ .all)))) (by simp) (fun HPb lePb hPb => ?_)
        replace hle := hle.trans lePb
        replace hs := hs.le lePb
        replace hB := hB.le lePb
        clear hBd
        refine zm51 ?_; refine zm2 ?_
        refine TC.condD rfl (fun c127 => ?_) (fun c127 => ?_)
        ·
         replace c127 : 0 ≤ s.next := by simpa using c127
         have hgo : goesB s.kind = true := by
          cases hg : goesB s.kind with
          | true => rfl
          | false => have := ngoes_next hm0 hg; omega
         have hwn := goes_ways hm0 hgo
         have hnx := hin s.next (by unfold nextsS; rw [if_pos hgo]; simp)
         refine zm52 ?_; refine zm132 ?_; refine zm266 ?_; refine zm33 ?_; refine zm94 ?_
         refine TC.loop4 (V := fun (e : SnIx) v2 ob2 HW => [(15, .int .i64 e.1)]) (K := [(2, _), (3, _), (4, _), (5, _), (6, _), (7, _), (8, _), (9, _), (10, _), (11, _), (14, _), (24, _), (25, _), (26, _), (27, _), (28, _), (31, _), (32, _), (33, _), (34, _), (35, _), (36, _), (37, _), (38, _), (39, _), (40, _), (41, _), (42, _), (43, _), (44, _), (60, _), (61, _), (62, _), (63, _), (64, _), (67, _), (68, _), (69, _), (70, _), (71, _), (72, _), (73, _), (74, _), (75, _), (76, _), (77, _), (103, _), (104, _), (105, _), (106, _), (107, _), (115, _), (125, _), (126, _), (127, _), (128, _), (129, _), (130, _), (131, _), (132, _)]) (L := fun (e : SnIx) v2 ob2 HW => St [] w0 H HW ((b9, s.cells) :: (b39, e.2.1) :: (b5, q.cells) :: (b3, pg.cells) :: [])) (I := fun (e : SnIx) v2 ob2 HW => (0 ≤ e.1 ∧ e.1 ≤ (s.ways).length) ∧ HPb.le HW ∧ BRow HW e.2.1 e.2.2 ∧ e.2.2.length = q.steps.length ∧ boundGo k (nextsS s) (bindsS s) b = boundGo k ((s.ways.map (·.next)).drop e.1.toNat) ((s.ways.map (·.name)).drop e.1.toNat) e.2.2 ∧ (e.1 < (s.ways).length → e.2.2[k.toNat]? = some bk)) (μ := fun (e : SnIx) => ((s.ways).length - e.1).toNat) ((0 : Int), vs.set s.next.toNat _, (b.set s.next.toNat bk)) .nilFunc [] HPb ⟨rfl, rfl, rfl, rfl, rfl, rfl, rfl, rfl, rfl, rfl, rfl, rfl, rfl, rfl, rfl, rfl, rfl, rfl, rfl, rfl, rfl, rfl, rfl, rfl, rfl, rfl, rfl, rfl, rfl, rfl, rfl, rfl, rfl, rfl, rfl, rfl, rfl, rfl, rfl, rfl, rfl, rfl, rfl, rfl, rfl, rfl, rfl, rfl, rfl, rfl, rfl, rfl, rfl, rfl, rfl, rfl, rfl, rfl, rfl, rfl, rfl, trivial⟩ ⟨⟨by omega, by omega⟩, Hp.le.refl _, hB.set hPb (by first | omega | (simp; omega)), by rw [List.length_set]; exact hbl, by rw [goes_bound hm0 hgo hbk (N := bk) (by rw [if_neg h18]) (fun h => absurd h h18), hwn]; rfl, fun h => absurd h (by rw [hwn]; simp)⟩ (fun w hw => by have hw2 := hw; simp only [set_k] at hw2; exact hw2) (fun e v2 ob2 HW hI => ?_)
         exact zq2434
        ·
         replace c127 : ¬ 0 ≤ s.next := by simpa using c127
         have hgo : goesB s.kind = false := by
          cases hg : goesB s.kind with
          | false => rfl
          | true => have := hin s.next (by unfold nextsS; rw [if_pos hg]; simp); omega
         refine zm12 ?_; refine zm94 ?_
         refine TC.loop4 (V := fun (e : SnIx) v2 ob2 HW => [(15, .int .i64 e.1)]) (K := [(2, _), (3, _), (4, _), (5, _), (6, _), (7, _), (8, _), (9, _), (10, _), (11, _), (14, _), (24, _), (25, _), (26, _), (27, _), (28, _), (31, _), (32, _), (33, _), (34, _), (35, _), (36, _), (37, _), (38, _), (39, _), (40, _), (41, _), (42, _), (43, _), (44, _), (60, _), (61, _), (62, _), (63, _), (64, _), (67, _), (68, _), (69, _), (70, _), (71, _), (72, _), (73, _), (74, _), (75, _), (76, _), (77, _), (103, _), (104, _), (105, _), (106, _), (107, _), (115, _), (125, _), (126, _), (127, _)]) (L := fun (e : SnIx) v2 ob2 HW => St [] w0 H HW ((b9, s.cells) :: (b39, e.2.1) :: (b5, q.cells) :: (b3, pg.cells) :: [])) (I := fun (e : SnIx) v2 ob2 HW => (0 ≤ e.1 ∧ e.1 ≤ (s.ways).length) ∧ HPb.le HW ∧ BRow HW e.2.1 e.2.2 ∧ e.2.2.length = q.steps.length ∧ boundGo k (nextsS s) (bindsS s) b = boundGo k ((s.ways.map (·.next)).drop e.1.toNat) ((s.ways.map (·.name)).drop e.1.toNat) e.2.2 ∧ (e.1 < (s.ways).length → e.2.2[k.toNat]? = some bk)) (μ := fun (e : SnIx) => ((s.ways).length - e.1).toNat) ((0 : Int), vs, b) .nilFunc [] HPb ⟨rfl, rfl, rfl, rfl, rfl, rfl, rfl, rfl, rfl, rfl, rfl, rfl, rfl, rfl, rfl, rfl, rfl, rfl, rfl, rfl, rfl, rfl, rfl, rfl, rfl, rfl, rfl, rfl, rfl, rfl, rfl, rfl, rfl, rfl, rfl, rfl, rfl, rfl, rfl, rfl, rfl, rfl, rfl, rfl, rfl, rfl, rfl, rfl, rfl, rfl, rfl, rfl, rfl, rfl, rfl, rfl, trivial⟩ ⟨⟨by omega, by omega⟩, Hp.le.refl _, hB, hbl, by rw [ngoes_nexts hgo, ngoes_binds hm0 hgo]; rfl, fun _ => hbk⟩ (fun w hw => hw) (fun e v2 ob2 HW hI => ?_)
         obtain ⟨⟨e0, e1⟩, hleW, hBW, hblW, hGW, hbkW0⟩ := hI
         have hvlW := hBW.1
         have hbkm := hBk3
         replace hle := hle.trans hleW
         replace hs := hs.le hleW
         replace hPb := hPb.le hleW
         refine zm93 ?_; refine TL.run (pr_lenSl rfl rfl hs.w) rfl ?_; refine zm2 ?_
         refine TC.condD rfl (fun c137 => ?_) (fun c137 => ?_)
         ·
          obtain ⟨w, hw⟩ := getSome (l := s.ways) e0 c137
          have hbkW := hbkW0 c137
          have hgo2 : goesB s.kind = false := by cases hg : goesB s.kind with | false => rfl | true => have := goes_ways hm0 hg; rw [this] at hw; simp at hw
          have hwb := hin w.next (by rw [ngoes_nexts hgo2]; exact List.mem_map.2 ⟨w, List.mem_of_getElem? hw, rfl⟩)
          refine zm162 ?_
          refine TD.part 2 8 rfl rfl rfl ?_ ?_
          ·
           refine TD.part 6 8 rfl rfl rfl ?_ ?_
           ·
            refine zm478 ?_; refine zm47 ?_; refine zm42 ?_; refine zm5 ?_; refine zm80 ?_; refine zm3 ?_; refine zm95 ?_; refine zm5 ?_
            refine TF.loud (TL.append (enc := Str.cells) rfl rfl rfl (OwnSl.nil (enc := Str.cells)) (Src.sl hPb) (by simp; omega) rfl (.new _ rfl) rfl (fun a148 c148 ob148 hO148 => ?_))
            exact TF.back (zq2466)
           ·
            refine zm479 ?_; refine zm47 ?_; refine zm42 ?_; refine zm5 ?_; refine zm80 ?_; refine zm3 ?_; refine zm5 ?_
            refine TF.loud (TL.append (enc := Str.cells) rfl rfl rfl (OwnSl.nil (enc := Str.cells)) (Src.sl hPb) (by simp; omega) rfl (.new _ rfl) rfl (fun a148 c148 ob148 hO148 => ?_))
            exact TF.back (zq2612)
          ·
           refine zm480 ?_; refine zm47 ?_; refine zm72 ?_; refine TF.loud (TL.append (enc := Str.cells) rfl rfl rfl (OwnSl.nil (enc := Str.cells)) (Src.sl hPb) (by simp; omega) rfl (.new _ rfl) rfl (fun a148 c148 ob148 hO148 => ?_))
           refine TF.back ?_; refine zm42 ?_; refine zm80 ?_; refine zm3 ?_
           exact zq2612
         · exact zq2453
     ·
      refine zm163 ?_
      exact TX.round4 (ip + 1) .nilFunc [] H1 ⟨⟨by omega, by omega⟩, hleA⟩ ⟨rfl, rfl, rfl, trivial⟩ (fun w hw => hw.drop.drop) (by omega)
   ·
    refine zm65 ?_
    exact TX.fin0 (.inr rfl) (results1 rfl (RVal.tmp rfl)) rfl
end Go.Sx
namespace Go.Proofs.YtjnlogbbcceaoaaGreat.ScopeNamesUpto
open Go Go.Sx Go.ChangeShapes Go.WideShapes Go.ChangeAt Go.RowKit
theorem own : ownKnob Tryz.prog.godebug = none := by kernel_rfl
theorem laidOut : laidOutB Tryz.prog = true := by kernel_rfl
theorem hread : ∀ t ∈ Tryz.f8.params.toList, Tryz.prog.readableRec t = true ∧ t < Tryz.prog.types.size := by
  intro t ht
  have := List.all_eq_true.1 (show (Tryz.f8.params.toList.all fun t => Tryz.prog.readableRec t && decide (t < Tryz.prog.types.size)) = true by kernel_rfl) t ht
  simp only [Bool.and_eq_true, decide_eq_true_eq] at this
  exact this
theorem contract (H : Type) (enc : TypeId × Value → H) (W : World) (base : Nat) (args : Array Value) (ds gs0 : List (DataW H)) (before : List MemPlace)
    (hval0 : ∀ (j : Nat) t v, Tryz.f8.params[j]? = some t → args[j]? = some v → Value.okWide Tryz.prog W .any base t v)
    (hW : DataW.Whole enc Tryz.prog Tryz.f8.params.toList Rows.scopeNamesSpec.vars false W args.toList ds gs0 before) (hsh : W.ShapedOpen Tryz.prog) (hk : Rows.uptoSmall H (ds ++ gs0) = true) :
    Calls Tryz.prog 8 args W fun e W' => ∃ v, e = .returned v ∧ Rows.scopeNamesSpec.post enc Tryz.prog Tryz.f8 false true false false W args v W' := by
  have hMx : MaxG (hpOf W) := Go.Proofs.cell_of_shapedOpen_int (zero := #[.int .i64 0]) (t := 3) hsh (of_decide_eq_true (by kernel_rfl)) (by kernel_rfl) rfl (by kernel_rfl) (by kernel_rfl) Tryz.underlying3
  have hval : ∀ (j : Nat) t v, Tryz.f8.params[j]? = some t → args[j]? = some v → Value.okWide Tryz.prog W .any base t v := hval0
  have hW' := hW
  obtain ⟨p, q, hA0, hV, hpq, hfz, hnd⟩ := hW
  have hA : DataW.TrodAll enc Tryz.prog W 0 (fun _ => true) true Tryz.f8.params.toList args.toList ds p := hA0
  rw [Tryz.params8] at hA hval
  obtain ⟨v0, vs0, d0, ds0, p0, q0, hargs, rfl, rfl, h0, r0⟩ := trodAll_cons hA
  obtain ⟨rfl, rfl, rfl⟩ := trodAll_nil r0
  obtain rfl : args = #[v0] := by cases args; simp_all
  obtain ⟨rfl, rfl⟩ := trodVars_none hV
  obtain ⟨a_l, len_l, cap_l, ev_l⟩ := okWide_slice Tryz.underlying22 (hval 0 22 v0 rfl rfl)
  obtain ⟨⟨u_l, l⟩, e_l, R_l, K_l⟩ := (opensB_slice Tryz.underlying22 (k := 1) (by kernel_rfl) (by decide) (opensB_of (opens_I64 Tryz.underlying3))).one h0 (bulk_of (i := 0) hk rfl)
  obtain rfl : v0 = .slice u_l.1 l.length u_l.2 := by rw [ev_l] at e_l ⊢; simpa [Value.cells] using e_l
  simp only at R_l K_l
  refine (Fn.callsT (W := W) (ScopeNames_ok R_l (Nat.le_trans K_l.1 (by decide)) hMx)).mono ?_
  rintro e W1 ⟨rfl, hB⟩
  have done : Rows.scopeNamesSpec.post enc Tryz.prog Tryz.f8 false true false false W #[.slice u_l.1 l.length u_l.2] (.bool true) W1 := law_done (P := Tryz.prog) (tb := 4) hW' rfl rfl rfl rfl (by kernel_rfl) (by kernel_rfl) laidOut hread hB
  exact ⟨_, rfl, done⟩
noncomputable def laidWorld (os : Os) : World := World.holding Tryz.prog os ⟨#[], #[], []⟩
theorem laid_met (os : Os) : laidMet Tryz.prog Rows.scopeNamesUptoRow.laid ((laidWorld os).forCall (fun _ _ => 0) ⟨#[], #[.slice none 0 0], []⟩).memory :=
  laidMet_of_run' 8 (by kernel_rfl) (by kernel_rfl)
theorem reads (os : Os) {H : Type} (enc : TypeId × Value → H) : ∃ places, DataW.whole enc Tryz.prog ((laidWorld os).forCall (fun _ _ => 0) ⟨#[], #[.slice none 0 0], []⟩).memory Tryz.f8.params.toList Rows.scopeNamesSpec.vars false #[(.slice none 0 0 : Value)].toList 8 = some ([.nil], [], places) :=
  ⟨[], by kernel_rfl⟩
theorem lifted (os : Os) (started : os.Started) (H : Type) (enc : TypeId × Value → H) (F : Stop.Interp) :
    ReturnsInHanded {} Tryz.checked os 8 .any ((Rows.OpenSpec.upto Rows.scopeNamesSpec).preRow enc Tryz.prog Tryz.f8 Rows.scopeNamesUptoRow.domain false Rows.scopeNamesUptoRow.laid) (((Rows.OpenSpec.upto Rows.scopeNamesSpec).at F).post enc Tryz.prog Tryz.f8 false true false false) := by
  obtain ⟨places, hx⟩ := reads os enc
  refine returnsInHanded_of_row (C := Tryz.checked) (s := (Rows.OpenSpec.upto Rows.scopeNamesSpec)) own started (by kernel_rfl) Tryz.func8
    (witness_row_at (enc := enc) (C := Tryz.checked) false (laidWorld os) #[.slice none 0 0] rfl (by kernel_rfl) (by kernel_rfl) (by kernel_rfl)
      (OpenSpec.preRow_of_cond 8 hx (by kernel_rfl) (fun k hk => by cases hk; kernel_rfl) (by kernel_rfl) (laid_met os))) ?_
  intro W base args ds gs before hval hW _ hcond _ _ hsh _
  exact contract H enc W base args ds gs before hval hW hsh (hcond _ rfl)
theorem holds : Rows.ScopeNamesUptoSaid :=
  OpenClaim.holds_of_cond 8 Tryz.f8 rfl rfl rfl rfl rfl rfl rfl ⟨rfl, rfl, rfl, rfl, rfl⟩ rfl rfl rfl rfl rfl (by kernel_rfl) Tryz.func8 (by kernel_rfl)
    (of_decide_eq_true (by kernel_rfl)) (by unfold Func.isWrapper; first | (rw [if_pos (by decide +kernel)]; kernel_rfl) | (rw [if_neg (by decide +kernel)]; exact ⟨rfl, rfl⟩))
    (fun os started H enc _ F => by rw [OpenClaim.pre_eq_preRow]; exact lifted os started H enc F)
end Go.Proofs.YtjnlogbbcceaoaaGreat.ScopeNamesUpto
