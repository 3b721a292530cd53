import Derived.ProofKit
import Derived.KernelRfl
set_option linter.all false
namespace Go.Sx
structure Hk (b : Prop) : Prop where
  ok : b
variable {a b : Prop}
theorem ky (h : a := by repeat (first | exact trivial | refine ⟨rfl,?_⟩)) : a := h
theorem zm0 (k:b) (h:Hk b→a:=by intro zz; refine TL.run (ah rfl) rfl ?_; exact zz.ok):a:=h ⟨k⟩
theorem zm4 (k:b) (h:Hk b→a:=by intro zz; refine az (cP rfl) rfl ?_; exact zz.ok):a:=h ⟨k⟩
theorem zm5 (k:b) (h:Hk b→a:=by intro zz; refine az (ah rfl) rfl ?_; exact zz.ok):a:=h ⟨k⟩
theorem zm7 (k:b) (h:Hk b→a:=by intro zz; refine TL.run (cP rfl) rfl ?_; exact zz.ok):a:=h ⟨k⟩
theorem cI (k:b) (h:Hk b→a:=by intro zz; refine bi rfl rfl rfl rfl ?_; exact zz.ok):a:=h ⟨k⟩
theorem cN (k:b) (h:Hk b→a:=by intro zz; refine aw rfl rfl (ah rfl) rfl ?_; exact zz.ok):a:=h ⟨k⟩
theorem dy (k:b) (h:Hk b→a:=by intro zz; refine TL.run (lZ rfl rfl) rfl ?_; exact zz.ok):a:=h ⟨k⟩
theorem dZ (k:b) (h:Hk b→a:=by intro zz; refine az (lZ rfl rfl) rfl ?_; exact zz.ok):a:=h ⟨k⟩
theorem eP (k:b) (h:Hk b→a:=by intro zz; refine TC.drawn (by kernel_rfl) (by kernel_rfl) ?_; exact zz.ok):a:=h ⟨k⟩
theorem fS (k:b) (h:Hk b→a:=by intro zz; refine TL.run (dT rfl rfl (by omega) (by omega)) rfl ?_; exact zz.ok):a:=h ⟨k⟩
theorem f2 (k:b) (h:Hk b→a:=by intro zz; refine TL.run (bu rfl (.here _) rfl) rfl ?_; exact zz.ok):a:=h ⟨k⟩
theorem gt (k:b) (h:Hk b→a:=by intro zz; refine TQ.run (cP rfl) rfl ?_; exact zz.ok):a:=h ⟨k⟩
theorem iT (k:b) (h:Hk b→a:=by intro zz; refine bC rfl rfl (cP rfl) rfl ?_; exact zz.ok):a:=h ⟨k⟩
theorem jn (k:b) (h:Hk b→a:=by intro zz; refine aw rfl rfl (cP rfl) rfl ?_; exact zz.ok):a:=h ⟨k⟩
theorem k9 (k:b) (h:Hk b→a:=by intro zz; refine TL.run (bu rfl (.there _ (.here _)) rfl) rfl ?_; exact zz.ok):a:=h ⟨k⟩
theorem k7 (k:b) (h:Hk b→a:=by intro zz; refine TL.run (aD rfl (.here _) rfl) rfl ?_; exact zz.ok):a:=h ⟨k⟩
theorem kJ (k:b) (h:Hk b→a:=by intro zz; refine TL.run ((by first | exact dc rfl rfl (by omega) (by omega) | exact ah rfl)) rfl ?_; exact zz.ok):a:=h ⟨k⟩
theorem mB (k:b) (h:Hk b→a:=by intro zz; refine aw rfl rfl (bV rfl rfl rfl) rfl ?_; exact zz.ok):a:=h ⟨k⟩
theorem mz (k:b) (h:Hk b→a:=by intro zz; refine bz rfl rfl rfl (.there _ (.here _)) rfl rfl ?_; exact zz.ok):a:=h ⟨k⟩
theorem oZ (k:b) (h:Hk b→a:=by intro zz; refine TL.run (aD rfl (.there _ (.here _)) rfl) rfl ?_; exact zz.ok):a:=h ⟨k⟩
theorem kv (k:b) (h:Hk b→a:=by intro zz; refine TL.run (aD rfl (.there _ (.there _ (.there _ (.here _)))) rfl) rfl ?_; exact zz.ok):a:=h ⟨k⟩
theorem ku (k:b) (h:Hk b→a:=by intro zz; refine a7 (bu rfl (.here _) rfl) rfl ?_; exact zz.ok):a:=h ⟨k⟩
theorem fN (k:b) (h:Hk b→a:=by intro zz; refine cF rfl rfl rfl rfl rfl (.here _) rfl rfl ?_; exact zz.ok):a:=h ⟨k⟩
theorem lE (k:b) (h:Hk b→a:=by intro zz; refine a7 (aD rfl (.there _ (.there _ (.here _))) rfl) rfl ?_; exact zz.ok):a:=h ⟨k⟩
theorem lB (k:b) (h:Hk b→a:=by intro zz; refine bz rfl rfl rfl (.there _ (.there _ (.there _ (.here _)))) rfl rfl ?_; exact zz.ok):a:=h ⟨k⟩
theorem nL (k:b) (h:Hk b→a:=by intro zz; refine TL.run (af rfl hL rfl (by omega) (by omega)) rfl ?_; exact zz.ok):a:=h ⟨k⟩
theorem nI (k:b) (h:Hk b→a:=by intro zz; refine az (cv rfl rfl hOc (by omega) (by omega)) rfl ?_; exact zz.ok):a:=h ⟨k⟩
theorem pP (k:b) (h:Hk b→a:=by intro zz; refine TL.run ((by first | exact gi rfl rfl (by omega) (by omega) | exact ah rfl)) rfl ?_; exact zz.ok):a:=h ⟨k⟩
theorem ju (k:b) (h:Hk b→a:=by intro zz; refine bz rfl rfl rfl (.here _) rfl rfl ?_; exact zz.ok):a:=h ⟨k⟩
theorem nB (k:b) (h:Hk b→a:=by intro zz; refine gc (.there _ (.there _ (.here _))) ?_; exact zz.ok):a:=h ⟨k⟩
theorem nu (k:b) (h:Hk b→a:=by intro zz; refine au (S0 (S1 (S1 (S1 (S1 (S1 SN)))))) (Hp.le.refl _) ?_; exact zz.ok):a:=h ⟨k⟩
theorem nt (k:b) (h:Hk b→a:=by intro zz; refine a7 (aD rfl (.here _) rfl) rfl ?_; exact zz.ok):a:=h ⟨k⟩
theorem no (k:b) (h:Hk b→a:=by intro zz; refine TL.run (aD rfl (.there _ (.there _ (.here _))) rfl) rfl ?_; exact zz.ok):a:=h ⟨k⟩
theorem px (k:b) (h:Hk b→a:=by intro zz; refine TL.run (aD rfl (.there _ (.there _ (.there _ (.there _ (.there _ (.here _)))))) rfl) rfl ?_; exact zz.ok):a:=h ⟨k⟩
theorem pu (k:b) (h:Hk b→a:=by intro zz; refine TL.run (aD rfl (.there _ (.there _ (.there _ (.there _ (.there _ (.there _ (.there _ (.here _)))))))) rfl) rfl ?_; exact zz.ok):a:=h ⟨k⟩
theorem sG (k:b) (h:Hk b→a:=by intro zz; refine cC (ah rfl) rfl rfl ⟨rfl, rfl, trivial⟩ ?_; exact zz.ok):a:=h ⟨k⟩
theorem sx (k:b) (h:Hk b→a:=by intro zz; refine az (cv rfl rfl hOw (by omega) (by omega)) rfl ?_; exact zz.ok):a:=h ⟨k⟩
theorem su (k:b) (h:Hk b→a:=by intro zz; refine az (dT rfl rfl (by omega) (by omega)) rfl ?_; exact zz.ok):a:=h ⟨k⟩
theorem lj (k:b) (h:Hk b→a:=by intro zz; refine az (af rfl hrs rfl (by omega) (by omega)) rfl ?_; exact zz.ok):a:=h ⟨k⟩
theorem sh (k:b) (h:Hk b→a:=by intro zz; refine aH (S1 (S1 (S1 (S1 (S1 SN))))) (Hp.le.refl _) (fun _ _ => aM hrs rfl rfl rfl) rfl ?_; exact zz.ok):a:=h ⟨k⟩
theorem rZ (k:b) (h:Hk b→a:=by intro zz; refine aH (S1 (S1 SN)) (Hp.le.refl _) (fun _ _ => aD rfl (.there _ (.here _)) rfl) rfl ?_; exact zz.ok):a:=h ⟨k⟩
theorem rY (k:b) (h:Hk b→a:=by intro zz; refine a7 (aD rfl (.there _ (.there _ (.there _ (.here _)))) rfl) rfl ?_; exact zz.ok):a:=h ⟨k⟩
theorem rW (k:b) (h:Hk b→a:=by intro zz; refine au (S0 (S1 (S1 (S1 (S1 SN))))) (Hp.le.refl _) ?_; exact zz.ok):a:=h ⟨k⟩
theorem rU (k:b) (h:Hk b→a:=by intro zz; refine a7 (bu rfl (.there _ (.here _)) rfl) rfl ?_; exact zz.ok):a:=h ⟨k⟩
theorem vK (k:b) (h:Hk b→a:=by intro zz; refine TL.run (af rfl hQ.s rfl (by omega) (by omega)) rfl ?_; exact zz.ok):a:=h ⟨k⟩
theorem vu (k:b) (h:Hk b→a:=by intro zz; refine az ((by first | exact dc rfl rfl (by omega) (by omega) | exact ah rfl)) rfl ?_; exact zz.ok):a:=h ⟨k⟩
theorem vt (k:b) (h:Hk b→a:=by intro zz; refine TL.run (tw rfl rfl (by omega) (by omega)) rfl ?_; exact zz.ok):a:=h ⟨k⟩
theorem vq (k:b) (h:Hk b→a:=by intro zz; refine bz rfl rfl rfl (.there _ (.there _ (.there _ (.there _ (.there _ (.here _)))))) rfl rfl ?_; exact zz.ok):a:=h ⟨k⟩
theorem vp (k:b) (h:Hk b→a:=by intro zz; refine gc (.there _ (.there _ (.there _ (.there _ (.here _))))) ?_; exact zz.ok):a:=h ⟨k⟩
theorem vo (k:b) (h:Hk b→a:=by intro zz; refine az (af rfl hro rfl (by omega) (by omega)) rfl ?_; exact zz.ok):a:=h ⟨k⟩
theorem vg (k:b) (h:Hk b→a:=by intro zz; refine aH (S1 SN) (Hp.le.refl _) (fun _ _ => aD rfl (.here _) rfl) rfl ?_; exact zz.ok):a:=h ⟨k⟩
theorem rP (k:b) (h:Hk b→a:=by intro zz; refine cF rfl rfl rfl rfl rfl (.there _ (.here _)) rfl rfl ?_; exact zz.ok):a:=h ⟨k⟩
theorem zm290 (k:b) (h:Hk b→a:=by intro zz; refine aw rfl rfl ((by first | exact dc rfl rfl (by omega) (by omega) | exact ah rfl)) rfl ?_; exact zz.ok):a:=h ⟨k⟩
theorem y2 (k:b) (h:Hk b→a:=by intro zz; refine bZ [(0, 2), (1, 2), (2, 1), (3, 1), (4, 1), (5, 2), (6, 0)] (by kernel_rfl) (by kernel_rfl) ?_; exact zz.ok):a:=h ⟨k⟩
theorem y1 (k:b) (h:Hk b→a:=by intro zz; refine aw rfl rfl (af rfl hw rfl (by omega) (by omega)) rfl ?_; exact zz.ok):a:=h ⟨k⟩
theorem y0 (k:b) (h:Hk b→a:=by intro zz; refine a7 (dO rfl hOc (.skip _ (.skip _ (.skip _ (.skip _ (.skip _ (.past _ (.past _ .all))))))) hcC rfl) rfl ?_; exact zz.ok):a:=h ⟨k⟩
theorem yZ (k:b) (h:Hk b→a:=by intro zz; refine aT (L' := (b46, _) :: ((b3, _) :: (ob2 ++ ((b14, _) :: ((b30, _) :: ((b2, _) :: (obS ++ (oc)))))))) (ei [[(b14, _)], [(b46, _)], [(b3, _)], [(b30, _)], [(b2, _)], ob2, obS, oc] [1, 2, 5, 0, 3, 4, 6, 7] rfl) ?_; exact zz.ok):a:=h ⟨k⟩
theorem yY (k:b) (h:Hk b→a:=by intro zz; refine aT (L' := (b46, _) :: ((b3, _) :: (ob94 ++ ((b14, _) :: ((b30, _) :: ((b2, _) :: (obS ++ (oc)))))))) (List.Perm.refl _) ?_; exact zz.ok):a:=h ⟨k⟩
theorem yX (k:b) (h:Hk b→a:=by intro zz; refine aT (L' := (b14, _) :: ((b46, _) :: ((b3, _) :: ((b30, _) :: ((b2, _) :: (ob94 ++ (obS ++ (oc)))))))) (ei [[(b46, _)], [(b3, _)], ob94, [(b14, _)], [(b30, _)], [(b2, _)], obS, oc] [3, 0, 1, 4, 5, 2, 6, 7] rfl) ?_; exact zz.ok):a:=h ⟨k⟩
theorem yW (k:b) (h:Hk b→a:=by intro zz; refine aT (L' := (b14, _) :: ((b46, _) :: ((b3, _) :: ((b30, _) :: ((b2, _) :: (ob2 ++ (obS))))))) (Aw [(b14, _), (b46, _), (b3, _), (b30, _), (b2, _)] (A := ob2) (B := obS)) ?_; exact zz.ok):a:=h ⟨k⟩
theorem yV (k:b) (h:Hk b→a:=by intro zz; refine bz rfl rfl rfl (.there _ (.there _ (.here _))) (by simp; omega) rfl ?_; exact zz.ok):a:=h ⟨k⟩
theorem yU (k:b) (h:Hk b→a:=by intro zz; refine aH (S1 (S1 (S1 (S1 SN)))) (Hp.le.refl _) (fun _ _ => bu rfl (.here _) rfl) rfl ?_; exact zz.ok):a:=h ⟨k⟩
theorem yT (k:b) (h:Hk b→a:=by intro zz; refine aH (S1 (S1 (S1 (S1 (S1 (S1 (S1 SN))))))) (Hp.le.refl _) (fun _ _ => aM hrs rfl rfl rfl) rfl ?_; exact zz.ok):a:=h ⟨k⟩
theorem yS (k:b) (h:Hk b→a:=by intro zz; refine bz rfl rfl rfl (.there _ (.there _ (.there _ (.there _ (.there _ (.there _ (.there _ (.here _)))))))) rfl rfl ?_; exact zz.ok):a:=h ⟨k⟩
theorem yR (k:b) (h:Hk b→a:=by intro zz; refine aH (S1 (S1 (S1 (S1 (S1 (S1 (S1 (S1 (S1 (S1 SN)))))))))) (Hp.le.refl _) (fun _ _ => aM hrs rfl rfl rfl) rfl ?_; exact zz.ok):a:=h ⟨k⟩
theorem yQ (k:b) (h:Hk b→a:=by intro zz; refine gc (.there _ (.there _ (.there _ (.there _ (.there _ (.there _ (.here _))))))) ?_; exact zz.ok):a:=h ⟨k⟩
theorem yP (k:b) (h:Hk b→a:=by intro zz; refine aH (S1 (S1 (S1 (S1 (S1 (S1 (S1 (S1 SN)))))))) (Hp.le.refl _) (fun _ _ => aD rfl (.there _ (.there _ (.there _ (.there _ (.there _ (.here _)))))) rfl) rfl ?_; exact zz.ok):a:=h ⟨k⟩
theorem yO (k:b) (h:Hk b→a:=by intro zz; refine aH (S1 (S1 (S1 (S1 (S1 (S1 (S1 (S1 (S1 (S1 (S1 (S1 SN)))))))))))) (Hp.le.refl _) (fun _ _ => aM hrs rfl rfl rfl) rfl ?_; exact zz.ok):a:=h ⟨k⟩
theorem yN (k:b) (h:Hk b→a:=by intro zz; refine aH (S1 (S1 (S1 (S1 (S1 (S1 (S1 (S1 (S1 (S1 (S1 (S1 (S1 (S1 SN)))))))))))))) (Hp.le.refl _) (fun _ _ => aD rfl (.there _ (.there _ (.there _ (.there _ (.there _ (.there _ (.there _ (.there _ (.there _ (.there _ (.there _ (.here _)))))))))))) rfl) rfl ?_; exact zz.ok):a:=h ⟨k⟩
theorem yM (k:b) (h:Hk b→a:=by intro zz; refine aH (S0 (S1 (S1 SN))) (Hp.le.refl _) (fun _ _ => aD rfl (.here _) rfl) rfl ?_; exact zz.ok):a:=h ⟨k⟩
theorem yL (k:b) (h:Hk b→a:=by intro zz; refine az (cU (tb := 3) rfl rfl haw12 (by omega) (by omega)) rfl ?_; exact zz.ok):a:=h ⟨k⟩
theorem yK (k:b) (h:Hk b→a:=by intro zz; refine TL.run (jI rfl hcell (.skip _ (.skip _ (.past ob1 .all)))) rfl ?_; exact zz.ok):a:=h ⟨k⟩
theorem yJ (k:b) (h:Hk b→a:=by intro zz; refine bC rfl rfl (af rfl ha rfl (by omega) (by omega)) rfl ?_; exact zz.ok):a:=h ⟨k⟩
theorem yI (k:b) (h:Hk b→a:=by intro zz; refine bC rfl rfl (af rfl hb rfl (by omega) (by omega)) rfl ?_; exact zz.ok):a:=h ⟨k⟩
theorem BN (k:b) (h:Hk b→a:=by intro zz; refine TL.run (aD rfl (.there _ (.there _ (.there _ (.here _)))) (gN (by omega))) rfl ?_; exact zz.ok):a:=h ⟨k⟩
theorem BM (k:b) (h:Hk b→a:=by intro zz; refine cF rfl rfl rfl rfl rfl (.there _ (.there _ (.there _ (.here _)))) rfl rfl ?_; exact zz.ok):a:=h ⟨k⟩
theorem BK (k:b) (h:Hk b→a:=by intro zz; refine aU [true, true, true, true] [(0, 1), (1, 4), (2, 1), (3, 4), (4, 1), (5, 4), (6, 1), (7, 4), (8, 1), (9, 4), (10, 1), (11, 4), (12, 1), (13, 1), (14, 1), (15, 3), (16, 1), (17, 3), (18, 5), (19, 1), (20, 0)] (by kernel_rfl) (by kernel_rfl) ?_; exact zz.ok):a:=h ⟨k⟩
theorem BJ (k:b) (h:Hk b→a:=by intro zz; refine bz rfl rfl rfl (.there _ (.there _ (.there _ (.there _ (.there _ (.there _ (.there _ (.there _ (.there _ (.here _)))))))))) rfl rfl ?_; exact zz.ok):a:=h ⟨k⟩
theorem BI (k:b) (h:Hk b→a:=by intro zz; refine TL.run (aD rfl (.there _ (.there _ (.there _ (.there _ (.there _ (.there _ (.there _ (.there _ (.there _ (.here _)))))))))) rfl) rfl ?_; exact zz.ok):a:=h ⟨k⟩
theorem BH (k:b) (h:Hk b→a:=by intro zz; refine gc (.there _ (.there _ (.there _ (.there _ (.there _ (.there _ (.there _ (.there _ (.here _))))))))) ?_; exact zz.ok):a:=h ⟨k⟩
theorem BG (k:b) (h:Hk b→a:=by intro zz; refine aH (S1 (S1 (S1 (S1 (S1 (S1 (S1 (S1 (S1 SN))))))))) (Hp.le.refl _) (fun _ _ => aD rfl (.there _ (.there _ (.there _ (.there _ (.there _ (.there _ (.there _ (.here _)))))))) rfl) rfl ?_; exact zz.ok):a:=h ⟨k⟩
theorem BF (k:b) (h:Hk b→a:=by intro zz; refine ay (ab rfl rfl rfl rfl) (jG p rr (by omega) (by omega)) rfl ?_; exact zz.ok):a:=h ⟨k⟩
theorem BE (k:b) (h:Hk b→a:=by intro zz; refine aU [true, true, true, false, false] [(0, 1), (1, 1), (3, 1), (4, 1), (5, 1), (6, 1), (7, 2), (2, 5), (8, 5), (9, 5), (10, 3), (11, 1), (12, 0)] (by kernel_rfl) (by kernel_rfl) ?_; exact zz.ok):a:=h ⟨k⟩
theorem BD (k:b) (h:Hk b→a:=by intro zz; refine aU [true, true, true, false, false] [(0, 1), (1, 1), (3, 1), (4, 1), (5, 1), (6, 1), (2, 5), (7, 2), (8, 5), (9, 5), (10, 3), (11, 1), (12, 0)] (by kernel_rfl) (by kernel_rfl) ?_; exact zz.ok):a:=h ⟨k⟩
theorem BC (k:b) (h:Hk b→a:=by intro zz; refine aU [true, true] [(0, 1), (1, 1), (2, 1), (3, 4), (4, 1), (5, 1), (6, 1), (7, 4), (8, 1), (9, 1), (10, 4), (11, 1), (12, 1), (13, 4), (14, 3), (15, 5)] (by kernel_rfl) (by kernel_rfl) ?_; exact zz.ok):a:=h ⟨k⟩
theorem BB (k:b) (h:Hk b→a:=by intro zz; refine aH (S1 (S1 (S1 (S1 SN)))) (Hp.le.refl _) (fun _ _ => aD rfl (.there _ (.there _ (.here _))) rfl) rfl ?_; exact zz.ok):a:=h ⟨k⟩
theorem uX (k:b) (h:Hk b→a:=by intro zz; refine aH (S1 (S1 SN)) (Hp.le.refl _) (fun _ _ => aD rfl (.here _) rfl) rfl ?_; exact zz.ok):a:=h ⟨k⟩
theorem BA (k:b) (h:Hk b→a:=by intro zz; refine az (x3 (r := true) rfl rfl (by kernel_rfl) (by kernel_rfl) (by rw [hck]; exact AY _)) rfl ?_; exact zz.ok):a:=h ⟨k⟩
theorem zm342 (k:b) (h:Hk b→a:=by intro zz; refine aT (L' := (b46, _) :: ((b3, _) :: (ob1 ++ ((b14, _) :: ((b30, _) :: ((b2, _) :: (obS))))))) (ei [[(b14, _)], [(b46, _)], [(b3, _)], [(b30, _)], [(b2, _)], ob1, obS] [1, 2, 5, 0, 3, 4, 6] rfl) ?_; exact zz.ok):a:=h ⟨k⟩
theorem zm343 (k:b) (h:Hk b→a:=by intro zz; refine aT (L' := (b46, (dL q.terms s (m, o)).2.1.map (Value.int .i64)) :: ((b3, _) :: (ob71 ++ ((b14, _) :: ((b30, _) :: ((b2, _) :: (obS))))))) (List.Perm.refl _) ?_; exact zz.ok):a:=h ⟨k⟩
theorem zm344 (k:b) (h:Hk b→a:=by intro zz; refine aT (L' := (b14, _) :: ((b46, _) :: ((b3, _) :: ((b30, _) :: ((b2, _) :: (ob71 ++ (obS))))))) (ei [[(b46, _)], [(b3, _)], ob71, [(b14, _)], [(b30, _)], [(b2, _)], obS] [3, 0, 1, 4, 5, 2, 6] rfl) ?_; exact zz.ok):a:=h ⟨k⟩
theorem zm345 (k:b) (h:Hk b→a:=by intro zz; refine rk (L' := (b14, _) :: ((b46, _) :: ((b3, _) :: ((b30, _) :: ((b2, _) :: (ob71 ++ (obS ++ (ob76)))))))) (ei [[(b14, _)], [(b46, _)], [(b3, _)], [(b30, _)], [(b2, _)], ob71, obS, ob76] [0, 1, 2, 3, 4, 5, 6, 7] rfl) ?_; exact zz.ok):a:=h ⟨k⟩
theorem zm346 (k:b) (h:Hk b→a:=by intro zz; refine bZ [(0, 1), (1, 2), (2, 1), (3, 1), (4, 1), (5, 2), (6, 1), (7, 1), (8, 1), (9, 2), (10, 0), (11, 1), (12, 1), (13, 0)] (by kernel_rfl) (by kernel_rfl) ?_; exact zz.ok):a:=h ⟨k⟩
theorem zm347 (k:b) (h:Hk b→a:=by intro zz; refine bZ [(0, 1), (2, 1), (3, 1), (4, 1), (5, 2), (6, 1), (7, 1), (8, 1), (9, 2), (10, 0), (1, 2), (11, 1), (12, 1), (13, 0)] (by kernel_rfl) (by kernel_rfl) ?_; exact zz.ok):a:=h ⟨k⟩
theorem zm348 (k:b) (h:Hk b→a:=by intro zz; refine aT (x7 [(b14, _), (b46, _), (b3, _), (b30, _), (b2, _)] (A := ob2) (B := obS) (D := oc) (C := ob101)) ?_; exact zz.ok):a:=h ⟨k⟩
theorem zm349 (k:b) (h:Hk b→a:=by intro zz; refine rk (L' := (b14, _) :: ((b46, _) :: ((b3, _) :: ((b30, _) :: ((b2, _) :: (ob2 ++ (obS ++ (oc ++ (ob101))))))))) (ei [[(b14, _)], [(b46, _)], [(b3, _)], [(b30, _)], [(b2, _)], ob2, obS, oc, ob101] [0, 1, 2, 3, 4, 5, 6, 7, 8] rfl) ?_; exact zz.ok):a:=h ⟨k⟩
theorem zm350 (k:b) (h:Hk b→a:=by intro zz; refine bZ [(0, 1), (1, 2), (2, 1), (3, 1), (4, 1), (5, 2), (6, 1), (7, 1), (8, 1), (9, 2), (10, 1), (11, 2), (12, 1), (13, 1), (14, 0)] (by kernel_rfl) (by kernel_rfl) ?_; exact zz.ok):a:=h ⟨k⟩
theorem zm351 (k:b) (h:Hk b→a:=by intro zz; refine a7 (dO rfl hOw (.skip _ (.skip _ (.skip _ (.skip _ (.skip _ (.past _ (.past _ (.past _ .all)))))))) hwW rfl) rfl ?_; exact zz.ok):a:=h ⟨k⟩
theorem zm352 (k:b) (h:Hk b→a:=by intro zz; refine aU [true, true, true] [(0, 1), (1, 1), (2, 1), (3, 1), (4, 1), (5, 4), (6, 4), (7, 3), (8, 5), (9, 1), (10, 1), (11, 1), (12, 0)] (by kernel_rfl) (by kernel_rfl) ?_; exact zz.ok):a:=h ⟨k⟩
theorem zm353 (k:b) (h:Hk b→a:=by intro zz; refine aU [false, false] [(0, 1), (1, 1), (3, 1), (4, 1), (5, 1), (6, 1), (7, 2), (2, 5), (8, 5), (9, 5), (10, 5), (11, 1)] (by kernel_rfl) (by kernel_rfl) ?_; exact zz.ok):a:=h ⟨k⟩
theorem zm354 (k:b) (h:Hk b→a:=by intro zz; refine aU [false, false] [(0, 1), (1, 1), (3, 1), (4, 1), (5, 1), (6, 1), (2, 5), (7, 2), (8, 5), (9, 5), (10, 5), (11, 1)] (by kernel_rfl) (by kernel_rfl) ?_; exact zz.ok):a:=h ⟨k⟩
theorem zm355 (k:b) (h:Hk b→a:=by intro zz; refine TL.run (PR.to (dO rfl hO58 (.skip _ (.skip _ (.skip _ (.skip _ (.skip _ (.skip _ .all)))))) rfl rfl) (rfl : _ = Value.slice (some ⟨b55, 0, none⟩) 2 2)) rfl ?_; exact zz.ok):a:=h ⟨k⟩
theorem zm356 (k:b) (h:Hk b→a:=by intro zz; refine aU [true, true, true, true, true, false] [(0, 1), (1, 4), (2, 1), (3, 4), (4, 1), (5, 1), (6, 4), (7, 1), (8, 4), (9, 1), (10, 1), (11, 1), (12, 4), (13, 1), (14, 1), (15, 1), (17, 1), (18, 4), (19, 1), (20, 1), (16, 5), (21, 1), (22, 3), (23, 1), (24, 3), (25, 5), (26, 1), (27, 0)] (by kernel_rfl) (by kernel_rfl) ?_; exact zz.ok):a:=h ⟨k⟩
theorem zm357 (k:b) (h:Hk b→a:=by intro zz; refine aU [true, true, true, true, true, true, true, true, true, true] [(0, 1), (1, 4), (2, 1), (3, 4), (4, 1), (5, 1), (6, 4), (7, 1), (8, 4), (9, 1), (10, 1), (11, 1), (12, 4), (13, 1), (14, 1), (15, 4), (16, 1), (17, 1), (18, 1), (19, 3), (20, 1), (21, 3), (22, 5), (23, 1), (24, 0)] (by kernel_rfl) (by kernel_rfl) ?_; exact zz.ok):a:=h ⟨k⟩
theorem Bz (k:b) (h:Hk b→a:=by intro zz; refine aH (S1 (S1 (S1 (S1 (S1 (S1 (S1 (S1 (S1 (S1 SN)))))))))) (Hp.le.refl _) (fun _ _ => aD rfl (.there _ (.there _ (.there _ (.there _ (.there _ (.there _ (.there _ (.here _)))))))) rfl) rfl ?_; exact zz.ok):a:=h ⟨k⟩
theorem zm359 (k:b) (h:Hk b→a:=by intro zz; refine aU [true, true, true, true, true, true, true, true, true, true, true, true] [(0, 1), (1, 4), (2, 1), (3, 4), (4, 1), (5, 1), (6, 4), (7, 1), (8, 4), (9, 1), (10, 1), (11, 1), (12, 4), (13, 1), (14, 1), (15, 4), (16, 1), (17, 1), (18, 1), (19, 3), (20, 1), (21, 3), (22, 5), (23, 1), (24, 0)] (by kernel_rfl) (by kernel_rfl) ?_; exact zz.ok):a:=h ⟨k⟩
theorem By (k:b) (h:Hk b→a:=by intro zz; refine aH (S1 (S1 (S1 (S1 (S1 (S1 (S1 (S1 (S1 (S1 (S1 (S1 SN)))))))))))) (Hp.le.refl _) (fun _ _ => aD rfl (.there _ (.there _ (.there _ (.there _ (.there _ (.there _ (.there _ (.there _ (.there _ (.here _)))))))))) rfl) rfl ?_; exact zz.ok):a:=h ⟨k⟩
theorem zm361 (k:b) (h:Hk b→a:=by intro zz; refine bz rfl rfl rfl (.there _ (.there _ (.there _ (.there _ (.there _ (.there _ (.there _ (.there _ (.there _ (.there _ (.there _ (.here _)))))))))))) rfl rfl ?_; exact zz.ok):a:=h ⟨k⟩
theorem zm362 (k:b) (h:Hk b→a:=by intro zz; refine aH (S1 (S1 (S1 (S1 (S1 (S1 (S1 (S1 (S1 (S1 (S1 (S1 (S1 (S1 SN)))))))))))))) (Hp.le.refl _) (fun _ _ => aM hrs rfl rfl rfl) rfl ?_; exact zz.ok):a:=h ⟨k⟩
theorem zm363 (k:b) (h:Hk b→a:=by intro zz; refine gc (.there _ (.there _ (.there _ (.there _ (.there _ (.there _ (.there _ (.there _ (.there _ (.there _ (.here _))))))))))) ?_; exact zz.ok):a:=h ⟨k⟩
theorem zm364 (k:b) (h:Hk b→a:=by intro zz; refine aU [true] [(0, 1), (1, 1), (2, 1), (3, 4), (4, 1), (5, 1), (6, 1), (7, 4), (8, 1), (9, 5), (10, 1)] (by kernel_rfl) (by kernel_rfl) ?_; exact zz.ok):a:=h ⟨k⟩
theorem zm367 (k:b) (h:Hk b→a:=by intro zz; refine aU [true, true, true, true, true] [(0, 1), (1, 1), (2, 1), (3, 1), (4, 4), (5, 1), (6, 1), (7, 1), (8, 1), (9, 1), (10, 4), (11, 1), (12, 1), (13, 1), (14, 2), (15, 1), (16, 1), (17, 3), (18, 5), (19, 1), (20, 1), (21, 5)] (by kernel_rfl) (by kernel_rfl) ?_; exact zz.ok):a:=h ⟨k⟩
theorem zm368 (k:b) (h:Hk b→a:=by intro zz; refine aU [true, true, true, true, true] [(0, 1), (1, 1), (2, 1), (3, 1), (4, 4), (5, 1), (6, 1), (7, 1), (8, 1), (9, 1), (10, 4), (11, 1), (12, 1), (13, 1), (14, 2), (15, 4), (16, 3), (17, 5), (18, 1), (19, 1), (20, 5)] (by kernel_rfl) (by kernel_rfl) ?_; exact zz.ok):a:=h ⟨k⟩
theorem zm369 (k:b) (h:Hk b→a:=by intro zz; refine aH (S1 (S1 (S1 (S1 (S1 (S1 SN)))))) (Hp.le.refl _) (fun _ _ => aD rfl (.there _ (.there _ (.there _ (.there _ (.here _))))) rfl) rfl ?_; exact zz.ok):a:=h ⟨k⟩
theorem Bu (k:b) (h:Hk b→a:=by intro zz; refine aH (S1 (S1 (S1 (S1 (S1 SN))))) (Hp.le.refl _) (fun _ _ => aD rfl (.there _ (.there _ (.there _ (.here _)))) rfl) rfl ?_; exact zz.ok):a:=h ⟨k⟩
theorem zm373 (k:b) (h:Hk b→a:=by intro zz; refine ay (ab rfl rfl rfl rfl) (t8 ⟨[], [⟨1, [120], [⟨[120], ck, cn, 0⟩], (some ⟨b5, 0, none⟩, 1)⟩], (some ⟨b7, 0, none⟩, 1)⟩ ⟨hT7, by intro t ht; simp at ht; subst ht; exact ⟨hA5, by intro a ha; simp at ha; subst ha; exact hn⟩⟩ hM) rfl ?_; exact zz.ok):a:=h ⟨k⟩
theorem zm374 (k:b) (h:Hk b→a:=by intro zz; refine TL.run (PR.to (gi rfl rfl (by simp only [List.length_cons, List.length_nil]; omega) (by simp only [List.length_cons, List.length_nil]; omega)) (congrArg (Value.int .i64) (by simp only [List.length_cons, List.length_nil]; omega))) rfl ?_; exact zz.ok):a:=h ⟨k⟩
theorem zm375 (k:b) (h:Hk b→a:=by intro zz; refine aU [true, true, false] [(0, 1), (1, 4), (2, 1), (3, 4), (4, 1), (5, 1), (6, 4), (7, 1), (8, 4), (9, 1), (10, 1), (11, 4), (12, 1), (13, 1), (14, 1), (15, 1), (16, 5), (17, 1), (18, 3), (19, 5), (20, 1), (21, 0)] (by kernel_rfl) (by kernel_rfl) ?_; exact zz.ok):a:=h ⟨k⟩
theorem zm376 (k:b) (h:Hk b→a:=by intro zz; refine aU [true, true, true, true, true, false] [(0, 1), (1, 4), (2, 1), (3, 4), (4, 1), (5, 1), (6, 1), (7, 4), (8, 1), (9, 4), (10, 1), (11, 4), (12, 1), (13, 5), (14, 1), (15, 3), (16, 1), (17, 3), (18, 5), (19, 1), (20, 0)] (by kernel_rfl) (by kernel_rfl) ?_; exact zz.ok):a:=h ⟨k⟩
theorem zm377 (k:b) (h:Hk b→a:=by intro zz; refine aU [true, true, true, true, true, true, true, false] [(0, 1), (1, 4), (2, 1), (3, 4), (4, 1), (5, 1), (6, 1), (7, 4), (8, 1), (9, 4), (10, 1), (11, 4), (12, 1), (13, 5), (14, 1), (15, 3), (16, 1), (17, 3), (18, 5), (19, 1), (20, 0)] (by kernel_rfl) (by kernel_rfl) ?_; exact zz.ok):a:=h ⟨k⟩
theorem zm378 (k:b) (h:Hk b→a:=by intro zz; refine aU [true, true, true, true, true, true, true, true] [(0, 1), (1, 4), (2, 1), (3, 4), (4, 1), (5, 1), (6, 4), (7, 1), (8, 4), (9, 1), (10, 1), (11, 1), (12, 4), (13, 1), (14, 1), (15, 4), (16, 1), (17, 1), (18, 1), (19, 3), (20, 1), (21, 3), (22, 5), (23, 1), (24, 0)] (by kernel_rfl) (by kernel_rfl) ?_; exact zz.ok):a:=h ⟨k⟩
theorem zm379 (k:b) (h:Hk b→a:=by intro zz; refine aU [true, true, true, true, true, true, true, false] [(0, 1), (1, 4), (2, 1), (3, 4), (4, 1), (5, 1), (6, 4), (7, 1), (8, 4), (9, 1), (10, 1), (11, 1), (12, 4), (13, 1), (14, 1), (15, 1), (17, 1), (18, 4), (19, 1), (20, 1), (16, 5), (21, 1), (22, 3), (23, 1), (24, 3), (25, 5), (26, 1), (27, 0)] (by kernel_rfl) (by kernel_rfl) ?_; exact zz.ok):a:=h ⟨k⟩
theorem zm380 (k:b) (h:Hk b→a:=by intro zz; refine aU [true, true, true, true, true, true, true, true, true, false] [(0, 1), (1, 4), (2, 1), (3, 4), (4, 1), (5, 1), (6, 1), (7, 4), (8, 1), (9, 4), (10, 1), (11, 4), (12, 1), (13, 5), (14, 1), (15, 3), (16, 1), (17, 3), (18, 5), (19, 1), (20, 0)] (by kernel_rfl) (by kernel_rfl) ?_; exact zz.ok):a:=h ⟨k⟩
theorem zm381 (k:b) (h:Hk b→a:=by intro zz; refine TL.run (PR.to (dO rfl hO112 (.skip _ (.skip _ (.skip _ (.skip _ (.skip _ (.skip _ (.skip _ (.skip _ (.skip _ (.skip _ (.skip _ (.skip _ .all)))))))))))) rfl rfl) (rfl : _ = Value.slice (some ⟨b55, 0, none⟩) 2 2)) rfl ?_; exact zz.ok):a:=h ⟨k⟩
theorem zm382 (k:b) (h:Hk b→a:=by intro zz; refine aU [true, true, true, true, true, true, true, true, true, true, true, true, true, true] [(0, 1), (1, 4), (2, 1), (3, 4), (4, 1), (5, 1), (6, 4), (7, 1), (8, 4), (9, 1), (10, 1), (11, 1), (12, 4), (13, 1), (14, 1), (15, 4), (16, 1), (17, 1), (18, 1), (19, 3), (20, 1), (21, 3), (22, 5), (23, 1), (24, 0)] (by kernel_rfl) (by kernel_rfl) ?_; exact zz.ok):a:=h ⟨k⟩
theorem zm383 (k:b) (h:Hk b→a:=by intro zz; refine cF rfl rfl rfl rfl rfl (.there _ (.there _ (.there _ (.there _ (.there _ (.there _ (.there _ (.there _ (.there _ (.there _ (.there _ (.there _ (.there _ (.there _ (.there _ (.here _)))))))))))))))) rfl rfl ?_; exact zz.ok):a:=h ⟨k⟩
theorem zm384 (k:b) (h:Hk b→a:=by intro zz; refine aU [false, true, true] [(0, 1), (1, 1), (2, 1), (3, 4), (4, 1), (5, 1), (6, 4), (7, 1), (8, 1), (9, 1), (10, 4), (11, 1), (12, 1), (13, 1), (14, 4), (15, 1), (16, 1), (17, 4), (18, 5), (19, 1)] (by kernel_rfl) (by kernel_rfl) ?_; exact zz.ok):a:=h ⟨k⟩
theorem zm385 (k:b) (h:Hk b→a:=by intro zz; refine aU [true, true, false, false] [(0, 1), (1, 4), (2, 1), (3, 4), (4, 1), (5, 1), (6, 4), (7, 4), (8, 1), (9, 4), (10, 1), (11, 1), (12, 4), (14, 1), (15, 1), (16, 1), (17, 1), (18, 2), (13, 3), (19, 5), (20, 5), (21, 3), (22, 1), (23, 3), (24, 5), (25, 1), (26, 0)] (by kernel_rfl) (by kernel_rfl) ?_; exact zz.ok):a:=h ⟨k⟩
theorem zm386 (k:b) (h:Hk b→a:=by intro zz; refine aU [true, true, true] [(0, 1), (1, 1), (2, 1), (3, 1), (4, 4), (5, 1), (6, 1), (7, 1), (8, 1), (9, 1), (10, 4), (11, 1), (12, 1), (13, 1), (14, 2), (15, 1), (16, 1), (17, 1), (18, 1), (19, 4), (20, 1), (21, 1), (22, 3), (23, 5), (24, 1), (25, 1), (26, 5)] (by kernel_rfl) (by kernel_rfl) ?_; exact zz.ok):a:=h ⟨k⟩
theorem zm387 (k:b) (h:Hk b→a:=by intro zz; refine aU [true, true, true, true, true, true] [(0, 1), (1, 1), (2, 1), (3, 1), (4, 4), (5, 1), (6, 1), (7, 1), (8, 1), (9, 1), (10, 4), (11, 1), (12, 1), (13, 1), (14, 2), (15, 4), (16, 3), (17, 5), (18, 1), (19, 1), (20, 5)] (by kernel_rfl) (by kernel_rfl) ?_; exact zz.ok):a:=h ⟨k⟩
theorem zm388 (k:b) (h:Hk b→a:=by intro zz; refine aU [true, true, false] [(0, 1), (1, 4), (2, 1), (3, 1), (4, 4), (5, 1), (6, 4), (7, 1), (8, 1), (9, 4), (10, 1), (11, 1), (12, 1), (13, 1), (14, 1), (15, 1), (16, 4), (17, 5), (18, 3), (19, 5), (20, 1), (21, 0)] (by kernel_rfl) (by kernel_rfl) ?_; exact zz.ok):a:=h ⟨k⟩
theorem zm389 (k:b) (h:Hk b→a:=by intro zz; refine kg rfl rfl (ab rfl rfl rfl rfl) (ot (hA.ls x (List.mem_of_getElem? hx)).t (hB.ls y (List.mem_of_getElem? hy)).t (hA.ls x (List.mem_of_getElem? hx)).ts (hB.ls y (List.mem_of_getElem? hy)).ts hg.2) rfl ?_; exact zz.ok):a:=h ⟨k⟩
theorem zm390 (k:b) (h:Hk b→a:=by intro zz; refine rh (L' := (b136, _) :: ((b14, _) :: ((b46, _) :: ((b3, _) :: ((b30, _) :: ((b2, _) :: (ob2 ++ (ob137)))))))) (ei [[(b136, _)], [(b14, _)], [(b46, _)], [(b3, _)], [(b30, _)], [(b2, _)], ob2, ob137] [0, 1, 2, 3, 4, 5, 6, 7] rfl) ?_; exact zz.ok):a:=h ⟨k⟩
theorem zm391 (k:b) (h:Hk b→a:=by intro zz; refine TL.run (PR.to (gi rfl rfl (by simp only [List.length_append, List.length_cons, List.length_nil]; omega) (by simp only [List.length_append, List.length_cons, List.length_nil]; omega)) (congrArg (Value.int .i64) (show _ = (rows.length : Int) from by simp only [List.length_append, List.length_cons, List.length_nil]; omega))) rfl ?_; exact zz.ok):a:=h ⟨k⟩
theorem zm392 (k:b) (h:Hk b→a:=by intro zz; refine aU [true, true, true, true] [(0, 1), (1, 1), (2, 1), (3, 1), (4, 4), (5, 1), (6, 1), (7, 1), (8, 1), (9, 1), (10, 4), (11, 1), (12, 1), (13, 1), (14, 2), (15, 1), (16, 1), (17, 3), (18, 5), (19, 1), (20, 1), (21, 5)] (by kernel_rfl) (by kernel_rfl) ?_; exact zz.ok):a:=h ⟨k⟩
theorem zm393 (k:b) (h:Hk b→a:=by intro zz; refine aU [true, true, false, false] [(0, 1), (1, 1), (2, 1), (3, 2), (4, 1), (5, 4), (6, 1), (8, 1), (9, 1), (10, 1), (12, 1), (13, 4), (14, 1), (7, 5), (11, 2), (15, 5), (16, 1), (17, 1)] (by kernel_rfl) (by kernel_rfl) ?_; exact zz.ok):a:=h ⟨k⟩
theorem zm394 (k:b) (h:Hk b→a:=by intro zz; refine aU [true, true, false, false] [(0, 1), (1, 1), (2, 1), (3, 2), (4, 1), (5, 4), (6, 1), (8, 1), (9, 1), (10, 1), (11, 2), (12, 1), (13, 4), (14, 1), (7, 5), (15, 5), (16, 1), (17, 1)] (by kernel_rfl) (by kernel_rfl) ?_; exact zz.ok):a:=h ⟨k⟩
theorem zm2 (k:b) (h:Hk b→a:=by intro zz; refine TC.seq (TC.region ?_); exact zz.ok):a:=h ⟨k⟩
theorem zm3 (k:b) (h:Hk b→a:=by intro zz; refine zm0 ?_; refine zm0 ?_; exact zz.ok):a:=h ⟨k⟩
theorem zm9 (k:b) (h:Hk b→a:=by intro zz; refine jn ?_; refine aw rfl rfl (aD rfl (.here _) rfl) rfl ?_; exact zz.ok):a:=h ⟨k⟩
theorem d3 (k:b) (h:Hk b→a:=by intro zz; refine TC.skip (ad ?_); exact zz.ok):a:=h ⟨k⟩
theorem dP (k:b) (h:Hk b→a:=by intro zz; refine zm0 ?_; refine TL.nil ?_; exact zz.ok):a:=h ⟨k⟩
theorem eU (k:b) (h:Hk b→a:=by intro zz; refine TL.run (cr rfl) rfl ?_; refine zm7 ?_; exact zz.ok):a:=h ⟨k⟩
theorem ge (k:b) (h:Hk b→a:=by intro zz; refine cN ?_; refine cN ?_; exact zz.ok):a:=h ⟨k⟩
theorem fM (k:b) (h:Hk b→a:=by intro zz; refine jn ?_; refine aw rfl rfl (aD rfl (.there _ (.here _)) rfl) rfl ?_; exact zz.ok):a:=h ⟨k⟩
theorem fz (k:b) (h:Hk b→a:=by intro zz; refine zm7 ?_; refine k7 ?_; exact zz.ok):a:=h ⟨k⟩
theorem fR (k:b) (h:Hk b→a:=by intro zz; refine zm4 ?_; refine bj ?_; exact zz.ok):a:=h ⟨k⟩
theorem iz (k:b) (h:Hk b→a:=by intro zz; refine zm7 ?_; refine oZ ?_; exact zz.ok):a:=h ⟨k⟩
theorem iw (k:b) (h:Hk b→a:=by intro zz; refine TC.region ?_; refine zm0 ?_; exact zz.ok):a:=h ⟨k⟩
theorem jp (k:b) (h:Hk b→a:=by intro zz; refine zm4 ?_; refine Bu ?_; exact zz.ok):a:=h ⟨k⟩
theorem lh (k:b) (h:Hk b→a:=by intro zz; refine cI ?_; refine cI ?_; exact zz.ok):a:=h ⟨k⟩
theorem k8 (k:b) (h:Hk b→a:=by intro zz; refine zm7 ?_; refine no ?_; exact zz.ok):a:=h ⟨k⟩
theorem k6 (k:b) (h:Hk b→a:=by intro zz; refine TC.seq ?_; refine eP ?_; exact zz.ok):a:=h ⟨k⟩
theorem oo (k:b) (h:Hk b→a:=by intro zz; refine zm5 ?_; refine zm4 ?_; exact zz.ok):a:=h ⟨k⟩
theorem o4 (k:b) (h:Hk b→a:=by intro zz; refine zm4 ?_; refine a7 (aD rfl (.there _ (.here _)) rfl) rfl ?_; exact zz.ok):a:=h ⟨k⟩
theorem gk (k:b) (h:Hk b→a:=by intro zz; refine zm5 ?_; refine zm5 ?_; exact zz.ok):a:=h ⟨k⟩
theorem iB (k:b) (h:Hk b→a:=by intro zz; refine TQ.run (ah rfl) rfl (TQ.run (ah rfl) rfl ?_); exact zz.ok):a:=h ⟨k⟩
theorem lw (k:b) (h:Hk b→a:=by intro zz; refine zm5 ?_; refine lj ?_; exact zz.ok):a:=h ⟨k⟩
theorem lo (k:b) (h:Hk b→a:=by intro zz; refine bC rfl rfl (ah rfl) rfl (bC rfl rfl (ah rfl) rfl ?_); exact zz.ok):a:=h ⟨k⟩
theorem nC (k:b) (h:Hk b→a:=by intro zz; refine zm4 ?_; refine uX ?_; exact zz.ok):a:=h ⟨k⟩
theorem nr (k:b) (h:Hk b→a:=by intro zz; refine zm4 ?_; refine nt ?_; exact zz.ok):a:=h ⟨k⟩
theorem ll (k:b) (h:Hk b→a:=by intro zz; refine TL.run (bV rfl rfl rfl) rfl ?_; refine zm0 ?_; exact zz.ok):a:=h ⟨k⟩
theorem nn (k:b) (h:Hk b→a:=by intro zz; refine TC.seq (xG (by kernel_rfl) (by kernel_rfl) ?_); exact zz.ok):a:=h ⟨k⟩
theorem pD (k:b) (h:Hk b→a:=by intro zz; refine zm7 ?_; refine bz rfl rfl rfl (.there _ (.there _ (.here _))) rfl rfl ?_; exact zz.ok):a:=h ⟨k⟩
theorem sI (k:b) (h:Hk b→a:=by intro zz; refine zm4 ?_; refine aH (S1 (S1 (S1 SN))) (Hp.le.refl _) (fun _ _ => aD rfl (.there _ (.here _)) rfl) rfl ?_; exact zz.ok):a:=h ⟨k⟩
theorem sq (k:b) (h:Hk b→a:=by intro zz; refine TQ.run (ah rfl) rfl (TQ.run (cr rfl) rfl ?_); exact zz.ok):a:=h ⟨k⟩
theorem sk (k:b) (h:Hk b→a:=by intro zz; refine fN ?_; refine TL.nil ?_; exact zz.ok):a:=h ⟨k⟩
theorem r7 (k:b) (h:Hk b→a:=by intro zz; refine zm4 ?_; refine aH (S1 (S1 (S1 (S1 (S1 (S1 (S1 SN))))))) (Hp.le.refl _) (fun _ _ => aD rfl (.there _ (.there _ (.there _ (.there _ (.there _ (.here _)))))) rfl) rfl ?_; exact zz.ok):a:=h ⟨k⟩
theorem r6 (k:b) (h:Hk b→a:=by intro zz; refine zm4 ?_; refine Bz ?_; exact zz.ok):a:=h ⟨k⟩
theorem r4 (k:b) (h:Hk b→a:=by intro zz; refine az (dc rfl rfl (by simp) (by simp)) rfl ?_; refine dZ ?_; exact zz.ok):a:=h ⟨k⟩
theorem r3 (k:b) (h:Hk b→a:=by intro zz; refine zm4 ?_; refine By ?_; exact zz.ok):a:=h ⟨k⟩
theorem zm230 (k:b) (h:Hk b→a:=by intro zz; refine k7 ?_; refine zm0 ?_; exact zz.ok):a:=h ⟨k⟩
theorem vV (k:b) (h:Hk b→a:=by intro zz; refine zm7 ?_; refine mz ?_; exact zz.ok):a:=h ⟨k⟩
theorem vJ (k:b) (h:Hk b→a:=by intro zz; refine TL.run (bI rfl hmv) rfl ?_; refine zm0 ?_; exact zz.ok):a:=h ⟨k⟩
theorem vz (k:b) (h:Hk b→a:=by intro zz; refine iT ?_; refine bC rfl rfl (aD rfl (.here _) rfl) rfl ?_; exact zz.ok):a:=h ⟨k⟩
theorem vr (k:b) (h:Hk b→a:=by intro zz; refine zm5 ?_; refine dZ ?_; exact zz.ok):a:=h ⟨k⟩
theorem u5 (k:b) (h:Hk b→a:=by intro zz; refine zm0 ?_; refine kJ ?_; exact zz.ok):a:=h ⟨k⟩
theorem u4 (k:b) (h:Hk b→a:=by intro zz; refine TL.run (dw rfl) rfl (TL.run (CS rfl rfl (by omega)) rfl ?_); exact zz.ok):a:=h ⟨k⟩
theorem pd (k:b) (h:Hk b→a:=by intro zz; refine zm7 ?_; refine ju ?_; exact zz.ok):a:=h ⟨k⟩
theorem uY (k:b) (h:Hk b→a:=by intro zz; refine zm4 ?_; refine aH (S1 (S1 (S1 (S1 SN)))) (Hp.le.refl _) (fun _ _ => aD rfl (.there _ (.here _)) rfl) rfl ?_; exact zz.ok):a:=h ⟨k⟩
theorem yG (k:b) (h:Hk b→a:=by intro zz; refine fS ?_; refine zm7 ?_; exact zz.ok):a:=h ⟨k⟩
theorem zm339 (k:b) (h:Hk b→a:=by intro zz; refine fS ?_; refine bz rfl rfl rfl (.there _ (.here _)) (by simp; omega) rfl ?_; exact zz.ok):a:=h ⟨k⟩
theorem zm1 (k:b) (h:Hk b→a:=by intro zz; refine zm0 ?_; refine TL.nil (ad ?_); exact zz.ok):a:=h ⟨k⟩
theorem dD (k:b) (h:Hk b→a:=by intro zz; refine cN ?_; refine zm3 ?_; exact zz.ok):a:=h ⟨k⟩
theorem d7 (k:b) (h:Hk b→a:=by intro zz; refine zm2 ?_; refine zm0 ?_; exact zz.ok):a:=h ⟨k⟩
theorem gu (k:b) (h:Hk b→a:=by intro zz; refine zm2 ?_; refine f2 ?_; exact zz.ok):a:=h ⟨k⟩
theorem fu (k:b) (h:Hk b→a:=by intro zz; refine fN ?_; refine TL.nil (ad ?_); exact zz.ok):a:=h ⟨k⟩
theorem ii (k:b) (h:Hk b→a:=by intro zz; refine cN ?_; refine dP ?_; exact zz.ok):a:=h ⟨k⟩
theorem iA (k:b) (h:Hk b→a:=by intro zz; refine zm5 ?_; refine az (cr rfl) rfl ?_; refine zm4 ?_; exact zz.ok):a:=h ⟨k⟩
theorem jr (k:b) (h:Hk b→a:=by intro zz; refine TF.back (TF.nil (ad ?_)); exact zz.ok):a:=h ⟨k⟩
theorem gr (k:b) (h:Hk b→a:=by intro zz; refine zm2 ?_; refine zm7 ?_; exact zz.ok):a:=h ⟨k⟩
theorem iS (k:b) (h:Hk b→a:=by intro zz; refine d3 ?_; refine TC.seq ?_; exact zz.ok):a:=h ⟨k⟩
theorem iR (k:b) (h:Hk b→a:=by intro zz; refine lh ?_; refine cI ?_; exact zz.ok):a:=h ⟨k⟩
theorem kL (k:b) (h:Hk b→a:=by intro zz; refine TQ.run (ah rfl) rfl (TQ.nil (ad ?_)); exact zz.ok):a:=h ⟨k⟩
theorem oX (k:b) (h:Hk b→a:=by intro zz; refine TC.region ?_; refine fz ?_; exact zz.ok):a:=h ⟨k⟩
theorem jh (k:b) (h:Hk b→a:=by intro zz; refine TC.region ?_; refine zm3 ?_; exact zz.ok):a:=h ⟨k⟩
theorem lu (k:b) (h:Hk b→a:=by intro zz; refine zm5 ?_; refine az (dc rfl rfl (by omega) (by omega)) rfl ?_; refine lj ?_; exact zz.ok):a:=h ⟨k⟩
theorem kr (k:b) (h:Hk b→a:=by intro zz; refine kJ ?_; refine dP ?_; exact zz.ok):a:=h ⟨k⟩
theorem nH (k:b) (h:Hk b→a:=by intro zz; refine TC.region ?_; refine iz ?_; exact zz.ok):a:=h ⟨k⟩
theorem kq (k:b) (h:Hk b→a:=by intro zz; refine zm2 ?_; refine dy ?_; exact zz.ok):a:=h ⟨k⟩
theorem nE (k:b) (h:Hk b→a:=by intro zz; refine gt ?_; refine TQ.run (aD rfl (.here _) rfl) rfl (TQ.run (ah rfl) rfl ?_); exact zz.ok):a:=h ⟨k⟩
theorem nD (k:b) (h:Hk b→a:=by intro zz; refine gk ?_; refine zm5 ?_; exact zz.ok):a:=h ⟨k⟩
theorem nw (k:b) (h:Hk b→a:=by intro zz; refine iB ?_; refine TQ.run (af rfl hb rfl (by omega) (by omega)) rfl ?_; exact zz.ok):a:=h ⟨k⟩
theorem pC (k:b) (h:Hk b→a:=by intro zz; refine TL.run (cr rfl) rfl ?_; refine fz ?_; exact zz.ok):a:=h ⟨k⟩
theorem pA (k:b) (h:Hk b→a:=by intro zz; refine fR ?_; refine mz ?_; exact zz.ok):a:=h ⟨k⟩
theorem zm187 (k:b) (h:Hk b→a:=by intro zz; refine TL.run (dc rfl rfl (by omega) (by omega)) rfl ?_; refine dP ?_; exact zz.ok):a:=h ⟨k⟩
theorem sD (k:b) (h:Hk b→a:=by intro zz; refine lh ?_; refine zm0 ?_; exact zz.ok):a:=h ⟨k⟩
theorem sA (k:b) (h:Hk b→a:=by intro zz; refine pd ?_; refine TL.nil ?_; exact zz.ok):a:=h ⟨k⟩
theorem sg (k:b) (h:Hk b→a:=by intro zz; refine zm0 ?_; refine yG ?_; exact zz.ok):a:=h ⟨k⟩
theorem rT (k:b) (h:Hk b→a:=by intro zz; refine zm9 ?_; refine mB ?_; exact zz.ok):a:=h ⟨k⟩
theorem vF (k:b) (h:Hk b→a:=by intro zz; refine zm3 ?_; refine TL.nil ?_; exact zz.ok):a:=h ⟨k⟩
theorem y5 (k:b) (h:Hk b→a:=by intro zz; refine ju ?_; refine TL.nil (ad ?_); exact zz.ok):a:=h ⟨k⟩
theorem y4 (k:b) (h:Hk b→a:=by intro zz; refine fR ?_; refine bz rfl rfl rfl (.there _ (.there _ (.here _))) rfl rfl ?_; exact zz.ok):a:=h ⟨k⟩
theorem rQ (k:b) (h:Hk b→a:=by intro zz; refine nr ?_; refine zm5 ?_; exact zz.ok):a:=h ⟨k⟩
theorem vj (k:b) (h:Hk b→a:=by intro zz; refine TL.run (af rfl hxa rfl (by omega) (by omega)) rfl ?_; refine zm7 ?_; refine TL.run (br hxa ha rfl rfl) rfl ?_; exact zz.ok):a:=h ⟨k⟩
theorem ve (k:b) (h:Hk b→a:=by intro zz; refine iw ?_; refine f2 ?_; exact zz.ok):a:=h ⟨k⟩
theorem u9 (k:b) (h:Hk b→a:=by intro zz; refine ar rfl ?_; refine fN ?_; refine au (S0 (S1 (S1 SN))) (Hp.le.refl _) ?_; exact zz.ok):a:=h ⟨k⟩
theorem u7 (k:b) (h:Hk b→a:=by intro zz; refine zm4 ?_; refine ar rfl ?_; refine ju ?_; exact zz.ok):a:=h ⟨k⟩
theorem yD (k:b) (h:Hk b→a:=by intro zz; refine gt ?_; refine TQ.run (aD rfl (.there _ (.here _)) rfl) rfl (TQ.run (ah rfl) rfl ?_); exact zz.ok):a:=h ⟨k⟩
theorem zm8 (k:b) (h:Hk b→a:=by intro zz; refine zm1 ?_; refine TC.block ?_; exact zz.ok):a:=h ⟨k⟩
theorem eh (k:b) (h:Hk b→a:=by intro zz; refine zm1 ?_; refine TC.ret ?_; exact zz.ok):a:=h ⟨k⟩
theorem eB (k:b) (h:Hk b→a:=by intro zz; refine lh ?_; refine lh ?_; exact zz.ok):a:=h ⟨k⟩
theorem eJ (k:b) (h:Hk b→a:=by intro zz; refine zm2 ?_; refine zm3 ?_; exact zz.ok):a:=h ⟨k⟩
theorem gW (k:b) (h:Hk b→a:=by intro zz; refine cN ?_; refine zm1 ?_; exact zz.ok):a:=h ⟨k⟩
theorem gV (k:b) (h:Hk b→a:=by intro zz; refine TL.nil (ad ?_); refine zm2 ?_; exact zz.ok):a:=h ⟨k⟩
theorem fw (k:b) (h:Hk b→a:=by intro zz; refine gr ?_; refine k7 ?_; exact zz.ok):a:=h ⟨k⟩
theorem gS (k:b) (h:Hk b→a:=by intro zz; refine gr ?_; refine oZ ?_; exact zz.ok):a:=h ⟨k⟩
theorem iU (k:b) (h:Hk b→a:=by intro zz; refine fu ?_; refine TC.ret ?_; exact zz.ok):a:=h ⟨k⟩
theorem iv (k:b) (h:Hk b→a:=by intro zz; refine zm1 ?_; refine TC.seq ?_; exact zz.ok):a:=h ⟨k⟩
theorem kK (k:b) (h:Hk b→a:=by intro zz; refine zm0 ?_; refine zm1 ?_; exact zz.ok):a:=h ⟨k⟩
theorem mD (k:b) (h:Hk b→a:=by intro zz; refine pd ?_; refine TL.nil (ad ?_); exact zz.ok):a:=h ⟨k⟩
theorem oq (k:b) (h:Hk b→a:=by intro zz; refine zm1 ?_; refine dG rfl ?_; exact zz.ok):a:=h ⟨k⟩
theorem o6 (k:b) (h:Hk b→a:=by intro zz; refine fu ?_; refine TC.seq ?_; exact zz.ok):a:=h ⟨k⟩
theorem o3 (k:b) (h:Hk b→a:=by intro zz; refine jh ?_; refine zm0 ?_; exact zz.ok):a:=h ⟨k⟩
theorem kI (k:b) (h:Hk b→a:=by intro zz; refine TC.seq ?_; refine d7 ?_; exact zz.ok):a:=h ⟨k⟩
theorem jm (k:b) (h:Hk b→a:=by intro zz; refine iS ?_; refine TC.block ?_; exact zz.ok):a:=h ⟨k⟩
theorem kw (k:b) (h:Hk b→a:=by intro zz; refine fM ?_; refine zm9 ?_; exact zz.ok):a:=h ⟨k⟩
theorem pQ (k:b) (h:Hk b→a:=by intro zz; refine d3 ?_; refine zm2 ?_; exact zz.ok):a:=h ⟨k⟩
theorem nM (k:b) (h:Hk b→a:=by intro zz; refine zm1 ?_; refine bO rfl ?_; exact zz.ok):a:=h ⟨k⟩
theorem kt (k:b) (h:Hk b→a:=by intro zz; refine iw ?_; refine fz ?_; exact zz.ok):a:=h ⟨k⟩
theorem lA (k:b) (h:Hk b→a:=by intro zz; refine cF rfl rfl rfl rfl rfl (.there _ (.there _ (.there _ (.there _ (.there _ (.here _)))))) rfl rfl (TL.nil (ad (TC.ret ?_))); exact zz.ok):a:=h ⟨k⟩
theorem ly (k:b) (h:Hk b→a:=by intro zz; refine gk ?_; refine az (cr rfl) rfl ?_; refine zm4 ?_; exact zz.ok):a:=h ⟨k⟩
theorem lm (k:b) (h:Hk b→a:=by intro zz; refine rP ?_; refine TL.nil (ad (TC.ret ?_)); exact zz.ok):a:=h ⟨k⟩
theorem pK (k:b) (h:Hk b→a:=by intro zz; refine zm3 ?_; refine zm3 ?_; exact zz.ok):a:=h ⟨k⟩
theorem sm (k:b) (h:Hk b→a:=by intro zz; refine zm5 ?_; refine TF.nil (ad (TC.ret ?_)); exact zz.ok):a:=h ⟨k⟩
theorem si (k:b) (h:Hk b→a:=by intro zz; refine uY ?_; refine lj ?_; refine aH (S1 (S1 (S1 (S1 SN)))) (Hp.le.refl _) (fun _ _ => aM hrs rfl rfl rfl) rfl ?_; exact zz.ok):a:=h ⟨k⟩
theorem rX (k:b) (h:Hk b→a:=by intro zz; refine iA ?_; refine uX ?_; exact zz.ok):a:=h ⟨k⟩
theorem BQ (k:b) (h:Hk b→a:=by intro zz; refine cN ?_; refine dD ?_; exact zz.ok):a:=h ⟨k⟩
theorem vY (k:b) (h:Hk b→a:=by intro zz; refine zm0 ?_; refine TL.run (bV rfl rfl rfl) rfl (TL.nil (ad ?_)); exact zz.ok):a:=h ⟨k⟩
theorem vM (k:b) (h:Hk b→a:=by intro zz; refine gr ?_; refine no ?_; exact zz.ok):a:=h ⟨k⟩
theorem vI (k:b) (h:Hk b→a:=by intro zz; refine zm339 ?_; refine TL.nil (ad ?_); exact zz.ok):a:=h ⟨k⟩
theorem vH (k:b) (h:Hk b→a:=by intro zz; refine TC.region ?_; refine k8 ?_; refine f2 ?_; exact zz.ok):a:=h ⟨k⟩
theorem vB (k:b) (h:Hk b→a:=by intro zz; refine gk ?_; refine gk ?_; exact zz.ok):a:=h ⟨k⟩
theorem vA (k:b) (h:Hk b→a:=by intro zz; refine cF rfl rfl rfl rfl rfl (.there _ (.there _ (.here _))) rfl rfl (TL.nil (ad (TC.ret ?_))); exact zz.ok):a:=h ⟨k⟩
theorem vy (k:b) (h:Hk b→a:=by intro zz; refine bC rfl rfl (ah rfl) rfl ?_; refine kL ?_; exact zz.ok):a:=h ⟨k⟩
theorem vh (k:b) (h:Hk b→a:=by intro zz; refine gt ?_; refine TQ.run (aD rfl (.here _) rfl) rfl ?_; refine iB ?_; exact zz.ok):a:=h ⟨k⟩
theorem u6 (k:b) (h:Hk b→a:=by intro zz; refine d7 ?_; refine f2 ?_; exact zz.ok):a:=h ⟨k⟩
theorem BO (k:b) (h:Hk b→a:=by intro zz; refine cC (ah rfl) rfl rfl ⟨rfl, trivial⟩ (cC (ah rfl) rfl rfl ⟨rfl, trivial⟩ (cC (ah rfl) rfl rfl ⟨rfl, trivial⟩ (cC (ah rfl) rfl rfl ⟨rfl, trivial⟩ ?_))); exact zz.ok):a:=h ⟨k⟩
theorem BL (k:b) (h:Hk b→a:=by intro zz; refine jf rfl rfl rfl rfl (jf rfl rfl rfl rfl (jf rfl rfl rfl rfl (jf rfl rfl rfl rfl ?_))); exact zz.ok):a:=h ⟨k⟩
theorem yC (k:b) (h:Hk b→a:=by intro zz; refine cC (bV rfl rfl rfl) rfl rfl ⟨rfl, rfl, trivial⟩ (cC (bV rfl rfl rfl) rfl rfl ⟨rfl, rfl, trivial⟩ (cC (bV rfl rfl rfl) rfl rfl ⟨rfl, rfl, trivial⟩ (cC (bV rfl rfl rfl) rfl rfl ⟨rfl, rfl, trivial⟩ ?_))); exact zz.ok):a:=h ⟨k⟩
theorem Bt (k:b) (h:Hk b→a:=by intro zz; refine cC (bV rfl rfl rfl) rfl rfl ⟨rfl, trivial⟩ (cC (bV rfl rfl rfl) rfl rfl ⟨rfl, trivial⟩ (cC (bV rfl rfl rfl) rfl rfl ⟨rfl, trivial⟩ (cC (bV rfl rfl rfl) rfl rfl ⟨rfl, trivial⟩ ?_))); exact zz.ok):a:=h ⟨k⟩
theorem ff (k:b) (h:Hk b→a:=by intro zz; refine zm0 ?_; refine eh ?_; exact zz.ok):a:=h ⟨k⟩
theorem f4 (k:b) (h:Hk b→a:=by intro zz; refine TC.seq ?_; refine eJ ?_; exact zz.ok):a:=h ⟨k⟩
theorem gE (k:b) (h:Hk b→a:=by intro zz; refine TL.nil (ad ?_); refine d7 ?_; exact zz.ok):a:=h ⟨k⟩
theorem fL (k:b) (h:Hk b→a:=by intro zz; refine TC.exit (bv (bv (bS ?_))); refine ad ?_; exact zz.ok):a:=h ⟨k⟩
theorem gU (k:b) (h:Hk b→a:=by intro zz; refine eJ ?_; refine zm0 ?_; exact zz.ok):a:=h ⟨k⟩
theorem jt (k:b) (h:Hk b→a:=by intro zz; refine iR ?_; refine zm3 ?_; exact zz.ok):a:=h ⟨k⟩
theorem lf (k:b) (h:Hk b→a:=by intro zz; refine iR ?_; refine dP ?_; exact zz.ok):a:=h ⟨k⟩
theorem it (k:b) (h:Hk b→a:=by intro zz; refine aN (al (al (aN ?_))); refine al ?_; exact zz.ok):a:=h ⟨k⟩
theorem o7 (k:b) (h:Hk b→a:=by intro zz; refine rT ?_; refine zm3 ?_; exact zz.ok):a:=h ⟨k⟩
theorem kj (k:b) (h:Hk b→a:=by intro zz; refine zm2 ?_; refine zm1 ?_; exact zz.ok):a:=h ⟨k⟩
theorem rz (k:b) (h:Hk b→a:=by intro zz; refine eB ?_; refine cI ?_; exact zz.ok):a:=h ⟨k⟩
theorem lG (k:b) (h:Hk b→a:=by intro zz; refine fw ?_; refine zm0 ?_; exact zz.ok):a:=h ⟨k⟩
theorem lC (k:b) (h:Hk b→a:=by intro zz; refine d3 ?_; refine d7 ?_; exact zz.ok):a:=h ⟨k⟩
theorem pN (k:b) (h:Hk b→a:=by intro zz; refine zm9 ?_; refine dD ?_; exact zz.ok):a:=h ⟨k⟩
theorem sJ (k:b) (h:Hk b→a:=by intro zz; refine iP rfl rfl rfl (.here _) rfl ?_; refine gV ?_; exact zz.ok):a:=h ⟨k⟩
theorem pG (k:b) (h:Hk b→a:=by intro zz; refine fu ?_; refine zm2 ?_; exact zz.ok):a:=h ⟨k⟩
theorem pF (k:b) (h:Hk b→a:=by intro zz; refine jh ?_; refine zm3 ?_; exact zz.ok):a:=h ⟨k⟩
theorem sH (k:b) (h:Hk b→a:=by intro zz; refine d7 ?_; refine eU ?_; exact zz.ok):a:=h ⟨k⟩
theorem py (k:b) (h:Hk b→a:=by intro zz; refine fu ?_; refine k6 ?_; exact zz.ok):a:=h ⟨k⟩
theorem sB (k:b) (h:Hk b→a:=by intro zz; refine bj ?_; refine fN ?_; refine TF.back (TF.nil (rh (L' := (b3, _) :: ((b2, _) :: ((b1, _) :: (ob22)))) (ei [[(b3, _)], [(b2, _)], [(b1, _)], ob22] [0, 1, 2, 3] rfl) ?_)); exact zz.ok):a:=h ⟨k⟩
theorem sy (k:b) (h:Hk b→a:=by intro zz; refine gk ?_; refine rQ ?_; exact zz.ok):a:=h ⟨k⟩
theorem ph (k:b) (h:Hk b→a:=by intro zz; refine jm ?_; refine eP ?_; exact zz.ok):a:=h ⟨k⟩
theorem zm232 (k:b) (h:Hk b→a:=by intro zz; refine TC.exit (bv (bS (ad ?_))); refine TC.region ?_; exact zz.ok):a:=h ⟨k⟩
theorem vW (k:b) (h:Hk b→a:=by intro zz; refine a7 (bI rfl hl) rfl ?_; refine zm5 ?_; refine az (af rfl hT rfl (by omega) (by omega)) rfl ?_; refine zm4 ?_; refine a7 (br hT hx rfl rfl) rfl ?_; exact zz.ok):a:=h ⟨k⟩
theorem vT (k:b) (h:Hk b→a:=by intro zz; refine oX ?_; refine ll ?_; exact zz.ok):a:=h ⟨k⟩
theorem rS (k:b) (h:Hk b→a:=by intro zz; refine eh ?_; refine al ?_; exact zz.ok):a:=h ⟨k⟩
theorem vN (k:b) (h:Hk b→a:=by intro zz; refine zm1 ?_; refine zm2 ?_; exact zz.ok):a:=h ⟨k⟩
theorem vL (k:b) (h:Hk b→a:=by intro zz; refine TL.nil (ad ?_); refine gr ?_; exact zz.ok):a:=h ⟨k⟩
theorem vx (k:b) (h:Hk b→a:=by intro zz; refine iv ?_; refine eP ?_; exact zz.ok):a:=h ⟨k⟩
theorem zm6 (k:b) (h:Hk b→a:=by intro zz; refine kj ?_; refine TC.seq ?_; exact zz.ok):a:=h ⟨k⟩
theorem dC (k:b) (h:Hk b→a:=by intro zz; refine jm ?_; refine zm2 ?_; exact zz.ok):a:=h ⟨k⟩
theorem dN (k:b) (h:Hk b→a:=by intro zz; refine d7 ?_; refine zm1 ?_; exact zz.ok):a:=h ⟨k⟩
theorem iy (k:b) (h:Hk b→a:=by intro zz; refine fL ?_; refine TC.seq ?_; exact zz.ok):a:=h ⟨k⟩
theorem km (k:b) (h:Hk b→a:=by intro zz; refine al (aN (al (al ?_))); refine aN (al ?_); exact zz.ok):a:=h ⟨k⟩
theorem kM (k:b) (h:Hk b→a:=by intro zz; refine zm1 ?_; refine d7 ?_; exact zz.ok):a:=h ⟨k⟩
theorem iu (k:b) (h:Hk b→a:=by intro zz; refine kj ?_; refine TC.ret ?_; exact zz.ok):a:=h ⟨k⟩
theorem mE (k:b) (h:Hk b→a:=by intro zz; refine eB ?_; refine dP ?_; exact zz.ok):a:=h ⟨k⟩
theorem tZ (k:b) (h:Hk b→a:=by intro zz; refine zm1 ?_; refine gr ?_; exact zz.ok):a:=h ⟨k⟩
theorem jg (k:b) (h:Hk b→a:=by intro zz; refine kj ?_; refine TC.block ?_; exact zz.ok):a:=h ⟨k⟩
theorem nv (k:b) (h:Hk b→a:=by intro zz; refine kI ?_; refine iz ?_; exact zz.ok):a:=h ⟨k⟩
theorem wi (k:b) (h:Hk b→a:=by intro zz; refine iv ?_; refine zm2 ?_; exact zz.ok):a:=h ⟨k⟩
theorem pq (k:b) (h:Hk b→a:=by intro zz; refine kI ?_; refine fz ?_; exact zz.ok):a:=h ⟨k⟩
theorem po (k:b) (h:Hk b→a:=by intro zz; refine f4 ?_; refine TL.run (ai rfl rfl hL) rfl ?_; exact zz.ok):a:=h ⟨k⟩
theorem wd (k:b) (h:Hk b→a:=by intro zz; refine fw ?_; refine ll ?_; exact zz.ok):a:=h ⟨k⟩
theorem wb (k:b) (h:Hk b→a:=by intro zz; refine eB ?_; refine eq rfl rfl rfl (eq rfl rfl rfl ?_); exact zz.ok):a:=h ⟨k⟩
theorem y6 (k:b) (h:Hk b→a:=by intro zz; refine ad (TC.seq ?_); refine fw ?_; exact zz.ok):a:=h ⟨k⟩
theorem vE (k:b) (h:Hk b→a:=by intro zz; refine d3 ?_; refine eJ ?_; exact zz.ok):a:=h ⟨k⟩
theorem rR (k:b) (h:Hk b→a:=by intro zz; refine gk ?_; refine ly ?_; exact zz.ok):a:=h ⟨k⟩
theorem vm (k:b) (h:Hk b→a:=by intro zz; refine jm ?_; refine k6 ?_; exact zz.ok):a:=h ⟨k⟩
theorem pf (k:b) (h:Hk b→a:=by intro zz; refine jm ?_; refine nn ?_; exact zz.ok):a:=h ⟨k⟩
theorem yE (k:b) (h:Hk b→a:=by intro zz; refine bO rfl ?_; refine ph ?_; exact zz.ok):a:=h ⟨k⟩
theorem pb (k:b) (h:Hk b→a:=by intro zz; refine zm3 ?_; refine eB ?_; exact zz.ok):a:=h ⟨k⟩
theorem o9 (k:b) (h:Hk b→a:=by intro zz; refine bA (ad (TC.region ?_)); refine kr ?_; exact zz.ok):a:=h ⟨k⟩
theorem Bx (k:b) (h:Hk b→a:=by intro zz; refine fN ?_; refine rS ?_; exact zz.ok):a:=h ⟨k⟩
theorem o8 (k:b) (h:Hk b→a:=by intro zz; refine iu ?_; refine al ?_; exact zz.ok):a:=h ⟨k⟩
theorem lg (k:b) (h:Hk b→a:=by intro zz; refine TC.skip ?_; refine o9 ?_; exact zz.ok):a:=h ⟨k⟩
theorem mA (k:b) (h:Hk b→a:=by intro zz; refine TC.seq ?_; refine jg ?_; exact zz.ok):a:=h ⟨k⟩
theorem o5 (k:b) (h:Hk b→a:=by intro zz; refine TL.nil ?_; refine o9 ?_; exact zz.ok):a:=h ⟨k⟩
theorem oY (k:b) (h:Hk b→a:=by intro zz; refine fw ?_; refine zm1 ?_; exact zz.ok):a:=h ⟨k⟩
theorem nN (k:b) (h:Hk b→a:=by intro zz; refine fu ?_; refine fw ?_; exact zz.ok):a:=h ⟨k⟩
theorem sK (k:b) (h:Hk b→a:=by intro zz; refine jm ?_; refine d7 ?_; exact zz.ok):a:=h ⟨k⟩
theorem y8 (k:b) (h:Hk b→a:=by intro zz; refine TC.seq ?_; refine dN ?_; exact zz.ok):a:=h ⟨k⟩
theorem pJ (k:b) (h:Hk b→a:=by intro zz; refine fL ?_; refine zm2 ?_; exact zz.ok):a:=h ⟨k⟩
theorem sC (k:b) (h:Hk b→a:=by intro zz; refine iv ?_; refine d7 ?_; exact zz.ok):a:=h ⟨k⟩
theorem pi (k:b) (h:Hk b→a:=by intro zz; refine gu ?_; refine lm ?_; exact zz.ok):a:=h ⟨k⟩
theorem nl (k:b) (h:Hk b→a:=by intro zz; refine d7 ?_; refine eh ?_; exact zz.ok):a:=h ⟨k⟩
theorem wg (k:b) (h:Hk b→a:=by intro zz; refine ge ?_; refine ff ?_; exact zz.ok):a:=h ⟨k⟩
theorem y7 (k:b) (h:Hk b→a:=by intro zz; refine kj ?_; refine zm2 ?_; exact zz.ok):a:=h ⟨k⟩
theorem zm231 (k:b) (h:Hk b→a:=by intro zz; refine eJ ?_; refine zm1 ?_; exact zz.ok):a:=h ⟨k⟩
theorem zm233 (k:b) (h:Hk b→a:=by intro zz; refine d3 ?_; refine gU ?_; exact zz.ok):a:=h ⟨k⟩
theorem vQ (k:b) (h:Hk b→a:=by intro zz; refine fu ?_; refine kt ?_; exact zz.ok):a:=h ⟨k⟩
theorem vG (k:b) (h:Hk b→a:=by intro zz; refine pd ?_; refine gE ?_; exact zz.ok):a:=h ⟨k⟩
theorem vw (k:b) (h:Hk b→a:=by intro zz; refine rR ?_; refine ar rfl ?_; exact zz.ok):a:=h ⟨k⟩
theorem li (k:b) (h:Hk b→a:=by intro zz; refine bA (ad (TC.region ?_)); refine zm0 ?_; refine kr ?_; exact zz.ok):a:=h ⟨k⟩
theorem ig (k:b) (h:Hk b→a:=by intro zz; refine TC.skip ?_; refine li ?_; exact zz.ok):a:=h ⟨k⟩
theorem or (k:b) (h:Hk b→a:=by intro zz; refine iu ?_; refine aN (al ?_); exact zz.ok):a:=h ⟨k⟩
theorem lF (k:b) (h:Hk b→a:=by intro zz; refine dP ?_; refine o9 ?_; exact zz.ok):a:=h ⟨k⟩
theorem lD (k:b) (h:Hk b→a:=by intro zz; refine TF.back (TF.nil ?_); refine o9 ?_; exact zz.ok):a:=h ⟨k⟩
theorem lz (k:b) (h:Hk b→a:=by intro zz; refine kj ?_; refine d7 ?_; exact zz.ok):a:=h ⟨k⟩
theorem lq (k:b) (h:Hk b→a:=by intro zz; refine TL.nil ?_; refine li ?_; exact zz.ok):a:=h ⟨k⟩
theorem pO (k:b) (h:Hk b→a:=by intro zz; refine iv ?_; refine fw ?_; exact zz.ok):a:=h ⟨k⟩
theorem pL (k:b) (h:Hk b→a:=by intro zz; refine iv ?_; refine gS ?_; exact zz.ok):a:=h ⟨k⟩
theorem pI (k:b) (h:Hk b→a:=by intro zz; refine fL ?_; refine gr ?_; exact zz.ok):a:=h ⟨k⟩
theorem pH (k:b) (h:Hk b→a:=by intro zz; refine iy ?_; refine zm2 ?_; exact zz.ok):a:=h ⟨k⟩
theorem pB (k:b) (h:Hk b→a:=by intro zz; refine jm ?_; refine eJ ?_; exact zz.ok):a:=h ⟨k⟩
theorem pm (k:b) (h:Hk b→a:=by intro zz; refine eJ ?_; refine eh ?_; exact zz.ok):a:=h ⟨k⟩
theorem pj (k:b) (h:Hk b→a:=by intro zz; refine lh ?_; refine pb ?_; exact zz.ok):a:=h ⟨k⟩
theorem sr (k:b) (h:Hk b→a:=by intro zz; refine fL ?_; refine kq ?_; exact zz.ok):a:=h ⟨k⟩
theorem vZ (k:b) (h:Hk b→a:=by intro zz; refine iR ?_; refine ff ?_; exact zz.ok):a:=h ⟨k⟩
theorem y3 (k:b) (h:Hk b→a:=by intro zz; refine yC ?_; refine yC ?_; exact zz.ok):a:=h ⟨k⟩
theorem BP (k:b) (h:Hk b→a:=by intro zz; refine Bt ?_; refine Bt ?_; exact zz.ok):a:=h ⟨k⟩
theorem Bw (k:b) (h:Hk b→a:=by intro zz; refine pf ?_; refine iB ?_; exact zz.ok):a:=h ⟨k⟩
theorem mC (k:b) (h:Hk b→a:=by intro zz; refine iS ?_; refine jg ?_; exact zz.ok):a:=h ⟨k⟩
theorem lI (k:b) (h:Hk b→a:=by intro zz; refine iR ?_; refine pb ?_; exact zz.ok):a:=h ⟨k⟩
theorem lr (k:b) (h:Hk b→a:=by intro zz; refine dP ?_; refine li ?_; exact zz.ok):a:=h ⟨k⟩
theorem ln (k:b) (h:Hk b→a:=by intro zz; refine zm6 ?_; refine d7 ?_; exact zz.ok):a:=h ⟨k⟩
theorem nz (k:b) (h:Hk b→a:=by intro zz; refine f4 ?_; refine TL.run (ai rfl rfl ha) rfl ?_; refine zm1 ?_; exact zz.ok):a:=h ⟨k⟩
theorem ny (k:b) (h:Hk b→a:=by intro zz; refine Bw ?_; refine TQ.run (af rfl ha rfl (by omega) (by omega)) rfl ?_; exact zz.ok):a:=h ⟨k⟩
theorem pw (k:b) (h:Hk b→a:=by intro zz; refine TL.nil (ad ?_); refine mA ?_; exact zz.ok):a:=h ⟨k⟩
theorem sF (k:b) (h:Hk b→a:=by intro zz; refine TL.nil (ad (TC.block ?_)); refine dN ?_; exact zz.ok):a:=h ⟨k⟩
theorem sE (k:b) (h:Hk b→a:=by intro zz; refine kj ?_; refine eJ ?_; exact zz.ok):a:=h ⟨k⟩
theorem sj (k:b) (h:Hk b→a:=by intro zz; refine TF.back (TF.nil ?_); refine li ?_; exact zz.ok):a:=h ⟨k⟩
theorem rV (k:b) (h:Hk b→a:=by intro zz; refine pf ?_; refine yD ?_; exact zz.ok):a:=h ⟨k⟩
theorem we (k:b) (h:Hk b→a:=by intro zz; refine TC.skip (bA (ad ?_)); refine iu ?_; exact zz.ok):a:=h ⟨k⟩
theorem vD (k:b) (h:Hk b→a:=by intro zz; refine aN (al (al (aN ?_))); refine it ?_; exact zz.ok):a:=h ⟨k⟩
theorem vf (k:b) (h:Hk b→a:=by intro zz; refine kq ?_; refine Bx ?_; exact zz.ok):a:=h ⟨k⟩
theorem vd (k:b) (h:Hk b→a:=by intro zz; refine gE ?_; refine eh ?_; exact zz.ok):a:=h ⟨k⟩
theorem Bv (k:b) (h:Hk b→a:=by intro zz; refine bA (ad ?_); refine pi ?_; exact zz.ok):a:=h ⟨k⟩
theorem om (k:b) (h:Hk b→a:=by intro zz; refine TL.nil ?_; refine Bv ?_; exact zz.ok):a:=h ⟨k⟩
theorem nK (k:b) (h:Hk b→a:=by intro zz; refine jm ?_; refine dN ?_; exact zz.ok):a:=h ⟨k⟩
theorem nG (k:b) (h:Hk b→a:=by intro zz; refine fu ?_; refine oY ?_; exact zz.ok):a:=h ⟨k⟩
theorem nF (k:b) (h:Hk b→a:=by intro zz; refine iv ?_; refine dN ?_; exact zz.ok):a:=h ⟨k⟩
theorem ns (k:b) (h:Hk b→a:=by intro zz; refine eB ?_; refine pb ?_; exact zz.ok):a:=h ⟨k⟩
theorem vU (k:b) (h:Hk b→a:=by intro zz; refine zm6 ?_; refine fw ?_; exact zz.ok):a:=h ⟨k⟩
theorem vC (k:b) (h:Hk b→a:=by intro zz; refine TC.exit (bv (bv (bS ?_))); refine o9 ?_; exact zz.ok):a:=h ⟨k⟩
theorem yH (k:b) (h:Hk b→a:=by intro zz; refine eA ?_; refine kI ?_; refine TL.run (dc rfl rfl (by omega) (by omega)) rfl ?_; refine kK ?_; exact zz.ok):a:=h ⟨k⟩
theorem gv (k:b) (h:Hk b→a:=by intro zz; refine fL ?_; refine iu ?_; exact zz.ok):a:=h ⟨k⟩
theorem lH (k:b) (h:Hk b→a:=by intro zz; refine nM ?_; refine o8 ?_; exact zz.ok):a:=h ⟨k⟩
theorem nJ (k:b) (h:Hk b→a:=by intro zz; refine iu ?_; refine it ?_; exact zz.ok):a:=h ⟨k⟩
theorem vP (k:b) (h:Hk b→a:=by intro zz; refine lI ?_; refine dP ?_; exact zz.ok):a:=h ⟨k⟩
theorem vi (k:b) (h:Hk b→a:=by intro zz; refine TC.exit (bv (bv (bS ?_))); refine li ?_; exact zz.ok):a:=h ⟨k⟩
theorem jq (k:b) (h:Hk b→a:=by intro zz; refine zm6 ?_; refine jg ?_; exact zz.ok):a:=h ⟨k⟩
theorem rA (k:b) (h:Hk b→a:=by intro zz; refine fL ?_; refine nl ?_; exact zz.ok):a:=h ⟨k⟩
theorem pM (k:b) (h:Hk b→a:=by intro zz; refine eB ?_; refine pj ?_; exact zz.ok):a:=h ⟨k⟩
theorem vX (k:b) (h:Hk b→a:=by intro zz; refine nl ?_; refine it ?_; exact zz.ok):a:=h ⟨k⟩
theorem vO (k:b) (h:Hk b→a:=by intro zz; refine iu ?_; refine aN ?_; refine it ?_; exact zz.ok):a:=h ⟨k⟩
theorem vn (k:b) (h:Hk b→a:=by intro zz; refine iy ?_; refine jg ?_; exact zz.ok):a:=h ⟨k⟩
theorem nA (k:b) (h:Hk b→a:=by intro zz; refine ln ?_; refine TL.run (ai rfl rfl ha) rfl ?_; refine zm0 ?_; refine TL.run (ai rfl rfl hb) rfl ?_; refine zm1 ?_; exact zz.ok):a:=h ⟨k⟩
theorem pE (k:b) (h:Hk b→a:=by intro zz; refine TC.skip (bA (ad (TC.region ?_))); refine zm187 ?_; refine jd (eA ?_); refine zm6 ?_; exact zz.ok):a:=h ⟨k⟩
theorem se (k:b) (h:Hk b→a:=by intro zz; refine yH ?_; refine yE ?_; exact zz.ok):a:=h ⟨k⟩
theorem uZ (k:b) (h:Hk b→a:=by intro zz; refine ns ?_; refine pb ?_; exact zz.ok):a:=h ⟨k⟩
theorem yF (k:b) (h:Hk b→a:=by intro zz; refine TF.back (TF.nil (bA (ad ?_))); refine TC.region ?_; refine zm0 ?_; refine zm187 ?_; refine jd (eA ?_); refine kI ?_; refine TL.run (dc rfl rfl (by omega) (by omega)) rfl ?_; refine kK ?_; exact zz.ok):a:=h ⟨k⟩
theorem sd (k:b) (h:Hk b→a:=by intro zz; refine yF ?_; refine dG rfl ?_; exact zz.ok):a:=h ⟨k⟩
theorem vR (k:b) (h:Hk b→a:=by intro zz; refine uZ ?_; refine pb ?_; exact zz.ok):a:=h ⟨k⟩
end Go.Sx
