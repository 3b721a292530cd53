import Derived.ProofKit
import Derived.KernelRfl
set_option linter.all false
namespace Go.Sx
structure Hk (b : Prop) : Prop where
  ok : b
variable {a b : Prop}
theorem zm0 (k : b) (h : Hk b → a := by intro zz; refine TL.run (pr_pure rfl) rfl ?_; exact zz.ok) : a := h ⟨k⟩
theorem zm1 (k : b) (h : Hk b → a := by intro zz; refine TL.gdN rfl rfl rfl rfl ?_; exact zz.ok) : a := h ⟨k⟩
theorem zm3 (k : b) (h : Hk b → a := by intro zz; refine TF.pure (pr_field rfl) rfl ?_; exact zz.ok) : a := h ⟨k⟩
theorem zm5 (k : b) (h : Hk b → a := by intro zz; refine TF.pure (pr_pure rfl) rfl ?_; exact zz.ok) : a := h ⟨k⟩
theorem zm6 (k : b) (h : Hk b → a := by intro zz; refine TL.run (pr_field rfl) rfl ?_; exact zz.ok) : a := h ⟨k⟩
theorem zm7 (k : b) (h : Hk b → a := by intro zz; refine TF.loud5 rfl ?_; exact zz.ok) : a := h ⟨k⟩
theorem zm8 (k : b) (h : Hk b → a := by intro zz; refine TL.gdY rfl rfl (pr_pure rfl) rfl ?_; exact zz.ok) : a := h ⟨k⟩
theorem zm14 (k : b) (h : Hk b → a := by intro zz; refine TL.run (pr_build rfl rfl) rfl ?_; exact zz.ok) : a := h ⟨k⟩
theorem zm16 (k : b) (h : Hk b → a := by intro zz; refine TL.run ((by first | exact pr_add rfl rfl (by omega) (by omega) | exact pr_pure rfl)) rfl ?_; exact zz.ok) : a := h ⟨k⟩
theorem zm18 (k : b) (h : Hk b → a := by intro zz; refine TF.pure (pr_build rfl rfl) rfl ?_; exact zz.ok) : a := h ⟨k⟩
theorem zm19 (k : b) (h : Hk b → a := by intro zz; refine TL.run (pr_ownA rfl (.here _) rfl) rfl ?_; exact zz.ok) : a := h ⟨k⟩
theorem zm21 (k : b) (h : Hk b → a := by intro zz; refine TL.run (pr_index rfl rfl (by omega) (by omega)) rfl ?_; exact zz.ok) : a := h ⟨k⟩
theorem zm25 (k : b) (h : Hk b → a := by intro zz; refine TC.drawn (by kernel_rfl) (by kernel_rfl) ?_; exact zz.ok) : a := h ⟨k⟩
theorem zm29 (k : b) (h : Hk b → a := by intro zz; refine TL.run (pr_own1 rfl (.here _) rfl) rfl ?_; exact zz.ok) : a := h ⟨k⟩
theorem zm39 (k : b) (h : Hk b → a := by intro zz; refine TL.storeA rfl rfl rfl rfl rfl (.here _) rfl rfl ?_; exact zz.ok) : a := h ⟨k⟩
theorem zm42 (k : b) (h : Hk b → a := by intro zz; refine TF.still (pr_own1 rfl (.here _) rfl) rfl ?_; exact zz.ok) : a := h ⟨k⟩
theorem zm43 (k : b) (h : Hk b → a := by intro zz; refine TL.gdY rfl rfl (pr_field rfl) rfl ?_; exact zz.ok) : a := h ⟨k⟩
theorem zm54 (k : b) (h : Hk b → a := by intro zz; refine TL.run (pr_nil rfl) rfl ?_; exact zz.ok) : a := h ⟨k⟩
theorem zm68 (k : b) (h : Hk b → a := by intro zz; refine TC.swG (pr_str rfl rfl rfl) rfl rfl ⟨rfl, rfl, trivial⟩ ?_; exact zz.ok) : a := h ⟨k⟩
theorem zm70 (k : b) (h : Hk b → a := by intro zz; refine TL.run (pr_ownA rfl (.there _ (.here _)) rfl) rfl ?_; exact zz.ok) : a := h ⟨k⟩
theorem zm71 (k : b) (h : Hk b → a := by intro zz; refine TF.pure (pr_index rfl rfl (by omega) (by omega)) rfl ?_; exact zz.ok) : a := h ⟨k⟩
theorem zm74 (k : b) (h : Hk b → a := by intro zz; refine TL.store1 rfl rfl rfl (.there _ (.here _)) rfl rfl ?_; exact zz.ok) : a := h ⟨k⟩
theorem zm75 (k : b) (h : Hk b → a := by intro zz; refine TL.gdY rfl rfl (pr_str rfl rfl rfl) rfl ?_; exact zz.ok) : a := h ⟨k⟩
theorem zm80 (k : b) (h : Hk b → a := by intro zz; refine TF.pure (pr_indexSl rfl hs.w rfl (by omega) (by omega)) rfl ?_; exact zz.ok) : a := h ⟨k⟩
theorem zm91 (k : b) (h : Hk b → a := by intro zz; refine TL.run (pr_own1 rfl (.there _ (.there _ (.there _ (.here _)))) rfl) rfl ?_; exact zz.ok) : a := h ⟨k⟩
theorem zm92 (k : b) (h : Hk b → a := by intro zz; refine TQ.run (pr_pure rfl) rfl ?_; exact zz.ok) : a := h ⟨k⟩
theorem zm95 (k : b) (h : Hk b → a := by intro zz; refine TF.still (pr_el1 hs.w hw rfl rfl) rfl ?_; exact zz.ok) : a := h ⟨k⟩
theorem zm96 (k : b) (h : Hk b → a := by intro zz; refine TC.swG (pr_str rfl rfl rfl) rfl rfl ⟨rfl, trivial⟩ ?_; exact zz.ok) : a := h ⟨k⟩
theorem zm110 (k : b) (h : Hk b → a := by intro zz; refine TQ.run (pr_field rfl) rfl ?_; exact zz.ok) : a := h ⟨k⟩
theorem zm111 (k : b) (h : Hk b → a := by intro zz; refine TF.pure (pr_nil rfl) rfl ?_; exact zz.ok) : a := h ⟨k⟩
theorem zm113 (k : b) (h : Hk b → a := by intro zz; refine TL.run (pr_lenS rfl rfl) rfl ?_; exact zz.ok) : a := h ⟨k⟩
theorem zm115 (k : b) (h : Hk b → a := by intro zz; refine TL.run (pr_indexSl rfl hL rfl (by omega) (by omega)) rfl ?_; exact zz.ok) : a := h ⟨k⟩
theorem zm120 (k : b) (h : Hk b → a := by intro zz; refine TL.run (pr_hp1 rfl hmv) rfl ?_; exact zz.ok) : a := h ⟨k⟩
theorem zm125 (k : b) (h : Hk b → a := by intro zz; refine TL.store1 rfl rfl rfl (.there _ (.there _ (.there _ (.here _)))) rfl rfl ?_; exact zz.ok) : a := h ⟨k⟩
theorem zm126 (k : b) (h : Hk b → a := by intro zz; refine TX.front (.there _ (.there _ (.here _))) ?_; exact zz.ok) : a := h ⟨k⟩
theorem zm128 (k : b) (h : Hk b → a := by intro zz; refine TL.storeA rfl rfl rfl rfl rfl (.there _ (.here _)) rfl rfl ?_; exact zz.ok) : a := h ⟨k⟩
theorem zm129 (k : b) (h : Hk b → a := by intro zz; refine TF.back5 (S0 (S1 (S1 (S1 (S1 (S1 SN)))))) (Hp.le.refl _) ?_; exact zz.ok) : a := h ⟨k⟩
theorem zm137 (k : b) (h : Hk b → a := by intro zz; refine TL.run (pr_lenSl rfl rfl hc) rfl ?_; exact zz.ok) : a := h ⟨k⟩
theorem zm143 (k : b) (h : Hk b → a := by intro zz; refine TL.run (pr_lenO rfl rfl hO) rfl ?_; exact zz.ok) : a := h ⟨k⟩
theorem zm154 (k : b) (h : Hk b → a := by intro zz; refine TL.run ((by first | exact pr_sub rfl rfl (by omega) (by omega) | exact pr_pure rfl)) rfl ?_; exact zz.ok) : a := h ⟨k⟩
theorem zm159 (k : b) (h : Hk b → a := by intro zz; refine TL.run (pr_own1 rfl (.there _ (.there _ (.there _ (.there _ (.there _ (.here _)))))) rfl) rfl ?_; exact zz.ok) : a := h ⟨k⟩
theorem zm160 (k : b) (h : Hk b → a := by intro zz; refine TL.run (pr_own1 rfl (.there _ (.there _ (.there _ (.there _ (.there _ (.there _ (.there _ (.here _)))))))) rfl) rfl ?_; exact zz.ok) : a := h ⟨k⟩
theorem zm165 (k : b) (h : Hk b → a := by intro zz; refine TF.still (pr_own1 rfl (.there _ (.there _ (.here _))) rfl) rfl ?_; exact zz.ok) : a := h ⟨k⟩
theorem zm166 (k : b) (h : Hk b → a := by intro zz; refine TL.run (pr_lenStr rfl rfl) rfl ?_; exact zz.ok) : a := h ⟨k⟩
theorem zm167 (k : b) (h : Hk b → a := by intro zz; refine TC.swG (pr_pure rfl) rfl rfl ⟨rfl, rfl, trivial⟩ ?_; exact zz.ok) : a := h ⟨k⟩
theorem zm170 (k : b) (h : Hk b → a := by intro zz; refine TL.run (pr_own1 rfl (.there _ (.here _)) rfl) rfl ?_; exact zz.ok) : a := h ⟨k⟩
theorem zm172 (k : b) (h : Hk b → a := by intro zz; refine TL.gdY rfl rfl (pr_own1 rfl (.here _) rfl) rfl ?_; exact zz.ok) : a := h ⟨k⟩
theorem zm177 (k : b) (h : Hk b → a := by intro zz; refine TL.run (pr_indexSl rfl hc rfl (by omega) (by omega)) rfl ?_; exact zz.ok) : a := h ⟨k⟩
theorem zm181 (k : b) (h : Hk b → a := by intro zz; refine TF.pure (pr_indexO rfl rfl hOc (by omega) (by omega)) rfl ?_; exact zz.ok) : a := h ⟨k⟩
theorem zm183 (k : b) (h : Hk b → a := by intro zz; refine TL.store1 rfl rfl rfl (.there _ (.there _ (.here _))) (by simp; omega) rfl ?_; exact zz.ok) : a := h ⟨k⟩
theorem zm185 (k : b) (h : Hk b → a := by intro zz; refine TL.run (pr_hpA rfl rfl hb.add) rfl ?_; exact zz.ok) : a := h ⟨k⟩
theorem zm190 (k : b) (h : Hk b → a := by intro zz; refine TF.pure (pr_indexSl rfl hrs rfl (by omega) (by omega)) rfl ?_; exact zz.ok) : a := h ⟨k⟩
theorem zm191 (k : b) (h : Hk b → a := by intro zz; refine TF.read (S1 (S1 (S1 (S1 (S1 SN))))) (Hp.le.refl _) (fun _ _ => pr_el0 hrs rfl rfl rfl) rfl ?_; exact zz.ok) : a := h ⟨k⟩
theorem zm204 (k : b) (h : Hk b → a := by intro zz; refine TL.store1 rfl rfl rfl (.here _) rfl rfl ?_; exact zz.ok) : a := h ⟨k⟩
theorem zm205 (k : b) (h : Hk b → a := by intro zz; refine TF.read (S1 (S1 SN)) (Hp.le.refl _) (fun _ _ => pr_own1 rfl (.there _ (.here _)) rfl) rfl ?_; exact zz.ok) : a := h ⟨k⟩
theorem zm206 (k : b) (h : Hk b → a := by intro zz; refine TF.still (pr_own1 rfl (.there _ (.there _ (.there _ (.here _)))) rfl) rfl ?_; exact zz.ok) : a := h ⟨k⟩
theorem zm208 (k : b) (h : Hk b → a := by intro zz; refine TF.back5 (S0 (S1 (S1 (S1 (S1 SN))))) (Hp.le.refl _) ?_; exact zz.ok) : a := h ⟨k⟩
theorem zm209 (k : b) (h : Hk b → a := by intro zz; refine TF.back5 (S1 (S1 (S1 SN))) hle60 ?_; exact zz.ok) : a := h ⟨k⟩
theorem zm228 (k : b) (h : Hk b → a := by intro zz; refine TL.run (pr_indexSl rfl hQ.s rfl (by omega) (by omega)) rfl ?_; exact zz.ok) : a := h ⟨k⟩
theorem zm233 (k : b) (h : Hk b → a := by intro zz; refine TL.run (pr_own1 rfl (.there _ (.there _ (.here _))) rfl) rfl ?_; exact zz.ok) : a := h ⟨k⟩
theorem zm242 (k : b) (h : Hk b → a := by intro zz; refine TF.back5 (S0 (S1 (S1 (S1 SN)))) (Hp.le.refl _) ?_; exact zz.ok) : a := h ⟨k⟩
theorem zm243 (k : b) (h : Hk b → a := by intro zz; refine TL.store1 rfl rfl rfl (.there _ (.there _ (.here _))) rfl rfl ?_; exact zz.ok) : a := h ⟨k⟩
theorem zm246 (k : b) (h : Hk b → a := by intro zz; refine TF.pure ((by first | exact pr_add rfl rfl (by omega) (by omega) | exact pr_pure rfl)) rfl ?_; exact zz.ok) : a := h ⟨k⟩
theorem zm247 (k : b) (h : Hk b → a := by intro zz; refine TL.run (pr_sliceH rfl rfl (by omega) (by omega)) rfl ?_; exact zz.ok) : a := h ⟨k⟩
theorem zm250 (k : b) (h : Hk b → a := by intro zz; refine TL.store1 rfl rfl rfl (.there _ (.there _ (.there _ (.there _ (.there _ (.here _)))))) rfl rfl ?_; exact zz.ok) : a := h ⟨k⟩
theorem zm252 (k : b) (h : Hk b → a := by intro zz; refine TX.front (.there _ (.there _ (.there _ (.there _ (.here _))))) ?_; exact zz.ok) : a := h ⟨k⟩
theorem zm253 (k : b) (h : Hk b → a := by intro zz; refine TF.pure (pr_indexSl rfl hro rfl (by omega) (by omega)) rfl ?_; exact zz.ok) : a := h ⟨k⟩
theorem zm256 (k : b) (h : Hk b → a := by intro zz; refine TF.read (S1 SN) (Hp.le.refl _) (fun _ _ => pr_own1 rfl (.here _) rfl) rfl ?_; exact zz.ok) : a := h ⟨k⟩
theorem zm262 (k : b) (h : Hk b → a := by intro zz; refine TF.back5 (S1 (S1 SN)) (Hp.le.refl _) ?_; exact zz.ok) : a := h ⟨k⟩
theorem zm263 (k : b) (h : Hk b → a := by intro zz; refine TF.pure (pr_lenSl rfl rfl hta) rfl ?_; exact zz.ok) : a := h ⟨k⟩
theorem zm266 (k : b) (h : Hk b → a := by intro zz; refine TL.store1 rfl rfl rfl (.there _ (.here _)) (by simp; omega) rfl ?_; exact zz.ok) : a := h ⟨k⟩
theorem zm267 (k : b) (h : Hk b → a := by intro zz; refine TL.gdY rfl rfl ((by first | exact pr_add rfl rfl (by omega) (by omega) | exact pr_pure rfl)) rfl ?_; exact zz.ok) : a := h ⟨k⟩
theorem zm268 (k : b) (h : Hk b → a := by intro zz; refine TL.front (.there _ (.there _ (.here _))) ?_; exact zz.ok) : a := h ⟨k⟩
theorem zm270 (k : b) (h : Hk b → a := by intro zz; refine TD.leaf [(0, 2), (1, 2), (2, 1), (3, 1), (4, 1), (5, 2), (6, 0)] (by kernel_rfl) (by kernel_rfl) ?_; exact zz.ok) : a := h ⟨k⟩
theorem zm271 (k : b) (h : Hk b → a := by intro zz; refine TL.gdY rfl rfl (pr_indexSl rfl hw rfl (by omega) (by omega)) rfl ?_; exact zz.ok) : a := h ⟨k⟩
theorem zm273 (k : b) (h : Hk b → a := by intro zz; refine TL.callS (enters rfl rfl rfl rfl) (n_MayU_ok s.name) rfl ?_; exact zz.ok) : a := h ⟨k⟩
theorem zm274 (k : b) (h : Hk b → a := by intro zz; refine TL.callS (enters rfl rfl rfl rfl) (goes_ok s.kind) rfl ?_; exact zz.ok) : a := h ⟨k⟩
theorem zm275 (k : b) (h : Hk b → a := by intro zz; refine TL.run (pr_indexSl rfl hr rfl (by omega) (by omega)) rfl ?_; exact zz.ok) : a := h ⟨k⟩
theorem zm278 (k : b) (h : Hk b → a := by intro zz; refine TF.still (pr_own1 rfl (.there _ (.here _)) rfl) rfl ?_; exact zz.ok) : a := h ⟨k⟩
theorem zm279 (k : b) (h : Hk b → a := by intro zz; refine TF.still (pr_ldO1 rfl hOc (.skip _ (.skip _ (.skip _ (.skip _ (.skip _ (.past _ (.past _ .all))))))) hcC rfl) rfl ?_; exact zz.ok) : a := h ⟨k⟩
theorem zm280 (k : b) (h : Hk b → a := by intro zz; refine TL.permL (L' := (b46, _) :: ((b3, _) :: (ob2 ++ ((b14, _) :: ((b30, _) :: ((b2, _) :: (obS ++ (oc)))))))) (perm_cat [[(b14, _)], [(b46, _)], [(b3, _)], [(b30, _)], [(b2, _)], ob2, obS, oc] [1, 2, 5, 0, 3, 4, 6, 7] rfl) ?_; exact zz.ok) : a := h ⟨k⟩
theorem zm281 (k : b) (h : Hk b → a := by intro zz; refine TL.permL (perm_assoc2 (A := ob94) (B := oc94)) ?_; exact zz.ok) : a := h ⟨k⟩
theorem zm282 (k : b) (h : Hk b → a := by intro zz; refine TL.permL (L' := (b46, _) :: ((b3, _) :: (ob94 ++ ((b14, _) :: ((b30, _) :: ((b2, _) :: (obS ++ (oc)))))))) (List.Perm.refl _) ?_; exact zz.ok) : a := h ⟨k⟩
theorem zm283 (k : b) (h : Hk b → a := by intro zz; refine TL.permL (L' := (b14, _) :: ((b46, _) :: ((b3, _) :: ((b30, _) :: ((b2, _) :: (ob94 ++ (obS ++ (oc)))))))) (perm_cat [[(b46, _)], [(b3, _)], ob94, [(b14, _)], [(b30, _)], [(b2, _)], obS, oc] [3, 0, 1, 4, 5, 2, 6, 7] rfl) ?_; exact zz.ok) : a := h ⟨k⟩
theorem zm284 (k : b) (h : Hk b → a := by intro zz; refine TF.pure (pr_indexO rfl rfl hOw (by omega) (by omega)) rfl ?_; exact zz.ok) : a := h ⟨k⟩
theorem zm285 (k : b) (h : Hk b → a := by intro zz; refine TL.permL (L' := (b14, _) :: ((b46, _) :: ((b3, _) :: ((b30, _) :: ((b2, _) :: (ob2 ++ (obS))))))) (perm_end2 [(b14, _), (b46, _), (b3, _), (b30, _), (b2, _)] (A := ob2) (B := obS)) ?_; exact zz.ok) : a := h ⟨k⟩
theorem zm286 (k : b) (h : Hk b → a := by intro zz; refine TL.gdY rfl rfl (pr_lenSl rfl rfl hr) rfl ?_; exact zz.ok) : a := h ⟨k⟩
theorem zm287 (k : b) (h : Hk b → a := by intro zz; refine TL.gdY rfl rfl (pr_lenSl rfl rfl hpt) rfl ?_; exact zz.ok) : a := h ⟨k⟩
theorem zm288 (k : b) (h : Hk b → a := by intro zz; refine TF.still (pr_own1 rfl (.there _ (.here _)) (set_getk (by omega))) rfl ?_; exact zz.ok) : a := h ⟨k⟩
theorem zm289 (k : b) (h : Hk b → a := by intro zz; refine TF.still (pr_ownA rfl (.here _) rfl) rfl ?_; exact zz.ok) : a := h ⟨k⟩
theorem zm292 (k : b) (h : Hk b → a := by intro zz; refine TF.read (S1 (S1 (S1 (S1 SN)))) (Hp.le.refl _) (fun _ _ => pr_ownA rfl (.here _) rfl) rfl ?_; exact zz.ok) : a := h ⟨k⟩
theorem zm293 (k : b) (h : Hk b → a := by intro zz; refine TF.read (S1 (S1 (S1 (S1 (S1 SN))))) (Hp.le.refl _) (fun _ _ => pr_own1 rfl (.there _ (.there _ (.there _ (.here _)))) rfl) rfl ?_; exact zz.ok) : a := h ⟨k⟩
theorem zm294 (k : b) (h : Hk b → a := by intro zz; refine TF.read (S1 (S1 (S1 (S1 (S1 (S1 (S1 SN))))))) (Hp.le.refl _) (fun _ _ => pr_el0 hrs rfl rfl rfl) rfl ?_; exact zz.ok) : a := h ⟨k⟩
theorem zm295 (k : b) (h : Hk b → a := by intro zz; refine TL.store1 rfl rfl rfl (.there _ (.there _ (.there _ (.there _ (.there _ (.there _ (.there _ (.here _)))))))) rfl rfl ?_; exact zz.ok) : a := h ⟨k⟩
theorem zm296 (k : b) (h : Hk b → a := by intro zz; refine TF.read (S1 (S1 (S1 (S1 (S1 (S1 (S1 (S1 (S1 (S1 SN)))))))))) (Hp.le.refl _) (fun _ _ => pr_el0 hrs rfl rfl rfl) rfl ?_; exact zz.ok) : a := h ⟨k⟩
theorem zm297 (k : b) (h : Hk b → a := by intro zz; refine TX.front (.there _ (.there _ (.there _ (.there _ (.there _ (.there _ (.here _))))))) ?_; exact zz.ok) : a := h ⟨k⟩
theorem zm298 (k : b) (h : Hk b → a := by intro zz; refine TF.read (S1 (S1 (S1 (S1 (S1 (S1 (S1 (S1 SN)))))))) (Hp.le.refl _) (fun _ _ => pr_own1 rfl (.there _ (.there _ (.there _ (.there _ (.there _ (.here _)))))) rfl) rfl ?_; exact zz.ok) : a := h ⟨k⟩
theorem zm299 (k : b) (h : Hk b → a := by intro zz; refine TF.read (S1 (S1 (S1 (S1 (S1 (S1 (S1 (S1 (S1 (S1 (S1 (S1 SN)))))))))))) (Hp.le.refl _) (fun _ _ => pr_el0 hrs rfl rfl rfl) rfl ?_; exact zz.ok) : a := h ⟨k⟩
theorem zm300 (k : b) (h : Hk b → a := by intro zz; refine TF.read (S1 (S1 (S1 (S1 (S1 (S1 (S1 (S1 (S1 (S1 (S1 (S1 (S1 (S1 SN)))))))))))))) (Hp.le.refl _) (fun _ _ => pr_own1 rfl (.there _ (.there _ (.there _ (.there _ (.there _ (.there _ (.there _ (.there _ (.there _ (.there _ (.there _ (.here _)))))))))))) rfl) rfl ?_; exact zz.ok) : a := h ⟨k⟩
theorem zm301 (k : b) (h : Hk b → a := by intro zz; refine TQ.run (pr_own1 rfl (.there _ (.here _)) rfl) rfl ?_; exact zz.ok) : a := h ⟨k⟩
theorem zm302 (k : b) (h : Hk b → a := by intro zz; refine TF.read (S0 (S1 (S1 SN))) (Hp.le.refl _) (fun _ _ => pr_own1 rfl (.here _) rfl) rfl ?_; exact zz.ok) : a := h ⟨k⟩
theorem zm303 (k : b) (h : Hk b → a := by intro zz; refine TF.pure (pr_indexSl rfl hps rfl (by omega) (by omega)) rfl ?_; exact zz.ok) : a := h ⟨k⟩
theorem zm304 (k : b) (h : Hk b → a := by intro zz; refine TL.run (pr_indexSl rfl hta rfl (by omega) (by omega)) rfl ?_; exact zz.ok) : a := h ⟨k⟩
theorem zm305 (k : b) (h : Hk b → a := by intro zz; refine TF.pure (pr_indexT (tb := 3) rfl rfl haw12 (by omega) (by omega)) rfl ?_; exact zz.ok) : a := h ⟨k⟩
theorem zm306 (k : b) (h : Hk b → a := by intro zz; refine TL.gdY rfl rfl (pr_strIx rfl rfl (by omega) hc0) rfl ?_; exact zz.ok) : a := h ⟨k⟩
theorem zm308 (k : b) (h : Hk b → a := by intro zz; refine TL.run (pr_indexSl rfl hw rfl (by omega) (by omega)) rfl ?_; exact zz.ok) : a := h ⟨k⟩
theorem zm309 (k : b) (h : Hk b → a := by intro zz; refine TL.callSY rfl rfl (enters rfl rfl rfl rfl) (n_MayU_ok s.peer) rfl ?_; exact zz.ok) : a := h ⟨k⟩
theorem zm310 (k : b) (h : Hk b → a := by intro zz; refine TL.run (pr_own1 rfl (.there _ (.here _)) (is_get (by omega))) rfl ?_; exact zz.ok) : a := h ⟨k⟩
theorem zm311 (k : b) (h : Hk b → a := by intro zz; refine TL.run (pr_indexSl rfl hl rfl (by omega) (by omega)) rfl ?_; exact zz.ok) : a := h ⟨k⟩
theorem zm313 (k : b) (h : Hk b → a := by intro zz; refine TL.run (pr_own1 rfl (.there _ (.there _ (.there _ (.here _)))) (is_get (by omega))) rfl ?_; exact zz.ok) : a := h ⟨k⟩
theorem zm314 (k : b) (h : Hk b → a := by intro zz; refine TL.storeA rfl rfl rfl rfl rfl (.there _ (.there _ (.there _ (.here _)))) rfl rfl ?_; exact zz.ok) : a := h ⟨k⟩
theorem zm315 (k : b) (h : Hk b → a := by intro zz; refine TL.run (pr_indexSl rfl hpt rfl (by omega) (by omega)) rfl ?_; exact zz.ok) : a := h ⟨k⟩
theorem zm316 (k : b) (h : Hk b → a := by intro zz; refine TL.run (pr_indexSl rfl hPq rfl (by omega) (by omega)) rfl ?_; exact zz.ok) : a := h ⟨k⟩
theorem zm317 (k : b) (h : Hk b → a := by intro zz; refine TL.callS (enters rfl rfl rfl rfl) (fault_ok 1502 i k) rfl ?_; exact zz.ok) : a := h ⟨k⟩
theorem zm318 (k : b) (h : Hk b → a := by intro zz; refine TL.run (pr_own1 rfl (.there _ (.there _ (.here _))) (is_get (by omega))) rfl ?_; exact zz.ok) : a := h ⟨k⟩
theorem zm319 (k : b) (h : Hk b → a := by intro zz; refine TL.storeA rfl rfl rfl rfl rfl (.there _ (.there _ (.there _ (.there _ (.there _ (.here _)))))) rfl rfl ?_; exact zz.ok) : a := h ⟨k⟩
theorem zm320 (k : b) (h : Hk b → a := by intro zz; refine TL.permL (L' := (b3, _) :: ((b2, _) :: [])) (List.Perm.refl _) ?_; exact zz.ok) : a := h ⟨k⟩
theorem zm321 (k : b) (h : Hk b → a := by intro zz; refine TL.storeA rfl rfl rfl rfl rfl (.there _ (.there _ (.here _))) rfl rfl ?_; exact zz.ok) : a := h ⟨k⟩
theorem zm324 (k : b) (h : Hk b → a := by intro zz; refine TQ.run (pr_indexSl rfl hl rfl (by omega) (by omega)) rfl ?_; exact zz.ok) : a := h ⟨k⟩
theorem zm325 (k : b) (h : Hk b → a := by intro zz; refine TF.pure (pr_indexSl rfl hll22 rfl (by omega) (by omega)) rfl ?_; exact zz.ok) : a := h ⟨k⟩
theorem zm326 (k : b) (h : Hk b → a := by intro zz; refine TD.leafR [true, true, true, true] [(0, 1), (1, 4), (2, 1), (3, 4), (4, 1), (5, 4), (6, 1), (7, 4), (8, 1), (9, 4), (10, 1), (11, 4), (12, 1), (13, 1), (14, 1), (15, 3), (16, 1), (17, 3), (18, 5), (19, 1), (20, 0)] (by kernel_rfl) (by kernel_rfl) ?_; exact zz.ok) : a := h ⟨k⟩
theorem zm327 (k : b) (h : Hk b → a := by intro zz; refine TF.back5 (S0 (S0 (S1 (S1 (S1 (S1 SN)))))) (Hp.le.refl _) ?_; exact zz.ok) : a := h ⟨k⟩
theorem zm329 (k : b) (h : Hk b → a := by intro zz; refine TF.pure (pr_sub rfl rfl (by omega) (by omega)) rfl ?_; exact zz.ok) : a := h ⟨k⟩
theorem zm330 (k : b) (h : Hk b → a := by intro zz; refine TF.back5 (S1 (S1 (S1 (S1 (S1 SN))))) (Hp.le.refl _) ?_; exact zz.ok) : a := h ⟨k⟩
theorem zm331 (k : b) (h : Hk b → a := by intro zz; refine TF.back5 (S0 (S0 (S1 (S1 (S1 (S1 (S1 SN))))))) (Hp.le.refl _) ?_; exact zz.ok) : a := h ⟨k⟩
theorem zm332 (k : b) (h : Hk b → a := by intro zz; refine TL.run (pr_indexO rfl rfl hO112 (by simp) (by simp)) rfl ?_; exact zz.ok) : a := h ⟨k⟩
theorem zm333 (k : b) (h : Hk b → a := by intro zz; refine TL.store1 rfl rfl rfl (.there _ (.there _ (.there _ (.there _ (.there _ (.there _ (.there _ (.there _ (.there _ (.here _)))))))))) rfl rfl ?_; exact zz.ok) : a := h ⟨k⟩
theorem zm334 (k : b) (h : Hk b → a := by intro zz; refine TL.run (pr_own1 rfl (.there _ (.there _ (.there _ (.there _ (.there _ (.there _ (.there _ (.there _ (.there _ (.here _)))))))))) rfl) rfl ?_; exact zz.ok) : a := h ⟨k⟩
theorem zm335 (k : b) (h : Hk b → a := by intro zz; refine TX.front (.there _ (.there _ (.there _ (.there _ (.there _ (.there _ (.there _ (.there _ (.here _))))))))) ?_; exact zz.ok) : a := h ⟨k⟩
theorem zm338 (k : b) (h : Hk b → a := by intro zz; refine TF.read (S1 (S1 (S1 (S1 (S1 (S1 (S1 (S1 (S1 SN))))))))) (Hp.le.refl _) (fun _ _ => pr_own1 rfl (.there _ (.there _ (.there _ (.there _ (.there _ (.there _ (.there _ (.here _)))))))) rfl) rfl ?_; exact zz.ok) : a := h ⟨k⟩
theorem zm340 (k : b) (h : Hk b → a := by intro zz; refine TL.run (pr_indexSl rfl hf rfl (by omega) (by omega)) rfl ?_; exact zz.ok) : a := h ⟨k⟩
theorem zm341 (k : b) (h : Hk b → a := by intro zz; refine TF.read (S1 SN) (Hp.le.refl _) (fun _ _ => pr_ownQ rfl (.here _) rfl) rfl ?_; exact zz.ok) : a := h ⟨k⟩
theorem zm342 (k : b) (h : Hk b → a := by intro zz; refine TL.gdY rfl rfl (pr_indexSl rfl hA rfl (by omega) (by omega)) rfl ?_; exact zz.ok) : a := h ⟨k⟩
theorem zm344 (k : b) (h : Hk b → a := by intro zz; refine TL.callS (enters rfl rfl rfl rfl) (mBare_ok 0) rfl ?_; exact zz.ok) : a := h ⟨k⟩
theorem zm345 (k : b) (h : Hk b → a := by intro zz; refine TL.callS (enters rfl rfl rfl rfl) (procName_ok p rr (by omega) (by omega)) rfl ?_; exact zz.ok) : a := h ⟨k⟩
theorem zm346 (k : b) (h : Hk b → a := by intro zz; refine TD.leafR [true, true, true, false, false] [(0, 1), (1, 1), (3, 1), (4, 1), (5, 1), (6, 1), (7, 2), (2, 5), (8, 5), (9, 5), (10, 3), (11, 1), (12, 0)] (by kernel_rfl) (by kernel_rfl) ?_; exact zz.ok) : a := h ⟨k⟩
theorem zm347 (k : b) (h : Hk b → a := by intro zz; refine TD.leafR [true, true, true, false, false] [(0, 1), (1, 1), (3, 1), (4, 1), (5, 1), (6, 1), (2, 5), (7, 2), (8, 5), (9, 5), (10, 3), (11, 1), (12, 0)] (by kernel_rfl) (by kernel_rfl) ?_; exact zz.ok) : a := h ⟨k⟩
theorem zm348 (k : b) (h : Hk b → a := by intro zz; refine TD.leafR [true, true] [(0, 1), (1, 1), (2, 1), (3, 4), (4, 1), (5, 1), (6, 1), (7, 4), (8, 1), (9, 1), (10, 4), (11, 1), (12, 1), (13, 4), (14, 3), (15, 5)] (by kernel_rfl) (by kernel_rfl) ?_; exact zz.ok) : a := h ⟨k⟩
theorem zm349 (k : b) (h : Hk b → a := by intro zz; refine TF.pure (pr_indexSl rfl hty rfl (by omega) (by omega)) rfl ?_; exact zz.ok) : a := h ⟨k⟩
theorem zm350 (k : b) (h : Hk b → a := by intro zz; refine TF.read (S1 (S1 SN)) (Hp.le.refl _) (fun _ _ => pr_el1 hty hGg rfl rfl) rfl ?_; exact zz.ok) : a := h ⟨k⟩
theorem zm351 (k : b) (h : Hk b → a := by intro zz; refine TF.pure (pr_indexSl rfl hts rfl (by omega) (by omega)) rfl ?_; exact zz.ok) : a := h ⟨k⟩
theorem zm352 (k : b) (h : Hk b → a := by intro zz; refine TF.read (S1 (S1 SN)) (Hp.le.refl _) (fun _ _ => pr_elA hts htx rfl rfl) rfl ?_; exact zz.ok) : a := h ⟨k⟩
theorem zm353 (k : b) (h : Hk b → a := by intro zz; refine TF.read (S1 (S1 (S1 (S1 SN)))) (Hp.le.refl _) (fun _ _ => pr_own1 rfl (.there _ (.there _ (.here _))) rfl) rfl ?_; exact zz.ok) : a := h ⟨k⟩
theorem zm354 (k : b) (h : Hk b → a := by intro zz; refine TF.read (S1 (S1 SN)) (Hp.le.refl _) (fun _ _ => pr_own1 rfl (.here _) rfl) rfl ?_; exact zz.ok) : a := h ⟨k⟩
theorem zm355 (k : b) (h : Hk b → a := by intro zz; refine TL.gdY rfl rfl (pr_lenSl rfl rfl (hP.qs x (List.mem_of_getElem? hx)).pa) rfl ?_; exact zz.ok) : a := h ⟨k⟩
theorem zm356 (k : b) (h : Hk b → a := by intro zz; refine TL.permL (L' := (b46, _) :: ((b3, _) :: (ob1 ++ ((b14, _) :: ((b30, _) :: ((b2, _) :: (obS))))))) (perm_cat [[(b14, _)], [(b46, _)], [(b3, _)], [(b30, _)], [(b2, _)], ob1, obS] [1, 2, 5, 0, 3, 4, 6] rfl) ?_; exact zz.ok) : a := h ⟨k⟩
theorem zm357 (k : b) (h : Hk b → a := by intro zz; refine TL.permL (L' := (b46, (stepB q.terms s (m, o)).2.1.map (Value.int .i64)) :: ((b3, _) :: (ob71 ++ ((b14, _) :: ((b30, _) :: ((b2, _) :: (obS))))))) (List.Perm.refl _) ?_; exact zz.ok) : a := h ⟨k⟩
theorem zm358 (k : b) (h : Hk b → a := by intro zz; refine TL.permL (L' := (b14, _) :: ((b46, _) :: ((b3, _) :: ((b30, _) :: ((b2, _) :: (ob71 ++ (obS))))))) (perm_cat [[(b46, _)], [(b3, _)], ob71, [(b14, _)], [(b30, _)], [(b2, _)], obS] [3, 0, 1, 4, 5, 2, 6] rfl) ?_; exact zz.ok) : a := h ⟨k⟩
theorem zm359 (k : b) (h : Hk b → a := by intro zz; refine TL.permL (perm_nest2 [(b14, _), (b46, _), (b3, _), (b30, _), (b2, _)] (A := ob71) (B := obS) (C := ob76)) ?_; exact zz.ok) : a := h ⟨k⟩
theorem zm360 (k : b) (h : Hk b → a := by intro zz; refine TC.permL (L' := (b14, _) :: ((b46, _) :: ((b3, _) :: ((b30, _) :: ((b2, _) :: (ob71 ++ (obS ++ (ob76)))))))) (perm_cat [[(b14, _)], [(b46, _)], [(b3, _)], [(b30, _)], [(b2, _)], ob71, obS, ob76] [0, 1, 2, 3, 4, 5, 6, 7] rfl) ?_; exact zz.ok) : a := h ⟨k⟩
theorem zm361 (k : b) (h : Hk b → a := by intro zz; refine TD.leaf [(0, 1), (1, 2), (2, 1), (3, 1), (4, 1), (5, 2), (6, 1), (7, 1), (8, 1), (9, 2), (10, 0), (11, 1), (12, 1), (13, 0)] (by kernel_rfl) (by kernel_rfl) ?_; exact zz.ok) : a := h ⟨k⟩
theorem zm362 (k : b) (h : Hk b → a := by intro zz; refine TD.leaf [(0, 1), (2, 1), (3, 1), (4, 1), (5, 2), (6, 1), (7, 1), (8, 1), (9, 2), (10, 0), (1, 2), (11, 1), (12, 1), (13, 0)] (by kernel_rfl) (by kernel_rfl) ?_; exact zz.ok) : a := h ⟨k⟩
theorem zm363 (k : b) (h : Hk b → a := by intro zz; refine TL.permL (perm_nest3 [(b14, _), (b46, _), (b3, _), (b30, _), (b2, _)] (A := ob2) (B := obS) (D := oc) (C := ob101)) ?_; exact zz.ok) : a := h ⟨k⟩
theorem zm364 (k : b) (h : Hk b → a := by intro zz; refine TC.permL (L' := (b14, _) :: ((b46, _) :: ((b3, _) :: ((b30, _) :: ((b2, _) :: (ob2 ++ (obS ++ (oc ++ (ob101))))))))) (perm_cat [[(b14, _)], [(b46, _)], [(b3, _)], [(b30, _)], [(b2, _)], ob2, obS, oc, ob101] [0, 1, 2, 3, 4, 5, 6, 7, 8] rfl) ?_; exact zz.ok) : a := h ⟨k⟩
theorem zm365 (k : b) (h : Hk b → a := by intro zz; refine TD.leaf [(0, 1), (1, 2), (2, 1), (3, 1), (4, 1), (5, 2), (6, 1), (7, 1), (8, 1), (9, 2), (10, 1), (11, 2), (12, 1), (13, 1), (14, 0)] (by kernel_rfl) (by kernel_rfl) ?_; exact zz.ok) : a := h ⟨k⟩
theorem zm366 (k : b) (h : Hk b → a := by intro zz; refine TF.still (pr_ldO1 rfl hOw (.skip _ (.skip _ (.skip _ (.skip _ (.skip _ (.past _ (.past _ (.past _ .all)))))))) hwW rfl) rfl ?_; exact zz.ok) : a := h ⟨k⟩
theorem zm367 (k : b) (h : Hk b → a := by intro zz; refine TF.still (pr_own1 rfl (.there _ (.there _ (.there _ (.here _)))) (is_get (by omega))) rfl ?_; exact zz.ok) : a := h ⟨k⟩
theorem zm368 (k : b) (h : Hk b → a := by intro zz; refine TL.gdY rfl rfl (pr_lenSl rfl rfl (hP.ps x (List.mem_of_getElem? hx)).a) rfl ?_; exact zz.ok) : a := h ⟨k⟩
theorem zm369 (k : b) (h : Hk b → a := by intro zz; refine TL.gdY rfl rfl (pr_ownA rfl (.there _ (.there _ (.there _ (.here _)))) rfl) rfl ?_; exact zz.ok) : a := h ⟨k⟩
theorem zm370 (k : b) (h : Hk b → a := by intro zz; refine TL.run (pr_ownA rfl (.there _ (.there _ (.there _ (.there _ (.here _))))) rfl) rfl ?_; exact zz.ok) : a := h ⟨k⟩
theorem zm371 (k : b) (h : Hk b → a := by intro zz; refine TL.callSY rfl rfl (enters rfl rfl rfl rfl) (opens_ok s hP hs hl.2.1) rfl ?_; exact zz.ok) : a := h ⟨k⟩
theorem zm372 (k : b) (h : Hk b → a := by intro zz; refine TL.gdY rfl rfl (pr_ownA rfl (.there _ (.there _ (.here _))) rfl) rfl ?_; exact zz.ok) : a := h ⟨k⟩
theorem zm373 (k : b) (h : Hk b → a := by intro zz; refine TL.run (pr_own1 rfl (.there _ (.there _ (.there _ (.there _ (.here _))))) rfl) rfl ?_; exact zz.ok) : a := h ⟨k⟩
theorem zm374 (k : b) (h : Hk b → a := by intro zz; refine TL.storeA rfl rfl rfl rfl rfl (.there _ (.there _ (.there _ (.there _ (.here _))))) rfl rfl ?_; exact zz.ok) : a := h ⟨k⟩
theorem zm375 (k : b) (h : Hk b → a := by intro zz; refine TD.leafR [true, true, true] [(0, 1), (1, 1), (2, 1), (3, 1), (4, 1), (5, 4), (6, 4), (7, 3), (8, 5), (9, 1), (10, 1), (11, 1), (12, 0)] (by kernel_rfl) (by kernel_rfl) ?_; exact zz.ok) : a := h ⟨k⟩
theorem zm376 (k : b) (h : Hk b → a := by intro zz; refine TF.read (S1 (S1 (S1 SN))) (Hp.le.refl _) (fun _ _ => pr_ownA rfl (.here _) rfl) rfl ?_; exact zz.ok) : a := h ⟨k⟩
theorem zm377 (k : b) (h : Hk b → a := by intro zz; refine TD.leafR [false, false] [(0, 1), (1, 1), (3, 1), (4, 1), (5, 1), (6, 1), (7, 2), (2, 5), (8, 5), (9, 5), (10, 5), (11, 1)] (by kernel_rfl) (by kernel_rfl) ?_; exact zz.ok) : a := h ⟨k⟩
theorem zm378 (k : b) (h : Hk b → a := by intro zz; refine TD.leafR [false, false] [(0, 1), (1, 1), (3, 1), (4, 1), (5, 1), (6, 1), (2, 5), (7, 2), (8, 5), (9, 5), (10, 5), (11, 1)] (by kernel_rfl) (by kernel_rfl) ?_; exact zz.ok) : a := h ⟨k⟩
theorem zm379 (k : b) (h : Hk b → a := by intro zz; refine TL.run (PR.to (pr_ldO1 rfl hO58 (.skip _ (.skip _ (.skip _ (.skip _ (.skip _ (.skip _ .all)))))) rfl rfl) (rfl : _ = Value.slice (some ⟨b55, 0, none⟩) 2 2)) rfl ?_; exact zz.ok) : a := h ⟨k⟩
theorem zm381 (k : b) (h : Hk b → a := by intro zz; refine TD.leafR [true, true, true, true, true, false] [(0, 1), (1, 4), (2, 1), (3, 4), (4, 1), (5, 1), (6, 4), (7, 1), (8, 4), (9, 1), (10, 1), (11, 1), (12, 4), (13, 1), (14, 1), (15, 1), (17, 1), (18, 4), (19, 1), (20, 1), (16, 5), (21, 1), (22, 3), (23, 1), (24, 3), (25, 5), (26, 1), (27, 0)] (by kernel_rfl) (by kernel_rfl) ?_; exact zz.ok) : a := h ⟨k⟩
theorem zm382 (k : b) (h : Hk b → a := by intro zz; refine TF.back5 (S0 (S0 (S1 (S1 (S1 (S1 (S1 (S1 (S1 SN))))))))) (Hp.le.refl _) ?_; exact zz.ok) : a := h ⟨k⟩
theorem zm383 (k : b) (h : Hk b → a := by intro zz; refine TD.leafR [true, true, true, true, true, true, true, true, true, true] [(0, 1), (1, 4), (2, 1), (3, 4), (4, 1), (5, 1), (6, 4), (7, 1), (8, 4), (9, 1), (10, 1), (11, 1), (12, 4), (13, 1), (14, 1), (15, 4), (16, 1), (17, 1), (18, 1), (19, 3), (20, 1), (21, 3), (22, 5), (23, 1), (24, 0)] (by kernel_rfl) (by kernel_rfl) ?_; exact zz.ok) : a := h ⟨k⟩
theorem zm384 (k : b) (h : Hk b → a := by intro zz; refine TF.read (S1 (S1 (S1 (S1 (S1 (S1 (S1 (S1 (S1 (S1 SN)))))))))) (Hp.le.refl _) (fun _ _ => pr_own1 rfl (.there _ (.there _ (.there _ (.there _ (.there _ (.there _ (.there _ (.here _)))))))) rfl) rfl ?_; exact zz.ok) : a := h ⟨k⟩
theorem zm385 (k : b) (h : Hk b → a := by intro zz; refine TF.back5 (S0 (S0 (S1 (S1 (S1 (S1 (S1 (S1 (S1 (S1 (S1 (S1 SN)))))))))))) (Hp.le.refl _) ?_; exact zz.ok) : a := h ⟨k⟩
theorem zm386 (k : b) (h : Hk b → a := by intro zz; refine TF.read (S1 (S1 (S1 (S1 (S1 (S1 (S1 (S1 SN)))))))) (Hp.le.refl _) (fun _ _ => pr_el0 hrs rfl rfl rfl) rfl ?_; exact zz.ok) : a := h ⟨k⟩
theorem zm387 (k : b) (h : Hk b → a := by intro zz; refine TF.read (S1 (S1 (S1 (S1 (S1 (S1 (S1 (S1 (S1 SN))))))))) (Hp.le.refl _) (fun _ _ => pr_el0 hrs rfl rfl rfl) rfl ?_; exact zz.ok) : a := h ⟨k⟩
theorem zm388 (k : b) (h : Hk b → a := by intro zz; refine TD.leafR [true, true, true, true, true, true, true, true, true, true, true, true] [(0, 1), (1, 4), (2, 1), (3, 4), (4, 1), (5, 1), (6, 4), (7, 1), (8, 4), (9, 1), (10, 1), (11, 1), (12, 4), (13, 1), (14, 1), (15, 4), (16, 1), (17, 1), (18, 1), (19, 3), (20, 1), (21, 3), (22, 5), (23, 1), (24, 0)] (by kernel_rfl) (by kernel_rfl) ?_; exact zz.ok) : a := h ⟨k⟩
theorem zm389 (k : b) (h : Hk b → a := by intro zz; refine TF.read (S1 (S1 (S1 (S1 (S1 (S1 (S1 (S1 (S1 (S1 (S1 (S1 SN)))))))))))) (Hp.le.refl _) (fun _ _ => pr_own1 rfl (.there _ (.there _ (.there _ (.there _ (.there _ (.there _ (.there _ (.there _ (.there _ (.here _)))))))))) rfl) rfl ?_; exact zz.ok) : a := h ⟨k⟩
theorem zm390 (k : b) (h : Hk b → a := by intro zz; refine TF.back5 (S0 (S0 (S1 (S1 (S1 (S1 (S1 (S1 (S1 (S1 (S1 (S1 (S1 (S1 SN)))))))))))))) (Hp.le.refl _) ?_; exact zz.ok) : a := h ⟨k⟩
theorem zm391 (k : b) (h : Hk b → a := by intro zz; refine TL.store1 rfl rfl rfl (.there _ (.there _ (.there _ (.there _ (.there _ (.there _ (.there _ (.there _ (.there _ (.there _ (.there _ (.here _)))))))))))) rfl rfl ?_; exact zz.ok) : a := h ⟨k⟩
theorem zm392 (k : b) (h : Hk b → a := by intro zz; refine TF.read (S1 (S1 (S1 (S1 (S1 (S1 (S1 (S1 (S1 (S1 (S1 (S1 (S1 (S1 SN)))))))))))))) (Hp.le.refl _) (fun _ _ => pr_el0 hrs rfl rfl rfl) rfl ?_; exact zz.ok) : a := h ⟨k⟩
theorem zm393 (k : b) (h : Hk b → a := by intro zz; refine TX.front (.there _ (.there _ (.there _ (.there _ (.there _ (.there _ (.there _ (.there _ (.there _ (.there _ (.here _))))))))))) ?_; exact zz.ok) : a := h ⟨k⟩
theorem zm394 (k : b) (h : Hk b → a := by intro zz; refine TF.pure (pr_concat rfl rfl (by simp only [List.length_append, List.length_cons, List.length_nil]; omega)) rfl ?_; exact zz.ok) : a := h ⟨k⟩
theorem zm395 (k : b) (h : Hk b → a := by intro zz; refine TF.read (S1 SN) (Hp.le.refl _) (fun _ _ => pr_ownA rfl (.here _) rfl) rfl ?_; exact zz.ok) : a := h ⟨k⟩
theorem zm396 (k : b) (h : Hk b → a := by intro zz; refine TD.leafR [true] [(0, 1), (1, 1), (2, 1), (3, 4), (4, 1), (5, 1), (6, 1), (7, 4), (8, 1), (9, 5), (10, 1)] (by kernel_rfl) (by kernel_rfl) ?_; exact zz.ok) : a := h ⟨k⟩
theorem zm398 (k : b) (h : Hk b → a := by intro zz; refine TL.run (pr_concat rfl rfl (by simp only [List.length_append, List.length_cons, List.length_nil]; omega)) rfl ?_; exact zz.ok) : a := h ⟨k⟩
theorem zm399 (k : b) (h : Hk b → a := by intro zz; refine TQ.run (pr_concat rfl rfl (by simp only [List.length_append, List.length_cons, List.length_nil]; omega)) rfl ?_; exact zz.ok) : a := h ⟨k⟩
theorem zm400 (k : b) (h : Hk b → a := by intro zz; refine TF.read (S1 (S1 SN)) (Hp.le.refl _) (fun _ _ => pr_el0 hro hrx rfl rfl) rfl ?_; exact zz.ok) : a := h ⟨k⟩
theorem zm401 (k : b) (h : Hk b → a := by intro zz; refine TF.pure (pr_indexT (tb := 3) rfl rfl haw3 (by omega) (by omega)) rfl ?_; exact zz.ok) : a := h ⟨k⟩
theorem zm402 (k : b) (h : Hk b → a := by intro zz; refine TD.leafR [true, true, true, true, true] [(0, 1), (1, 1), (2, 1), (3, 1), (4, 4), (5, 1), (6, 1), (7, 1), (8, 1), (9, 1), (10, 4), (11, 1), (12, 1), (13, 1), (14, 2), (15, 1), (16, 1), (17, 3), (18, 5), (19, 1), (20, 1), (21, 5)] (by kernel_rfl) (by kernel_rfl) ?_; exact zz.ok) : a := h ⟨k⟩
theorem zm403 (k : b) (h : Hk b → a := by intro zz; refine TF.pure (pr_indexT (tb := 3) rfl rfl haw9 (by omega) (by omega)) rfl ?_; exact zz.ok) : a := h ⟨k⟩
theorem zm404 (k : b) (h : Hk b → a := by intro zz; refine TD.leafR [true, true, true, true, true] [(0, 1), (1, 1), (2, 1), (3, 1), (4, 4), (5, 1), (6, 1), (7, 1), (8, 1), (9, 1), (10, 4), (11, 1), (12, 1), (13, 1), (14, 2), (15, 4), (16, 3), (17, 5), (18, 1), (19, 1), (20, 5)] (by kernel_rfl) (by kernel_rfl) ?_; exact zz.ok) : a := h ⟨k⟩
theorem zm405 (k : b) (h : Hk b → a := by intro zz; refine TF.still (pr_bag rfl hcw12 (.skip _ (.skip _ (.skip _ (.skip _ (.skip _ .all)))))) rfl ?_; exact zz.ok) : a := h ⟨k⟩
theorem zm406 (k : b) (h : Hk b → a := by intro zz; refine TF.read (S1 (S1 (S1 (S1 (S1 SN))))) (Hp.le.refl _) (fun _ _ => pr_ownA rfl (.here _) rfl) rfl ?_; exact zz.ok) : a := h ⟨k⟩
theorem zm407 (k : b) (h : Hk b → a := by intro zz; refine TF.read (S1 (S1 (S1 (S1 (S1 (S1 SN)))))) (Hp.le.refl _) (fun _ _ => pr_own1 rfl (.there _ (.there _ (.there _ (.there _ (.here _))))) rfl) rfl ?_; exact zz.ok) : a := h ⟨k⟩
theorem zm408 (k : b) (h : Hk b → a := by intro zz; refine TF.pure (pr_indexT (tb := 3) rfl rfl haw19 (by omega) (by omega)) rfl ?_; exact zz.ok) : a := h ⟨k⟩
theorem zm409 (k : b) (h : Hk b → a := by intro zz; refine TF.pure (pr_indexT (tb := 3) rfl rfl haw18 (by omega) (by omega)) rfl ?_; exact zz.ok) : a := h ⟨k⟩
theorem zm410 (k : b) (h : Hk b → a := by intro zz; refine TF.pure (pr_indexT (tb := 3) rfl rfl haw16 (by omega) (by omega)) rfl ?_; exact zz.ok) : a := h ⟨k⟩
theorem zm411 (k : b) (h : Hk b → a := by intro zz; refine TL.callS (enters rfl rfl rfl rfl) (tMay_ok ⟨[], [⟨1, [120], [⟨[120], ck, cn, 0⟩], (some ⟨b5, 0, none⟩, 1)⟩], (some ⟨b7, 0, none⟩, 1)⟩ ⟨hT7, by intro t ht; simp at ht; subst ht; exact ⟨hA5, by intro a ha; simp at ha; subst ha; exact hn⟩⟩ hM) rfl ?_; exact zz.ok) : a := h ⟨k⟩
theorem zm412 (k : b) (h : Hk b → a := by intro zz; refine TL.permL (L' := (b46, _) :: ((b3, _) :: ((b30, _) :: ((b2, _) :: [])))) (perm_cat [[(b46, _)], [(b30, _)], [(b3, _)], [(b2, _)]] [0, 2, 1, 3] rfl) ?_; exact zz.ok) : a := h ⟨k⟩
theorem zm413 (k : b) (h : Hk b → a := by intro zz; refine TL.permL (L' := (b14, _) :: ((b46, _) :: ((b3, _) :: ((b30, _) :: ((b2, _) :: (ob66 ++ (obS))))))) (perm_cat [[(b46, _)], [(b3, _)], ob66, [(b14, _)], [(b30, _)], [(b2, _)], obS] [3, 0, 1, 4, 5, 2, 6] rfl) ?_; exact zz.ok) : a := h ⟨k⟩
theorem zm414 (k : b) (h : Hk b → a := by intro zz; refine TL.permL (L' := (b46, _) :: ((b3, _) :: (ob66 ++ ((b14, _) :: ((b30, _) :: ((b2, _) :: (obS))))))) (perm_cat [[(b14, _)], [(b46, _)], [(b3, _)], [(b30, _)], [(b2, _)], ob66, obS] [1, 2, 5, 0, 3, 4, 6] rfl) ?_; exact zz.ok) : a := h ⟨k⟩
theorem zm415 (k : b) (h : Hk b → a := by intro zz; refine TL.permL (L' := (b46, (stepA q.terms s (m, o)).1.map (Value.int .i64)) :: (b3, _) :: (ob66 ++ ((b14, _) :: ((b30, _) :: ((b2, _) :: (obS)))))) (by rw [hA]) ?_; exact zz.ok) : a := h ⟨k⟩
theorem zm416 (k : b) (h : Hk b → a := by intro zz; refine TL.permL (L' := (b46, (stepA q.terms s (m, o)).1.map (Value.int .i64)) :: (b3, _) :: (ob1 ++ ((b14, _) :: ((b30, _) :: ((b2, _) :: (obS)))))) (by rw [hA]) ?_; exact zz.ok) : a := h ⟨k⟩
theorem zm417 (k : b) (h : Hk b → a := by intro zz; refine TL.permL (L' := (b46, _) :: ((b3, _) :: ((b30, _) :: ((b2, _) :: (ob1 ++ (obS)))))) (perm_cat [[(b46, _)], [(b3, _)], [(b30, _)], [(b2, _)], ob1, obS] [0, 1, 2, 3, 4, 5] rfl) ?_; exact zz.ok) : a := h ⟨k⟩
theorem zm418 (k : b) (h : Hk b → a := by intro zz; refine TD.leaf [(0, 1), (1, 1), (2, 1), (3, 1), (4, 1), (5, 2), (6, 1), (7, 1), (8, 1), (9, 2), (10, 3), (11, 0), (12, 1), (13, 0)] (by kernel_rfl) (by kernel_rfl) ?_; exact zz.ok) : a := h ⟨k⟩
theorem zm419 (k : b) (h : Hk b → a := by intro zz; refine TL.permL (L' := (b8, _) :: ((b5, _) :: ((b3, _) :: ((b2, _) :: (ob1 ++ (ob11)))))) (perm_end1 [(b8, _), (b5, _), (b3, _), (b2, _)] (A := ob1 ++ ob11)) ?_; exact zz.ok) : a := h ⟨k⟩
theorem zm420 (k : b) (h : Hk b → a := by intro zz; refine TL.permL (L' := (b13, _) :: ((b10, _) :: ((b3, _) :: ((b2, _) :: (ob2 ++ (ob12)))))) (perm_end1 [(b13, _), (b10, _), (b3, _), (b2, _)] (A := ob2 ++ ob12)) ?_; exact zz.ok) : a := h ⟨k⟩
theorem zm421 (k : b) (h : Hk b → a := by intro zz; refine TL.run (pr_concat rfl rfl (by have := (itoa_var (n := V.names + 1) (by omega) (by omega)).1; simp only [List.length_cons, List.length_nil]; omega)) rfl ?_; exact zz.ok) : a := h ⟨k⟩
theorem zm422 (k : b) (h : Hk b → a := by intro zz; refine TL.run (pr_concat rfl rfl (by have := (itoa_var (n := r63) (by have := hr63.1; omega) (by have := hr63.2.1 (by omega); omega)).1; simp only [List.length_cons, List.length_nil]; omega)) rfl ?_; exact zz.ok) : a := h ⟨k⟩
theorem zm423 (k : b) (h : Hk b → a := by intro zz; refine TL.run (PR.to (pr_sub rfl rfl (by simp only [List.length_cons, List.length_nil]; omega) (by simp only [List.length_cons, List.length_nil]; omega)) (congrArg (Value.int .i64) (by simp only [List.length_cons, List.length_nil]; omega))) rfl ?_; exact zz.ok) : a := h ⟨k⟩
theorem zm424 (k : b) (h : Hk b → a := by intro zz; refine TD.leafR [false] [(0, 1), (2, 1), (3, 1), (4, 1), (5, 1), (8, 1), (9, 1), (11, 1), (12, 1), (1, 3), (6, 1), (7, 2), (10, 5), (13, 5), (14, 1), (15, 3), (16, 5), (17, 1)] (by kernel_rfl) (by kernel_rfl) ?_; exact zz.ok) : a := h ⟨k⟩
theorem zm425 (k : b) (h : Hk b → a := by intro zz; refine TD.leafR [false] [(0, 1), (2, 1), (3, 1), (4, 1), (5, 1), (8, 1), (9, 1), (11, 1), (12, 1), (1, 3), (6, 1), (10, 5), (7, 2), (13, 5), (14, 1), (15, 3), (16, 5), (17, 1)] (by kernel_rfl) (by kernel_rfl) ?_; exact zz.ok) : a := h ⟨k⟩
theorem zm426 (k : b) (h : Hk b → a := by intro zz; refine TD.leafR [false] [(0, 1), (2, 1), (3, 1), (4, 1), (5, 1), (8, 1), (9, 1), (11, 1), (12, 1), (1, 3), (6, 1), (10, 5), (13, 5), (7, 2), (14, 1), (15, 3), (16, 5), (17, 1)] (by kernel_rfl) (by kernel_rfl) ?_; exact zz.ok) : a := h ⟨k⟩
theorem zm427 (k : b) (h : Hk b → a := by intro zz; refine TD.leafR [true, true, false] [(0, 1), (1, 4), (2, 1), (3, 4), (4, 1), (5, 1), (6, 4), (7, 1), (8, 4), (9, 1), (10, 1), (11, 4), (12, 1), (13, 1), (14, 1), (15, 1), (16, 5), (17, 1), (18, 3), (19, 5), (20, 1), (21, 0)] (by kernel_rfl) (by kernel_rfl) ?_; exact zz.ok) : a := h ⟨k⟩
theorem zm428 (k : b) (h : Hk b → a := by intro zz; refine TD.leafR [true, true, true, true, true, false] [(0, 1), (1, 4), (2, 1), (3, 4), (4, 1), (5, 1), (6, 1), (7, 4), (8, 1), (9, 4), (10, 1), (11, 4), (12, 1), (13, 5), (14, 1), (15, 3), (16, 1), (17, 3), (18, 5), (19, 1), (20, 0)] (by kernel_rfl) (by kernel_rfl) ?_; exact zz.ok) : a := h ⟨k⟩
theorem zm429 (k : b) (h : Hk b → a := by intro zz; refine TL.run (PR.to (pr_ldO1 rfl hO112 (.skip _ (.skip _ (.skip _ (.skip _ (.skip _ (.skip _ (.skip _ (.skip _ .all)))))))) rfl rfl) (rfl : _ = Value.slice (some ⟨b55, 0, none⟩) 2 2)) rfl ?_; exact zz.ok) : a := h ⟨k⟩
theorem zm430 (k : b) (h : Hk b → a := by intro zz; refine TD.leafR [true, true, true, true, true, true, true, false] [(0, 1), (1, 4), (2, 1), (3, 4), (4, 1), (5, 1), (6, 1), (7, 4), (8, 1), (9, 4), (10, 1), (11, 4), (12, 1), (13, 5), (14, 1), (15, 3), (16, 1), (17, 3), (18, 5), (19, 1), (20, 0)] (by kernel_rfl) (by kernel_rfl) ?_; exact zz.ok) : a := h ⟨k⟩
theorem zm431 (k : b) (h : Hk b → a := by intro zz; refine TL.run (PR.to (pr_ldO1 rfl hO112 (.skip _ (.skip _ (.skip _ (.skip _ (.skip _ (.skip _ (.skip _ (.skip _ (.skip _ (.skip _ .all)))))))))) rfl rfl) (rfl : _ = Value.slice (some ⟨b55, 0, none⟩) 2 2)) rfl ?_; exact zz.ok) : a := h ⟨k⟩
theorem zm432 (k : b) (h : Hk b → a := by intro zz; refine TL.store1 rfl rfl rfl (.there _ (.there _ (.there _ (.there _ (.there _ (.there _ (.there _ (.there _ (.there _ (.there _ (.here _))))))))))) rfl rfl ?_; exact zz.ok) : a := h ⟨k⟩
theorem zm433 (k : b) (h : Hk b → a := by intro zz; refine TL.run (pr_ownA rfl (.there _ (.there _ (.there _ (.there _ (.there _ (.there _ (.there _ (.there _ (.there _ (.there _ (.here _))))))))))) rfl) rfl ?_; exact zz.ok) : a := h ⟨k⟩
theorem zm434 (k : b) (h : Hk b → a := by intro zz; refine TL.storeA rfl rfl rfl rfl rfl (.there _ (.there _ (.there _ (.there _ (.there _ (.there _ (.there _ (.there _ (.there _ (.there _ (.there _ (.here _)))))))))))) rfl rfl ?_; exact zz.ok) : a := h ⟨k⟩
theorem zm435 (k : b) (h : Hk b → a := by intro zz; refine TL.run (PR.to (pr_ldO1 rfl hO91_0 (.skip _ (.skip _ (.skip _ (.skip _ (.skip _ (.skip _ (.skip _ (.skip _ .all)))))))) rfl rfl) (rfl : _ = Value.slice (some ⟨b88, 0, none⟩) 1 1)) rfl ?_; exact zz.ok) : a := h ⟨k⟩
theorem zm436 (k : b) (h : Hk b → a := by intro zz; refine TL.run (PR.to (pr_ldO1 rfl hO91_0 (.skip _ (.skip _ (.skip _ (.skip _ (.skip _ (.skip _ (.skip _ (.skip _ .all)))))))) rfl rfl) (rfl : _ = Value.slice (some ⟨b55, 0, none⟩) 2 2)) rfl ?_; exact zz.ok) : a := h ⟨k⟩
theorem zm437 (k : b) (h : Hk b → a := by intro zz; refine TD.leafR [true, true, true, true, true, true, true, true] [(0, 1), (1, 4), (2, 1), (3, 4), (4, 1), (5, 1), (6, 4), (7, 1), (8, 4), (9, 1), (10, 1), (11, 1), (12, 4), (13, 1), (14, 1), (15, 4), (16, 1), (17, 1), (18, 1), (19, 3), (20, 1), (21, 3), (22, 5), (23, 1), (24, 0)] (by kernel_rfl) (by kernel_rfl) ?_; exact zz.ok) : a := h ⟨k⟩
theorem zm438 (k : b) (h : Hk b → a := by intro zz; refine TL.store1 rfl rfl rfl (.there _ (.there _ (.there _ (.there _ (.there _ (.there _ (.there _ (.there _ (.here _))))))))) rfl rfl ?_; exact zz.ok) : a := h ⟨k⟩
theorem zm439 (k : b) (h : Hk b → a := by intro zz; refine TL.run (pr_ownA rfl (.there _ (.there _ (.there _ (.there _ (.there _ (.there _ (.there _ (.there _ (.here _))))))))) rfl) rfl ?_; exact zz.ok) : a := h ⟨k⟩
theorem zm440 (k : b) (h : Hk b → a := by intro zz; refine TL.storeA rfl rfl rfl rfl rfl (.there _ (.there _ (.there _ (.there _ (.there _ (.there _ (.there _ (.there _ (.there _ (.here _)))))))))) rfl rfl ?_; exact zz.ok) : a := h ⟨k⟩
theorem zm441 (k : b) (h : Hk b → a := by intro zz; refine TD.leafR [true, true, true, true, true, true, true, false] [(0, 1), (1, 4), (2, 1), (3, 4), (4, 1), (5, 1), (6, 4), (7, 1), (8, 4), (9, 1), (10, 1), (11, 1), (12, 4), (13, 1), (14, 1), (15, 1), (17, 1), (18, 4), (19, 1), (20, 1), (16, 5), (21, 1), (22, 3), (23, 1), (24, 3), (25, 5), (26, 1), (27, 0)] (by kernel_rfl) (by kernel_rfl) ?_; exact zz.ok) : a := h ⟨k⟩
theorem zm442 (k : b) (h : Hk b → a := by intro zz; refine TF.read (S1 (S1 (S1 (S1 (S1 (S1 (S1 SN))))))) (Hp.le.refl _) (fun _ _ => pr_own1 rfl (.there _ (.there _ (.there _ (.there _ (.there _ (.here _)))))) rfl) rfl ?_; exact zz.ok) : a := h ⟨k⟩
theorem zm443 (k : b) (h : Hk b → a := by intro zz; refine TD.leafR [true, true, true, true, true, true, true, true, true, false] [(0, 1), (1, 4), (2, 1), (3, 4), (4, 1), (5, 1), (6, 1), (7, 4), (8, 1), (9, 4), (10, 1), (11, 4), (12, 1), (13, 5), (14, 1), (15, 3), (16, 1), (17, 3), (18, 5), (19, 1), (20, 0)] (by kernel_rfl) (by kernel_rfl) ?_; exact zz.ok) : a := h ⟨k⟩
theorem zm444 (k : b) (h : Hk b → a := by intro zz; refine TL.run (PR.to (pr_ldO1 rfl hO112 (.skip _ (.skip _ (.skip _ (.skip _ (.skip _ (.skip _ (.skip _ (.skip _ (.skip _ (.skip _ (.skip _ (.skip _ .all)))))))))))) rfl rfl) (rfl : _ = Value.slice (some ⟨b55, 0, none⟩) 2 2)) rfl ?_; exact zz.ok) : a := h ⟨k⟩
theorem zm445 (k : b) (h : Hk b → a := by intro zz; refine TD.leafR [true, true, true, true, true, true, true, true, true, true, true, true, true, true] [(0, 1), (1, 4), (2, 1), (3, 4), (4, 1), (5, 1), (6, 4), (7, 1), (8, 4), (9, 1), (10, 1), (11, 1), (12, 4), (13, 1), (14, 1), (15, 4), (16, 1), (17, 1), (18, 1), (19, 3), (20, 1), (21, 3), (22, 5), (23, 1), (24, 0)] (by kernel_rfl) (by kernel_rfl) ?_; exact zz.ok) : a := h ⟨k⟩
theorem zm446 (k : b) (h : Hk b → a := by intro zz; refine TL.store1 rfl rfl rfl (.there _ (.there _ (.there _ (.there _ (.there _ (.there _ (.there _ (.there _ (.there _ (.there _ (.there _ (.there _ (.there _ (.here _)))))))))))))) rfl rfl ?_; exact zz.ok) : a := h ⟨k⟩
theorem zm447 (k : b) (h : Hk b → a := by intro zz; refine TL.run (pr_own1 rfl (.there _ (.there _ (.there _ (.there _ (.there _ (.there _ (.there _ (.there _ (.there _ (.there _ (.there _ (.there _ (.there _ (.here _)))))))))))))) rfl) rfl ?_; exact zz.ok) : a := h ⟨k⟩
theorem zm448 (k : b) (h : Hk b → a := by intro zz; refine TL.store1 rfl rfl rfl (.there _ (.there _ (.there _ (.there _ (.there _ (.there _ (.there _ (.there _ (.there _ (.there _ (.there _ (.there _ (.there _ (.there _ (.here _))))))))))))))) rfl rfl ?_; exact zz.ok) : a := h ⟨k⟩
theorem zm449 (k : b) (h : Hk b → a := by intro zz; refine TL.run (pr_ownA rfl (.there _ (.there _ (.there _ (.there _ (.there _ (.there _ (.there _ (.there _ (.there _ (.there _ (.there _ (.there _ (.there _ (.there _ (.here _))))))))))))))) rfl) rfl ?_; exact zz.ok) : a := h ⟨k⟩
theorem zm450 (k : b) (h : Hk b → a := by intro zz; refine TL.storeA rfl rfl rfl rfl rfl (.there _ (.there _ (.there _ (.there _ (.there _ (.there _ (.there _ (.there _ (.there _ (.there _ (.there _ (.there _ (.there _ (.there _ (.there _ (.here _)))))))))))))))) rfl rfl ?_; exact zz.ok) : a := h ⟨k⟩
theorem zm451 (k : b) (h : Hk b → a := by intro zz; refine TX.front (.there _ (.there _ (.there _ (.there _ (.there _ (.there _ (.there _ (.there _ (.there _ (.there _ (.there _ (.there _ (.here _))))))))))))) ?_; exact zz.ok) : a := h ⟨k⟩
theorem zm452 (k : b) (h : Hk b → a := by intro zz; refine TL.run (PR.to (pr_ldO1 rfl hO91_1 (.skip _ (.skip _ (.skip _ (.skip _ (.skip _ (.skip _ (.skip _ (.skip _ (.skip _ (.skip _ .all)))))))))) rfl rfl) (rfl : _ = Value.slice (some ⟨b88x, 0, none⟩) 1 1)) rfl ?_; exact zz.ok) : a := h ⟨k⟩
theorem zm453 (k : b) (h : Hk b → a := by intro zz; refine TL.run (PR.to (pr_ldO1 rfl hO91_1 (.skip _ (.skip _ (.skip _ (.skip _ (.skip _ (.skip _ (.skip _ (.skip _ (.skip _ (.skip _ .all)))))))))) rfl rfl) (rfl : _ = Value.slice (some ⟨b55, 0, none⟩) 2 2)) rfl ?_; exact zz.ok) : a := h ⟨k⟩
theorem zm454 (k : b) (h : Hk b → a := by intro zz; refine TL.run (pr_own1 rfl (.there _ (.there _ (.there _ (.there _ (.there _ (.there _ (.there _ (.there _ (.there _ (.there _ (.there _ (.here _)))))))))))) rfl) rfl ?_; exact zz.ok) : a := h ⟨k⟩
theorem zm455 (k : b) (h : Hk b → a := by intro zz; refine TL.store1 rfl rfl rfl (.there _ (.there _ (.there _ (.there _ (.there _ (.there _ (.there _ (.there _ (.there _ (.there _ (.there _ (.there _ (.here _))))))))))))) rfl rfl ?_; exact zz.ok) : a := h ⟨k⟩
theorem zm456 (k : b) (h : Hk b → a := by intro zz; refine TL.run (pr_ownA rfl (.there _ (.there _ (.there _ (.there _ (.there _ (.there _ (.there _ (.there _ (.there _ (.there _ (.there _ (.there _ (.here _))))))))))))) rfl) rfl ?_; exact zz.ok) : a := h ⟨k⟩
theorem zm457 (k : b) (h : Hk b → a := by intro zz; refine TL.storeA rfl rfl rfl rfl rfl (.there _ (.there _ (.there _ (.there _ (.there _ (.there _ (.there _ (.there _ (.there _ (.there _ (.there _ (.there _ (.there _ (.here _)))))))))))))) rfl rfl ?_; exact zz.ok) : a := h ⟨k⟩
theorem zm458 (k : b) (h : Hk b → a := by intro zz; refine TD.leaf [(0, 1), (1, 1), (2, 2), (3, 1), (4, 1), (5, 2), (6, 1), (7, 1), (8, 2), (9, 1), (10, 3), (11, 0), (12, 1)] (by kernel_rfl) (by kernel_rfl) ?_; exact zz.ok) : a := h ⟨k⟩
theorem zm459 (k : b) (h : Hk b → a := by intro zz; refine TD.leafR [true] [(0, 4), (1, 1), (2, 4), (3, 1), (4, 1), (5, 3), (6, 5), (7, 5), (8, 1), (9, 1), (10, 1)] (by kernel_rfl) (by kernel_rfl) ?_; exact zz.ok) : a := h ⟨k⟩
theorem zm460 (k : b) (h : Hk b → a := by intro zz; refine TD.leafR [true] [(0, 1), (1, 1), (2, 1), (3, 4), (4, 1), (5, 1), (6, 1), (7, 4), (8, 1), (9, 1), (10, 1), (11, 4), (12, 5)] (by kernel_rfl) (by kernel_rfl) ?_; exact zz.ok) : a := h ⟨k⟩
theorem zm461 (k : b) (h : Hk b → a := by intro zz; refine TD.leafR [true] [(0, 1), (1, 1), (2, 1), (3, 1), (4, 4), (5, 1), (6, 1), (7, 1), (8, 4), (9, 1), (10, 4), (11, 3), (12, 5)] (by kernel_rfl) (by kernel_rfl) ?_; exact zz.ok) : a := h ⟨k⟩
theorem zm462 (k : b) (h : Hk b → a := by intro zz; refine TD.leaf [(0, 2), (1, 1), (2, 2), (3, 1), (4, 1), (5, 2), (6, 3), (7, 1), (8, 1), (9, 1), (10, 3), (11, 0), (12, 1)] (by kernel_rfl) (by kernel_rfl) ?_; exact zz.ok) : a := h ⟨k⟩
theorem zm463 (k : b) (h : Hk b → a := by intro zz; refine TD.leaf [(0, 2), (1, 1), (2, 2), (3, 1), (4, 1), (5, 2), (10, 3), (6, 3), (7, 1), (8, 1), (9, 1), (11, 0), (12, 1)] (by kernel_rfl) (by kernel_rfl) ?_; exact zz.ok) : a := h ⟨k⟩
theorem zm464 (k : b) (h : Hk b → a := by intro zz; refine TD.leafR [true, true, true] [(0, 1), (1, 1), (2, 1), (3, 1), (4, 4), (5, 1), (6, 1), (7, 1), (8, 1), (9, 1), (10, 4), (11, 1), (12, 1), (13, 1), (14, 5)] (by kernel_rfl) (by kernel_rfl) ?_; exact zz.ok) : a := h ⟨k⟩
theorem zm465 (k : b) (h : Hk b → a := by intro zz; refine TD.leafR [false, true, true] [(0, 1), (1, 1), (2, 1), (3, 4), (4, 1), (5, 1), (6, 4), (7, 1), (8, 1), (9, 1), (10, 4), (11, 1), (12, 1), (13, 1), (14, 4), (15, 1), (16, 1), (17, 4), (18, 5), (19, 1)] (by kernel_rfl) (by kernel_rfl) ?_; exact zz.ok) : a := h ⟨k⟩
theorem zm466 (k : b) (h : Hk b → a := by intro zz; refine TD.leafR [false, true, true] [(0, 1), (1, 1), (2, 1), (3, 4), (4, 1), (5, 4), (6, 1), (7, 1), (8, 1), (9, 4), (10, 1), (11, 1), (12, 4), (13, 1), (14, 4), (15, 5), (16, 1)] (by kernel_rfl) (by kernel_rfl) ?_; exact zz.ok) : a := h ⟨k⟩
theorem zm467 (k : b) (h : Hk b → a := by intro zz; refine TD.leafR [false, true, false, false] [(0, 1), (2, 1), (3, 4), (4, 1), (1, 5), (5, 1), (6, 5), (7, 1), (8, 5), (9, 1), (10, 0)] (by kernel_rfl) (by kernel_rfl) ?_; exact zz.ok) : a := h ⟨k⟩
theorem zm468 (k : b) (h : Hk b → a := by intro zz; refine TD.leafR [true, true, false, false] [(0, 1), (1, 4), (2, 1), (3, 4), (4, 1), (5, 1), (6, 4), (7, 4), (8, 1), (9, 4), (10, 1), (11, 1), (12, 4), (14, 1), (15, 1), (16, 1), (17, 1), (18, 2), (13, 3), (19, 5), (20, 5), (21, 3), (22, 1), (23, 3), (24, 5), (25, 1), (26, 0)] (by kernel_rfl) (by kernel_rfl) ?_; exact zz.ok) : a := h ⟨k⟩
theorem zm469 (k : b) (h : Hk b → a := by intro zz; refine TD.leafR [true, true, true] [(0, 1), (1, 1), (2, 1), (3, 1), (4, 4), (5, 1), (6, 1), (7, 1), (8, 1), (9, 1), (10, 4), (11, 1), (12, 1), (13, 1), (14, 2), (15, 1), (16, 1), (17, 1), (18, 1), (19, 4), (20, 1), (21, 1), (22, 3), (23, 5), (24, 1), (25, 1), (26, 5)] (by kernel_rfl) (by kernel_rfl) ?_; exact zz.ok) : a := h ⟨k⟩
theorem zm470 (k : b) (h : Hk b → a := by intro zz; refine TD.leafR [false, true, true, true, true] [(0, 1), (1, 4), (2, 1), (3, 4), (4, 1), (5, 5), (6, 1), (7, 5), (8, 1), (9, 0)] (by kernel_rfl) (by kernel_rfl) ?_; exact zz.ok) : a := h ⟨k⟩
theorem zm471 (k : b) (h : Hk b → a := by intro zz; refine TD.leafR [true, true, true, true] [(0, 1), (1, 4), (2, 1), (3, 1), (4, 1), (5, 4), (6, 1), (7, 1), (8, 1), (9, 1), (10, 4), (11, 1), (12, 1), (13, 3), (14, 5)] (by kernel_rfl) (by kernel_rfl) ?_; exact zz.ok) : a := h ⟨k⟩
theorem zm472 (k : b) (h : Hk b → a := by intro zz; refine TD.leafR [true, true, true, false, false] [(0, 1), (1, 1), (2, 4), (3, 1), (4, 4), (5, 1), (6, 1), (7, 1), (8, 4), (9, 5)] (by kernel_rfl) (by kernel_rfl) ?_; exact zz.ok) : a := h ⟨k⟩
theorem zm473 (k : b) (h : Hk b → a := by intro zz; refine TD.leafR [true, true, true, true, true, true] [(0, 1), (1, 1), (2, 1), (3, 1), (4, 4), (5, 1), (6, 1), (7, 1), (8, 1), (9, 1), (10, 4), (11, 1), (12, 1), (13, 1), (14, 2), (15, 4), (16, 3), (17, 5), (18, 1), (19, 1), (20, 5)] (by kernel_rfl) (by kernel_rfl) ?_; exact zz.ok) : a := h ⟨k⟩
theorem zm474 (k : b) (h : Hk b → a := by intro zz; refine TD.leafR [true, true, false, false] [(0, 1), (1, 4), (2, 1), (3, 1), (4, 4), (5, 1), (6, 5), (7, 1), (8, 2), (9, 1)] (by kernel_rfl) (by kernel_rfl) ?_; exact zz.ok) : a := h ⟨k⟩
theorem zm475 (k : b) (h : Hk b → a := by intro zz; refine TD.leafR [true, true, false] [(0, 1), (1, 4), (2, 1), (3, 1), (4, 4), (5, 1), (6, 4), (7, 1), (8, 1), (9, 4), (10, 1), (11, 1), (12, 1), (13, 1), (14, 1), (15, 1), (16, 4), (17, 5), (18, 3), (19, 5), (20, 1), (21, 0)] (by kernel_rfl) (by kernel_rfl) ?_; exact zz.ok) : a := h ⟨k⟩
theorem zm476 (k : b) (h : Hk b → a := by intro zz; refine TD.leafR [true, true, false] [(0, 1), (1, 4), (2, 1), (3, 1), (4, 4), (5, 5), (6, 3), (7, 5), (8, 1), (9, 0)] (by kernel_rfl) (by kernel_rfl) ?_; exact zz.ok) : a := h ⟨k⟩
theorem zm477 (k : b) (h : Hk b → a := by intro zz; refine TD.leaf [(0, 1), (1, 1), (2, 1), (3, 2), (4, 1), (5, 2), (6, 1), (7, 1), (8, 1), (9, 2), (10, 3), (11, 0), (12, 1), (13, 0)] (by kernel_rfl) (by kernel_rfl) ?_; exact zz.ok) : a := h ⟨k⟩
theorem zm478 (k : b) (h : Hk b → a := by intro zz; refine TD.leaf [(0, 1), (1, 1), (2, 2), (3, 1), (4, 1), (5, 1), (6, 2), (7, 1), (8, 0), (9, 1), (10, 0)] (by kernel_rfl) (by kernel_rfl) ?_; exact zz.ok) : a := h ⟨k⟩
theorem zm479 (k : b) (h : Hk b → a := by intro zz; refine TD.leaf [(0, 1), (1, 1), (2, 2), (3, 1), (4, 1), (5, 1), (7, 1), (8, 0), (6, 2), (9, 1), (10, 0)] (by kernel_rfl) (by kernel_rfl) ?_; exact zz.ok) : a := h ⟨k⟩
theorem zm480 (k : b) (h : Hk b → a := by intro zz; refine TD.leaf [(0, 1), (1, 1), (3, 1), (7, 1), (8, 0), (2, 2), (4, 1), (5, 1), (6, 2), (9, 1), (10, 0)] (by kernel_rfl) (by kernel_rfl) ?_; exact zz.ok) : a := h ⟨k⟩
theorem zm481 (k : b) (h : Hk b → a := by intro zz; refine TX.permL (L' := (b3, _) :: ((b2, _) :: ((b1, _) :: (ob22)))) (perm_cat [[(b3, _)], [(b2, _)], [(b1, _)], ob22] [0, 1, 2, 3] rfl) ?_; exact zz.ok) : a := h ⟨k⟩
theorem zm482 (k : b) (h : Hk b → a := by intro zz; refine TX.permL (L' := (b136, _) :: ((b14, _) :: ((b46, _) :: ((b3, _) :: ((b30, _) :: ((b2, _) :: (ob2 ++ (ob137)))))))) (perm_cat [[(b136, _)], [(b14, _)], [(b46, _)], [(b3, _)], [(b30, _)], [(b2, _)], ob2, ob137] [0, 1, 2, 3, 4, 5, 6, 7] rfl) ?_; exact zz.ok) : a := h ⟨k⟩
theorem zm483 (k : b) (h : Hk b → a := by intro zz; refine TD.leafR [true, true, false] [(1, 1), (6, 1), (0, 3), (2, 5), (3, 1), (4, 2), (5, 3), (7, 5), (8, 1), (9, 1), (10, 2), (11, 1), (12, 1)] (by kernel_rfl) (by kernel_rfl) ?_; exact zz.ok) : a := h ⟨k⟩
theorem zm484 (k : b) (h : Hk b → a := by intro zz; refine TD.leafR [true, true, false] [(1, 1), (6, 1), (0, 3), (2, 5), (3, 1), (5, 3), (7, 5), (4, 2), (8, 1), (9, 1), (10, 2), (11, 1), (12, 1)] (by kernel_rfl) (by kernel_rfl) ?_; exact zz.ok) : a := h ⟨k⟩
theorem zm485 (k : b) (h : Hk b → a := by intro zz; refine TL.run (PR.to (pr_sub rfl rfl (by simp only [List.length_append, List.length_cons, List.length_nil]; omega) (by simp only [List.length_append, List.length_cons, List.length_nil]; omega)) (congrArg (Value.int .i64) (show _ = (rows.length : Int) from by simp only [List.length_append, List.length_cons, List.length_nil]; omega))) rfl ?_; exact zz.ok) : a := h ⟨k⟩
theorem zm486 (k : b) (h : Hk b → a := by intro zz; refine TD.leafR [true, true, true, true] [(0, 1), (1, 4), (2, 1), (3, 1), (4, 1), (5, 4), (6, 4), (7, 1), (8, 1), (9, 3), (10, 5), (11, 1), (12, 0)] (by kernel_rfl) (by kernel_rfl) ?_; exact zz.ok) : a := h ⟨k⟩
theorem zm487 (k : b) (h : Hk b → a := by intro zz; refine TD.leafR [true, true, true, true] [(0, 1), (1, 1), (2, 1), (3, 1), (4, 4), (5, 1), (6, 1), (7, 1), (8, 1), (9, 1), (10, 4), (11, 1), (12, 1), (13, 1), (14, 2), (15, 1), (16, 1), (17, 3), (18, 5), (19, 1), (20, 1), (21, 5)] (by kernel_rfl) (by kernel_rfl) ?_; exact zz.ok) : a := h ⟨k⟩
theorem zm488 (k : b) (h : Hk b → a := by intro zz; refine TD.leafR [true, true, false, false] [(0, 1), (1, 1), (2, 1), (3, 2), (4, 1), (5, 4), (6, 1), (8, 1), (9, 1), (10, 1), (11, 2), (12, 1), (13, 4), (14, 1), (7, 5), (15, 5), (16, 1), (17, 1)] (by kernel_rfl) (by kernel_rfl) ?_; exact zz.ok) : a := h ⟨k⟩
theorem zm489 (k : b) (h : Hk b → a := by intro zz; refine TD.leafR [true, true, false, false] [(0, 1), (1, 1), (2, 1), (3, 2), (4, 1), (5, 4), (6, 1), (8, 1), (9, 1), (10, 1), (12, 1), (13, 4), (14, 1), (7, 5), (11, 2), (15, 5), (16, 1), (17, 1)] (by kernel_rfl) (by kernel_rfl) ?_; exact zz.ok) : a := h ⟨k⟩
theorem zm490 (k : b) (h : Hk b → a := by intro zz; refine TD.leafR [true, false, false] [(0, 1), (1, 1), (2, 1), (3, 1), (4, 1), (5, 2), (6, 1), (7, 4), (8, 1), (10, 1), (9, 5), (11, 5)] (by kernel_rfl) (by kernel_rfl) ?_; exact zz.ok) : a := h ⟨k⟩
theorem zm491 (k : b) (h : Hk b → a := by intro zz; refine TD.leaf [(0, 1), (1, 1), (2, 2), (3, 1), (4, 1), (5, 1), (6, 2), (7, 1), (8, 1), (9, 2), (10, 1), (11, 1), (12, 1), (13, 2), (14, 1), (15, 2), (16, 1), (17, 2), (18, 1), (19, 1), (20, 1), (21, 2), (22, 3), (23, 0), (24, 1), (25, 0)] (by kernel_rfl) (by kernel_rfl) ?_; exact zz.ok) : a := h ⟨k⟩
theorem zm492 (k : b) (h : Hk b → a := by intro zz; refine TD.leaf [(0, 1), (1, 1), (2, 2), (3, 1), (4, 1), (5, 1), (7, 1), (8, 1), (9, 2), (10, 1), (11, 1), (12, 1), (13, 2), (14, 1), (15, 2), (16, 1), (17, 2), (18, 1), (19, 1), (20, 1), (21, 2), (22, 3), (23, 0), (6, 2), (24, 1), (25, 0)] (by kernel_rfl) (by kernel_rfl) ?_; exact zz.ok) : a := h ⟨k⟩
theorem zm493 (k : b) (h : Hk b → a := by intro zz; refine TD.leaf [(0, 1), (1, 1), (3, 1), (7, 1), (8, 1), (9, 2), (10, 1), (11, 1), (12, 1), (13, 2), (14, 1), (15, 2), (16, 1), (17, 2), (18, 1), (19, 1), (20, 1), (21, 2), (22, 3), (23, 0), (2, 2), (4, 1), (5, 1), (6, 2), (24, 1), (25, 0)] (by kernel_rfl) (by kernel_rfl) ?_; exact zz.ok) : a := h ⟨k⟩
theorem zm4 (k : b) (h : Hk b → a := by intro zz; refine TC.seq (TC.region ?_); exact zz.ok) : a := h ⟨k⟩
theorem zm9 (k : b) (h : Hk b → a := by intro zz; refine zm0 ?_; refine zm0 ?_; exact zz.ok) : a := h ⟨k⟩
theorem zm12 (k : b) (h : Hk b → a := by intro zz; refine TC.skip (TX.seqN ?_); exact zz.ok) : a := h ⟨k⟩
theorem zm13 (k : b) (h : Hk b → a := by intro zz; refine zm43 ?_; refine zm172 ?_; exact zz.ok) : a := h ⟨k⟩
theorem zm20 (k : b) (h : Hk b → a := by intro zz; refine zm6 ?_; refine zm170 ?_; exact zz.ok) : a := h ⟨k⟩
theorem zm23 (k : b) (h : Hk b → a := by intro zz; refine zm8 ?_; refine zm8 ?_; exact zz.ok) : a := h ⟨k⟩
theorem zm31 (k : b) (h : Hk b → a := by intro zz; refine zm3 ?_; refine TF.loud ?_; exact zz.ok) : a := h ⟨k⟩
theorem zm33 (k : b) (h : Hk b → a := by intro zz; refine TL.nil (TX.seqN ?_); exact zz.ok) : a := h ⟨k⟩
theorem zm36 (k : b) (h : Hk b → a := by intro zz; refine zm43 ?_; refine TL.gdY rfl rfl (pr_own1 rfl (.there _ (.here _)) rfl) rfl ?_; exact zz.ok) : a := h ⟨k⟩
theorem zm37 (k : b) (h : Hk b → a := by intro zz; refine zm0 ?_; refine TL.nil ?_; exact zz.ok) : a := h ⟨k⟩
theorem zm47 (k : b) (h : Hk b → a := by intro zz; refine zm5 ?_; refine zm3 ?_; exact zz.ok) : a := h ⟨k⟩
theorem zm51 (k : b) (h : Hk b → a := by intro zz; refine zm6 ?_; refine zm29 ?_; exact zz.ok) : a := h ⟨k⟩
theorem zm61 (k : b) (h : Hk b → a := by intro zz; refine TC.seq ?_; refine zm25 ?_; exact zz.ok) : a := h ⟨k⟩
theorem zm62 (k : b) (h : Hk b → a := by intro zz; refine zm6 ?_; refine zm233 ?_; exact zz.ok) : a := h ⟨k⟩
theorem zm64 (k : b) (h : Hk b → a := by intro zz; refine zm3 ?_; refine zm293 ?_; exact zz.ok) : a := h ⟨k⟩
theorem zm66 (k : b) (h : Hk b → a := by intro zz; refine TC.region ?_; refine zm0 ?_; exact zz.ok) : a := h ⟨k⟩
theorem zm72 (k : b) (h : Hk b → a := by intro zz; refine zm5 ?_; refine zm5 ?_; exact zz.ok) : a := h ⟨k⟩
theorem zm73 (k : b) (h : Hk b → a := by intro zz; refine zm54 ?_; refine zm6 ?_; exact zz.ok) : a := h ⟨k⟩
theorem zm76 (k : b) (h : Hk b → a := by intro zz; refine zm3 ?_; refine zm278 ?_; exact zz.ok) : a := h ⟨k⟩
theorem zm78 (k : b) (h : Hk b → a := by intro zz; refine zm92 ?_; refine zm92 ?_; exact zz.ok) : a := h ⟨k⟩
theorem zm107 (k : b) (h : Hk b → a := by intro zz; refine zm5 ?_; refine zm190 ?_; exact zz.ok) : a := h ⟨k⟩
theorem zm124 (k : b) (h : Hk b → a := by intro zz; refine zm3 ?_; refine zm354 ?_; exact zz.ok) : a := h ⟨k⟩
theorem zm132 (k : b) (h : Hk b → a := by intro zz; refine zm0 ?_; refine zm21 ?_; exact zz.ok) : a := h ⟨k⟩
theorem zm140 (k : b) (h : Hk b → a := by intro zz; refine zm1 ?_; refine zm1 ?_; exact zz.ok) : a := h ⟨k⟩
theorem zm150 (k : b) (h : Hk b → a := by intro zz; refine TC.seq (TC.quiet (by kernel_rfl) (by kernel_rfl) ?_); exact zz.ok) : a := h ⟨k⟩
theorem zm153 (k : b) (h : Hk b → a := by intro zz; refine zm3 ?_; refine TF.read (S1 (S1 (S1 SN))) (Hp.le.refl _) (fun _ _ => pr_own1 rfl (.there _ (.here _)) rfl) rfl ?_; exact zz.ok) : a := h ⟨k⟩
theorem zm192 (k : b) (h : Hk b → a := by intro zz; refine zm5 ?_; refine zm7 ?_; exact zz.ok) : a := h ⟨k⟩
theorem zm196 (k : b) (h : Hk b → a := by intro zz; refine zm3 ?_; refine zm442 ?_; exact zz.ok) : a := h ⟨k⟩
theorem zm197 (k : b) (h : Hk b → a := by intro zz; refine zm3 ?_; refine zm384 ?_; exact zz.ok) : a := h ⟨k⟩
theorem zm198 (k : b) (h : Hk b → a := by intro zz; refine TF.pure (pr_add rfl rfl (by simp) (by simp)) rfl ?_; refine zm18 ?_; exact zz.ok) : a := h ⟨k⟩
theorem zm199 (k : b) (h : Hk b → a := by intro zz; refine zm3 ?_; refine zm389 ?_; exact zz.ok) : a := h ⟨k⟩
theorem zm203 (k : b) (h : Hk b → a := by intro zz; refine zm3 ?_; refine zm7 ?_; exact zz.ok) : a := h ⟨k⟩
theorem zm222 (k : b) (h : Hk b → a := by intro zz; refine TL.gdU rfl rfl rfl (TL.gdU rfl rfl rfl ?_); exact zz.ok) : a := h ⟨k⟩
theorem zm231 (k : b) (h : Hk b → a := by intro zz; refine zm3 ?_; refine zm42 ?_; exact zz.ok) : a := h ⟨k⟩
theorem zm232 (k : b) (h : Hk b → a := by intro zz; refine TL.run (pr_str rfl rfl rfl) rfl ?_; refine zm0 ?_; exact zz.ok) : a := h ⟨k⟩
theorem zm240 (k : b) (h : Hk b → a := by intro zz; refine zm6 ?_; refine zm243 ?_; exact zz.ok) : a := h ⟨k⟩
theorem zm248 (k : b) (h : Hk b → a := by intro zz; refine zm39 ?_; refine TL.nil ?_; exact zz.ok) : a := h ⟨k⟩
theorem zm264 (k : b) (h : Hk b → a := by intro zz; refine zm96 ?_; refine zm96 ?_; exact zz.ok) : a := h ⟨k⟩
theorem zm265 (k : b) (h : Hk b → a := by intro zz; refine TC.swG (pr_pure rfl) rfl rfl ⟨rfl, trivial⟩ (TC.swG (pr_pure rfl) rfl rfl ⟨rfl, trivial⟩ ?_); exact zz.ok) : a := h ⟨k⟩
theorem zm277 (k : b) (h : Hk b → a := by intro zz; refine zm6 ?_; refine zm204 ?_; exact zz.ok) : a := h ⟨k⟩
theorem zm291 (k : b) (h : Hk b → a := by intro zz; refine zm3 ?_; refine TF.read (S1 (S1 (S1 (S1 SN)))) (Hp.le.refl _) (fun _ _ => pr_own1 rfl (.there _ (.here _)) rfl) rfl ?_; exact zz.ok) : a := h ⟨k⟩
theorem zm307 (k : b) (h : Hk b → a := by intro zz; refine zm68 ?_; refine zm68 ?_; exact zz.ok) : a := h ⟨k⟩
theorem zm323 (k : b) (h : Hk b → a := by intro zz; refine zm110 ?_; refine TQ.run (pr_own1 rfl (.here _) rfl) rfl ?_; exact zz.ok) : a := h ⟨k⟩
theorem zm380 (k : b) (h : Hk b → a := by intro zz; refine zm6 ?_; refine zm74 ?_; exact zz.ok) : a := h ⟨k⟩
theorem zm397 (k : b) (h : Hk b → a := by intro zz; refine TL.run (pr_indexSl rfl hxa rfl (by omega) (by omega)) rfl ?_; refine zm6 ?_; exact zz.ok) : a := h ⟨k⟩
theorem zm2 (k : b) (h : Hk b → a := by intro zz; refine zm0 ?_; refine zm33 ?_; exact zz.ok) : a := h ⟨k⟩
theorem zm17 (k : b) (h : Hk b → a := by intro zz; refine zm8 ?_; refine zm9 ?_; exact zz.ok) : a := h ⟨k⟩
theorem zm26 (k : b) (h : Hk b → a := by intro zz; refine zm39 ?_; refine zm33 ?_; exact zz.ok) : a := h ⟨k⟩
theorem zm30 (k : b) (h : Hk b → a := by intro zz; refine zm4 ?_; refine zm0 ?_; exact zz.ok) : a := h ⟨k⟩
theorem zm34 (k : b) (h : Hk b → a := by intro zz; refine zm4 ?_; refine zm19 ?_; exact zz.ok) : a := h ⟨k⟩
theorem zm45 (k : b) (h : Hk b → a := by intro zz; refine zm5 ?_; refine zm111 ?_; refine zm3 ?_; exact zz.ok) : a := h ⟨k⟩
theorem zm49 (k : b) (h : Hk b → a := by intro zz; refine TF.back (TF.nil (TX.seqN ?_)); exact zz.ok) : a := h ⟨k⟩
theorem zm77 (k : b) (h : Hk b → a := by intro zz; refine zm33 ?_; refine TC.ret ?_; exact zz.ok) : a := h ⟨k⟩
theorem zm79 (k : b) (h : Hk b → a := by intro zz; refine zm92 ?_; refine TQ.nil (TX.seqN ?_); exact zz.ok) : a := h ⟨k⟩
theorem zm81 (k : b) (h : Hk b → a := by intro zz; refine TC.skip (TX.blkN (TX.seqN ?_)); exact zz.ok) : a := h ⟨k⟩
theorem zm82 (k : b) (h : Hk b → a := by intro zz; refine zm140 ?_; refine zm1 ?_; exact zz.ok) : a := h ⟨k⟩
theorem zm85 (k : b) (h : Hk b → a := by intro zz; refine zm8 ?_; refine zm37 ?_; exact zz.ok) : a := h ⟨k⟩
theorem zm86 (k : b) (h : Hk b → a := by intro zz; refine TC.region ?_; refine zm51 ?_; exact zz.ok) : a := h ⟨k⟩
theorem zm88 (k : b) (h : Hk b → a := by intro zz; refine TC.seq ?_; refine zm4 ?_; exact zz.ok) : a := h ⟨k⟩
theorem zm89 (k : b) (h : Hk b → a := by intro zz; refine zm20 ?_; refine zm0 ?_; exact zz.ok) : a := h ⟨k⟩
theorem zm108 (k : b) (h : Hk b → a := by intro zz; refine zm5 ?_; refine TF.pure (pr_add rfl rfl (by omega) (by omega)) rfl ?_; refine zm190 ?_; exact zz.ok) : a := h ⟨k⟩
theorem zm121 (k : b) (h : Hk b → a := by intro zz; refine TC.region ?_; refine zm9 ?_; exact zz.ok) : a := h ⟨k⟩
theorem zm146 (k : b) (h : Hk b → a := by intro zz; refine TC.region ?_; refine zm20 ?_; exact zz.ok) : a := h ⟨k⟩
theorem zm147 (k : b) (h : Hk b → a := by intro zz; refine zm4 ?_; refine zm14 ?_; exact zz.ok) : a := h ⟨k⟩
theorem zm149 (k : b) (h : Hk b → a := by intro zz; refine zm4 ?_; refine zm6 ?_; exact zz.ok) : a := h ⟨k⟩
theorem zm169 (k : b) (h : Hk b → a := by intro zz; refine TL.run (pr_add rfl rfl (by omega) (by omega)) rfl ?_; refine zm37 ?_; exact zz.ok) : a := h ⟨k⟩
theorem zm179 (k : b) (h : Hk b → a := by intro zz; refine zm277 ?_; refine TL.nil ?_; exact zz.ok) : a := h ⟨k⟩
theorem zm186 (k : b) (h : Hk b → a := by intro zz; refine zm54 ?_; refine zm51 ?_; exact zz.ok) : a := h ⟨k⟩
theorem zm187 (k : b) (h : Hk b → a := by intro zz; refine zm72 ?_; refine zm5 ?_; exact zz.ok) : a := h ⟨k⟩
theorem zm200 (k : b) (h : Hk b → a := by intro zz; refine zm51 ?_; refine zm0 ?_; exact zz.ok) : a := h ⟨k⟩
theorem zm201 (k : b) (h : Hk b → a := by intro zz; refine zm5 ?_; refine TF.nil (TX.seqN ?_); exact zz.ok) : a := h ⟨k⟩
theorem zm202 (k : b) (h : Hk b → a := by intro zz; refine zm92 ?_; refine TQ.run (pr_nil rfl) rfl ?_; refine zm110 ?_; exact zz.ok) : a := h ⟨k⟩
theorem zm251 (k : b) (h : Hk b → a := by intro zz; refine zm132 ?_; refine zm6 ?_; exact zz.ok) : a := h ⟨k⟩
theorem zm254 (k : b) (h : Hk b → a := by intro zz; refine zm397 ?_; refine TL.run (pr_el1 hxa ha rfl rfl) rfl ?_; exact zz.ok) : a := h ⟨k⟩
theorem zm259 (k : b) (h : Hk b → a := by intro zz; refine zm7 ?_; refine zm39 ?_; refine TF.back5 (S0 (S1 (S1 SN))) (Hp.le.refl _) ?_; exact zz.ok) : a := h ⟨k⟩
theorem zm260 (k : b) (h : Hk b → a := by intro zz; refine zm203 ?_; refine zm204 ?_; exact zz.ok) : a := h ⟨k⟩
theorem zm272 (k : b) (h : Hk b → a := by intro zz; refine zm75 ?_; refine zm9 ?_; exact zz.ok) : a := h ⟨k⟩
theorem zm276 (k : b) (h : Hk b → a := by intro zz; refine zm16 ?_; refine zm37 ?_; exact zz.ok) : a := h ⟨k⟩
theorem zm339 (k : b) (h : Hk b → a := by intro zz; refine zm231 ?_; refine zm5 ?_; exact zz.ok) : a := h ⟨k⟩
theorem zm10 (k : b) (h : Hk b → a := by intro zz; refine zm2 ?_; refine TC.block ?_; exact zz.ok) : a := h ⟨k⟩
theorem zm22 (k : b) (h : Hk b → a := by intro zz; refine zm2 ?_; refine TC.ret ?_; exact zz.ok) : a := h ⟨k⟩
theorem zm24 (k : b) (h : Hk b → a := by intro zz; refine zm4 ?_; refine zm9 ?_; exact zz.ok) : a := h ⟨k⟩
theorem zm27 (k : b) (h : Hk b → a := by intro zz; refine zm33 ?_; refine zm4 ?_; exact zz.ok) : a := h ⟨k⟩
theorem zm35 (k : b) (h : Hk b → a := by intro zz; refine zm8 ?_; refine zm2 ?_; exact zz.ok) : a := h ⟨k⟩
theorem zm44 (k : b) (h : Hk b → a := by intro zz; refine zm140 ?_; refine zm140 ?_; exact zz.ok) : a := h ⟨k⟩
theorem zm52 (k : b) (h : Hk b → a := by intro zz; refine zm66 ?_; refine zm51 ?_; exact zz.ok) : a := h ⟨k⟩
theorem zm58 (k : b) (h : Hk b → a := by intro zz; refine zm4 ?_; refine zm51 ?_; exact zz.ok) : a := h ⟨k⟩
theorem zm60 (k : b) (h : Hk b → a := by intro zz; refine zm0 ?_; refine zm2 ?_; exact zz.ok) : a := h ⟨k⟩
theorem zm63 (k : b) (h : Hk b → a := by intro zz; refine zm277 ?_; refine zm33 ?_; exact zz.ok) : a := h ⟨k⟩
theorem zm67 (k : b) (h : Hk b → a := by intro zz; refine zm26 ?_; refine TC.ret ?_; exact zz.ok) : a := h ⟨k⟩
theorem zm69 (k : b) (h : Hk b → a := by intro zz; refine zm12 ?_; refine zm4 ?_; exact zz.ok) : a := h ⟨k⟩
theorem zm101 (k : b) (h : Hk b → a := by intro zz; refine zm88 ?_; refine zm0 ?_; exact zz.ok) : a := h ⟨k⟩
theorem zm104 (k : b) (h : Hk b → a := by intro zz; refine zm121 ?_; refine zm0 ?_; exact zz.ok) : a := h ⟨k⟩
theorem zm106 (k : b) (h : Hk b → a := by intro zz; refine zm72 ?_; refine zm111 ?_; refine zm3 ?_; exact zz.ok) : a := h ⟨k⟩
theorem zm139 (k : b) (h : Hk b → a := by intro zz; refine zm9 ?_; refine zm9 ?_; exact zz.ok) : a := h ⟨k⟩
theorem zm145 (k : b) (h : Hk b → a := by intro zz; refine zm128 ?_; refine zm77 ?_; exact zz.ok) : a := h ⟨k⟩
theorem zm155 (k : b) (h : Hk b → a := by intro zz; refine zm2 ?_; refine TC.condF rfl ?_; exact zz.ok) : a := h ⟨k⟩
theorem zm164 (k : b) (h : Hk b → a := by intro zz; refine zm12 ?_; refine TC.seq (TC.block ?_); exact zz.ok) : a := h ⟨k⟩
theorem zm168 (k : b) (h : Hk b → a := by intro zz; refine zm140 ?_; refine zm9 ?_; exact zz.ok) : a := h ⟨k⟩
theorem zm174 (k : b) (h : Hk b → a := by intro zz; refine zm2 ?_; refine TC.condT rfl ?_; exact zz.ok) : a := h ⟨k⟩
theorem zm175 (k : b) (h : Hk b → a := by intro zz; refine zm26 ?_; refine TC.seq ?_; exact zz.ok) : a := h ⟨k⟩
theorem zm189 (k : b) (h : Hk b → a := by intro zz; refine zm291 ?_; refine zm190 ?_; refine TF.read (S1 (S1 (S1 (S1 SN)))) (Hp.le.refl _) (fun _ _ => pr_el0 hrs rfl rfl rfl) rfl ?_; exact zz.ok) : a := h ⟨k⟩
theorem zm207 (k : b) (h : Hk b → a := by intro zz; refine zm45 ?_; refine zm354 ?_; exact zz.ok) : a := h ⟨k⟩
theorem zm215 (k : b) (h : Hk b → a := by intro zz; refine TC.exit (TX.thenE (TX.blkHit (TX.seqN ?_))); exact zz.ok) : a := h ⟨k⟩
theorem zm216 (k : b) (h : Hk b → a := by intro zz; refine zm0 ?_; refine TL.run (pr_str rfl rfl rfl) rfl ?_; refine zm33 ?_; exact zz.ok) : a := h ⟨k⟩
theorem zm223 (k : b) (h : Hk b → a := by intro zz; refine TX.blkR (TX.thenR (TX.thenR (TX.blkR ?_))); exact zz.ok) : a := h ⟨k⟩
theorem zm229 (k : b) (h : Hk b → a := by intro zz; refine zm21 ?_; refine zm266 ?_; refine zm33 ?_; exact zz.ok) : a := h ⟨k⟩
theorem zm230 (k : b) (h : Hk b → a := by intro zz; refine TC.region ?_; refine zm62 ?_; refine zm19 ?_; exact zz.ok) : a := h ⟨k⟩
theorem zm237 (k : b) (h : Hk b → a := by intro zz; refine zm77 ?_; refine TX.thenR ?_; exact zz.ok) : a := h ⟨k⟩
theorem zm238 (k : b) (h : Hk b → a := by intro zz; refine zm72 ?_; refine zm72 ?_; exact zz.ok) : a := h ⟨k⟩
theorem zm239 (k : b) (h : Hk b → a := by intro zz; refine zm321 ?_; refine zm77 ?_; exact zz.ok) : a := h ⟨k⟩
theorem zm255 (k : b) (h : Hk b → a := by intro zz; refine zm323 ?_; refine zm78 ?_; exact zz.ok) : a := h ⟨k⟩
theorem zm269 (k : b) (h : Hk b → a := by intro zz; refine TC.skip (TX.blkN (TX.seqN (TC.region ?_))); exact zz.ok) : a := h ⟨k⟩
theorem zm322 (k : b) (h : Hk b → a := by intro zz; refine TQ.gdN rfl rfl rfl rfl (TQ.gdN rfl rfl rfl rfl (TQ.gdN rfl rfl rfl rfl (TQ.gdN rfl rfl rfl rfl ?_))); exact zz.ok) : a := h ⟨k⟩
theorem zm32 (k : b) (h : Hk b → a := by intro zz; refine zm88 ?_; refine zm9 ?_; exact zz.ok) : a := h ⟨k⟩
theorem zm38 (k : b) (h : Hk b → a := by intro zz; refine TC.exit (TX.thenE (TX.thenE (TX.blkHit ?_))); refine TX.seqN ?_; exact zz.ok) : a := h ⟨k⟩
theorem zm40 (k : b) (h : Hk b → a := by intro zz; refine zm24 ?_; refine zm0 ?_; exact zz.ok) : a := h ⟨k⟩
theorem zm41 (k : b) (h : Hk b → a := by intro zz; refine zm33 ?_; refine zm30 ?_; exact zz.ok) : a := h ⟨k⟩
theorem zm46 (k : b) (h : Hk b → a := by intro zz; refine zm82 ?_; refine zm9 ?_; exact zz.ok) : a := h ⟨k⟩
theorem zm50 (k : b) (h : Hk b → a := by intro zz; refine TX.blkR (TX.thenR (TX.thenR (TX.blkR ?_))); refine TX.thenR ?_; exact zz.ok) : a := h ⟨k⟩
theorem zm83 (k : b) (h : Hk b → a := by intro zz; refine zm22 ?_; refine TX.thenR ?_; exact zz.ok) : a := h ⟨k⟩
theorem zm100 (k : b) (h : Hk b → a := by intro zz; refine zm2 ?_; refine zm4 ?_; exact zz.ok) : a := h ⟨k⟩
theorem zm103 (k : b) (h : Hk b → a := by intro zz; refine zm12 ?_; refine zm30 ?_; exact zz.ok) : a := h ⟨k⟩
theorem zm118 (k : b) (h : Hk b → a := by intro zz; refine zm88 ?_; refine zm51 ?_; exact zz.ok) : a := h ⟨k⟩
theorem zm122 (k : b) (h : Hk b → a := by intro zz; refine zm26 ?_; refine zm4 ?_; exact zz.ok) : a := h ⟨k⟩
theorem zm130 (k : b) (h : Hk b → a := by intro zz; refine zm13 ?_; refine zm17 ?_; exact zz.ok) : a := h ⟨k⟩
theorem zm131 (k : b) (h : Hk b → a := by intro zz; refine zm13 ?_; refine zm272 ?_; exact zz.ok) : a := h ⟨k⟩
theorem zm134 (k : b) (h : Hk b → a := by intro zz; refine TL.storeV rfl rfl rfl (.here _) rfl ?_; refine zm27 ?_; exact zz.ok) : a := h ⟨k⟩
theorem zm135 (k : b) (h : Hk b → a := by intro zz; refine zm33 ?_; refine zm88 ?_; exact zz.ok) : a := h ⟨k⟩
theorem zm142 (k : b) (h : Hk b → a := by intro zz; refine zm4 ?_; refine zm2 ?_; exact zz.ok) : a := h ⟨k⟩
theorem zm158 (k : b) (h : Hk b → a := by intro zz; refine zm26 ?_; refine zm61 ?_; exact zz.ok) : a := h ⟨k⟩
theorem zm180 (k : b) (h : Hk b → a := by intro zz; refine zm72 ?_; refine zm339 ?_; exact zz.ok) : a := h ⟨k⟩
theorem zm182 (k : b) (h : Hk b → a := by intro zz; refine zm319 ?_; refine zm237 ?_; exact zz.ok) : a := h ⟨k⟩
theorem zm184 (k : b) (h : Hk b → a := by intro zz; refine zm121 ?_; refine zm9 ?_; exact zz.ok) : a := h ⟨k⟩
theorem zm218 (k : b) (h : Hk b → a := by intro zz; refine TF.still (pr_hp1 rfl hl) rfl ?_; refine zm5 ?_; refine TF.pure (pr_indexSl rfl hT rfl (by omega) (by omega)) rfl ?_; refine zm3 ?_; refine TF.still (pr_el1 hT hx rfl rfl) rfl ?_; exact zz.ok) : a := h ⟨k⟩
theorem zm219 (k : b) (h : Hk b → a := by intro zz; refine zm58 ?_; refine zm0 ?_; exact zz.ok) : a := h ⟨k⟩
theorem zm221 (k : b) (h : Hk b → a := by intro zz; refine zm86 ?_; refine zm232 ?_; exact zz.ok) : a := h ⟨k⟩
theorem zm224 (k : b) (h : Hk b → a := by intro zz; refine zm88 ?_; refine zm20 ?_; exact zz.ok) : a := h ⟨k⟩
theorem zm227 (k : b) (h : Hk b → a := by intro zz; refine zm44 ?_; refine zm1 ?_; exact zz.ok) : a := h ⟨k⟩
theorem zm234 (k : b) (h : Hk b → a := by intro zz; refine zm82 ?_; refine zm37 ?_; exact zz.ok) : a := h ⟨k⟩
theorem zm241 (k : b) (h : Hk b → a := by intro zz; refine zm2 ?_; refine zm61 ?_; exact zz.ok) : a := h ⟨k⟩
theorem zm290 (k : b) (h : Hk b → a := by intro zz; refine zm164 ?_; refine zm25 ?_; exact zz.ok) : a := h ⟨k⟩
theorem zm11 (k : b) (h : Hk b → a := by intro zz; refine zm142 ?_; refine TC.seq ?_; exact zz.ok) : a := h ⟨k⟩
theorem zm15 (k : b) (h : Hk b → a := by intro zz; refine zm164 ?_; refine zm4 ?_; exact zz.ok) : a := h ⟨k⟩
theorem zm28 (k : b) (h : Hk b → a := by intro zz; refine zm30 ?_; refine zm2 ?_; exact zz.ok) : a := h ⟨k⟩
theorem zm53 (k : b) (h : Hk b → a := by intro zz; refine zm2 ?_; refine zm30 ?_; exact zz.ok) : a := h ⟨k⟩
theorem zm57 (k : b) (h : Hk b → a := by intro zz; refine zm142 ?_; refine TC.ret ?_; exact zz.ok) : a := h ⟨k⟩
theorem zm59 (k : b) (h : Hk b → a := by intro zz; refine zm2 ?_; refine zm88 ?_; exact zz.ok) : a := h ⟨k⟩
theorem zm93 (k : b) (h : Hk b → a := by intro zz; refine zm101 ?_; refine zm51 ?_; exact zz.ok) : a := h ⟨k⟩
theorem zm94 (k : b) (h : Hk b → a := by intro zz; refine zm142 ?_; refine TC.block ?_; exact zz.ok) : a := h ⟨k⟩
theorem zm102 (k : b) (h : Hk b → a := by intro zz; refine zm2 ?_; refine zm149 ?_; exact zz.ok) : a := h ⟨k⟩
theorem zm109 (k : b) (h : Hk b → a := by intro zz; refine zm164 ?_; refine zm150 ?_; exact zz.ok) : a := h ⟨k⟩
theorem zm119 (k : b) (h : Hk b → a := by intro zz; refine zm44 ?_; refine zm9 ?_; exact zz.ok) : a := h ⟨k⟩
theorem zm141 (k : b) (h : Hk b → a := by intro zz; refine zm38 ?_; refine TC.seq ?_; exact zz.ok) : a := h ⟨k⟩
theorem zm161 (k : b) (h : Hk b → a := by intro zz; refine zm32 ?_; refine TL.run (pr_lenSl rfl rfl hL) rfl ?_; exact zz.ok) : a := h ⟨k⟩
theorem zm162 (k : b) (h : Hk b → a := by intro zz; refine zm164 ?_; refine zm61 ?_; exact zz.ok) : a := h ⟨k⟩
theorem zm211 (k : b) (h : Hk b → a := by intro zz; refine zm58 ?_; refine zm232 ?_; exact zz.ok) : a := h ⟨k⟩
theorem zm213 (k : b) (h : Hk b → a := by intro zz; refine TX.seqN ?_; refine zm118 ?_; exact zz.ok) : a := h ⟨k⟩
theorem zm225 (k : b) (h : Hk b → a := by intro zz; refine zm22 ?_; refine TX.blkR (TX.thenR ?_); exact zz.ok) : a := h ⟨k⟩
theorem zm235 (k : b) (h : Hk b → a := by intro zz; refine zm12 ?_; refine zm24 ?_; exact zz.ok) : a := h ⟨k⟩
theorem zm244 (k : b) (h : Hk b → a := by intro zz; refine zm72 ?_; refine zm106 ?_; exact zz.ok) : a := h ⟨k⟩
theorem zm249 (k : b) (h : Hk b → a := by intro zz; refine zm380 ?_; refine zm27 ?_; exact zz.ok) : a := h ⟨k⟩
theorem zm261 (k : b) (h : Hk b → a := by intro zz; refine zm101 ?_; refine zm20 ?_; exact zz.ok) : a := h ⟨k⟩
theorem zm312 (k : b) (h : Hk b → a := by intro zz; refine TX.blkN (TX.seqN (TC.region ?_)); refine zm276 ?_; exact zz.ok) : a := h ⟨k⟩
theorem zm337 (k : b) (h : Hk b → a := by intro zz; refine TC.condT rfl ?_; refine zm290 ?_; exact zz.ok) : a := h ⟨k⟩
theorem zm55 (k : b) (h : Hk b → a := by intro zz; refine zm88 ?_; refine zm10 ?_; exact zz.ok) : a := h ⟨k⟩
theorem zm84 (k : b) (h : Hk b → a := by intro zz; refine zm38 ?_; refine zm4 ?_; exact zz.ok) : a := h ⟨k⟩
theorem zm98 (k : b) (h : Hk b → a := by intro zz; refine zm26 ?_; refine zm58 ?_; exact zz.ok) : a := h ⟨k⟩
theorem zm99 (k : b) (h : Hk b → a := by intro zz; refine TL.nil ?_; refine zm312 ?_; exact zz.ok) : a := h ⟨k⟩
theorem zm114 (k : b) (h : Hk b → a := by intro zz; refine zm164 ?_; refine zm30 ?_; exact zz.ok) : a := h ⟨k⟩
theorem zm116 (k : b) (h : Hk b → a := by intro zz; refine TC.skip ?_; refine zm312 ?_; exact zz.ok) : a := h ⟨k⟩
theorem zm171 (k : b) (h : Hk b → a := by intro zz; refine zm57 ?_; refine TX.thenR ?_; exact zz.ok) : a := h ⟨k⟩
theorem zm178 (k : b) (h : Hk b → a := by intro zz; refine zm277 ?_; refine zm41 ?_; exact zz.ok) : a := h ⟨k⟩
theorem zm188 (k : b) (h : Hk b → a := by intro zz; refine TX.blkN (TX.seqN (TC.region ?_)); refine zm0 ?_; refine zm276 ?_; exact zz.ok) : a := h ⟨k⟩
theorem zm212 (k : b) (h : Hk b → a := by intro zz; refine zm142 ?_; refine zm4 ?_; exact zz.ok) : a := h ⟨k⟩
theorem zm214 (k : b) (h : Hk b → a := by intro zz; refine zm101 ?_; refine zm2 ?_; exact zz.ok) : a := h ⟨k⟩
theorem zm226 (k : b) (h : Hk b → a := by intro zz; refine zm2 ?_; refine zm101 ?_; exact zz.ok) : a := h ⟨k⟩
theorem zm245 (k : b) (h : Hk b → a := by intro zz; refine zm244 ?_; refine zm7 ?_; exact zz.ok) : a := h ⟨k⟩
theorem zm343 (k : b) (h : Hk b → a := by intro zz; refine zm30 ?_; refine zm22 ?_; exact zz.ok) : a := h ⟨k⟩
theorem zm56 (k : b) (h : Hk b → a := by intro zz; refine TC.skip ?_; refine zm188 ?_; exact zz.ok) : a := h ⟨k⟩
theorem zm90 (k : b) (h : Hk b → a := by intro zz; refine zm38 ?_; refine zm88 ?_; exact zz.ok) : a := h ⟨k⟩
theorem zm97 (k : b) (h : Hk b → a := by intro zz; refine zm2 ?_; refine zm118 ?_; exact zz.ok) : a := h ⟨k⟩
theorem zm105 (k : b) (h : Hk b → a := by intro zz; refine zm142 ?_; refine zm30 ?_; exact zz.ok) : a := h ⟨k⟩
theorem zm133 (k : b) (h : Hk b → a := by intro zz; refine zm32 ?_; refine zm2 ?_; exact zz.ok) : a := h ⟨k⟩
theorem zm136 (k : b) (h : Hk b → a := by intro zz; refine zm37 ?_; refine zm312 ?_; exact zz.ok) : a := h ⟨k⟩
theorem zm138 (k : b) (h : Hk b → a := by intro zz; refine zm118 ?_; refine zm2 ?_; exact zz.ok) : a := h ⟨k⟩
theorem zm144 (k : b) (h : Hk b → a := by intro zz; refine zm38 ?_; refine zm149 ?_; exact zz.ok) : a := h ⟨k⟩
theorem zm157 (k : b) (h : Hk b → a := by intro zz; refine zm164 ?_; refine zm24 ?_; exact zz.ok) : a := h ⟨k⟩
theorem zm176 (k : b) (h : Hk b → a := by intro zz; refine zm38 ?_; refine zm30 ?_; exact zz.ok) : a := h ⟨k⟩
theorem zm257 (k : b) (h : Hk b → a := by intro zz; refine TL.nil ?_; refine zm188 ?_; exact zz.ok) : a := h ⟨k⟩
theorem zm112 (k : b) (h : Hk b → a := by intro zz; refine zm142 ?_; refine zm101 ?_; exact zz.ok) : a := h ⟨k⟩
theorem zm127 (k : b) (h : Hk b → a := by intro zz; refine zm37 ?_; refine zm188 ?_; exact zz.ok) : a := h ⟨k⟩
theorem zm148 (k : b) (h : Hk b → a := by intro zz; refine zm223 ?_; refine zm50 ?_; exact zz.ok) : a := h ⟨k⟩
theorem zm173 (k : b) (h : Hk b → a := by intro zz; refine zm142 ?_; refine zm24 ?_; exact zz.ok) : a := h ⟨k⟩
theorem zm193 (k : b) (h : Hk b → a := by intro zz; refine zm33 ?_; refine zm55 ?_; exact zz.ok) : a := h ⟨k⟩
theorem zm210 (k : b) (h : Hk b → a := by intro zz; refine zm33 ?_; refine TC.block ?_; refine zm28 ?_; exact zz.ok) : a := h ⟨k⟩
theorem zm258 (k : b) (h : Hk b → a := by intro zz; refine zm41 ?_; refine zm22 ?_; exact zz.ok) : a := h ⟨k⟩
theorem zm117 (k : b) (h : Hk b → a := by intro zz; refine zm164 ?_; refine zm28 ?_; exact zz.ok) : a := h ⟨k⟩
theorem zm123 (k : b) (h : Hk b → a := by intro zz; refine zm2 ?_; refine zm214 ?_; exact zz.ok) : a := h ⟨k⟩
theorem zm151 (k : b) (h : Hk b → a := by intro zz; refine zm98 ?_; refine zm2 ?_; exact zz.ok) : a := h ⟨k⟩
theorem zm156 (k : b) (h : Hk b → a := by intro zz; refine zm2 ?_; refine zm55 ?_; exact zz.ok) : a := h ⟨k⟩
theorem zm220 (k : b) (h : Hk b → a := by intro zz; refine zm142 ?_; refine zm118 ?_; exact zz.ok) : a := h ⟨k⟩
theorem zm236 (k : b) (h : Hk b → a := by intro zz; refine TC.exit (TX.thenE (TX.thenE (TX.blkHit ?_))); refine zm312 ?_; exact zz.ok) : a := h ⟨k⟩
theorem zm328 (k : b) (h : Hk b → a := by intro zz; refine TR.succ ?_; refine zm101 ?_; refine TL.run (pr_add rfl rfl (by omega) (by omega)) rfl ?_; refine zm60 ?_; exact zz.ok) : a := h ⟨k⟩
theorem zm65 (k : b) (h : Hk b → a := by intro zz; refine zm38 ?_; refine zm57 ?_; exact zz.ok) : a := h ⟨k⟩
theorem zm163 (k : b) (h : Hk b → a := by intro zz; refine TC.exit (TX.thenE (TX.thenE (TX.blkHit ?_))); refine zm188 ?_; exact zz.ok) : a := h ⟨k⟩
theorem zm48 (k : b) (h : Hk b → a := by intro zz; refine zm142 ?_; refine zm55 ?_; exact zz.ok) : a := h ⟨k⟩
theorem zm87 (k : b) (h : Hk b → a := by intro zz; refine zm38 ?_; refine zm343 ?_; exact zz.ok) : a := h ⟨k⟩
theorem zm217 (k : b) (h : Hk b → a := by intro zz; refine zm343 ?_; refine zm50 ?_; exact zz.ok) : a := h ⟨k⟩
theorem zm152 (k : b) (h : Hk b → a := by intro zz; refine zm269 ?_; refine zm169 ?_; refine TX.rnd (TR.succ ?_); refine zm11 ?_; exact zz.ok) : a := h ⟨k⟩
theorem zm194 (k : b) (h : Hk b → a := by intro zz; refine zm328 ?_; refine zm337 ?_; exact zz.ok) : a := h ⟨k⟩
theorem zm336 (k : b) (h : Hk b → a := by intro zz; refine TF.back (TF.nil (TX.blkN (TX.seqN ?_))); refine TC.region ?_; refine zm0 ?_; refine zm169 ?_; refine TX.rnd (TR.succ ?_); refine zm101 ?_; refine TL.run (pr_add rfl rfl (by omega) (by omega)) rfl ?_; refine zm60 ?_; exact zz.ok) : a := h ⟨k⟩
theorem zm195 (k : b) (h : Hk b → a := by intro zz; refine zm336 ?_; refine TC.condF rfl ?_; exact zz.ok) : a := h ⟨k⟩
end Go.Sx
