import Derived.ProofKit
import Derived.KernelRfl
set_option linter.all false
namespace Go.Sx
structure Hk (b:Prop):Prop where
 ok:b
variable {a b:Prop}
theorem omq (h:a:=by omega):a:=h
theorem kr (h:a:=by kernel_rfl):a:=h
theorem o2q (h:a:=by exact⟨by omega,by omega⟩):a:=h
theorem kz (h:a:=by exact⟨by kernel_rfl⟩):a:=h
theorem sq (h:a:=by simp):a:=h
theorem dq (h:a:=by decide):a:=h
theorem ky (h:a:=by repeat (first | exact trivial | refine⟨rfl,?_⟩)):a:=h
section
variable (k:b)
include k
theorem zm0 (h:Hk b→a:=by intro zz;refine TL.run (aF rfl) rfl zz.1):a:=h ⟨k⟩
theorem zm4 (h:Hk b→a:=by intro zz;refine aw (cT rfl) rfl zz.1):a:=h ⟨k⟩
theorem zm5 (h:Hk b→a:=by intro zz;refine TL.run (cT rfl) rfl zz.1):a:=h ⟨k⟩
theorem zm7 (h:Hk b→a:=by intro zz;refine aw (aF rfl) rfl zz.1):a:=h ⟨k⟩
theorem cE (h:Hk b→a:=by intro zz;refine TL.gdN rfl rfl rfl rfl zz.1):a:=h ⟨k⟩
theorem cQ (h:Hk b→a:=by intro zz;refine az rfl rfl (aF rfl) rfl zz.1):a:=h ⟨k⟩
theorem dt (h:Hk b→a:=by intro zz;refine TL.run (mD rfl rfl) rfl zz.1):a:=h ⟨k⟩
theorem dQ (h:Hk b→a:=by intro zz;refine aw (mD rfl rfl) rfl zz.1):a:=h ⟨k⟩
theorem fi (h:Hk b→a:=by intro zz;refine TL.run (gh rfl rfl omq omq) rfl zz.1):a:=h ⟨k⟩
theorem eY (h:Hk b→a:=by intro zz;refine TC.drawn kr kr zz.1):a:=h ⟨k⟩
theorem fP (h:Hk b→a:=by intro zz;refine TQ.run (cT rfl) rfl zz.1):a:=h ⟨k⟩
theorem gP (h:Hk b→a:=by intro zz;refine TL.run (a7 rfl (.here _) rfl) rfl zz.1):a:=h ⟨k⟩
theorem iC (h:Hk b→a:=by intro zz;refine bi rfl rfl (cT rfl) rfl zz.1):a:=h ⟨k⟩
theorem jN (h:Hk b→a:=by intro zz;refine az rfl rfl (cT rfl) rfl zz.1):a:=h ⟨k⟩
theorem kU (h:Hk b→a:=by intro zz;refine TL.run (aE rfl (.here _) rfl) rfl zz.1):a:=h ⟨k⟩
theorem lw (h:Hk b→a:=by intro zz;refine TL.run ((by first | exact fk rfl rfl omq omq | exact aF rfl)) rfl zz.1):a:=h ⟨k⟩
theorem m8 (h:Hk b→a:=by intro zz;refine az rfl rfl (bW rfl rfl rfl) rfl zz.1):a:=h ⟨k⟩
theorem m7 (h:Hk b→a:=by intro zz;refine TL.run (aE rfl (.there _ (.here _)) rfl) rfl zz.1):a:=h ⟨k⟩
theorem m6 (h:Hk b→a:=by intro zz;refine aX rfl rfl rfl (.there _ (.here _)) rfl rfl zz.1):a:=h ⟨k⟩
theorem sh (h:Hk b→a:=by intro zz;refine TL.run (aE rfl (.there _ (.there _ (.here _))) rfl) rfl zz.1):a:=h ⟨k⟩
theorem lh (h:Hk b→a:=by intro zz;refine TL.run (aE rfl (.there _ (.there _ (.there _ (.here _)))) rfl) rfl zz.1):a:=h ⟨k⟩
theorem md (h:Hk b→a:=by intro zz;refine aX rfl rfl rfl (.there _ (.there _ (.there _ (.here _)))) rfl rfl zz.1):a:=h ⟨k⟩
theorem gc (h:Hk b→a:=by intro zz;refine cH rfl rfl rfl rfl rfl (.here _) rfl rfl zz.1):a:=h ⟨k⟩
theorem oF (h:Hk b→a:=by intro zz;refine TL.run (ae rfl hL rfl omq omq) rfl zz.1):a:=h ⟨k⟩
theorem oC (h:Hk b→a:=by intro zz;refine aw (bN rfl rfl hOc omq omq) rfl zz.1):a:=h ⟨k⟩
theorem qt (h:Hk b→a:=by intro zz;refine TL.run ((by first | exact gu rfl rfl omq omq | exact aF rfl)) rfl zz.1):a:=h ⟨k⟩
theorem or (h:Hk b→a:=by intro zz;refine gl (.there _ (.there _ (.here _))) zz.1):a:=h ⟨k⟩
theorem od (h:Hk b→a:=by intro zz;refine aq (S0 (S1 (S1 (S1 (S1 (S1 SN)))))) (Hp.le.refl _) zz.1):a:=h ⟨k⟩
theorem n8 (h:Hk b→a:=by intro zz;refine aW (aE rfl (.here _) rfl) rfl zz.1):a:=h ⟨k⟩
theorem qh (h:Hk b→a:=by intro zz;refine aW (aE rfl (.there _ (.there _ (.here _))) rfl) rfl zz.1):a:=h ⟨k⟩
theorem qa (h:Hk b→a:=by intro zz;refine TL.run (aE rfl (.there _ (.there _ (.there _ (.there _ (.there _ (.here _)))))) rfl) rfl zz.1):a:=h ⟨k⟩
theorem p9 (h:Hk b→a:=by intro zz;refine TL.run (aE rfl (.there _ (.there _ (.there _ (.there _ (.there _ (.there _ (.there _ (.here _)))))))) rfl) rfl zz.1):a:=h ⟨k⟩
theorem tE (h:Hk b→a:=by intro zz;refine cz (aF rfl) rfl rfl ⟨rfl,rfl,trivial⟩ zz.1):a:=h ⟨k⟩
theorem tr (h:Hk b→a:=by intro zz;refine aw (gh rfl rfl omq omq) rfl zz.1):a:=h ⟨k⟩
theorem lZ (h:Hk b→a:=by intro zz;refine aw (ae rfl hrs rfl omq omq) rfl zz.1):a:=h ⟨k⟩
theorem tf (h:Hk b→a:=by intro zz;refine aJ (S1 (S1 (S1 (S1 (S1 SN))))) (Hp.le.refl _) (fun _ _=>aN hrs rfl rfl rfl) rfl zz.1):a:=h ⟨k⟩
theorem sR (h:Hk b→a:=by intro zz;refine aJ (S1 (S1 SN)) (Hp.le.refl _) (fun _ _=>aE rfl (.there _ (.here _)) rfl) rfl zz.1):a:=h ⟨k⟩
theorem sQ (h:Hk b→a:=by intro zz;refine aW (aE rfl (.there _ (.there _ (.there _ (.here _)))) rfl) rfl zz.1):a:=h ⟨k⟩
theorem sO (h:Hk b→a:=by intro zz;refine aq (S0 (S1 (S1 (S1 (S1 SN))))) (Hp.le.refl _) zz.1):a:=h ⟨k⟩
theorem wA (h:Hk b→a:=by intro zz;refine aw ((by first | exact fk rfl rfl omq omq | exact aF rfl)) rfl zz.1):a:=h ⟨k⟩
theorem wz (h:Hk b→a:=by intro zz;refine TL.run (uk rfl rfl omq omq) rfl zz.1):a:=h ⟨k⟩
theorem wt (h:Hk b→a:=by intro zz;refine aX rfl rfl rfl (.there _ (.there _ (.there _ (.there _ (.there _ (.here _)))))) rfl rfl zz.1):a:=h ⟨k⟩
theorem ws (h:Hk b→a:=by intro zz;refine gl (.there _ (.there _ (.there _ (.there _ (.here _))))) zz.1):a:=h ⟨k⟩
theorem wr (h:Hk b→a:=by intro zz;refine aw (ae rfl hro rfl omq omq) rfl zz.1):a:=h ⟨k⟩
theorem wj (h:Hk b→a:=by intro zz;refine aJ (S1 SN) (Hp.le.refl _) (fun _ _=>aE rfl (.here _) rfl) rfl zz.1):a:=h ⟨k⟩
theorem sJ (h:Hk b→a:=by intro zz;refine cH rfl rfl rfl rfl rfl (.there _ (.here _)) rfl rfl zz.1):a:=h ⟨k⟩
theorem An (h:Hk b→a:=by intro zz;refine az rfl rfl ((by first | exact fk rfl rfl omq omq | exact aF rfl)) rfl zz.1):a:=h ⟨k⟩
theorem Am (h:Hk b→a:=by intro zz;refine cI [(0,2),(1,2),(2,1),(3,1),(4,1),(5,2),(6,0)] kr kr zz.1):a:=h ⟨k⟩
theorem Al (h:Hk b→a:=by intro zz;refine az rfl rfl (ae rfl hw rfl omq omq) rfl zz.1):a:=h ⟨k⟩
theorem Ak (h:Hk b→a:=by intro zz;refine aW (ef rfl hOc (.skip _ (.skip _ (.skip _ (.skip _ (.skip _ (.past _ (.past _ .all))))))) hcC rfl) rfl zz.1):a:=h ⟨k⟩
theorem Aj (h:Hk b→a:=by intro zz;refine aV (L':=(b46,_)::((b3,_)::(ob2++((b14,_)::((b30,_)::((b2,_)::(obS++(oc)))))))) (ei [[(b14,_)],[(b46,_)],[(b3,_)],[(b30,_)],[(b2,_)],ob2,obS,oc] [1,2,5,0,3,4,6,7] rfl) zz.1):a:=h ⟨k⟩
theorem Ai (h:Hk b→a:=by intro zz;refine aV (L':=(b46,_)::((b3,_)::(ob94++((b14,_)::((b30,_)::((b2,_)::(obS++(oc)))))))) (List.Perm.refl _) zz.1):a:=h ⟨k⟩
theorem Ah (h:Hk b→a:=by intro zz;refine aV (L':=(b14,_)::((b46,_)::((b3,_)::((b30,_)::((b2,_)::(ob94++(obS++(oc)))))))) (ei [[(b46,_)],[(b3,_)],ob94,[(b14,_)],[(b30,_)],[(b2,_)],obS,oc] [3,0,1,4,5,2,6,7] rfl) zz.1):a:=h ⟨k⟩
theorem Ag (h:Hk b→a:=by intro zz;refine aV (L':=(b14,_)::((b46,_)::((b3,_)::((b30,_)::((b2,_)::(ob2++(obS))))))) (BP [(b14,_),(b46,_),(b3,_),(b30,_),(b2,_)] (A:=ob2) (B:=obS)) zz.1):a:=h ⟨k⟩
theorem Af (h:Hk b→a:=by intro zz;refine aX rfl rfl rfl (.there _ (.there _ (.here _))) (by simp;omega) rfl zz.1):a:=h ⟨k⟩
theorem Ae (h:Hk b→a:=by intro zz;refine aJ (S1 (S1 (S1 (S1 SN)))) (Hp.le.refl _) (fun _ _=>a7 rfl (.here _) rfl) rfl zz.1):a:=h ⟨k⟩
theorem Ad (h:Hk b→a:=by intro zz;refine aJ (S1 (S1 (S1 (S1 (S1 (S1 (S1 SN))))))) (Hp.le.refl _) (fun _ _=>aN hrs rfl rfl rfl) rfl zz.1):a:=h ⟨k⟩
theorem Ac (h:Hk b→a:=by intro zz;refine aX rfl rfl rfl (.there _ (.there _ (.there _ (.there _ (.there _ (.there _ (.there _ (.here _)))))))) rfl rfl zz.1):a:=h ⟨k⟩
theorem Ab (h:Hk b→a:=by intro zz;refine aJ (S1 (S1 (S1 (S1 (S1 (S1 (S1 (S1 (S1 (S1 SN)))))))))) (Hp.le.refl _) (fun _ _=>aN hrs rfl rfl rfl) rfl zz.1):a:=h ⟨k⟩
theorem Aa (h:Hk b→a:=by intro zz;refine gl (.there _ (.there _ (.there _ (.there _ (.there _ (.there _ (.here _))))))) zz.1):a:=h ⟨k⟩
theorem z8 (h:Hk b→a:=by intro zz;refine aJ (S1 (S1 (S1 (S1 (S1 (S1 (S1 (S1 SN)))))))) (Hp.le.refl _) (fun _ _=>aE rfl (.there _ (.there _ (.there _ (.there _ (.there _ (.here _)))))) rfl) rfl zz.1):a:=h ⟨k⟩
theorem z7 (h:Hk b→a:=by intro zz;refine aJ (S1 (S1 (S1 (S1 (S1 (S1 (S1 (S1 (S1 (S1 (S1 (S1 SN)))))))))))) (Hp.le.refl _) (fun _ _=>aN hrs rfl rfl rfl) rfl zz.1):a:=h ⟨k⟩
theorem z6 (h:Hk b→a:=by intro zz;refine aJ (S1 (S1 (S1 (S1 (S1 (S1 (S1 (S1 (S1 (S1 (S1 (S1 (S1 (S1 SN)))))))))))))) (Hp.le.refl _) (fun _ _=>aE rfl (.there _ (.there _ (.there _ (.there _ (.there _ (.there _ (.there _ (.there _ (.there _ (.there _ (.there _ (.here _)))))))))))) rfl) rfl zz.1):a:=h ⟨k⟩
theorem zZ (h:Hk b→a:=by intro zz;refine aJ (S0 (S1 (S1 SN))) (Hp.le.refl _) (fun _ _=>aE rfl (.here _) rfl) rfl zz.1):a:=h ⟨k⟩
theorem zY (h:Hk b→a:=by intro zz;refine aw (cM (tb:=3) rfl rfl haw12 omq omq) rfl zz.1):a:=h ⟨k⟩
theorem zX (h:Hk b→a:=by intro zz;refine TL.run (j9 rfl hcell (.skip _ (.skip _ (.past ob1 .all)))) rfl zz.1):a:=h ⟨k⟩
theorem zW (h:Hk b→a:=by intro zz;refine bi rfl rfl (ae rfl ha rfl omq omq) rfl zz.1):a:=h ⟨k⟩
theorem zV (h:Hk b→a:=by intro zz;refine bi rfl rfl (ae rfl hb rfl omq omq) rfl zz.1):a:=h ⟨k⟩
theorem Dd (h:Hk b→a:=by intro zz;refine TL.run (aE rfl (.there _ (.there _ (.there _ (.here _)))) (ib omq)) rfl zz.1):a:=h ⟨k⟩
theorem Dc (h:Hk b→a:=by intro zz;refine cH rfl rfl rfl rfl rfl (.there _ (.there _ (.there _ (.here _)))) rfl rfl zz.1):a:=h ⟨k⟩
theorem Da (h:Hk b→a:=by intro zz;refine aT [true,true,true,true] [(0,1),(1,4),(2,1),(3,4),(4,1),(5,4),(6,1),(7,4),(8,1),(9,4),(10,1),(11,4),(12,1),(13,1),(14,1),(15,3),(16,1),(17,3),(18,5),(19,1),(20,0)] kr kr zz.1):a:=h ⟨k⟩
theorem C9 (h:Hk b→a:=by intro zz;refine aX rfl rfl rfl (.there _ (.there _ (.there _ (.there _ (.there _ (.there _ (.there _ (.there _ (.there _ (.here _)))))))))) rfl rfl zz.1):a:=h ⟨k⟩
theorem C8 (h:Hk b→a:=by intro zz;refine TL.run (aE rfl (.there _ (.there _ (.there _ (.there _ (.there _ (.there _ (.there _ (.there _ (.there _ (.here _)))))))))) rfl) rfl zz.1):a:=h ⟨k⟩
theorem C7 (h:Hk b→a:=by intro zz;refine gl (.there _ (.there _ (.there _ (.there _ (.there _ (.there _ (.there _ (.there _ (.here _))))))))) zz.1):a:=h ⟨k⟩
theorem C6 (h:Hk b→a:=by intro zz;refine aJ (S1 (S1 (S1 (S1 (S1 (S1 (S1 (S1 (S1 SN))))))))) (Hp.le.refl _) (fun _ _=>aE rfl (.there _ (.there _ (.there _ (.there _ (.there _ (.there _ (.there _ (.here _)))))))) rfl) rfl zz.1):a:=h ⟨k⟩
theorem C5 (h:Hk b→a:=by intro zz;refine au (ab rfl rfl rfl rfl) (j7 p rr omq omq) rfl zz.1):a:=h ⟨k⟩
theorem C4 (h:Hk b→a:=by intro zz;refine aT [true,true,true,false,false] [(0,1),(1,1),(3,1),(4,1),(5,1),(6,1),(7,2),(2,5),(8,5),(9,5),(10,3),(11,1),(12,0)] kr kr zz.1):a:=h ⟨k⟩
theorem C3 (h:Hk b→a:=by intro zz;refine aT [true,true,true,false,false] [(0,1),(1,1),(3,1),(4,1),(5,1),(6,1),(2,5),(7,2),(8,5),(9,5),(10,3),(11,1),(12,0)] kr kr zz.1):a:=h ⟨k⟩
theorem C2 (h:Hk b→a:=by intro zz;refine aT [true,true] [(0,1),(1,1),(2,1),(3,4),(4,1),(5,1),(6,1),(7,4),(8,1),(9,1),(10,4),(11,1),(12,1),(13,4),(14,3),(15,5)] kr kr zz.1):a:=h ⟨k⟩
theorem C1 (h:Hk b→a:=by intro zz;refine aJ (S1 (S1 (S1 (S1 SN)))) (Hp.le.refl _) (fun _ _=>aE rfl (.there _ (.there _ (.here _))) rfl) rfl zz.1):a:=h ⟨k⟩
theorem vR (h:Hk b→a:=by intro zz;refine aJ (S1 (S1 SN)) (Hp.le.refl _) (fun _ _=>aE rfl (.here _) rfl) rfl zz.1):a:=h ⟨k⟩
theorem zm333 (h:Hk b→a:=by intro zz;refine aV (L':=(b46,_)::((b3,_)::(ob1++((b14,_)::((b30,_)::((b2,_)::(obS))))))) (ei [[(b14,_)],[(b46,_)],[(b3,_)],[(b30,_)],[(b2,_)],ob1,obS] [1,2,5,0,3,4,6] rfl) zz.1):a:=h ⟨k⟩
theorem zm334 (h:Hk b→a:=by intro zz;refine aV (L':=(b46,(dK q.terms s (m,o)).2.1.map (Value.int .i64))::((b3,_)::(ob71++((b14,_)::((b30,_)::((b2,_)::(obS))))))) (List.Perm.refl _) zz.1):a:=h ⟨k⟩
theorem zm335 (h:Hk b→a:=by intro zz;refine aV (L':=(b14,_)::((b46,_)::((b3,_)::((b30,_)::((b2,_)::(ob71++(obS))))))) (ei [[(b46,_)],[(b3,_)],ob71,[(b14,_)],[(b30,_)],[(b2,_)],obS] [3,0,1,4,5,2,6] rfl) zz.1):a:=h ⟨k⟩
theorem zm336 (h:Hk b→a:=by intro zz;refine rY (L':=(b14,_)::((b46,_)::((b3,_)::((b30,_)::((b2,_)::(ob71++(obS++(ob76)))))))) (ei [[(b14,_)],[(b46,_)],[(b3,_)],[(b30,_)],[(b2,_)],ob71,obS,ob76] [0,1,2,3,4,5,6,7] rfl) zz.1):a:=h ⟨k⟩
theorem zm337 (h:Hk b→a:=by intro zz;refine cI [(0,1),(1,2),(2,1),(3,1),(4,1),(5,2),(6,1),(7,1),(8,1),(9,2),(10,0),(11,1),(12,1),(13,0)] kr kr zz.1):a:=h ⟨k⟩
theorem zm338 (h:Hk b→a:=by intro zz;refine cI [(0,1),(2,1),(3,1),(4,1),(5,2),(6,1),(7,1),(8,1),(9,2),(10,0),(1,2),(11,1),(12,1),(13,0)] kr kr zz.1):a:=h ⟨k⟩
theorem zm339 (h:Hk b→a:=by intro zz;refine aV (zf [(b14,_),(b46,_),(b3,_),(b30,_),(b2,_)] (A:=ob2) (B:=obS) (D:=oc) (C:=ob101)) zz.1):a:=h ⟨k⟩
theorem zm340 (h:Hk b→a:=by intro zz;refine rY (L':=(b14,_)::((b46,_)::((b3,_)::((b30,_)::((b2,_)::(ob2++(obS++(oc++(ob101))))))))) (ei [[(b14,_)],[(b46,_)],[(b3,_)],[(b30,_)],[(b2,_)],ob2,obS,oc,ob101] [0,1,2,3,4,5,6,7,8] rfl) zz.1):a:=h ⟨k⟩
theorem zm341 (h:Hk b→a:=by intro zz;refine cI [(0,1),(1,2),(2,1),(3,1),(4,1),(5,2),(6,1),(7,1),(8,1),(9,2),(10,1),(11,2),(12,1),(13,1),(14,0)] kr kr zz.1):a:=h ⟨k⟩
theorem zm342 (h:Hk b→a:=by intro zz;refine aW (ef rfl hOw (.skip _ (.skip _ (.skip _ (.skip _ (.skip _ (.past _ (.past _ (.past _ .all)))))))) hwW rfl) rfl zz.1):a:=h ⟨k⟩
theorem zm343 (h:Hk b→a:=by intro zz;refine aT [true,true,true] [(0,1),(1,1),(2,1),(3,1),(4,1),(5,4),(6,4),(7,3),(8,5),(9,1),(10,1),(11,1),(12,0)] kr kr zz.1):a:=h ⟨k⟩
theorem zm344 (h:Hk b→a:=by intro zz;refine aT [false,false] [(0,1),(1,1),(3,1),(4,1),(5,1),(6,1),(7,2),(2,5),(8,5),(9,5),(10,5),(11,1)] kr kr zz.1):a:=h ⟨k⟩
theorem zm345 (h:Hk b→a:=by intro zz;refine aT [false,false] [(0,1),(1,1),(3,1),(4,1),(5,1),(6,1),(2,5),(7,2),(8,5),(9,5),(10,5),(11,1)] kr kr zz.1):a:=h ⟨k⟩
theorem zm346 (h:Hk b→a:=by intro zz;refine TL.run (PR.to (ef rfl hO58 (.skip _ (.skip _ (.skip _ (.skip _ (.skip _ (.skip _ .all)))))) rfl rfl) (rfl:_=Value.slice (some ⟨b55,0,none⟩) 2 2)) rfl zz.1):a:=h ⟨k⟩
theorem zm347 (h:Hk b→a:=by intro zz;refine aT [true,true,true,true,true,false] [(0,1),(1,4),(2,1),(3,4),(4,1),(5,1),(6,4),(7,1),(8,4),(9,1),(10,1),(11,1),(12,4),(13,1),(14,1),(15,1),(17,1),(18,4),(19,1),(20,1),(16,5),(21,1),(22,3),(23,1),(24,3),(25,5),(26,1),(27,0)] kr kr zz.1):a:=h ⟨k⟩
theorem zm348 (h:Hk b→a:=by intro zz;refine aT [true,true,true,true,true,true,true,true,true,true] [(0,1),(1,4),(2,1),(3,4),(4,1),(5,1),(6,4),(7,1),(8,4),(9,1),(10,1),(11,1),(12,4),(13,1),(14,1),(15,4),(16,1),(17,1),(18,1),(19,3),(20,1),(21,3),(22,5),(23,1),(24,0)] kr kr zz.1):a:=h ⟨k⟩
theorem CZ (h:Hk b→a:=by intro zz;refine aJ (S1 (S1 (S1 (S1 (S1 (S1 (S1 (S1 (S1 (S1 SN)))))))))) (Hp.le.refl _) (fun _ _=>aE rfl (.there _ (.there _ (.there _ (.there _ (.there _ (.there _ (.there _ (.here _)))))))) rfl) rfl zz.1):a:=h ⟨k⟩
theorem zm350 (h:Hk b→a:=by intro zz;refine aT [true,true,true,true,true,true,true,true,true,true,true,true] [(0,1),(1,4),(2,1),(3,4),(4,1),(5,1),(6,4),(7,1),(8,4),(9,1),(10,1),(11,1),(12,4),(13,1),(14,1),(15,4),(16,1),(17,1),(18,1),(19,3),(20,1),(21,3),(22,5),(23,1),(24,0)] kr kr zz.1):a:=h ⟨k⟩
theorem CY (h:Hk b→a:=by intro zz;refine aJ (S1 (S1 (S1 (S1 (S1 (S1 (S1 (S1 (S1 (S1 (S1 (S1 SN)))))))))))) (Hp.le.refl _) (fun _ _=>aE rfl (.there _ (.there _ (.there _ (.there _ (.there _ (.there _ (.there _ (.there _ (.there _ (.here _)))))))))) rfl) rfl zz.1):a:=h ⟨k⟩
theorem zm352 (h:Hk b→a:=by intro zz;refine aX rfl rfl rfl (.there _ (.there _ (.there _ (.there _ (.there _ (.there _ (.there _ (.there _ (.there _ (.there _ (.there _ (.here _)))))))))))) rfl rfl zz.1):a:=h ⟨k⟩
theorem zm353 (h:Hk b→a:=by intro zz;refine aJ (S1 (S1 (S1 (S1 (S1 (S1 (S1 (S1 (S1 (S1 (S1 (S1 (S1 (S1 SN)))))))))))))) (Hp.le.refl _) (fun _ _=>aN hrs rfl rfl rfl) rfl zz.1):a:=h ⟨k⟩
theorem zm354 (h:Hk b→a:=by intro zz;refine gl (.there _ (.there _ (.there _ (.there _ (.there _ (.there _ (.there _ (.there _ (.there _ (.there _ (.here _))))))))))) zz.1):a:=h ⟨k⟩
theorem zm355 (h:Hk b→a:=by intro zz;refine aT [true] [(0,1),(1,1),(2,1),(3,4),(4,1),(5,1),(6,1),(7,4),(8,1),(9,5),(10,1)] kr kr zz.1):a:=h ⟨k⟩
theorem zm358 (h:Hk b→a:=by intro zz;refine aT [true,true,true,true,true] [(0,1),(1,1),(2,1),(3,1),(4,4),(5,1),(6,1),(7,1),(8,1),(9,1),(10,4),(11,1),(12,1),(13,1),(14,2),(15,1),(16,1),(17,3),(18,5),(19,1),(20,1),(21,5)] kr kr zz.1):a:=h ⟨k⟩
theorem zm359 (h:Hk b→a:=by intro zz;refine aT [true,true,true,true,true] [(0,1),(1,1),(2,1),(3,1),(4,4),(5,1),(6,1),(7,1),(8,1),(9,1),(10,4),(11,1),(12,1),(13,1),(14,2),(15,4),(16,3),(17,5),(18,1),(19,1),(20,5)] kr kr zz.1):a:=h ⟨k⟩
theorem zm360 (h:Hk b→a:=by intro zz;refine aJ (S1 (S1 (S1 (S1 (S1 (S1 SN)))))) (Hp.le.refl _) (fun _ _=>aE rfl (.there _ (.there _ (.there _ (.there _ (.here _))))) rfl) rfl zz.1):a:=h ⟨k⟩
theorem CU (h:Hk b→a:=by intro zz;refine aJ (S1 (S1 (S1 (S1 (S1 SN))))) (Hp.le.refl _) (fun _ _=>aE rfl (.there _ (.there _ (.there _ (.here _)))) rfl) rfl zz.1):a:=h ⟨k⟩
theorem zm364 (h:Hk b→a:=by intro zz;refine au (ab rfl rfl rfl rfl) (uR ⟨[],[⟨1,[120],[⟨[120],ck,cn,0⟩],(some ⟨b5,0,none⟩,1)⟩],(some ⟨b7,0,none⟩,1)⟩ ⟨hT7,by intro t ht;simp at ht;subst ht;exact⟨hA5,by intro a ha;simp at ha;subst ha;exact hn⟩⟩ hM) rfl zz.1):a:=h ⟨k⟩
theorem zm365 (h:Hk b→a:=by intro zz;refine TL.run (PR.to (gu rfl rfl (by simp only [List.length_cons,List.length_nil];omega) (by simp only [List.length_cons,List.length_nil];omega)) (congrArg (Value.int .i64) (by simp only [List.length_cons,List.length_nil];omega))) rfl zz.1):a:=h ⟨k⟩
theorem zm366 (h:Hk b→a:=by intro zz;refine aT [true,true,false] [(0,1),(1,4),(2,1),(3,4),(4,1),(5,1),(6,4),(7,1),(8,4),(9,1),(10,1),(11,4),(12,1),(13,1),(14,1),(15,1),(16,5),(17,1),(18,3),(19,5),(20,1),(21,0)] kr kr zz.1):a:=h ⟨k⟩
theorem zm367 (h:Hk b→a:=by intro zz;refine aT [true,true,true,true,true,false] [(0,1),(1,4),(2,1),(3,4),(4,1),(5,1),(6,1),(7,4),(8,1),(9,4),(10,1),(11,4),(12,1),(13,5),(14,1),(15,3),(16,1),(17,3),(18,5),(19,1),(20,0)] kr kr zz.1):a:=h ⟨k⟩
theorem zm368 (h:Hk b→a:=by intro zz;refine aT [true,true,true,true,true,true,true,false] [(0,1),(1,4),(2,1),(3,4),(4,1),(5,1),(6,1),(7,4),(8,1),(9,4),(10,1),(11,4),(12,1),(13,5),(14,1),(15,3),(16,1),(17,3),(18,5),(19,1),(20,0)] kr kr zz.1):a:=h ⟨k⟩
theorem zm369 (h:Hk b→a:=by intro zz;refine aT [true,true,true,true,true,true,true,true] [(0,1),(1,4),(2,1),(3,4),(4,1),(5,1),(6,4),(7,1),(8,4),(9,1),(10,1),(11,1),(12,4),(13,1),(14,1),(15,4),(16,1),(17,1),(18,1),(19,3),(20,1),(21,3),(22,5),(23,1),(24,0)] kr kr zz.1):a:=h ⟨k⟩
theorem zm370 (h:Hk b→a:=by intro zz;refine aT [true,true,true,true,true,true,true,false] [(0,1),(1,4),(2,1),(3,4),(4,1),(5,1),(6,4),(7,1),(8,4),(9,1),(10,1),(11,1),(12,4),(13,1),(14,1),(15,1),(17,1),(18,4),(19,1),(20,1),(16,5),(21,1),(22,3),(23,1),(24,3),(25,5),(26,1),(27,0)] kr kr zz.1):a:=h ⟨k⟩
theorem zm371 (h:Hk b→a:=by intro zz;refine aT [true,true,true,true,true,true,true,true,true,false] [(0,1),(1,4),(2,1),(3,4),(4,1),(5,1),(6,1),(7,4),(8,1),(9,4),(10,1),(11,4),(12,1),(13,5),(14,1),(15,3),(16,1),(17,3),(18,5),(19,1),(20,0)] kr kr zz.1):a:=h ⟨k⟩
theorem zm372 (h:Hk b→a:=by intro zz;refine TL.run (PR.to (ef rfl hO112 (.skip _ (.skip _ (.skip _ (.skip _ (.skip _ (.skip _ (.skip _ (.skip _ (.skip _ (.skip _ (.skip _ (.skip _ .all)))))))))))) rfl rfl) (rfl:_=Value.slice (some ⟨b55,0,none⟩) 2 2)) rfl zz.1):a:=h ⟨k⟩
theorem zm373 (h:Hk b→a:=by intro zz;refine aT [true,true,true,true,true,true,true,true,true,true,true,true,true,true] [(0,1),(1,4),(2,1),(3,4),(4,1),(5,1),(6,4),(7,1),(8,4),(9,1),(10,1),(11,1),(12,4),(13,1),(14,1),(15,4),(16,1),(17,1),(18,1),(19,3),(20,1),(21,3),(22,5),(23,1),(24,0)] kr kr zz.1):a:=h ⟨k⟩
theorem zm374 (h:Hk b→a:=by intro zz;refine cH rfl rfl rfl rfl rfl (.there _ (.there _ (.there _ (.there _ (.there _ (.there _ (.there _ (.there _ (.there _ (.there _ (.there _ (.there _ (.there _ (.there _ (.there _ (.here _)))))))))))))))) rfl rfl zz.1):a:=h ⟨k⟩
theorem zm375 (h:Hk b→a:=by intro zz;refine aT [false,true,true] [(0,1),(1,1),(2,1),(3,4),(4,1),(5,1),(6,4),(7,1),(8,1),(9,1),(10,4),(11,1),(12,1),(13,1),(14,4),(15,1),(16,1),(17,4),(18,5),(19,1)] kr kr zz.1):a:=h ⟨k⟩
theorem zm376 (h:Hk b→a:=by intro zz;refine aT [true,true,false,false] [(0,1),(1,4),(2,1),(3,4),(4,1),(5,1),(6,4),(7,4),(8,1),(9,4),(10,1),(11,1),(12,4),(14,1),(15,1),(16,1),(17,1),(18,2),(13,3),(19,5),(20,5),(21,3),(22,1),(23,3),(24,5),(25,1),(26,0)] kr kr zz.1):a:=h ⟨k⟩
theorem zm377 (h:Hk b→a:=by intro zz;refine aT [true,true,true] [(0,1),(1,1),(2,1),(3,1),(4,4),(5,1),(6,1),(7,1),(8,1),(9,1),(10,4),(11,1),(12,1),(13,1),(14,2),(15,1),(16,1),(17,1),(18,1),(19,4),(20,1),(21,1),(22,3),(23,5),(24,1),(25,1),(26,5)] kr kr zz.1):a:=h ⟨k⟩
theorem zm378 (h:Hk b→a:=by intro zz;refine aT [true,true,true,true,true,true] [(0,1),(1,1),(2,1),(3,1),(4,4),(5,1),(6,1),(7,1),(8,1),(9,1),(10,4),(11,1),(12,1),(13,1),(14,2),(15,4),(16,3),(17,5),(18,1),(19,1),(20,5)] kr kr zz.1):a:=h ⟨k⟩
theorem zm379 (h:Hk b→a:=by intro zz;refine aT [true,true,false] [(0,1),(1,4),(2,1),(3,1),(4,4),(5,1),(6,4),(7,1),(8,1),(9,4),(10,1),(11,1),(12,1),(13,1),(14,1),(15,1),(16,4),(17,5),(18,3),(19,5),(20,1),(21,0)] kr kr zz.1):a:=h ⟨k⟩
theorem zm380 (h:Hk b→a:=by intro zz;refine jf rfl rfl (ab rfl rfl rfl rfl) (pf (hA.ls x (List.mem_of_getElem? hx)).t (hB.ls y (List.mem_of_getElem? hy)).t (hA.ls x (List.mem_of_getElem? hx)).ts (hB.ls y (List.mem_of_getElem? hy)).ts hg.2) rfl zz.1):a:=h ⟨k⟩
theorem zm381 (h:Hk b→a:=by intro zz;refine rU (L':=(b136,_)::((b14,_)::((b46,_)::((b3,_)::((b30,_)::((b2,_)::(ob2++(ob137)))))))) (ei [[(b136,_)],[(b14,_)],[(b46,_)],[(b3,_)],[(b30,_)],[(b2,_)],ob2,ob137] [0,1,2,3,4,5,6,7] rfl) zz.1):a:=h ⟨k⟩
theorem zm382 (h:Hk b→a:=by intro zz;refine TL.run (PR.to (gu rfl rfl (by simp only [List.length_append,List.length_cons,List.length_nil];omega) (by simp only [List.length_append,List.length_cons,List.length_nil];omega)) (congrArg (Value.int .i64) (show _=(rows.length:Int) from by simp only [List.length_append,List.length_cons,List.length_nil];omega))) rfl zz.1):a:=h ⟨k⟩
theorem zm383 (h:Hk b→a:=by intro zz;refine aT [true,true,true,true] [(0,1),(1,1),(2,1),(3,1),(4,4),(5,1),(6,1),(7,1),(8,1),(9,1),(10,4),(11,1),(12,1),(13,1),(14,2),(15,1),(16,1),(17,3),(18,5),(19,1),(20,1),(21,5)] kr kr zz.1):a:=h ⟨k⟩
theorem zm384 (h:Hk b→a:=by intro zz;refine aT [true,true,false,false] [(0,1),(1,1),(2,1),(3,2),(4,1),(5,4),(6,1),(8,1),(9,1),(10,1),(12,1),(13,4),(14,1),(7,5),(11,2),(15,5),(16,1),(17,1)] kr kr zz.1):a:=h ⟨k⟩
theorem zm385 (h:Hk b→a:=by intro zz;refine aT [true,true,false,false] [(0,1),(1,1),(2,1),(3,2),(4,1),(5,4),(6,1),(8,1),(9,1),(10,1),(11,2),(12,1),(13,4),(14,1),(7,5),(15,5),(16,1),(17,1)] kr kr zz.1):a:=h ⟨k⟩
theorem zm2 (h:Hk b→a:=by intro zz;refine TC.seq (TC.region zz.1)):a:=h ⟨k⟩
theorem zm3 (h:Hk b→a:=by intro zz;refine zm0 ?_;refine zm0 zz.1):a:=h ⟨k⟩
theorem zm9 (h:Hk b→a:=by intro zz;refine jN ?_;refine az rfl rfl (aE rfl (.here _) rfl) rfl zz.1):a:=h ⟨k⟩
theorem de (h:Hk b→a:=by intro zz;refine TC.skip (ag zz.1)):a:=h ⟨k⟩
theorem dP (h:Hk b→a:=by intro zz;refine zm0 ?_;refine TL.nil zz.1):a:=h ⟨k⟩
theorem eZ (h:Hk b→a:=by intro zz;refine TL.run (cg rfl) rfl (zm5 zz.1)):a:=h ⟨k⟩
theorem fj (h:Hk b→a:=by intro zz;refine cQ ?_;refine cQ zz.1):a:=h ⟨k⟩
theorem fR (h:Hk b→a:=by intro zz;refine jN ?_;refine az rfl rfl (aE rfl (.there _ (.here _)) rfl) rfl zz.1):a:=h ⟨k⟩
theorem fD (h:Hk b→a:=by intro zz;refine zm5 ?_;refine kU zz.1):a:=h ⟨k⟩
theorem f9 (h:Hk b→a:=by intro zz;refine zm4 ?_;refine bz zz.1):a:=h ⟨k⟩
theorem jl (h:Hk b→a:=by intro zz;refine zm5 ?_;refine m7 zz.1):a:=h ⟨k⟩
theorem jk (h:Hk b→a:=by intro zz;refine TC.region (zm0 zz.1)):a:=h ⟨k⟩
theorem jQ (h:Hk b→a:=by intro zz;refine zm4 ?_;refine CU zz.1):a:=h ⟨k⟩
theorem ji (h:Hk b→a:=by intro zz;refine cE ?_;refine cE zz.1):a:=h ⟨k⟩
theorem lz (h:Hk b→a:=by intro zz;refine TC.seq (eY zz.1)):a:=h ⟨k⟩
theorem o8 (h:Hk b→a:=by intro zz;refine zm7 ?_;refine zm4 zz.1):a:=h ⟨k⟩
theorem pR (h:Hk b→a:=by intro zz;refine zm4 ?_;refine aW (aE rfl (.there _ (.here _)) rfl) rfl zz.1):a:=h ⟨k⟩
theorem lV (h:Hk b→a:=by intro zz;refine TQ.run (aF rfl) rfl (TQ.run (aF rfl) rfl zz.1)):a:=h ⟨k⟩
theorem se (h:Hk b→a:=by intro zz;refine zm5 ?_;refine sh zz.1):a:=h ⟨k⟩
theorem lg (h:Hk b→a:=by intro zz;refine bi rfl rfl (aF rfl) rfl (bi rfl rfl (aF rfl) rfl zz.1)):a:=h ⟨k⟩
theorem gQ (h:Hk b→a:=by intro zz;refine zm7 ?_;refine zm7 zz.1):a:=h ⟨k⟩
theorem l7 (h:Hk b→a:=by intro zz;refine zm7 ?_;refine lZ zz.1):a:=h ⟨k⟩
theorem ot (h:Hk b→a:=by intro zz;refine zm4 ?_;refine vR zz.1):a:=h ⟨k⟩
theorem l3 (h:Hk b→a:=by intro zz;refine TL.run (bW rfl rfl rfl) rfl (zm0 zz.1)):a:=h ⟨k⟩
theorem n6 (h:Hk b→a:=by intro zz;refine TC.seq (rX kr kr zz.1)):a:=h ⟨k⟩
theorem tG (h:Hk b→a:=by intro zz;refine zm4 ?_;refine aJ (S1 (S1 (S1 SN))) (Hp.le.refl _) (fun _ _=>aE rfl (.there _ (.here _)) rfl) rfl zz.1):a:=h ⟨k⟩
theorem pZ (h:Hk b→a:=by intro zz;refine zm4 ?_;refine n8 zz.1):a:=h ⟨k⟩
theorem tj (h:Hk b→a:=by intro zz;refine TQ.run (aF rfl) rfl (TQ.run (cg rfl) rfl zz.1)):a:=h ⟨k⟩
theorem sW (h:Hk b→a:=by intro zz;refine zm4 ?_;refine aJ (S1 (S1 (S1 (S1 (S1 (S1 (S1 SN))))))) (Hp.le.refl _) (fun _ _=>aE rfl (.there _ (.there _ (.there _ (.there _ (.there _ (.here _)))))) rfl) rfl zz.1):a:=h ⟨k⟩
theorem sV (h:Hk b→a:=by intro zz;refine zm4 ?_;refine CZ zz.1):a:=h ⟨k⟩
theorem sU (h:Hk b→a:=by intro zz;refine aw (fk rfl rfl sq sq) rfl (dQ zz.1)):a:=h ⟨k⟩
theorem sT (h:Hk b→a:=by intro zz;refine zm4 ?_;refine CY zz.1):a:=h ⟨k⟩
theorem xa (h:Hk b→a:=by intro zz;refine kU ?_;refine zm0 zz.1):a:=h ⟨k⟩
theorem w3 (h:Hk b→a:=by intro zz;refine zm5 ?_;refine m6 zz.1):a:=h ⟨k⟩
theorem wQ (h:Hk b→a:=by intro zz;refine TL.run (bD rfl hmv) rfl (zm0 zz.1)):a:=h ⟨k⟩
theorem wF (h:Hk b→a:=by intro zz;refine zm5 ?_;refine aX rfl rfl rfl (.there _ (.there _ (.here _))) rfl rfl zz.1):a:=h ⟨k⟩
theorem wE (h:Hk b→a:=by intro zz;refine iC ?_;refine bi rfl rfl (aE rfl (.here _) rfl) rfl zz.1):a:=h ⟨k⟩
theorem ww (h:Hk b→a:=by intro zz;refine gc ?_;refine TL.nil zz.1):a:=h ⟨k⟩
theorem wu (h:Hk b→a:=by intro zz;refine zm7 ?_;refine dQ zz.1):a:=h ⟨k⟩
theorem vY (h:Hk b→a:=by intro zz;refine zm0 ?_;refine lw zz.1):a:=h ⟨k⟩
theorem vX (h:Hk b→a:=by intro zz;refine TL.run (dC rfl) rfl (TL.run (D2 rfl rfl omq) rfl zz.1)):a:=h ⟨k⟩
theorem pW (h:Hk b→a:=by intro zz;refine zm5 ?_;refine aX rfl rfl rfl (.here _) rfl rfl zz.1):a:=h ⟨k⟩
theorem vT (h:Hk b→a:=by intro zz;refine zm4 ?_;refine aJ (S1 (S1 (S1 (S1 SN)))) (Hp.le.refl _) (fun _ _=>aE rfl (.there _ (.here _)) rfl) rfl zz.1):a:=h ⟨k⟩
theorem zS (h:Hk b→a:=by intro zz;refine fi ?_;refine zm5 zz.1):a:=h ⟨k⟩
theorem C0 (h:Hk b→a:=by intro zz;refine fi ?_;refine aX rfl rfl rfl (.there _ (.here _)) (by simp;omega) rfl zz.1):a:=h ⟨k⟩
theorem zm1 (h:Hk b→a:=by intro zz;refine zm0 ?_;refine TL.nil (ag zz.1)):a:=h ⟨k⟩
theorem dg (h:Hk b→a:=by intro zz;refine cQ ?_;refine zm3 zz.1):a:=h ⟨k⟩
theorem d5 (h:Hk b→a:=by intro zz;refine zm2 ?_;refine zm0 zz.1):a:=h ⟨k⟩
theorem gq (h:Hk b→a:=by intro zz;refine zm2 ?_;refine gP zz.1):a:=h ⟨k⟩
theorem fC (h:Hk b→a:=by intro zz;refine gc ?_;refine TL.nil (ag zz.1)):a:=h ⟨k⟩
theorem iF (h:Hk b→a:=by intro zz;refine cQ ?_;refine dP zz.1):a:=h ⟨k⟩
theorem gp (h:Hk b→a:=by intro zz;refine zm2 ?_;refine zm5 zz.1):a:=h ⟨k⟩
theorem iR (h:Hk b→a:=by intro zz;refine zm7 ?_;refine aw (cg rfl) rfl (zm4 zz.1)):a:=h ⟨k⟩
theorem iQ (h:Hk b→a:=by intro zz;refine de ?_;refine TC.seq zz.1):a:=h ⟨k⟩
theorem jS (h:Hk b→a:=by intro zz;refine TF.back (TF.nil (ag zz.1))):a:=h ⟨k⟩
theorem jj (h:Hk b→a:=by intro zz;refine ji ?_;refine cE zz.1):a:=h ⟨k⟩
theorem kV (h:Hk b→a:=by intro zz;refine TQ.run (aF rfl) rfl (TQ.nil (ag zz.1))):a:=h ⟨k⟩
theorem lW (h:Hk b→a:=by intro zz;refine TC.region (zm3 zz.1)):a:=h ⟨k⟩
theorem pO (h:Hk b→a:=by intro zz;refine TC.region (fD zz.1)):a:=h ⟨k⟩
theorem mg (h:Hk b→a:=by intro zz;refine zm2 ?_;refine TL.run (a7 rfl (.there _ (.here _)) rfl) rfl zz.1):a:=h ⟨k⟩
theorem mb (h:Hk b→a:=by intro zz;refine zm3 ?_;refine TL.nil zz.1):a:=h ⟨k⟩
theorem l6 (h:Hk b→a:=by intro zz;refine zm7 ?_;refine aw (fk rfl rfl omq omq) rfl (lZ zz.1)):a:=h ⟨k⟩
theorem k7 (h:Hk b→a:=by intro zz;refine lw ?_;refine dP zz.1):a:=h ⟨k⟩
theorem k6 (h:Hk b→a:=by intro zz;refine zm2 ?_;refine dt zz.1):a:=h ⟨k⟩
theorem ov (h:Hk b→a:=by intro zz;refine fP ?_;refine TQ.run (aE rfl (.here _) rfl) rfl (TQ.run (aF rfl) rfl zz.1)):a:=h ⟨k⟩
theorem ou (h:Hk b→a:=by intro zz;refine gQ ?_;refine zm7 zz.1):a:=h ⟨k⟩
theorem oh (h:Hk b→a:=by intro zz;refine lV ?_;refine TQ.run (ae rfl hb rfl omq omq) rfl zz.1):a:=h ⟨k⟩
theorem qf (h:Hk b→a:=by intro zz;refine TC.region (jl zz.1)):a:=h ⟨k⟩
theorem qd (h:Hk b→a:=by intro zz;refine TL.run (cg rfl) rfl (fD zz.1)):a:=h ⟨k⟩
theorem nZ (h:Hk b→a:=by intro zz;refine TL.run (fk rfl rfl omq omq) rfl (dP zz.1)):a:=h ⟨k⟩
theorem tA (h:Hk b→a:=by intro zz;refine ji ?_;refine zm0 zz.1):a:=h ⟨k⟩
theorem tw (h:Hk b→a:=by intro zz;refine pW ?_;refine TL.nil zz.1):a:=h ⟨k⟩
theorem te (h:Hk b→a:=by intro zz;refine zm0 ?_;refine zS zz.1):a:=h ⟨k⟩
theorem sM (h:Hk b→a:=by intro zz;refine zm9 ?_;refine m8 zz.1):a:=h ⟨k⟩
theorem Aq (h:Hk b→a:=by intro zz;refine aX rfl rfl rfl (.here _) rfl rfl (TL.nil (ag zz.1))):a:=h ⟨k⟩
theorem Ap (h:Hk b→a:=by intro zz;refine f9 ?_;refine aX rfl rfl rfl (.there _ (.there _ (.here _))) rfl rfl zz.1):a:=h ⟨k⟩
theorem wv (h:Hk b→a:=by intro zz;refine f9 ?_;refine m6 zz.1):a:=h ⟨k⟩
theorem wm (h:Hk b→a:=by intro zz;refine TL.run (ae rfl hxa rfl omq omq) rfl (zm5 ?_);refine TL.run (bh hxa ha rfl rfl) rfl zz.1):a:=h ⟨k⟩
theorem wg (h:Hk b→a:=by intro zz;refine jk ?_;refine gP zz.1):a:=h ⟨k⟩
theorem wd (h:Hk b→a:=by intro zz;refine ao rfl (gc ?_);refine aq (S0 (S1 (S1 SN))) (Hp.le.refl _) zz.1):a:=h ⟨k⟩
theorem wb (h:Hk b→a:=by intro zz;refine zm4 ?_;refine ao rfl (aX rfl rfl rfl (.here _) rfl rfl zz.1)):a:=h ⟨k⟩
theorem vW (h:Hk b→a:=by intro zz;refine iC ?_;refine bi rfl rfl (aE rfl (.there _ (.here _)) rfl) rfl (bi rfl rfl (aF rfl) rfl zz.1)):a:=h ⟨k⟩
theorem zP (h:Hk b→a:=by intro zz;refine pZ ?_;refine zm7 zz.1):a:=h ⟨k⟩
theorem zO (h:Hk b→a:=by intro zz;refine fP ?_;refine TQ.run (aE rfl (.there _ (.here _)) rfl) rfl (TQ.run (aF rfl) rfl zz.1)):a:=h ⟨k⟩
theorem zm8 (h:Hk b→a:=by intro zz;refine zm1 ?_;refine TC.block zz.1):a:=h ⟨k⟩
theorem eh (h:Hk b→a:=by intro zz;refine zm1 ?_;refine TC.ret zz.1):a:=h ⟨k⟩
theorem eq (h:Hk b→a:=by intro zz;refine ji ?_;refine ji zz.1):a:=h ⟨k⟩
theorem eN (h:Hk b→a:=by intro zz;refine zm2 ?_;refine zm3 zz.1):a:=h ⟨k⟩
theorem gb (h:Hk b→a:=by intro zz;refine cQ ?_;refine zm1 zz.1):a:=h ⟨k⟩
theorem gD (h:Hk b→a:=by intro zz;refine TL.nil (ag (zm2 zz.1))):a:=h ⟨k⟩
theorem fE (h:Hk b→a:=by intro zz;refine gp ?_;refine kU zz.1):a:=h ⟨k⟩
theorem iD (h:Hk b→a:=by intro zz;refine gp ?_;refine m7 zz.1):a:=h ⟨k⟩
theorem jm (h:Hk b→a:=by intro zz;refine fC ?_;refine TC.ret zz.1):a:=h ⟨k⟩
theorem gB (h:Hk b→a:=by intro zz;refine zm1 ?_;refine TC.seq zz.1):a:=h ⟨k⟩
theorem ly (h:Hk b→a:=by intro zz;refine zm0 ?_;refine zm1 zz.1):a:=h ⟨k⟩
theorem pb (h:Hk b→a:=by intro zz;refine fC ?_;refine TC.seq zz.1):a:=h ⟨k⟩
theorem o9 (h:Hk b→a:=by intro zz;refine zm1 ?_;refine eM rfl zz.1):a:=h ⟨k⟩
theorem pQ (h:Hk b→a:=by intro zz;refine lW ?_;refine zm0 zz.1):a:=h ⟨k⟩
theorem sg (h:Hk b→a:=by intro zz;refine pW ?_;refine TL.nil (ag zz.1)):a:=h ⟨k⟩
theorem li (h:Hk b→a:=by intro zz;refine fR ?_;refine zm9 zz.1):a:=h ⟨k⟩
theorem k9 (h:Hk b→a:=by intro zz;refine zm1 ?_;refine cW rfl zz.1):a:=h ⟨k⟩
theorem k8 (h:Hk b→a:=by intro zz;refine jk ?_;refine fD zz.1):a:=h ⟨k⟩
theorem ma (h:Hk b→a:=by intro zz;refine cH rfl rfl rfl rfl rfl (.there _ (.there _ (.there _ (.there _ (.there _ (.here _)))))) rfl rfl (TL.nil (ag (TC.ret zz.1)))):a:=h ⟨k⟩
theorem l8 (h:Hk b→a:=by intro zz;refine gQ ?_;refine aw (cg rfl) rfl (zm4 zz.1)):a:=h ⟨k⟩
theorem gv (h:Hk b→a:=by intro zz;refine iQ ?_;refine TC.block zz.1):a:=h ⟨k⟩
theorem l4 (h:Hk b→a:=by intro zz;refine sJ ?_;refine TL.nil (ag (TC.ret zz.1))):a:=h ⟨k⟩
theorem qj (h:Hk b→a:=by intro zz;refine zm3 ?_;refine zm3 zz.1):a:=h ⟨k⟩
theorem k4 (h:Hk b→a:=by intro zz;refine TC.seq (d5 zz.1)):a:=h ⟨k⟩
theorem ti (h:Hk b→a:=by intro zz;refine zm7 ?_;refine TF.nil (ag (TC.ret zz.1))):a:=h ⟨k⟩
theorem th (h:Hk b→a:=by intro zz;refine vT ?_;refine lZ ?_;refine aJ (S1 (S1 (S1 (S1 SN)))) (Hp.le.refl _) (fun _ _=>aN hrs rfl rfl rfl) rfl zz.1):a:=h ⟨k⟩
theorem sP (h:Hk b→a:=by intro zz;refine iR ?_;refine vR zz.1):a:=h ⟨k⟩
theorem xc (h:Hk b→a:=by intro zz;refine cQ ?_;refine dg zz.1):a:=h ⟨k⟩
theorem w6 (h:Hk b→a:=by intro zz;refine zm0 ?_;refine TL.run (bW rfl rfl rfl) rfl (TL.nil (ag zz.1))):a:=h ⟨k⟩
theorem wP (h:Hk b→a:=by intro zz;refine C0 ?_;refine TL.nil (ag zz.1)):a:=h ⟨k⟩
theorem wO (h:Hk b→a:=by intro zz;refine TC.region (se ?_);refine gP zz.1):a:=h ⟨k⟩
theorem wH (h:Hk b→a:=by intro zz;refine gQ ?_;refine gQ zz.1):a:=h ⟨k⟩
theorem wG (h:Hk b→a:=by intro zz;refine cH rfl rfl rfl rfl rfl (.there _ (.there _ (.here _))) rfl rfl (TL.nil (ag (TC.ret zz.1)))):a:=h ⟨k⟩
theorem wD (h:Hk b→a:=by intro zz;refine bi rfl rfl (aF rfl) rfl (kV zz.1)):a:=h ⟨k⟩
theorem wk (h:Hk b→a:=by intro zz;refine fP ?_;refine TQ.run (aE rfl (.here _) rfl) rfl (lV zz.1)):a:=h ⟨k⟩
theorem vZ (h:Hk b→a:=by intro zz;refine d5 ?_;refine gP zz.1):a:=h ⟨k⟩
theorem De (h:Hk b→a:=by intro zz;refine cz (aF rfl) rfl rfl ⟨rfl,trivial⟩ (cz (aF rfl) rfl rfl ⟨rfl,trivial⟩ (cz (aF rfl) rfl rfl ⟨rfl,trivial⟩ (cz (aF rfl) rfl rfl ⟨rfl,trivial⟩ zz.1)))):a:=h ⟨k⟩
theorem Db (h:Hk b→a:=by intro zz;refine jH rfl rfl rfl rfl (jH rfl rfl rfl rfl (jH rfl rfl rfl rfl (jH rfl rfl rfl rfl zz.1)))):a:=h ⟨k⟩
theorem zN (h:Hk b→a:=by intro zz;refine cz (bW rfl rfl rfl) rfl rfl ⟨rfl,rfl,trivial⟩ (cz (bW rfl rfl rfl) rfl rfl ⟨rfl,rfl,trivial⟩ (cz (bW rfl rfl rfl) rfl rfl ⟨rfl,rfl,trivial⟩ (cz (bW rfl rfl rfl) rfl rfl ⟨rfl,rfl,trivial⟩ zz.1)))):a:=h ⟨k⟩
theorem CS (h:Hk b→a:=by intro zz;refine cz (bW rfl rfl rfl) rfl rfl ⟨rfl,trivial⟩ (cz (bW rfl rfl rfl) rfl rfl ⟨rfl,trivial⟩ (cz (bW rfl rfl rfl) rfl rfl ⟨rfl,trivial⟩ (cz (bW rfl rfl rfl) rfl rfl ⟨rfl,trivial⟩ zz.1)))):a:=h ⟨k⟩
theorem fQ (h:Hk b→a:=by intro zz;refine zm0 ?_;refine eh zz.1):a:=h ⟨k⟩
theorem f8 (h:Hk b→a:=by intro zz;refine TC.seq (eN zz.1)):a:=h ⟨k⟩
theorem gE (h:Hk b→a:=by intro zz;refine TL.nil (ag (d5 zz.1))):a:=h ⟨k⟩
theorem im (h:Hk b→a:=by intro zz;refine eN ?_;refine zm0 zz.1):a:=h ⟨k⟩
theorem jn (h:Hk b→a:=by intro zz;refine jj ?_;refine zm3 zz.1):a:=h ⟨k⟩
theorem gn (h:Hk b→a:=by intro zz;refine TC.exit (bQ (bQ (dc ?_)));refine ag zz.1):a:=h ⟨k⟩
theorem lX (h:Hk b→a:=by intro zz;refine jj ?_;refine dP zz.1):a:=h ⟨k⟩
theorem iO (h:Hk b→a:=by intro zz;refine bp (aD (aD (bp ?_)));refine aD zz.1):a:=h ⟨k⟩
theorem pT (h:Hk b→a:=by intro zz;refine sM ?_;refine zm3 zz.1):a:=h ⟨k⟩
theorem kS (h:Hk b→a:=by intro zz;refine zm2 ?_;refine zm1 zz.1):a:=h ⟨k⟩
theorem si (h:Hk b→a:=by intro zz;refine eq ?_;refine cE zz.1):a:=h ⟨k⟩
theorem mi (h:Hk b→a:=by intro zz;refine fE ?_;refine zm0 zz.1):a:=h ⟨k⟩
theorem oB (h:Hk b→a:=by intro zz;refine de ?_;refine d5 zz.1):a:=h ⟨k⟩
theorem qq (h:Hk b→a:=by intro zz;refine zm9 ?_;refine dg zz.1):a:=h ⟨k⟩
theorem qm (h:Hk b→a:=by intro zz;refine kP rfl rfl rfl (.here _) rfl (gD zz.1)):a:=h ⟨k⟩
theorem tF (h:Hk b→a:=by intro zz;refine d5 ?_;refine eZ zz.1):a:=h ⟨k⟩
theorem qb (h:Hk b→a:=by intro zz;refine fC ?_;refine lz zz.1):a:=h ⟨k⟩
theorem tx (h:Hk b→a:=by intro zz;refine bz (gc ?_);refine TF.back (TF.nil (rU (L':=(b3,_)::((b2,_)::((b1,_)::(ob22)))) (ei [[(b3,_)],[(b2,_)],[(b1,_)],ob22] [0,1,2,3] rfl) zz.1))):a:=h ⟨k⟩
theorem tu (h:Hk b→a:=by intro zz;refine gQ ?_;refine zP zz.1):a:=h ⟨k⟩
theorem w8 (h:Hk b→a:=by intro zz;refine TC.exit (bQ (dc (ag ?_)));refine TC.region zz.1):a:=h ⟨k⟩
theorem w4 (h:Hk b→a:=by intro zz;refine aW (bD rfl hl) rfl (zm7 ?_);refine aw (ae rfl hT rfl omq omq) rfl (zm4 ?_);refine aW (bh hT hx rfl rfl) rfl zz.1):a:=h ⟨k⟩
theorem wY (h:Hk b→a:=by intro zz;refine pO ?_;refine l3 zz.1):a:=h ⟨k⟩
theorem sL (h:Hk b→a:=by intro zz;refine eh ?_;refine aD zz.1):a:=h ⟨k⟩
theorem wS (h:Hk b→a:=by intro zz;refine zm1 ?_;refine zm2 zz.1):a:=h ⟨k⟩
theorem wR (h:Hk b→a:=by intro zz;refine TL.nil (ag (gp zz.1))):a:=h ⟨k⟩
theorem wM (h:Hk b→a:=by intro zz;refine fC ?_;refine zm2 zz.1):a:=h ⟨k⟩
theorem wJ (h:Hk b→a:=by intro zz;refine de ?_;refine lW zz.1):a:=h ⟨k⟩
theorem wC (h:Hk b→a:=by intro zz;refine gB ?_;refine eY zz.1):a:=h ⟨k⟩
theorem zU (h:Hk b→a:=by intro zz;refine gv ?_;refine eY zz.1):a:=h ⟨k⟩
theorem zm6 (h:Hk b→a:=by intro zz;refine kS ?_;refine TC.seq zz.1):a:=h ⟨k⟩
theorem dx (h:Hk b→a:=by intro zz;refine gv ?_;refine zm2 zz.1):a:=h ⟨k⟩
theorem dN (h:Hk b→a:=by intro zz;refine d5 ?_;refine zm1 zz.1):a:=h ⟨k⟩
theorem gC (h:Hk b→a:=by intro zz;refine gn ?_;refine TC.seq zz.1):a:=h ⟨k⟩
theorem kW (h:Hk b→a:=by intro zz;refine aD (bp (aD (aD ?_)));refine bp (aD zz.1)):a:=h ⟨k⟩
theorem lB (h:Hk b→a:=by intro zz;refine zm1 ?_;refine d5 zz.1):a:=h ⟨k⟩
theorem iP (h:Hk b→a:=by intro zz;refine kS ?_;refine TC.ret zz.1):a:=h ⟨k⟩
theorem na (h:Hk b→a:=by intro zz;refine eq ?_;refine dP zz.1):a:=h ⟨k⟩
theorem uO (h:Hk b→a:=by intro zz;refine zm1 ?_;refine gp zz.1):a:=h ⟨k⟩
theorem jI (h:Hk b→a:=by intro zz;refine kS ?_;refine TC.block zz.1):a:=h ⟨k⟩
theorem oe (h:Hk b→a:=by intro zz;refine k4 ?_;refine jl zz.1):a:=h ⟨k⟩
theorem p8 (h:Hk b→a:=by intro zz;refine f8 ?_;refine TL.run (ai rfl rfl hL) rfl zz.1):a:=h ⟨k⟩
theorem tC (h:Hk b→a:=by intro zz;refine gB ?_;refine zm2 zz.1):a:=h ⟨k⟩
theorem sS (h:Hk b→a:=by intro zz;refine k4 ?_;refine fD zz.1):a:=h ⟨k⟩
theorem xg (h:Hk b→a:=by intro zz;refine fE ?_;refine l3 zz.1):a:=h ⟨k⟩
theorem xf (h:Hk b→a:=by intro zz;refine eq ?_;refine et rfl rfl rfl (et rfl rfl rfl zz.1)):a:=h ⟨k⟩
theorem xb (h:Hk b→a:=by intro zz;refine ag (TC.seq (fE zz.1))):a:=h ⟨k⟩
theorem wV (h:Hk b→a:=by intro zz;refine cQ ?_;refine fQ zz.1):a:=h ⟨k⟩
theorem wL (h:Hk b→a:=by intro zz;refine de ?_;refine eN zz.1):a:=h ⟨k⟩
theorem sK (h:Hk b→a:=by intro zz;refine gQ ?_;refine l8 zz.1):a:=h ⟨k⟩
theorem wo (h:Hk b→a:=by intro zz;refine gv ?_;refine lz zz.1):a:=h ⟨k⟩
theorem pY (h:Hk b→a:=by intro zz;refine gv ?_;refine n6 zz.1):a:=h ⟨k⟩
theorem zQ (h:Hk b→a:=by intro zz;refine cW rfl (zU zz.1)):a:=h ⟨k⟩
theorem pV (h:Hk b→a:=by intro zz;refine zm3 ?_;refine eq zz.1):a:=h ⟨k⟩
theorem pU (h:Hk b→a:=by intro zz;refine bq (ag (TC.region (k7 zz.1)))):a:=h ⟨k⟩
theorem CX (h:Hk b→a:=by intro zz;refine gc ?_;refine sL zz.1):a:=h ⟨k⟩
theorem lA (h:Hk b→a:=by intro zz;refine iP ?_;refine aD zz.1):a:=h ⟨k⟩
theorem lY (h:Hk b→a:=by intro zz;refine TC.skip (pU zz.1)):a:=h ⟨k⟩
theorem jP (h:Hk b→a:=by intro zz;refine bq (ag (TC.region (zm0 ?_)));refine k7 zz.1):a:=h ⟨k⟩
theorem pS (h:Hk b→a:=by intro zz;refine TL.nil (pU zz.1)):a:=h ⟨k⟩
theorem pP (h:Hk b→a:=by intro zz;refine fE ?_;refine zm1 zz.1):a:=h ⟨k⟩
theorem jT (h:Hk b→a:=by intro zz;refine TC.seq (jI zz.1)):a:=h ⟨k⟩
theorem mm (h:Hk b→a:=by intro zz;refine gv ?_;refine d5 zz.1):a:=h ⟨k⟩
theorem qo (h:Hk b→a:=by intro zz;refine fC ?_;refine fE zz.1):a:=h ⟨k⟩
theorem qn (h:Hk b→a:=by intro zz;refine TC.seq (dN zz.1)):a:=h ⟨k⟩
theorem qi (h:Hk b→a:=by intro zz;refine gn ?_;refine zm2 zz.1):a:=h ⟨k⟩
theorem tz (h:Hk b→a:=by intro zz;refine gB ?_;refine d5 zz.1):a:=h ⟨k⟩
theorem xi (h:Hk b→a:=by intro zz;refine fj ?_;refine fQ zz.1):a:=h ⟨k⟩
theorem xd (h:Hk b→a:=by intro zz;refine kS ?_;refine zm2 zz.1):a:=h ⟨k⟩
theorem w9 (h:Hk b→a:=by intro zz;refine eN ?_;refine zm1 zz.1):a:=h ⟨k⟩
theorem w7 (h:Hk b→a:=by intro zz;refine de ?_;refine im zz.1):a:=h ⟨k⟩
theorem wW (h:Hk b→a:=by intro zz;refine fC ?_;refine k8 zz.1):a:=h ⟨k⟩
theorem wN (h:Hk b→a:=by intro zz;refine pW ?_;refine gE zz.1):a:=h ⟨k⟩
theorem wB (h:Hk b→a:=by intro zz;refine sK ?_;refine ao rfl zz.1):a:=h ⟨k⟩
theorem pX (h:Hk b→a:=by intro zz;refine d5 ?_;refine eh zz.1):a:=h ⟨k⟩
theorem vU (h:Hk b→a:=by intro zz;refine gq ?_;refine l4 zz.1):a:=h ⟨k⟩
theorem iE (h:Hk b→a:=by intro zz;refine TC.skip (jP zz.1)):a:=h ⟨k⟩
theorem pd (h:Hk b→a:=by intro zz;refine iP ?_;refine bp (aD zz.1)):a:=h ⟨k⟩
theorem mh (h:Hk b→a:=by intro zz;refine dP ?_;refine pU zz.1):a:=h ⟨k⟩
theorem mf (h:Hk b→a:=by intro zz;refine TF.back (TF.nil (pU zz.1))):a:=h ⟨k⟩
theorem l9 (h:Hk b→a:=by intro zz;refine kS ?_;refine d5 zz.1):a:=h ⟨k⟩
theorem qr (h:Hk b→a:=by intro zz;refine gB ?_;refine fE zz.1):a:=h ⟨k⟩
theorem qk (h:Hk b→a:=by intro zz;refine gB ?_;refine iD zz.1):a:=h ⟨k⟩
theorem qg (h:Hk b→a:=by intro zz;refine gn ?_;refine gp zz.1):a:=h ⟨k⟩
theorem qc (h:Hk b→a:=by intro zz;refine gv ?_;refine eN zz.1):a:=h ⟨k⟩
theorem p7 (h:Hk b→a:=by intro zz;refine eN ?_;refine eh zz.1):a:=h ⟨k⟩
theorem p5 (h:Hk b→a:=by intro zz;refine ji ?_;refine pV zz.1):a:=h ⟨k⟩
theorem tq (h:Hk b→a:=by intro zz;refine gn ?_;refine k6 zz.1):a:=h ⟨k⟩
theorem xe (h:Hk b→a:=by intro zz;refine jj ?_;refine fQ zz.1):a:=h ⟨k⟩
theorem Ao (h:Hk b→a:=by intro zz;refine zN ?_;refine zN zz.1):a:=h ⟨k⟩
theorem Df (h:Hk b→a:=by intro zz;refine CS ?_;refine CS zz.1):a:=h ⟨k⟩
theorem CW (h:Hk b→a:=by intro zz;refine pY ?_;refine lV zz.1):a:=h ⟨k⟩
theorem m9 (h:Hk b→a:=by intro zz;refine iQ ?_;refine jI zz.1):a:=h ⟨k⟩
theorem lf (h:Hk b→a:=by intro zz;refine jj ?_;refine pV zz.1):a:=h ⟨k⟩
theorem l5 (h:Hk b→a:=by intro zz;refine dP ?_;refine jP zz.1):a:=h ⟨k⟩
theorem oo (h:Hk b→a:=by intro zz;refine f8 ?_;refine TL.run (ai rfl rfl ha) rfl (zm1 zz.1)):a:=h ⟨k⟩
theorem oi (h:Hk b→a:=by intro zz;refine CW ?_;refine TQ.run (ae rfl ha rfl omq omq) rfl zz.1):a:=h ⟨k⟩
theorem n9 (h:Hk b→a:=by intro zz;refine zm6 ?_;refine d5 zz.1):a:=h ⟨k⟩
theorem tD (h:Hk b→a:=by intro zz;refine TL.nil (ag (TC.block (dN zz.1)))):a:=h ⟨k⟩
theorem tB (h:Hk b→a:=by intro zz;refine kS ?_;refine eN zz.1):a:=h ⟨k⟩
theorem sZ (h:Hk b→a:=by intro zz;refine TL.nil (ag (jT zz.1))):a:=h ⟨k⟩
theorem sN (h:Hk b→a:=by intro zz;refine pY ?_;refine zO zz.1):a:=h ⟨k⟩
theorem xh (h:Hk b→a:=by intro zz;refine TC.skip (bq (ag (iP zz.1)))):a:=h ⟨k⟩
theorem wK (h:Hk b→a:=by intro zz;refine bp (aD (aD (bp ?_)));refine iO zz.1):a:=h ⟨k⟩
theorem wi (h:Hk b→a:=by intro zz;refine k6 ?_;refine CX zz.1):a:=h ⟨k⟩
theorem we (h:Hk b→a:=by intro zz;refine gE ?_;refine eh zz.1):a:=h ⟨k⟩
theorem CV (h:Hk b→a:=by intro zz;refine bq (ag (vU zz.1))):a:=h ⟨k⟩
theorem o7 (h:Hk b→a:=by intro zz;refine TL.nil (CV zz.1)):a:=h ⟨k⟩
theorem oE (h:Hk b→a:=by intro zz;refine gv ?_;refine dN zz.1):a:=h ⟨k⟩
theorem oA (h:Hk b→a:=by intro zz;refine fC ?_;refine pP zz.1):a:=h ⟨k⟩
theorem oz (h:Hk b→a:=by intro zz;refine gB ?_;refine dN zz.1):a:=h ⟨k⟩
theorem n7 (h:Hk b→a:=by intro zz;refine eq ?_;refine pV zz.1):a:=h ⟨k⟩
theorem wZ (h:Hk b→a:=by intro zz;refine zm6 ?_;refine fE zz.1):a:=h ⟨k⟩
theorem wI (h:Hk b→a:=by intro zz;refine TC.exit (bQ (bQ (dc ?_)));refine pU zz.1):a:=h ⟨k⟩
theorem zT (h:Hk b→a:=by intro zz;refine fO (k4 ?_);refine TL.run (fk rfl rfl omq omq) rfl (ly zz.1)):a:=h ⟨k⟩
theorem ga (h:Hk b→a:=by intro zz;refine gn ?_;refine iP zz.1):a:=h ⟨k⟩
theorem mj (h:Hk b→a:=by intro zz;refine k9 ?_;refine lA zz.1):a:=h ⟨k⟩
theorem oD (h:Hk b→a:=by intro zz;refine iP ?_;refine iO zz.1):a:=h ⟨k⟩
theorem wU (h:Hk b→a:=by intro zz;refine lf ?_;refine dP zz.1):a:=h ⟨k⟩
theorem wl (h:Hk b→a:=by intro zz;refine TC.exit (bQ (bQ (dc ?_)));refine jP zz.1):a:=h ⟨k⟩
theorem jR (h:Hk b→a:=by intro zz;refine zm6 ?_;refine jI zz.1):a:=h ⟨k⟩
theorem sj (h:Hk b→a:=by intro zz;refine gn ?_;refine pX zz.1):a:=h ⟨k⟩
theorem ql (h:Hk b→a:=by intro zz;refine eq ?_;refine p5 zz.1):a:=h ⟨k⟩
theorem w5 (h:Hk b→a:=by intro zz;refine pX ?_;refine iO zz.1):a:=h ⟨k⟩
theorem wT (h:Hk b→a:=by intro zz;refine iP ?_;refine bp (iO zz.1)):a:=h ⟨k⟩
theorem wq (h:Hk b→a:=by intro zz;refine gC ?_;refine jI zz.1):a:=h ⟨k⟩
theorem oq (h:Hk b→a:=by intro zz;refine n9 ?_;refine TL.run (ai rfl rfl ha) rfl (zm0 ?_);refine TL.run (ai rfl rfl hb) rfl (zm1 zz.1)):a:=h ⟨k⟩
theorem qe (h:Hk b→a:=by intro zz;refine TC.skip (bq (ag (TC.region ?_)));refine nZ ?_;refine nW (fO (zm6 zz.1))):a:=h ⟨k⟩
theorem sY (h:Hk b→a:=by intro zz;refine zT ?_;refine zQ zz.1):a:=h ⟨k⟩
theorem vV (h:Hk b→a:=by intro zz;refine n7 ?_;refine pV zz.1):a:=h ⟨k⟩
theorem zR (h:Hk b→a:=by intro zz;refine TF.back (TF.nil (bq (ag ?_)));refine TC.region (zm0 ?_);refine nZ ?_;refine nW (fO (k4 ?_));refine TL.run (fk rfl rfl omq omq) rfl (ly zz.1)):a:=h ⟨k⟩
theorem sX (h:Hk b→a:=by intro zz;refine zR ?_;refine eM rfl zz.1):a:=h ⟨k⟩
theorem wX (h:Hk b→a:=by intro zz;refine vV ?_;refine pV zz.1):a:=h ⟨k⟩
end
end Go.Sx
