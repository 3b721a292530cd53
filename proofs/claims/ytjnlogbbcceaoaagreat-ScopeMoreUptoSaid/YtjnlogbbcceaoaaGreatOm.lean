import Derived.ProofKit
import Derived.KernelRfl
set_option linter.all false
namespace Go.Sx
structure Hk (b:Prop):Prop where
 ok:b
variable {a b:Prop}
theorem om (h:a:=by omega):a:=h
theorem kr (h:a:=by kernel_rfl):a:=h
theorem o2q (h:a:=by exact⟨by omega,by omega⟩):a:=h
theorem kz (h:a:=by exact⟨by kernel_rfl⟩):a:=h
theorem sq (h:a:=by simp):a:=h
theorem dq (h:a:=by decide):a:=h
theorem ky (h:a:=by repeat (first | exact trivial | refine⟨rfl,?_⟩)):a:=h
section
variable (k:b)
include k
theorem zm0 (h:Hk b→a:=by intro zz;refine TL.run (aD rfl) rfl zz.1):a:=h ⟨k⟩
theorem zm3 (h:Hk b→a:=by intro zz;refine ar (aX rfl) rfl zz.1):a:=h ⟨k⟩
theorem zm6 (h:Hk b→a:=by intro zz;refine ar (aD rfl) rfl zz.1):a:=h ⟨k⟩
theorem zm8 (h:Hk b→a:=by intro zz;refine TL.run (aX rfl) rfl zz.1):a:=h ⟨k⟩
theorem zm9 (h:Hk b→a:=by intro zz;refine TL.gdN rfl rfl rfl rfl zz.1):a:=h ⟨k⟩
theorem cg (h:Hk b→a:=by intro zz;refine aB rfl rfl (aD rfl) rfl zz.1):a:=h ⟨k⟩
theorem cE (h:Hk b→a:=by intro zz;refine TL.run (kt rfl rfl) rfl zz.1):a:=h ⟨k⟩
theorem dj (h:Hk b→a:=by intro zz;refine ar (kt rfl rfl) rfl zz.1):a:=h ⟨k⟩
theorem ec (h:Hk b→a:=by intro zz;refine TL.run (fe rfl rfl om om) rfl zz.1):a:=h ⟨k⟩
theorem d3 (h:Hk b→a:=by intro zz;refine TC.drawn kr kr zz.1):a:=h ⟨k⟩
theorem eE (h:Hk b→a:=by intro zz;refine TL.run (aU rfl (.here _) rfl) rfl zz.1):a:=h ⟨k⟩
theorem ia (h:Hk b→a:=by intro zz;refine aB rfl rfl (aX rfl) rfl zz.1):a:=h ⟨k⟩
theorem jb (h:Hk b→a:=by intro zz;refine TL.run (ay rfl (.here _) rfl) rfl zz.1):a:=h ⟨k⟩
theorem jq (h:Hk b→a:=by intro zz;refine TL.run ((by first | exact ej rfl rfl om om | exact aD rfl)) rfl zz.1):a:=h ⟨k⟩
theorem kS (h:Hk b→a:=by intro zz;refine TL.run (aU rfl (.there _ (.here _)) rfl) rfl zz.1):a:=h ⟨k⟩
theorem jM (h:Hk b→a:=by intro zz;refine aZ rfl rfl rfl (.there _ (.here _)) rfl rfl zz.1):a:=h ⟨k⟩
theorem kP (h:Hk b→a:=by intro zz;refine aB rfl rfl (cd rfl rfl rfl) rfl zz.1):a:=h ⟨k⟩
theorem mg (h:Hk b→a:=by intro zz;refine aZ rfl rfl rfl (.here _) rfl rfl zz.1):a:=h ⟨k⟩
theorem gD (h:Hk b→a:=by intro zz;refine cf rfl rfl rfl rfl rfl (.here _) rfl rfl zz.1):a:=h ⟨k⟩
theorem oI (h:Hk b→a:=by intro zz;refine TL.run (ay rfl (.there _ (.there _ (.there _ (.here _)))) rfl) rfl zz.1):a:=h ⟨k⟩
theorem j5 (h:Hk b→a:=by intro zz;refine aZ rfl rfl rfl (.there _ (.there _ (.there _ (.here _)))) rfl rfl zz.1):a:=h ⟨k⟩
theorem lU (h:Hk b→a:=by intro zz;refine TL.run (af rfl hL rfl om om) rfl zz.1):a:=h ⟨k⟩
theorem lO (h:Hk b→a:=by intro zz;refine d9 (.there _ (.there _ (.here _))) zz.1):a:=h ⟨k⟩
theorem lJ (h:Hk b→a:=by intro zz;refine al (S0 (S1 (S1 (S1 (S1 (S1 SN)))))) (Hp.le.refl _) zz.1):a:=h ⟨k⟩
theorem jT (h:Hk b→a:=by intro zz;refine TL.run (ay rfl (.there _ (.there _ (.here _))) rfl) rfl zz.1):a:=h ⟨k⟩
theorem lH (h:Hk b→a:=by intro zz;refine ar (bP rfl rfl hOc om om) rfl zz.1):a:=h ⟨k⟩
theorem lE (h:Hk b→a:=by intro zz;refine aQ (ay rfl (.here _) rfl) rfl zz.1):a:=h ⟨k⟩
theorem pD (h:Hk b→a:=by intro zz;refine TL.run ((by first | exact fq rfl rfl om om | exact aD rfl)) rfl zz.1):a:=h ⟨k⟩
theorem m8 (h:Hk b→a:=by intro zz;refine TL.run (ay rfl (.there _ (.there _ (.there _ (.there _ (.there _ (.here _)))))) rfl) rfl zz.1):a:=h ⟨k⟩
theorem m6 (h:Hk b→a:=by intro zz;refine TL.run (ay rfl (.there _ (.there _ (.there _ (.there _ (.there _ (.there _ (.there _ (.here _)))))))) rfl) rfl zz.1):a:=h ⟨k⟩
theorem mW (h:Hk b→a:=by intro zz;refine aQ (ay rfl (.there _ (.there _ (.here _))) rfl) rfl zz.1):a:=h ⟨k⟩
theorem pC (h:Hk b→a:=by intro zz;refine bV (aD rfl) rfl rfl ⟨rfl,rfl,trivial⟩ zz.1):a:=h ⟨k⟩
theorem jQ (h:Hk b→a:=by intro zz;refine ar (af rfl hrs rfl om om) rfl zz.1):a:=h ⟨k⟩
theorem px (h:Hk b→a:=by intro zz;refine aF (S1 (S1 (S1 (S1 (S1 SN))))) (Hp.le.refl _) (fun _ _=>aJ hrs rfl rfl rfl) rfl zz.1):a:=h ⟨k⟩
theorem pq (h:Hk b→a:=by intro zz;refine d9 (.there _ (.there _ (.there _ (.there _ (.here _))))) zz.1):a:=h ⟨k⟩
theorem mS (h:Hk b→a:=by intro zz;refine cf rfl rfl rfl rfl rfl (.there _ (.here _)) rfl rfl zz.1):a:=h ⟨k⟩
theorem o8 (h:Hk b→a:=by intro zz;refine aF (S1 (S1 SN)) (Hp.le.refl _) (fun _ _=>ay rfl (.there _ (.here _)) rfl) rfl zz.1):a:=h ⟨k⟩
theorem o7 (h:Hk b→a:=by intro zz;refine aQ (ay rfl (.there _ (.there _ (.there _ (.here _)))) rfl) rfl zz.1):a:=h ⟨k⟩
theorem o5 (h:Hk b→a:=by intro zz;refine al (S0 (S1 (S1 (S1 (S1 SN))))) (Hp.le.refl _) zz.1):a:=h ⟨k⟩
theorem oX (h:Hk b→a:=by intro zz;refine ar (fe rfl rfl om om) rfl zz.1):a:=h ⟨k⟩
theorem se (h:Hk b→a:=by intro zz;refine ar ((by first | exact ej rfl rfl om om | exact aD rfl)) rfl zz.1):a:=h ⟨k⟩
theorem r9 (h:Hk b→a:=by intro zz;refine TL.run (p4 rfl rfl om om) rfl zz.1):a:=h ⟨k⟩
theorem rZ (h:Hk b→a:=by intro zz;refine aF (S1 (S1 (S1 (S1 SN)))) (Hp.le.refl _) (fun _ _=>aU rfl (.here _) rfl) rfl zz.1):a:=h ⟨k⟩
theorem rX (h:Hk b→a:=by intro zz;refine aZ rfl rfl rfl (.there _ (.there _ (.there _ (.there _ (.there _ (.here _)))))) rfl rfl zz.1):a:=h ⟨k⟩
theorem rV (h:Hk b→a:=by intro zz;refine d9 (.there _ (.there _ (.there _ (.there _ (.there _ (.there _ (.here _))))))) zz.1):a:=h ⟨k⟩
theorem rU (h:Hk b→a:=by intro zz;refine ar (af rfl hro rfl om om) rfl zz.1):a:=h ⟨k⟩
theorem rP (h:Hk b→a:=by intro zz;refine aF (S1 SN) (Hp.le.refl _) (fun _ _=>ay rfl (.here _) rfl) rfl zz.1):a:=h ⟨k⟩
theorem vO (h:Hk b→a:=by intro zz;refine aB rfl rfl ((by first | exact ej rfl rfl om om | exact aD rfl)) rfl zz.1):a:=h ⟨k⟩
theorem vN (h:Hk b→a:=by intro zz;refine cJ [(0,2),(1,2),(2,1),(3,1),(4,1),(5,2),(6,0)] kr kr zz.1):a:=h ⟨k⟩
theorem vM (h:Hk b→a:=by intro zz;refine aF (S1 (S1 (S1 (S1 (S1 (S1 (S1 SN))))))) (Hp.le.refl _) (fun _ _=>aJ hrs rfl rfl rfl) rfl zz.1):a:=h ⟨k⟩
theorem vL (h:Hk b→a:=by intro zz;refine aZ rfl rfl rfl (.there _ (.there _ (.there _ (.there _ (.there _ (.there _ (.there _ (.here _)))))))) rfl rfl zz.1):a:=h ⟨k⟩
theorem vK (h:Hk b→a:=by intro zz;refine aF (S1 (S1 (S1 (S1 (S1 (S1 (S1 (S1 (S1 (S1 SN)))))))))) (Hp.le.refl _) (fun _ _=>aJ hrs rfl rfl rfl) rfl zz.1):a:=h ⟨k⟩
theorem vJ (h:Hk b→a:=by intro zz;refine aF (S1 (S1 (S1 (S1 (S1 (S1 (S1 (S1 SN)))))))) (Hp.le.refl _) (fun _ _=>ay rfl (.there _ (.there _ (.there _ (.there _ (.there _ (.here _)))))) rfl) rfl zz.1):a:=h ⟨k⟩
theorem vI (h:Hk b→a:=by intro zz;refine aF (S1 (S1 (S1 (S1 (S1 (S1 (S1 (S1 (S1 (S1 (S1 (S1 SN)))))))))))) (Hp.le.refl _) (fun _ _=>aJ hrs rfl rfl rfl) rfl zz.1):a:=h ⟨k⟩
theorem vH (h:Hk b→a:=by intro zz;refine aF (S1 (S1 (S1 (S1 (S1 (S1 (S1 (S1 (S1 (S1 (S1 (S1 (S1 (S1 SN)))))))))))))) (Hp.le.refl _) (fun _ _=>ay rfl (.there _ (.there _ (.there _ (.there _ (.there _ (.there _ (.there _ (.there _ (.there _ (.there _ (.there _ (.here _)))))))))))) rfl) rfl zz.1):a:=h ⟨k⟩
theorem vG (h:Hk b→a:=by intro zz;refine aF (S0 (S1 (S1 SN))) (Hp.le.refl _) (fun _ _=>ay rfl (.here _) rfl) rfl zz.1):a:=h ⟨k⟩
theorem vF (h:Hk b→a:=by intro zz;refine ar (cP (tb:=3) rfl rfl haw12 om om) rfl zz.1):a:=h ⟨k⟩
theorem vE (h:Hk b→a:=by intro zz;refine aB rfl rfl (af rfl hw rfl om om) rfl zz.1):a:=h ⟨k⟩
theorem vD (h:Hk b→a:=by intro zz;refine aQ (dU rfl hOc (.skip _ (.skip _ (.skip _ (.skip _ (.skip _ (.past _ (.past _ .all))))))) hcC rfl) rfl zz.1):a:=h ⟨k⟩
theorem vC (h:Hk b→a:=by intro zz;refine aP (L':=(b46,_)::((b3,_)::(ob2++((b14,_)::((b30,_)::((b2,_)::(obS++(oc)))))))) (dx [[(b14,_)],[(b46,_)],[(b3,_)],[(b30,_)],[(b2,_)],ob2,obS,oc] [1,2,5,0,3,4,6,7] rfl) zz.1):a:=h ⟨k⟩
theorem vB (h:Hk b→a:=by intro zz;refine aP (L':=(b46,_)::((b3,_)::(ob94++((b14,_)::((b30,_)::((b2,_)::(obS++(oc)))))))) (List.Perm.refl _) zz.1):a:=h ⟨k⟩
theorem vA (h:Hk b→a:=by intro zz;refine aP (L':=(b14,_)::((b46,_)::((b3,_)::((b30,_)::((b2,_)::(ob94++(obS++(oc)))))))) (dx [[(b46,_)],[(b3,_)],ob94,[(b14,_)],[(b30,_)],[(b2,_)],obS,oc] [3,0,1,4,5,2,6,7] rfl) zz.1):a:=h ⟨k⟩
theorem vz (h:Hk b→a:=by intro zz;refine aP (L':=(b14,_)::((b46,_)::((b3,_)::((b30,_)::((b2,_)::(ob2++(obS))))))) (w6 [(b14,_),(b46,_),(b3,_),(b30,_),(b2,_)] (A:=ob2) (B:=obS)) zz.1):a:=h ⟨k⟩
theorem vy (h:Hk b→a:=by intro zz;refine aZ rfl rfl rfl (.there _ (.there _ (.here _))) (by simp;omega) rfl zz.1):a:=h ⟨k⟩
theorem yo (h:Hk b→a:=by intro zz;refine aI [true,true,true,true] [(0,1),(1,4),(2,1),(3,4),(4,1),(5,4),(6,1),(7,4),(8,1),(9,4),(10,1),(11,4),(12,1),(13,1),(14,1),(15,3),(16,1),(17,3),(18,5),(19,1),(20,0)] kr kr zz.1):a:=h ⟨k⟩
theorem yn (h:Hk b→a:=by intro zz;refine aZ rfl rfl rfl (.there _ (.there _ (.there _ (.there _ (.there _ (.there _ (.there _ (.there _ (.there _ (.here _)))))))))) rfl rfl zz.1):a:=h ⟨k⟩
theorem ym (h:Hk b→a:=by intro zz;refine TL.run (ay rfl (.there _ (.there _ (.there _ (.there _ (.there _ (.there _ (.there _ (.there _ (.there _ (.here _)))))))))) rfl) rfl zz.1):a:=h ⟨k⟩
theorem yl (h:Hk b→a:=by intro zz;refine d9 (.there _ (.there _ (.there _ (.there _ (.there _ (.there _ (.there _ (.there _ (.here _))))))))) zz.1):a:=h ⟨k⟩
theorem yk (h:Hk b→a:=by intro zz;refine aF (S1 (S1 (S1 (S1 (S1 (S1 (S1 (S1 (S1 SN))))))))) (Hp.le.refl _) (fun _ _=>ay rfl (.there _ (.there _ (.there _ (.there _ (.there _ (.there _ (.there _ (.here _)))))))) rfl) rfl zz.1):a:=h ⟨k⟩
theorem yj (h:Hk b→a:=by intro zz;refine aq (ab rfl rfl rfl rfl) (iy p rr om om) rfl zz.1):a:=h ⟨k⟩
theorem yi (h:Hk b→a:=by intro zz;refine aI [true,true,true,false,false] [(0,1),(1,1),(3,1),(4,1),(5,1),(6,1),(7,2),(2,5),(8,5),(9,5),(10,3),(11,1),(12,0)] kr kr zz.1):a:=h ⟨k⟩
theorem yh (h:Hk b→a:=by intro zz;refine aI [true,true,true,false,false] [(0,1),(1,1),(3,1),(4,1),(5,1),(6,1),(2,5),(7,2),(8,5),(9,5),(10,3),(11,1),(12,0)] kr kr zz.1):a:=h ⟨k⟩
theorem yg (h:Hk b→a:=by intro zz;refine aI [true,true] [(0,1),(1,1),(2,1),(3,4),(4,1),(5,1),(6,1),(7,4),(8,1),(9,1),(10,4),(11,1),(12,1),(13,4),(14,3),(15,5)] kr kr zz.1):a:=h ⟨k⟩
theorem yf (h:Hk b→a:=by intro zz;refine aF (S1 (S1 (S1 (S1 SN)))) (Hp.le.refl _) (fun _ _=>ay rfl (.there _ (.there _ (.here _))) rfl) rfl zz.1):a:=h ⟨k⟩
theorem rh (h:Hk b→a:=by intro zz;refine aF (S1 (S1 SN)) (Hp.le.refl _) (fun _ _=>ay rfl (.here _) rfl) rfl zz.1):a:=h ⟨k⟩
theorem ye (h:Hk b→a:=by intro zz;refine TL.run (ay rfl (.there _ (.there _ (.there _ (.here _)))) (fT om)) rfl zz.1):a:=h ⟨k⟩
theorem yd (h:Hk b→a:=by intro zz;refine cf rfl rfl rfl rfl rfl (.there _ (.there _ (.there _ (.here _)))) rfl rfl zz.1):a:=h ⟨k⟩
theorem vo (h:Hk b→a:=by intro zz;refine aF (S1 (S1 (S1 (S1 (S1 SN))))) (Hp.le.refl _) (fun _ _=>ay rfl (.there _ (.there _ (.there _ (.here _)))) rfl) rfl zz.1):a:=h ⟨k⟩
theorem zm309 (h:Hk b→a:=by intro zz;refine aI [true,true,true] [(0,1),(1,1),(2,1),(3,1),(4,1),(5,4),(6,4),(7,3),(8,5),(9,1),(10,1),(11,1),(12,0)] kr kr zz.1):a:=h ⟨k⟩
theorem zm310 (h:Hk b→a:=by intro zz;refine aI [false,false] [(0,1),(1,1),(3,1),(4,1),(5,1),(6,1),(7,2),(2,5),(8,5),(9,5),(10,5),(11,1)] kr kr zz.1):a:=h ⟨k⟩
theorem zm311 (h:Hk b→a:=by intro zz;refine aI [false,false] [(0,1),(1,1),(3,1),(4,1),(5,1),(6,1),(2,5),(7,2),(8,5),(9,5),(10,5),(11,1)] kr kr zz.1):a:=h ⟨k⟩
theorem zm312 (h:Hk b→a:=by intro zz;refine TL.run (PR.to (dU rfl hO58 (.skip _ (.skip _ (.skip _ (.skip _ (.skip _ (.skip _ .all)))))) rfl rfl) (rfl:_=Value.slice (some ⟨b55,0,none⟩) 2 2)) rfl zz.1):a:=h ⟨k⟩
theorem zm313 (h:Hk b→a:=by intro zz;refine aI [true,true,true,true,true,false] [(0,1),(1,4),(2,1),(3,4),(4,1),(5,1),(6,4),(7,1),(8,4),(9,1),(10,1),(11,1),(12,4),(13,1),(14,1),(15,1),(17,1),(18,4),(19,1),(20,1),(16,5),(21,1),(22,3),(23,1),(24,3),(25,5),(26,1),(27,0)] kr kr zz.1):a:=h ⟨k⟩
theorem zm314 (h:Hk b→a:=by intro zz;refine aI [true,true,true,true,true,true,true,true,true,true] [(0,1),(1,4),(2,1),(3,4),(4,1),(5,1),(6,4),(7,1),(8,4),(9,1),(10,1),(11,1),(12,4),(13,1),(14,1),(15,4),(16,1),(17,1),(18,1),(19,3),(20,1),(21,3),(22,5),(23,1),(24,0)] kr kr zz.1):a:=h ⟨k⟩
theorem yb (h:Hk b→a:=by intro zz;refine aF (S1 (S1 (S1 (S1 (S1 (S1 (S1 (S1 (S1 (S1 SN)))))))))) (Hp.le.refl _) (fun _ _=>ay rfl (.there _ (.there _ (.there _ (.there _ (.there _ (.there _ (.there _ (.here _)))))))) rfl) rfl zz.1):a:=h ⟨k⟩
theorem zm316 (h:Hk b→a:=by intro zz;refine aI [true,true,true,true,true,true,true,true,true,true,true,true] [(0,1),(1,4),(2,1),(3,4),(4,1),(5,1),(6,4),(7,1),(8,4),(9,1),(10,1),(11,1),(12,4),(13,1),(14,1),(15,4),(16,1),(17,1),(18,1),(19,3),(20,1),(21,3),(22,5),(23,1),(24,0)] kr kr zz.1):a:=h ⟨k⟩
theorem ya (h:Hk b→a:=by intro zz;refine aF (S1 (S1 (S1 (S1 (S1 (S1 (S1 (S1 (S1 (S1 (S1 (S1 SN)))))))))))) (Hp.le.refl _) (fun _ _=>ay rfl (.there _ (.there _ (.there _ (.there _ (.there _ (.there _ (.there _ (.there _ (.there _ (.here _)))))))))) rfl) rfl zz.1):a:=h ⟨k⟩
theorem zm318 (h:Hk b→a:=by intro zz;refine aZ rfl rfl rfl (.there _ (.there _ (.there _ (.there _ (.there _ (.there _ (.there _ (.there _ (.there _ (.there _ (.there _ (.here _)))))))))))) rfl rfl zz.1):a:=h ⟨k⟩
theorem zm319 (h:Hk b→a:=by intro zz;refine aF (S1 (S1 (S1 (S1 (S1 (S1 (S1 (S1 (S1 (S1 (S1 (S1 (S1 (S1 SN)))))))))))))) (Hp.le.refl _) (fun _ _=>aJ hrs rfl rfl rfl) rfl zz.1):a:=h ⟨k⟩
theorem zm320 (h:Hk b→a:=by intro zz;refine d9 (.there _ (.there _ (.there _ (.there _ (.there _ (.there _ (.there _ (.there _ (.there _ (.there _ (.here _))))))))))) zz.1):a:=h ⟨k⟩
theorem zm321 (h:Hk b→a:=by intro zz;refine aI [true] [(0,1),(1,1),(2,1),(3,4),(4,1),(5,1),(6,1),(7,4),(8,1),(9,5),(10,1)] kr kr zz.1):a:=h ⟨k⟩
theorem zm324 (h:Hk b→a:=by intro zz;refine aI [true,true,true,true,true] [(0,1),(1,1),(2,1),(3,1),(4,4),(5,1),(6,1),(7,1),(8,1),(9,1),(10,4),(11,1),(12,1),(13,1),(14,2),(15,1),(16,1),(17,3),(18,5),(19,1),(20,1),(21,5)] kr kr zz.1):a:=h ⟨k⟩
theorem zm325 (h:Hk b→a:=by intro zz;refine aI [true,true,true,true,true] [(0,1),(1,1),(2,1),(3,1),(4,4),(5,1),(6,1),(7,1),(8,1),(9,1),(10,4),(11,1),(12,1),(13,1),(14,2),(15,4),(16,3),(17,5),(18,1),(19,1),(20,5)] kr kr zz.1):a:=h ⟨k⟩
theorem zm326 (h:Hk b→a:=by intro zz;refine aF (S1 (S1 (S1 (S1 (S1 (S1 SN)))))) (Hp.le.refl _) (fun _ _=>ay rfl (.there _ (.there _ (.there _ (.there _ (.here _))))) rfl) rfl zz.1):a:=h ⟨k⟩
theorem zm328 (h:Hk b→a:=by intro zz;refine aP (L':=(b46,_)::((b3,_)::(ob1++((b14,_)::((b30,_)::((b2,_)::(obS))))))) (dx [[(b14,_)],[(b46,_)],[(b3,_)],[(b30,_)],[(b2,_)],ob1,obS] [1,2,5,0,3,4,6] rfl) zz.1):a:=h ⟨k⟩
theorem zm329 (h:Hk b→a:=by intro zz;refine aP (L':=(b46,(dw q.terms s (m,o)).2.1.map (Value.int .i64))::((b3,_)::(ob71++((b14,_)::((b30,_)::((b2,_)::(obS))))))) (List.Perm.refl _) zz.1):a:=h ⟨k⟩
theorem zm330 (h:Hk b→a:=by intro zz;refine aP (L':=(b14,_)::((b46,_)::((b3,_)::((b30,_)::((b2,_)::(ob71++(obS))))))) (dx [[(b46,_)],[(b3,_)],ob71,[(b14,_)],[(b30,_)],[(b2,_)],obS] [3,0,1,4,5,2,6] rfl) zz.1):a:=h ⟨k⟩
theorem zm331 (h:Hk b→a:=by intro zz;refine oC (L':=(b14,_)::((b46,_)::((b3,_)::((b30,_)::((b2,_)::(ob71++(obS++(ob76)))))))) (dx [[(b14,_)],[(b46,_)],[(b3,_)],[(b30,_)],[(b2,_)],ob71,obS,ob76] [0,1,2,3,4,5,6,7] rfl) zz.1):a:=h ⟨k⟩
theorem zm332 (h:Hk b→a:=by intro zz;refine cJ [(0,1),(1,2),(2,1),(3,1),(4,1),(5,2),(6,1),(7,1),(8,1),(9,2),(10,0),(11,1),(12,1),(13,0)] kr kr zz.1):a:=h ⟨k⟩
theorem zm333 (h:Hk b→a:=by intro zz;refine cJ [(0,1),(2,1),(3,1),(4,1),(5,2),(6,1),(7,1),(8,1),(9,2),(10,0),(1,2),(11,1),(12,1),(13,0)] kr kr zz.1):a:=h ⟨k⟩
theorem zm334 (h:Hk b→a:=by intro zz;refine aP (uJ [(b14,_),(b46,_),(b3,_),(b30,_),(b2,_)] (A:=ob2) (B:=obS) (D:=oc) (C:=ob101)) zz.1):a:=h ⟨k⟩
theorem zm335 (h:Hk b→a:=by intro zz;refine oC (L':=(b14,_)::((b46,_)::((b3,_)::((b30,_)::((b2,_)::(ob2++(obS++(oc++(ob101))))))))) (dx [[(b14,_)],[(b46,_)],[(b3,_)],[(b30,_)],[(b2,_)],ob2,obS,oc,ob101] [0,1,2,3,4,5,6,7,8] rfl) zz.1):a:=h ⟨k⟩
theorem zm336 (h:Hk b→a:=by intro zz;refine cJ [(0,1),(1,2),(2,1),(3,1),(4,1),(5,2),(6,1),(7,1),(8,1),(9,2),(10,1),(11,2),(12,1),(13,1),(14,0)] kr kr zz.1):a:=h ⟨k⟩
theorem zm337 (h:Hk b→a:=by intro zz;refine aQ (dU rfl hOw (.skip _ (.skip _ (.skip _ (.skip _ (.skip _ (.past _ (.past _ (.past _ .all)))))))) hwW rfl) rfl zz.1):a:=h ⟨k⟩
theorem zm338 (h:Hk b→a:=by intro zz;refine aF (S1 (S1 (S1 (S1 (S1 (S1 (S1 (S1 SN)))))))) (Hp.le.refl _) (fun _ _=>ay rfl (.there _ (.there _ (.there _ (.there _ (.there _ (.there _ (.there _ (.here _)))))))) rfl) rfl zz.1):a:=h ⟨k⟩
theorem zm339 (h:Hk b→a:=by intro zz;refine aF (S1 (S1 (S1 (S1 (S1 (S1 (S1 (S1 SN)))))))) (Hp.le.refl _) (fun _ _=>aU rfl (.there _ (.here _)) rfl) rfl zz.1):a:=h ⟨k⟩
theorem zm341 (h:Hk b→a:=by intro zz;refine TL.run (PR.to (fq rfl rfl (by simp only [List.length_cons,List.length_nil];omega) (by simp only [List.length_cons,List.length_nil];omega)) (congrArg (Value.int .i64) (by simp only [List.length_cons,List.length_nil];omega))) rfl zz.1):a:=h ⟨k⟩
theorem zm342 (h:Hk b→a:=by intro zz;refine aI [true,true,false] [(0,1),(1,4),(2,1),(3,4),(4,1),(5,1),(6,4),(7,1),(8,4),(9,1),(10,1),(11,4),(12,1),(13,1),(14,1),(15,1),(16,5),(17,1),(18,3),(19,5),(20,1),(21,0)] kr kr zz.1):a:=h ⟨k⟩
theorem zm343 (h:Hk b→a:=by intro zz;refine aI [true,true,true,true,true,false] [(0,1),(1,4),(2,1),(3,4),(4,1),(5,1),(6,1),(7,4),(8,1),(9,4),(10,1),(11,4),(12,1),(13,5),(14,1),(15,3),(16,1),(17,3),(18,5),(19,1),(20,0)] kr kr zz.1):a:=h ⟨k⟩
theorem zm344 (h:Hk b→a:=by intro zz;refine aI [true,true,true,true,true,true,true,false] [(0,1),(1,4),(2,1),(3,4),(4,1),(5,1),(6,1),(7,4),(8,1),(9,4),(10,1),(11,4),(12,1),(13,5),(14,1),(15,3),(16,1),(17,3),(18,5),(19,1),(20,0)] kr kr zz.1):a:=h ⟨k⟩
theorem zm345 (h:Hk b→a:=by intro zz;refine aI [true,true,true,true,true,true,true,true] [(0,1),(1,4),(2,1),(3,4),(4,1),(5,1),(6,4),(7,1),(8,4),(9,1),(10,1),(11,1),(12,4),(13,1),(14,1),(15,4),(16,1),(17,1),(18,1),(19,3),(20,1),(21,3),(22,5),(23,1),(24,0)] kr kr zz.1):a:=h ⟨k⟩
theorem zm346 (h:Hk b→a:=by intro zz;refine aI [true,true,true,true,true,true,true,false] [(0,1),(1,4),(2,1),(3,4),(4,1),(5,1),(6,4),(7,1),(8,4),(9,1),(10,1),(11,1),(12,4),(13,1),(14,1),(15,1),(17,1),(18,4),(19,1),(20,1),(16,5),(21,1),(22,3),(23,1),(24,3),(25,5),(26,1),(27,0)] kr kr zz.1):a:=h ⟨k⟩
theorem zm347 (h:Hk b→a:=by intro zz;refine aI [true,true,true,true,true,true,true,true,true,false] [(0,1),(1,4),(2,1),(3,4),(4,1),(5,1),(6,1),(7,4),(8,1),(9,4),(10,1),(11,4),(12,1),(13,5),(14,1),(15,3),(16,1),(17,3),(18,5),(19,1),(20,0)] kr kr zz.1):a:=h ⟨k⟩
theorem zm348 (h:Hk b→a:=by intro zz;refine TL.run (PR.to (dU rfl hO112 (.skip _ (.skip _ (.skip _ (.skip _ (.skip _ (.skip _ (.skip _ (.skip _ (.skip _ (.skip _ (.skip _ (.skip _ .all)))))))))))) rfl rfl) (rfl:_=Value.slice (some ⟨b55,0,none⟩) 2 2)) rfl zz.1):a:=h ⟨k⟩
theorem zm349 (h:Hk b→a:=by intro zz;refine aI [true,true,true,true,true,true,true,true,true,true,true,true,true,true] [(0,1),(1,4),(2,1),(3,4),(4,1),(5,1),(6,4),(7,1),(8,4),(9,1),(10,1),(11,1),(12,4),(13,1),(14,1),(15,4),(16,1),(17,1),(18,1),(19,3),(20,1),(21,3),(22,5),(23,1),(24,0)] kr kr zz.1):a:=h ⟨k⟩
theorem zm350 (h:Hk b→a:=by intro zz;refine cf rfl rfl rfl rfl rfl (.there _ (.there _ (.there _ (.there _ (.there _ (.there _ (.there _ (.there _ (.there _ (.there _ (.there _ (.there _ (.there _ (.there _ (.there _ (.here _)))))))))))))))) rfl rfl zz.1):a:=h ⟨k⟩
theorem zm351 (h:Hk b→a:=by intro zz;refine aI [false,true,true] [(0,1),(1,1),(2,1),(3,4),(4,1),(5,1),(6,4),(7,1),(8,1),(9,1),(10,4),(11,1),(12,1),(13,1),(14,4),(15,1),(16,1),(17,4),(18,5),(19,1)] kr kr zz.1):a:=h ⟨k⟩
theorem zm352 (h:Hk b→a:=by intro zz;refine aI [true,true,false,false] [(0,1),(1,4),(2,1),(3,4),(4,1),(5,1),(6,4),(7,4),(8,1),(9,4),(10,1),(11,1),(12,4),(14,1),(15,1),(16,1),(17,1),(18,2),(13,3),(19,5),(20,5),(21,3),(22,1),(23,3),(24,5),(25,1),(26,0)] kr kr zz.1):a:=h ⟨k⟩
theorem zm353 (h:Hk b→a:=by intro zz;refine aI [true,true,true] [(0,1),(1,1),(2,1),(3,1),(4,4),(5,1),(6,1),(7,1),(8,1),(9,1),(10,4),(11,1),(12,1),(13,1),(14,2),(15,1),(16,1),(17,1),(18,1),(19,4),(20,1),(21,1),(22,3),(23,5),(24,1),(25,1),(26,5)] kr kr zz.1):a:=h ⟨k⟩
theorem zm354 (h:Hk b→a:=by intro zz;refine aI [true,true,true,true,true,true] [(0,1),(1,1),(2,1),(3,1),(4,4),(5,1),(6,1),(7,1),(8,1),(9,1),(10,4),(11,1),(12,1),(13,1),(14,2),(15,4),(16,3),(17,5),(18,1),(19,1),(20,5)] kr kr zz.1):a:=h ⟨k⟩
theorem zm355 (h:Hk b→a:=by intro zz;refine aI [true,true,false] [(0,1),(1,4),(2,1),(3,1),(4,4),(5,1),(6,4),(7,1),(8,1),(9,4),(10,1),(11,1),(12,1),(13,1),(14,1),(15,1),(16,4),(17,5),(18,3),(19,5),(20,1),(21,0)] kr kr zz.1):a:=h ⟨k⟩
theorem zm356 (h:Hk b→a:=by intro zz;refine aq (ab rfl rfl rfl rfl) (qv ⟨[],[⟨1,[120],[⟨[120],ck,cn,0⟩],(some ⟨b5,0,none⟩,1)⟩],(some ⟨b7,0,none⟩,1)⟩ ⟨hT7,by intro t ht;simp at ht;subst ht;exact⟨hA5,by intro a ha;simp at ha;subst ha;exact hn⟩⟩ hM) rfl zz.1):a:=h ⟨k⟩
theorem zm357 (h:Hk b→a:=by intro zz;refine TL.run (PR.to (fq rfl rfl (by simp only [List.length_append,List.length_cons,List.length_nil];omega) (by simp only [List.length_append,List.length_cons,List.length_nil];omega)) (congrArg (Value.int .i64) (show _=(rows.length:Int) from by simp only [List.length_append,List.length_cons,List.length_nil];omega))) rfl zz.1):a:=h ⟨k⟩
theorem zm358 (h:Hk b→a:=by intro zz;refine aI [true,true,true,true] [(0,1),(1,1),(2,1),(3,1),(4,4),(5,1),(6,1),(7,1),(8,1),(9,1),(10,4),(11,1),(12,1),(13,1),(14,2),(15,1),(16,1),(17,3),(18,5),(19,1),(20,1),(21,5)] kr kr zz.1):a:=h ⟨k⟩
theorem zm359 (h:Hk b→a:=by intro zz;refine aI [true,true,false,false] [(0,1),(1,1),(2,1),(3,2),(4,1),(5,4),(6,1),(8,1),(9,1),(10,1),(12,1),(13,4),(14,1),(7,5),(11,2),(15,5),(16,1),(17,1)] kr kr zz.1):a:=h ⟨k⟩
theorem zm360 (h:Hk b→a:=by intro zz;refine aI [true,true,false,false] [(0,1),(1,1),(2,1),(3,2),(4,1),(5,4),(6,1),(8,1),(9,1),(10,1),(11,2),(12,1),(13,4),(14,1),(7,5),(15,5),(16,1),(17,1)] kr kr zz.1):a:=h ⟨k⟩
theorem zm361 (h:Hk b→a:=by intro zz;refine oz (L':=(b136,_)::((b14,_)::((b46,_)::((b3,_)::((b30,_)::((b2,_)::(ob2++(ob137)))))))) (dx [[(b136,_)],[(b14,_)],[(b46,_)],[(b3,_)],[(b30,_)],[(b2,_)],ob2,ob137] [0,1,2,3,4,5,6,7] rfl) zz.1):a:=h ⟨k⟩
theorem zm362 (h:Hk b→a:=by intro zz;refine aI [true,true,true,true,true,true] [(0,4),(2,1),(1,5),(3,1),(4,1),(5,2),(7,1),(8,2),(9,1),(6,3),(10,1),(11,1),(12,1),(13,2),(15,2),(14,3),(16,3),(17,1),(18,1),(19,1),(20,1),(21,2),(22,1),(23,1),(24,1),(25,2),(26,1),(27,2),(28,1),(29,1),(30,1),(31,1),(32,1),(33,2),(34,1),(35,1),(36,1),(37,1),(38,2),(39,1),(40,1),(41,2),(42,1),(43,2),(44,1),(45,1),(46,2),(47,3),(48,1),(49,1),(50,1),(51,1),(52,1)] kr kr zz.1):a:=h ⟨k⟩
theorem zm2 (h:Hk b→a:=by intro zz;refine TC.seq (TC.region zz.1)):a:=h ⟨k⟩
theorem zm4 (h:Hk b→a:=by intro zz;refine zm0 ?_;refine zm0 zz.1):a:=h ⟨k⟩
theorem co (h:Hk b→a:=by intro zz;refine ia ?_;refine aB rfl rfl (ay rfl (.here _) rfl) rfl zz.1):a:=h ⟨k⟩
theorem cW (h:Hk b→a:=by intro zz;refine TC.skip (ae zz.1)):a:=h ⟨k⟩
theorem dk (h:Hk b→a:=by intro zz;refine zm0 ?_;refine TL.nil zz.1):a:=h ⟨k⟩
theorem ef (h:Hk b→a:=by intro zz;refine cg ?_;refine cg zz.1):a:=h ⟨k⟩
theorem eY (h:Hk b→a:=by intro zz;refine zm3 ?_;refine bn zz.1):a:=h ⟨k⟩
theorem f9 (h:Hk b→a:=by intro zz;refine ia ?_;refine aB rfl rfl (ay rfl (.there _ (.here _)) rfl) rfl zz.1):a:=h ⟨k⟩
theorem fw (h:Hk b→a:=by intro zz;refine zm8 ?_;refine jb zz.1):a:=h ⟨k⟩
theorem f7 (h:Hk b→a:=by intro zz;refine zm8 ?_;refine TL.run (ay rfl (.there _ (.here _)) rfl) rfl zz.1):a:=h ⟨k⟩
theorem ii (h:Hk b→a:=by intro zz;refine zm3 ?_;refine vo zz.1):a:=h ⟨k⟩
theorem ig (h:Hk b→a:=by intro zz;refine TC.seq (d3 zz.1)):a:=h ⟨k⟩
theorem gE (h:Hk b→a:=by intro zz;refine zm9 ?_;refine zm9 zz.1):a:=h ⟨k⟩
theorem mm (h:Hk b→a:=by intro zz;refine TL.run (bC rfl) rfl (zm8 zz.1)):a:=h ⟨k⟩
theorem jN (h:Hk b→a:=by intro zz;refine TC.region (zm0 zz.1)):a:=h ⟨k⟩
theorem mN (h:Hk b→a:=by intro zz;refine zm8 ?_;refine jT zz.1):a:=h ⟨k⟩
theorem mh (h:Hk b→a:=by intro zz;refine zm6 ?_;refine zm3 zz.1):a:=h ⟨k⟩
theorem ic (h:Hk b→a:=by intro zz;refine zm6 ?_;refine zm6 zz.1):a:=h ⟨k⟩
theorem mK (h:Hk b→a:=by intro zz;refine zm3 ?_;refine aQ (ay rfl (.there _ (.here _)) rfl) rfl zz.1):a:=h ⟨k⟩
theorem mI (h:Hk b→a:=by intro zz;refine TQ.run (aD rfl) rfl (TQ.run (aD rfl) rfl zz.1)):a:=h ⟨k⟩
theorem j3 (h:Hk b→a:=by intro zz;refine zm6 ?_;refine jQ zz.1):a:=h ⟨k⟩
theorem lQ (h:Hk b→a:=by intro zz;refine zm3 ?_;refine rh zz.1):a:=h ⟨k⟩
theorem lF (h:Hk b→a:=by intro zz;refine oB rfl rfl rfl rfl (oB rfl rfl rfl rfl zz.1)):a:=h ⟨k⟩
theorem pE (h:Hk b→a:=by intro zz;refine zm3 ?_;refine aF (S1 (S1 (S1 SN))) (Hp.le.refl _) (fun _ _=>ay rfl (.there _ (.here _)) rfl) rfl zz.1):a:=h ⟨k⟩
theorem jR (h:Hk b→a:=by intro zz;refine zm8 ?_;refine mg zz.1):a:=h ⟨k⟩
theorem pj (h:Hk b→a:=by intro zz;refine zm3 ?_;refine aF (S1 (S1 (S1 (S1 (S1 (S1 (S1 SN))))))) (Hp.le.refl _) (fun _ _=>ay rfl (.there _ (.there _ (.there _ (.there _ (.there _ (.here _)))))) rfl) rfl zz.1):a:=h ⟨k⟩
theorem pi (h:Hk b→a:=by intro zz;refine zm3 ?_;refine yb zz.1):a:=h ⟨k⟩
theorem ph (h:Hk b→a:=by intro zz;refine ar (ej rfl rfl sq sq) rfl (dj zz.1)):a:=h ⟨k⟩
theorem pf (h:Hk b→a:=by intro zz;refine zm3 ?_;refine ya zz.1):a:=h ⟨k⟩
theorem mT (h:Hk b→a:=by intro zz;refine zm3 ?_;refine lE zz.1):a:=h ⟨k⟩
theorem su (h:Hk b→a:=by intro zz;refine jb ?_;refine zm0 zz.1):a:=h ⟨k⟩
theorem r7 (h:Hk b→a:=by intro zz;refine gD ?_;refine TL.nil zz.1):a:=h ⟨k⟩
theorem r4 (h:Hk b→a:=by intro zz;refine zm8 ?_;refine jM zz.1):a:=h ⟨k⟩
theorem rY (h:Hk b→a:=by intro zz;refine zm6 ?_;refine dj zz.1):a:=h ⟨k⟩
theorem mR (h:Hk b→a:=by intro zz;refine TL.run (cd rfl rfl rfl) rfl (zm0 zz.1)):a:=h ⟨k⟩
theorem rG (h:Hk b→a:=by intro zz;refine zm8 ?_;refine aZ rfl rfl rfl (.there _ (.there _ (.here _))) rfl rfl zz.1):a:=h ⟨k⟩
theorem rx (h:Hk b→a:=by intro zz;refine zm0 ?_;refine jq zz.1):a:=h ⟨k⟩
theorem rq (h:Hk b→a:=by intro zz;refine TL.run (bq rfl hmv) rfl (zm0 zz.1)):a:=h ⟨k⟩
theorem rj (h:Hk b→a:=by intro zz;refine zm3 ?_;refine aF (S1 (S1 (S1 (S1 SN)))) (Hp.le.refl _) (fun _ _=>ay rfl (.there _ (.here _)) rfl) rfl zz.1):a:=h ⟨k⟩
theorem vx (h:Hk b→a:=by intro zz;refine cw rfl rfl (aD rfl) rfl (cw rfl rfl (aD rfl) rfl zz.1)):a:=h ⟨k⟩
theorem vt (h:Hk b→a:=by intro zz;refine ec ?_;refine zm8 zz.1):a:=h ⟨k⟩
theorem yc (h:Hk b→a:=by intro zz;refine ec ?_;refine aZ rfl rfl rfl (.there _ (.here _)) (by simp;omega) rfl zz.1):a:=h ⟨k⟩
theorem zm1 (h:Hk b→a:=by intro zz;refine zm0 ?_;refine TL.nil (ae zz.1)):a:=h ⟨k⟩
theorem da (h:Hk b→a:=by intro zz;refine cg ?_;refine zm4 zz.1):a:=h ⟨k⟩
theorem cZ (h:Hk b→a:=by intro zz;refine zm2 ?_;refine zm0 zz.1):a:=h ⟨k⟩
theorem eS (h:Hk b→a:=by intro zz;refine zm2 ?_;refine eE zz.1):a:=h ⟨k⟩
theorem ga (h:Hk b→a:=by intro zz;refine cg ?_;refine dk zz.1):a:=h ⟨k⟩
theorem f8 (h:Hk b→a:=by intro zz;refine cW ?_;refine TC.seq zz.1):a:=h ⟨k⟩
theorem fm (h:Hk b→a:=by intro zz;refine zm2 ?_;refine zm8 zz.1):a:=h ⟨k⟩
theorem gj (h:Hk b→a:=by intro zz;refine zm6 ?_;refine ar (bC rfl) rfl (zm3 zz.1)):a:=h ⟨k⟩
theorem ik (h:Hk b→a:=by intro zz;refine TF.back (TF.nil (ae zz.1))):a:=h ⟨k⟩
theorem fl (h:Hk b→a:=by intro zz;refine gD ?_;refine TL.nil (ae zz.1)):a:=h ⟨k⟩
theorem gF (h:Hk b→a:=by intro zz;refine gE ?_;refine zm9 zz.1):a:=h ⟨k⟩
theorem mM (h:Hk b→a:=by intro zz;refine TQ.run (aD rfl) rfl (TQ.nil (ae zz.1))):a:=h ⟨k⟩
theorem jZ (h:Hk b→a:=by intro zz;refine zm6 ?_;refine ar (ej rfl rfl om om) rfl (jQ zz.1)):a:=h ⟨k⟩
theorem jX (h:Hk b→a:=by intro zz;refine zm4 ?_;refine TL.nil zz.1):a:=h ⟨k⟩
theorem im (h:Hk b→a:=by intro zz;refine zm2 ?_;refine cE zz.1):a:=h ⟨k⟩
theorem jg (h:Hk b→a:=by intro zz;refine TC.region (fw zz.1)):a:=h ⟨k⟩
theorem lS (h:Hk b→a:=by intro zz;refine ic ?_;refine zm6 zz.1):a:=h ⟨k⟩
theorem jf (h:Hk b→a:=by intro zz;refine TC.region (zm4 zz.1)):a:=h ⟨k⟩
theorem nc (h:Hk b→a:=by intro zz;refine TL.run (bC rfl) rfl (fw zz.1)):a:=h ⟨k⟩
theorem jS (h:Hk b→a:=by intro zz;refine jq ?_;refine dk zz.1):a:=h ⟨k⟩
theorem mY (h:Hk b→a:=by intro zz;refine TC.region (f7 zz.1)):a:=h ⟨k⟩
theorem lC (h:Hk b→a:=by intro zz;refine TL.run (ej rfl rfl om om) rfl (dk zz.1)):a:=h ⟨k⟩
theorem pw (h:Hk b→a:=by intro zz;refine zm0 ?_;refine vt zz.1):a:=h ⟨k⟩
theorem pb (h:Hk b→a:=by intro zz;refine TQ.run (aD rfl) rfl (TQ.run (bC rfl) rfl (TQ.run (aX rfl) rfl zz.1))):a:=h ⟨k⟩
theorem o4 (h:Hk b→a:=by intro zz;refine jR ?_;refine TL.nil zz.1):a:=h ⟨k⟩
theorem o3 (h:Hk b→a:=by intro zz;refine gE ?_;refine zm0 zz.1):a:=h ⟨k⟩
theorem oV (h:Hk b→a:=by intro zz;refine co ?_;refine kP zz.1):a:=h ⟨k⟩
theorem vQ (h:Hk b→a:=by intro zz;refine eY ?_;refine aZ rfl rfl rfl (.there _ (.there _ (.here _))) rfl rfl zz.1):a:=h ⟨k⟩
theorem r6 (h:Hk b→a:=by intro zz;refine eY ?_;refine jM zz.1):a:=h ⟨k⟩
theorem rS (h:Hk b→a:=by intro zz;refine TL.run (af rfl hxa rfl om om) rfl (zm8 ?_);refine TL.run (bL hxa ha rfl rfl) rfl zz.1):a:=h ⟨k⟩
theorem rF (h:Hk b→a:=by intro zz;refine jN ?_;refine eE zz.1):a:=h ⟨k⟩
theorem rD (h:Hk b→a:=by intro zz;refine TL.run (bC rfl) rfl (f7 zz.1)):a:=h ⟨k⟩
theorem rC (h:Hk b→a:=by intro zz;refine ak rfl (gD ?_);refine al (S0 (S1 (S1 SN))) (Hp.le.refl _) zz.1):a:=h ⟨k⟩
theorem ry (h:Hk b→a:=by intro zz;refine zm3 ?_;refine ak rfl (mg zz.1)):a:=h ⟨k⟩
theorem vp (h:Hk b→a:=by intro zz;refine mT ?_;refine zm6 zz.1):a:=h ⟨k⟩
theorem zm7 (h:Hk b→a:=by intro zz;refine zm1 ?_;refine TC.block zz.1):a:=h ⟨k⟩
theorem dv (h:Hk b→a:=by intro zz;refine zm1 ?_;refine TC.ret zz.1):a:=h ⟨k⟩
theorem dB (h:Hk b→a:=by intro zz;refine gE ?_;refine gE zz.1):a:=h ⟨k⟩
theorem dS (h:Hk b→a:=by intro zz;refine zm2 ?_;refine zm4 zz.1):a:=h ⟨k⟩
theorem fK (h:Hk b→a:=by intro zz;refine cg ?_;refine zm1 zz.1):a:=h ⟨k⟩
theorem fz (h:Hk b→a:=by intro zz;refine TL.nil (ae (zm2 zz.1))):a:=h ⟨k⟩
theorem fJ (h:Hk b→a:=by intro zz;refine fm ?_;refine TL.run (ay rfl (.there _ (.here _)) rfl) rfl zz.1):a:=h ⟨k⟩
theorem eQ (h:Hk b→a:=by intro zz;refine fm ?_;refine jb zz.1):a:=h ⟨k⟩
theorem eX (h:Hk b→a:=by intro zz;refine zm1 ?_;refine TC.seq zz.1):a:=h ⟨k⟩
theorem gH (h:Hk b→a:=by intro zz;refine fl ?_;refine TC.ret zz.1):a:=h ⟨k⟩
theorem jr (h:Hk b→a:=by intro zz;refine zm0 ?_;refine zm1 zz.1):a:=h ⟨k⟩
theorem kQ (h:Hk b→a:=by intro zz;refine fl ?_;refine TC.seq zz.1):a:=h ⟨k⟩
theorem mj (h:Hk b→a:=by intro zz;refine mS ?_;refine TL.nil (ae (TC.ret zz.1))):a:=h ⟨k⟩
theorem mi (h:Hk b→a:=by intro zz;refine zm1 ?_;refine dR rfl zz.1):a:=h ⟨k⟩
theorem mL (h:Hk b→a:=by intro zz;refine jf ?_;refine zm0 zz.1):a:=h ⟨k⟩
theorem qt (h:Hk b→a:=by intro zz;refine cW ?_;refine zm2 zz.1):a:=h ⟨k⟩
theorem ji (h:Hk b→a:=by intro zz;refine zm1 ?_;refine cD rfl zz.1):a:=h ⟨k⟩
theorem j6 (h:Hk b→a:=by intro zz;refine ic ?_;refine ar (bC rfl) rfl (zm3 zz.1)):a:=h ⟨k⟩
theorem j4 (h:Hk b→a:=by intro zz;refine cf rfl rfl rfl rfl rfl (.there _ (.there _ (.there _ (.there _ (.there _ (.here _)))))) rfl rfl (TL.nil (ae (TC.ret zz.1)))):a:=h ⟨k⟩
theorem jh (h:Hk b→a:=by intro zz;refine jN ?_;refine fw zz.1):a:=h ⟨k⟩
theorem fu (h:Hk b→a:=by intro zz;refine f8 ?_;refine TC.block zz.1):a:=h ⟨k⟩
theorem jW (h:Hk b→a:=by intro zz;refine jR ?_;refine TL.nil (ae zz.1)):a:=h ⟨k⟩
theorem il (h:Hk b→a:=by intro zz;refine TC.seq (cZ zz.1)):a:=h ⟨k⟩
theorem na (h:Hk b→a:=by intro zz;refine zm6 ?_;refine TF.nil (ae (TC.ret zz.1))):a:=h ⟨k⟩
theorem m3 (h:Hk b→a:=by intro zz;refine zm4 ?_;refine zm4 zz.1):a:=h ⟨k⟩
theorem py (h:Hk b→a:=by intro zz;refine rj ?_;refine jQ ?_;refine aF (S1 (S1 (S1 (S1 SN)))) (Hp.le.refl _) (fun _ _=>aJ hrs rfl rfl rfl) rfl zz.1):a:=h ⟨k⟩
theorem o6 (h:Hk b→a:=by intro zz;refine gj ?_;refine rh zz.1):a:=h ⟨k⟩
theorem sy (h:Hk b→a:=by intro zz;refine cg ?_;refine da zz.1):a:=h ⟨k⟩
theorem sk (h:Hk b→a:=by intro zz;refine zm0 ?_;refine TL.run (cd rfl rfl rfl) rfl (TL.nil (ae zz.1))):a:=h ⟨k⟩
theorem sd (h:Hk b→a:=by intro zz;refine ic ?_;refine ic zz.1):a:=h ⟨k⟩
theorem r3 (h:Hk b→a:=by intro zz;refine cf rfl rfl rfl rfl rfl (.there _ (.there _ (.here _))) rfl rfl (TL.nil (ae (TC.ret zz.1)))):a:=h ⟨k⟩
theorem rQ (h:Hk b→a:=by intro zz;refine TQ.run (aX rfl) rfl (TQ.run (ay rfl (.here _) rfl) rfl (mI zz.1))):a:=h ⟨k⟩
theorem ro (h:Hk b→a:=by intro zz;refine yc ?_;refine TL.nil (ae zz.1)):a:=h ⟨k⟩
theorem rm (h:Hk b→a:=by intro zz;refine TC.region (mN ?_);refine eE zz.1):a:=h ⟨k⟩
theorem vw (h:Hk b→a:=by intro zz;refine ra rfl rfl rfl (ra rfl rfl rfl (ra rfl rfl rfl (ra rfl rfl rfl zz.1)))):a:=h ⟨k⟩
theorem yq (h:Hk b→a:=by intro zz;refine bV (aD rfl) rfl rfl ⟨rfl,trivial⟩ (bV (aD rfl) rfl rfl ⟨rfl,trivial⟩ (bV (aD rfl) rfl rfl ⟨rfl,trivial⟩ (bV (aD rfl) rfl rfl ⟨rfl,trivial⟩ zz.1)))):a:=h ⟨k⟩
theorem yp (h:Hk b→a:=by intro zz;refine gV rfl rfl rfl rfl (gV rfl rfl rfl rfl (gV rfl rfl rfl rfl (gV rfl rfl rfl rfl zz.1)))):a:=h ⟨k⟩
theorem vn (h:Hk b→a:=by intro zz;refine bV (cd rfl rfl rfl) rfl rfl ⟨rfl,rfl,trivial⟩ (bV (cd rfl rfl rfl) rfl rfl ⟨rfl,rfl,trivial⟩ (bV (cd rfl rfl rfl) rfl rfl ⟨rfl,rfl,trivial⟩ (bV (cd rfl rfl rfl) rfl rfl ⟨rfl,rfl,trivial⟩ zz.1)))):a:=h ⟨k⟩
theorem xY (h:Hk b→a:=by intro zz;refine bV (cd rfl rfl rfl) rfl rfl ⟨rfl,trivial⟩ (bV (cd rfl rfl rfl) rfl rfl ⟨rfl,trivial⟩ (bV (cd rfl rfl rfl) rfl rfl ⟨rfl,trivial⟩ (bV (cd rfl rfl rfl) rfl rfl ⟨rfl,trivial⟩ zz.1)))):a:=h ⟨k⟩
theorem eD (h:Hk b→a:=by intro zz;refine zm0 ?_;refine dv zz.1):a:=h ⟨k⟩
theorem fo (h:Hk b→a:=by intro zz;refine dS ?_;refine zm0 zz.1):a:=h ⟨k⟩
theorem eZ (h:Hk b→a:=by intro zz;refine TC.seq (dS zz.1)):a:=h ⟨k⟩
theorem fY (h:Hk b→a:=by intro zz;refine TL.nil (ae (cZ zz.1))):a:=h ⟨k⟩
theorem gI (h:Hk b→a:=by intro zz;refine gF ?_;refine zm4 zz.1):a:=h ⟨k⟩
theorem fX (h:Hk b→a:=by intro zz;refine TC.exit (bE (bE (cL ?_)));refine ae zz.1):a:=h ⟨k⟩
theorem gi (h:Hk b→a:=by intro zz;refine aY (aC (aC (aY ?_)));refine aC zz.1):a:=h ⟨k⟩
theorem jO (h:Hk b→a:=by intro zz;refine gF ?_;refine dk zz.1):a:=h ⟨k⟩
theorem ja (h:Hk b→a:=by intro zz;refine zm2 ?_;refine zm1 zz.1):a:=h ⟨k⟩
theorem oH (h:Hk b→a:=by intro zz;refine dB ?_;refine zm9 zz.1):a:=h ⟨k⟩
theorem j7 (h:Hk b→a:=by intro zz;refine cW ?_;refine cZ zz.1):a:=h ⟨k⟩
theorem lP (h:Hk b→a:=by intro zz;refine fl ?_;refine ig zz.1):a:=h ⟨k⟩
theorem lN (h:Hk b→a:=by intro zz;refine eQ ?_;refine zm0 zz.1):a:=h ⟨k⟩
theorem lK (h:Hk b→a:=by intro zz;refine fl ?_;refine zm2 zz.1):a:=h ⟨k⟩
theorem nk (h:Hk b→a:=by intro zz;refine co ?_;refine da zz.1):a:=h ⟨k⟩
theorem nj (h:Hk b→a:=by intro zz;refine oV ?_;refine zm4 zz.1):a:=h ⟨k⟩
theorem nf (h:Hk b→a:=by intro zz;refine i3 rfl rfl rfl (.here _) rfl (fz zz.1)):a:=h ⟨k⟩
theorem oZ (h:Hk b→a:=by intro zz;refine bn (gD ?_);refine TF.back (TF.nil (oz (L':=(b3,_)::((b2,_)::((b1,_)::(ob22)))) (dx [[(b3,_)],[(b2,_)],[(b1,_)],ob22] [0,1,2,3] rfl) zz.1))):a:=h ⟨k⟩
theorem oY (h:Hk b→a:=by intro zz;refine ic ?_;refine vp zz.1):a:=h ⟨k⟩
theorem sm (h:Hk b→a:=by intro zz;refine TC.exit (bE (cL (ae ?_)));refine TC.region zz.1):a:=h ⟨k⟩
theorem si (h:Hk b→a:=by intro zz;refine aQ (bq rfl hl) rfl (zm6 ?_);refine ar (af rfl hT rfl om om) rfl (zm3 ?_);refine aQ (bL hT hx rfl rfl) rfl zz.1):a:=h ⟨k⟩
theorem sh (h:Hk b→a:=by intro zz;refine eX ?_;refine d3 zz.1):a:=h ⟨k⟩
theorem rW (h:Hk b→a:=by intro zz;refine TL.nil (ae (fm zz.1))):a:=h ⟨k⟩
theorem rO (h:Hk b→a:=by intro zz;refine cW ?_;refine jf zz.1):a:=h ⟨k⟩
theorem oT (h:Hk b→a:=by intro zz;refine dv ?_;refine aC zz.1):a:=h ⟨k⟩
theorem rI (h:Hk b→a:=by intro zz;refine jg ?_;refine mR zz.1):a:=h ⟨k⟩
theorem rz (h:Hk b→a:=by intro zz;refine zm1 ?_;refine zm2 zz.1):a:=h ⟨k⟩
theorem vv (h:Hk b→a:=by intro zz;refine fu ?_;refine d3 zz.1):a:=h ⟨k⟩
theorem zm5 (h:Hk b→a:=by intro zz;refine ja ?_;refine TC.seq zz.1):a:=h ⟨k⟩
theorem cQ (h:Hk b→a:=by intro zz;refine fu ?_;refine zm2 zz.1):a:=h ⟨k⟩
theorem dZ (h:Hk b→a:=by intro zz;refine cZ ?_;refine zm1 zz.1):a:=h ⟨k⟩
theorem gG (h:Hk b→a:=by intro zz;refine fX ?_;refine TC.seq zz.1):a:=h ⟨k⟩
theorem jc (h:Hk b→a:=by intro zz;refine aC (aY (aC (aC ?_)));refine aY (aC zz.1)):a:=h ⟨k⟩
theorem ju (h:Hk b→a:=by intro zz;refine zm1 ?_;refine cZ zz.1):a:=h ⟨k⟩
theorem hZ (h:Hk b→a:=by intro zz;refine ja ?_;refine TC.block zz.1):a:=h ⟨k⟩
theorem gh (h:Hk b→a:=by intro zz;refine ja ?_;refine TC.ret zz.1):a:=h ⟨k⟩
theorem kR (h:Hk b→a:=by intro zz;refine dB ?_;refine dk zz.1):a:=h ⟨k⟩
theorem qu (h:Hk b→a:=by intro zz;refine zm1 ?_;refine fm zz.1):a:=h ⟨k⟩
theorem lM (h:Hk b→a:=by intro zz;refine fu ?_;refine TC.seq (eP kr kr zz.1)):a:=h ⟨k⟩
theorem nh (h:Hk b→a:=by intro zz;refine eX ?_;refine zm2 zz.1):a:=h ⟨k⟩
theorem m5 (h:Hk b→a:=by intro zz;refine eZ ?_;refine TL.run (ai rfl rfl hL) rfl zz.1):a:=h ⟨k⟩
theorem pd (h:Hk b→a:=by intro zz;refine il ?_;refine fw zz.1):a:=h ⟨k⟩
theorem sD (h:Hk b→a:=by intro zz;refine eQ ?_;refine mR zz.1):a:=h ⟨k⟩
theorem sC (h:Hk b→a:=by intro zz;refine dB ?_;refine dD rfl rfl rfl (dD rfl rfl rfl zz.1)):a:=h ⟨k⟩
theorem sx (h:Hk b→a:=by intro zz;refine ae (TC.seq (eQ zz.1))):a:=h ⟨k⟩
theorem oU (h:Hk b→a:=by intro zz;refine ic ?_;refine j6 zz.1):a:=h ⟨k⟩
theorem rT (h:Hk b→a:=by intro zz;refine fu ?_;refine ig zz.1):a:=h ⟨k⟩
theorem rM (h:Hk b→a:=by intro zz;refine cW ?_;refine dS zz.1):a:=h ⟨k⟩
theorem vq (h:Hk b→a:=by intro zz;refine cD rfl (vv zz.1)):a:=h ⟨k⟩
theorem xZ (h:Hk b→a:=by intro zz;refine gD ?_;refine oT zz.1):a:=h ⟨k⟩
theorem mP (h:Hk b→a:=by intro zz;refine zm4 ?_;refine dB zz.1):a:=h ⟨k⟩
theorem mO (h:Hk b→a:=by intro zz;refine a8 (ae (TC.region (jS zz.1)))):a:=h ⟨k⟩
theorem jt (h:Hk b→a:=by intro zz;refine gh ?_;refine aC zz.1):a:=h ⟨k⟩
theorem jP (h:Hk b→a:=by intro zz;refine TC.skip (mO zz.1)):a:=h ⟨k⟩
theorem ie (h:Hk b→a:=by intro zz;refine a8 (ae (TC.region (zm0 ?_)));refine jS zz.1):a:=h ⟨k⟩
theorem mJ (h:Hk b→a:=by intro zz;refine TL.nil (mO zz.1)):a:=h ⟨k⟩
theorem mH (h:Hk b→a:=by intro zz;refine eQ ?_;refine zm1 zz.1):a:=h ⟨k⟩
theorem qr (h:Hk b→a:=by intro zz;refine fu ?_;refine cZ zz.1):a:=h ⟨k⟩
theorem lR (h:Hk b→a:=by intro zz;refine TC.seq (hZ zz.1)):a:=h ⟨k⟩
theorem ni (h:Hk b→a:=by intro zz;refine fl ?_;refine eQ zz.1):a:=h ⟨k⟩
theorem ng (h:Hk b→a:=by intro zz;refine TC.seq (dZ zz.1)):a:=h ⟨k⟩
theorem mX (h:Hk b→a:=by intro zz;refine fX ?_;refine zm2 zz.1):a:=h ⟨k⟩
theorem pA (h:Hk b→a:=by intro zz;refine jR ?_;refine fY zz.1):a:=h ⟨k⟩
theorem sG (h:Hk b→a:=by intro zz;refine ef ?_;refine eD zz.1):a:=h ⟨k⟩
theorem sA (h:Hk b→a:=by intro zz;refine ja ?_;refine zm2 zz.1):a:=h ⟨k⟩
theorem sr (h:Hk b→a:=by intro zz;refine dS ?_;refine zm1 zz.1):a:=h ⟨k⟩
theorem sg (h:Hk b→a:=by intro zz;refine oU ?_;refine ak rfl zz.1):a:=h ⟨k⟩
theorem rL (h:Hk b→a:=by intro zz;refine eX ?_;refine cZ zz.1):a:=h ⟨k⟩
theorem mQ (h:Hk b→a:=by intro zz;refine cZ ?_;refine dv zz.1):a:=h ⟨k⟩
theorem ru (h:Hk b→a:=by intro zz;refine fl ?_;refine jh zz.1):a:=h ⟨k⟩
theorem gb (h:Hk b→a:=by intro zz;refine TC.skip (ie zz.1)):a:=h ⟨k⟩
theorem ml (h:Hk b→a:=by intro zz;refine gh ?_;refine aY (aC zz.1)):a:=h ⟨k⟩
theorem j8 (h:Hk b→a:=by intro zz;refine ja ?_;refine cZ zz.1):a:=h ⟨k⟩
theorem jV (h:Hk b→a:=by intro zz;refine dk ?_;refine mO zz.1):a:=h ⟨k⟩
theorem jU (h:Hk b→a:=by intro zz;refine TF.back (TF.nil (mO zz.1))):a:=h ⟨k⟩
theorem nl (h:Hk b→a:=by intro zz;refine eX ?_;refine eQ zz.1):a:=h ⟨k⟩
theorem m9 (h:Hk b→a:=by intro zz;refine fu ?_;refine dS zz.1):a:=h ⟨k⟩
theorem m7 (h:Hk b→a:=by intro zz;refine fX ?_;refine fm zz.1):a:=h ⟨k⟩
theorem m4 (h:Hk b→a:=by intro zz;refine dS ?_;refine dv zz.1):a:=h ⟨k⟩
theorem mU (h:Hk b→a:=by intro zz;refine gE ?_;refine mP zz.1):a:=h ⟨k⟩
theorem o9 (h:Hk b→a:=by intro zz;refine fX ?_;refine cZ zz.1):a:=h ⟨k⟩
theorem oW (h:Hk b→a:=by intro zz;refine fX ?_;refine im zz.1):a:=h ⟨k⟩
theorem sB (h:Hk b→a:=by intro zz;refine gF ?_;refine eD zz.1):a:=h ⟨k⟩
theorem rN (h:Hk b→a:=by intro zz;refine gG ?_;refine zm2 zz.1):a:=h ⟨k⟩
theorem vP (h:Hk b→a:=by intro zz;refine vn ?_;refine vn zz.1):a:=h ⟨k⟩
theorem yr (h:Hk b→a:=by intro zz;refine xY ?_;refine xY zz.1):a:=h ⟨k⟩
theorem oG (h:Hk b→a:=by intro zz;refine gF ?_;refine mP zz.1):a:=h ⟨k⟩
theorem jY (h:Hk b→a:=by intro zz;refine dk ?_;refine ie zz.1):a:=h ⟨k⟩
theorem lV (h:Hk b→a:=by intro zz;refine zm5 ?_;refine cZ zz.1):a:=h ⟨k⟩
theorem pB (h:Hk b→a:=by intro zz;refine ja ?_;refine dS zz.1):a:=h ⟨k⟩
theorem pu (h:Hk b→a:=by intro zz;refine TL.nil (ae (TC.seq (hZ zz.1)))):a:=h ⟨k⟩
theorem sF (h:Hk b→a:=by intro zz;refine TC.skip (a8 (ae (gh zz.1)))):a:=h ⟨k⟩
theorem sE (h:Hk b→a:=by intro zz;refine TL.nil (ae (TC.block (dZ zz.1)))):a:=h ⟨k⟩
theorem rK (h:Hk b→a:=by intro zz;refine im ?_;refine xZ zz.1):a:=h ⟨k⟩
theorem rE (h:Hk b→a:=by intro zz;refine fY ?_;refine dv zz.1):a:=h ⟨k⟩
theorem rA (h:Hk b→a:=by intro zz;refine aY (aC (aC (aY ?_)));refine gi zz.1):a:=h ⟨k⟩
theorem lT (h:Hk b→a:=by intro zz;refine eX ?_;refine dZ zz.1):a:=h ⟨k⟩
theorem lI (h:Hk b→a:=by intro zz;refine fu ?_;refine dZ zz.1):a:=h ⟨k⟩
theorem lG (h:Hk b→a:=by intro zz;refine fl ?_;refine mH zz.1):a:=h ⟨k⟩
theorem lD (h:Hk b→a:=by intro zz;refine dB ?_;refine mP zz.1):a:=h ⟨k⟩
theorem rv (h:Hk b→a:=by intro zz;refine zm5 ?_;refine eQ zz.1):a:=h ⟨k⟩
theorem rk (h:Hk b→a:=by intro zz;refine TC.exit (bE (bE (cL ?_)));refine mO zz.1):a:=h ⟨k⟩
theorem vu (h:Hk b→a:=by intro zz;refine eO (il ?_);refine TL.run (ej rfl rfl om om) rfl (jr zz.1)):a:=h ⟨k⟩
theorem jv (h:Hk b→a:=by intro zz;refine fX ?_;refine gh zz.1):a:=h ⟨k⟩
theorem j9 (h:Hk b→a:=by intro zz;refine ji ?_;refine jt zz.1):a:=h ⟨k⟩
theorem lL (h:Hk b→a:=by intro zz;refine gh ?_;refine gi zz.1):a:=h ⟨k⟩
theorem rR (h:Hk b→a:=by intro zz;refine TC.exit (bE (bE (cL ?_)));refine ie zz.1):a:=h ⟨k⟩
theorem rH (h:Hk b→a:=by intro zz;refine oG ?_;refine dk zz.1):a:=h ⟨k⟩
theorem ij (h:Hk b→a:=by intro zz;refine zm5 ?_;refine hZ zz.1):a:=h ⟨k⟩
theorem oJ (h:Hk b→a:=by intro zz;refine fX ?_;refine mQ zz.1):a:=h ⟨k⟩
theorem mZ (h:Hk b→a:=by intro zz;refine dB ?_;refine mU zz.1):a:=h ⟨k⟩
theorem sj (h:Hk b→a:=by intro zz;refine mQ ?_;refine gi zz.1):a:=h ⟨k⟩
theorem rt (h:Hk b→a:=by intro zz;refine gh ?_;refine aY (gi zz.1)):a:=h ⟨k⟩
theorem mV (h:Hk b→a:=by intro zz;refine TC.skip (a8 (ae (TC.region ?_)));refine lC ?_;refine ly (eO (zm5 zz.1))):a:=h ⟨k⟩
theorem po (h:Hk b→a:=by intro zz;refine vu ?_;refine vq zz.1):a:=h ⟨k⟩
theorem ri (h:Hk b→a:=by intro zz;refine lD ?_;refine mP zz.1):a:=h ⟨k⟩
theorem vr (h:Hk b→a:=by intro zz;refine TF.back (TF.nil (a8 (ae ?_)));refine TC.region (zm0 ?_);refine lC ?_;refine ly (eO (il ?_));refine TL.run (ej rfl rfl om om) rfl (jr zz.1)):a:=h ⟨k⟩
theorem pm (h:Hk b→a:=by intro zz;refine vr ?_;refine dR rfl zz.1):a:=h ⟨k⟩
theorem rJ (h:Hk b→a:=by intro zz;refine ri ?_;refine mP zz.1):a:=h ⟨k⟩
end
end Go.Sx
