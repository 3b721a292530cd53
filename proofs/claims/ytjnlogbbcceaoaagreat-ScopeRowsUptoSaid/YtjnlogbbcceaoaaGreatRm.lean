import Derived.ProofKit
import Derived.KernelRfl
set_option linter.all false
namespace Go.Sx
structure Hk (b:Prop):Prop where
 ok:b
variable {a b:Prop}
theorem om (h:a:=by omega):a:=h
theorem kr (h:a:=by kernel_rfl):a:=h
theorem o2q (h:a:=by exact⟨by omega,by omega⟩):a:=h
theorem kz (h:a:=by exact⟨by kernel_rfl⟩):a:=h
theorem sq (h:a:=by simp):a:=h
theorem dq (h:a:=by decide):a:=h
theorem ky (h:a:=by repeat (first | exact trivial | refine⟨rfl,?_⟩)):a:=h
section
variable (k:b)
include k
theorem zm0 (h:Hk b→a:=by intro zz;refine TL.run (aJ rfl) rfl zz.1):a:=h ⟨k⟩
theorem zm4 (h:Hk b→a:=by intro zz;refine aq (dB rfl) rfl zz.1):a:=h ⟨k⟩
theorem zm5 (h:Hk b→a:=by intro zz;refine aq (aJ rfl) rfl zz.1):a:=h ⟨k⟩
theorem zm6 (h:Hk b→a:=by intro zz;refine TL.run (dB rfl) rfl zz.1):a:=h ⟨k⟩
theorem cK (h:Hk b→a:=by intro zz;refine aC rfl rfl (aJ rfl) rfl zz.1):a:=h ⟨k⟩
theorem dw (h:Hk b→a:=by intro zz;refine TL.run (mO rfl rfl) rfl zz.1):a:=h ⟨k⟩
theorem dh (h:Hk b→a:=by intro zz;refine TL.gdN rfl rfl rfl rfl zz.1):a:=h ⟨k⟩
theorem dZ (h:Hk b→a:=by intro zz;refine aq (mO rfl rfl) rfl zz.1):a:=h ⟨k⟩
theorem eH (h:Hk b→a:=by intro zz;refine TC.drawn kr kr zz.1):a:=h ⟨k⟩
theorem fp (h:Hk b→a:=by intro zz;refine TL.run (ie rfl rfl om om) rfl zz.1):a:=h ⟨k⟩
theorem fo (h:Hk b→a:=by intro zz;refine TL.run (a7 rfl (.here _) rfl) rfl zz.1):a:=h ⟨k⟩
theorem it (h:Hk b→a:=by intro zz;refine aC rfl rfl (dB rfl) rfl zz.1):a:=h ⟨k⟩
theorem gE (h:Hk b→a:=by intro zz;refine TQ.run (dB rfl) rfl zz.1):a:=h ⟨k⟩
theorem jp (h:Hk b→a:=by intro zz;refine bA rfl rfl (dB rfl) rfl zz.1):a:=h ⟨k⟩
theorem jY (h:Hk b→a:=by intro zz;refine bB rfl rfl rfl (.there _ (.here _)) rfl rfl zz.1):a:=h ⟨k⟩
theorem jX (h:Hk b→a:=by intro zz;refine TL.run ((by first | exact fz rfl rfl om om | exact aJ rfl)) rfl zz.1):a:=h ⟨k⟩
theorem l7 (h:Hk b→a:=by intro zz;refine az (S0 (S1 (S1 (S1 SN)))) (Hp.le.refl _) zz.1):a:=h ⟨k⟩
theorem lD (h:Hk b→a:=by intro zz;refine TL.run (aB rfl (.here _) rfl) rfl zz.1):a:=h ⟨k⟩
theorem nz (h:Hk b→a:=by intro zz;refine aC rfl rfl (bW rfl rfl rfl) rfl zz.1):a:=h ⟨k⟩
theorem qq (h:Hk b→a:=by intro zz;refine aq ((by first | exact fz rfl rfl om om | exact aJ rfl)) rfl zz.1):a:=h ⟨k⟩
theorem lj (h:Hk b→a:=by intro zz;refine aK (aB rfl (.here _) rfl) rfl zz.1):a:=h ⟨k⟩
theorem mn (h:Hk b→a:=by intro zz;refine bB rfl rfl rfl (.there _ (.there _ (.there _ (.here _)))) rfl rfl zz.1):a:=h ⟨k⟩
theorem mj (h:Hk b→a:=by intro zz;refine TL.run (aB rfl (.there _ (.there _ (.there _ (.here _)))) rfl) rfl zz.1):a:=h ⟨k⟩
theorem li (h:Hk b→a:=by intro zz;refine bB rfl rfl rfl (.here _) rfl rfl zz.1):a:=h ⟨k⟩
theorem pc (h:Hk b→a:=by intro zz;refine TL.run (ae rfl hL rfl om om) rfl zz.1):a:=h ⟨k⟩
theorem q6 (h:Hk b→a:=by intro zz;refine TL.run ((by first | exact fw rfl rfl om om | exact aJ rfl)) rfl zz.1):a:=h ⟨k⟩
theorem o3 (h:Hk b→a:=by intro zz;refine gt (.there _ (.there _ (.here _))) zz.1):a:=h ⟨k⟩
theorem gY (h:Hk b→a:=by intro zz;refine cH rfl rfl rfl rfl rfl (.here _) rfl rfl zz.1):a:=h ⟨k⟩
theorem oR (h:Hk b→a:=by intro zz;refine aq (aY rfl rfl hOc om om) rfl zz.1):a:=h ⟨k⟩
theorem oQ (h:Hk b→a:=by intro zz;refine aq (aY rfl rfl hOw om om) rfl zz.1):a:=h ⟨k⟩
theorem qX (h:Hk b→a:=by intro zz;refine aC rfl rfl ((by first | exact fz rfl rfl om om | exact aJ rfl)) rfl zz.1):a:=h ⟨k⟩
theorem qL (h:Hk b→a:=by intro zz;refine TL.run (aB rfl (.there _ (.there _ (.there _ (.there _ (.there _ (.here _)))))) rfl) rfl zz.1):a:=h ⟨k⟩
theorem qJ (h:Hk b→a:=by intro zz;refine TL.run (aB rfl (.there _ (.there _ (.there _ (.there _ (.there _ (.there _ (.there _ (.here _)))))))) rfl) rfl zz.1):a:=h ⟨k⟩
theorem uE (h:Hk b→a:=by intro zz;refine aN (S1 (S1 (S1 SN))) (Hp.le.refl _) (fun _ _=>aB rfl (.there _ (.here _)) rfl) rfl zz.1):a:=h ⟨k⟩
theorem uC (h:Hk b→a:=by intro zz;refine cw (aJ rfl) rfl rfl ⟨rfl,rfl,trivial⟩ zz.1):a:=h ⟨k⟩
theorem uv (h:Hk b→a:=by intro zz;refine aq (aY rfl rfl hO19 om om) rfl zz.1):a:=h ⟨k⟩
theorem l8 (h:Hk b→a:=by intro zz;refine aq (ae rfl hrs rfl om om) rfl zz.1):a:=h ⟨k⟩
theorem uo (h:Hk b→a:=by intro zz;refine aN (S1 (S1 (S1 (S1 (S1 SN))))) (Hp.le.refl _) (fun _ _=>aQ hrs rfl rfl rfl) rfl zz.1):a:=h ⟨k⟩
theorem yk (h:Hk b→a:=by intro zz;refine aN (S1 (S1 (S1 SN))) (Hp.le.refl _) (fun _ _=>a7 rfl (.here _) rfl) rfl zz.1):a:=h ⟨k⟩
theorem qA (h:Hk b→a:=by intro zz;refine TL.run (aB rfl (.there _ (.there _ (.here _))) rfl) rfl zz.1):a:=h ⟨k⟩
theorem t6 (h:Hk b→a:=by intro zz;refine az (S0 (S1 (S1 (S1 (S1 SN))))) (Hp.le.refl _) zz.1):a:=h ⟨k⟩
theorem tZ (h:Hk b→a:=by intro zz;refine aK (aB rfl (.there _ (.there _ (.there _ (.here _)))) rfl) rfl zz.1):a:=h ⟨k⟩
theorem tY (h:Hk b→a:=by intro zz;refine aK (aB rfl (.there _ (.there _ (.there _ (.past r.ob (.here _))))) rfl) rfl zz.1):a:=h ⟨k⟩
theorem tX (h:Hk b→a:=by intro zz;refine aq (aY rfl rfl hW85.s om om) rfl zz.1):a:=h ⟨k⟩
theorem tW (h:Hk b→a:=by intro zz;refine aK (aB rfl (.there _ (.there _ (.here _))) rfl) rfl zz.1):a:=h ⟨k⟩
theorem tT (h:Hk b→a:=by intro zz;refine aq (ie rfl rfl om om) rfl zz.1):a:=h ⟨k⟩
theorem xK (h:Hk b→a:=by intro zz;refine TL.run (ae rfl hQ.s rfl om om) rfl zz.1):a:=h ⟨k⟩
theorem xF (h:Hk b→a:=by intro zz;refine TL.run (vn rfl rfl om om) rfl zz.1):a:=h ⟨k⟩
theorem xD (h:Hk b→a:=by intro zz;refine bB rfl rfl rfl (.there _ (.there _ (.there _ (.there _ (.there _ (.here _)))))) rfl rfl zz.1):a:=h ⟨k⟩
theorem xz (h:Hk b→a:=by intro zz;refine gt (.there _ (.there _ (.there _ (.there _ (.here _))))) zz.1):a:=h ⟨k⟩
theorem xw (h:Hk b→a:=by intro zz;refine aq (ae rfl hro rfl om om) rfl zz.1):a:=h ⟨k⟩
theorem xq (h:Hk b→a:=by intro zz;refine aN (S1 SN) (Hp.le.refl _) (fun _ _=>aB rfl (.here _) rfl) rfl zz.1):a:=h ⟨k⟩
theorem tN (h:Hk b→a:=by intro zz;refine cH rfl rfl rfl rfl rfl (.there _ (.here _)) rfl rfl zz.1):a:=h ⟨k⟩
theorem Ba (h:Hk b→a:=by intro zz;refine TD.leaf [(0,2),(1,2),(2,1),(3,1),(4,1),(5,2),(6,0)] kr kr zz.1):a:=h ⟨k⟩
theorem A9 (h:Hk b→a:=by intro zz;refine aC rfl rfl (ae rfl hw rfl om om) rfl zz.1):a:=h ⟨k⟩
theorem A8 (h:Hk b→a:=by intro zz;refine aN (S1 (S1 (S1 (S1 SN)))) (Hp.le.refl _) (fun _ _=>a7 rfl (.here _) rfl) rfl zz.1):a:=h ⟨k⟩
theorem A7 (h:Hk b→a:=by intro zz;refine aN (S1 (S1 (S1 (S1 (S1 (S1 (S1 SN))))))) (Hp.le.refl _) (fun _ _=>aQ hrs rfl rfl rfl) rfl zz.1):a:=h ⟨k⟩
theorem A6 (h:Hk b→a:=by intro zz;refine bB rfl rfl rfl (.there _ (.there _ (.there _ (.there _ (.there _ (.there _ (.there _ (.here _)))))))) rfl rfl zz.1):a:=h ⟨k⟩
theorem A5 (h:Hk b→a:=by intro zz;refine aN (S1 (S1 (S1 (S1 (S1 (S1 (S1 (S1 (S1 (S1 SN)))))))))) (Hp.le.refl _) (fun _ _=>aQ hrs rfl rfl rfl) rfl zz.1):a:=h ⟨k⟩
theorem A4 (h:Hk b→a:=by intro zz;refine gt (.there _ (.there _ (.there _ (.there _ (.there _ (.there _ (.here _))))))) zz.1):a:=h ⟨k⟩
theorem A3 (h:Hk b→a:=by intro zz;refine aN (S1 (S1 (S1 (S1 (S1 (S1 (S1 (S1 SN)))))))) (Hp.le.refl _) (fun _ _=>aB rfl (.there _ (.there _ (.there _ (.there _ (.there _ (.here _)))))) rfl) rfl zz.1):a:=h ⟨k⟩
theorem A2 (h:Hk b→a:=by intro zz;refine aN (S1 (S1 (S1 (S1 (S1 (S1 (S1 (S1 (S1 (S1 (S1 (S1 SN)))))))))))) (Hp.le.refl _) (fun _ _=>aQ hrs rfl rfl rfl) rfl zz.1):a:=h ⟨k⟩
theorem A1 (h:Hk b→a:=by intro zz;refine aN (S1 (S1 (S1 (S1 (S1 (S1 (S1 (S1 (S1 (S1 (S1 (S1 (S1 (S1 SN)))))))))))))) (Hp.le.refl _) (fun _ _=>aB rfl (.there _ (.there _ (.there _ (.there _ (.there _ (.there _ (.there _ (.there _ (.there _ (.there _ (.there _ (.here _)))))))))))) rfl) rfl zz.1):a:=h ⟨k⟩
theorem A0 (h:Hk b→a:=by intro zz;refine aN (S0 (S1 (S1 SN))) (Hp.le.refl _) (fun _ _=>aB rfl (.here _) rfl) rfl zz.1):a:=h ⟨k⟩
theorem AZ (h:Hk b→a:=by intro zz;refine aK (bG (i:=((V.st.length:Nat):Int).toNat) (j:=8) rfl hW85.s (.skip _ (.skip _ (.skip _ (.past r.ob (.skip _ (.skip _ (.past _ (.app _)))))))) hatw12 rfl) rfl zz.1):a:=h ⟨k⟩
theorem AY (h:Hk b→a:=by intro zz;refine aK (bG rfl hOc (.skip _ (.skip _ (.skip _ (.skip _ (.skip _ (.past ob2 (.past _ .all))))))) hcC rfl) rfl zz.1):a:=h ⟨k⟩
theorem AX (h:Hk b→a:=by intro zz;refine aM (L':=(b46,_)::((b3,_)::(ob2++((b14,_)::((b30,_)::((b2,_)::(obS++(oc)))))))) (em [[(b14,_)],[(b46,_)],[(b3,_)],[(b30,_)],[(b2,_)],ob2,obS,oc] [1,2,5,0,3,4,6,7] rfl) zz.1):a:=h ⟨k⟩
theorem AW (h:Hk b→a:=by intro zz;refine aM (L':=(b46,_)::((b3,_)::(ob94++((b14,_)::((b30,_)::((b2,_)::(obS++(oc)))))))) (List.Perm.refl _) zz.1):a:=h ⟨k⟩
theorem AV (h:Hk b→a:=by intro zz;refine aM (L':=(b14,_)::((b46,_)::((b3,_)::((b30,_)::((b2,_)::(ob94++(obS++(oc)))))))) (em [[(b46,_)],[(b3,_)],ob94,[(b14,_)],[(b30,_)],[(b2,_)],obS,oc] [3,0,1,4,5,2,6,7] rfl) zz.1):a:=h ⟨k⟩
theorem AU (h:Hk b→a:=by intro zz;refine aM (L':=(b14,_)::((b46,_)::((b3,_)::((b30,_)::((b2,_)::(ob2++(obS))))))) (Cm [(b14,_),(b46,_),(b3,_),(b30,_),(b2,_)] (A:=ob2) (B:=obS)) zz.1):a:=h ⟨k⟩
theorem AT (h:Hk b→a:=by intro zz;refine bB rfl rfl rfl (.there _ (.there _ (.here _))) (by simp;omega) rfl zz.1):a:=h ⟨k⟩
theorem AS (h:Hk b→a:=by intro zz;refine bA rfl rfl (ae rfl ha rfl om om) rfl zz.1):a:=h ⟨k⟩
theorem AR (h:Hk b→a:=by intro zz;refine bA rfl rfl (ae rfl hb rfl om om) rfl zz.1):a:=h ⟨k⟩
theorem AQ (h:Hk b→a:=by intro zz;refine Fr (L':=(b8,pgX.cells)::(b7,pg.cells)::[]) (by rw [hXe]) zz.1):a:=h ⟨k⟩
theorem AP (h:Hk b→a:=by intro zz;refine CZ rfl rfl (ab rfl rfl rfl rfl) (oz hP61 hP63 ((hB61.trans hriX.symm).trans hB63.symm)) rfl zz.1):a:=h ⟨k⟩
theorem Dx (h:Hk b→a:=by intro zz;refine aT [true,true,true,true] [(0,1),(1,4),(2,1),(3,4),(4,1),(5,4),(6,1),(7,4),(8,1),(9,4),(10,1),(11,4),(12,1),(13,1),(14,1),(15,3),(16,1),(17,3),(18,5),(19,1),(20,0)] kr kr zz.1):a:=h ⟨k⟩
theorem Dw (h:Hk b→a:=by intro zz;refine bB rfl rfl rfl (.there _ (.there _ (.there _ (.there _ (.there _ (.there _ (.there _ (.there _ (.there _ (.here _)))))))))) rfl rfl zz.1):a:=h ⟨k⟩
theorem Dv (h:Hk b→a:=by intro zz;refine TL.run (aB rfl (.there _ (.there _ (.there _ (.there _ (.there _ (.there _ (.there _ (.there _ (.there _ (.here _)))))))))) rfl) rfl zz.1):a:=h ⟨k⟩
theorem Du (h:Hk b→a:=by intro zz;refine gt (.there _ (.there _ (.there _ (.there _ (.there _ (.there _ (.there _ (.there _ (.here _))))))))) zz.1):a:=h ⟨k⟩
theorem Dt (h:Hk b→a:=by intro zz;refine aN (S1 (S1 (S1 (S1 (S1 (S1 (S1 (S1 (S1 SN))))))))) (Hp.le.refl _) (fun _ _=>aB rfl (.there _ (.there _ (.there _ (.there _ (.there _ (.there _ (.there _ (.here _)))))))) rfl) rfl zz.1):a:=h ⟨k⟩
theorem Ds (h:Hk b→a:=by intro zz;refine aK (aB rfl (.there _ (.there _ (.there _ (.past ob40 (.here _))))) rfl) rfl zz.1):a:=h ⟨k⟩
theorem Dr (h:Hk b→a:=by intro zz;refine aT [true,true] [(0,1),(1,1),(2,1),(3,4),(4,1),(5,1),(6,1),(7,4),(8,1),(9,1),(10,4),(11,1),(12,1),(13,4),(14,3),(15,5)] kr kr zz.1):a:=h ⟨k⟩
theorem Dq (h:Hk b→a:=by intro zz;refine ay (ab rfl rfl rfl rfl) (kj p rr om om) rfl zz.1):a:=h ⟨k⟩
theorem Dp (h:Hk b→a:=by intro zz;refine aT [true,true,true,false,false] [(0,1),(1,1),(3,1),(4,1),(5,1),(6,1),(7,2),(2,5),(8,5),(9,5),(10,3),(11,1),(12,0)] kr kr zz.1):a:=h ⟨k⟩
theorem Do (h:Hk b→a:=by intro zz;refine aT [true,true,true,false,false] [(0,1),(1,1),(3,1),(4,1),(5,1),(6,1),(2,5),(7,2),(8,5),(9,5),(10,3),(11,1),(12,0)] kr kr zz.1):a:=h ⟨k⟩
theorem Dn (h:Hk b→a:=by intro zz;refine aK (aB rfl (.there _ (.there _ (.there _ (.there _ (.past r.ob (.here _)))))) rfl) rfl zz.1):a:=h ⟨k⟩
theorem w4 (h:Hk b→a:=by intro zz;refine aN (S1 (S1 SN)) (Hp.le.refl _) (fun _ _=>aB rfl (.here _) rfl) rfl zz.1):a:=h ⟨k⟩
theorem Dm (h:Hk b→a:=by intro zz;refine TL.run (aB rfl (.there _ (.there _ (.there _ (.here _)))) (il om)) rfl zz.1):a:=h ⟨k⟩
theorem Dl (h:Hk b→a:=by intro zz;refine cH rfl rfl rfl rfl rfl (.there _ (.there _ (.there _ (.here _)))) rfl rfl zz.1):a:=h ⟨k⟩
theorem Dk (h:Hk b→a:=by intro zz;refine aK (aB rfl (.there _ (.there _ (.there _ (.past ob147 (.here _))))) rfl) rfl zz.1):a:=h ⟨k⟩
theorem zm345 (h:Hk b→a:=by intro zz;refine TL.run (PR.to (bG rfl hO58 (.skip _ (.skip _ (.skip _ (.skip _ (.skip _ (.skip _ .all)))))) rfl rfl) (rfl:_=Value.slice (some ⟨b55,0,none⟩) 2 2)) rfl zz.1):a:=h ⟨k⟩
theorem zm346 (h:Hk b→a:=by intro zz;refine aT [true,true,true,true,true,false] [(0,1),(1,4),(2,1),(3,4),(4,1),(5,1),(6,4),(7,1),(8,4),(9,1),(10,1),(11,1),(12,4),(13,1),(14,1),(15,1),(17,1),(18,4),(19,1),(20,1),(16,5),(21,1),(22,3),(23,1),(24,3),(25,5),(26,1),(27,0)] kr kr zz.1):a:=h ⟨k⟩
theorem Dh (h:Hk b→a:=by intro zz;refine aN (S1 (S1 (S1 (S1 (S1 SN))))) (Hp.le.refl _) (fun _ _=>aB rfl (.there _ (.there _ (.there _ (.here _)))) rfl) rfl zz.1):a:=h ⟨k⟩
theorem zm348 (h:Hk b→a:=by intro zz;refine aT [true,true,true,true,true,true,true,true,true,true] [(0,1),(1,4),(2,1),(3,4),(4,1),(5,1),(6,4),(7,1),(8,4),(9,1),(10,1),(11,1),(12,4),(13,1),(14,1),(15,4),(16,1),(17,1),(18,1),(19,3),(20,1),(21,3),(22,5),(23,1),(24,0)] kr kr zz.1):a:=h ⟨k⟩
theorem Dg (h:Hk b→a:=by intro zz;refine aN (S1 (S1 (S1 (S1 (S1 (S1 (S1 (S1 (S1 (S1 SN)))))))))) (Hp.le.refl _) (fun _ _=>aB rfl (.there _ (.there _ (.there _ (.there _ (.there _ (.there _ (.there _ (.here _)))))))) rfl) rfl zz.1):a:=h ⟨k⟩
theorem zm350 (h:Hk b→a:=by intro zz;refine aT [true,true,true,true,true,true,true,true,true,true,true,true] [(0,1),(1,4),(2,1),(3,4),(4,1),(5,1),(6,4),(7,1),(8,4),(9,1),(10,1),(11,1),(12,4),(13,1),(14,1),(15,4),(16,1),(17,1),(18,1),(19,3),(20,1),(21,3),(22,5),(23,1),(24,0)] kr kr zz.1):a:=h ⟨k⟩
theorem Df (h:Hk b→a:=by intro zz;refine aN (S1 (S1 (S1 (S1 (S1 (S1 (S1 (S1 (S1 (S1 (S1 (S1 SN)))))))))))) (Hp.le.refl _) (fun _ _=>aB rfl (.there _ (.there _ (.there _ (.there _ (.there _ (.there _ (.there _ (.there _ (.there _ (.here _)))))))))) rfl) rfl zz.1):a:=h ⟨k⟩
theorem zm352 (h:Hk b→a:=by intro zz;refine bB rfl rfl rfl (.there _ (.there _ (.there _ (.there _ (.there _ (.there _ (.there _ (.there _ (.there _ (.there _ (.there _ (.here _)))))))))))) rfl rfl zz.1):a:=h ⟨k⟩
theorem zm353 (h:Hk b→a:=by intro zz;refine aN (S1 (S1 (S1 (S1 (S1 (S1 (S1 (S1 (S1 (S1 (S1 (S1 (S1 (S1 SN)))))))))))))) (Hp.le.refl _) (fun _ _=>aQ hrs rfl rfl rfl) rfl zz.1):a:=h ⟨k⟩
theorem zm354 (h:Hk b→a:=by intro zz;refine gt (.there _ (.there _ (.there _ (.there _ (.there _ (.there _ (.there _ (.there _ (.there _ (.there _ (.here _))))))))))) zz.1):a:=h ⟨k⟩
theorem zm355 (h:Hk b→a:=by intro zz;refine aT [true] [(0,1),(1,1),(2,1),(3,4),(4,1),(5,1),(6,1),(7,4),(8,1),(9,5),(10,1)] kr kr zz.1):a:=h ⟨k⟩
theorem zm357 (h:Hk b→a:=by intro zz;refine aT [true,true,true] [(0,1),(1,1),(2,1),(3,1),(4,1),(5,4),(6,4),(7,3),(8,5),(9,1),(10,1),(11,1),(12,0)] kr kr zz.1):a:=h ⟨k⟩
theorem zm358 (h:Hk b→a:=by intro zz;refine aT [false,false] [(0,1),(1,1),(3,1),(4,1),(5,1),(6,1),(7,2),(2,5),(8,5),(9,5),(10,5),(11,1)] kr kr zz.1):a:=h ⟨k⟩
theorem zm359 (h:Hk b→a:=by intro zz;refine aT [false,false] [(0,1),(1,1),(3,1),(4,1),(5,1),(6,1),(2,5),(7,2),(8,5),(9,5),(10,5),(11,1)] kr kr zz.1):a:=h ⟨k⟩
theorem zm360 (h:Hk b→a:=by intro zz;refine aT [true,true,true] [(0,1),(1,1),(2,1),(3,1),(4,2),(5,1),(6,1),(7,1),(8,1),(9,1),(10,2),(11,1),(12,1),(13,1),(14,2),(15,1),(16,1),(17,3),(18,5),(19,1),(20,1),(21,5)] kr kr zz.1):a:=h ⟨k⟩
theorem zm361 (h:Hk b→a:=by intro zz;refine aK (bG (i:=((V.st.length:Nat):Int).toNat) (j:=8) rfl hW59.s (.skip _ (.skip _ (.skip _ (.past ob40 (.skip _ (.skip _ (.past _ (.app _)))))))) hatw9 rfl) rfl zz.1):a:=h ⟨k⟩
theorem zm362 (h:Hk b→a:=by intro zz;refine aT [true,true,true] [(0,1),(1,1),(2,1),(3,1),(5,1),(6,1),(7,1),(8,1),(9,1),(10,2),(11,1),(12,1),(13,1),(14,2),(15,1),(16,1),(17,3),(18,5),(4,2),(19,1),(20,1),(21,5)] kr kr zz.1):a:=h ⟨k⟩
theorem zm363 (h:Hk b→a:=by intro zz;refine aT [true,true,true] [(0,1),(1,1),(2,1),(3,1),(4,2),(5,1),(6,1),(7,1),(8,1),(9,1),(10,2),(11,1),(12,1),(13,1),(14,2),(15,4),(16,3),(17,5),(18,1),(19,1),(20,5)] kr kr zz.1):a:=h ⟨k⟩
theorem zm364 (h:Hk b→a:=by intro zz;refine aT [true,true,true] [(0,1),(1,1),(2,1),(3,1),(5,1),(6,1),(7,1),(8,1),(9,1),(10,2),(11,1),(12,1),(13,1),(14,2),(15,4),(16,3),(17,5),(4,2),(18,1),(19,1),(20,5)] kr kr zz.1):a:=h ⟨k⟩
theorem zm365 (h:Hk b→a:=by intro zz;refine aK (bG (i:=((V.st.length:Nat):Int).toNat) (j:=8) rfl hW129.s (.skip _ (.skip _ (.skip _ (.skip _ (.past r.ob (.skip _ (.skip _ (.past _ (.app _))))))))) hatw19 rfl) rfl zz.1):a:=h ⟨k⟩
theorem zm366 (h:Hk b→a:=by intro zz;refine aM (L':=(b46,_)::((b3,_)::(ob1++((b14,_)::((b30,_)::((b2,_)::(obS))))))) (em [[(b14,_)],[(b46,_)],[(b3,_)],[(b30,_)],[(b2,_)],ob1,obS] [1,2,5,0,3,4,6] rfl) zz.1):a:=h ⟨k⟩
theorem zm367 (h:Hk b→a:=by intro zz;refine aM (L':=(b46,(dK q.terms s (m,o)).2.1.map (Value.int .i64))::((b3,_)::(ob71++((b14,_)::((b30,_)::((b2,_)::(obS))))))) (List.Perm.refl _) zz.1):a:=h ⟨k⟩
theorem zm368 (h:Hk b→a:=by intro zz;refine aM (L':=(b14,_)::((b46,_)::((b3,_)::((b30,_)::((b2,_)::(ob71++(obS))))))) (em [[(b46,_)],[(b3,_)],ob71,[(b14,_)],[(b30,_)],[(b2,_)],obS] [3,0,1,4,5,2,6] rfl) zz.1):a:=h ⟨k⟩
theorem zm369 (h:Hk b→a:=by intro zz;refine sZ (L':=(b14,_)::((b46,_)::((b3,_)::((b30,_)::((b2,_)::(ob71++(obS++(ob76)))))))) (em [[(b14,_)],[(b46,_)],[(b3,_)],[(b30,_)],[(b2,_)],ob71,obS,ob76] [0,1,2,3,4,5,6,7] rfl) zz.1):a:=h ⟨k⟩
theorem zm370 (h:Hk b→a:=by intro zz;refine TD.leaf [(0,1),(1,2),(2,1),(3,1),(4,1),(5,2),(6,1),(7,1),(8,1),(9,2),(10,0),(11,1),(12,1),(13,0)] kr kr zz.1):a:=h ⟨k⟩
theorem zm371 (h:Hk b→a:=by intro zz;refine TD.leaf [(0,1),(2,1),(3,1),(4,1),(5,2),(6,1),(7,1),(8,1),(9,2),(10,0),(1,2),(11,1),(12,1),(13,0)] kr kr zz.1):a:=h ⟨k⟩
theorem zm372 (h:Hk b→a:=by intro zz;refine aM (Ae [(b14,_),(b46,_),(b3,_),(b30,_),(b2,_)] (A:=ob2) (B:=obS) (D:=oc) (C:=ob101)) zz.1):a:=h ⟨k⟩
theorem zm373 (h:Hk b→a:=by intro zz;refine sZ (L':=(b14,_)::((b46,_)::((b3,_)::((b30,_)::((b2,_)::(ob2++(obS++(oc++(ob101))))))))) (em [[(b14,_)],[(b46,_)],[(b3,_)],[(b30,_)],[(b2,_)],ob2,obS,oc,ob101] [0,1,2,3,4,5,6,7,8] rfl) zz.1):a:=h ⟨k⟩
theorem zm374 (h:Hk b→a:=by intro zz;refine TD.leaf [(0,1),(1,2),(2,1),(3,1),(4,1),(5,2),(6,1),(7,1),(8,1),(9,2),(10,1),(11,2),(12,1),(13,1),(14,0)] kr kr zz.1):a:=h ⟨k⟩
theorem zm375 (h:Hk b→a:=by intro zz;refine aK (bG rfl hOw (.skip _ (.skip _ (.skip _ (.skip _ (.skip _ (.past ob2 (.past _ (.past _ .all)))))))) hwW rfl) rfl zz.1):a:=h ⟨k⟩
theorem zm376 (h:Hk b→a:=by intro zz;refine aK (bG (i:=i.toNat) (j:=8) (by rw [eM];rfl) hOM (.skip _ (.skip _ (.skip _ (.app _)))) hsM rfl) rfl zz.1):a:=h ⟨k⟩
theorem zm377 (h:Hk b→a:=by intro zz;refine TD.leaf [(0,1),(1,1),(2,1),(3,2),(4,1),(5,1),(6,1),(7,1),(8,1),(9,1),(10,1),(11,2),(12,1),(13,1),(14,1),(15,2),(16,1),(17,1),(18,1),(19,0)] kr kr zz.1):a:=h ⟨k⟩
theorem zm378 (h:Hk b→a:=by intro zz;refine aC rfl rfl (bG (i:=j.toNat) (j:=2) rfl hOw (.skip _ (.skip _ (.skip _ (.past _ .all)))) hwW rfl) rfl zz.1):a:=h ⟨k⟩
theorem zm379 (h:Hk b→a:=by intro zz;refine TL.run (bG (i:=i.toNat) (j:=8) (by rw [eM];rfl) hOM (.skip _ (.skip _ (.skip _ (.app _)))) hsM rfl) rfl zz.1):a:=h ⟨k⟩
theorem zm380 (h:Hk b→a:=by intro zz;refine aK (bG (i:=i.toNat) (j:=8) (by rw [eM,eN];rfl) hOM (.skip _ (.skip _ (.skip _ (.app _)))) hsM rfl) rfl zz.1):a:=h ⟨k⟩
theorem zm381 (h:Hk b→a:=by intro zz;refine TL.run (bG (i:=i.toNat) (j:=8) (by rw [eM,eN];rfl) hOM (.skip _ (.skip _ (.skip _ (.app _)))) hsM rfl) rfl zz.1):a:=h ⟨k⟩
theorem zm382 (h:Hk b→a:=by intro zz;refine aK (bG (i:=((V.st.length:Nat):Int).toNat) (j:=8) rfl hW154.s (.skip _ (.skip _ (.skip _ (.past ob147 (.skip _ (.skip _ (.past _ (.app _)))))))) hatw18 rfl) rfl zz.1):a:=h ⟨k⟩
theorem zm384 (h:Hk b→a:=by intro zz;refine ay (ab rfl rfl rfl rfl) (wm ⟨[],[⟨1,[120],[⟨[120],ck,cn,0⟩],(some ⟨b5,0,none⟩,1)⟩],(some ⟨b7,0,none⟩,1)⟩ ⟨hT7,by intro t ht;simp at ht;subst ht;exact⟨hA5,by intro a ha;simp at ha;subst ha;exact hn⟩⟩ hM) rfl zz.1):a:=h ⟨k⟩
theorem zm385 (h:Hk b→a:=by intro zz;refine TD.leaf [(0,1),(1,2),(2,1),(3,1),(4,2),(5,1),(6,1),(7,1),(8,2),(9,1),(10,1),(11,1),(12,2),(13,1),(14,2),(15,1),(16,1),(17,2),(18,1),(19,0),(20,1),(21,0)] kr kr zz.1):a:=h ⟨k⟩
theorem zm386 (h:Hk b→a:=by intro zz;refine TD.leaf [(0,1),(1,2),(2,1),(3,1),(5,1),(6,1),(7,1),(8,2),(9,1),(10,1),(11,1),(12,2),(13,1),(14,2),(15,1),(16,1),(17,2),(18,1),(19,0),(4,2),(20,1),(21,0)] kr kr zz.1):a:=h ⟨k⟩
theorem zm387 (h:Hk b→a:=by intro zz;refine aT [true,true,true,true,true,false] [(0,1),(1,4),(2,1),(3,4),(4,1),(5,1),(6,1),(7,4),(8,1),(9,4),(10,1),(11,4),(12,1),(13,5),(14,1),(15,3),(16,1),(17,3),(18,5),(19,1),(20,0)] kr kr zz.1):a:=h ⟨k⟩
theorem zm388 (h:Hk b→a:=by intro zz;refine aT [true,true,true,true,true,true,true,false] [(0,1),(1,4),(2,1),(3,4),(4,1),(5,1),(6,1),(7,4),(8,1),(9,4),(10,1),(11,4),(12,1),(13,5),(14,1),(15,3),(16,1),(17,3),(18,5),(19,1),(20,0)] kr kr zz.1):a:=h ⟨k⟩
theorem zm389 (h:Hk b→a:=by intro zz;refine aT [true,true,true,true,true,true,true,true] [(0,1),(1,4),(2,1),(3,4),(4,1),(5,1),(6,4),(7,1),(8,4),(9,1),(10,1),(11,1),(12,4),(13,1),(14,1),(15,4),(16,1),(17,1),(18,1),(19,3),(20,1),(21,3),(22,5),(23,1),(24,0)] kr kr zz.1):a:=h ⟨k⟩
theorem zm390 (h:Hk b→a:=by intro zz;refine aT [true,true,true,true,true,true,true,false] [(0,1),(1,4),(2,1),(3,4),(4,1),(5,1),(6,4),(7,1),(8,4),(9,1),(10,1),(11,1),(12,4),(13,1),(14,1),(15,1),(17,1),(18,4),(19,1),(20,1),(16,5),(21,1),(22,3),(23,1),(24,3),(25,5),(26,1),(27,0)] kr kr zz.1):a:=h ⟨k⟩
theorem zm391 (h:Hk b→a:=by intro zz;refine aT [true,true,true,true,true,true,true,true,true,false] [(0,1),(1,4),(2,1),(3,4),(4,1),(5,1),(6,1),(7,4),(8,1),(9,4),(10,1),(11,4),(12,1),(13,5),(14,1),(15,3),(16,1),(17,3),(18,5),(19,1),(20,0)] kr kr zz.1):a:=h ⟨k⟩
theorem zm392 (h:Hk b→a:=by intro zz;refine TL.run (PR.to (bG rfl hO112 (.skip _ (.skip _ (.skip _ (.skip _ (.skip _ (.skip _ (.skip _ (.skip _ (.skip _ (.skip _ (.skip _ (.skip _ .all)))))))))))) rfl rfl) (rfl:_=Value.slice (some ⟨b55,0,none⟩) 2 2)) rfl zz.1):a:=h ⟨k⟩
theorem zm393 (h:Hk b→a:=by intro zz;refine aT [true,true,true,true,true,true,true,true,true,true,true,true,true,true] [(0,1),(1,4),(2,1),(3,4),(4,1),(5,1),(6,4),(7,1),(8,4),(9,1),(10,1),(11,1),(12,4),(13,1),(14,1),(15,4),(16,1),(17,1),(18,1),(19,3),(20,1),(21,3),(22,5),(23,1),(24,0)] kr kr zz.1):a:=h ⟨k⟩
theorem zm394 (h:Hk b→a:=by intro zz;refine cH rfl rfl rfl rfl rfl (.there _ (.there _ (.there _ (.there _ (.there _ (.there _ (.there _ (.there _ (.there _ (.there _ (.there _ (.there _ (.there _ (.there _ (.there _ (.here _)))))))))))))))) rfl rfl zz.1):a:=h ⟨k⟩
theorem zm395 (h:Hk b→a:=by intro zz;refine aT [true,true,false] [(0,1),(1,4),(2,1),(3,4),(4,1),(5,1),(6,4),(7,1),(8,4),(9,1),(10,1),(11,4),(12,1),(13,1),(14,1),(15,1),(16,5),(17,1),(18,3),(19,5),(20,1),(21,0)] kr kr zz.1):a:=h ⟨k⟩
theorem zm396 (h:Hk b→a:=by intro zz;refine TL.run (PR.to (fw rfl rfl (by simp only [List.length_append,List.length_cons,List.length_nil];omega) (by have:=hW.me;simp only [List.length_append,List.length_cons,List.length_nil];omega)) (congrArg (Value.int .i64) (show _=(V.tm.length:Int) by simp only [List.length_append,List.length_cons,List.length_nil];omega))) rfl zz.1):a:=h ⟨k⟩
theorem zm397 (h:Hk b→a:=by intro zz;refine TL.run (PR.to (fw rfl rfl (by simp only [List.length_append,List.length_cons,List.length_nil];omega) (by simp only [List.length_append,List.length_cons,List.length_nil];omega)) (congrArg (Value.int .i64) (by simp only [List.length_append,List.length_cons,List.length_nil];omega))) rfl zz.1):a:=h ⟨k⟩
theorem zm398 (h:Hk b→a:=by intro zz;refine aT [false,true,true] [(0,1),(1,1),(2,1),(3,4),(4,1),(5,1),(6,4),(7,1),(8,1),(9,1),(10,4),(11,1),(12,1),(13,1),(14,4),(15,1),(16,1),(17,4),(18,5),(19,1)] kr kr zz.1):a:=h ⟨k⟩
theorem zm399 (h:Hk b→a:=by intro zz;refine aT [true,true,true] [(0,1),(1,1),(2,1),(3,1),(4,4),(5,1),(6,1),(7,1),(8,1),(9,1),(10,4),(11,1),(12,1),(13,1),(14,2),(15,1),(16,1),(17,1),(18,1),(19,4),(20,1),(21,1),(22,3),(23,5),(24,1),(25,1),(26,5)] kr kr zz.1):a:=h ⟨k⟩
theorem zm400 (h:Hk b→a:=by intro zz;refine dE (L':=[(b39,_),(b2,_)]++(ob40++Fx.X F ({V16 with st:=(V16).st.set ((V.st.length:Nat):Int).toNat ⟨3,[],[],[],[],(V11.tm.length:Int),none,0,0,none,0,0,a40,([⟨[],[],((V16.st.length:Nat):Int)⟩]:List SWay).length,c40, -1⟩,oS:=obSw3}))) (by unfold Fx.X Fx.cx;dsimp only;rw [List.length_set];exact .refl _) zz.1):a:=h ⟨k⟩
theorem zm401 (h:Hk b→a:=by intro zz;refine aT [true,true] [(0,1),(1,4),(2,1),(3,4),(4,1),(5,1),(6,4),(7,4),(8,1),(9,4),(10,1),(11,1),(12,4),(14,1),(15,1),(16,1),(17,1),(18,2),(13,3),(19,5),(20,5),(21,3),(22,1),(23,3),(24,5),(25,1),(26,0)] kr kr zz.1):a:=h ⟨k⟩
theorem zm402 (h:Hk b→a:=by intro zz;refine aT [true,true,true,true] [(0,1),(1,1),(2,1),(3,1),(4,2),(5,1),(6,1),(7,1),(8,1),(9,1),(10,2),(11,1),(12,1),(13,1),(14,2),(15,4),(16,3),(17,5),(18,1),(19,1),(20,5)] kr kr zz.1):a:=h ⟨k⟩
theorem zm403 (h:Hk b→a:=by intro zz;refine aT [true,true,true,true] [(0,1),(1,1),(2,1),(3,1),(5,1),(6,1),(7,1),(8,1),(9,1),(10,2),(11,1),(12,1),(13,1),(14,2),(15,4),(16,3),(17,5),(4,2),(18,1),(19,1),(20,5)] kr kr zz.1):a:=h ⟨k⟩
theorem zm404 (h:Hk b→a:=by intro zz;refine aT [true,true,false,false] [(0,1),(1,1),(2,1),(3,2),(4,1),(5,4),(6,1),(8,1),(9,1),(10,1),(11,2),(12,1),(13,4),(14,1),(7,5),(15,5),(16,1),(17,1)] kr kr zz.1):a:=h ⟨k⟩
theorem zm405 (h:Hk b→a:=by intro zz;refine aT [true,true,false,false] [(0,1),(1,1),(2,1),(3,2),(4,1),(5,4),(6,1),(8,1),(9,1),(10,1),(12,1),(13,4),(14,1),(7,5),(11,2),(15,5),(16,1),(17,1)] kr kr zz.1):a:=h ⟨k⟩
theorem zm406 (h:Hk b→a:=by intro zz;refine aT [true,true,false] [(0,1),(1,4),(2,1),(3,1),(4,4),(5,1),(6,4),(7,1),(8,1),(9,4),(10,1),(11,1),(12,1),(13,1),(14,1),(15,1),(16,4),(17,5),(18,3),(19,5),(20,1),(21,0)] kr kr zz.1):a:=h ⟨k⟩
theorem zm407 (h:Hk b→a:=by intro zz;refine kX rfl rfl (ab rfl rfl rfl rfl) (pR (hA.ls x (List.mem_of_getElem? hx)).t (hB.ls y (List.mem_of_getElem? hy)).t (hA.ls x (List.mem_of_getElem? hx)).ts (hB.ls y (List.mem_of_getElem? hy)).ts hg.2) rfl zz.1):a:=h ⟨k⟩
theorem zm408 (h:Hk b→a:=by intro zz;refine TL.run (PR.to (fw rfl rfl (by simp only [List.length_append,List.length_cons,List.length_nil];omega) (by simp only [List.length_append,List.length_cons,List.length_nil];omega)) (congrArg (Value.int .i64) (show _=(rows.length:Int) from by simp only [List.length_append,List.length_cons,List.length_nil];omega))) rfl zz.1):a:=h ⟨k⟩
theorem zm409 (h:Hk b→a:=by intro zz;refine dE (L':=[(b77,_),(b4,_),(b39,_),(b2,_)]++(ob78++Fx.X F ({V59 with st:=(V59).st.set ((V.st.length:Nat):Int).toNat ⟨3,[],[],[],[],(V11.tm.length:Int),none,0,0,none,0,0,a78,([⟨[],[],((V16.st.length:Nat):Int)⟩,⟨[],[],((V57.st.length:Nat):Int)⟩]:List SWay).length,c78, -1⟩,oS:=obSw9}))) (by unfold Fx.X Fx.cx;dsimp only;rw [List.length_set];exact .refl _) zz.1):a:=h ⟨k⟩
theorem zm410 (h:Hk b→a:=by intro zz;refine dE (L':=[(b102,_),(b10,_),(b7,_),(b6,_)]++(ob103++Fx.X F ({V85 with st:=(V85).st.set ((V.st.length:Nat):Int).toNat ⟨5,[99],t.peer,[],[], -1,none,0,0,none,0,0,a103,(r.ws++[((⟨x.label,[],((V1.st.length:Nat):Int)⟩:SWay):SWay)]:List SWay).length,c103, -1⟩,oS:=obSw12}))) (by unfold Fx.X Fx.cx;dsimp only;rw [List.length_set];exact .refl _) zz.1):a:=h ⟨k⟩
theorem zm411 (h:Hk b→a:=by intro zz;refine dE (L':=[(b102,_),(b10,_),(b7,_),(b6,_)]++(ob103++Fx.X F ({V85 with st:=(V85).st.set ((V.st.length:Nat):Int).toNat ⟨5,[99],t.peer,[],[], -1,none,0,0,none,0,0,a103,(r.ws++[((⟨x.label,vnm (V1.names+1),((V1.st.length:Nat):Int)⟩:SWay):SWay)]:List SWay).length,c103, -1⟩,oS:=obSw12}))) (by unfold Fx.X Fx.cx;dsimp only;rw [List.length_set];exact .refl _) zz.1):a:=h ⟨k⟩
theorem zm412 (h:Hk b→a:=by intro zz;refine dE (L':=[(b146,_),(b12,_),(b11,_),(b7,_),(b6,_)]++(ob147++Fx.X F ({V129 with st:=(V129).st.set ((V.st.length:Nat):Int).toNat ⟨5,[99],t.peer,[],[], -1,none,0,0,none,0,0,a147,(r.ws++[((⟨[],[],((V1.st.length:Nat):Int)⟩:SWay):SWay)]:List SWay).length,c147, -1⟩,oS:=obSw19}))) (by unfold Fx.X Fx.cx;dsimp only;rw [List.length_set];exact .refl _) zz.1):a:=h ⟨k⟩
theorem zm413 (h:Hk b→a:=by intro zz;refine dE (L':=[(b172,_),(b146,_),(b7,_),(b6,_)]++(ob173++Fx.X F ({V154 with st:=(V154).st.set ((V.st.length:Nat):Int).toNat ⟨3,[],[],[],[],(V102.tm.length:Int),none,0,0,none,0,0,a173,([(⟨[],[],((V107.st.length:Nat):Int)⟩:SWay),(⟨[],[],((V128.st.length:Nat):Int)⟩:SWay)]:List SWay).length,c173, -1⟩,oS:=obSw18}))) (by unfold Fx.X Fx.cx;dsimp only;rw [List.length_set];exact .refl _) zz.1):a:=h ⟨k⟩
theorem zm414 (h:Hk b→a:=by intro zz;refine dE (L':=[(b146,_),(b7,_),(b6,_)]++(ob147++Fx.X F ({V128 with st:=(V128).st.set ((V.st.length:Nat):Int).toNat ⟨3,[],[],[],[],(V102.tm.length:Int),none,0,0,none,0,0,a147,([(⟨[],[],((V107.st.length:Nat):Int)⟩:SWay)]:List SWay).length,c147, -1⟩,oS:=obSw16}))) (by unfold Fx.X Fx.cx;dsimp only;rw [List.length_set];exact .refl _) zz.1):a:=h ⟨k⟩
theorem zm415 (h:Hk b→a:=by intro zz;refine aT [true,true,true,true] [(0,1),(1,1),(2,1),(3,1),(4,4),(5,1),(6,1),(7,1),(8,1),(9,1),(10,4),(11,1),(12,1),(13,1),(14,2),(15,1),(16,1),(17,3),(18,5),(19,1),(20,1),(21,5)] kr kr zz.1):a:=h ⟨k⟩
theorem zm416 (h:Hk b→a:=by intro zz;refine dE (L':=(b136,_)::((b14,_)::((b46,_)::((b3,_)::((b30,_)::((b2,_)::(ob2++(ob137)))))))) (em [[(b136,_)],[(b14,_)],[(b46,_)],[(b3,_)],[(b30,_)],[(b2,_)],ob2,ob137] [0,1,2,3,4,5,6,7] rfl) zz.1):a:=h ⟨k⟩
theorem zm2 (h:Hk b→a:=by intro zz;refine TC.seq (TC.region zz.1)):a:=h ⟨k⟩
theorem zm3 (h:Hk b→a:=by intro zz;refine zm0 ?_;refine zm0 zz.1):a:=h ⟨k⟩
theorem zm9 (h:Hk b→a:=by intro zz;refine it ?_;refine aC rfl rfl (aB rfl (.here _) rfl) rfl zz.1):a:=h ⟨k⟩
theorem cV (h:Hk b→a:=by intro zz;refine TC.skip (af zz.1)):a:=h ⟨k⟩
theorem dN (h:Hk b→a:=by intro zz;refine zm0 ?_;refine TL.nil zz.1):a:=h ⟨k⟩
theorem fc (h:Hk b→a:=by intro zz;refine cK ?_;refine cK zz.1):a:=h ⟨k⟩
theorem fu (h:Hk b→a:=by intro zz;refine zm4 ?_;refine bf zz.1):a:=h ⟨k⟩
theorem fM (h:Hk b→a:=by intro zz;refine it ?_;refine aC rfl rfl (aB rfl (.there _ (.here _)) rfl) rfl zz.1):a:=h ⟨k⟩
theorem fV (h:Hk b→a:=by intro zz;refine zm6 ?_;refine lD zz.1):a:=h ⟨k⟩
theorem iX (h:Hk b→a:=by intro zz;refine TC.region (zm0 zz.1)):a:=h ⟨k⟩
theorem iN (h:Hk b→a:=by intro zz;refine zm6 ?_;refine TL.run (aB rfl (.there _ (.here _)) rfl) rfl zz.1):a:=h ⟨k⟩
theorem lG (h:Hk b→a:=by intro zz;refine TL.run (bH rfl) rfl (zm6 zz.1)):a:=h ⟨k⟩
theorem gg (h:Hk b→a:=by intro zz;refine zm5 ?_;refine zm5 zz.1):a:=h ⟨k⟩
theorem jm (h:Hk b→a:=by intro zz;refine dh ?_;refine dh zz.1):a:=h ⟨k⟩
theorem lZ (h:Hk b→a:=by intro zz;refine zm5 ?_;refine zm4 zz.1):a:=h ⟨k⟩
theorem nA (h:Hk b→a:=by intro zz;refine TC.seq (eH zz.1)):a:=h ⟨k⟩
theorem qn (h:Hk b→a:=by intro zz;refine zm4 ?_;refine aK (aB rfl (.there _ (.here _)) rfl) rfl zz.1):a:=h ⟨k⟩
theorem iZ (h:Hk b→a:=by intro zz;refine TQ.run (aJ rfl) rfl (TQ.run (aJ rfl) rfl zz.1)):a:=h ⟨k⟩
theorem mm (h:Hk b→a:=by intro zz;refine zm4 ?_;refine Dh zz.1):a:=h ⟨k⟩
theorem mh (h:Hk b→a:=by intro zz;refine zm5 ?_;refine l8 zz.1):a:=h ⟨k⟩
theorem mf (h:Hk b→a:=by intro zz;refine bA rfl rfl (aJ rfl) rfl (bA rfl rfl (aJ rfl) rfl zz.1)):a:=h ⟨k⟩
theorem md (h:Hk b→a:=by intro zz;refine zm6 ?_;refine qA zz.1):a:=h ⟨k⟩
theorem oZ (h:Hk b→a:=by intro zz;refine zm4 ?_;refine w4 zz.1):a:=h ⟨k⟩
theorem oO (h:Hk b→a:=by intro zz;refine bj (aq (n7 (off:=0) rfl kr rfl) rfl zz.1)):a:=h ⟨k⟩
theorem ma (h:Hk b→a:=by intro zz;refine TL.run (bW rfl rfl rfl) rfl (zm0 zz.1)):a:=h ⟨k⟩
theorem oJ (h:Hk b→a:=by intro zz;refine TC.seq (zF kr kr zz.1)):a:=h ⟨k⟩
theorem qM (h:Hk b→a:=by intro zz;refine zm5 ?_;refine aw rfl zz.1):a:=h ⟨k⟩
theorem uw (h:Hk b→a:=by intro zz;refine zm0 ?_;refine jX zz.1):a:=h ⟨k⟩
theorem uu (h:Hk b→a:=by intro zz;refine TQ.run (aJ rfl) rfl (TQ.run (bH rfl) rfl zz.1)):a:=h ⟨k⟩
theorem uq (h:Hk b→a:=by intro zz;refine zm5 ?_;refine dZ zz.1):a:=h ⟨k⟩
theorem uj (h:Hk b→a:=by intro zz;refine zm4 ?_;refine aN (S1 (S1 (S1 (S1 (S1 (S1 (S1 SN))))))) (Hp.le.refl _) (fun _ _=>aB rfl (.there _ (.there _ (.there _ (.there _ (.there _ (.here _)))))) rfl) rfl zz.1):a:=h ⟨k⟩
theorem ui (h:Hk b→a:=by intro zz;refine zm4 ?_;refine Dg zz.1):a:=h ⟨k⟩
theorem uh (h:Hk b→a:=by intro zz;refine aq (fz rfl rfl sq sq) rfl (dZ zz.1)):a:=h ⟨k⟩
theorem ug (h:Hk b→a:=by intro zz;refine zm4 ?_;refine Df zz.1):a:=h ⟨k⟩
theorem qB (h:Hk b→a:=by intro zz;refine zm4 ?_;refine lj zz.1):a:=h ⟨k⟩
theorem t8 (h:Hk b→a:=by intro zz;refine zm4 ?_;refine aN (S1 (S1 SN)) (Hp.le.refl _) (fun _ _=>aB rfl (.there _ (.here _)) rfl) rfl zz.1):a:=h ⟨k⟩
theorem tR (h:Hk b→a:=by intro zz;refine aK (a7 rfl (.here _) rfl) rfl (bf zz.1)):a:=h ⟨k⟩
theorem yc (h:Hk b→a:=by intro zz;refine lD ?_;refine zm0 zz.1):a:=h ⟨k⟩
theorem xX (h:Hk b→a:=by intro zz;refine zm6 ?_;refine jY zz.1):a:=h ⟨k⟩
theorem xI (h:Hk b→a:=by intro zz;refine jp ?_;refine bA rfl rfl (aB rfl (.here _) rfl) rfl zz.1):a:=h ⟨k⟩
theorem xE (h:Hk b→a:=by intro zz;refine gY ?_;refine TL.nil zz.1):a:=h ⟨k⟩
theorem xk (h:Hk b→a:=by intro zz;refine zm6 ?_;refine bB rfl rfl rfl (.there _ (.there _ (.here _))) rfl rfl zz.1):a:=h ⟨k⟩
theorem xe (h:Hk b→a:=by intro zz;refine cK ?_;refine aC rfl rfl (bH rfl) rfl zz.1):a:=h ⟨k⟩
theorem xd (h:Hk b→a:=by intro zz;refine TL.run (bI rfl hmv) rfl (zm0 zz.1)):a:=h ⟨k⟩
theorem qy (h:Hk b→a:=by intro zz;refine zm6 ?_;refine li zz.1):a:=h ⟨k⟩
theorem AO (h:Hk b→a:=by intro zz;refine zm4 ?_;refine aN (S1 (S1 (S1 (S1 SN)))) (Hp.le.refl _) (fun _ _=>aB rfl (.there _ (.here _)) rfl) rfl zz.1):a:=h ⟨k⟩
theorem AM (h:Hk b→a:=by intro zz;refine fp ?_;refine zm6 zz.1):a:=h ⟨k⟩
theorem Dj (h:Hk b→a:=by intro zz;refine fp ?_;refine bB rfl rfl rfl (.there _ (.here _)) (by simp;omega) rfl zz.1):a:=h ⟨k⟩
theorem zm1 (h:Hk b→a:=by intro zz;refine zm0 ?_;refine TL.nil (af zz.1)):a:=h ⟨k⟩
theorem db (h:Hk b→a:=by intro zz;refine cK ?_;refine zm3 zz.1):a:=h ⟨k⟩
theorem dM (h:Hk b→a:=by intro zz;refine zm2 ?_;refine zm0 zz.1):a:=h ⟨k⟩
theorem fb (h:Hk b→a:=by intro zz;refine gY ?_;refine TL.nil (af zz.1)):a:=h ⟨k⟩
theorem gu (h:Hk b→a:=by intro zz;refine zm2 ?_;refine fo zz.1):a:=h ⟨k⟩
theorem gH (h:Hk b→a:=by intro zz;refine cK ?_;refine dN zz.1):a:=h ⟨k⟩
theorem jo (h:Hk b→a:=by intro zz;refine cV ?_;refine TC.seq zz.1):a:=h ⟨k⟩
theorem k7 (h:Hk b→a:=by intro zz;refine bj (TF.nil (af zz.1))):a:=h ⟨k⟩
theorem gW (h:Hk b→a:=by intro zz;refine zm2 ?_;refine zm6 zz.1):a:=h ⟨k⟩
theorem jV (h:Hk b→a:=by intro zz;refine zm5 ?_;refine aq (bH rfl) rfl (zm4 zz.1)):a:=h ⟨k⟩
theorem jn (h:Hk b→a:=by intro zz;refine jm ?_;refine dh zz.1):a:=h ⟨k⟩
theorem lE (h:Hk b→a:=by intro zz;refine TQ.run (aJ rfl) rfl (TQ.nil (af zz.1))):a:=h ⟨k⟩
theorem lX (h:Hk b→a:=by intro zz;refine qB ?_;refine zm5 zz.1):a:=h ⟨k⟩
theorem nB (h:Hk b→a:=by intro zz;refine zm3 ?_;refine TL.nil zz.1):a:=h ⟨k⟩
theorem nv (h:Hk b→a:=by intro zz;refine jX ?_;refine dN zz.1):a:=h ⟨k⟩
theorem ql (h:Hk b→a:=by intro zz;refine TC.region (fV zz.1)):a:=h ⟨k⟩
theorem mp (h:Hk b→a:=by intro zz;refine zm2 ?_;refine TL.run (a7 rfl (.there _ (.here _)) rfl) rfl zz.1):a:=h ⟨k⟩
theorem jZ (h:Hk b→a:=by intro zz;refine TC.region (zm3 zz.1)):a:=h ⟨k⟩
theorem mg (h:Hk b→a:=by intro zz;refine zm5 ?_;refine aq (fz rfl rfl om om) rfl (l8 zz.1)):a:=h ⟨k⟩
theorem o6 (h:Hk b→a:=by intro zz;refine qy ?_;refine TL.nil zz.1):a:=h ⟨k⟩
theorem o4 (h:Hk b→a:=by intro zz;refine gE ?_;refine TQ.run (aB rfl (.here _) rfl) rfl (TQ.run (aJ rfl) rfl zz.1)):a:=h ⟨k⟩
theorem oV (h:Hk b→a:=by intro zz;refine iZ ?_;refine TQ.run (ae rfl hb rfl om om) rfl zz.1):a:=h ⟨k⟩
theorem lh (h:Hk b→a:=by intro zz;refine zm2 ?_;refine dw zz.1):a:=h ⟨k⟩
theorem qO (h:Hk b→a:=by intro zz;refine TL.run (bH rfl) rfl (fV zz.1)):a:=h ⟨k⟩
theorem qF (h:Hk b→a:=by intro zz;refine TC.region (iN zz.1)):a:=h ⟨k⟩
theorem oI (h:Hk b→a:=by intro zz;refine TL.run (fz rfl rfl om om) rfl (dN zz.1)):a:=h ⟨k⟩
theorem uy (h:Hk b→a:=by intro zz;refine jm ?_;refine zm0 zz.1):a:=h ⟨k⟩
theorem ut (h:Hk b→a:=by intro zz;refine gg ?_;refine zm5 zz.1):a:=h ⟨k⟩
theorem un (h:Hk b→a:=by intro zz;refine zm0 ?_;refine AM zz.1):a:=h ⟨k⟩
theorem ue (h:Hk b→a:=by intro zz;refine TL.run (bH rfl) rfl (iN zz.1)):a:=h ⟨k⟩
theorem ud (h:Hk b→a:=by intro zz;refine aw rfl (gY ?_);refine az (S0 (S1 (S1 SN))) (Hp.le.refl _) zz.1):a:=h ⟨k⟩
theorem tP (h:Hk b→a:=by intro zz;refine zm9 ?_;refine nz zz.1):a:=h ⟨k⟩
theorem xu (h:Hk b→a:=by intro zz;refine TL.run (ae rfl hxa rfl om om) rfl (zm6 ?_);refine TL.run (br hxa ha rfl rfl) rfl zz.1):a:=h ⟨k⟩
theorem xm (h:Hk b→a:=by intro zz;refine zm3 ?_;refine zm0 zz.1):a:=h ⟨k⟩
theorem Bd (h:Hk b→a:=by intro zz;refine fu ?_;refine bB rfl rfl rfl (.there _ (.there _ (.here _))) rfl rfl zz.1):a:=h ⟨k⟩
theorem xg (h:Hk b→a:=by intro zz;refine zm4 ?_;refine aw rfl (li zz.1)):a:=h ⟨k⟩
theorem AJ (h:Hk b→a:=by intro zz;refine gE ?_;refine TQ.run (aB rfl (.there _ (.here _)) rfl) rfl (TQ.run (aJ rfl) rfl zz.1)):a:=h ⟨k⟩
theorem zm8 (h:Hk b→a:=by intro zz;refine zm1 ?_;refine TC.block zz.1):a:=h ⟨k⟩
theorem ei (h:Hk b→a:=by intro zz;refine zm1 ?_;refine TC.ret zz.1):a:=h ⟨k⟩
theorem eh (h:Hk b→a:=by intro zz;refine zm2 ?_;refine zm3 zz.1):a:=h ⟨k⟩
theorem eg (h:Hk b→a:=by intro zz;refine jm ?_;refine jm zz.1):a:=h ⟨k⟩
theorem gi (h:Hk b→a:=by intro zz;refine cK ?_;refine zm1 zz.1):a:=h ⟨k⟩
theorem fL (h:Hk b→a:=by intro zz;refine gW ?_;refine lD zz.1):a:=h ⟨k⟩
theorem gF (h:Hk b→a:=by intro zz;refine TL.nil (af (zm2 zz.1))):a:=h ⟨k⟩
theorem gX (h:Hk b→a:=by intro zz;refine gW ?_;refine TL.run (aB rfl (.there _ (.here _)) rfl) rfl zz.1):a:=h ⟨k⟩
theorem jq (h:Hk b→a:=by intro zz;refine fb ?_;refine TC.ret zz.1):a:=h ⟨k⟩
theorem iW (h:Hk b→a:=by intro zz;refine zm1 ?_;refine TC.seq zz.1):a:=h ⟨k⟩
theorem lY (h:Hk b→a:=by intro zz;refine jV ?_;refine zm4 zz.1):a:=h ⟨k⟩
theorem lW (h:Hk b→a:=by intro zz;refine zm0 ?_;refine zm1 zz.1):a:=h ⟨k⟩
theorem pP (h:Hk b→a:=by intro zz;refine zm1 ?_;refine fU rfl zz.1):a:=h ⟨k⟩
theorem pO (h:Hk b→a:=by intro zz;refine jZ ?_;refine zm0 zz.1):a:=h ⟨k⟩
theorem qt (h:Hk b→a:=by intro zz;refine fb ?_;refine TC.seq zz.1):a:=h ⟨k⟩
theorem pN (h:Hk b→a:=by intro zz;refine iX ?_;refine fV zz.1):a:=h ⟨k⟩
theorem qo (h:Hk b→a:=by intro zz;refine qy ?_;refine TL.nil (af zz.1)):a:=h ⟨k⟩
theorem gj (h:Hk b→a:=by intro zz;refine jo ?_;refine TC.block zz.1):a:=h ⟨k⟩
theorem lu (h:Hk b→a:=by intro zz;refine fM ?_;refine zm9 zz.1):a:=h ⟨k⟩
theorem ll (h:Hk b→a:=by intro zz;refine zm1 ?_;refine dt rfl zz.1):a:=h ⟨k⟩
theorem mi (h:Hk b→a:=by intro zz;refine cH rfl rfl rfl rfl rfl (.there _ (.there _ (.there _ (.there _ (.there _ (.here _)))))) rfl rfl (TL.nil (af (TC.ret zz.1)))):a:=h ⟨k⟩
theorem mb (h:Hk b→a:=by intro zz;refine tN ?_;refine TL.nil (af (TC.ret zz.1))):a:=h ⟨k⟩
theorem qT (h:Hk b→a:=by intro zz;refine zm3 ?_;refine zm3 zz.1):a:=h ⟨k⟩
theorem uA (h:Hk b→a:=by intro zz;refine cK ?_;refine db zz.1):a:=h ⟨k⟩
theorem jR (h:Hk b→a:=by intro zz;refine TC.seq (dM zz.1)):a:=h ⟨k⟩
theorem ur (h:Hk b→a:=by intro zz;refine AO ?_;refine l8 ?_;refine aN (S1 (S1 (S1 (S1 SN)))) (Hp.le.refl _) (fun _ _=>aQ hrs rfl rfl rfl) rfl zz.1):a:=h ⟨k⟩
theorem uf (h:Hk b→a:=by intro zz;refine zm5 ?_;refine TF.nil (af (TC.ret zz.1))):a:=h ⟨k⟩
theorem t7 (h:Hk b→a:=by intro zz;refine jV ?_;refine w4 zz.1):a:=h ⟨k⟩
theorem ya (h:Hk b→a:=by intro zz;refine zm0 ?_;refine TL.run (bW rfl rfl rfl) rfl (TL.nil (af zz.1))):a:=h ⟨k⟩
theorem xO (h:Hk b→a:=by intro zz;refine gW ?_;refine qA zz.1):a:=h ⟨k⟩
theorem xH (h:Hk b→a:=by intro zz;refine bA rfl rfl (aJ rfl) rfl (lE zz.1)):a:=h ⟨k⟩
theorem xG (h:Hk b→a:=by intro zz;refine gg ?_;refine gg zz.1):a:=h ⟨k⟩
theorem xx (h:Hk b→a:=by intro zz;refine cH rfl rfl rfl rfl rfl (.there _ (.there _ (.here _))) rfl rfl (TL.nil (af (TC.ret zz.1)))):a:=h ⟨k⟩
theorem xt (h:Hk b→a:=by intro zz;refine gE ?_;refine TQ.run (aB rfl (.here _) rfl) rfl (iZ zz.1)):a:=h ⟨k⟩
theorem xc (h:Hk b→a:=by intro zz;refine Dj ?_;refine TL.nil (af zz.1)):a:=h ⟨k⟩
theorem w9 (h:Hk b→a:=by intro zz;refine TC.region (md ?_);refine fo zz.1):a:=h ⟨k⟩
theorem Bb (h:Hk b→a:=by intro zz;refine cw (aJ rfl) rfl rfl ⟨rfl,trivial⟩ (cw (aJ rfl) rfl rfl ⟨rfl,trivial⟩ (cw (aJ rfl) rfl rfl ⟨rfl,trivial⟩ (cw (aJ rfl) rfl rfl ⟨rfl,trivial⟩ zz.1)))):a:=h ⟨k⟩
theorem Dy (h:Hk b→a:=by intro zz;refine jQ rfl rfl rfl rfl (jQ rfl rfl rfl rfl (jQ rfl rfl rfl rfl (jQ rfl rfl rfl rfl zz.1)))):a:=h ⟨k⟩
theorem AI (h:Hk b→a:=by intro zz;refine cw (bW rfl rfl rfl) rfl rfl ⟨rfl,rfl,trivial⟩ (cw (bW rfl rfl rfl) rfl rfl ⟨rfl,rfl,trivial⟩ (cw (bW rfl rfl rfl) rfl rfl ⟨rfl,rfl,trivial⟩ (cw (bW rfl rfl rfl) rfl rfl ⟨rfl,rfl,trivial⟩ zz.1)))):a:=h ⟨k⟩
theorem Dd (h:Hk b→a:=by intro zz;refine cw (bW rfl rfl rfl) rfl rfl ⟨rfl,trivial⟩ (cw (bW rfl rfl rfl) rfl rfl ⟨rfl,trivial⟩ (cw (bW rfl rfl rfl) rfl rfl ⟨rfl,trivial⟩ (cw (bW rfl rfl rfl) rfl rfl ⟨rfl,trivial⟩ zz.1)))):a:=h ⟨k⟩
theorem fq (h:Hk b→a:=by intro zz;refine zm0 ?_;refine ei zz.1):a:=h ⟨k⟩
theorem gw (h:Hk b→a:=by intro zz;refine eh ?_;refine zm0 zz.1):a:=h ⟨k⟩
theorem f3 (h:Hk b→a:=by intro zz;refine TC.seq (eh zz.1)):a:=h ⟨k⟩
theorem iu (h:Hk b→a:=by intro zz;refine TL.nil (af (dM zz.1))):a:=h ⟨k⟩
theorem jr (h:Hk b→a:=by intro zz;refine jn ?_;refine zm3 zz.1):a:=h ⟨k⟩
theorem iM (h:Hk b→a:=by intro zz;refine bv (aI (aI (bv ?_)));refine aI zz.1):a:=h ⟨k⟩
theorem ir (h:Hk b→a:=by intro zz;refine TC.exit (bM (bM (cG ?_)));refine af zz.1):a:=h ⟨k⟩
theorem ny (h:Hk b→a:=by intro zz;refine jn ?_;refine dN zz.1):a:=h ⟨k⟩
theorem pQ (h:Hk b→a:=by intro zz;refine eg ?_;refine dh zz.1):a:=h ⟨k⟩
theorem qv (h:Hk b→a:=by intro zz;refine gg ?_;refine aq (bH rfl) rfl (zm4 ?_);refine zm4 zz.1):a:=h ⟨k⟩
theorem qu (h:Hk b→a:=by intro zz;refine tP ?_;refine zm3 zz.1):a:=h ⟨k⟩
theorem k4 (h:Hk b→a:=by intro zz;refine zm2 ?_;refine zm1 zz.1):a:=h ⟨k⟩
theorem lq (h:Hk b→a:=by intro zz;refine cV ?_;refine dM zz.1):a:=h ⟨k⟩
theorem o9 (h:Hk b→a:=by intro zz;refine fL ?_;refine zm0 zz.1):a:=h ⟨k⟩
theorem qZ (h:Hk b→a:=by intro zz;refine zm9 ?_;refine db zz.1):a:=h ⟨k⟩
theorem qW (h:Hk b→a:=by intro zz;refine kY rfl rfl rfl (.here _) rfl (gF zz.1)):a:=h ⟨k⟩
theorem qN (h:Hk b→a:=by intro zz;refine fb ?_;refine nA zz.1):a:=h ⟨k⟩
theorem qH (h:Hk b→a:=by intro zz;refine iW ?_;refine eH zz.1):a:=h ⟨k⟩
theorem tV (h:Hk b→a:=by intro zz;refine bf (gY ?_);refine bj (TF.nil (dE (L':=(b3,_)::((b2,_)::((b1,_)::(ob22)))) (em [[(b3,_)],[(b2,_)],[(b1,_)],ob22] [0,1,2,3] rfl) zz.1))):a:=h ⟨k⟩
theorem tU (h:Hk b→a:=by intro zz;refine gg ?_;refine lX zz.1):a:=h ⟨k⟩
theorem yb (h:Hk b→a:=by intro zz;refine TC.exit (bM (cG (af ?_)));refine TC.region zz.1):a:=h ⟨k⟩
theorem xY (h:Hk b→a:=by intro zz;refine aK (bI rfl hl) rfl (zm5 ?_);refine aq (ae rfl hT rfl om om) rfl (zm4 ?_);refine aK (br hT hx rfl rfl) rfl zz.1):a:=h ⟨k⟩
theorem xV (h:Hk b→a:=by intro zz;refine ql ?_;refine ma zz.1):a:=h ⟨k⟩
theorem tO (h:Hk b→a:=by intro zz;refine ei ?_;refine aI zz.1):a:=h ⟨k⟩
theorem xP (h:Hk b→a:=by intro zz;refine zm1 ?_;refine zm2 zz.1):a:=h ⟨k⟩
theorem xy (h:Hk b→a:=by intro zz;refine TL.nil (af (gW zz.1))):a:=h ⟨k⟩
theorem xr (h:Hk b→a:=by intro zz;refine gg ?_;refine TF.nil (af (TC.ret zz.1))):a:=h ⟨k⟩
theorem xp (h:Hk b→a:=by intro zz;refine cV ?_;refine jZ zz.1):a:=h ⟨k⟩
theorem xf (h:Hk b→a:=by intro zz;refine fb ?_;refine zm2 zz.1):a:=h ⟨k⟩
theorem w5 (h:Hk b→a:=by intro zz;refine gj ?_;refine eH zz.1):a:=h ⟨k⟩
theorem zm7 (h:Hk b→a:=by intro zz;refine k4 ?_;refine TC.seq zz.1):a:=h ⟨k⟩
theorem dz (h:Hk b→a:=by intro zz;refine gj ?_;refine zm2 zz.1):a:=h ⟨k⟩
theorem f4 (h:Hk b→a:=by intro zz;refine dM ?_;refine zm1 zz.1):a:=h ⟨k⟩
theorem gh (h:Hk b→a:=by intro zz;refine ir ?_;refine TC.seq zz.1):a:=h ⟨k⟩
theorem k6 (h:Hk b→a:=by intro zz;refine zm1 ?_;refine dM zz.1):a:=h ⟨k⟩
theorem k5 (h:Hk b→a:=by intro zz;refine aI (bv (aI (aI ?_)));refine bv (aI zz.1)):a:=h ⟨k⟩
theorem iV (h:Hk b→a:=by intro zz;refine k4 ?_;refine TC.ret zz.1):a:=h ⟨k⟩
theorem nD (h:Hk b→a:=by intro zz;refine eg ?_;refine dN zz.1):a:=h ⟨k⟩
theorem mu (h:Hk b→a:=by intro zz;refine zm1 ?_;refine gW zz.1):a:=h ⟨k⟩
theorem oU (h:Hk b→a:=by intro zz;refine jR ?_;refine iN zz.1):a:=h ⟨k⟩
theorem qR (h:Hk b→a:=by intro zz;refine f3 ?_;refine TL.run (ah rfl rfl hL) rfl zz.1):a:=h ⟨k⟩
theorem qQ (h:Hk b→a:=by intro zz;refine jR ?_;refine fV zz.1):a:=h ⟨k⟩
theorem uB (h:Hk b→a:=by intro zz;refine iW ?_;refine zm2 zz.1):a:=h ⟨k⟩
theorem yh (h:Hk b→a:=by intro zz;refine fL ?_;refine ma zz.1):a:=h ⟨k⟩
theorem yg (h:Hk b→a:=by intro zz;refine eg ?_;refine eC rfl rfl rfl (eC rfl rfl rfl zz.1)):a:=h ⟨k⟩
theorem yd (h:Hk b→a:=by intro zz;refine af (TC.seq (fL zz.1))):a:=h ⟨k⟩
theorem lg (h:Hk b→a:=by intro zz;refine k4 ?_;refine TC.block zz.1):a:=h ⟨k⟩
theorem xv (h:Hk b→a:=by intro zz;refine gj ?_;refine nA zz.1):a:=h ⟨k⟩
theorem qz (h:Hk b→a:=by intro zz;refine gj ?_;refine oJ zz.1):a:=h ⟨k⟩
theorem xo (h:Hk b→a:=by intro zz;refine cV ?_;refine eh zz.1):a:=h ⟨k⟩
theorem tM (h:Hk b→a:=by intro zz;refine gg ?_;refine gg ?_;refine aq (bH rfl) rfl (zm4 zz.1)):a:=h ⟨k⟩
theorem AK (h:Hk b→a:=by intro zz;refine dt rfl (w5 zz.1)):a:=h ⟨k⟩
theorem qx (h:Hk b→a:=by intro zz;refine zm3 ?_;refine eg zz.1):a:=h ⟨k⟩
theorem qw (h:Hk b→a:=by intro zz;refine bu (af (TC.region (nv zz.1)))):a:=h ⟨k⟩
theorem De (h:Hk b→a:=by intro zz;refine gY ?_;refine tO zz.1):a:=h ⟨k⟩
theorem lF (h:Hk b→a:=by intro zz;refine iV ?_;refine aI zz.1):a:=h ⟨k⟩
theorem l6 (h:Hk b→a:=by intro zz;refine TC.skip (qw zz.1)):a:=h ⟨k⟩
theorem qr (h:Hk b→a:=by intro zz;refine TL.nil (qw zz.1)):a:=h ⟨k⟩
theorem qm (h:Hk b→a:=by intro zz;refine fL ?_;refine zm1 zz.1):a:=h ⟨k⟩
theorem j5 (h:Hk b→a:=by intro zz;refine TC.seq (lg zz.1)):a:=h ⟨k⟩
theorem mt (h:Hk b→a:=by intro zz;refine gj ?_;refine dM zz.1):a:=h ⟨k⟩
theorem lm (h:Hk b→a:=by intro zz;refine jR ?_;refine zm1 zz.1):a:=h ⟨k⟩
theorem iY (h:Hk b→a:=by intro zz;refine bu (af (TC.region (zm0 ?_)));refine nv zz.1):a:=h ⟨k⟩
theorem qY (h:Hk b→a:=by intro zz;refine fb ?_;refine fL zz.1):a:=h ⟨k⟩
theorem l9 (h:Hk b→a:=by intro zz;refine dM ?_;refine ei zz.1):a:=h ⟨k⟩
theorem qP (h:Hk b→a:=by intro zz;refine gu ?_;refine mb zz.1):a:=h ⟨k⟩
theorem qE (h:Hk b→a:=by intro zz;refine ir ?_;refine zm2 zz.1):a:=h ⟨k⟩
theorem qD (h:Hk b→a:=by intro zz;refine qy ?_;refine iu zz.1):a:=h ⟨k⟩
theorem yj (h:Hk b→a:=by intro zz;refine fc ?_;refine fq zz.1):a:=h ⟨k⟩
theorem ye (h:Hk b→a:=by intro zz;refine k4 ?_;refine zm2 zz.1):a:=h ⟨k⟩
theorem xT (h:Hk b→a:=by intro zz;refine fb ?_;refine pN zz.1):a:=h ⟨k⟩
theorem xS (h:Hk b→a:=by intro zz;refine zm1 ?_;refine jR zz.1):a:=h ⟨k⟩
theorem xj (h:Hk b→a:=by intro zz;refine tM ?_;refine aw rfl zz.1):a:=h ⟨k⟩
theorem gG (h:Hk b→a:=by intro zz;refine TC.skip (iY zz.1)):a:=h ⟨k⟩
theorem nE (h:Hk b→a:=by intro zz;refine iV ?_;refine bv (aI zz.1)):a:=h ⟨k⟩
theorem mq (h:Hk b→a:=by intro zz;refine dN ?_;refine qw zz.1):a:=h ⟨k⟩
theorem mo (h:Hk b→a:=by intro zz;refine k4 ?_;refine dM zz.1):a:=h ⟨k⟩
theorem mc (h:Hk b→a:=by intro zz;refine bj (TF.nil (qw zz.1))):a:=h ⟨k⟩
theorem o7 (h:Hk b→a:=by intro zz;refine gj ?_;refine eh zz.1):a:=h ⟨k⟩
theorem q4 (h:Hk b→a:=by intro zz;refine iW ?_;refine fL zz.1):a:=h ⟨k⟩
theorem oL (h:Hk b→a:=by intro zz;refine jm ?_;refine qx zz.1):a:=h ⟨k⟩
theorem qU (h:Hk b→a:=by intro zz;refine iW ?_;refine gX zz.1):a:=h ⟨k⟩
theorem qK (h:Hk b→a:=by intro zz;refine ir ?_;refine gW zz.1):a:=h ⟨k⟩
theorem qG (h:Hk b→a:=by intro zz;refine eh ?_;refine ei zz.1):a:=h ⟨k⟩
theorem ux (h:Hk b→a:=by intro zz;refine ir ?_;refine dM zz.1):a:=h ⟨k⟩
theorem tS (h:Hk b→a:=by intro zz;refine ir ?_;refine lh zz.1):a:=h ⟨k⟩
theorem yf (h:Hk b→a:=by intro zz;refine jn ?_;refine fq zz.1):a:=h ⟨k⟩
theorem Bc (h:Hk b→a:=by intro zz;refine AI ?_;refine AI zz.1):a:=h ⟨k⟩
theorem Dz (h:Hk b→a:=by intro zz;refine Dd ?_;refine Dd zz.1):a:=h ⟨k⟩
theorem Di (h:Hk b→a:=by intro zz;refine qz ?_;refine iZ zz.1):a:=h ⟨k⟩
theorem nC (h:Hk b→a:=by intro zz;refine jo ?_;refine lg zz.1):a:=h ⟨k⟩
theorem lr (h:Hk b→a:=by intro zz;refine dN ?_;refine iY zz.1):a:=h ⟨k⟩
theorem lo (h:Hk b→a:=by intro zz;refine jn ?_;refine qx zz.1):a:=h ⟨k⟩
theorem oX (h:Hk b→a:=by intro zz;refine f3 ?_;refine TL.run (ah rfl rfl ha) rfl (zm1 zz.1)):a:=h ⟨k⟩
theorem oW (h:Hk b→a:=by intro zz;refine Di ?_;refine TQ.run (ae rfl ha rfl om om) rfl zz.1):a:=h ⟨k⟩
theorem oM (h:Hk b→a:=by intro zz;refine zm7 ?_;refine dM zz.1):a:=h ⟨k⟩
theorem qI (h:Hk b→a:=by intro zz;refine bj (TF.nil (iY zz.1))):a:=h ⟨k⟩
theorem uD (h:Hk b→a:=by intro zz;refine TC.skip (bu (af (iV zz.1)))):a:=h ⟨k⟩
theorem uz (h:Hk b→a:=by intro zz;refine k4 ?_;refine eh zz.1):a:=h ⟨k⟩
theorem um (h:Hk b→a:=by intro zz;refine TL.nil (af (j5 zz.1))):a:=h ⟨k⟩
theorem tQ (h:Hk b→a:=by intro zz;refine qz ?_;refine AJ zz.1):a:=h ⟨k⟩
theorem yi (h:Hk b→a:=by intro zz;refine TL.nil (af (TC.block (f4 zz.1)))):a:=h ⟨k⟩
theorem xN (h:Hk b→a:=by intro zz;refine eg ?_;refine ny zz.1):a:=h ⟨k⟩
theorem xn (h:Hk b→a:=by intro zz;refine lh ?_;refine De zz.1):a:=h ⟨k⟩
theorem xi (h:Hk b→a:=by intro zz;refine iu ?_;refine ei zz.1):a:=h ⟨k⟩
theorem xh (h:Hk b→a:=by intro zz;refine bv (aI (aI (bv ?_)));refine iM zz.1):a:=h ⟨k⟩
theorem pb (h:Hk b→a:=by intro zz;refine gj ?_;refine f4 zz.1):a:=h ⟨k⟩
theorem o5 (h:Hk b→a:=by intro zz;refine zm1 ?_;refine lm zz.1):a:=h ⟨k⟩
theorem oP (h:Hk b→a:=by intro zz;refine fb ?_;refine qm zz.1):a:=h ⟨k⟩
theorem oK (h:Hk b→a:=by intro zz;refine eg ?_;refine qx zz.1):a:=h ⟨k⟩
theorem xW (h:Hk b→a:=by intro zz;refine zm7 ?_;refine fL zz.1):a:=h ⟨k⟩
theorem xJ (h:Hk b→a:=by intro zz;refine iW ?_;refine lg zz.1):a:=h ⟨k⟩
theorem w8 (h:Hk b→a:=by intro zz;refine TC.exit (bM (bM (cG ?_)));refine qw zz.1):a:=h ⟨k⟩
theorem AN (h:Hk b→a:=by intro zz;refine fS (jR ?_);refine TL.run (fz rfl rfl om om) rfl (lW zz.1)):a:=h ⟨k⟩
theorem gv (h:Hk b→a:=by intro zz;refine ir ?_;refine iV zz.1):a:=h ⟨k⟩
theorem mr (h:Hk b→a:=by intro zz;refine ll ?_;refine lF zz.1):a:=h ⟨k⟩
theorem o8 (h:Hk b→a:=by intro zz;refine iV ?_;refine iM zz.1):a:=h ⟨k⟩
theorem xR (h:Hk b→a:=by intro zz;refine lo ?_;refine dN zz.1):a:=h ⟨k⟩
theorem xM (h:Hk b→a:=by intro zz;refine TC.exit (bM (bM (cG ?_)));refine iY zz.1):a:=h ⟨k⟩
theorem jt (h:Hk b→a:=by intro zz;refine zm7 ?_;refine lg zz.1):a:=h ⟨k⟩
theorem tw (h:Hk b→a:=by intro zz;refine ir ?_;refine l9 zz.1):a:=h ⟨k⟩
theorem qV (h:Hk b→a:=by intro zz;refine eg ?_;refine oL zz.1):a:=h ⟨k⟩
theorem xZ (h:Hk b→a:=by intro zz;refine l9 ?_;refine iM zz.1):a:=h ⟨k⟩
theorem xQ (h:Hk b→a:=by intro zz;refine iV ?_;refine bv (iM zz.1)):a:=h ⟨k⟩
theorem xL (h:Hk b→a:=by intro zz;refine gh ?_;refine lg zz.1):a:=h ⟨k⟩
theorem oY (h:Hk b→a:=by intro zz;refine oM ?_;refine TL.run (ah rfl rfl ha) rfl (zm0 ?_);refine TL.run (ah rfl rfl hb) rfl (zm1 zz.1)):a:=h ⟨k⟩
theorem qC (h:Hk b→a:=by intro zz;refine TC.skip (bu (af (TC.region ?_)));refine oI ?_;refine oE (fS (zm7 zz.1))):a:=h ⟨k⟩
theorem ul (h:Hk b→a:=by intro zz;refine AN ?_;refine AK zz.1):a:=h ⟨k⟩
theorem w6 (h:Hk b→a:=by intro zz;refine oK ?_;refine qx zz.1):a:=h ⟨k⟩
theorem AL (h:Hk b→a:=by intro zz;refine bj (TF.nil (bu (af ?_)));refine TC.region (zm0 ?_);refine oI ?_;refine oE (fS (jR ?_));refine TL.run (fz rfl rfl om om) rfl (lW zz.1)):a:=h ⟨k⟩
theorem uk (h:Hk b→a:=by intro zz;refine AL ?_;refine fU rfl zz.1):a:=h ⟨k⟩
theorem xU (h:Hk b→a:=by intro zz;refine w6 ?_;refine qx zz.1):a:=h ⟨k⟩
end
end Go.Sx
