import Derived.ProofKit
import Derived.KernelRfl
set_option linter.all false
namespace Go.Sx
structure Hk (b:Prop):Prop where
 ok:b
variable {a b:Prop}
theorem om (h:a:=by omega):a:=h
theorem kr (h:a:=by kernel_rfl):a:=h
theorem o2q (h:a:=by exact⟨by omega,by omega⟩):a:=h
theorem kz (h:a:=by exact⟨by kernel_rfl⟩):a:=h
theorem sq (h:a:=by simp):a:=h
theorem dq (h:a:=by decide):a:=h
theorem ky (h:a:=by repeat (first | exact trivial | refine⟨rfl,?_⟩)):a:=h
section
variable (k:b)
include k
theorem zm0 (h:Hk b→a:=by intro zz;refine TL.run (aG rfl) rfl zz.1):a:=h ⟨k⟩
theorem zm4 (h:Hk b→a:=by intro zz;refine az (d7 rfl) rfl zz.1):a:=h ⟨k⟩
theorem zm5 (h:Hk b→a:=by intro zz;refine TL.run (d7 rfl) rfl zz.1):a:=h ⟨k⟩
theorem zm6 (h:Hk b→a:=by intro zz;refine az (aG rfl) rfl zz.1):a:=h ⟨k⟩
theorem cv (h:Hk b→a:=by intro zz;refine aw rfl rfl (aG rfl) rfl zz.1):a:=h ⟨k⟩
theorem cC (h:Hk b→a:=by intro zz;refine TL.gdN rfl rfl rfl rfl zz.1):a:=h ⟨k⟩
theorem dN (h:Hk b→a:=by intro zz;refine TL.run (pb rfl rfl) rfl zz.1):a:=h ⟨k⟩
theorem dO (h:Hk b→a:=by intro zz;refine TC.drawn kr kr zz.1):a:=h ⟨k⟩
theorem eo (h:Hk b→a:=by intro zz;refine az (pb rfl rfl) rfl zz.1):a:=h ⟨k⟩
theorem eD (h:Hk b→a:=by intro zz;refine TL.run (it rfl rfl om om) rfl zz.1):a:=h ⟨k⟩
theorem gM (h:Hk b→a:=by intro zz;refine aw rfl rfl (d7 rfl) rfl zz.1):a:=h ⟨k⟩
theorem gL (h:Hk b→a:=by intro zz;refine TL.run (bA rfl (.here _) rfl) rfl zz.1):a:=h ⟨k⟩
theorem gl (h:Hk b→a:=by intro zz;refine TQ.run (d7 rfl) rfl zz.1):a:=h ⟨k⟩
theorem kf (h:Hk b→a:=by intro zz;refine bz rfl rfl (d7 rfl) rfl zz.1):a:=h ⟨k⟩
theorem kQ (h:Hk b→a:=by intro zz;refine TL.run ((by first | exact fK rfl rfl om om | exact aG rfl)) rfl zz.1):a:=h ⟨k⟩
theorem nJ (h:Hk b→a:=by intro zz;refine TL.run (aE rfl (.here _) rfl) rfl zz.1):a:=h ⟨k⟩
theorem nI (h:Hk b→a:=by intro zz;refine aw rfl rfl (cb rfl rfl rfl) rfl zz.1):a:=h ⟨k⟩
theorem lz (h:Hk b→a:=by intro zz;refine TL.run (ij rfl rfl) rfl zz.1):a:=h ⟨k⟩
theorem ly (h:Hk b→a:=by intro zz;refine TL.run ((by first | exact iF rfl rfl om om | exact aG rfl)) rfl zz.1):a:=h ⟨k⟩
theorem ga (h:Hk b→a:=by intro zz;refine cT rfl rfl rfl rfl rfl (.here _) rfl rfl zz.1):a:=h ⟨k⟩
theorem kG (h:Hk b→a:=by intro zz;refine bg (bA rfl (.here _) rfl) rfl zz.1):a:=h ⟨k⟩
theorem ns (h:Hk b→a:=by intro zz;refine TL.run (ah rfl rfl hc) rfl zz.1):a:=h ⟨k⟩
theorem nr (h:Hk b→a:=by intro zz;refine TL.run (aE rfl (.there _ (.there _ (.there _ (.here _)))) rfl) rfl zz.1):a:=h ⟨k⟩
theorem oO (h:Hk b→a:=by intro zz;refine aw rfl rfl (bA rfl (.here _) rfl) rfl zz.1):a:=h ⟨k⟩
theorem ng (h:Hk b→a:=by intro zz;refine TL.run (bA rfl (.there _ (.here _)) rfl) rfl zz.1):a:=h ⟨k⟩
theorem oI (h:Hk b→a:=by intro zz;refine br rfl rfl rfl (.there _ (.there _ (.there _ (.here _)))) rfl rfl zz.1):a:=h ⟨k⟩
theorem ov (h:Hk b→a:=by intro zz;refine TL.run (ae rfl hL rfl om om) rfl zz.1):a:=h ⟨k⟩
theorem rj (h:Hk b→a:=by intro zz;refine az (bY rfl rfl hOc om om) rfl zz.1):a:=h ⟨k⟩
theorem qV (h:Hk b→a:=by intro zz;refine iv (.there _ (.there _ (.here _))) zz.1):a:=h ⟨k⟩
theorem io (h:Hk b→a:=by intro zz;refine br rfl rfl rfl (.here _) rfl rfl zz.1):a:=h ⟨k⟩
theorem qP (h:Hk b→a:=by intro zz;refine ax (S0 (S1 (S1 (S1 (S1 (S1 SN)))))) (Hp.le.refl _) zz.1):a:=h ⟨k⟩
theorem qO (h:Hk b→a:=by intro zz;refine aO (S1 (S1 (S1 SN))) (Hp.le.refl _) (fun _ _=>aE rfl (.there _ (.there _ (.here _))) rfl) rfl zz.1):a:=h ⟨k⟩
theorem qL (h:Hk b→a:=by intro zz;refine bg (aE rfl (.here _) rfl) rfl zz.1):a:=h ⟨k⟩
theorem tK (h:Hk b→a:=by intro zz;refine TL.run (ae rfl hc rfl om om) rfl zz.1):a:=h ⟨k⟩
theorem tE (h:Hk b→a:=by intro zz;refine bg (aE rfl (.there _ (.there _ (.here _))) rfl) rfl zz.1):a:=h ⟨k⟩
theorem xl (h:Hk b→a:=by intro zz;refine ax (S0 (S1 (S1 (S1 SN)))) (Hp.le.refl _) zz.1):a:=h ⟨k⟩
theorem tq (h:Hk b→a:=by intro zz;refine TL.run (aE rfl (.there _ (.there _ (.there _ (.there _ (.there _ (.here _)))))) rfl) rfl zz.1):a:=h ⟨k⟩
theorem tj (h:Hk b→a:=by intro zz;refine TL.run (aE rfl (.there _ (.there _ (.there _ (.there _ (.there _ (.there _ (.there _ (.here _)))))))) rfl) rfl zz.1):a:=h ⟨k⟩
theorem or (h:Hk b→a:=by intro zz;refine br rfl rfl rfl (.there _ (.here _)) rfl rfl zz.1):a:=h ⟨k⟩
theorem sV (h:Hk b→a:=by intro zz;refine aw rfl rfl (aE rfl (.here _) rfl) rfl zz.1):a:=h ⟨k⟩
theorem wY (h:Hk b→a:=by intro zz;refine az (it rfl rfl om om) rfl zz.1):a:=h ⟨k⟩
theorem oo (h:Hk b→a:=by intro zz;refine az (ae rfl hrs rfl om om) rfl zz.1):a:=h ⟨k⟩
theorem wO (h:Hk b→a:=by intro zz;refine aO (S1 (S1 (S1 (S1 (S1 SN))))) (Hp.le.refl _) (fun _ _=>aL hrs rfl rfl rfl) rfl zz.1):a:=h ⟨k⟩
theorem wG (h:Hk b→a:=by intro zz;refine aO (S1 SN) (Hp.le.refl _) (fun _ _=>aE rfl (.here _) rfl) rfl zz.1):a:=h ⟨k⟩
theorem wC (h:Hk b→a:=by intro zz;refine bg (aE rfl (.there _ (.there _ (.there _ (.here _)))) rfl) rfl zz.1):a:=h ⟨k⟩
theorem wA (h:Hk b→a:=by intro zz;refine ax (S0 (S1 (S1 (S1 (S1 SN))))) (Hp.le.refl _) zz.1):a:=h ⟨k⟩
theorem Az (h:Hk b→a:=by intro zz;refine TL.run (ae rfl hP.q rfl om om) rfl zz.1):a:=h ⟨k⟩
theorem Av (h:Hk b→a:=by intro zz;refine br rfl rfl rfl (.here _) (by simp;omega) rfl zz.1):a:=h ⟨k⟩
theorem At (h:Hk b→a:=by intro zz;refine aw rfl rfl (bA rfl (.there _ (.there _ (.here _))) rfl) rfl zz.1):a:=h ⟨k⟩
theorem Ai (h:Hk b→a:=by intro zz;refine az ((by first | exact fK rfl rfl om om | exact aG rfl)) rfl zz.1):a:=h ⟨k⟩
theorem Ah (h:Hk b→a:=by intro zz;refine TL.run (xZ rfl rfl om om) rfl zz.1):a:=h ⟨k⟩
theorem Ae (h:Hk b→a:=by intro zz;refine br rfl rfl rfl (.there _ (.there _ (.there _ (.there _ (.there _ (.here _)))))) rfl rfl zz.1):a:=h ⟨k⟩
theorem Ac (h:Hk b→a:=by intro zz;refine iv (.there _ (.there _ (.there _ (.there _ (.here _))))) zz.1):a:=h ⟨k⟩
theorem Ab (h:Hk b→a:=by intro zz;refine az (ae rfl hro rfl om om) rfl zz.1):a:=h ⟨k⟩
theorem wo (h:Hk b→a:=by intro zz;refine cT rfl rfl rfl rfl rfl (.there _ (.here _)) rfl rfl zz.1):a:=h ⟨k⟩
theorem zU (h:Hk b→a:=by intro zz;refine aO (S1 (S1 (S1 SN))) (Hp.le.refl _) (fun _ _=>aE rfl (.here _) rfl) rfl zz.1):a:=h ⟨k⟩
theorem wm (h:Hk b→a:=by intro zz;refine aO (S1 (S1 SN)) (Hp.le.refl _) (fun _ _=>aE rfl (.there _ (.here _)) rfl) rfl zz.1):a:=h ⟨k⟩
theorem zO (h:Hk b→a:=by intro zz;refine br rfl rfl rfl (.there _ (.here _)) (by simp;omega) rfl zz.1):a:=h ⟨k⟩
theorem Ei (h:Hk b→a:=by intro zz;refine aw rfl rfl ((by first | exact fK rfl rfl om om | exact aG rfl)) rfl zz.1):a:=h ⟨k⟩
theorem Eh (h:Hk b→a:=by intro zz;refine cy [(0,2),(1,2),(2,1),(3,1),(4,1),(5,2),(6,0)] kr kr zz.1):a:=h ⟨k⟩
theorem Eg (h:Hk b→a:=by intro zz;refine aw rfl rfl (ah rfl rfl (hP.qs x (List.mem_of_getElem? hx)).pa) rfl zz.1):a:=h ⟨k⟩
theorem Ef (h:Hk b→a:=by intro zz;refine bg (eK rfl hOc (.skip _ (.skip _ (.skip _ (.skip _ (.skip _ (.past _ (.past _ .all))))))) hcC rfl) rfl zz.1):a:=h ⟨k⟩
theorem Ee (h:Hk b→a:=by intro zz;refine aS (L':=(b46,_)::((b3,_)::(ob2++((b14,_)::((b30,_)::((b2,_)::(obS++(oc)))))))) (eN [[(b14,_)],[(b46,_)],[(b3,_)],[(b30,_)],[(b2,_)],ob2,obS,oc] [1,2,5,0,3,4,6,7] rfl) zz.1):a:=h ⟨k⟩
theorem Ed (h:Hk b→a:=by intro zz;refine aS (L':=(b46,_)::((b3,_)::(ob94++((b14,_)::((b30,_)::((b2,_)::(obS++(oc)))))))) (List.Perm.refl _) zz.1):a:=h ⟨k⟩
theorem Ec (h:Hk b→a:=by intro zz;refine aS (L':=(b14,_)::((b46,_)::((b3,_)::((b30,_)::((b2,_)::(ob94++(obS++(oc)))))))) (eN [[(b46,_)],[(b3,_)],ob94,[(b14,_)],[(b30,_)],[(b2,_)],obS,oc] [3,0,1,4,5,2,6,7] rfl) zz.1):a:=h ⟨k⟩
theorem Eb (h:Hk b→a:=by intro zz;refine aS (L':=(b14,_)::((b46,_)::((b3,_)::((b30,_)::((b2,_)::(ob2++(obS))))))) (FY [(b14,_),(b46,_),(b3,_),(b30,_),(b2,_)] (A:=ob2) (B:=obS)) zz.1):a:=h ⟨k⟩
theorem Ea (h:Hk b→a:=by intro zz;refine br rfl rfl rfl (.there _ (.there _ (.here _))) (by simp;omega) rfl zz.1):a:=h ⟨k⟩
theorem D9 (h:Hk b→a:=by intro zz;refine aO (S1 (S1 (S1 (S1 SN)))) (Hp.le.refl _) (fun _ _=>bA rfl (.here _) rfl) rfl zz.1):a:=h ⟨k⟩
theorem D8 (h:Hk b→a:=by intro zz;refine aO (S1 (S1 (S1 (S1 (S1 (S1 (S1 SN))))))) (Hp.le.refl _) (fun _ _=>aL hrs rfl rfl rfl) rfl zz.1):a:=h ⟨k⟩
theorem D7 (h:Hk b→a:=by intro zz;refine br rfl rfl rfl (.there _ (.there _ (.there _ (.there _ (.there _ (.there _ (.there _ (.here _)))))))) rfl rfl zz.1):a:=h ⟨k⟩
theorem D6 (h:Hk b→a:=by intro zz;refine aO (S1 (S1 (S1 (S1 (S1 (S1 (S1 (S1 (S1 (S1 SN)))))))))) (Hp.le.refl _) (fun _ _=>aL hrs rfl rfl rfl) rfl zz.1):a:=h ⟨k⟩
theorem D5 (h:Hk b→a:=by intro zz;refine iv (.there _ (.there _ (.there _ (.there _ (.there _ (.there _ (.here _))))))) zz.1):a:=h ⟨k⟩
theorem D4 (h:Hk b→a:=by intro zz;refine aO (S1 (S1 (S1 (S1 (S1 (S1 (S1 (S1 SN)))))))) (Hp.le.refl _) (fun _ _=>aE rfl (.there _ (.there _ (.there _ (.there _ (.there _ (.here _)))))) rfl) rfl zz.1):a:=h ⟨k⟩
theorem D3 (h:Hk b→a:=by intro zz;refine aO (S1 (S1 (S1 (S1 (S1 (S1 (S1 (S1 (S1 (S1 (S1 (S1 SN)))))))))))) (Hp.le.refl _) (fun _ _=>aL hrs rfl rfl rfl) rfl zz.1):a:=h ⟨k⟩
theorem D2 (h:Hk b→a:=by intro zz;refine aO (S1 (S1 (S1 (S1 (S1 (S1 (S1 (S1 (S1 (S1 (S1 (S1 (S1 (S1 SN)))))))))))))) (Hp.le.refl _) (fun _ _=>aE rfl (.there _ (.there _ (.there _ (.there _ (.there _ (.there _ (.there _ (.there _ (.there _ (.there _ (.there _ (.here _)))))))))))) rfl) rfl zz.1):a:=h ⟨k⟩
theorem D1 (h:Hk b→a:=by intro zz;refine aO (S0 (S1 (S1 SN))) (Hp.le.refl _) (fun _ _=>aE rfl (.here _) rfl) rfl zz.1):a:=h ⟨k⟩
theorem D0 (h:Hk b→a:=by intro zz;refine az (di (tb:=3) rfl rfl haw12 om om) rfl zz.1):a:=h ⟨k⟩
theorem DZ (h:Hk b→a:=by intro zz;refine TL.run (lS rfl hcell (.skip _ (.skip _ (.past ob1 .all)))) rfl zz.1):a:=h ⟨k⟩
theorem DY (h:Hk b→a:=by intro zz;refine aR (.inr rfl) (co rfl (RVal.tmp rfl) (RVal.tmp rfl)) zz.1):a:=h ⟨k⟩
theorem DX (h:Hk b→a:=by intro zz;refine bz rfl rfl (ae rfl ha rfl om om) rfl zz.1):a:=h ⟨k⟩
theorem DW (h:Hk b→a:=by intro zz;refine bz rfl rfl (ae rfl hb rfl om om) rfl zz.1):a:=h ⟨k⟩
theorem DV (h:Hk b→a:=by intro zz;refine az (C8 (r:=true) rfl rfl kr kr (Gs _)) rfl zz.1):a:=h ⟨k⟩
theorem DU (h:Hk b→a:=by intro zz;refine qI rfl rfl (ab rfl rfl rfl rfl) ((by first | exact i4 name hP25 | exact i4 name hP)) rfl zz.1):a:=h ⟨k⟩
theorem DT (h:Hk b→a:=by intro zz;refine qI rfl rfl (ab rfl rfl rfl rfl) ((by first | exact j6 name hP25 | exact j6 name hP)) rfl zz.1):a:=h ⟨k⟩
theorem Hw (h:Hk b→a:=by intro zz;refine TL.run (aE rfl (.there _ (.there _ (.there _ (.here _)))) (ie om)) rfl zz.1):a:=h ⟨k⟩
theorem Hv (h:Hk b→a:=by intro zz;refine cT rfl rfl rfl rfl rfl (.there _ (.there _ (.there _ (.here _)))) rfl rfl zz.1):a:=h ⟨k⟩
theorem Hu (h:Hk b→a:=by intro zz;refine aU [true,true,true,true] [(0,1),(1,4),(2,1),(3,4),(4,1),(5,4),(6,1),(7,4),(8,1),(9,4),(10,1),(11,4),(12,1),(13,1),(14,1),(15,3),(16,1),(17,3),(18,5),(19,1),(20,0)] kr kr zz.1):a:=h ⟨k⟩
theorem Ht (h:Hk b→a:=by intro zz;refine br rfl rfl rfl (.there _ (.there _ (.there _ (.there _ (.there _ (.there _ (.there _ (.there _ (.there _ (.here _)))))))))) rfl rfl zz.1):a:=h ⟨k⟩
theorem Hr (h:Hk b→a:=by intro zz;refine TL.run (aE rfl (.there _ (.there _ (.there _ (.there _ (.there _ (.there _ (.there _ (.there _ (.there _ (.here _)))))))))) rfl) rfl zz.1):a:=h ⟨k⟩
theorem Hq (h:Hk b→a:=by intro zz;refine iv (.there _ (.there _ (.there _ (.there _ (.there _ (.there _ (.there _ (.there _ (.here _))))))))) zz.1):a:=h ⟨k⟩
theorem Ho (h:Hk b→a:=by intro zz;refine aO (S1 (S1 (S1 (S1 (S1 (S1 (S1 (S1 (S1 SN))))))))) (Hp.le.refl _) (fun _ _=>aE rfl (.there _ (.there _ (.there _ (.there _ (.there _ (.there _ (.there _ (.here _)))))))) rfl) rfl zz.1):a:=h ⟨k⟩
theorem Hn (h:Hk b→a:=by intro zz;refine ar (ab rfl rfl rfl rfl) (lQ p rr om om) rfl zz.1):a:=h ⟨k⟩
theorem Hm (h:Hk b→a:=by intro zz;refine aU [true,true,true,false,false] [(0,1),(1,1),(3,1),(4,1),(5,1),(6,1),(7,2),(2,5),(8,5),(9,5),(10,3),(11,1),(12,0)] kr kr zz.1):a:=h ⟨k⟩
theorem Hl (h:Hk b→a:=by intro zz;refine aU [true,true,true,false,false] [(0,1),(1,1),(3,1),(4,1),(5,1),(6,1),(2,5),(7,2),(8,5),(9,5),(10,3),(11,1),(12,0)] kr kr zz.1):a:=h ⟨k⟩
theorem Hj (h:Hk b→a:=by intro zz;refine aU [true,true] [(0,1),(1,1),(2,1),(3,4),(4,1),(5,1),(6,1),(7,4),(8,1),(9,1),(10,4),(11,1),(12,1),(13,4),(14,3),(15,5)] kr kr zz.1):a:=h ⟨k⟩
theorem Hi (h:Hk b→a:=by intro zz;refine aO (S1 (S1 (S1 (S1 SN)))) (Hp.le.refl _) (fun _ _=>aE rfl (.there _ (.there _ (.here _))) rfl) rfl zz.1):a:=h ⟨k⟩
theorem zH (h:Hk b→a:=by intro zz;refine aO (S1 (S1 SN)) (Hp.le.refl _) (fun _ _=>aE rfl (.here _) rfl) rfl zz.1):a:=h ⟨k⟩
theorem Hh (h:Hk b→a:=by intro zz;refine aU [true,true,true] [(0,1),(1,4),(2,1),(3,4),(4,1),(5,1),(6,4),(7,5),(8,3),(9,5),(10,1),(11,0)] kr kr zz.1):a:=h ⟨k⟩
theorem zm413 (h:Hk b→a:=by intro zz;refine aS (L':=(b46,_)::((b3,_)::(ob1++((b14,_)::((b30,_)::((b2,_)::(obS))))))) (eN [[(b14,_)],[(b46,_)],[(b3,_)],[(b30,_)],[(b2,_)],ob1,obS] [1,2,5,0,3,4,6] rfl) zz.1):a:=h ⟨k⟩
theorem zm414 (h:Hk b→a:=by intro zz;refine aS (L':=(b46,(ej q.terms s (m,o)).2.1.map (Value.int .i64))::((b3,_)::(ob71++((b14,_)::((b30,_)::((b2,_)::(obS))))))) (List.Perm.refl _) zz.1):a:=h ⟨k⟩
theorem zm415 (h:Hk b→a:=by intro zz;refine aS (L':=(b14,_)::((b46,_)::((b3,_)::((b30,_)::((b2,_)::(ob71++(obS))))))) (eN [[(b46,_)],[(b3,_)],ob71,[(b14,_)],[(b30,_)],[(b2,_)],obS] [3,0,1,4,5,2,6] rfl) zz.1):a:=h ⟨k⟩
theorem zm416 (h:Hk b→a:=by intro zz;refine vG (L':=(b14,_)::((b46,_)::((b3,_)::((b30,_)::((b2,_)::(ob71++(obS++(ob76)))))))) (eN [[(b14,_)],[(b46,_)],[(b3,_)],[(b30,_)],[(b2,_)],ob71,obS,ob76] [0,1,2,3,4,5,6,7] rfl) zz.1):a:=h ⟨k⟩
theorem zm417 (h:Hk b→a:=by intro zz;refine cy [(0,1),(1,2),(2,1),(3,1),(4,1),(5,2),(6,1),(7,1),(8,1),(9,2),(10,0),(11,1),(12,1),(13,0)] kr kr zz.1):a:=h ⟨k⟩
theorem zm418 (h:Hk b→a:=by intro zz;refine cy [(0,1),(2,1),(3,1),(4,1),(5,2),(6,1),(7,1),(8,1),(9,2),(10,0),(1,2),(11,1),(12,1),(13,0)] kr kr zz.1):a:=h ⟨k⟩
theorem zm419 (h:Hk b→a:=by intro zz;refine aS (Dc [(b14,_),(b46,_),(b3,_),(b30,_),(b2,_)] (A:=ob2) (B:=obS) (D:=oc) (C:=ob101)) zz.1):a:=h ⟨k⟩
theorem zm420 (h:Hk b→a:=by intro zz;refine vG (L':=(b14,_)::((b46,_)::((b3,_)::((b30,_)::((b2,_)::(ob2++(obS++(oc++(ob101))))))))) (eN [[(b14,_)],[(b46,_)],[(b3,_)],[(b30,_)],[(b2,_)],ob2,obS,oc,ob101] [0,1,2,3,4,5,6,7,8] rfl) zz.1):a:=h ⟨k⟩
theorem zm421 (h:Hk b→a:=by intro zz;refine cy [(0,1),(1,2),(2,1),(3,1),(4,1),(5,2),(6,1),(7,1),(8,1),(9,2),(10,1),(11,2),(12,1),(13,1),(14,0)] kr kr zz.1):a:=h ⟨k⟩
theorem zm422 (h:Hk b→a:=by intro zz;refine bg (eK rfl hOw (.skip _ (.skip _ (.skip _ (.skip _ (.skip _ (.past _ (.past _ (.past _ .all)))))))) hwW rfl) rfl zz.1):a:=h ⟨k⟩
theorem zm424 (h:Hk b→a:=by intro zz;refine aU [true,true,true] [(0,1),(1,1),(2,1),(3,1),(4,1),(5,4),(6,4),(7,3),(8,5),(9,1),(10,1),(11,1),(12,0)] kr kr zz.1):a:=h ⟨k⟩
theorem zm425 (h:Hk b→a:=by intro zz;refine aU [false,false] [(0,1),(1,1),(3,1),(4,1),(5,1),(6,1),(7,2),(2,5),(8,5),(9,5),(10,5),(11,1)] kr kr zz.1):a:=h ⟨k⟩
theorem zm426 (h:Hk b→a:=by intro zz;refine aU [false,false] [(0,1),(1,1),(3,1),(4,1),(5,1),(6,1),(2,5),(7,2),(8,5),(9,5),(10,5),(11,1)] kr kr zz.1):a:=h ⟨k⟩
theorem zm427 (h:Hk b→a:=by intro zz;refine TL.run (PR.to (eK rfl hO58 (.skip _ (.skip _ (.skip _ (.skip _ (.skip _ (.skip _ .all)))))) rfl rfl) (rfl:_=Value.slice (some ⟨b55,0,none⟩) 2 2)) rfl zz.1):a:=h ⟨k⟩
theorem zm428 (h:Hk b→a:=by intro zz;refine aU [true,true,true,true,true,false] [(0,1),(1,4),(2,1),(3,4),(4,1),(5,1),(6,4),(7,1),(8,4),(9,1),(10,1),(11,1),(12,4),(13,1),(14,1),(15,1),(17,1),(18,4),(19,1),(20,1),(16,5),(21,1),(22,3),(23,1),(24,3),(25,5),(26,1),(27,0)] kr kr zz.1):a:=h ⟨k⟩
theorem zm429 (h:Hk b→a:=by intro zz;refine aU [true,true,true,true,true,true,true,true,true,true] [(0,1),(1,4),(2,1),(3,4),(4,1),(5,1),(6,4),(7,1),(8,4),(9,1),(10,1),(11,1),(12,4),(13,1),(14,1),(15,4),(16,1),(17,1),(18,1),(19,3),(20,1),(21,3),(22,5),(23,1),(24,0)] kr kr zz.1):a:=h ⟨k⟩
theorem Hf (h:Hk b→a:=by intro zz;refine aO (S1 (S1 (S1 (S1 (S1 (S1 (S1 (S1 (S1 (S1 SN)))))))))) (Hp.le.refl _) (fun _ _=>aE rfl (.there _ (.there _ (.there _ (.there _ (.there _ (.there _ (.there _ (.here _)))))))) rfl) rfl zz.1):a:=h ⟨k⟩
theorem zm431 (h:Hk b→a:=by intro zz;refine aU [true,true,true,true,true,true,true,true,true,true,true,true] [(0,1),(1,4),(2,1),(3,4),(4,1),(5,1),(6,4),(7,1),(8,4),(9,1),(10,1),(11,1),(12,4),(13,1),(14,1),(15,4),(16,1),(17,1),(18,1),(19,3),(20,1),(21,3),(22,5),(23,1),(24,0)] kr kr zz.1):a:=h ⟨k⟩
theorem He (h:Hk b→a:=by intro zz;refine aO (S1 (S1 (S1 (S1 (S1 (S1 (S1 (S1 (S1 (S1 (S1 (S1 SN)))))))))))) (Hp.le.refl _) (fun _ _=>aE rfl (.there _ (.there _ (.there _ (.there _ (.there _ (.there _ (.there _ (.there _ (.there _ (.here _)))))))))) rfl) rfl zz.1):a:=h ⟨k⟩
theorem zm433 (h:Hk b→a:=by intro zz;refine br rfl rfl rfl (.there _ (.there _ (.there _ (.there _ (.there _ (.there _ (.there _ (.there _ (.there _ (.there _ (.there _ (.here _)))))))))))) rfl rfl zz.1):a:=h ⟨k⟩
theorem zm434 (h:Hk b→a:=by intro zz;refine aO (S1 (S1 (S1 (S1 (S1 (S1 (S1 (S1 (S1 (S1 (S1 (S1 (S1 (S1 SN)))))))))))))) (Hp.le.refl _) (fun _ _=>aL hrs rfl rfl rfl) rfl zz.1):a:=h ⟨k⟩
theorem zm435 (h:Hk b→a:=by intro zz;refine iv (.there _ (.there _ (.there _ (.there _ (.there _ (.there _ (.there _ (.there _ (.there _ (.there _ (.here _))))))))))) zz.1):a:=h ⟨k⟩
theorem zm436 (h:Hk b→a:=by intro zz;refine aU [true] [(0,1),(1,1),(2,1),(3,4),(4,1),(5,1),(6,1),(7,4),(8,1),(9,5),(10,1)] kr kr zz.1):a:=h ⟨k⟩
theorem zm439 (h:Hk b→a:=by intro zz;refine aU [true,true,true,true,true] [(0,1),(1,1),(2,1),(3,1),(4,4),(5,1),(6,1),(7,1),(8,1),(9,1),(10,4),(11,1),(12,1),(13,1),(14,2),(15,1),(16,1),(17,3),(18,5),(19,1),(20,1),(21,5)] kr kr zz.1):a:=h ⟨k⟩
theorem zm440 (h:Hk b→a:=by intro zz;refine aU [true,true,true,true,true] [(0,1),(1,1),(2,1),(3,1),(4,4),(5,1),(6,1),(7,1),(8,1),(9,1),(10,4),(11,1),(12,1),(13,1),(14,2),(15,4),(16,3),(17,5),(18,1),(19,1),(20,5)] kr kr zz.1):a:=h ⟨k⟩
theorem zm441 (h:Hk b→a:=by intro zz;refine aO (S1 (S1 (S1 (S1 (S1 (S1 SN)))))) (Hp.le.refl _) (fun _ _=>aE rfl (.there _ (.there _ (.there _ (.there _ (.here _))))) rfl) rfl zz.1):a:=h ⟨k⟩
theorem zm442 (h:Hk b→a:=by intro zz;refine cy [(0,2),(2,2),(1,0),(3,0),(4,1),(5,1),(6,2),(7,1),(9,2),(10,1),(8,3),(11,3),(12,1),(13,1),(14,1),(15,2),(17,2),(16,0),(18,0),(19,3),(20,1),(21,1)] kr kr zz.1):a:=h ⟨k⟩
theorem zm443 (h:Hk b→a:=by intro zz;refine cy [(0,2),(2,2),(1,0),(3,0),(4,1),(5,1),(6,2),(7,1),(9,2),(10,1),(8,3),(11,3),(12,1),(13,1),(14,1),(15,2),(16,0),(17,2),(18,0),(19,3),(20,1),(21,1)] kr kr zz.1):a:=h ⟨k⟩
theorem zm444 (h:Hk b→a:=by intro zz;refine cy [(0,2),(1,0),(2,2),(3,0),(4,1),(5,1),(6,2),(7,1),(9,2),(10,1),(8,3),(11,3),(12,1),(13,1),(14,1),(15,2),(17,2),(16,0),(18,0),(19,3),(20,1),(21,1)] kr kr zz.1):a:=h ⟨k⟩
theorem zm445 (h:Hk b→a:=by intro zz;refine cy [(0,2),(1,0),(2,2),(3,0),(4,1),(5,1),(6,2),(7,1),(9,2),(10,1),(8,3),(11,3),(12,1),(13,1),(14,1),(15,2),(16,0),(17,2),(18,0),(19,3),(20,1),(21,1)] kr kr zz.1):a:=h ⟨k⟩
theorem Ha (h:Hk b→a:=by intro zz;refine aO (S1 (S1 (S1 (S1 (S1 SN))))) (Hp.le.refl _) (fun _ _=>aE rfl (.there _ (.there _ (.there _ (.here _)))) rfl) rfl zz.1):a:=h ⟨k⟩
theorem zm448 (h:Hk b→a:=by intro zz;refine ar (ab rfl rfl rfl rfl) (yI ⟨[],[⟨1,[120],[⟨[120],ck,cn,0⟩],(some ⟨b5,0,none⟩,1)⟩],(some ⟨b7,0,none⟩,1)⟩ ⟨hT7,by intro t ht;simp at ht;subst ht;exact⟨hA5,by intro a ha;simp at ha;subst ha;exact hn⟩⟩ hM) rfl zz.1):a:=h ⟨k⟩
theorem zm449 (h:Hk b→a:=by intro zz;refine TL.run (PR.to (iF rfl rfl (by simp only [List.length_cons,List.length_nil];omega) (by simp only [List.length_cons,List.length_nil];omega)) (congrArg (Value.int .i64) (by simp only [List.length_cons,List.length_nil];omega))) rfl zz.1):a:=h ⟨k⟩
theorem zm450 (h:Hk b→a:=by intro zz;refine aU [true,true,false] [(0,1),(1,4),(2,1),(3,4),(4,1),(5,1),(6,4),(7,1),(8,4),(9,1),(10,1),(11,4),(12,1),(13,1),(14,1),(15,1),(16,5),(17,1),(18,3),(19,5),(20,1),(21,0)] kr kr zz.1):a:=h ⟨k⟩
theorem zm451 (h:Hk b→a:=by intro zz;refine aU [true,true,true,true,true,false] [(0,1),(1,4),(2,1),(3,4),(4,1),(5,1),(6,1),(7,4),(8,1),(9,4),(10,1),(11,4),(12,1),(13,5),(14,1),(15,3),(16,1),(17,3),(18,5),(19,1),(20,0)] kr kr zz.1):a:=h ⟨k⟩
theorem zm452 (h:Hk b→a:=by intro zz;refine aU [true,true,true,true,true,true,true,false] [(0,1),(1,4),(2,1),(3,4),(4,1),(5,1),(6,1),(7,4),(8,1),(9,4),(10,1),(11,4),(12,1),(13,5),(14,1),(15,3),(16,1),(17,3),(18,5),(19,1),(20,0)] kr kr zz.1):a:=h ⟨k⟩
theorem zm453 (h:Hk b→a:=by intro zz;refine aU [true,true,true,true,true,true,true,true] [(0,1),(1,4),(2,1),(3,4),(4,1),(5,1),(6,4),(7,1),(8,4),(9,1),(10,1),(11,1),(12,4),(13,1),(14,1),(15,4),(16,1),(17,1),(18,1),(19,3),(20,1),(21,3),(22,5),(23,1),(24,0)] kr kr zz.1):a:=h ⟨k⟩
theorem zm454 (h:Hk b→a:=by intro zz;refine aU [true,true,true,true,true,true,true,false] [(0,1),(1,4),(2,1),(3,4),(4,1),(5,1),(6,4),(7,1),(8,4),(9,1),(10,1),(11,1),(12,4),(13,1),(14,1),(15,1),(17,1),(18,4),(19,1),(20,1),(16,5),(21,1),(22,3),(23,1),(24,3),(25,5),(26,1),(27,0)] kr kr zz.1):a:=h ⟨k⟩
theorem zm455 (h:Hk b→a:=by intro zz;refine aU [true,true,true,true,true,true,true,true,true,false] [(0,1),(1,4),(2,1),(3,4),(4,1),(5,1),(6,1),(7,4),(8,1),(9,4),(10,1),(11,4),(12,1),(13,5),(14,1),(15,3),(16,1),(17,3),(18,5),(19,1),(20,0)] kr kr zz.1):a:=h ⟨k⟩
theorem zm456 (h:Hk b→a:=by intro zz;refine TL.run (PR.to (eK rfl hO112 (.skip _ (.skip _ (.skip _ (.skip _ (.skip _ (.skip _ (.skip _ (.skip _ (.skip _ (.skip _ (.skip _ (.skip _ .all)))))))))))) rfl rfl) (rfl:_=Value.slice (some ⟨b55,0,none⟩) 2 2)) rfl zz.1):a:=h ⟨k⟩
theorem zm457 (h:Hk b→a:=by intro zz;refine aU [true,true,true,true,true,true,true,true,true,true,true,true,true,true] [(0,1),(1,4),(2,1),(3,4),(4,1),(5,1),(6,4),(7,1),(8,4),(9,1),(10,1),(11,1),(12,4),(13,1),(14,1),(15,4),(16,1),(17,1),(18,1),(19,3),(20,1),(21,3),(22,5),(23,1),(24,0)] kr kr zz.1):a:=h ⟨k⟩
theorem zm458 (h:Hk b→a:=by intro zz;refine cT rfl rfl rfl rfl rfl (.there _ (.there _ (.there _ (.there _ (.there _ (.there _ (.there _ (.there _ (.there _ (.there _ (.there _ (.there _ (.there _ (.there _ (.there _ (.here _)))))))))))))))) rfl rfl zz.1):a:=h ⟨k⟩
theorem zm459 (h:Hk b→a:=by intro zz;refine aU [false,true,true] [(0,1),(1,1),(2,1),(3,4),(4,1),(5,1),(6,4),(7,1),(8,1),(9,1),(10,4),(11,1),(12,1),(13,1),(14,4),(15,1),(16,1),(17,4),(18,5),(19,1)] kr kr zz.1):a:=h ⟨k⟩
theorem zm460 (h:Hk b→a:=by intro zz;refine aU [true,true,false,false] [(0,1),(1,4),(2,1),(3,4),(4,1),(5,1),(6,4),(7,4),(8,1),(9,4),(10,1),(11,1),(12,4),(14,1),(15,1),(16,1),(17,1),(18,2),(13,3),(19,5),(20,5),(21,3),(22,1),(23,3),(24,5),(25,1),(26,0)] kr kr zz.1):a:=h ⟨k⟩
theorem zm461 (h:Hk b→a:=by intro zz;refine aU [true,true,true] [(0,1),(1,1),(2,1),(3,1),(4,4),(5,1),(6,1),(7,1),(8,1),(9,1),(10,4),(11,1),(12,1),(13,1),(14,2),(15,1),(16,1),(17,1),(18,1),(19,4),(20,1),(21,1),(22,3),(23,5),(24,1),(25,1),(26,5)] kr kr zz.1):a:=h ⟨k⟩
theorem zm462 (h:Hk b→a:=by intro zz;refine aU [true,true,true,true,true,true] [(0,1),(1,1),(2,1),(3,1),(4,4),(5,1),(6,1),(7,1),(8,1),(9,1),(10,4),(11,1),(12,1),(13,1),(14,2),(15,4),(16,3),(17,5),(18,1),(19,1),(20,5)] kr kr zz.1):a:=h ⟨k⟩
theorem zm463 (h:Hk b→a:=by intro zz;refine aU [true,true,false] [(0,1),(1,4),(2,1),(3,1),(4,4),(5,1),(6,4),(7,1),(8,1),(9,4),(10,1),(11,1),(12,1),(13,1),(14,1),(15,1),(16,4),(17,5),(18,3),(19,5),(20,1),(21,0)] kr kr zz.1):a:=h ⟨k⟩
theorem zm464 (h:Hk b→a:=by intro zz;refine mR rfl rfl (ab rfl rfl rfl rfl) (sh (hA.ls x (List.mem_of_getElem? hx)).t (hB.ls y (List.mem_of_getElem? hy)).t (hA.ls x (List.mem_of_getElem? hx)).ts (hB.ls y (List.mem_of_getElem? hy)).ts hg.2) rfl zz.1):a:=h ⟨k⟩
theorem zm465 (h:Hk b→a:=by intro zz;refine vE (L':=(b136,_)::((b14,_)::((b46,_)::((b3,_)::((b30,_)::((b2,_)::(ob2++(ob137)))))))) (eN [[(b136,_)],[(b14,_)],[(b46,_)],[(b3,_)],[(b30,_)],[(b2,_)],ob2,ob137] [0,1,2,3,4,5,6,7] rfl) zz.1):a:=h ⟨k⟩
theorem zm466 (h:Hk b→a:=by intro zz;refine TL.run (PR.to (iF rfl rfl (by simp only [List.length_append,List.length_cons,List.length_nil];omega) (by simp only [List.length_append,List.length_cons,List.length_nil];omega)) (congrArg (Value.int .i64) (show _=(rows.length:Int) from by simp only [List.length_append,List.length_cons,List.length_nil];omega))) rfl zz.1):a:=h ⟨k⟩
theorem zm467 (h:Hk b→a:=by intro zz;refine aU [true,true,true,true] [(0,1),(1,1),(2,1),(3,1),(4,4),(5,1),(6,1),(7,1),(8,1),(9,1),(10,4),(11,1),(12,1),(13,1),(14,2),(15,1),(16,1),(17,3),(18,5),(19,1),(20,1),(21,5)] kr kr zz.1):a:=h ⟨k⟩
theorem zm468 (h:Hk b→a:=by intro zz;refine aU [true,true,false,false] [(0,1),(1,1),(2,1),(3,2),(4,1),(5,4),(6,1),(8,1),(9,1),(10,1),(12,1),(13,4),(14,1),(7,5),(11,2),(15,5),(16,1),(17,1)] kr kr zz.1):a:=h ⟨k⟩
theorem zm469 (h:Hk b→a:=by intro zz;refine aU [true,true,false,false] [(0,1),(1,1),(2,1),(3,2),(4,1),(5,4),(6,1),(8,1),(9,1),(10,1),(11,2),(12,1),(13,4),(14,1),(7,5),(15,5),(16,1),(17,1)] kr kr zz.1):a:=h ⟨k⟩
theorem zm2 (h:Hk b→a:=by intro zz;refine TC.seq (TC.region zz.1)):a:=h ⟨k⟩
theorem zm3 (h:Hk b→a:=by intro zz;refine zm0 ?_;refine zm0 zz.1):a:=h ⟨k⟩
theorem zm8 (h:Hk b→a:=by intro zz;refine gM ?_;refine sV zz.1):a:=h ⟨k⟩
theorem cu (h:Hk b→a:=by intro zz;refine zm0 ?_;refine TL.nil zz.1):a:=h ⟨k⟩
theorem dn (h:Hk b→a:=by intro zz;refine TC.skip (ai zz.1)):a:=h ⟨k⟩
theorem fl (h:Hk b→a:=by intro zz;refine gM ?_;refine aw rfl rfl (aE rfl (.there _ (.here _)) rfl) rfl zz.1):a:=h ⟨k⟩
theorem eG (h:Hk b→a:=by intro zz;refine cv ?_;refine cv zz.1):a:=h ⟨k⟩
theorem fj (h:Hk b→a:=by intro zz;refine zm5 ?_;refine nJ zz.1):a:=h ⟨k⟩
theorem gr (h:Hk b→a:=by intro zz;refine TL.run (bR rfl) rfl (zm5 zz.1)):a:=h ⟨k⟩
theorem gV (h:Hk b→a:=by intro zz;refine zm4 ?_;refine bB zz.1):a:=h ⟨k⟩
theorem iN (h:Hk b→a:=by intro zz;refine zm5 ?_;refine TL.run (aE rfl (.there _ (.here _)) rfl) rfl zz.1):a:=h ⟨k⟩
theorem iz (h:Hk b→a:=by intro zz;refine zm6 ?_;refine zm6 zz.1):a:=h ⟨k⟩
theorem jz (h:Hk b→a:=by intro zz;refine TC.region (zm0 zz.1)):a:=h ⟨k⟩
theorem k6 (h:Hk b→a:=by intro zz;refine zm4 ?_;refine Ha zz.1):a:=h ⟨k⟩
theorem mZ (h:Hk b→a:=by intro zz;refine zm5 ?_;refine TL.run (aE rfl (.there _ (.there _ (.here _))) rfl) rfl zz.1):a:=h ⟨k⟩
theorem jL (h:Hk b→a:=by intro zz;refine cC ?_;refine cC zz.1):a:=h ⟨k⟩
theorem mV (h:Hk b→a:=by intro zz;refine TQ.run (aG rfl) rfl (TQ.run (aG rfl) rfl zz.1)):a:=h ⟨k⟩
theorem kK (h:Hk b→a:=by intro zz;refine zm6 ?_;refine zm4 zz.1):a:=h ⟨k⟩
theorem ln (h:Hk b→a:=by intro zz;refine zm4 ?_;refine bg (aE rfl (.there _ (.here _)) rfl) rfl zz.1):a:=h ⟨k⟩
theorem nn (h:Hk b→a:=by intro zz;refine kG ?_;refine bB zz.1):a:=h ⟨k⟩
theorem nk (h:Hk b→a:=by intro zz;refine bz rfl rfl (aG rfl) rfl (bz rfl rfl (aG rfl) rfl zz.1)):a:=h ⟨k⟩
theorem oC (h:Hk b→a:=by intro zz;refine zm6 ?_;refine oo zz.1):a:=h ⟨k⟩
theorem oz (h:Hk b→a:=by intro zz;refine zm0 ?_;refine eD zz.1):a:=h ⟨k⟩
theorem rA (h:Hk b→a:=by intro zz;refine TC.seq (dO zz.1)):a:=h ⟨k⟩
theorem ou (h:Hk b→a:=by intro zz;refine zm4 ?_;refine qL zz.1):a:=h ⟨k⟩
theorem rc (h:Hk b→a:=by intro zz;refine zm5 ?_;refine br rfl rfl rfl (.there _ (.there _ (.here _))) rfl rfl zz.1):a:=h ⟨k⟩
theorem qZ (h:Hk b→a:=by intro zz;refine zm4 ?_;refine zH zz.1):a:=h ⟨k⟩
theorem qN (h:Hk b→a:=by intro zz;refine mU rfl rfl (bA rfl (.here _) rfl) rfl (mm rfl rfl (aG rfl) rfl zz.1)):a:=h ⟨k⟩
theorem tF (h:Hk b→a:=by intro zz;refine TL.run (ae rfl hQ.s rfl om om) rfl (TL.run (aY hQ.s hs rfl rfl) rfl zz.1)):a:=h ⟨k⟩
theorem ot (h:Hk b→a:=by intro zz;refine TL.run (cb rfl rfl rfl) rfl (zm0 zz.1)):a:=h ⟨k⟩
theorem xm (h:Hk b→a:=by intro zz;refine zm4 ?_;refine aO (S1 (S1 (S1 SN))) (Hp.le.refl _) (fun _ _=>aE rfl (.there _ (.here _)) rfl) rfl zz.1):a:=h ⟨k⟩
theorem xi (h:Hk b→a:=by intro zz;refine nJ ?_;refine zm0 zz.1):a:=h ⟨k⟩
theorem wU (h:Hk b→a:=by intro zz;refine kf ?_;refine bz rfl rfl (aE rfl (.here _) rfl) rfl zz.1):a:=h ⟨k⟩
theorem wT (h:Hk b→a:=by intro zz;refine TQ.run (aG rfl) rfl (TQ.run (bR rfl) rfl zz.1)):a:=h ⟨k⟩
theorem wL (h:Hk b→a:=by intro zz;refine zm4 ?_;refine aO (S1 (S1 (S1 (S1 (S1 (S1 (S1 SN))))))) (Hp.le.refl _) (fun _ _=>aE rfl (.there _ (.there _ (.there _ (.there _ (.there _ (.here _)))))) rfl) rfl zz.1):a:=h ⟨k⟩
theorem wK (h:Hk b→a:=by intro zz;refine zm4 ?_;refine Hf zz.1):a:=h ⟨k⟩
theorem wJ (h:Hk b→a:=by intro zz;refine az (fK rfl rfl sq sq) rfl (eo zz.1)):a:=h ⟨k⟩
theorem wI (h:Hk b→a:=by intro zz;refine zm4 ?_;refine He zz.1):a:=h ⟨k⟩
theorem wD (h:Hk b→a:=by intro zz;refine zm4 ?_;refine wm zz.1):a:=h ⟨k⟩
theorem wv (h:Hk b→a:=by intro zz;refine mU rfl rfl (bA rfl (.here _) rfl) rfl (bB zz.1)):a:=h ⟨k⟩
theorem Ar (h:Hk b→a:=by intro zz;refine TL.run (ae rfl hQ.s rfl om om) rfl (TL.run (aY hQ.s hx rfl rfl) rfl zz.1)):a:=h ⟨k⟩
theorem Ap (h:Hk b→a:=by intro zz;refine kQ ?_;refine eD zz.1):a:=h ⟨k⟩
theorem Ag (h:Hk b→a:=by intro zz;refine ga ?_;refine TL.nil zz.1):a:=h ⟨k⟩
theorem Af (h:Hk b→a:=by intro zz;refine zm6 ?_;refine eo zz.1):a:=h ⟨k⟩
theorem zS (h:Hk b→a:=by intro zz;refine TL.run (d8 rfl) rfl (TL.run (IC rfl rfl om) rfl zz.1)):a:=h ⟨k⟩
theorem zQ (h:Hk b→a:=by intro zz;refine TL.run (ae rfl hR40 rfl om om) rfl (TL.run (aL hR40 hy rfl rfl) rfl zz.1)):a:=h ⟨k⟩
theorem Ek (h:Hk b→a:=by intro zz;refine cg (aG rfl) rfl rfl ⟨rfl,rfl,trivial⟩ (cg (aG rfl) rfl rfl ⟨rfl,rfl,trivial⟩ zz.1)):a:=h ⟨k⟩
theorem zN (h:Hk b→a:=by intro zz;refine zm5 ?_;refine or zz.1):a:=h ⟨k⟩
theorem zL (h:Hk b→a:=by intro zz;refine zm4 ?_;refine aO (S1 (S1 (S1 (S1 SN)))) (Hp.le.refl _) (fun _ _=>aE rfl (.there _ (.here _)) rfl) rfl zz.1):a:=h ⟨k⟩
theorem Hg (h:Hk b→a:=by intro zz;refine eD ?_;refine zO zz.1):a:=h ⟨k⟩
theorem zm1 (h:Hk b→a:=by intro zz;refine cu ?_;refine ai zz.1):a:=h ⟨k⟩
theorem cM (h:Hk b→a:=by intro zz;refine cv ?_;refine zm3 zz.1):a:=h ⟨k⟩
theorem ef (h:Hk b→a:=by intro zz;refine cv ?_;refine cu zz.1):a:=h ⟨k⟩
theorem el (h:Hk b→a:=by intro zz;refine zm2 ?_;refine zm0 zz.1):a:=h ⟨k⟩
theorem gp (h:Hk b→a:=by intro zz;refine dn ?_;refine TC.seq zz.1):a:=h ⟨k⟩
theorem gn (h:Hk b→a:=by intro zz;refine jL ?_;refine cC zz.1):a:=h ⟨k⟩
theorem il (h:Hk b→a:=by intro zz;refine zm2 ?_;refine gL zz.1):a:=h ⟨k⟩
theorem iA (h:Hk b→a:=by intro zz;refine zm0 ?_;refine cu zz.1):a:=h ⟨k⟩
theorem kY (h:Hk b→a:=by intro zz;refine TF.back (TF.nil (ai zz.1))):a:=h ⟨k⟩
theorem ik (h:Hk b→a:=by intro zz;refine ga ?_;refine TL.nil (ai zz.1)):a:=h ⟨k⟩
theorem jM (h:Hk b→a:=by intro zz;refine zm6 ?_;refine az (bR rfl) rfl (zm4 zz.1)):a:=h ⟨k⟩
theorem m5 (h:Hk b→a:=by intro zz;refine zm8 ?_;refine cv zz.1):a:=h ⟨k⟩
theorem k4 (h:Hk b→a:=by intro zz;refine TQ.run (aG rfl) rfl (TQ.nil (ai zz.1))):a:=h ⟨k⟩
theorem mY (h:Hk b→a:=by intro zz;refine zm2 ?_;refine zm5 zz.1):a:=h ⟨k⟩
theorem mX (h:Hk b→a:=by intro zz;refine TC.region (fj zz.1)):a:=h ⟨k⟩
theorem mW (h:Hk b→a:=by intro zz;refine TC.region (zm3 zz.1)):a:=h ⟨k⟩
theorem kL (h:Hk b→a:=by intro zz;refine gl ?_;refine TQ.run (aE rfl (.here _) rfl) rfl (TQ.run (aG rfl) rfl zz.1)):a:=h ⟨k⟩
theorem kH (h:Hk b→a:=by intro zz;refine iN ?_;refine zm0 zz.1):a:=h ⟨k⟩
theorem nh (h:Hk b→a:=by intro zz;refine zm2 ?_;refine ng zz.1):a:=h ⟨k⟩
theorem k9 (h:Hk b→a:=by intro zz;refine zm2 ?_;refine dN zz.1):a:=h ⟨k⟩
theorem oB (h:Hk b→a:=by intro zz;refine zm6 ?_;refine az (fK rfl rfl om om) rfl (oo zz.1)):a:=h ⟨k⟩
theorem nf (h:Hk b→a:=by intro zz;refine TL.run (fK rfl rfl om om) rfl (cu zz.1)):a:=h ⟨k⟩
theorem rf (h:Hk b→a:=by intro zz;refine zm3 ?_;refine zm0 zz.1):a:=h ⟨k⟩
theorem rb (h:Hk b→a:=by intro zz;refine iz ?_;refine zm6 zz.1):a:=h ⟨k⟩
theorem qR (h:Hk b→a:=by intro zz;refine mV ?_;refine TQ.run (ae rfl hb rfl om om) rfl zz.1):a:=h ⟨k⟩
theorem qM (h:Hk b→a:=by intro zz;refine zm8 ?_;refine nI zz.1):a:=h ⟨k⟩
theorem tM (h:Hk b→a:=by intro zz;refine nI ?_;refine zm3 zz.1):a:=h ⟨k⟩
theorem tr (h:Hk b→a:=by intro zz;refine TL.run (bR rfl) rfl (fj zz.1)):a:=h ⟨k⟩
theorem th (h:Hk b→a:=by intro zz;refine ov ?_;refine zm5 ?_;refine TL.run (aT hL hx rfl rfl) rfl zz.1):a:=h ⟨k⟩
theorem sX (h:Hk b→a:=by intro zz;refine mZ ?_;refine zm0 zz.1):a:=h ⟨k⟩
theorem xh (h:Hk b→a:=by intro zz;refine TL.run (ae rfl hT rfl om om) rfl (zm5 ?_);refine TL.run (aT hT hx rfl rfl) rfl zz.1):a:=h ⟨k⟩
theorem xg (h:Hk b→a:=by intro zz;refine jL ?_;refine zm0 zz.1):a:=h ⟨k⟩
theorem xd (h:Hk b→a:=by intro zz;refine eG ?_;refine cv zz.1):a:=h ⟨k⟩
theorem oq (h:Hk b→a:=by intro zz;refine kQ ?_;refine cu zz.1):a:=h ⟨k⟩
theorem wF (h:Hk b→a:=by intro zz;refine TQ.run (cb rfl rfl rfl) rfl (TQ.nil (ai zz.1))):a:=h ⟨k⟩
theorem Au (h:Hk b→a:=by intro zz;refine zm5 ?_;refine io ?_;refine TL.nil zz.1):a:=h ⟨k⟩
theorem ws (h:Hk b→a:=by intro zz;refine TC.region (iN zz.1)):a:=h ⟨k⟩
theorem Aq (h:Hk b→a:=by intro zz;refine eG ?_;refine aw rfl rfl (it rfl rfl om om) rfl zz.1):a:=h ⟨k⟩
theorem En (h:Hk b→a:=by intro zz;refine gV ?_;refine br rfl rfl rfl (.there _ (.there _ (.here _))) rfl rfl zz.1):a:=h ⟨k⟩
theorem Ad (h:Hk b→a:=by intro zz;refine oz ?_;refine zm5 zz.1):a:=h ⟨k⟩
theorem z7 (h:Hk b→a:=by intro zz;refine TL.run (ae rfl hxa rfl om om) rfl (zm5 ?_);refine TL.run (aT hxa ha rfl rfl) rfl zz.1):a:=h ⟨k⟩
theorem zY (h:Hk b→a:=by intro zz;refine jz ?_;refine gL zz.1):a:=h ⟨k⟩
theorem zW (h:Hk b→a:=by intro zz;refine au rfl (ga ?_);refine ax (S0 (S1 (S1 SN))) (Hp.le.refl _) zz.1):a:=h ⟨k⟩
theorem zV (h:Hk b→a:=by intro zz;refine zm4 ?_;refine au rfl (io zz.1)):a:=h ⟨k⟩
theorem zR (h:Hk b→a:=by intro zz;refine TL.run (ae rfl hw rfl om om) rfl (zm5 ?_);refine TL.run (aT hw hx rfl rfl) rfl zz.1):a:=h ⟨k⟩
theorem zM (h:Hk b→a:=by intro zz;refine fM rfl rfl rfl (fM rfl rfl rfl (cC zz.1))):a:=h ⟨k⟩
theorem zK (h:Hk b→a:=by intro zz;refine ou ?_;refine zm6 zz.1):a:=h ⟨k⟩
theorem zJ (h:Hk b→a:=by intro zz;refine gl ?_;refine TQ.run (aE rfl (.there _ (.here _)) rfl) rfl (TQ.run (aG rfl) rfl zz.1)):a:=h ⟨k⟩
theorem DN (h:Hk b→a:=by intro zz;refine gV ?_;refine or zz.1):a:=h ⟨k⟩
theorem zm9 (h:Hk b→a:=by intro zz;refine zm1 ?_;refine TC.block zz.1):a:=h ⟨k⟩
theorem dH (h:Hk b→a:=by intro zz;refine zm2 ?_;refine zm3 zz.1):a:=h ⟨k⟩
theorem em (h:Hk b→a:=by intro zz;refine zm1 ?_;refine TC.ret zz.1):a:=h ⟨k⟩
theorem dE (h:Hk b→a:=by intro zz;refine jL ?_;refine jL zz.1):a:=h ⟨k⟩
theorem fP (h:Hk b→a:=by intro zz;refine cv ?_;refine zm1 zz.1):a:=h ⟨k⟩
theorem fC (h:Hk b→a:=by intro zz;refine zm2 ?_;refine fj zz.1):a:=h ⟨k⟩
theorem gN (h:Hk b→a:=by intro zz;refine TL.nil (ai (zm2 zz.1))):a:=h ⟨k⟩
theorem fi (h:Hk b→a:=by intro zz;refine gp ?_;refine TC.block zz.1):a:=h ⟨k⟩
theorem iV (h:Hk b→a:=by intro zz;refine ik ?_;refine TC.ret zz.1):a:=h ⟨k⟩
theorem jm (h:Hk b→a:=by intro zz;refine zm2 ?_;refine iN zz.1):a:=h ⟨k⟩
theorem jN (h:Hk b→a:=by intro zz;refine mW ?_;refine zm0 zz.1):a:=h ⟨k⟩
theorem iM (h:Hk b→a:=by intro zz;refine zm1 ?_;refine TC.seq zz.1):a:=h ⟨k⟩
theorem kS (h:Hk b→a:=by intro zz;refine zm0 ?_;refine zm1 zz.1):a:=h ⟨k⟩
theorem m4 (h:Hk b→a:=by intro zz;refine ik ?_;refine TC.seq zz.1):a:=h ⟨k⟩
theorem pS (h:Hk b→a:=by intro zz;refine zm5 ?_;refine io ?_;refine TL.nil (ai zz.1)):a:=h ⟨k⟩
theorem pR (h:Hk b→a:=by intro zz;refine zm1 ?_;refine gK rfl zz.1):a:=h ⟨k⟩
theorem jp (h:Hk b→a:=by intro zz;refine jz ?_;refine fj zz.1):a:=h ⟨k⟩
theorem lw (h:Hk b→a:=by intro zz;refine zm8 ?_;refine eG zz.1):a:=h ⟨k⟩
theorem lu (h:Hk b→a:=by intro zz;refine dn ?_;refine zm2 zz.1):a:=h ⟨k⟩
theorem iG (h:Hk b→a:=by intro zz;refine zm1 ?_;refine eC rfl zz.1):a:=h ⟨k⟩
theorem lq (h:Hk b→a:=by intro zz;refine zm3 ?_;refine zm3 zz.1):a:=h ⟨k⟩
theorem lf (h:Hk b→a:=by intro zz;refine wo ?_;refine TL.nil (ai (TC.ret zz.1))):a:=h ⟨k⟩
theorem no (h:Hk b→a:=by intro zz;refine cT rfl rfl rfl rfl rfl (.there _ (.there _ (.here _))) rfl rfl (TL.nil (ai (TC.ret zz.1)))):a:=h ⟨k⟩
theorem oH (h:Hk b→a:=by intro zz;refine cT rfl rfl rfl rfl rfl (.there _ (.there _ (.there _ (.there _ (.there _ (.here _)))))) rfl rfl (TL.nil (ai (TC.ret zz.1)))):a:=h ⟨k⟩
theorem ip (h:Hk b→a:=by intro zz;refine TC.seq (el zz.1)):a:=h ⟨k⟩
theorem oE (h:Hk b→a:=by intro zz;refine iz ?_;refine az (bR rfl) rfl (zm4 zz.1)):a:=h ⟨k⟩
theorem rD (h:Hk b→a:=by intro zz;refine eG ?_;refine zm3 zz.1):a:=h ⟨k⟩
theorem rv (h:Hk b→a:=by intro zz;refine zm8 ?_;refine aw rfl rfl (ae rfl hw rfl om om) rfl (gM zz.1)):a:=h ⟨k⟩
theorem k8 (h:Hk b→a:=by intro zz;refine TC.exit (cI (cI (dZ zz.1)))):a:=h ⟨k⟩
theorem ri (h:Hk b→a:=by intro zz;refine fl ?_;refine zm8 zz.1):a:=h ⟨k⟩
theorem rh (h:Hk b→a:=by intro zz;refine cv ?_;refine iA zz.1):a:=h ⟨k⟩
theorem tN (h:Hk b→a:=by intro zz;refine zm0 ?_;refine TL.run (cb rfl rfl rfl) rfl (TL.nil (ai zz.1))):a:=h ⟨k⟩
theorem tw (h:Hk b→a:=by intro zz;refine iz ?_;refine iz zz.1):a:=h ⟨k⟩
theorem wV (h:Hk b→a:=by intro zz;refine ws ?_;refine gL zz.1):a:=h ⟨k⟩
theorem wR (h:Hk b→a:=by intro zz;refine zm6 ?_;refine TF.nil (ai (TC.ret zz.1))):a:=h ⟨k⟩
theorem wP (h:Hk b→a:=by intro zz;refine zL ?_;refine oo ?_;refine aO (S1 (S1 (S1 (S1 SN)))) (Hp.le.refl _) (fun _ _=>aL hrs rfl rfl rfl) rfl zz.1):a:=h ⟨k⟩
theorem wB (h:Hk b→a:=by intro zz;refine jM ?_;refine zH zz.1):a:=h ⟨k⟩
theorem ol (h:Hk b→a:=by intro zz;refine bn (ai (TC.region (zm0 zz.1)))):a:=h ⟨k⟩
theorem wz (h:Hk b→a:=by intro zz;refine mX ?_;refine zm0 zz.1):a:=h ⟨k⟩
theorem AN (h:Hk b→a:=by intro zz;refine fM rfl rfl rfl (fM rfl rfl rfl (fM rfl rfl rfl (cC zz.1)))):a:=h ⟨k⟩
theorem Ax (h:Hk b→a:=by intro zz;refine Hg ?_;refine TL.nil (ai zz.1)):a:=h ⟨k⟩
theorem Aw (h:Hk b→a:=by intro zz;refine TC.region (mZ ?_);refine gL zz.1):a:=h ⟨k⟩
theorem Al (h:Hk b→a:=by intro zz;refine kE rfl rfl rfl rfl (kE rfl rfl rfl rfl (kE rfl rfl rfl rfl (kE rfl rfl rfl rfl zz.1)))):a:=h ⟨k⟩
theorem Ak (h:Hk b→a:=by intro zz;refine bz rfl rfl (aG rfl) rfl (k4 zz.1)):a:=h ⟨k⟩
theorem z6 (h:Hk b→a:=by intro zz;refine gl ?_;refine TQ.run (aE rfl (.here _) rfl) rfl (mV zz.1)):a:=h ⟨k⟩
theorem zZ (h:Hk b→a:=by intro zz;refine nh ?_;refine zm0 zz.1):a:=h ⟨k⟩
theorem Ej (h:Hk b→a:=by intro zz;refine cg (aG rfl) rfl rfl ⟨rfl,trivial⟩ (cg (aG rfl) rfl rfl ⟨rfl,trivial⟩ (cg (aG rfl) rfl rfl ⟨rfl,trivial⟩ (cg (aG rfl) rfl rfl ⟨rfl,trivial⟩ zz.1)))):a:=h ⟨k⟩
theorem DM (h:Hk b→a:=by intro zz;refine cg (cb rfl rfl rfl) rfl rfl ⟨rfl,rfl,trivial⟩ (cg (cb rfl rfl rfl) rfl rfl ⟨rfl,rfl,trivial⟩ (cg (cb rfl rfl rfl) rfl rfl ⟨rfl,rfl,trivial⟩ (cg (cb rfl rfl rfl) rfl rfl ⟨rfl,rfl,trivial⟩ zz.1)))):a:=h ⟨k⟩
theorem G9 (h:Hk b→a:=by intro zz;refine cg (cb rfl rfl rfl) rfl rfl ⟨rfl,trivial⟩ (cg (cb rfl rfl rfl) rfl rfl ⟨rfl,trivial⟩ (cg (cb rfl rfl rfl) rfl rfl ⟨rfl,trivial⟩ (cg (cb rfl rfl rfl) rfl rfl ⟨rfl,trivial⟩ zz.1)))):a:=h ⟨k⟩
theorem fk (h:Hk b→a:=by intro zz;refine TC.seq (dH zz.1)):a:=h ⟨k⟩
theorem fO (h:Hk b→a:=by intro zz;refine dH ?_;refine zm0 zz.1):a:=h ⟨k⟩
theorem im (h:Hk b→a:=by intro zz;refine gn ?_;refine zm3 zz.1):a:=h ⟨k⟩
theorem gm (h:Hk b→a:=by intro zz;refine zm0 ?_;refine em zz.1):a:=h ⟨k⟩
theorem fN (h:Hk b→a:=by intro zz;refine k8 ?_;refine ai zz.1):a:=h ⟨k⟩
theorem iC (h:Hk b→a:=by intro zz;refine gn ?_;refine cu zz.1):a:=h ⟨k⟩
theorem jo (h:Hk b→a:=by intro zz;refine TL.nil (ai (el zz.1))):a:=h ⟨k⟩
theorem kV (h:Hk b→a:=by intro zz;refine mX ?_;refine zm3 zz.1):a:=h ⟨k⟩
theorem iy (h:Hk b→a:=by intro zz;refine bh (aF (aF (bh ?_)));refine aF zz.1):a:=h ⟨k⟩
theorem m6 (h:Hk b→a:=by intro zz;refine zm8 ?_;refine cM zz.1):a:=h ⟨k⟩
theorem jK (h:Hk b→a:=by intro zz;refine zm2 ?_;refine zm1 zz.1):a:=h ⟨k⟩
theorem kN (h:Hk b→a:=by intro zz;refine qM ?_;refine zm3 zz.1):a:=h ⟨k⟩
theorem lm (h:Hk b→a:=by intro zz;refine dn ?_;refine el zz.1):a:=h ⟨k⟩
theorem ll (h:Hk b→a:=by intro zz;refine mW ?_;refine zm3 zz.1):a:=h ⟨k⟩
theorem lh (h:Hk b→a:=by intro zz;refine dE ?_;refine cC zz.1):a:=h ⟨k⟩
theorem oL (h:Hk b→a:=by intro zz;refine zm8 ?_;refine ef zz.1):a:=h ⟨k⟩
theorem rG (h:Hk b→a:=by intro zz;refine zm1 ?_;refine zm2 zz.1):a:=h ⟨k⟩
theorem ry (h:Hk b→a:=by intro zz;refine fC ?_;refine TL.run (ah rfl rfl hw) rfl zz.1):a:=h ⟨k⟩
theorem ru (h:Hk b→a:=by intro zz;refine mX ?_;refine ot zz.1):a:=h ⟨k⟩
theorem qX (h:Hk b→a:=by intro zz;refine m4 ?_;refine dO zz.1):a:=h ⟨k⟩
theorem qQ (h:Hk b→a:=by intro zz;refine jp ?_;refine zm0 zz.1):a:=h ⟨k⟩
theorem tO (h:Hk b→a:=by intro zz;refine mS rfl rfl rfl (.here _) rfl (gN zz.1)):a:=h ⟨k⟩
theorem tA (h:Hk b→a:=by intro zz;refine iV ?_;refine aF zz.1):a:=h ⟨k⟩
theorem qK (h:Hk b→a:=by intro zz;refine fi ?_;refine dO zz.1):a:=h ⟨k⟩
theorem sU (h:Hk b→a:=by intro zz;refine em ?_;refine aF zz.1):a:=h ⟨k⟩
theorem AR (h:Hk b→a:=by intro zz;refine zm5 ?_;refine io ?_;refine TL.nil (ai (TC.seq zz.1))):a:=h ⟨k⟩
theorem xb (h:Hk b→a:=by intro zz;refine bB (ga ?_);refine TF.back (TF.nil (vE (L':=(b3,_)::((b2,_)::((b1,_)::(ob22)))) (eN [[(b3,_)],[(b2,_)],[(b1,_)],ob22] [0,1,2,3] rfl) zz.1))):a:=h ⟨k⟩
theorem wZ (h:Hk b→a:=by intro zz;refine iz ?_;refine zK zz.1):a:=h ⟨k⟩
theorem wX (h:Hk b→a:=by intro zz;refine ik ?_;refine zm2 zz.1):a:=h ⟨k⟩
theorem wS (h:Hk b→a:=by intro zz;refine iM ?_;refine dO zz.1):a:=h ⟨k⟩
theorem AJ (h:Hk b→a:=by intro zz;refine TC.exit (cI (dZ (ai ?_)));refine TC.region zz.1):a:=h ⟨k⟩
theorem AH (h:Hk b→a:=by intro zz;refine eG ?_;refine cM zz.1):a:=h ⟨k⟩
theorem AG (h:Hk b→a:=by intro zz;refine bg (bG rfl hl) rfl (zm6 ?_);refine az (ae rfl hT rfl om om) rfl (zm4 ?_);refine bg (aT hT hx rfl rfl) rfl zz.1):a:=h ⟨k⟩
theorem AD (h:Hk b→a:=by intro zz;refine dn ?_;refine il zz.1):a:=h ⟨k⟩
theorem Ao (h:Hk b→a:=by intro zz;refine dn ?_;refine mW zz.1):a:=h ⟨k⟩
theorem z2 (h:Hk b→a:=by intro zz;refine jz ?_;refine oq zz.1):a:=h ⟨k⟩
theorem zI (h:Hk b→a:=by intro zz;refine fC ?_;refine zm0 zz.1):a:=h ⟨k⟩
theorem DR (h:Hk b→a:=by intro zz;refine kS ?_;refine gK rfl zz.1):a:=h ⟨k⟩
theorem zm7 (h:Hk b→a:=by intro zz;refine jK ?_;refine TC.seq zz.1):a:=h ⟨k⟩
theorem dv (h:Hk b→a:=by intro zz;refine fi ?_;refine zm2 zz.1):a:=h ⟨k⟩
theorem eE (h:Hk b→a:=by intro zz;refine el ?_;refine zm1 zz.1):a:=h ⟨k⟩
theorem iB (h:Hk b→a:=by intro zz;refine fN ?_;refine TC.seq zz.1):a:=h ⟨k⟩
theorem jO (h:Hk b→a:=by intro zz;refine ip ?_;refine fj zz.1):a:=h ⟨k⟩
theorem kW (h:Hk b→a:=by intro zz;refine zm1 ?_;refine el zz.1):a:=h ⟨k⟩
theorem kU (h:Hk b→a:=by intro zz;refine ip ?_;refine iN zz.1):a:=h ⟨k⟩
theorem kR (h:Hk b→a:=by intro zz;refine dE ?_;refine cu zz.1):a:=h ⟨k⟩
theorem jJ (h:Hk b→a:=by intro zz;refine jK ?_;refine TC.ret zz.1):a:=h ⟨k⟩
theorem od (h:Hk b→a:=by intro zz;refine aF (bh (aF (aF ?_)));refine bh (aF zz.1)):a:=h ⟨k⟩
theorem iq (h:Hk b→a:=by intro zz;refine jK ?_;refine TC.block zz.1):a:=h ⟨k⟩
theorem oP (h:Hk b→a:=by intro zz;refine iM ?_;refine zm2 zz.1):a:=h ⟨k⟩
theorem rt (h:Hk b→a:=by intro zz;refine cv ?_;refine gm zz.1):a:=h ⟨k⟩
theorem rm (h:Hk b→a:=by intro zz;refine zm1 ?_;refine mY zz.1):a:=h ⟨k⟩
theorem qY (h:Hk b→a:=by intro zz;refine zN ?_;refine gN zz.1):a:=h ⟨k⟩
theorem nc (h:Hk b→a:=by intro zz;refine fi ?_;refine TC.seq (fW kr kr zz.1)):a:=h ⟨k⟩
theorem tz (h:Hk b→a:=by intro zz;refine dn ?_;refine dH zz.1):a:=h ⟨k⟩
theorem te (h:Hk b→a:=by intro zz;refine fi ?_;refine TC.seq (dO zz.1)):a:=h ⟨k⟩
theorem sY (h:Hk b→a:=by intro zz;refine ik ?_;refine el zz.1):a:=h ⟨k⟩
theorem k7 (h:Hk b→a:=by intro zz;refine zm3 ?_;refine dE zz.1):a:=h ⟨k⟩
theorem sT (h:Hk b→a:=by intro zz;refine gn ?_;refine iA zz.1):a:=h ⟨k⟩
theorem ww (h:Hk b→a:=by intro zz;refine ip ?_;refine mZ zz.1):a:=h ⟨k⟩
theorem AP (h:Hk b→a:=by intro zz;refine fC ?_;refine ot zz.1):a:=h ⟨k⟩
theorem AL (h:Hk b→a:=by intro zz;refine ai (TC.seq (fC zz.1))):a:=h ⟨k⟩
theorem Ay (h:Hk b→a:=by intro zz;refine zm5 ?_;refine io ?_;refine gN zz.1):a:=h ⟨k⟩
theorem Am (h:Hk b→a:=by intro zz;refine cC ?_;refine gm zz.1):a:=h ⟨k⟩
theorem wq (h:Hk b→a:=by intro zz;refine iz ?_;refine oE zz.1):a:=h ⟨k⟩
theorem DS (h:Hk b→a:=by intro zz;refine fg (ip ?_);refine TL.run (fK rfl rfl om om) rfl zz.1):a:=h ⟨k⟩
theorem DO (h:Hk b→a:=by intro zz;refine fk ?_;refine TL.run (ah rfl rfl hL) rfl zz.1):a:=h ⟨k⟩
theorem sQ (h:Hk b→a:=by intro zz;refine bn (ai (TC.region (oq zz.1)))):a:=h ⟨k⟩
theorem Hd (h:Hk b→a:=by intro zz;refine ga ?_;refine sU zz.1):a:=h ⟨k⟩
theorem gq (h:Hk b→a:=by intro zz;refine jJ ?_;refine aF zz.1):a:=h ⟨k⟩
theorem nK (h:Hk b→a:=by intro zz;refine ip ?_;refine zm1 zz.1):a:=h ⟨k⟩
theorem oh (h:Hk b→a:=by intro zz;refine TC.skip (sQ zz.1)):a:=h ⟨k⟩
theorem oe (h:Hk b→a:=by intro zz;refine fC ?_;refine zm1 zz.1):a:=h ⟨k⟩
theorem lo (h:Hk b→a:=by intro zz;refine TL.nil (sQ zz.1)):a:=h ⟨k⟩
theorem nt (h:Hk b→a:=by intro zz;refine ik ?_;refine fC zz.1):a:=h ⟨k⟩
theorem lg (h:Hk b→a:=by intro zz;refine il ?_;refine lf zz.1):a:=h ⟨k⟩
theorem oN (h:Hk b→a:=by intro zz;refine fi ?_;refine el zz.1):a:=h ⟨k⟩
theorem oK (h:Hk b→a:=by intro zz;refine fN ?_;refine zm2 zz.1):a:=h ⟨k⟩
theorem rF (h:Hk b→a:=by intro zz;refine jL ?_;refine gm zz.1):a:=h ⟨k⟩
theorem rk (h:Hk b→a:=by intro zz;refine zm5 ?_;refine io ?_;refine jo zz.1):a:=h ⟨k⟩
theorem ra (h:Hk b→a:=by intro zz;refine TC.seq (iq zz.1)):a:=h ⟨k⟩
theorem iX (h:Hk b→a:=by intro zz;refine ol ?_;refine oq zz.1):a:=h ⟨k⟩
theorem tH (h:Hk b→a:=by intro zz;refine zm1 ?_;refine ip zz.1):a:=h ⟨k⟩
theorem tC (h:Hk b→a:=by intro zz;refine lh ?_;refine cu zz.1):a:=h ⟨k⟩
theorem AQ (h:Hk b→a:=by intro zz;refine eG ?_;refine gm zz.1):a:=h ⟨k⟩
theorem AM (h:Hk b→a:=by intro zz;refine jK ?_;refine zm2 zz.1):a:=h ⟨k⟩
theorem AI (h:Hk b→a:=by intro zz;refine dn ?_;refine fO zz.1):a:=h ⟨k⟩
theorem AC (h:Hk b→a:=by intro zz;refine ik ?_;refine jp zz.1):a:=h ⟨k⟩
theorem wr (h:Hk b→a:=by intro zz;refine aF (bh (iy zz.1))):a:=h ⟨k⟩
theorem Aj (h:Hk b→a:=by intro zz;refine wq ?_;refine au rfl zz.1):a:=h ⟨k⟩
theorem z8 (h:Hk b→a:=by intro zz;refine zm1 ?_;refine fC zz.1):a:=h ⟨k⟩
theorem oi (h:Hk b→a:=by intro zz;refine el ?_;refine em zz.1):a:=h ⟨k⟩
theorem d6 (h:Hk b→a:=by intro zz;refine TC.skip (iX zz.1)):a:=h ⟨k⟩
theorem ki (h:Hk b→a:=by intro zz;refine jJ ?_;refine bh (aF zz.1)):a:=h ⟨k⟩
theorem lj (h:Hk b→a:=by intro zz;refine fi ?_;refine dH zz.1):a:=h ⟨k⟩
theorem nl (h:Hk b→a:=by intro zz;refine dH ?_;refine em zz.1):a:=h ⟨k⟩
theorem nj (h:Hk b→a:=by intro zz;refine TL.nil (iX zz.1)):a:=h ⟨k⟩
theorem oQ (h:Hk b→a:=by intro zz;refine iM ?_;refine fC zz.1):a:=h ⟨k⟩
theorem oM (h:Hk b→a:=by intro zz;refine cu ?_;refine sQ zz.1):a:=h ⟨k⟩
theorem oJ (h:Hk b→a:=by intro zz;refine TF.back (TF.nil (sQ zz.1))):a:=h ⟨k⟩
theorem oF (h:Hk b→a:=by intro zz;refine jK ?_;refine el zz.1):a:=h ⟨k⟩
theorem oD (h:Hk b→a:=by intro zz;refine fk ?_;refine zm1 zz.1):a:=h ⟨k⟩
theorem re (h:Hk b→a:=by intro zz;refine fN ?_;refine k9 zz.1):a:=h ⟨k⟩
theorem tL (h:Hk b→a:=by intro zz;refine fN ?_;refine el zz.1):a:=h ⟨k⟩
theorem tI (h:Hk b→a:=by intro zz;refine iM ?_;refine jm zz.1):a:=h ⟨k⟩
theorem tG (h:Hk b→a:=by intro zz;refine zm1 ?_;refine zI zz.1):a:=h ⟨k⟩
theorem tD (h:Hk b→a:=by intro zz;refine fN ?_;refine mY zz.1):a:=h ⟨k⟩
theorem tx (h:Hk b→a:=by intro zz;refine iB ?_;refine zm2 zz.1):a:=h ⟨k⟩
theorem xj (h:Hk b→a:=by intro zz;refine gn ?_;refine gm zz.1):a:=h ⟨k⟩
theorem xf (h:Hk b→a:=by intro zz;refine dE ?_;refine iG zz.1):a:=h ⟨k⟩
theorem wH (h:Hk b→a:=by intro zz;refine TF.nil (iX zz.1)):a:=h ⟨k⟩
theorem AO (h:Hk b→a:=by intro zz;refine dE ?_;refine fM rfl rfl rfl (fM rfl rfl rfl (fM rfl rfl rfl (cC zz.1)))):a:=h ⟨k⟩
theorem AK (h:Hk b→a:=by intro zz;refine iM ?_;refine dH zz.1):a:=h ⟨k⟩
theorem sS (h:Hk b→a:=by intro zz;refine jL ?_;refine k7 zz.1):a:=h ⟨k⟩
theorem zP (h:Hk b→a:=by intro zz;refine oi ?_;refine aF zz.1):a:=h ⟨k⟩
theorem Em (h:Hk b→a:=by intro zz;refine DM ?_;refine DM zz.1):a:=h ⟨k⟩
theorem Hx (h:Hk b→a:=by intro zz;refine G9 ?_;refine G9 zz.1):a:=h ⟨k⟩
theorem Hc (h:Hk b→a:=by intro zz;refine nc ?_;refine mV zz.1):a:=h ⟨k⟩
theorem iW (h:Hk b→a:=by intro zz;refine cu ?_;refine iX zz.1):a:=h ⟨k⟩
theorem jn (h:Hk b→a:=by intro zz;refine gp ?_;refine iq zz.1):a:=h ⟨k⟩
theorem li (h:Hk b→a:=by intro zz;refine gn ?_;refine k7 zz.1):a:=h ⟨k⟩
theorem ni (h:Hk b→a:=by intro zz;refine jK ?_;refine ip zz.1):a:=h ⟨k⟩
theorem oA (h:Hk b→a:=by intro zz;refine fi ?_;refine zI zz.1):a:=h ⟨k⟩
theorem rE (h:Hk b→a:=by intro zz;refine TC.skip (bn (ai (jJ zz.1)))):a:=h ⟨k⟩
theorem rB (h:Hk b→a:=by intro zz;refine jK ?_;refine dH zz.1):a:=h ⟨k⟩
theorem qW (h:Hk b→a:=by intro zz;refine TL.nil (ai (TC.seq (iq zz.1)))):a:=h ⟨k⟩
theorem qT (h:Hk b→a:=by intro zz;refine fk ?_;refine TL.run (ah rfl rfl ha) rfl (zm1 zz.1)):a:=h ⟨k⟩
theorem qS (h:Hk b→a:=by intro zz;refine Hc ?_;refine TQ.run (ae rfl ha rfl om om) rfl zz.1):a:=h ⟨k⟩
theorem sZ (h:Hk b→a:=by intro zz;refine dE ?_;refine iC zz.1):a:=h ⟨k⟩
theorem sW (h:Hk b→a:=by intro zz;refine nc ?_;refine zJ zz.1):a:=h ⟨k⟩
theorem xk (h:Hk b→a:=by intro zz;refine TL.nil (ai (TC.block (eE zz.1)))):a:=h ⟨k⟩
theorem wW (h:Hk b→a:=by intro zz;refine bh (aF (wr zz.1))):a:=h ⟨k⟩
theorem wE (h:Hk b→a:=by intro zz;refine dv ?_;refine kH zz.1):a:=h ⟨k⟩
theorem AE (h:Hk b→a:=by intro zz;refine dE ?_;refine fM rfl rfl rfl (fM rfl rfl rfl (zM zz.1))):a:=h ⟨k⟩
theorem Aa (h:Hk b→a:=by intro zz;refine DO ?_;refine zm1 zz.1):a:=h ⟨k⟩
theorem z1 (h:Hk b→a:=by intro zz;refine k9 ?_;refine Hd zz.1):a:=h ⟨k⟩
theorem zX (h:Hk b→a:=by intro zz;refine TL.nil (ai (oi zz.1))):a:=h ⟨k⟩
theorem zT (h:Hk b→a:=by intro zz;refine zm1 ?_;refine iq zz.1):a:=h ⟨k⟩
theorem kh (h:Hk b→a:=by intro zz;refine iM ?_;refine iq zz.1):a:=h ⟨k⟩
theorem kM (h:Hk b→a:=by intro zz;refine zm1 ?_;refine nK zz.1):a:=h ⟨k⟩
theorem kI (h:Hk b→a:=by intro zz;refine TL.nil (bn (ai (lg zz.1)))):a:=h ⟨k⟩
theorem oG (h:Hk b→a:=by intro zz;refine ik ?_;refine oe zz.1):a:=h ⟨k⟩
theorem rz (h:Hk b→a:=by intro zz;refine fi ?_;refine eE zz.1):a:=h ⟨k⟩
theorem tB (h:Hk b→a:=by intro zz;refine dE ?_;refine kR zz.1):a:=h ⟨k⟩
theorem sR (h:Hk b→a:=by intro zz;refine dE ?_;refine k7 zz.1):a:=h ⟨k⟩
theorem An (h:Hk b→a:=by intro zz;refine k8 ?_;refine sQ zz.1):a:=h ⟨k⟩
theorem DP (h:Hk b→a:=by intro zz;refine zm0 ?_;refine iG ?_;refine qK zz.1):a:=h ⟨k⟩
theorem fD (h:Hk b→a:=by intro zz;refine fN ?_;refine jJ zz.1):a:=h ⟨k⟩
theorem kX (h:Hk b→a:=by intro zz;refine jJ ?_;refine iy zz.1):a:=h ⟨k⟩
theorem kJ (h:Hk b→a:=by intro zz;refine k8 ?_;refine iX zz.1):a:=h ⟨k⟩
theorem lr (h:Hk b→a:=by intro zz;refine iG ?_;refine gq zz.1):a:=h ⟨k⟩
theorem AB (h:Hk b→a:=by intro zz;refine li ?_;refine cu zz.1):a:=h ⟨k⟩
theorem As (h:Hk b→a:=by intro zz;refine im ?_;refine sT zz.1):a:=h ⟨k⟩
theorem jA (h:Hk b→a:=by intro zz;refine fN ?_;refine oi zz.1):a:=h ⟨k⟩
theorem kg (h:Hk b→a:=by intro zz;refine zm7 ?_;refine iq zz.1):a:=h ⟨k⟩
theorem rC (h:Hk b→a:=by intro zz;refine oi ?_;refine iy zz.1):a:=h ⟨k⟩
theorem rq (h:Hk b→a:=by intro zz;refine jJ ?_;refine bh (iy zz.1)):a:=h ⟨k⟩
theorem tJ (h:Hk b→a:=by intro zz;refine sR ?_;refine cu zz.1):a:=h ⟨k⟩
theorem tf (h:Hk b→a:=by intro zz;refine iB ?_;refine iq zz.1):a:=h ⟨k⟩
theorem wQ (h:Hk b→a:=by intro zz;refine DN ?_;refine TF.back (TF.nil (iX zz.1))):a:=h ⟨k⟩
theorem wu (h:Hk b→a:=by intro zz;refine dE ?_;refine sS zz.1):a:=h ⟨k⟩
theorem AA (h:Hk b→a:=by intro zz;refine jJ ?_;refine od zz.1):a:=h ⟨k⟩
theorem qU (h:Hk b→a:=by intro zz;refine ni ?_;refine TL.run (ah rfl rfl ha) rfl (zm0 ?_);refine TL.run (ah rfl rfl hb) rfl (zm1 zz.1)):a:=h ⟨k⟩
theorem tu (h:Hk b→a:=by intro zz;refine TC.skip (bn (ai (TC.region ?_)));refine nf ?_;refine mj (fg (zm7 zz.1))):a:=h ⟨k⟩
theorem ti (h:Hk b→a:=by intro zz;refine zm1 ?_;refine kg zz.1):a:=h ⟨k⟩
theorem wN (h:Hk b→a:=by intro zz;refine DS ?_;refine DP zz.1):a:=h ⟨k⟩
theorem wt (h:Hk b→a:=by intro zz;refine sR ?_;refine k7 zz.1):a:=h ⟨k⟩
theorem DQ (h:Hk b→a:=by intro zz;refine TF.back (TF.nil (ol ?_));refine nf ?_;refine mj (fg (ip ?_));refine TL.run (fK rfl rfl om om) rfl zz.1):a:=h ⟨k⟩
theorem AF (h:Hk b→a:=by intro zz;refine wu ?_;refine sS zz.1):a:=h ⟨k⟩
theorem wM (h:Hk b→a:=by intro zz;refine DQ ?_;refine DR zz.1):a:=h ⟨k⟩
theorem xe (h:Hk b→a:=by intro zz;refine wt ?_;refine k7 zz.1):a:=h ⟨k⟩
end
end Go.Sx
