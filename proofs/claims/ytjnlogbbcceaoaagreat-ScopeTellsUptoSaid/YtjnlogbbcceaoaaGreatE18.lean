import Derived.Test.YtjnlogbbcceaoaaGreatE17
set_option linter.all false
set_option maxRecDepth 100000
set_option maxHeartbeats 32000000
namespace Go.Sx
open Go Go.Proofs
theorem BS {H:Hp}{pg:SProg}{q:SProc}(i:Int)(hP:ProgOk H pg)(h0:0≤i)(hq:pg.procs[i.toNat]? =some q)(hz:se q):
  FnS Tryz.prog 52 [.agg pg.cells.toArray,.int .i64 i] H (.agg (bf pg.procs i q).cells.toArray):=by
 have hPm:=hP.q.max
 have hlt:=eY hq
 have hQ:=hP.qs q (List.mem_of_getElem? hq)
 refine FnS.enter Tryz.func52 Tryz.ntmps52 rfl rfl (fun w0=>?_)
 refine zm2 ?_
 refine TL.box rfl rfl (fun b2=>?_)
 refine TL.alloc rfl (fun b4=>?_)
 refine gN ?_;refine kH ?_;refine Az ?_;refine TL.run (aY hP.q hq rfl rfl) rfl (TL.alloc rfl (fun b5=>?_))
 refine m4 ?_;refine il ?_;refine ar (ab rfl rfl rfl rfl) (zr q hQ) rfl (zm1 ?_)
 refine TC.cond rfl ?_ ?_<;>intro c16
 ·
  refine el ?_;refine ar (ab rfl rfl rfl rfl) (dL 1500 i (-1)) rfl (lf ?_)
  exact aF (ao (.inr rfl) (ad rfl (RVal.cellA rfl (.h1) rfl)) (by rw [hs_1 (by rw [vo (gD c16)];show ¬(1500:Int)=0;decide),vo (gD c16)];rfl))
 have hsz:=EW (eX c16)
 refine gp ?_
 refine a7 (decide (dk pg.procs q.name<i)|| !dt (q.params.map (·.name))) 28 [(1,_),(4,_),(5,_)] ky ?_ ?_
 ·
  refine TC.region (TL.run (bA rfl (.h2) rfl) rfl (fj ?_));refine ar (ab rfl rfl rfl rfl) (j6 q.name hP) rfl (rf ?_)
  refine ag (s:=25) rfl ?_ ?_<;>intro g25
  ·
   have q25:=of_decide_eq_true g25
   refine jL ?_;refine cu ?_
   exact aB rfl (by first | (simp_all;done) | (simp_all;omega)) ky
  have q25:=of_decide_eq_false g25
  refine oO ?_;refine aH rfl rfl (ab rfl rfl rfl rfl) (u5 q hQ) rfl (cu ?_)
  exact aB rfl (by first | (simp_all;done) | (simp_all;omega)) ky
 refine TC.cond rfl ?_ ?_<;>intro c28
 ·
  refine el ?_;refine ar (ab rfl rfl rfl rfl) (dL 1501 i (-1)) rfl (lf ?_)
  exact aF (ao (.inr rfl) (ad rfl (RVal.cellA rfl (.h1) rfl)) (by rw [hs_1 (by rw [vn (eX c16) c28];show ¬(1501:Int)=0;decide),vn (eX c16) c28];rfl))
 refine AD ?_
 refine bD (ab rfl rfl rfl rfl) (pA q hQ hz hsz.1 hsz.2.1) rfl (fun v32 H32 ob32 hle32 hp32=>?_)
 have hO32:OwnSl 1 I64.cells v32 (gC q) ob32:=hp32
 obtain⟨a32,c32,rfl⟩:=hO32.form
 replace hQ:=hQ.le hle32
 refine TL.pubO hO32 (.s2 (.skip _ .all)) sq (fun HP32 leP32 hR32=>?_)
 replace hQ:=hQ.le leP32
 refine z8 ?_;refine TL.run (ah rfl rfl hQ.t) rfl (fh rfl rfl (by first | omega | decide) (by first | omega | decide) (by first | omega | decide) rfl (fun b36=>?_))
 refine kh ?_
 refine aK (V:=fun(p:Int×List Bool) v ob H1=>[(8,.int .i64 p.1)]) (K:=[(1,_),(4,_),(5,_),(6,_),(7,_)]) (L:=fun(p:Int×List Bool) v ob H1=>St [] w0 H H1 ((b36,(p.2).map Value.bool)::(b5,q.cells)::(b4,[.int .i64 0,.int .i64 0,.int .i64 0])::(b2,pg.cells)::[])) (I:=fun(p:Int×List Bool) v ob H1=>(0≤p.1∧p.1≤q.steps.length)∧HP32.le H1∧p.2.length=q.terms.length∧f4 i q=gy q i (gC q) (q.steps.drop p.1.toNat) p.1 p.2) (μ:=fun(p:Int×List Bool)=>(q.steps.length - p.1).toNat) ((0:Int),List.replicate q.terms.length false) .nilFunc [] HP32 ky ⟨o2q,Hp.le.refl _,by simp,(A8 hsz.2.1 hsz.1).symm⟩ (fun w hw=>by rw [yT] at hw;exact hw) (fun p v ob H1 hI=>?_)
 obtain⟨⟨k0,k1⟩,hle1,hul,hS⟩:=hI
 obtain⟨k,u⟩:=p
 dsimp only at *
 replace hQ:=hQ.le hle1
 replace hR32:=hR32.le hle1
 refine kU ?_;refine TL.run (ah rfl rfl hQ.s) rfl (zm1 ?_)
 refine af rfl ?_ ?_<;>intro c41
 ·
  obtain⟨s,hx⟩:=aj (l:=q.steps) k0 c41
  have hs:=hQ.ss s (List.mem_of_getElem? hx)
  refine fi ?_;refine TC.block (jm ?_);refine zm0 ?_;refine Ar ?_;refine ar (ab rfl rfl rfl rfl) (zt s hs) rfl (kS ?_)
  refine TC.cond rfl ?_ ?_<;>intro c44
  ·
   refine dH ?_;refine ar (ab rfl rfl rfl rfl) (dL 1500 i k) rfl (no ?_);refine bh (iy ?_)
   exact ao (.inr rfl) (ad rfl (RVal.cellA rfl (.h2) rfl)) (by rw [B7 (by rw [ma (eX c16) c28];rfl),rs_form k0 hx (gD c44) hS];rfl)
  have hm:=eX c44
  have hsm:=dY hm
  refine nh ?_;refine zm3 ?_;refine ar (ab rfl rfl rfl rfl) (zq k hQ hR32 (EJ q) (yX q) k0 hx (hz s (List.mem_of_getElem? hx)) hsz.2.1) rfl (kS ?_)
  refine TC.cond rfl ?_ ?_<;>intro c55
  ·
   refine dH ?_;refine ar (ab rfl rfl rfl rfl) (dL 1502 i k) rfl (no ?_);refine bh (iy ?_)
   exact ao (.inr rfl) (ad rfl (RVal.cellA rfl (.h2) rfl)) (by rw [B7 (by rw [ma (eX c16) c28];rfl),rs_tree k0 hx hm (gD c55) hS];rfl)
  refine jm ?_;refine zm0 ?_;refine Ar ?_;refine ar (ab rfl rfl rfl rfl) (BU s) rfl (zm3 ?_)
  refine ag (s:=72) rfl ?_ ?_<;>intro g72
  ·
   refine lh ?_;refine zm0 ?_;refine iG ?_;refine dH ?_;refine ar (ab rfl rfl rfl rfl) (dL 1503 i k) rfl (no ?_);refine bh (iy ?_)
   exact ao (.inr rfl) (ad rfl (RVal.cellA rfl (.h2) rfl)) (by rw [B7 (by rw [ma (eX c16) c28];rfl),rs_root k0 hx hm (eX c55) (gD g72) hS];rfl)
  have hro:=eX g72
  refine aw rfl rfl (bA rfl (.h1) rfl) rfl (eG ?_)
  refine TL.gd rfl rfl (ec (L1:=(b36,(u).map Value.bool)::[]) (L2:=[(b5,_),(b4,_),(b2,_)]) (ab rfl rfl rfl rfl) (vX k hQ k0 hx hsm.2 hul hsz.2.2.1) rfl (fun v76 H76 L76 hle76 hp76=>?_))
  obtain⟨u2,rfl,hul2,hor⟩:=hp76
  replace hle1:=hle1.trans hle76
  rcases hor with ⟨rfl,hru⟩ | ⟨rfl,hru⟩
  ·
   refine cv ?_;refine kS ?_
   refine TC.cond rfl ?_ ?_<;>intro c64
   ·
    refine dH ?_;refine ar (ab rfl rfl rfl rfl) (dL 1503 i k) rfl (no ?_);refine bh (iy ?_)
    exact ao (.inr rfl) (ad rfl (RVal.cellA rfl (.h2) rfl)) (by rw [B7 (by rw [ma (eX c16) c28];rfl),rs_term k0 hx hm (eX c55) (eX g72) hru hS];rfl)
   exact absurd c64 dq
  refine cv ?_;refine kS ?_
  refine TC.cond rfl ?_ ?_<;>intro c64
  · exact absurd c64 dq
  refine TC.skip (bn (iX ?_))
  exact ay (i:=(k,u)) (k+1,u2) .nilFunc [] H76 ⟨o2q,hle1,hul2,rs_next k0 hx hm (eX c55) hro hru hS⟩ ky (fun w hw=>hw) om
 refine re ?_;refine no ?_
 exact ao (.inr rfl) (ad rfl (RVal.cellA rfl (.h2) rfl)) (by rw [B7 (by rw [ma (eX c16) c28];rfl),rs_end k0 c41 hS];rfl)
def ja (l:List Str)(s:Str):List Str:=l.foldl cj [s]
theorem BE {o i:List Str}{x:Str}:x∈o.foldl cj i↔x∈o∨x∈i:=by
 induction o generalizing i with
 | nil=>simp
 | cons y r ih=>
  rw [List.foldl_cons,ih,zi,List.mem_cons]
  constructor
  ·rintro(h | h | h)
   ·exact .inl (.inr h)
   ·exact .inl (.inl h)
   ·exact .inr h
  ·rintro((h | h) | h)
   ·exact .inr (.inl h)
   ·exact .inl h
   ·exact .inr (.inr h)
theorem IX {l:List Str}{s x:Str}:x∈ja l s↔x=s∨x∈l:=by
 unfold ja;rw [BE];simp [or_comm]
theorem qt {o i:List Str}{x:Str}:x∈o.foldl ja i↔x∈o∨x∈i:=by
 induction o generalizing i with
 | nil=>simp
 | cons y r ih=>
  rw [List.foldl_cons,ih,IX,List.mem_cons]
  constructor
  ·rintro(h | h | h)
   ·exact .inl (.inr h)
   ·exact .inl (.inl h)
   ·exact .inr h
  ·rintro((h | h) | h)
   ·exact .inr (.inl h)
   ·exact .inl h
   ·exact .inr (.inr h)
theorem FU (l:List Str)(s:Str):(cj l s).length≤l.length+1:=by
 induction l with
 | nil=>simp [cj]
 | cons y r ih=>
  unfold cj
  split
  ·simp;exact ih
  ·split<;>simp
theorem Ir (l:List Str)(s:Str):(ja l s).length≤l.length+1:=by
 unfold ja
 have:∀(o i:List Str),(o.foldl cj i).length≤o.length+i.length:=by
  intro o
  induction o with
  | nil=>intro i;simp
  | cons y r ih=>
   intro i
   rw [List.foldl_cons]
   have h1:=ih (cj i y)
   have h2:=FU i y
   simp only [List.length_cons];omega
 have:=this l [s]
 simpa using this
theorem gZ (o i:List Str):(o.foldl ja i).length≤o.length+i.length:=by
 induction o generalizing i with
 | nil=>simp
 | cons y r ih=>
  rw [List.foldl_cons]
  have h1:=ih (i:=ja i y)
  have h2:=Ir i y
  simp only [List.length_cons];omega
def wbF (i:Int)(w:SWay):Bool:=decide (w.next=i)&& !decide (w.name=[])
def cK (s:SStep)(i:Int):List Str:=(if s.kind=1∨s.kind=8 then [s.name] else [])++(if s.kind=5 then(s.ways.filter (wbF i)).map (·.name) else [])
def vC (q:SProc)(up:List Int):Nat→Int→List Str→List Str
 | 0,_,acc=>acc
 | f+1,i,acc=>if i≤0 then acc else match q.steps[(aP up i).toNat]? with
  | none=>acc
  | some s=>vC q up f (aP up i) ((cK s i).foldl ja acc)
def iR (q:SProc)(up:List Int)(at_:Int):List Str:=vC q up at_.toNat at_ ((q.params.map (·.name)).foldl ja [])
def chW (q:SProc)(up:List Int):Nat→Int→List Str
 | 0,_=>[]
 | f+1,i=>if i≤0 then [] else match q.steps[(aP up i).toNat]? with
  | none=>[]
  | some s=>cK s i++chW q up f (aP up i)
theorem BG {q:SProc}{up:List Int}{x:Str}:∀(f:Nat) (i:Int) (acc:List Str),x∈vC q up f i acc↔x∈acc∨x∈chW q up f i
 | 0,i,acc=>by simp [vC,chW]
 | f+1,i,acc=>by
  rw [vC,chW]
  split
  ·simp
  ·split
   ·simp
   ·rename_i s hs
    rw [BG f,qt,List.mem_append]
    constructor
    ·rintro((h | h) | h)
     ·exact .inr (.inl h)
     ·exact .inl h
     ·exact .inr (.inr h)
    ·rintro(h | h | h)
     ·exact .inl (.inr h)
     ·exact .inl (.inl h)
     ·exact .inr h
theorem Cm {q:SProc}{up:List Int}(hlt:∀j:Int,0≤j→j<q.steps.length→aP up j<j):∀(f g:Nat) (i:Int),i<q.steps.length→i≤f→i≤g→chW q up f i=chW q up g i
 | 0,0,_,_,_,_=>rfl
 | 0,g+1,i,_,h,_=>by rw [chW,chW,if_pos om]
 | f+1,0,i,_,_,h=>by rw [chW,chW,if_pos om]
 | f+1,g+1,i,hn,h1,h2=>by
  rw [chW,chW]
  split
  ·rfl
  ·rename_i h0
   have:=hlt i om hn
   split
   ·rfl
   ·rw [Cm hlt f g (aP up i) om om om]
theorem uR {q:SProc}{up:List Int}{at_:Int}{x:Str}:x∈iR q up at_↔x∈q.params.map (·.name)∨x∈chW q up at_.toNat at_:=by
 unfold iR;rw [BG,qt];simp
theorem qo {q:SProc}{n i:Int}(hi:0≤i){s:SStep}(hs:q.steps[i.toNat]? =some s):∀{L:List Int} {p:List Int×List Int},n≤p.1.length→(∀t∈L,t∈aW s)→(∀j:Int,0≤j→j<n→0≤aP p.1 j→Par q (aP p.1 j) j)→∀j:Int,0≤j→j<n→0≤aP (dJ n i L p).1 j→Par q (aP (dJ n i L p).1 j) j
 | [],p,_,_,h=>h
 | t::r,p,hn,hL,h=>by
  rw [dJ]
  split
  ·exact qo hi hs hn (fun u hu=>hL u (by simp [hu])) h
  ·rename_i ht
   refine qo hi hs (by simpa using hn) (fun u hu=>hL u (by simp [hu])) (fun j hj hjn h0=>?_)
   dsimp only at h0 ⊢
   by_cases e:j=t
   ·subst e
    rw [gF om om hj,if_pos rfl] at h0 ⊢
    split at h0
    ·omega
    ·rename_i h2;rw [if_neg h2];exact⟨hi,s,hs,hL j sq⟩
   ·rw [mM om hj e] at h0 ⊢
    exact h j hj hjn h0
theorem Dd {q:SProc}(hS:bX q){n:Int}:∀(l:List SStep) (k:Nat) (p:List Int×List Int),l=q.steps.drop k→n≤p.1.length→(∀j:Int,0≤j→j<n→0≤aP p.1 j→Par q (aP p.1 j) j)→∀j:Int,0≤j→j<n→0≤aP (eV n l k p).1 j→Par q (aP (eV n l k p).1 j) j:=by
 intro l
 induction l with
 | nil=>intro k p _ _ h;exact h
 | cons s r ih=>
  intro k p hl hn h
  have hx:q.steps[k]? =some s:=by
   have h1:(q.steps.drop k)[0]? =some s:=by rw [← hl];rfl
   rwa [List.getElem?_drop,Nat.add_zero] at h1
  have hr:r=q.steps.drop (k+1):=by
   have h1:(q.steps.drop k).drop 1=r:=by rw [← hl];rfl
   rw [← h1,List.drop_drop]
  rw [eV]
  exact ih (k+1) _ hr (by rw [ia.1];exact hn) (qo om (by simpa using hx) hn (fun t ht=>by rw [← ql (hS k s hx).1];exact ht) h)
theorem par_par {q:SProc}(hS:bX q){j:Int}(h0:0≤j)(hn:j<q.steps.length)(hp:0≤aP (gC q) j):Par q (aP (gC q) j) j:=by
 unfold gC at hp ⊢
 refine Dd hS (n:=q.steps.length) q.steps 0 (j3 q.steps.length) rfl (by simp [j3]) (fun j hj hjn h=>?_) j h0 hn hp
 exfalso
 unfold j3 aP at h
 dsimp only at h
 rw [List.getElem?_set] at h
 split at h
 ·rw [if_pos (by simp;omega)] at h;simp at h
 ·rw [List.getElem?_replicate,if_pos om] at h;simp at h
theorem C3 {q:SProc}{i:Int}{up:List Int}:∀(l:List SStep) (k:Nat) (u:List Bool),l=q.steps.drop k→(gy q i up l k u).e=0→∀(j:Nat) (s:SStep),k≤j→q.steps[j]? =some s→iK q up j s=true∧cU s=true:=by
 intro l
 induction l with
 | nil=>
  intro k u hl _ j s hj hs
  have h1:=(List.getElem?_eq_some_iff.1 hs).1
  have h2:(q.steps.drop k).length=0:=by rw [← hl];rfl
  rw [List.length_drop] at h2;omega
 | cons x r ih=>
  intro k u hl h j s hj hs
  have hx:q.steps[k]? =some x:=by
   have h1:(q.steps.drop k)[0]? =some x:=by rw [← hl];rfl
   rwa [List.getElem?_drop,Nat.add_zero] at h1
  have hr:r=q.steps.drop (k+1):=by
   have h1:(q.steps.drop k).drop 1=r:=by rw [← hl];rfl
   rw [← h1,List.drop_drop]
  rw [gy] at h
  split at h
  ·cases h
  ·split at h
   ·cases h
   ·rename_i ht
    split at h
    ·cases h
    ·rename_i hro
     split at h
     ·cases h
     ·rename_i u2 _
      rcases Nat.lt_or_ge k j with hlt | hge
      ·exact ih (k+1) u2 hr h j s hlt hs
      ·have:j=k:=by omega
       subst this
       rw [hx] at hs;cases hs
       exact⟨by simpa using ht,by simpa using hro⟩
structure RefOk (q:SProc):Prop where
 s:bX q
 t:jl q
 n1:1≤q.steps.length
 n80:q.steps.length≤80
 t160:q.terms.length≤160
 p6:q.params.length≤6
 up:∀j:Int,0<j→j<q.steps.length→0≤aP (gC q) j∧Par q (aP (gC q) j) j
 ro:∀(k:Nat) (s:SStep),q.steps[k]? =some s→cU s=true
theorem yU {l:List SProc}{i:Int}{q:SProc}(h:(bf l i q).e=0):RefOk q:=by
 have hR:=yS h
 unfold bf at h
 split at h
 ·rename_i h2;exact absurd h h2
 ·rename_i h2
  have h2:(gO l i q).e=0:=by simpa using h2
  have hsz:(bM q&&q.params.all dr)=true:=by
   unfold gO at h2
   split at h2
   ·cases h2
   ·rename_i hg;simpa using hg
  have hz:=EW hsz
  have hs:=gX _ _ _ _ _ h
  have hS:bX q:=nT (i:=i) hs
  have hsh:(f4 i q).e=0:=h
  rw [← A8 hz.2.1 hz.1] at hsh
  have htr:=C3 _ 0 _ rfl hsh
  refine⟨hS,uf hS hz.2.1 hs,hz.1,hz.2.1,hz.2.2.1,hz.2.2.2,fun j h0 hn=>?_,fun k s hk=>(htr k s (Nat.zero_le _) hk).2⟩
  have hx:=List.getElem?_eq_getElem (l:=q.steps) (i:=j.toNat) om
  have h3:=(htr j.toNat _ (Nat.zero_le _) hx).1
  unfold iK at h3
  simp only [Bool.and_eq_true] at h3
  have h4:=h3.2.1
  rw [show((j.toNat:Nat):Int)=j by omega,decide_eq_true h0,Bool.true_and] at h4
  have h5:0≤aP (gC q) j:=by simpa using h4
  exact⟨h5,par_par hS om hn h5⟩
theorem RefOk.lt {q:SProc}(h:RefOk q):∀j:Int,0≤j→j<q.steps.length→aP (gC q) j<j:=yX q
def eS (s:SStep):List Str:=(if s.kind=1∨s.kind=8 then [s.name] else [])++(s.ways.filter (fun w=>!decide (w.name=[]))).map (·.name)
def lE (s:SStep):List Str:=if s.kind=4∨s.kind=5∨s.kind=9 then [s.name] else []
def gc (ts:List Term)(s:SStep):List Str:=((bV s).flatMap (fI ts)).foldl ja (lE s)
def er (P:SProg)(ts:List Term)(s:SStep)(have_:List Str):Int:=
 if(gc ts s).all (fun n=>bI have_ n)=false then 1505
 else if(eS s).all (fun n=>!bI have_ n)=false then 1506
 else if(callK s.kind&& !bL P.procs s.proc s.args.length)=true then 1507
 else if s.casts.all (fun c=>bL P.procs c.proc (c.args.length+1))=false then 1507
 else if(decide (s.kind=8)&& !dx P s)=true then 1508 else 0
theorem Cw {l l':List Str}{p:Str→Bool}(h:∀x,x∈l↔x∈l'):l.all p=l'.all p:=by
 rw [Bool.eq_iff_iff,List.all_eq_true,List.all_eq_true]
 exact⟨fun h1 x hx=>h1 x ((h x).2 hx),fun h1 x hx=>h1 x ((h x).1 hx)⟩
theorem CP {ts:List Term}{s:SStep}(hr:bV s=bJ s)(x:Str):x∈gc ts s↔x∈dA ts s:=by
 unfold gc dA lE
 rw [qt,hr,List.mem_append]
 simp only [List.mem_flatMap,HL]
theorem qu {s:SStep}(hm:dy s=true):(¬(s.kind=3∨s.kind=5)→s.ways=[])∧(s.kind=1∨s.kind=8→s.name≠[])∧(s.kind=3→∀w∈s.ways,w.name=[])∧(s.kind=6∨s.kind=7→s.proc≠[])∧(¬(s.kind=6∨s.kind=7)→s.proc=[]):=by
 have hm2:=hm
 rw [← iP] at hm2
 unfold sg at hm2
 split at hm2; · cases hm2
 split at hm2; · cases hm2
 rename_i htx
 split at hm2; · cases hm2
 rename_i hpb
 have htx:gv s=true:=by simpa using htx
 have hpb:fq s=false:=by simpa using hpb
 unfold gv at htx
 unfold fq at hpb
 simp only [Bool.and_eq_true] at htx
 simp only [Bool.or_eq_false_iff] at hpb
 obtain⟨t1,t2,t3,t4⟩:=htx
 obtain⟨p1,p2,p3,p4⟩:=hpb
 have hw:rP s=true:=by simpa using p3
 have hne:∀{x:Str},aN x=true→x≠[]:=fun {x} h e=>by subst e;exact absurd h dq
 refine⟨fun h=>?_,fun h=>?_,fun h w hw2=>?_,fun h=>?_,fun h=>?_⟩
 ·rw [CJ h] at hw;simpa using hw
 ·have:nE s.kind=true:=by unfold nE;rcases h with h | h<;>simp [h]
  rw [this] at t1;exact hne t1
 ·rw [jC (.inl h)] at hw
  unfold gb at hw
  rw [if_pos h] at hw
  simp only [Bool.and_eq_true,decide_eq_true_eq,mi] at hw
  obtain⟨h2,⟨_,h3⟩,⟨_,h4⟩⟩:=hw
  obtain⟨i,hi⟩:=List.getElem?_of_mem hw2
  have hlt:=(List.getElem?_eq_some_iff.1 hi).1
  have:i=0∨i=1:=by omega
  rcases this with e | e<;>subst e
  ·rw [hi] at h3;exact h3
  ·rw [hi] at h4;exact h4
 ·have:callK s.kind=true:=by unfold callK;rcases h with h | h<;>simp [h]
  rw [this] at t4;exact hne t4
 ·have:callK s.kind=false:=by unfold callK;simp;omega
  rw [this] at t4;simpa [pD] using t4
theorem ur {s:SStep}(hm:dy s=true)(x:Str):x∈eS s↔x∈cd s∧x≠[]:=by
 obtain⟨h1,h2,h3,_,_⟩:=qu hm
 unfold eS cd
 by_cases k1:s.kind=1∨s.kind=8
 ·have hw:=h1 om
  rw [if_pos k1,if_pos k1,hw]
  simp only [List.filter_nil,List.map_nil,List.append_nil,List.mem_singleton]
  exact⟨fun e=>⟨e,by rw [e];exact h2 k1⟩,fun e=>e.1⟩
 ·rw [if_neg k1,if_neg k1,List.nil_append]
  by_cases k5:s.kind=5
  ·rw [if_pos k5]
   simp only [List.mem_map,List.mem_filter]
   constructor
   ·rintro⟨w,⟨hw,hn⟩,rfl⟩
    exact⟨⟨w,hw,rfl⟩,by simpa using hn⟩
   ·rintro⟨⟨w,hw,rfl⟩,hn⟩
    exact⟨w,⟨hw,by simpa using hn⟩,rfl⟩
  ·rw [if_neg k5]
   have e:(s.ways.filter (fun w=>!decide (w.name=[])))=[]:=by
    rw [List.filter_eq_nil_iff]
    intro w hw
    by_cases k3:s.kind=3
    ·simp [h3 k3 w hw]
    ·rw [h1 om] at hw;cases hw
   rw [e]
   simp only [List.map_nil,List.not_mem_nil,List.mem_replicate,false_iff]
   rintro⟨⟨_,h⟩,h'⟩
   exact h' h
theorem FS {P:SProg}{ts:List Term}{s:SStep}{hv bd:List Str}(hm:dy s=true)(hr:cU s=true)(hb:∀x,x∈hv↔x∈bd):er P ts s hv=gw P ts s bd:=by
 have hh:∀n,bI hv n=bI bd n:=fun n=>by unfold bI;exact decide_eq_decide.2 (hb n)
 have e1:(gc ts s).all (fun n=>bI hv n)=(dA ts s).all (fun n=>bI bd n):=by
  rw [Cw (CP (gf hm hr))]
  simp only [hh]
 have e2:(eS s).all (fun n=>!bI hv n)=(cd s).all (fun n=>!(!decide (n=[])&&bI bd n)):=by
  rw [Bool.eq_iff_iff,List.all_eq_true,List.all_eq_true]
  constructor
  ·intro h x hx
   by_cases hn:x=[]
   ·simp [hn]
   ·have:=h x ((ur hm x).2 ⟨hx,hn⟩)
    rw [hh] at this
    simpa [hn] using this
  ·intro h x hx
   obtain⟨h1,h2⟩:=(ur hm x).1 hx
   have:=h x h1
   rw [hh]
   simpa [h2] using this
 have e3:(callK s.kind&& !bL P.procs s.proc s.args.length)=(!decide (s.proc=[])&& !bL P.procs s.proc s.args.length):=by
  obtain⟨_,_,_,h4,h5⟩:=qu hm
  congr 1
  by_cases k:s.kind=6∨s.kind=7
  ·have:callK s.kind=true:=by unfold callK;rcases k with h | h<;>simp [h]
   rw [this,decide_eq_false (h4 k)];rfl
  ·have:callK s.kind=false:=by unfold callK;simp;omega
   rw [this,decide_eq_true (h5 k)];rfl
 unfold er gw
 rw [e1,e2,e3]
def fo (P:SProg)(q:SProc)(i:Int):List SStep→Int→SFault
 | [],_=>okF
 | s::r,at_=>if er P q.terms s (iR q (gC q) at_)≠0 then⟨er P q.terms s (iR q (gC q) at_),i,at_⟩ else fo P q i r (at_+1)
def Iq (P:SProg)(i:Int)(q:SProc):SFault:=fo P q i q.steps 0
theorem GB {q:SProc}(h:RefOk q){k t:Int}{s:SStep}(hs:q.steps[k.toNat]? =some s)(h0:0≤k)(ht:t∈aW s)(x:Str):x∈iR q (gC q) t↔x∈iR q (gC q) k∨x∈cK s t:=by
 have hp:Par q k t:=⟨h0,s,hs,ht⟩
 have hl:=uD h.s hp
 have hu:aP (gC q) t=k:=uC h.s h.t (h.up t om om).2 hp
 rw [uR,uR,show t.toNat=(t.toNat - 1)+1 by omega,chW,if_neg om,hu,hs]
 dsimp only
 rw [List.mem_append,Cm h.lt (t.toNat - 1) k.toNat k om om om]
 constructor
 ·rintro(h | h | h)
  ·exact .inl (.inl h)
  ·exact .inr h
  ·exact .inl (.inr h)
 ·rintro((h | h) | h)
  ·exact .inl h
  ·exact .inr (.inr h)
  ·exact .inr (.inl h)
theorem Jt {q:SProc}(h:RefOk q){k:Nat}{s:SStep}(hs:q.steps[k]? =some s){j:Nat}{t:Int}{m:Str}(ht:(aW s)[j]? =some t)(hm:(cd s)[j]? =some m)(x:Str):x∈cK s t↔x=m∧x≠[]:=by
 have hmay:=(h.s k s hs).1
 obtain⟨h1,h2,h3,_,_⟩:=qu hmay
 have hnd:=lW h.s h.t hs
 unfold cK
 unfold cd at hm
 by_cases k1:s.kind=1∨s.kind=8
 ·rw [if_pos k1] at hm ⊢
  rw [if_neg om,List.append_nil,List.mem_singleton]
  have:m=s.name:=by
   cases j with
   | zero=>simpa using hm.symm
   | succ j=>simp at hm
  subst this
  exact⟨fun e=>⟨e,by rw [e];exact h2 k1⟩,fun e=>e.1⟩
 ·rw [if_neg k1] at hm ⊢
  rw [List.nil_append]
  by_cases k5:s.kind=5
  ·rw [if_pos k5] at hm ⊢
   have hns:aW s=s.ways.map (·.next):=by
    unfold aW;rw [if_neg (by rw [k5];decide)]
   rw [hns] at ht hnd
   rw [List.getElem?_map] at ht hm
   cases hw:s.ways[j]? with
   | none=>rw [hw] at hm;cases hm
   | some w=>
    rw [hw] at ht hm
    simp only [Option.map_some,Option.some.injEq] at ht hm
    subst ht hm
    simp only [List.mem_map,List.mem_filter,wbF,Bool.and_eq_true,decide_eq_true_eq,Bool.not_eq_true',decide_eq_false_iff_not]
    constructor
    ·rintro⟨v,⟨hv,he,hn⟩,rfl⟩
     have:v=w:=by
      obtain⟨i,hi⟩:=List.getElem?_of_mem hv
      have h5:(s.ways.map (·.next))[i]? =some w.next:=by rw [List.getElem?_map,hi];simp [he]
      have h6:(s.ways.map (·.next))[j]? =some w.next:=by rw [List.getElem?_map,hw];rfl
      have hij:i=j:=by
       obtain⟨a1,a2⟩:=List.getElem?_eq_some_iff.1 h5
       obtain⟨b1,b2⟩:=List.getElem?_eq_some_iff.1 h6
       rcases Nat.lt_trichotomy i j with hlt | heq | hgt
       ·exact absurd (a2.trans b2.symm) ((List.pairwise_iff_getElem.1 hnd) i j a1 b1 hlt)
       ·exact heq
       ·exact absurd (b2.trans a2.symm) ((List.pairwise_iff_getElem.1 hnd) j i b1 a1 hgt)
      subst hij
      rw [hw] at hi;cases hi;rfl
     subst this
     exact⟨rfl,hn⟩
    ·rintro⟨rfl,hn⟩
     exact⟨w,⟨List.mem_of_getElem? hw,rfl,hn⟩,rfl⟩
  ·rw [if_neg k5] at hm ⊢
   simp only [List.map_nil,List.not_mem_nil,false_iff]
   rintro⟨rfl,hn⟩
   rw [List.getElem?_replicate] at hm
   split at hm
   ·cases hm;exact hn rfl
   ·cases hm
theorem jG {k:Int}:∀(L:List Int) (ms:List Str) (b:List (List Str)) (j:Nat),(∀t∈L,t.toNat≠j)→(d9 k L ms b)[j]? =b[j]?
 | [],_,_,_,_=>rfl
 | t::r,ms,b,j,h=>by
  rw [d9,jG r _ _ j (fun u hu=>h u (by simp [hu]))]
  unfold jZ
  rw [List.getElem?_set,if_neg (h t sq)]
theorem vA {k:Int}:∀(L:List Int) (ms:List Str) (b:List (List Str)) {i:Nat} {t:Int} {m:Str},L[i]? =some t→ms[i]? =some m→L.Nodup→(∀t∈L,k<t∧t.toNat<b.length)→0≤k→
  (d9 k L ms b)[t.toNat]? =some ((b[k.toNat]?.getD [])++(if m=[] then [] else [m]))
 | [],_,_,_,_,_,h,_,_,_,_=>by simp at h
 | u::r,ms,b,0,t,m,hL,hm,hn,hk,k0=>by
  simp only [List.getElem?_cons_zero,Option.some.injEq] at hL
  subst hL
  rw [List.nodup_cons] at hn
  cases ms with
  | nil=>simp at hm
  | cons m' ms=>
   simp only [List.getElem?_cons_zero,Option.some.injEq] at hm
   subst hm
   rw [d9,jG r _ _ u.toNat (fun v hv e=>hn.1 (by
    have h1:=hk u sq
    have h2:=hk v (by simp [hv])
    rw [show u=v by omega];exact hv))]
   unfold jZ
   rw [List.getElem?_set,if_pos rfl,if_pos (hk u sq).2]
   rfl
 | u::r,ms,b,i+1,t,m,hL,hm,hn,hk,k0=>by
  rw [List.nodup_cons] at hn
  rw [d9]
  have hb:(jZ b k u (ms.headD []))[k.toNat]? =b[k.toNat]? :=by
   unfold jZ
   have:=hk u sq
   rw [List.getElem?_set,if_neg om]
  cases ms with
  | nil=>simp at hm
  | cons m' ms=>
   have:=vA r ms (jZ b k u m') (i:=i) (t:=t) (m:=m) (by simpa using hL) (by simpa using hm) hn.2 (fun v hv=>by
    have:=hk v (by simp [hv])
    unfold jZ;rw [List.length_set];exact this) k0
   simp only [List.headD_cons] at hb
   rw [hb] at this
   exact this
theorem sd {k:Int}:∀(L:List Int) (ms:List Str) (b:List (List Str)),(d9 k L ms b).length=b.length
 | [],_,_=>rfl
 | t::r,ms,b=>by rw [d9,sd];simp [jZ]
theorem FF {P:SProg}{q:SProc}{i:Int}(h:RefOk q):∀(l:List SStep) (k:Nat) (b:List (List Str)),l=q.steps.drop k→b.length=q.steps.length→
  (∀j:Nat,k≤j→j<q.steps.length→(j=0∨aP (gC q) j<k)→∀x,x∈iR q (gC q) j↔x∈b[j]?.getD [])→fo P q i l k=fb P q i l k b:=by
 intro l
 induction l with
 | nil=>intro k b _ _ _;rfl
 | cons s r ih=>
  intro k b hl hbl hb
  have hx:q.steps[k]? =some s:=by
   have h1:(q.steps.drop k)[0]? =some s:=by rw [← hl];rfl
   rwa [List.getElem?_drop,Nat.add_zero] at h1
  have hr:r=q.steps.drop (k+1):=by
   have h1:(q.steps.drop k).drop 1=r:=by rw [← hl];rfl
   rw [← h1,List.drop_drop]
  have hkn:=(List.getElem?_eq_some_iff.1 hx).1
  have hin:=(h.s k s hx).2
  rw [fo,fb]
  try dsimp only
  have hkb:∀x,x∈iR q (gC q) k↔x∈b[k]?.getD []:=hb k (Nat.le_refl _) hkn (by
   by_cases e:k=0
   ·exact .inl e
   ·exact .inr (h.lt k om om))
  rw [show((k:Int).toNat)=k by omega,FS (bd:=b[k]?.getD []) (h.s k s hx).1 (h.ro k s hx) hkb]
  split
  ·rfl
  ·have:=ih (k+1) (d9 k (aW s) (cd s) b) hr (by rw [sd];exact hbl) (fun j hj hjn hpar x=>by
    by_cases hjs:(j:Int)∈aW s
    ·obtain⟨a,ha⟩:=List.getElem?_of_mem hjs
     have hlt:=(List.getElem?_eq_some_iff.1 ha).1
     have hbl2:=qD s
     have hm:=List.getElem?_eq_getElem (l:=cd s) (i:=a) om
     have h1:=vA (k:=k) (aW s) (cd s) b ha hm (lW h.s h.t hx) (fun t ht=>by have:=hin t ht;omega) om
     rw [show((j:Int).toNat)=j by omega] at h1
     rw [h1,GB h (k:=k) (by simpa using hx) om hjs,hkb,Jt h hx ha hm]
     simp only [Option.getD_some,List.mem_append,show((k:Int).toNat)=k by omega]
     constructor
     ·rintro(h | ⟨h1,h2⟩)
      ·exact .inl h
      ·right;rw [if_neg (by rw [← h1];exact h2)];simp [h1]
     ·rintro(h | h)
      ·exact .inl h
      ·split at h
       ·cases h
       ·rename_i hne
        have h:=List.mem_singleton.1 h
        exact .inr ⟨h,by rw [h];exact hne⟩
    ·rw [jG (aW s) _ _ j (fun t ht e=>hjs (by
      have:=hin t ht
      rw [show(j:Int)=t by omega];exact ht))]
     refine hb j om hjn ?_ x
     rcases hpar with e | e
     ·exact .inl e
     ·right
      rcases Nat.eq_zero_or_pos j with e0 | e0
      ·omega
      ·have h2:=h.up j om om
       have hne:aP (gC q) j≠k:=fun e2=>by
        have hp:=h2.2
        rw [e2] at hp
        obtain⟨_,s',hs',hm⟩:=hp
        rw [show((k:Int).toNat)=k by omega,hx] at hs'
        cases hs'
        exact hjs hm
       omega)
   exact this
theorem ui {P:SProg}{q:SProc}{i:Int}(h:RefOk q):Iq P i q=f6 P i q:=by
 refine FF h q.steps 0 (mh q) rfl (vB q) (fun j _ hjn hpar x=>?_)
 have hj:j=0:=by
  rcases hpar with e | e
  ·exact e
  ·rcases Nat.eq_zero_or_pos j with e0 | e0
   ·exact e0
   ·have:=(h.up j om om).1
    omega
 subst hj
 rw [uR]
 unfold mh
 rw [List.getElem?_set,if_pos rfl,if_pos (by have:=h.n1;simp;omega)]
 simp [chW]
def bE:List Int→Int→Int
 | [],_=> -1
 | y::r,x=>if y=x then 0 else if bE r x<0 then -1 else bE r x+1
theorem nW {l:List Int}{x:Int}{k:Int}(h0:0≤k)(hx:l[k.toNat]? =some x)(hn:∀j:Nat,j<k.toNat→l[j]? ≠some x):bE l x=k:=by
 induction l generalizing k with
 | nil=>simp at hx
 | cons y r ih=>
  unfold bE
  by_cases hk:k=0
  ·subst hk
   simp at hx
   rw [if_pos hx]
  ·have hy:y≠x:=fun e=>hn 0 om (by simp [e])
   rw [if_neg hy]
   have e:k.toNat=(k - 1).toNat+1:=by omega
   rw [e,List.getElem?_cons_succ] at hx
   have:=ih (k:=k - 1) om hx (fun j hj=>by
    have:=hn (j+1) om
    rwa [List.getElem?_cons_succ] at this)
   rw [this,if_neg om];omega
theorem mC {l:List Int}{x:Int}(h:x∉l):bE l x= -1:=by
 induction l with
 | nil=>rfl
 | cons y r ih=>
  unfold bE
  rw [if_neg (fun e=>h (by simp [e])),ih (fun hm=>h (by simp [hm]))];rfl
theorem uz {l:List Int}{x:Int}{k:Int}(h:∀j:Nat,j<k.toNat→l[j]? ≠some x)(hk:¬k<l.length):bE l x= -1:=by
 refine mC (fun hm=>?_)
 obtain⟨j,hj⟩:=List.getElem?_of_mem hm
 have:=(List.getElem?_eq_some_iff.1 hj).1
 exact h j om hj
theorem Bq {l:List Int}{x y:Int}{k:Int}(h0:0≤k)(h:∀j:Nat,j<k.toNat→l[j]? ≠some x)(hy:l[k.toNat]? =some y)(hne:¬y=x):∀j:Nat,j<(k+1).toNat→l[j]? ≠some x:=fun j hj=>by
 by_cases e:j<k.toNat
 ·exact h j e
 ·rw [show j=k.toNat by omega,hy];intro e2;cases e2;exact hne rfl
theorem yb {l:List Int}(hn:l.Nodup){i:Nat}{x:Int}(hx:l[i]? =some x):bE l x=i:=by
 refine nW (k:=i) om (by simpa using hx) (fun j hj e=>?_)
 obtain⟨a1,a2⟩:=List.getElem?_eq_some_iff.1 hx
 obtain⟨b1,b2⟩:=List.getElem?_eq_some_iff.1 e
 exact(List.pairwise_iff_getElem.1 hn) j i b1 a1 om (b2.trans a2.symm)
def t00:Term:=⟨0,[],0,[],0,0⟩
def Dv (ts:List Term)(k:Int):Term:=ts[k.toNat]?.getD t00
def mvP (T:List Int)(t:Term):Term:={t with l:=bE T t.l,r:=bE T t.r}
def lJ (ts:List Term)(s:SStep):List Int:=(bV s).flatMap (bH ts)
def eZ (q:SProc):List Int:=(dK q).flatMap (fun k=>match q.steps[k.toNat]? with
 | some s=>lJ q.terms s
 | none=>[])
def Cn (T:List Int)(c:SCast):SCast:={c with args:=c.args.map (bE T),ap:=(none,0)}
def CK (O:List Int)(w:SWay):SWay:={w with next:=bE O w.next}
def xK (O T:List Int)(s:SStep):SStep:=
 {s with next:=bE O s.next,term:=bE T s.term,args:=s.args.map (bE T),ap:=(none,0),casts:=s.casts.map (Cn T),cp:=(none,0),ways:=s.ways.map (CK O),wp:=(none,0)}
def nR (q:SProc)(L:List Int):List SStep:=L.filterMap (fun k=>q.steps[k.toNat]?.map (xK (dK q) (eZ q)))
def uo (q:SProc):SProc:=
 {name:=q.name,params:=q.params,pp:=(none,0),terms:=(eZ q).map (fun k=>mvP (eZ q) (Dv q.terms k)),tp:=(none,0),steps:=nR q (dK q),sp:=(none,0)}
structure MS (ts:List Term)(T X:List Int)(st:RS):Prop where
 ml:st.1.length=ts.length
 o:st.2=X.map (fun k=>mvP T (Dv ts k))
 m:∀(i:Nat) (x:Int),X[i]? =some x→aP st.1 x=i
theorem kn {ts:List Term}:∀(A B:List Int) (s:RS),cX ts (A++B) s=cX ts B (cX ts A s)
 | [],_,_=>rfl
 | k::r,B,s=>by
  rw [List.cons_append,cX,cX]
  split
  ·exact kn r B s
  ·exact kn r B _
structure TOk (ts:List Term)(T:List Int):Prop where
 nd:T.Nodup
 rg:∀k∈T,0≤k∧k<ts.length
theorem IW {ts:List Term}{T X Y:List Int}{st:RS}(hT:TOk ts T)(hX:T=X++Y)(h:MS ts T X st){y:Int}(hy:y= -1∨y∈X):(if 0≤y then aP st.1 y else y)=bE T y:=by
 rcases hy with rfl | hy
 ·rw [if_neg om,mC (fun hm=>by have:=hT.rg _ hm;omega)]
 ·have hm:y∈T:=by rw [hX];exact List.mem_append_left _ hy
  have:=hT.rg _ hm
  rw [if_pos this.1]
  obtain⟨i,hi⟩:=List.getElem?_of_mem hy
  have hi2:T[i]? =some y:=by rw [hX,List.getElem?_append_left (List.getElem?_eq_some_iff.1 hi).1];exact hi
  rw [h.m i y hi,yb hT.nd hi2]
theorem ms_one {ts:List Term}{T X Y:List Int}{st:RS}{a:Int}{t:Term}(hT:TOk ts T)(hX:T=X++a::Y)(h:MS ts T X st)(ht:ts[a.toNat]? =some t)(hl:t.l= -1∨t.l∈X)(hr:t.r= -1∨t.r∈X):MS ts T (X++[a]) (cX ts [a] st):=by
 have ha:0≤a∧a<ts.length:=hT.rg a (by rw [hX];simp)
 have hnX:∀x∈X,x≠a:=fun x hx e=>by
  subst e
  have:=hT.nd
  rw [hX,List.nodup_append] at this
  exact this.2.2 x hx x sq rfl
 have hrX:∀x∈X,0≤x:=fun x hx=>(hT.rg x (by rw [hX];simp [hx])).1
 rw [cX,ht]
 dsimp only
 rw [cX]
 refine⟨by rw [List.length_set];exact h.ml,?_,fun i x hx=>?_⟩
 ·rw [List.map_append,← h.o]
  congr 1
  have e1:=IW hT hX h hl
  have e2:=IW hT hX h hr
  simp only [List.map_cons,List.map_nil,Dv,ht,Option.getD_some]
  unfold mvT mvP
  rw [e1,e2]
 ·by_cases hi:i<X.length
  ·rw [List.getElem?_append_left hi] at hx
   have hm:=List.mem_of_getElem? hx
   rw [mM ha.1 (hrX x hm) (hnX x hm)]
   exact h.m i x hx
  ·rw [List.getElem?_append_right om] at hx
   have:i - X.length=0:=by
    have:=(List.getElem?_eq_some_iff.1 hx).1
    simp at this;omega
   rw [this] at hx
   simp at hx
   subst hx
   have hol:st.2.length=X.length:=by rw [h.o,List.length_map]
   rw [gF ha.1 (by rw [h.ml];omega) ha.1,if_pos rfl,hol]
   omega
theorem t7 {ts:List Term}{T:List Int}(hT:TOk ts T):∀(f:Nat) (a:Int),(a= -1∨Tr ts f a)→∀(X Y:List Int) (st:RS),T=X++(dD ts f a++Y)→MS ts T X st→MS ts T (X++dD ts f a) (cX ts (dD ts f a) st)∧(a= -1∨a∈dD ts f a)
 | 0,a,h,X,Y,st,hX,hM=>by
  rcases h with h | h
  ·subst h
   refine⟨?_,.inl rfl⟩
   simpa [dD,cX] using hM
  ·exact h.elim
 | f+1,a,h,X,Y,st,hX,hM=>by
  rcases h with h | h
  ·subst h
   rw [et dq] at hX ⊢
   refine⟨?_,.inl rfl⟩
   simpa [cX] using hM
  ·obtain⟨h0,t,ht,_,_,hl0,hl1,hr0,hr1⟩:=h
   have hn:¬a<0:=by omega
   have hTl:t.l= -1∨Tr ts f t.l:=by
    rcases Int.lt_or_le (al t.kind) 1 with h1 | h1
    ·exact .inl (hl1 h1)
    ·exact .inr (hl0 h1)
   have hTr:t.r= -1∨Tr ts f t.r:=by
    rcases Int.lt_or_le (al t.kind) 2 with h1 | h1
    ·exact .inl (hr1 h1)
    ·exact .inr (hr0 h1)
   rw [fp hn ht] at hX ⊢
   obtain⟨m1,k1⟩:=t7 hT f t.l hTl X (dD ts f t.r++[a]++Y) st (by rw [hX];simp) hM
   obtain⟨m2,k2⟩:=t7 hT f t.r hTr (X++dD ts f t.l) ([a]++Y) _ (by rw [hX];simp) m1
   have m3:=ms_one (a:=a) (Y:=Y) hT (by rw [hX];simp) m2 ht (by
    rcases k1 with k | k
    ·exact .inl k
    ·exact .inr (by simp [k])) (by
    rcases k2 with k | k
    ·exact .inl k
    ·exact .inr (by simp [k]))
   refine⟨?_,.inr sq⟩
   rw [kn,kn]
   simpa using m3
theorem p9 {ts:List Term}{T X Y:List Int}{st:RS}{root:Int}(hT:TOk ts T)(hm:cN ts root=true)(hX:T=X++(bH ts root++Y))(hM:MS ts T X st):MS ts T (X++bH ts root) (fa ts root st)∧aP (fa ts root st).1 root=bE T root:=by
 have htr:=mJ hm
 obtain⟨h1,h2⟩:=t7 hT (root.toNat+1) root (.inr htr) X Y st hX hM
 refine⟨h1,?_⟩
 have h0:0≤root:=htr.1
 have hin:root∈bH ts root:=by
  rcases h2 with h2 | h2
  ·omega
  ·exact h2
 have hin2:root∈X++bH ts root:=by simp [hin]
 have:=IW (Y:=Y) hT (by rw [hX];simp [bH]) h1 (.inr hin2)
 rw [if_pos h0] at this
 exact this
theorem pZ {ts:List Term}{T:List Int}(hT:TOk ts T):∀(L acc X Y:List Int) (st:RS),(∀t∈L,cN ts t=true)→T=X++(L.flatMap (bH ts)++Y)→MS ts T X st→(bp ts L acc st).1=acc++L.map (bE T)∧MS ts T (X++L.flatMap (bH ts)) (bp ts L acc st).2
 | [],acc,X,Y,st,_,_,hM=>by simpa [bp] using hM
 | r::L,acc,X,Y,st,hm,hX,hM=>by
  rw [bp]
  rw [List.flatMap_cons] at hX
  obtain⟨h1,h2⟩:=p9 (Y:=L.flatMap (bH ts)++Y) hT (hm r sq) (by rw [hX];simp) hM
  obtain⟨h3,h4⟩:=pZ hT L (acc++[aP (fa ts r st).1 r]) (X++bH ts r) Y (fa ts r st) (fun t ht=>hm t (by simp [ht])) (by rw [hX];simp) h1
  refine⟨by rw [h3,h2];simp,?_⟩
  rw [List.flatMap_cons,← List.append_assoc];exact h4
theorem yv {ts:List Term}{T:List Int}(hT:TOk ts T):∀(L:List SCast) (acc:List SCast) (X Y:List Int) (st:RS),(∀c∈L,∀t∈c.args,cN ts t=true)→T=X++(L.flatMap (fun c=>c.args.flatMap (bH ts))++Y)→MS ts T X st→
  (dm ts L acc st).1=acc++L.map (Cn T)∧MS ts T (X++L.flatMap (fun c=>c.args.flatMap (bH ts))) (dm ts L acc st).2
 | [],acc,X,Y,st,_,_,hM=>by simpa [dm] using hM
 | c::L,acc,X,Y,st,hm,hX,hM=>by
  rw [dm]
  rw [List.flatMap_cons] at hX
  obtain⟨h1,h2⟩:=pZ hT c.args [] X (L.flatMap (fun c=>c.args.flatMap (bH ts))++Y) st (hm c sq) (by rw [hX];simp) hM
  obtain⟨h3,h4⟩:=yv hT L (acc++[{c with args:=(bp ts c.args [] st).1,ap:=(none,0)}]) (X++c.args.flatMap (bH ts)) Y (bp ts c.args [] st).2 (fun d hd=>hm d (by simp [hd])) (by rw [hX];simp) h2
  refine⟨?_,?_⟩
  ·rw [h3,h1];simp [Cn]
  ·rw [List.flatMap_cons,← List.append_assoc];exact h4
theorem term_or {s:SStep}{ts:List Term}(hm:dy s=true)(hr:cU s=true)(ht:∀t∈bJ s,cN ts t=true):(s.term= -1∧rHd s=s.args)∨(0≤s.term∧cN ts s.term=true∧rHd s=s.term::s.args):=by
 by_cases h:s.term= -1
 ·exact .inl ⟨h,It h⟩
 ·right
  have hin:s.term∈bJ s:=by
   rw [← gf hm hr,← lL,EF h];simp
  have:=ht _ hin
  exact⟨(mJ this).1,this,EF h⟩
theorem HY {q:SProc}{O T X Y:List Int}{st:RS}{s:SStep}{pl:List Int}(hT:TOk q.terms T)(hm:dy s=true)(hr:cU s=true)(ht:∀t∈bJ s,cN q.terms t=true)(hX:T=X++(lJ q.terms s++Y))(hM:MS q.terms T X st)
  (hO:∀x∈aW s,aP pl x=bE O x) (hOn:bE O (-1)= -1):iZ q.terms pl s st=xK O T s∧MS q.terms T (X++lJ q.terms s) (iI q.terms s st).2:=by
 have hst:lJ q.terms s=(rHd s).flatMap (bH q.terms)++s.casts.flatMap (fun c=>c.args.flatMap (bH q.terms)):=by
  unfold lJ
  rw [← lL,List.flatMap_append,List.flatMap_assoc]
 rw [hst] at hX ⊢
 have hargs:∀t∈s.args,cN q.terms t=true:=fun t h=>ht t (jv h)
 have hcasts:∀c∈s.casts,∀t∈c.args,cN q.terms t=true:=fun c hc t h=>ht t (ju hc h)
 have hneg:bE T (-1)= -1:=mC (fun h=>by have:=hT.rg _ h;omega)
 obtain⟨XA,hXA,hMA,htm⟩:∃XA,(rHd s).flatMap (bH q.terms)=XA++s.args.flatMap (bH q.terms)∧MS q.terms T (X++XA) (dB q.terms s st)∧(if 0≤s.term then aP (dB q.terms s st).1 s.term else s.term)=bE T s.term:=by
  rcases term_or hm hr ht with ⟨h1,h2⟩ | ⟨h1,h2,h3⟩
  ·refine⟨[],by rw [h2];rfl,?_,?_⟩
   ·unfold dB;rw [if_neg om,List.append_nil];exact hM
   ·rw [if_neg om,h1,hneg]
  ·refine⟨bH q.terms s.term,by rw [h3,List.flatMap_cons],?_,?_⟩
   ·unfold dB;rw [if_pos h1]
    exact(p9 (Y:=s.args.flatMap (bH q.terms)++s.casts.flatMap (fun c=>c.args.flatMap (bH q.terms))++Y) hT h2 (by rw [hX,h3,List.flatMap_cons];simp) hM).1
   ·unfold dB;rw [if_pos h1,if_pos h1]
    exact(p9 (Y:=s.args.flatMap (bH q.terms)++s.casts.flatMap (fun c=>c.args.flatMap (bH q.terms))++Y) hT h2 (by rw [hX,h3,List.flatMap_cons];simp) hM).2
 rw [hXA] at hX ⊢
 obtain⟨hB1,hB2⟩:=pZ hT s.args [] (X++XA) (s.casts.flatMap (fun c=>c.args.flatMap (bH q.terms))++Y) (dB q.terms s st) hargs (by rw [hX];simp) hMA
 obtain⟨hC1,hC2⟩:=yv hT s.casts [] (X++XA++s.args.flatMap (bH q.terms)) Y (bp q.terms s.args [] (dB q.terms s st)).2 hcasts (by rw [hX];simp) hB2
 refine⟨?_,?_⟩
 ·unfold iZ xK
  have e1:(ej q.terms s st).1=s.args.map (bE T):=by unfold ej;rw [hB1];rfl
  have e2:(iI q.terms s st).1=s.casts.map (Cn T):=by unfold iI ej;rw [hC1];rfl
  have e3:s.ways.map (jq pl)=s.ways.map (CK O):=List.map_congr_left (fun w hw=>by
   unfold jq CK;rw [hO _ (tR hm hw)])
  have e4:(if gP s.kind=true then aP pl s.next else s.next)=bE O s.next:=by
   by_cases hg:gP s.kind=true
   ·rw [if_pos hg,hO _ (qz hg)]
   ·rw [if_neg hg]
    have:s.next= -1:=by
     have hm2:=hm
     unfold dy at hm2
     split at hm2; · cases hm2
     split at hm2; · cases hm2
     rename_i hb
     have hb:pM (gR s)=false:=by simpa using hb
     unfold pM at hb
     simp only [Bool.or_eq_false_iff] at hb
     have h9:=hb.2.2.2.2.2.2.2.2
     simp only [gR,hg,if_false] at h9
     simpa using h9
    rw [this,hOn]
  rw [e1,e2,e3,e4,htm]
 ·have:iI q.terms s st=dm q.terms s.casts [] (bp q.terms s.args [] (dB q.terms s st)).2:=rfl
  rw [this]
  simpa using hC2
theorem xJ {q:SProc}{T:List Int}{pl:List Int}(hT:TOk q.terms T)(hh:∀(k:Nat) (s:SStep),q.steps[k]? =some s→dy s=true∧cU s=true∧(∀t∈bJ s,cN q.terms t=true)∧∀x∈aW s,aP pl x=bE (dK q) x)(hOn:bE (dK q) (-1)= -1)(hTq:T=eZ q):
  ∀(L:List Int) (acc:List SStep) (X Y:List Int) (st:RS),(∀k∈L,0≤k∧k<q.steps.length)→T=X++(L.flatMap (fun k=>match q.steps[k.toNat]? with | some s=>lJ q.terms s | none=>[])++Y)→MS q.terms T X st→
  (eI q pl L acc st).1=acc++nR q L∧MS q.terms T (X++L.flatMap (fun k=>match q.steps[k.toNat]? with | some s=>lJ q.terms s | none=>[])) (eI q pl L acc st).2
 | [],acc,X,Y,st,_,_,hM=>by simpa [eI,nR] using hM
 | k::L,acc,X,Y,st,hr,hX,hM=>by
  obtain⟨s,hs⟩:∃s,q.steps[k.toNat]? =some s:=⟨_,List.getElem?_eq_getElem (by have:=hr k sq;omega)⟩
  rw [eI,hs]
  dsimp only
  rw [List.flatMap_cons,hs] at hX
  dsimp only at hX
  obtain⟨a1,a2,a3,a4⟩:=hh _ _ hs
  obtain⟨h1,h2⟩:=HY (Y:=L.flatMap (fun k=>match q.steps[k.toNat]? with | some s=>lJ q.terms s | none=>[])++Y) hT a1 a2 a3 (by rw [hX];simp) hM a4 hOn
  obtain⟨h3,h4⟩:=xJ hT hh hOn hTq L (acc++[iZ q.terms pl s st]) (X++lJ q.terms s) Y (iI q.terms s st).2 (fun j hj=>hr j (by simp [hj])) (by rw [hX];simp) h2
  refine⟨?_,?_⟩
  ·rw [h3,h1];unfold nR;rw [List.filterMap_cons,hs];simp [hTq]
  ·rw [List.flatMap_cons,hs,← List.append_assoc];exact h4
theorem AY:∀{L:List Int} {u u2:List Bool},(∀k∈L,0≤k∧k<u.length)→ge L u=some u2→L.Nodup∧(∀k∈L,u[k.toNat]?.getD false=false)∧(∀k∈L,u2[k.toNat]?.getD false=true)∧∀i:Nat,u[i]?.getD false=true→u2[i]?.getD false=true
 | [],u,u2,_,h=>by
  cases h
  exact⟨List.nodup_nil,by simp,by simp,fun i h=>h⟩
 | k::r,u,u2,hr,h=>by
  rw [ge] at h
  split at h
  ·cases h
  ·rename_i hu
   have hu:u[k.toNat]?.getD false=false:=by simpa using hu
   have hk:=hr k sq
   obtain⟨h1,h2,h3,h4⟩:=AY (fun j hj=>by rw [List.length_set];exact hr j (by simp [hj])) h
   have hks:(u.set k.toNat true)[k.toNat]?.getD false=true:=by rw [List.getElem?_set,if_pos rfl,if_pos om];rfl
   have hmono:∀i:Nat,u[i]?.getD false=true→(u.set k.toNat true)[i]?.getD false=true:=fun i hi=>by
    rw [List.getElem?_set]
    split
    ·rw [if_pos om];rfl
    ·exact hi
   refine⟨?_,fun j hj=>?_,fun j hj=>?_,fun i hi=>h4 i (hmono i hi)⟩
   ·rw [List.nodup_cons]
    refine⟨fun hm=>?_,h1⟩
    have:=h2 k hm
    rw [hks] at this;cases this
   ·rcases List.mem_cons.1 hj with rfl | hj
    ·exact hu
    ·have:=h2 j hj
     cases e:u[j.toNat]?.getD false with
     | false=>rfl
     | true=>rw [hmono _ e] at this;cases this
   ·rcases List.mem_cons.1 hj with rfl | hj
    ·exact h4 _ hks
    ·exact h3 j hj
theorem um {ts:List Term}:∀{L:List Int} {u u2:List Bool},u.length=ts.length→cw ts L u=some u2→(L.flatMap (bH ts)).Nodup∧(∀k∈L.flatMap (bH ts),u[k.toNat]?.getD false=false)∧(∀k∈L.flatMap (bH ts),u2[k.toNat]?.getD false=true)∧∀i:Nat,u[i]?.getD false=true→u2[i]?.getD false=true
 | [],u,u2,_,h=>by
  cases h
  exact⟨by simp,by simp,by simp,fun i h=>h⟩
 | t::r,u,u2,hu,h=>by
  rw [cw] at h
  split at h
  ·cases h
  ·split at h
   ·cases h
   ·rename_i u3 h3
    obtain⟨a1,a2,a3,a4⟩:=AY (fun k hk=>by have:=mB _ _ k hk;rw [hu];exact this) h3
    obtain⟨b1,b2,b3,b4⟩:=um (L:=r) (by rw [pV h3];exact hu) h
    rw [List.flatMap_cons]
    refine⟨?_,fun k hk=>?_,fun k hk=>?_,fun i hi=>b4 i (a4 i hi)⟩
    ·rw [List.nodup_append]
     refine⟨a1,b1,fun x hx y hy e=>?_⟩
     subst e
     have:=b2 x hy
     rw [a3 x hx] at this;cases this
    ·rcases List.mem_append.1 hk with hk | hk
     ·exact a2 k hk
     ·have:=b2 k hk
      cases e:u[k.toNat]?.getD false with
      | false=>rfl
      | true=>rw [a4 _ e] at this;cases this
    ·rcases List.mem_append.1 hk with hk | hk
     ·exact b4 _ (a3 k hk)
     ·exact b3 k hk
theorem ug {q:SProc}{i:Int}:∀(l:List SStep) (k:Int) (c d:List Int) (u:List Bool),u.length=q.terms.length→(bT q i l k c d u).e=0→(l.flatMap (fun s=>(bJ s).flatMap (bH q.terms))).Nodup∧∀x∈l.flatMap (fun s=>(bJ s).flatMap (bH q.terms)),u[x.toNat]?.getD false=false
 | [],_,_,_,_,_,_=>by simp
 | s::r,k,c,d,u,hu,h=>by
  rw [bT] at h
  split at h
  ·cases h
  ·split at h
   ·cases h
   ·split at h
    ·cases h
    ·rename_i c2 d2 _
     split at h
     ·cases h
     ·split at h
      ·cases h
      ·rename_i u2 h2
       obtain⟨a1,a2,a3,a4⟩:=um hu h2
       obtain⟨b1,b2⟩:=ug r (k+1) c2 d2 u2 (by rw [lM h2];exact hu) h
       rw [List.flatMap_cons]
       refine⟨?_,fun x hx=>?_⟩
       ·rw [List.nodup_append]
        refine⟨a1,b1,fun x hx y hy e=>?_⟩
        subst e
        have:=b2 x hy
        rw [a3 x hx] at this;cases this
       ·rcases List.mem_append.1 hx with hx | hx
        ·exact a2 x hx
        ·have:=b2 x hx
         cases e:u[x.toNat]?.getD false with
         | false=>rfl
         | true=>rw [a4 _ e] at this;cases this
theorem flat_nd {q:SProc}{g:SStep→List Int}(h:(q.steps.flatMap g).Nodup){L:List Int}(hL:L.Nodup)(hr:∀k∈L,0≤k∧k<q.steps.length):(L.flatMap (fun k=>match q.steps[k.toNat]? with | some s=>g s | none=>[])).Nodup:=by
 unfold List.Nodup at h ⊢
 rw [List.pairwise_flatMap] at h ⊢
 obtain⟨h1,h2⟩:=h
 refine⟨fun k hk=>?_,?_⟩
 ·have hx:=List.getElem?_eq_getElem (l:=q.steps) (i:=k.toNat) (by have:=hr k hk;omega)
  rw [hx]
  exact h1 _ (List.getElem_mem _)
 ·refine kt (R:=(· ≠ ·)) (fun a ha b hb hne x hx y hy e=>?_) hL
  have h3:=hr a ha
  have h4:=hr b hb
  have hxa:=List.getElem?_eq_getElem (l:=q.steps) (i:=a.toNat) om
  have hxb:=List.getElem?_eq_getElem (l:=q.steps) (i:=b.toNat) om
  rw [hxa] at hx
  rw [hxb] at hy
  rcases Int.lt_trichotomy a b with h5 | h5 | h5
  ·exact(List.pairwise_iff_getElem.1 h2) a.toNat b.toNat om om om x hx y hy e
  ·exact hne h5
  ·exact(List.pairwise_iff_getElem.1 h2) b.toNat a.toNat om om om y hy x hx e.symm
theorem uA:∀(L:List Int) (i:Int) (pl:List Int),L.Nodup→(∀k∈L,0≤k∧k<pl.length)→∀(j:Nat) (x:Int),L[j]? =some x→aP (fc L i pl) x=i+j
 | [],_,_,_,_,_,_,h=>by simp at h
 | y::r,i,pl,hn,hr,0,x,h=>by
  simp at h;subst h
  rw [List.nodup_cons] at hn
  have hy:=hr y sq
  rw [fc]
  have:∀(L:List Int) (i:Int) (pl:List Int),y∉L→(∀k∈L,0≤k)→aP (fc L i pl) y=aP pl y:=by
   intro L
   induction L with
   | nil=>intro i pl _ _;rfl
   | cons z t ih=>
    intro i pl hm hz
    rw [fc,ih _ _ (fun h=>hm (by simp [h])) (fun k hk=>hz k (by simp [hk])),mM (hz z sq) hy.1 (fun e=>hm (by simp [e]))]
  rw [this r (i+1) _ hn.1 (fun k hk=>(hr k (by simp [hk])).1),gF hy.1 hy.2 hy.1,if_pos rfl];omega
 | y::r,i,pl,hn,hr,j+1,x,h=>by
  rw [List.nodup_cons] at hn
  rw [fc,uA r (i+1) _ hn.2 (fun k hk=>by rw [List.length_set];exact hr k (by simp [hk])) j x (by simpa using h)];omega
theorem A6 {l:List SProc}{i:Int}{q:SProc}(h:(bf l i q).e=0):TOk q.terms (eZ q):=by
 have hF:=yU h
 have hS:=hF.s
 have hsh:(f4 i q).e=0:=by
  unfold bf at h
  split at h
  ·rename_i h2;exact absurd h h2
  ·exact h
 have hroots:∀(k:Nat) (s:SStep),q.steps[k]? =some s→bV s=bJ s:=fun k s hs=>gf (hS k s hs).1 (hF.ro k s hs)
 have h1:=(ug q.steps 0 _ _ _ sq hsh).1
 have h2:=flat_nd h1 (mD hS hF.t _ _ om) (fun k hk=>uF hS hk)
 have e:eZ q=(dK q).flatMap (fun k=>match q.steps[k.toNat]? with | some s=>(bJ s).flatMap (bH q.terms) | none=>[]):=by
  unfold eZ
  congr 1
  funext k
  cases hk:q.steps[k.toNat]? with
  | none=>rfl
  | some s=>dsimp only;unfold lJ;rw [hroots _ s hk]
 refine⟨by rw [e];exact h2,fun k hk=>?_⟩
 rw [e] at hk
 obtain⟨a,_,ha⟩:=List.mem_flatMap.1 hk
 split at ha
 ·obtain⟨t,_,ht⟩:=List.mem_flatMap.1 ha
  exact mB _ _ k ht
 ·cases ha
theorem TOk.len {ts:List Term}{T:List Int}(h:TOk ts T):T.length≤ts.length:=uJ _ _ h.nd h.rg
theorem Ij {l:List SProc}{i:Int}{q:SProc}(h:(bf l i q).e=0):uo q=iO q:=by
 have hR:=yS h
 have hF:=yU h
 have hS:=hF.s
 have hT:=hF.t
 have hsh:(f4 i q).e=0:=by
  unfold bf at h
  split at h
  ·rename_i h2;exact absurd h h2
  ·exact h
 have hts:zB q:=lK (gX _ _ _ _ _ hsh)
 have hOn:(dK q).Nodup:=mD hS hT _ _ om
 have hOr:∀k∈dK q,0≤k∧k<q.steps.length:=fun k hk=>uF hS hk
 have hneg:bE (dK q) (-1)= -1:=mC (fun hm=>by have:=hOr _ hm;omega)
 have hroots:∀(k:Nat) (s:SStep),q.steps[k]? =some s→bV s=bJ s:=fun k s hs=>gf (hS k s hs).1 (hF.ro k s hs)
 have hTok:=A6 h
 have hpl:∀x∈dK q,aP (bW q) x=bE (dK q) x:=fun x hx=>by
  obtain⟨j,hj⟩:=List.getElem?_of_mem hx
  unfold bW
  rw [uA (dK q) 0 _ hOn (fun k hk=>by rw [List.length_replicate];exact hOr k hk) j x hj,yb hOn hj];omega
 have hin:∀x:Int,0≤x→x<q.steps.length→x∈dK q:=fun x h0 h1=>by
  have:=EK hS hT x.toNat om
  rwa [show((x.toNat:Nat):Int)=x by omega] at this
 obtain⟨h1,h2⟩:=xJ (pl:=bW q) hTok (fun k s hs=>⟨(hS k s hs).1,hF.ro k s hs,hts k s hs,fun x hx=>hpl x (hin x (by have:=(hS k s hs).2 x hx;omega) (by have:=(hS k s hs).2 x hx;omega))⟩) hneg rfl (dK q) [] [] [] (List.replicate q.terms.length 0,[]) hOr (by rw [List.append_nil];rfl) ⟨by simp,rfl,by simp⟩
 unfold uo iO
 dsimp only
 have h3:=h2.o
 rw [List.nil_append] at h1 h3
 rw [h1,h3]
 rfl
theorem qA {l:List SProc}:∀(r:List SProc) (i:Int),(cB (bf l) r i).e=0→∀q∈r,∃j,(bf l j q).e=0
 | [],_,_,q,hq=>by cases hq
 | x::r,i,h,q,hq=>by
  rw [cB] at h
  split at h
  ·rename_i h1;exact absurd h h1
  ·rename_i h1
   rcases List.mem_cons.1 hq with rfl | hq
   ·exact⟨i,by simpa using h1⟩
   ·exact qA r (i+1) h q hq
theorem DB {pg:SProg}(h:(eh pg).e=0):∀q∈pg.procs,uo q=iO q:=fun q hq=>by
 obtain⟨j,hj⟩:=qA _ _ (n8 h).2.1 q hq
 exact Ij hj
theorem Gw {pg:SProg}(h:(eh pg).e=0):∀q∈pg.procs,RefOk q∧(∀(k:Nat) (s:SStep),q.steps[k]? =some s→∀t∈bJ s,cN q.terms t=true)∧TOk q.terms (eZ q):=fun q hq=>by
 obtain⟨j,hj⟩:=qA _ _ (n8 h).2.1 q hq
 refine⟨yU hj,?_,A6 hj⟩
 have hsh:(f4 j q).e=0:=by
  unfold bf at hj
  split at hj
  ·rename_i h2;exact absurd hj h2
  ·exact hj
 exact lK (gX _ _ _ _ _ hsh)
theorem Gc {α β γ:Type}{f:α→β}{g:γ→β}{S:List α}{l:List γ}{k:Int}{x:γ}{y:α}(k0:0≤k)(hx:l[k.toNat]? =some x)(h:S.map f=(l.take k.toNat).map g)(hy:f y=g x):(S++[y]).map f=(l.take (k+1).toNat).map g:=by
 rw [bv k0 hx,List.map_append,h];simp [hy]
def gT (q:SProc)(k:Int):List Int:=match q.steps[k.toNat]? with
 | some s=>lJ q.terms s
 | none=>[]
theorem gT_at {q:SProc}{k:Int}{s:SStep}(h:q.steps[k.toNat]? =some s):gT q k=(bV s).flatMap (bH q.terms):=by unfold gT;rw [h];rfl
theorem termL_g (q:SProc):(dK q).flatMap (gT q)=eZ q:=rfl
def CsAll (H:Hp)(C:List SCast):Prop:=∀c∈C,RdSl H 1 I64.cells (.slice c.ap.1 c.args.length c.ap.2) c.args
theorem CsAll.le {H H':Hp}{C:List SCast}(h:CsAll H C)(hl:H.le H'):CsAll H' C:=fun c hc=>(h c hc).le hl
def s00:SStep:=⟨0,[],[],[],[],0,[],(none,0),[],(none,0),[],(none,0),0⟩
def getS (q:SProc)(k:Int):SStep:=q.steps[k.toNat]?.getD s00
def qc (q:SProc)(k:Int):SStep:=xK (dK q) (eZ q) (getS q k)
theorem ub {q:SProc}:∀{L:List Int},(∀k∈L,0≤k∧k<q.steps.length)→nR q L=L.map (qc q)
 | [],_=>rfl
 | k::r,h=>by
  have hx:=List.getElem?_eq_getElem (l:=q.steps) (i:=k.toNat) (by have:=h k sq;omega)
  unfold nR
  rw [List.filterMap_cons,hx,List.map_cons]
  have:=ub (L:=r) (fun j hj=>h j (by simp [hj]))
  unfold nR at this
  simp only [Option.map_some]
  rw [this]
  unfold qc getS
  rw [hx];rfl
def t6 (q:SProc)(k:Int):Term:=mvP (eZ q) (Dv q.terms k)
theorem getT_at {ts:List Term}{k:Int}{t:Term}(h:ts[k.toNat]? =some t):Dv ts k=t:=by unfold Dv;rw [h];rfl
theorem CU {q:SProc}(h:∀t∈q.terms,t.name.length≤9223372036854775807):∀t∈(eZ q).map (t6 q),t.name.length≤9223372036854775807:=by
 intro t ht
 obtain⟨k,_,rfl⟩:=List.mem_map.1 ht
 unfold t6 mvP Dv
 dsimp only
 cases hk:q.terms[k.toNat]? with
 | none=>simp [t00]
 | some u=>exact h u (List.mem_of_getElem? hk)
theorem ic {H:Hp}{l:List Int}{v:Value}(x:Int)(hL:RdSl H 1 I64.cells v l):
  FnS Tryz.prog 115 [v,.int .i64 x] H (.int .i64 (bE l x)):=by
 have hmax:=hL.max
 obtain⟨la,lc,rfl⟩:=hL.len
 refine FnS.enter Tryz.func115 Tryz.ntmps115 rfl rfl (fun w0=>?_)
 refine kg ?_
 refine TC.loop (V:=fun k=>[(5,.int .i64 k)]) (K:=[(0,_),(1,_),(4,_)]) (L:=fun k=>_) (I:=fun k=>0≤k∧k≤l.length∧∀j:Nat,j<k.toNat→l[j]? ≠some x) (μ:=fun k=>(l.length - k).toNat) (i:=(0:Int)) ky ⟨by omega,by omega,fun j hj=>absurd hj sq⟩ (fun w hw=>hw) (fun k hI=>?_)
 refine Aa ?_
 refine af rfl ?_ ?_<;>intro c9
 ·
  obtain⟨y,hy⟩:=aj (l:=l) hI.1 c9
  refine lj ?_;refine ov ?_;refine TL.run (aL hL hy rfl rfl) rfl (kS ?_)
  refine af rfl ?_ ?_<;>intro c17
  ·
   refine rC ?_
   exact ao (.inr rfl) (ad rfl (RVal.tmp rfl)) (congrArg (Value.int .i64) (by first | exact(nW hI.1 (by rw [hy,c17]) hI.2.2).symm | exact(uz hI.2.2 c9).symm))
  refine d6 ?_
  exact aD (k+1) ⟨by omega,by omega,Bq hI.1 hI.2.2 hy c17⟩ ky (fun w hw=>hw) om
 refine fD ?_
 exact ao (.inr rfl) (ad rfl (RVal.tmp rfl)) (congrArg (Value.int .i64) (by first | exact(nW hI.1 (by rw [hy,c17]) hI.2.2).symm | exact(uz hI.2.2 c9).symm))
theorem rV {H:Hp}{l xs:List Int}{v vx:Value}(hL:RdSl H 1 I64.cells v l)(hX:RdSl H 1 I64.cells vx xs)(hl:xs.length≤1000):
  FnO Tryz.prog 156 [v,vx] H (fun r H1 ob=>H1=H∧OwnSl 1 I64.cells r (xs.map (bE l)) ob):=by
 obtain⟨la,lc,rfl⟩:=hL.len
 obtain⟨xa,xc,rfl⟩:=hX.len
 refine FnO.enter Tryz.func156 Tryz.ntmps156 rfl rfl (fun w0=>?_)
 refine jK ?_;refine kg ?_
 refine aK (V:=fun k v ob H1=>[(5,v),(6,.int .i64 k)]) (K:=[(0,_),(1,_),(4,_)]) (L:=fun k v ob H1=>St [] w0 H H (ob)) (I:=fun k v ob H1=>(0≤k∧k≤xs.length)∧OwnSl 1 I64.cells v ((xs.take k.toNat).map (bE l)) ob) (μ:=fun k=>(xs.length - k).toNat) 0 (.slice none 0 0) [] H ky ⟨o2q,OwnSl.nil⟩ (fun w hw=>hw) (fun k v ob H1 hI=>?_)
 obtain⟨⟨k0,k1⟩,hO⟩:=hI
 obtain⟨va,vc,rfl⟩:=hO.form
 refine fk ?_;refine TL.run (ah rfl rfl hX) rfl (zm1 ?_)
 refine af rfl ?_ ?_<;>intro c10
 ·
  obtain⟨x,hx⟩:=aj (l:=xs) k0 c10
  refine fi ?_;refine ll ?_
  refine TL.run (ae rfl hX rfl om om) rfl (TL.run (aL hX hx rfl rfl) rfl (ar (ab rfl rfl rfl rfl) (ic x hL) rfl (aA rfl rfl rfl rfl (fun b20=>?_))))
  refine TL.append (enc:=I64.cells) rfl rfl rfl hO (Src.own [bE l x] (.here _) rfl rfl) (by simp;omega) rfl (.skip _ .all) rfl (fun a21 c21 ob21 hO21=>?_)
  refine iW ?_
  exact ay (k+1) _ ob21 H ⟨o2q,hO21.cast (by rw [bv k0 hx])⟩ ky (fun w hw=>hw.drop) om
 refine jA ?_
 exact cf (.inr rfl) (ad rfl (RVal.tmp rfl)) .all ⟨rfl,hO.cast (by rw [aX c10 k0])⟩
theorem Dq {q:SProc}(hS:bX q)(hT:jl q)(h80:q.steps.length≤80):
  ∀(f:Nat) {H:Hp} (at_:Int),ProcOk H q→0≤at_→at_<q.steps.length→q.steps.length≤at_.toNat+f→FnO Tryz.prog 113 [.agg q.cells.toArray,.int .i64 at_] H (fun r H1 ob=>OwnSl 1 I64.cells r (jE q f at_) ob):=by
 intro f
 induction f with
 | zero=>
  intro H at_ _ h0 h1 h2;exfalso;omega
 | succ f ih=>
 intro H at_ hQ h0 h1 h2
 obtain⟨s,hs⟩:∃s,q.steps[at_.toNat]? =some s:=⟨_,List.getElem?_eq_getElem om⟩
 have hln:=yZ hS hT (f+1) at_ h0
 rw [pd hs] at hln ⊢
 have hsk:=hQ.ss s (List.mem_of_getElem? hs)
 obtain⟨hm,hin⟩:=hS _ _ hs
 have hsz:=dY hm
 have hne:=ql hm
 refine FnO.enter Tryz.func113 Tryz.ntmps113 rfl rfl (fun w0=>?_)
 refine zm2 ?_
 refine TL.box rfl rfl (fun b2=>?_)
 refine kW ?_
 refine aA rfl rfl rfl rfl (fun b9=>?_)
 refine zm1 ?_;refine jm ?_;refine zm0 ?_;refine tF ?_
 refine bD (ab rfl rfl rfl rfl) (nZ s hsk om) rfl (fun v15 H15 ob15 hle15 hp15=>?_)
 obtain⟨eH15,hO15⟩:=hp15
 subst H15
 obtain⟨a15,c15,rfl⟩:=hO15.form
 refine TL.pubO hO15 (.skip _ (.skip _ .all)) sq (fun HP15 leP15 hR15=>?_)
 replace hQ:=hQ.le leP15
 rw [hne] at hR15 ⊢
 have hR15m:=hR15.max
 refine kh ?_
 refine aK (V:=fun k v ob H1=>[(5,v),(7,.int .i64 k)]) (K:=[(2,_),(4,_),(6,_)]) (L:=fun k v ob H1=>St [] w0 H H1 ((b2,q.cells)::ob)) (I:=fun k v ob H1=>(0≤k∧k≤(aW s).length)∧HP15.le H1∧OwnSl 1 I64.cells v (at_::((aW s).take k.toNat).flatMap (jE q f)) ob) (μ:=fun k=>((aW s).length - k).toNat) 0 (.slice (some ⟨b9,0,none⟩) 1 1) [(b9,[.int .i64 at_])] HP15 ky ⟨o2q,Hp.le.refl _,(OwnSl.blk (enc:=I64.cells) [at_] rfl rfl sq).cast sq⟩ (fun w hw=>hw.perm (List.perm_append_singleton _ _).symm) (fun k v ob H1 hI=>?_)
 obtain⟨⟨k0,k1⟩,hle,hO⟩:=hI
 obtain⟨va,vc,rfl⟩:=hO.form
 replace hQ:=hQ.le hle
 replace hR15:=hR15.le hle
 refine fk ?_;refine TL.run (ah rfl rfl hR15) rfl (zm1 ?_)
 refine af rfl ?_ ?_<;>intro c19
 ·
  obtain⟨t,ht⟩:=aj (l:=aW s) k0 c19
  have htb:=hin t (List.mem_of_getElem? ht)
  have hlb:=sK (f:=jE q f) k0 ht
  refine qK ?_;refine cy [(0,1),(1,2),(2,1),(3,1),(4,1),(5,2),(6,0),(7,0),(8,1)] kr kr (zm6 ?_);refine kG ?_;refine iz ?_
  refine az (ae rfl hR15 rfl om om) rfl (bg (aL hR15 ht rfl rfl) rfl (bB (bD (ab rfl rfl rfl rfl) (ih t hQ om om om) rfl (fun v28 H28 ob28 hle28 hp28=>?_))))
  have hO28:OwnSl 1 I64.cells v28 (jE q f t) ob28:=hp28
  obtain⟨a28,c28,rfl⟩:=hO28.form
  replace hle:=hle.trans hle28
  refine TL.pubO hO28 (.skip _ (.past _ .all)) sq (fun HP28 leP28 hR28=>?_)
  refine aS (L':=(b2,_)::(ob)) (dV [(b2,_)] (A:=ob)) ?_
  replace hle:=hle.trans leP28
  refine TF.back (bB (TL.append (enc:=I64.cells) rfl rfl rfl hO (Src.sl hR28) (by have h9:=hln;simp only [List.length_cons] at h9;(try simp only [List.length_cons,List.length_append]);omega) rfl (.skip _ .all) rfl (fun a29 c29 ob29 hO29=>?_)))
  refine TF.back (zm6 ?_);refine wH ?_
  exact ay (k+1) _ ob29 HP28 ⟨o2q,hle,hO29.cast (by rw [bi k0 ht,List.flatMap_append];simp)⟩ ky (fun w hw=>hw) om
 refine jA ?_
 exact cf (.inr rfl) (ad rfl (RVal.tmp rfl)) (.skip _ .all) (hO.cast (by rw [aX c19 k0]))
theorem u6 {l:List Term}{v:Value}:
  ∀(f:Nat) {H:Hp} (at_:Int),RdSl H 6 Term.cells v l→Tr l f at_→(dD l f at_).length≤100000000→FnO Tryz.prog 114 [v,.int .i64 at_] H (fun r H1 ob=>OwnSl 1 I64.cells r (dD l f at_) ob):=by
 intro f
 induction f with
 | zero=>
  intro H at_ _ h _;exact h.elim
 | succ f ih=>
 intro H at_ hL h hlen
 obtain⟨h0,t,hx,_,_,hTl0,hTl1,hTr0,hTr1⟩:=h
 have hn:¬at_<0:=by omega
 have hlt:=eY hx
 rw [fp hn hx] at hlen
 simp only [List.length_append,List.length_cons,List.length_nil] at hlen
 obtain⟨la,lc,rfl⟩:=hL.len
 have hmax:=hL.max
 refine FnO.enter Tryz.func114 Tryz.ntmps114 rfl rfl (fun w0=>?_)
 refine jK ?_;refine zm7 ?_;refine dH ?_;refine th ?_;refine zm1 ?_
 refine af rfl ?_ ?_<;>intro c11
 ·
  have hTl:Tr l f t.l:=by rcases Int.lt_or_le (al t.kind) 1 with h1 | h1;(have:=hTl1 h1;omega);exact hTl0 h1
  refine ll ?_;refine th ?_
  refine bD (ab rfl rfl rfl rfl) (ih t.l hL hTl om) rfl (fun v19 H19 ob19 hle19 hp19=>?_)
  have hO19:OwnSl 1 I64.cells v19 (dD l f t.l) ob19:=hp19
  obtain⟨a19,c19,rfl⟩:=hO19.form
  replace hL:=hL.le hle19
  refine TL.pubO hO19 .all sq (fun HP19 leP19 hR19=>?_)
  replace hL:=hL.le leP19
  refine TL.append (enc:=I64.cells) rfl rfl rfl (OwnSl.nil (enc:=I64.cells)) (Src.sl hR19) (by simp;omega) rfl (.new _ rfl) rfl (fun a20 c20 ob20 hO20=>?_)
  refine AK ?_;refine th ?_;refine zm1 ?_
  refine af rfl ?_ ?_<;>intro c26
  ·
   have hTr:Tr l f t.r:=by rcases Int.lt_or_le (al t.kind) 2 with h1 | h1;(have:=hTr1 h1;omega);exact hTr0 h1
   refine ll ?_;refine th ?_
   refine bD (ab rfl rfl rfl rfl) (ih t.r hL hTr om) rfl (fun v34 H34 ob34 hle34 hp34=>?_)
   have hO34:OwnSl 1 I64.cells v34 (dD l f t.r) ob34:=hp34
   obtain⟨a34,c34,rfl⟩:=hO34.form
   refine TL.pubO hO34 (.past _ .all) sq (fun HP34 leP34 hR34=>?_)
   refine aS (L':=ob20) (dV [] (A:=ob20)) (TL.append (enc:=I64.cells) rfl rfl rfl hO20 (Src.sl hR34) (by first | (simp;omega) | (simp only [List.length_append,List.length_nil];omega)) rfl .all rfl (fun a35 c35 ob35 hO35=>?_))
   refine zm1 ?_;refine dH ?_
   refine aA rfl rfl rfl rfl (fun b38=>?_)
   refine TL.append (enc:=I64.cells) rfl rfl rfl hO35 (Src.own [at_] (.here _) rfl rfl) (by first | (simp;omega) | (simp only [List.length_append,List.length_cons,List.length_nil];omega)) rfl (.skip _ .all) rfl (fun a39 c39 ob39 hO39=>?_)
   refine em ?_
   exact cf (.inr rfl) (ad rfl (RVal.tmp rfl)) (.skip _ .all) (hO39.cast (by rw [fp hn hx];simp))
  refine tz ?_
  refine aA rfl rfl rfl rfl (fun b38=>?_)
  refine TL.append (enc:=I64.cells) rfl rfl rfl hO20 (Src.own [at_] (.here _) rfl rfl) (by first | (simp;omega) | (simp only [List.length_append,List.length_cons,List.length_nil];omega)) rfl (.skip _ .all) rfl (fun a39 c39 ob39 hO39=>?_)
  refine em ?_
  exact cf (.inr rfl) (ad rfl (RVal.tmp rfl)) (.skip _ .all) (hO39.cast (by rw [fp hn hx,et (show t.r<0 by omega)];simp))
 refine gp ?_;refine dH ?_;refine th ?_;refine zm1 ?_
 refine af rfl ?_ ?_<;>intro c26
 ·
  have hTr:Tr l f t.r:=by rcases Int.lt_or_le (al t.kind) 2 with h1 | h1;(have:=hTr1 h1;omega);exact hTr0 h1
  refine ll ?_;refine th ?_
  refine bD (ab rfl rfl rfl rfl) (ih t.r hL hTr om) rfl (fun v34 H34 ob34 hle34 hp34=>?_)
  have hO34:OwnSl 1 I64.cells v34 (dD l f t.r) ob34:=hp34
  obtain⟨a34,c34,rfl⟩:=hO34.form
  refine TL.pubO hO34 (.past _ .all) sq (fun HP34 leP34 hR34=>?_)
  refine TL.append (enc:=I64.cells) rfl rfl rfl (OwnSl.nil (enc:=I64.cells)) (Src.sl hR34) (by first | (simp;omega) | (simp only [List.length_append,List.length_nil];omega)) rfl (.new _ rfl) rfl (fun a35 c35 ob35 hO35=>?_)
  refine zm1 ?_;refine dH ?_
  refine aA rfl rfl rfl rfl (fun b38=>?_)
  refine TL.append (enc:=I64.cells) rfl rfl rfl hO35 (Src.own [at_] (.here _) rfl rfl) (by first | (simp;omega) | (simp only [List.length_append,List.length_cons,List.length_nil];omega)) rfl (.skip _ .all) rfl (fun a39 c39 ob39 hO39=>?_)
  refine em ?_
  exact cf (.inr rfl) (ad rfl (RVal.tmp rfl)) (.skip _ .all) (hO39.cast (by rw [fp hn hx,et (show t.l<0 by omega)];simp))
 refine tz ?_
 refine aA rfl rfl rfl rfl (fun b38=>?_)
 refine TL.append (enc:=I64.cells) rfl rfl rfl (OwnSl.nil (enc:=I64.cells)) (Src.own [at_] (.here _) rfl rfl) (by first | (simp;omega) | (simp only [List.length_append,List.length_cons,List.length_nil];omega)) rfl (.new _ rfl) rfl (fun a39 c39 ob39 hO39=>?_)
 refine em ?_
 exact cf (.inr rfl) (ad rfl (RVal.tmp rfl)) (.skip _ .all) (hO39.cast (by rw [fp hn hx,et (show t.l<0 by omega),et (show t.r<0 by omega)];simp))
theorem u9 {H:Hp}{O T:List Int}{vO vT:Value}(s:SStep)(hs:StepOk H s)(hO:RdSl H 1 I64.cells vO O)(hT:RdSl H 1 I64.cells vT T)(hz:s.ways.length≤7∧(s.args.length≤6∧s.casts.length≤4∧∀c∈s.casts,c.args.length≤6)):
  Fn Tryz.prog 116 [.agg s.cells.toArray,vO,vT] H (fun v H1=>∃s2:SStep,v= .agg s2.cells.toArray∧StepOk H1 s2∧s2.bare=xK O T s):=by
 obtain⟨oa,oc,rfl⟩:=hO.len
 obtain⟨ta,tc,rfl⟩:=hT.len
 obtain⟨hz1,hz2,hz3,hz4⟩:=hz
 refine Fn.enter Tryz.func116 Tryz.ntmps116 rfl rfl (fun w0=>?_)
 refine zm2 ?_
 refine TL.box rfl rfl (fun b3=>?_)
 refine TL.alloc rfl (fun b6=>?_)
 refine gN ?_;refine ng ?_
 refine TL.alloc rfl (fun b7=>?_)
 refine sY ?_;refine mZ ?_;refine ar (ab rfl rfl rfl rfl) (ic s.next hO) rfl (rk ?_);refine mZ ?_;refine ar (ab rfl rfl rfl rfl) (ic s.term hT) rfl (rk ?_);refine mZ ?_
 refine bD (ab rfl rfl rfl rfl) (rV hT hs.a om) rfl (fun v26 H26 ob26 hle26 hp26=>?_)
 obtain⟨eH26,hO26⟩:=hp26
 subst H26
 obtain⟨a26,c26,rfl⟩:=hO26.form
 refine TL.pubO hO26 (.s2 (.skip _ .all)) sq (fun HP26 leP26 hR26=>?_)
 replace hs:=hs.le leP26
 replace hO:=hO.le leP26
 replace hT:=hT.le leP26
 refine Ay ?_;refine zm5 ?_;refine io ?_;refine zm5 ?_;refine io ?_;refine qW ?_
 refine aK (V:=fun k v ob H1=>[(8,.int .i64 k)]) (K:=[(1,_),(2,_),(3,_),(6,_),(7,_)]) (L:=fun k v ob H1=>St [] w0 H HP26 ((b7,[.int .i64 s.kind,gs s.name,gs s.peer,gs s.label,gs s.proc,.int .i64 (bE T s.term),.slice a26 (s.args.map (bE T)).length c26,.slice none 0 0,v,.int .i64 (bE O s.next)])::(b6,[.int .i64 0,gs [],gs [],gs [],gs [],.int .i64 0,.slice none 0 0,.slice none 0 0,.slice none 0 0,.int .i64 0])::(b3,s.cells)::ob)) (I:=fun k v ob H1=>(0≤k∧k≤s.ways.length)∧OwnSl 3 SWay.cells v ((s.ways.take k.toNat).map (CK O)) ob) (μ:=fun k=>(s.ways.length - k).toNat) 0 (.slice none 0 0) [] HP26 ky ⟨o2q,OwnSl.nil⟩ (fun w hw=>hw) (fun k v ob H1 hI=>?_)
 obtain⟨⟨k0,k1⟩,hO1⟩:=hI
 obtain⟨va1,vc1,rfl⟩:=hO1.form
 refine ww ?_;refine TL.run (ah rfl rfl hs.w) rfl (zm1 ?_)
 refine af rfl ?_ ?_<;>intro c34
 ·
  obtain⟨x,hx⟩:=aj (l:=s.ways) k0 c34
  refine dv ?_;refine sX ?_;refine TL.run (ae rfl hs.w rfl om om) rfl (TL.run (aY hs.w hx rfl rfl) rfl (TL.alloc rfl (fun b9=>?_)))
  refine sY ?_;refine fj ?_;refine ar (ab rfl rfl rfl rfl) (ic x.next hO) rfl (pS ?_);refine wV ?_
  refine aA rfl rfl rfl rfl (fun b50=>?_)
  refine TL.append (enc:=SWay.cells) rfl rfl rfl hO1 (Src.own [CK O x] (.here _) rfl rfl) (by simp;omega) rfl (.s4 (.skip _ .all)) rfl (fun a51 c51 ob51 hO51=>?_)
  refine rc ?_;refine nj ?_
  exact ay (k+1) _ ob51 HP26 ⟨o2q,hO51.cast (by rw [bv k0 hx])⟩ ky (fun w hw=>hw.drop.drop) om
 refine tx ?_
 refine TL.pubO hO1 (.s2 (.skip _ .all)) sq (fun HPob lePob hRW=>?_)
 replace hs:=hs.le lePob
 replace hT:=hT.le lePob
 replace hR26:=hR26.le lePob
 refine aS (L':=(b7,_)::(b6,_)::(b3,_)::[]) (List.Perm.refl _) ?_
 rw [aX c34 k0] at hRW ⊢
 refine zm9 ?_
 refine aK (V:=fun(ix:Int×List SCast) v2 ob2 H2=>[(10,.int .i64 ix.1)]) (K:=[(2,_),(3,_),(6,_),(7,_)]) (L:=fun(ix:Int×List SCast) v2 ob2 H2=>St [] w0 H H2 ((b7,[.int .i64 s.kind,gs s.name,gs s.peer,gs s.label,gs s.proc,.int .i64 (bE T s.term),.slice a26 (s.args.map (bE T)).length c26,v2,.slice va1 (s.ways.map (CK O)).length vc1,.int .i64 (bE O s.next)])::(b6,[.int .i64 0,gs [],gs [],gs [],gs [],.int .i64 0,.slice none 0 0,.slice none 0 0,.slice none 0 0,.int .i64 0])::(b3,s.cells)::ob2)) (I:=fun(ix:Int×List SCast) v2 ob2 H2=>(0≤ix.1∧ix.1≤s.casts.length)∧HPob.le H2∧OwnSl 3 SCast.cells v2 ix.2 ob2∧ix.2.length=ix.1∧CsAll H2 ix.2∧ix.2.map SCast.bare=(s.casts.take ix.1.toNat).map (Cn T)) (μ:=fun(ix:Int×List SCast)=>(s.casts.length - ix.1).toNat) ((0:Int),[]) (.slice none 0 0) [] HPob ky ⟨o2q,Hp.le.refl _,OwnSl.nil,rfl,(fun _ h=>by cases h),rfl⟩ (fun w hw=>hw) (fun ix v2 ob2 H2 hI=>?_)
 obtain⟨⟨k02,k12⟩,hle2,hO2,hPl2,hPA2,hPm2⟩:=hI
 obtain⟨k2,P2⟩:=ix
 dsimp only at *
 obtain⟨va2,vc2,rfl⟩:=hO2.form
 replace hs:=hs.le hle2
 replace hT:=hT.le hle2
 replace hR26:=hR26.le hle2
 replace hRW:=hRW.le hle2
 refine ww ?_;refine TL.run (ah rfl rfl hs.c) rfl (zm1 ?_)
 refine af rfl ?_ ?_<;>intro c57
 ·
  obtain⟨x,hk2⟩:=aj (l:=s.casts) k02 c57
  have hx6:=hz4 x (List.mem_of_getElem? hk2)
  refine dv ?_;refine sX ?_;refine TL.run (ae rfl hs.c rfl om om) rfl (TL.run (aY hs.c hk2 rfl rfl) rfl (TL.alloc rfl (fun b11=>?_)))
  refine sY ?_;refine fj ?_
  refine bD (ab rfl rfl rfl rfl) (rV hT (hs.cs x (List.mem_of_getElem? hk2)) om) rfl (fun v68 H68 ob68 hle68 hp68=>?_)
  obtain⟨eH68,hO68⟩:=hp68
  subst H68
  obtain⟨a68,c68,rfl⟩:=hO68.form
  refine TL.pubO hO68 (.s4 (.past _ .all)) sq (fun HP68 leP68 hR68=>?_)
  refine aS (L':=(b11,_)::((b7,_)::((b6,_)::((b3,_)::(ob2))))) (dV [(b11,_),(b7,_),(b6,_),(b3,_)] (A:=ob2)) ?_
  replace hle2:=hle2.trans leP68
  replace hPA2:=hPA2.le leP68
  refine pS ?_;refine wV ?_
  refine aA rfl rfl rfl rfl (fun b73=>?_)
  refine TL.append (enc:=SCast.cells) rfl rfl rfl hO2 (Src.own [⟨x.role,x.proc,x.args.map (bE T),(a68,c68)⟩] (.here _) rfl rfl) (by simp;omega) rfl (.s4 (.skip _ .all)) rfl (fun a74 c74 ob74 hO74=>?_)
  refine rc ?_;refine nj ?_
  exact ay (i:=(k2,P2)) (k2+1,P2++[⟨x.role,x.proc,x.args.map (bE T),(a68,c68)⟩]) _ ob74 HP68 ⟨o2q,hle2,hO74,by simp only [List.length_append,List.length_cons,List.length_nil];omega,dG hPA2 hR68,eP k02 hk2 hPm2 rfl⟩ ky (fun w hw=>hw.drop.drop) om
 refine fN ?_;refine lg ?_
 refine TX.pubO hO2 (.s2 (.skip _ .all)) sq (fun HC leC hRC=>?_)
 replace hRW:=hRW.le leC
 replace hR26:=hR26.le leC
 have hQe:=hPm2
 rw [aX c57 k02] at hQe
 exact aR (.inr rfl) (ad rfl (RVal.cellA rfl (.h1) rfl)) ⟨⟨s.kind,s.name,s.peer,s.label,s.proc,bE T s.term,s.args.map (bE T),(a26,c26),P2,(va2,vc2),s.ways.map (CK O),(va1,vc1),bE O s.next⟩,rfl,⟨hR26,hRC,CsAll.le hPA2 leC,hRW⟩,by unfold SStep.bare xK;simp only [hQe]⟩
theorem vZ {H:Hp}{q:SProc}(hQ:ProcOk H q)(hF:RefOk q)(hts:∀(k:Nat) (s:SStep),q.steps[k]? =some s→∀t∈bJ s,cN q.terms t=true)(hK:TOk q.terms (eZ q)):
  Fn Tryz.prog 57 [.agg q.cells.toArray] H (fun v H1=>∃q2:SProc,v= .agg q2.cells.toArray∧ProcOk H1 q2∧q2.bare=uo q):=by
 have hn1:=hF.n1
 have hn80:=hF.n80
 have hp6:=hF.p6
 have ht160:=hF.t160
 have htl:=hK.len
 have hol:=De hF.s hF.t
 have hrg:∀k∈dK q,0≤k∧k<q.steps.length:=fun k hk=>uF hF.s hk
 have hgl:=termL_g q
 refine Fn.enter Tryz.func57 Tryz.ntmps57 rfl rfl (fun w0=>?_)
 refine zm2 ?_
 refine TL.box rfl rfl (fun b1=>?_)
 refine TL.alloc rfl (fun b2=>?_)
 refine TL.nil (ai (TC.seq (dO ?_)))
 refine TD.part 4 6 rfl rfl rfl ?_ ?_
 ·
  refine aU [true,true] [(0,1),(1,4),(2,1),(3,4),(4,5),(5,1),(6,3),(7,5)] kr kr (wD ?_);refine wD ?_
  refine au rfl (TL.append (enc:=SParam.cells) rfl rfl rfl (OwnSl.nil (enc:=SParam.cells)) (Src.sl hQ.pa) (by simp;omega) rfl (.new _ rfl) rfl (fun a16 c16 ob16 hO16=>?_))
  refine ax (S1 (S1 SN)) (Hp.le.refl _) (eo ?_)
  refine TF.alloc rfl (fun b3=>?_)
  exact G5
 refine aU [true,true] [(0,1),(1,4),(2,1),(3,4),(6,3),(4,5),(5,1),(7,5)] kr kr (wD ?_);refine wD ?_
 refine TF.alloc rfl (fun b3=>?_)
 refine au rfl (TL.append (enc:=SParam.cells) rfl rfl rfl (OwnSl.nil (enc:=SParam.cells)) (Src.sl hQ.pa) (by simp;omega) rfl (.new _ rfl) rfl (fun a16 c16 ob16 hO16=>?_))
 refine ax (S0 (S1 (S1 SN))) (Hp.le.refl _) (eo ?_)
 exact G5
theorem FR {H:Hp}{l:List Term}{v:Value}(root:Int)(hT:RdSl H 6 Term.cells v l)(hN:∀t∈l,t.name.length≤9223372036854775807)(hl:(l.length:Int)≤100000)(hd:eq l root=none):
  Fn Tryz.prog 154 [v,.int .i64 root] H (fun r H1=>RdSl H1 1 Str.cells r (fI l root)):=by
 obtain⟨ta,tc,rfl⟩:=hT.len
 refine Fn.enter Tryz.func154 Tryz.ntmps154 rfl rfl (fun w0=>?_)
 refine rB ?_
 refine TL.call (ab rfl rfl rfl rfl) (zA root hT hN hl) rfl (fun v12 H12 hle12 hp12=>?_)
 rw [hd] at hp12
 have hp12:v12=_:=hp12
 subst hp12
 refine lq ?_;refine ti ?_
 refine TC.loop (V:=fun k=>[(8,.int .i64 k)]) (K:=[(0,_),(4,_),(5,_),(6,_),(7,_)]) (L:=fun k=>_) (I:=fun k=>True) (μ:=fun k=>0) (i:=(0:Int)) ky trivial (fun w hw=>hw) (fun k hI=>?_)
 refine fk ?_
 refine ag (s:=16) rfl ?_ ?_<;>intro g16
 · exact absurd g16 dq
 refine dE ?_;refine pR ?_;refine jA ?_
 exact aR (.inr rfl) (ad rfl (RVal.tmp rfl)) (by unfold fI;rw [hd];exact RdSl.nil)
theorem FQ {H:Hp}{l:List Term}{v:Value}(root:Int)(hT:RdSl H 6 Term.cells v l)(hN:∀t∈l,t.name.length≤9223372036854775807)(hl:(l.length:Int)≤100000){d:List Int}(hd:eq l root=some d):
  Fn Tryz.prog 154 [v,.int .i64 root] H (fun r H1=>RdSl H1 1 Str.cells r (fI l root)):=by
 obtain⟨ta,tc,rfl⟩:=hT.len
 refine Fn.enter Tryz.func154 Tryz.ntmps154 rfl rfl (fun w0=>?_)
 refine rB ?_
 refine TL.call (ab rfl rfl rfl rfl) (zA root hT hN hl) rfl (fun v12 H12 hle12 hp12=>?_)
 replace hT:=hT.le hle12
 rw [hd] at hp12
 obtain⟨sv,rfl,hB,hdl⟩:=hp12
 obtain⟨ba,bc,rfl⟩:=hB.len
 have hdl2:(d.map eM).length=l.length:=by simp [hdl]
 refine lq ?_;refine ti ?_
 refine aK (V:=fun k v ob H1=>[(7,v),(8,.int .i64 k)]) (K:=[(0,_),(4,_),(5,_),(6,_)]) (L:=fun k v ob H1=>St [] w0 H H1 ob) (I:=fun k v ob H1=>0≤k∧k≤l.length∧ob=[]∧H12.le H1∧RdSl H1 1 Str.cells v (ep l (d.map eM) k.toNat)) (μ:=fun k=>(l.length - k).toNat) 0 (.slice none 0 0) [] H12 ky ⟨by omega,by omega,rfl,Hp.le.refl _,RdSl.nil⟩ (fun w hw=>hw) (fun k v ob H1 hI=>?_)
 obtain⟨h0,h1,rfl,hle,hR⟩:=hI
 replace hT:=hT.le hle
 replace hB:=hB.le hle
 refine fk ?_
 refine ag (s:=16) rfl ?_ ?_<;>intro g16
 ·
  refine eG ?_;refine aw rfl rfl (ah rfl rfl hT) rfl (fP ?_)
  refine af rfl ?_ ?_<;>intro c21
  ·
   obtain⟨t,hx⟩:=aj (l:=l) h0 c21
   obtain⟨b,hb⟩:=aj (l:=d.map eM) h0 om
   refine lj ?_;refine TL.run (ae rfl hB rfl om om) rfl (TL.run (aL hB hb rfl rfl) rfl (zm0 ?_))
   refine ag (s:=28) rfl ?_ ?_<;>intro g28
   ·
    refine eG ?_;refine aw rfl rfl (ae rfl hT rfl om om) rfl (gM ?_);refine aw rfl rfl (aT hT hx rfl rfl) rfl (fP ?_)
    refine af rfl ?_ ?_<;>intro c35
    ·
     refine jN ?_;refine xh ?_
     refine TL.call (ab rfl rfl rfl rfl) (EB t.name hR (by have:=xw l (d.map eM) k.toNat;omega)) rfl (fun v42 H42 hle42 hp42=>?_)
     refine iW ?_
     exact ay (k+1) _ [] H42 ⟨by omega,by omega,rfl,hle.trans hle42,by rw [varsK_T h0 hx hb (by simp_all)];exact hp42⟩ ky (fun w hw=>hw) om
    refine d6 ?_
    exact ay (k+1) _ [] H1 ⟨by omega,by omega,rfl,hle,by rw [Et h0 hx hb (by simp_all)];exact hR⟩ ky (fun w hw=>hw) om
   refine dE ?_;refine jL ?_;refine pR ?_;refine d6 ?_
   exact ay (k+1) _ [] H1 ⟨by omega,by omega,rfl,hle,by rw [Et h0 hx hb (by simp_all)];exact hR⟩ ky (fun w hw=>hw) om
  refine jA ?_
  exact aR (.inr rfl) (ad rfl (RVal.tmp rfl)) (by have e:fI l root=ep l (d.map eM) k.toNat:=by {unfold fI;rw [hd,show k.toNat=l.length by omega]};rw [e];exact hR)
 exact absurd g16 dq
theorem Ip {H:Hp}{l:List Term}{v:Value}(root:Int)(hT:RdSl H 6 Term.cells v l)(hN:∀t∈l,t.name.length≤9223372036854775807)(hl:(l.length:Int)≤100000):Fn Tryz.prog 154 [v,.int .i64 root] H (fun r H1=>RdSl H1 1 Str.cells r (fI l root)):=by
 cases hd:eq l root with
 | none=>exact FR root hT hN hl hd
 | some d=>exact FQ root hT hN hl hd
end Go.Sx
