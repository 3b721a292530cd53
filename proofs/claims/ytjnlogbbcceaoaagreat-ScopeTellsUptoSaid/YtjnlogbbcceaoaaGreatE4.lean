import Derived.Test.YtjnlogbbcceaoaaGreatE3
set_option linter.all false
set_option maxRecDepth 100000
set_option maxHeartbeats 32000000
namespace Go.Sx
open Go
abbrev Sp:=Option Addr×Nat
structure SWay where
 label:Str
 name:Str
 next:Int
def SWay.cells (w:SWay):List Value:=[gs w.label,gs w.name,.int .i64 w.next]
structure SCast where
 role:Str
 proc:Str
 args:List Int
 ap:Sp
def SCast.cells (c:SCast):List Value:=[gs c.role,gs c.proc,.slice c.ap.1 c.args.length c.ap.2]
structure SStep where
 kind:Int
 name:Str
 peer:Str
 label:Str
 proc:Str
 term:Int
 args:List Int
 ap:Sp
 casts:List SCast
 cp:Sp
 ways:List SWay
 wp:Sp
 next:Int
def SStep.cells (s:SStep):List Value:=[.int .i64 s.kind,gs s.name,gs s.peer,gs s.label,gs s.proc,.int .i64 s.term,.slice s.ap.1 s.args.length s.ap.2,.slice s.cp.1 s.casts.length s.cp.2,.slice s.wp.1 s.ways.length s.wp.2,.int .i64 s.next]
structure SArm where
 label:Str
 ck:Int
 cn:Str
 next:Int
def SArm.cells (a:SArm):List Value:=[gs a.label,.int .i64 a.ck,gs a.cn,.int .i64 a.next]
structure STurn where
 kind:Int
 peer:Str
 arms:List SArm
 ap:Sp
def STurn.cells (t:STurn):List Value:=[.int .i64 t.kind,gs t.peer,.slice t.ap.1 t.arms.length t.ap.2]
structure SLocal where
 name:Str
 turns:List STurn
 tp:Sp
def SLocal.cells (l:SLocal):List Value:=[gs l.name,.slice l.tp.1 l.turns.length l.tp.2]
structure SPoint where
 frm:Str
 to:Str
 arms:List SArm
 ap:Sp
def SPoint.cells (p:SPoint):List Value:=[gs p.frm,gs p.to,.slice p.ap.1 p.arms.length p.ap.2]
structure SProto where
 name:Str
 roles:List Str
 rp:Sp
 points:List SPoint
 pp:Sp
def SProto.cells (p:SProto):List Value:=[gs p.name,.slice p.rp.1 p.roles.length p.rp.2,.slice p.pp.1 p.points.length p.pp.2]
structure SParam where
 name:Str
 ck:Int
 cn:Str
def SParam.cells (p:SParam):List Value:=[gs p.name,.int .i64 p.ck,gs p.cn]
structure SProc where
 name:Str
 params:List SParam
 pp:Sp
 terms:List Term
 tp:Sp
 steps:List SStep
 sp:Sp
def SProc.cells (q:SProc):List Value:=[gs q.name,.slice q.pp.1 q.params.length q.pp.2,.slice q.tp.1 q.terms.length q.tp.2,.slice q.sp.1 q.steps.length q.sp.2]
structure SProg where
 protos:List SProto
 rp:Sp
 locals:List SLocal
 lp:Sp
 procs:List SProc
 qp:Sp
def SProg.cells (p:SProg):List Value:=[.slice p.rp.1 p.protos.length p.rp.2,.slice p.lp.1 p.locals.length p.lp.2,.slice p.qp.1 p.procs.length p.qp.2]
instance :Cells 3 SWay.cells:=⟨fun _=>rfl,by decide,fun _=>rfl⟩
instance :Cells 3 SCast.cells:=⟨fun _=>rfl,by decide,fun _=>rfl⟩
instance :Cells 10 SStep.cells:=⟨fun _=>rfl,by decide,fun _=>rfl⟩
instance :Cells 4 SArm.cells:=⟨fun _=>rfl,by decide,fun _=>rfl⟩
instance :Cells 3 STurn.cells:=⟨fun _=>rfl,by decide,fun _=>rfl⟩
instance :Cells 2 SLocal.cells:=⟨fun _=>rfl,by decide,fun _=>rfl⟩
instance :Cells 3 SPoint.cells:=⟨fun _=>rfl,by decide,fun _=>rfl⟩
instance :Cells 3 SProto.cells:=⟨fun _=>rfl,by decide,fun _=>rfl⟩
instance :Cells 3 SParam.cells:=⟨fun _=>rfl,by decide,fun _=>rfl⟩
instance :Cells 4 SProc.cells:=⟨fun _=>rfl,by decide,fun _=>rfl⟩
structure TurnOk (H:Hp)(t:STurn):Prop where
 a:RdSl H 4 SArm.cells (.slice t.ap.1 t.arms.length t.ap.2) t.arms
 z:∀a∈t.arms,a.cn.length≤4294960000
theorem TurnOk.le {H H':Hp}{t:STurn}(h:TurnOk H t)(hl:H.le H'):TurnOk H' t:=⟨h.a.le hl,h.z⟩
structure LocalOk (H:Hp)(l:SLocal):Prop where
 t:RdSl H 3 STurn.cells (.slice l.tp.1 l.turns.length l.tp.2) l.turns
 ts:∀t∈l.turns,TurnOk H t
theorem LocalOk.le {H H':Hp}{l:SLocal}(h:LocalOk H l)(hl:H.le H'):LocalOk H' l:=⟨h.t.le hl,fun t ht=>(h.ts t ht).le hl⟩
structure PointOk (H:Hp)(p:SPoint):Prop where
 a:RdSl H 4 SArm.cells (.slice p.ap.1 p.arms.length p.ap.2) p.arms
 z:∀a∈p.arms,a.cn.length≤4294960000
theorem PointOk.le {H H':Hp}{p:SPoint}(h:PointOk H p)(hl:H.le H'):PointOk H' p:=⟨h.a.le hl,h.z⟩
structure ProtoOk (H:Hp)(p:SProto):Prop where
 r:RdSl H 1 Str.cells (.slice p.rp.1 p.roles.length p.rp.2) p.roles
 pt:RdSl H 3 SPoint.cells (.slice p.pp.1 p.points.length p.pp.2) p.points
 ps:∀x∈p.points,PointOk H x
theorem ProtoOk.le {H H':Hp}{p:SProto}(h:ProtoOk H p)(hl:H.le H'):ProtoOk H' p:=⟨h.r.le hl,h.pt.le hl,fun x hx=>(h.ps x hx).le hl⟩
structure StepOk (H:Hp)(s:SStep):Prop where
 a:RdSl H 1 I64.cells (.slice s.ap.1 s.args.length s.ap.2) s.args
 c:RdSl H 3 SCast.cells (.slice s.cp.1 s.casts.length s.cp.2) s.casts
 cs:∀c∈s.casts,RdSl H 1 I64.cells (.slice c.ap.1 c.args.length c.ap.2) c.args
 w:RdSl H 3 SWay.cells (.slice s.wp.1 s.ways.length s.wp.2) s.ways
theorem StepOk.le {H H':Hp}{s:SStep}(h:StepOk H s)(hl:H.le H'):StepOk H' s:=⟨h.a.le hl,h.c.le hl,fun c hc=>(h.cs c hc).le hl,h.w.le hl⟩
structure ProcOk (H:Hp)(q:SProc):Prop where
 pa:RdSl H 3 SParam.cells (.slice q.pp.1 q.params.length q.pp.2) q.params
 pz:∀x∈q.params,x.cn.length≤4294960000
 pl:q.params.length≤2000000
 t:RdSl H 6 Term.cells (.slice q.tp.1 q.terms.length q.tp.2) q.terms
 tn:∀t∈q.terms,t.name.length≤9223372036854775807
 s:RdSl H 10 SStep.cells (.slice q.sp.1 q.steps.length q.sp.2) q.steps
 ss:∀s∈q.steps,StepOk H s
theorem ProcOk.le {H H':Hp}{q:SProc}(h:ProcOk H q)(hl:H.le H'):ProcOk H' q:=⟨h.pa.le hl,h.pz,h.pl,h.t.le hl,h.tn,h.s.le hl,fun s hs=>(h.ss s hs).le hl⟩
structure ProgOk (H:Hp)(P:SProg):Prop where
 r:RdSl H 3 SProto.cells (.slice P.rp.1 P.protos.length P.rp.2) P.protos
 rs:∀p∈P.protos,ProtoOk H p
 l:RdSl H 2 SLocal.cells (.slice P.lp.1 P.locals.length P.lp.2) P.locals
 ls:∀l∈P.locals,LocalOk H l
 q:RdSl H 4 SProc.cells (.slice P.qp.1 P.procs.length P.qp.2) P.procs
 qs:∀q∈P.procs,ProcOk H q
theorem ProgOk.le {H H':Hp}{P:SProg}(h:ProgOk H P)(hl:H.le H'):ProgOk H' P:=⟨h.r.le hl,fun p hp=>(h.rs p hp).le hl,h.l.le hl,fun l hh=>(h.ls l hh).le hl,h.q.le hl,fun q hq=>(h.qs q hq).le hl⟩
def gP (k:Int):Bool:=decide (k=1)||(decide (k=2)||(decide (k=4)||(decide (k=7)||(decide (k=8)||decide (k=9)))))
def aW (s:SStep):List Int:=if gP s.kind=true then [s.next] else s.ways.map (·.next)
def bJ (s:SStep):List Int:=((if s.kind=1∨s.kind=2∨s.kind=3∨(s.kind=4∧s.term≠ -1) then [s.term] else [])++s.args)++s.casts.flatMap (·.args)
def cd (s:SStep):List Str:=if s.kind=1∨s.kind=8 then [s.name] else if s.kind=5 then s.ways.map (·.name) else List.replicate (aW s).length []
def dp (w:SWay):Bool:=(decide (w.label=[])&& !decide (w.name=[]))||((!decide (w.label=[])&& !aN w.label)||(!decide (w.name=[])&& !aN w.name))
def w00:SWay:=⟨[],[],0⟩
def mi (w:SWay):Bool:=decide (w.label=[])&&decide (w.name=[])
def gb (s:SStep):Bool:=
 if s.kind=3 then decide ((s.ways.length:Int)=2)&&(mi (s.ways[0]?.getD w00)&&mi (s.ways[1]?.getD w00))
 else decide ((1:Int)≤s.ways.length)&&(decide ((s.ways.length:Int)≤7)&&(s.ways.all (fun w=>!dp w)&&dt (s.ways.map (·.label))))
def gR (s:SStep):SStep:=
 {kind:=s.kind
  name:=if s.kind=1∨s.kind=4∨s.kind=5∨s.kind=8∨s.kind=9 then [] else s.name
  peer:=if s.kind=4∨s.kind=5∨s.kind=8 then [] else s.peer
  label:=if s.kind=4∨s.kind=8 then [] else s.label
  proc:=if s.kind=6∨s.kind=7 then [] else s.proc
  term:=if s.kind=1∨s.kind=2∨s.kind=3∨s.kind=4 then -1 else s.term
  args:=if s.kind=6∨s.kind=7 then [] else s.args
  ap:=if s.kind=6∨s.kind=7 then(none,0) else s.ap
  casts:=if s.kind=8 then [] else s.casts
  cp:=if s.kind=8 then(none,0) else s.cp
  ways:=if s.kind=3∨s.kind=5 then [] else s.ways
  wp:=if s.kind=3∨s.kind=5 then(none,0) else s.wp
  next:=if gP s.kind=true then -1 else s.next}
def pM (x:SStep):Bool:=!decide (x.name=[])||(!decide (x.peer=[])||(!decide (x.label=[])||(!decide (x.proc=[])||(!decide (x.term= -1)||(decide (0<(x.args.length:Int))||(decide (0<(x.casts.length:Int))||(decide (0<(x.ways.length:Int))|| !decide (x.next= -1))))))))
def cV (c:SCast):Bool:=!aN c.role||(!aN c.proc||decide (6<(c.args.length:Int)))
def dy (s:SStep):Bool:=
 if s.kind<0∨10<s.kind then false
 else if pM (gR s)=true then false
 else if s.kind=1∨s.kind=9 then aN s.name
 else if s.kind=3 then gb s
 else if s.kind=4 then aN s.name&&(aN s.peer&&aN s.label)
 else if s.kind=5 then aN s.name&&(aN s.peer&&gb s)
 else if s.kind=6∨s.kind=7 then aN s.proc&&decide ((s.args.length:Int)≤6)
 else if s.kind=8 then aN s.name&&(aN s.label&&(aN s.peer&&(decide ((1:Int)≤s.casts.length)&&(decide ((s.casts.length:Int)≤4)&&s.casts.all (fun c=>!cV c)))))
 else true
def dD (l:List Term):Nat→Int→List Int
 | 0,_=>[]
 | f+1,at_=>if at_<0 then [] else match l[at_.toNat]? with
  | none=>[]
  | some t=>dD l f t.l++(dD l f t.r++[at_])
theorem et {l:List Term}{f:Nat}{at_:Int}(h:at_<0):dD l f at_=[]:=by
 cases f with
 | zero=>rfl
 | succ f=>unfold dD;rw [if_pos h]
theorem fp {l:List Term}{f:Nat}{at_:Int}{t:Term}(h:¬at_<0)(hx:l[at_.toNat]? =some t):dD l (f+1) at_=dD l f t.l++(dD l f t.r++[at_]):=by
 rw [dD,if_neg h,hx]
def bH (l:List Term)(root:Int):List Int:=dD l (root.toNat+1) root
def dk (l:List SProc)(s:Str):Int:=bS (l.map (·.name)) s
structure SFault where
 e:Int
 part:Int
 at_:Int
def SFault.cells (f:SFault):List Value:=[.int .i64 f.e,.int .i64 f.part,.int .i64 f.at_]
def okF:SFault:=⟨0,0,0⟩
end Go.Sx
namespace Go.Sx
open Go
theorem gD {b:Bool}(h:(!b)=true):b=false:=by simpa using h
theorem eX {b:Bool}(h:(!b)=false):b=true:=by simpa using h
theorem kx (l:List SProc)(s:Str):dk l s= -1∨(0≤dk l s∧dk l s<l.length):=by
 have:=kp (l.map (·.name)) s
 rwa [List.length_map] at this
def q00:SProc:=⟨[],[],(none,0),[],(none,0),[],(none,0)⟩
def pC (l:List SProc)(k:Int):SProc:=l[k.toNat]?.getD q00
theorem eY {α:Type}{s:List α}{i:Int}{e:α}(h:s[i.toNat]? =some e):i<s.length:=by
 have:=(List.getElem?_eq_some_iff.1 h).1;omega
theorem RdSl.cast {α:Type}{H:Hp}{m:Nat}{enc:α→List Value}{v:Value}{l l':List α}(h:RdSl H m enc v l)(e:l=l'):RdSl H m enc v l':=e▸h
theorem dz {α β:Type}{f:α→β}{l:List α}{k:Nat}{x:α}(h:l[k]? =some x):(l.map f)[k]? =some (f x):=by rw [List.getElem?_map,h];rfl
theorem bC {α:Type}{p:α→Bool}{l:List α}{k:Int}{x:α}(k0:0≤k)(hx:l[k.toNat]? =some x)(hp:p x=true){b:Bool}(h:b=(l.drop k.toNat).all p):b=(l.drop (k+1).toNat).all p:=by
 rw [h,bj hx,List.all_cons,hp,Bool.true_and,show(k+1).toNat=k.toNat+1 by omega]
theorem ce {α:Type}{p:α→Bool}{l:List α}{k:Int}{x:α}(k0:0≤k)(hx:l[k.toNat]? =some x)(hp:p x=false){b:Bool}(h:b=(l.drop k.toNat).all p):b=false:=by
 rw [h,bj hx,List.all_cons,hp,Bool.false_and]
theorem bU {α:Type}{p:α→Bool}{l:List α}{k:Int}(k0:0≤k)(hk:¬k<l.length){b:Bool}(h:b=(l.drop k.toNat).all p):b=true:=by
 rw [h,List.drop_of_length_le om];rfl
theorem OwnSl.cast {α:Type}{m:Nat}{enc:α→List Value}{v:Value}{l l':List α}{ob:aq}(h:OwnSl m enc v l ob)(e:l=l'):OwnSl m enc v l' ob:=e▸h
def kO (s:SStep):List Int:=(if s.kind=1∨s.kind=2∨s.kind=3∨(s.kind=4∧s.term≠ -1) then [s.term] else [])++s.args
theorem yJ {s:SStep}(h:s.kind=1∨s.kind=2∨s.kind=3):kO s=[s.term]++s.args:=by
 unfold kO;rcases h with e | e | e<;>simp [e]
theorem yK {s:SStep}(h:s.kind=4)(h2:¬s.term= -1):kO s=[s.term]++s.args:=by unfold kO;simp [h,h2]
theorem mu {s:SStep}(h:¬s.kind=1∧¬s.kind=2∧¬s.kind=3)(h2:¬s.kind=4∨s.term= -1):kO s=s.args:=by
 unfold kO;obtain⟨a,b,c⟩:=h
 rcases h2 with h2 | h2<;>simp [a,b,c,h2]
theorem pY (s:SStep):kO s++s.casts.flatMap (·.args)=bJ s:=rfl
theorem qb (s:SStep):(kO s).length≤1+s.args.length:=by unfold kO;split<;>simp<;>omega
theorem F4 (s:SStep)(h:s.ways.length≤1000):(aW s).length≤1000:=by unfold aW;split<;>simp<;>omega
theorem dY {s:SStep}(h:dy s=true):s.ways.length≤7∧(s.args.length≤6∧s.casts.length≤4∧∀c∈s.casts,c.args.length≤6):=by
 unfold dy at h
 split at h; · cases h
 split at h; · cases h
 rename_i hk hb
 have hb:pM (gR s)=false:=by simpa using hb
 simp only [pM,Bool.or_eq_false_iff,decide_eq_false_iff_not] at hb
 obtain⟨-, -, -, -, -,ha,hc,hw, -⟩:=hb
 have hw0:¬(s.kind=3∨s.kind=5)→s.ways.length≤7:=fun hn=>by
  simp only [gR,if_neg hn] at hw;omega
 have ha0:¬(s.kind=6∨s.kind=7)→s.args.length≤6:=fun hn=>by
  simp only [gR,if_neg hn] at ha;omega
 have hc0:¬s.kind=8→s.casts.length=0:=fun hn=>by
  simp only [gR,if_neg hn] at hc;omega
 have hcn:¬s.kind=8→s.casts.length≤4∧∀c∈s.casts,c.args.length≤6:=fun hn=>by
  have h0:=List.length_eq_zero_iff.1 (hc0 hn)
  rw [h0];exact⟨by simp,fun c hc=>by cases hc⟩
 have wy:gb s=true→s.ways.length≤7:=fun hy=>by
  unfold gb at hy
  split at hy
  ·simp only [Bool.and_eq_true,decide_eq_true_eq] at hy;omega
  ·simp only [Bool.and_eq_true,decide_eq_true_eq] at hy;omega
 split at h
 ·rename_i h1
  exact⟨hw0 om,ha0 om,hcn om⟩
 split at h
 ·rename_i h1 h3
  exact⟨wy h,ha0 om,hcn om⟩
 split at h
 ·exact⟨hw0 om,ha0 om,hcn om⟩
 split at h
 ·simp only [Bool.and_eq_true] at h
  exact⟨wy h.2.2,ha0 om,hcn om⟩
 split at h
 ·simp only [Bool.and_eq_true,decide_eq_true_eq] at h
  exact⟨hw0 om,by omega,hcn om⟩
 split at h
 ·rename_i h8
  simp only [Bool.and_eq_true,decide_eq_true_eq] at h
  obtain⟨-, -, -, -,h4,h5⟩:=h
  refine⟨hw0 om,ha0 om,by omega,fun c hc=>?_⟩
  have h6:=List.all_eq_true.1 h5 c hc
  simp only [cV,Bool.not_eq_true',Bool.or_eq_false_iff,decide_eq_false_iff_not] at h6
  omega
 ·exact⟨hw0 om,ha0 om,hcn om⟩
theorem yo {α:Type}{enc:α→List Value}{x:α}{u:Value}(he:enc x=[u]):∀n:Nat,(List.replicate n x).flatMap enc=iE n [u]
 | 0=>rfl
 | n+1=>by rw [List.replicate_succ,List.flatMap_cons,yo he n,he];rfl
theorem Ik {l:List Str}{b n:Nat}(e:l=List.replicate n ([]:Str))(hn:n≤1000):OwnSl 1 Str.cells (.slice (some ⟨b,0,none⟩) n n) l [(b,iE n [gs []])]:=by
 subst e
 exact OwnSl.blk (enc:=Str.cells) (List.replicate n ([]:Str)) sq (yo (enc:=Str.cells) (x:=([]:Str)) rfl n).symm om
section
variable {s:SStep}{k:Int}{x w0 w1:SWay}
theorem pT {b:Bool}(hk:s.kind=3)(h0:s.ways[(0:Int).toNat]? =some w0)(h1:s.ways[(1:Int).toNat]? =some w1)(h:b=(decide ((s.ways.length:Int)=2)&&(mi w0&&mi w1))):b=gb s:=by
 unfold gb
 rw [if_pos hk,h]
 rw [show(0:Int).toNat=0 from rfl] at h0
 rw [show(1:Int).toNat=1 from rfl] at h1
 rw [h0,h1];rfl
theorem mp (hk:s.kind=3)(h:decide ((s.ways.length:Int)=2)=false):false=gb s:=by
 unfold gb;rw [if_pos hk,h];rfl
theorem HB (hk:¬s.kind=3)(h:¬((1:Int)≤s.ways.length∧(s.ways.length:Int)≤7)):gb s=false:=by
 unfold gb
 rw [if_neg hk]
 by_cases h1:(1:Int)≤s.ways.length
 ·rw [decide_eq_true h1,decide_eq_false (fun h2=>h ⟨h1,h2⟩)];rfl
 ·rw [decide_eq_false h1];rfl
theorem AV (hk:¬s.kind=3)(k0:0≤k)(hx:s.ways[k.toNat]? =some x)(hb:dp x=true)(h:s.ways.all (fun w=>!dp w)=(s.ways.drop k.toNat).all (fun w=>!dp w)):gb s=false:=by
 unfold gb
 rw [if_neg hk,ce (p:=fun w=>!dp w) k0 hx (by simp [hb]) h]
 simp
theorem AU (hk:¬s.kind=3)(hn:(1:Int)≤s.ways.length∧(s.ways.length:Int)≤7)(k0:0≤k)(he:¬k<s.ways.length)(h:s.ways.all (fun w=>!dp w)=(s.ways.drop k.toNat).all (fun w=>!dp w)):gb s=dt (s.ways.map (·.label)):=by
 unfold gb
 rw [if_neg hk,bU (p:=fun w=>!dp w) k0 he h,decide_eq_true hn.1,decide_eq_true hn.2]
 simp
theorem bare_rd {H:Hp}(hs:StepOk H s):StepOk H (gR s):=by
 unfold gR
 constructor<;>simp only
 ·by_cases h:s.kind=6∨s.kind=7
  ·simp only [if_pos h];exact RdSl.nil
  ·simp only [if_neg h];exact hs.a
 ·by_cases h:s.kind=8
  ·simp only [if_pos h];exact RdSl.nil
  ·simp only [if_neg h];exact hs.c
 ·by_cases h:s.kind=8
  ·simp only [if_pos h];intro c hc;cases hc
  ·simp only [if_neg h];exact hs.cs
 ·by_cases h:s.kind=3∨s.kind=5
  ·simp only [if_pos h];exact RdSl.nil
  ·simp only [if_neg h];exact hs.w
end
end Go.Sx
namespace Go.Sx
open Go
theorem Gb {l:List Term}:∀(f:Nat) (at_ deep:Int) (met:List Bool),0≤at_→1≤deep→(db l f at_ deep met).1=true→(dD l f at_).length+1≤2 ^ (26 - deep.toNat):=by
 intro f
 induction f with
 | zero=>intro at_ deep met _ _ h;simp [db] at h
 | succ f ih=>
  intro at_ deep met h0 hd h
  cases hx:l[at_.toNat]? with
  | none=>simp [db,hx] at h
  | some t=>
   by_cases hg:met[at_.toNat]?.getD false=true∨24<deep∨al t.kind<0∨cG t=false
   ·rw [uS hx hg] at h;cases h
   ·have hgg:CD deep met at_ t:=by
     refine⟨?_,?_,?_,?_⟩
     ·cases hb:met[at_.toNat]?.getD false with
      | false=>rfl
      | true=>exact absurd (.inl hb) hg
     ·intro h1;exact hg (.inr (.inl h1))
     ·intro h1;exact hg (.inr (.inr (.inl h1)))
     ·cases hb:cG t with
      | true=>rfl
      | false=>exact absurd (.inr (.inr (.inr hb))) hg
    generalize h00:opW (al t.kind) at_ (fun to m=>db l f to (deep+1) m) 0 t.l (met.set at_.toNat true)=r0
    obtain⟨b0,m0⟩:=r0
    cases b0 with
    | false=>rw [uT hx hgg h00] at h;cases h
    | true=>
     generalize h11:opW (al t.kind) at_ (fun to m=>db l f to (deep+1) m) 1 t.r m0=r1
     rw [lY hx hgg h00 h11] at h
     have h24:=hgg.2.1
     have h1:0<2 ^ (26 - (deep+1).toNat):=Nat.two_pow_pos _
     have key:∀(i to:Int) (m m':List Bool),opW (al t.kind) at_ (fun to m=>db l f to (deep+1) m) i to m=(true,m')→(dD l f to).length+1≤2 ^ (26 - (deep+1).toNat):=by
      intro i to m m' he
      by_cases hi:i<al t.kind
      ·by_cases hb:to<0∨at_≤to
       ·rw [sG om hb] at he;cases he
       ·rw [sF om om om] at he
        exact ih to (deep+1) m om om (by rw [he])
      ·rw [zf om] at he
       have:to= -1:=by simpa using congrArg Prod.fst he
       rw [et om];simp;omega
     have k0:=key 0 t.l _ _ h00
     have k1:=key 1 t.r _ r1.2 (by rw [h11];cases r1;simp at h;simp [h])
     rw [fp om hx]
     have hp:2 ^ (26 - deep.toNat)=2 * 2 ^ (26 - (deep+1).toNat):=by
      rw [show 26 - deep.toNat=(26 - (deep+1).toNat)+1 by omega,Nat.pow_succ];omega
     simp only [List.length_append,List.length_cons,List.length_nil]
     omega
theorem mI {l:List Term}{root:Int}(h:cN l root=true):(dD l (root.toNat+1) root).length≤33554432:=by
 unfold cN at h
 split at h
 ·cases h
 ·split at h
  ·cases h
  ·split at h
   ·cases h
   ·have:=Gb _ _ _ _ om dq h
    simp at this
    omega
theorem mB {l:List Term}:∀(f:Nat) (at_:Int),∀k∈dD l f at_,0≤k∧k<l.length
 | 0,at_,k,h=>by cases h
 | f+1,at_,k,h=>by
  rw [dD] at h
  split at h
  ·cases h
  ·split at h
   ·cases h
   ·rename_i hn t hx
    rcases List.mem_append.1 h with h | h
    ·exact mB f _ k h
    ·rcases List.mem_append.1 h with h | h
     ·exact mB f _ k h
     ·simp at h;subst h
      have:=(List.getElem?_eq_some_iff.1 hx).1
      omega
def bL (l:List SProc)(name:Str)(n:Int):Bool:=decide (0≤dk l name)&&decide (((pC l (dk l name)).params.length:Int)=n)
def cH (s:SStep):List Str:=s.peer::s.casts.map (·.role)
def eW (x:SProto)(s:SStep):Bool:=decide (((cH s).length:Int)=x.roles.length)&&(dt (cH s)&&(cH s).all (fun r=>bI x.roles r))
def fe (s:SStep):List SProto→Bool
 | []=>false
 | x::r=>if x.name=s.label then eW x s else fe s r
def dx (P:SProg)(s:SStep):Bool:=fe s P.protos
def dA (ts:List Term)(s:SStep):List Str:=(bJ s).flatMap (iH ts)++(if s.kind=4∨s.kind=5∨s.kind=9 then [s.name] else [])
def gw (P:SProg)(ts:List Term)(s:SStep)(bound:List Str):Int:=
 if(dA ts s).all (fun n=>bI bound n)=false then 1505
 else if(cd s).all (fun n=>!(!decide (n=[])&&bI bound n))=false then 1506
 else if(!decide (s.proc=[])&& !bL P.procs s.proc s.args.length)=true then 1507
 else if s.casts.all (fun c=>bL P.procs c.proc (c.args.length+1))=false then 1507
 else if(decide (s.kind=8)&& !dx P s)=true then 1508 else 0
def dM (ck:Int)(cn:Str):Bool:=
 if ck<0∨5<ck then false
 else if ck≠5 then decide (cn=[])
 else aN (n7 cn).1&&(!(n7 cn).2.2||aN (n7 cn).2.1)
def f8 (n:Int)(a:SArm):Bool:=aN a.label&&(dM a.ck a.cn&&(!decide (a.next<0)&& !decide (n≤a.next)))
def eA (l:List SArm)(n:Int):Bool:=(decide (1≤l.length)&&decide (l.length≤6))&&(l.all (f8 n)&&dt (l.map (·.label)))
def de (n:Int)(t:STurn):Bool:=
 if t.kind=0 then decide (t.peer=[])&& !decide (0<(t.arms.length:Int))
 else if t.kind=1∨t.kind=2 then aN t.peer&&eA t.arms n
 else false
def cr (l:SLocal):Bool:=(decide (1≤l.turns.length)&&decide (l.turns.length≤40))&&l.turns.all (de l.turns.length)
def eu (x:SPoint):STurn:=if ¬x.frm=[]∨¬x.to=[]∨0<x.arms.length then⟨1,x.to,x.arms,x.ap⟩ else⟨0,[],x.arms,x.ap⟩
def ez (x:SPoint):Bool:=decide (x.frm=[])&&(decide (x.to=[])&&decide ((x.arms.length:Int)=0))
def eT (roles:List Str)(x:SPoint):Bool:=bI roles x.frm&&(bI roles x.to&& !decide (x.frm=x.to))
def eU (roles:List Str)(x:SPoint):Bool:=ez x||eT roles x
def dg (p:SProto):Bool:=aN p.name&&(decide ((2:Int)≤p.roles.length)&&(decide ((p.roles.length:Int)≤5)&&(dt p.roles&& !decide ((24:Int)<p.points.length))))
def cF (p:SProto):Bool:=dg p&&(p.roles.all aN&&(p.points.all (eU p.roles)&&cr ⟨[],p.points.map eu,(none,0)⟩))
def bM (q:SProc):Bool:=aN q.name&&(decide ((q.params.length:Int)≤6)&&(decide ((1:Int)≤q.steps.length)&&(decide ((q.steps.length:Int)≤80)&&decide ((q.terms.length:Int)≤160))))
def dr (x:SParam):Bool:=aN x.name&&dM x.ck x.cn
def gO (l:List SProc)(i:Int)(q:SProc):SFault:=
 if(bM q&&q.params.all dr)=false then⟨1500,i, -1⟩
 else if(decide (dk l q.name<i)|| !dt (q.params.map (·.name)))=true then⟨1501,i, -1⟩ else okF
def aP (l:List Int)(i:Int):Int:=l[i.toNat]?.getD 0
def fU (l:List Int)(i:Int):List Int:=l.set i.toNat (IntKind.i64.wrap (aP l i+1))
def cx (n at_:Int):List Int→List Int→List Int→Option (List Int×List Int)
 | [],c,d=>some (c,d)
 | t::r,c,d=>if t≤at_∨n≤t then none else cx n at_ r (fU c t) (d.set t.toNat (aP d at_))
def ge:List Int→List Bool→Option (List Bool)
 | [],u=>some u
 | k::r,u=>if u[k.toNat]?.getD false=true then none else ge r (u.set k.toNat true)
def cw (ts:List Term):List Int→List Bool→Option (List Bool)
 | [],u=>some u
 | t::r,u=>if cN ts t=false then none else match ge (bH ts t) u with
  | none=>none
  | some u2=>cw ts r u2
def eL (s:SStep)(at_:Int)(d:List Int):List Int:=if s.kind=3∨s.kind=5 then fU d at_ else d
def bT (q:SProc)(i:Int):List SStep→Int→List Int→List Int→List Bool→SFault
 | [],_,_,_,_=>okF
 | s::r,at_,c,d,u=>
  if dy s=false then⟨1500,i,at_⟩
  else if 0<at_∧¬aP c at_=1 then⟨1502,i,at_⟩
  else match cx q.steps.length at_ (aW s) c (eL s at_ d) with
   | none=>⟨1502,i,at_⟩
   | some (c2,d2)=>
    if 24<aP d2 at_ then⟨1502,i,at_⟩
    else match cw q.terms (bJ s) u with
     | none=>⟨1503,i,at_⟩
     | some u2=>bT q i r (at_+1) c2 d2 u2
def f4 (i:Int)(q:SProc):SFault:=bT q i q.steps 0 (List.replicate q.steps.length 0) (List.replicate q.steps.length 0) (List.replicate q.terms.length false)
def jZ (b:List (List Str))(at_:Int)(t:Int)(m:Str):List (List Str):=b.set t.toNat ((b[at_.toNat]?.getD [])++(if m=[] then [] else [m]))
def d9 (at_:Int):List Int→List Str→List (List Str)→List (List Str)
 | [],_,b=>b
 | t::r,ms,b=>d9 at_ r (ms.drop 1) (jZ b at_ t (ms.headD []))
def fb (P:SProg)(q:SProc)(i:Int):List SStep→Int→List (List Str)→SFault
 | [],_,_=>okF
 | s::r,at_,b=>
  let e:=gw P q.terms s (b[at_.toNat]?.getD [])
  if e≠0 then⟨e,i,at_⟩ else fb P q i r (at_+1) (d9 at_ (aW s) (cd s) b)
def mh (q:SProc):List (List Str):=(List.replicate q.steps.length ([]:List Str)).set 0 (q.params.map (·.name))
def f6 (P:SProg)(i:Int)(q:SProc):SFault:=fb P q i q.steps 0 (mh q)
def cB (f:Int→SProc→SFault):List SProc→Int→SFault
 | [],_=>okF
 | q::r,i=>if(f i q).e≠0 then f i q else cB f r (i+1)
def bf (l:List SProc)(i:Int)(q:SProc):SFault:=if(gO l i q).e≠0 then gO l i q else f4 i q
def jH (P:SProg):SFault:=
 if 6<(P.protos.length:Int)∨12<(P.locals.length:Int)∨24<(P.procs.length:Int) then⟨1500, -1, -1⟩
 else if P.protos.all cF=false then⟨1500, -1, -1⟩
 else if P.locals.all (fun l=>cr l&&aN l.name)=false then⟨1500, -1, -1⟩
 else okF
def cL:Str:=[109,97,105,110]
def j5 (l:List SProc):SFault:=if dk l cL<0∨0<((pC l (dk l cL)).params.length:Int) then⟨1504, -1, -1⟩ else okF
def eh (P:SProg):SFault:=
 if(jH P).e≠0 then jH P
 else if(cB (bf P.procs) P.procs 0).e≠0 then cB (bf P.procs) P.procs 0
 else if(j5 P.procs).e≠0 then j5 P.procs
 else cB (f6 P) P.procs 0
end Go.Sx
namespace Go.Sx
open Go
section
variable {P:SProg}{ts:List Term}{s:SStep}{bound:List Str}
theorem step_1 (h:(dA ts s).all (fun n=>bI bound n)=false):gw P ts s bound=1505:=by unfold gw;rw [if_pos h]
theorem step_2 (h:(dA ts s).all (fun n=>bI bound n)=true)(h2:(cd s).all (fun n=>!(!decide (n=[])&&bI bound n))=false):gw P ts s bound=1506:=by
 unfold gw;rw [if_neg (by rw [h];decide),if_pos h2]
theorem step_3 (h:(dA ts s).all (fun n=>bI bound n)=true)(h2:(cd s).all (fun n=>!(!decide (n=[])&&bI bound n))=true)(h3:(!decide (s.proc=[])&& !bL P.procs s.proc s.args.length)=true):gw P ts s bound=1507:=by
 unfold gw;rw [if_neg (by rw [h];decide),if_neg (by rw [h2];decide),if_pos h3]
theorem step_4 (h:(dA ts s).all (fun n=>bI bound n)=true)(h2:(cd s).all (fun n=>!(!decide (n=[])&&bI bound n))=true)(h3:(!decide (s.proc=[])&& !bL P.procs s.proc s.args.length)=false)
  (h4:s.casts.all (fun c=>bL P.procs c.proc (c.args.length+1))=false):gw P ts s bound=1507:=by
 unfold gw;rw [if_neg (by rw [h];decide),if_neg (by rw [h2];decide),if_neg (by rw [h3];decide),if_pos h4]
theorem step_5 (h:(dA ts s).all (fun n=>bI bound n)=true)(h2:(cd s).all (fun n=>!(!decide (n=[])&&bI bound n))=true)(h3:(!decide (s.proc=[])&& !bL P.procs s.proc s.args.length)=false)
  (h4:s.casts.all (fun c=>bL P.procs c.proc (c.args.length+1))=true) (h5:(decide (s.kind=8)&& !dx P s)=true):gw P ts s bound=1508:=by
 unfold gw;rw [if_neg (by rw [h];decide),if_neg (by rw [h2];decide),if_neg (by rw [h3];decide),if_neg (by rw [h4];decide),if_pos h5]
theorem step_6 (h:(dA ts s).all (fun n=>bI bound n)=true)(h2:(cd s).all (fun n=>!(!decide (n=[])&&bI bound n))=true)(h3:(!decide (s.proc=[])&& !bL P.procs s.proc s.args.length)=false)
  (h4:s.casts.all (fun c=>bL P.procs c.proc (c.args.length+1))=true) (h5:(decide (s.kind=8)&& !dx P s)=false):gw P ts s bound=0:=by
 unfold gw;rw [if_neg (by rw [h];decide),if_neg (by rw [h2];decide),if_neg (by rw [h3];decide),if_neg (by rw [h4];decide),if_neg (by rw [h5];decide)]
theorem Fq (h:s.args.length≤6∧s.casts.length≤4∧∀c∈s.casts,c.args.length≤6):(bJ s).length≤100:=by
 have h1:=qb s
 have h2:∀l:List SCast,(∀c∈l,c.args.length≤6)→(l.flatMap (·.args)).length≤6 * l.length:=by
  intro l
  induction l with
  | nil=>simp
  | cons c l ih=>
   intro h
   have:=ih (fun x hx=>h x (by simp [hx]))
   have:=h c sq
   simp only [List.flatMap_cons,List.length_append,List.length_cons];omega
 have h3:=h2 s.casts h.2.2
 rw [← pY,List.length_append]
 omega
theorem Es:∀(r:List Int),(r.flatMap (iH ts)).length≤16777216 * r.length
 | []=>by simp
 | t::r=>by
  have:=Es r
  have:=xu ts t
  simp only [List.flatMap_cons,List.length_append,List.length_cons];omega
theorem vo {l:List SProc}{i:Int}{q:SProc}(h:(bM q&&q.params.all dr)=false):gO l i q=⟨1500,i, -1⟩:=by unfold gO;rw [if_pos h]
theorem vn {l:List SProc}{i:Int}{q:SProc}(h:(bM q&&q.params.all dr)=true)(h2:(decide (dk l q.name<i)|| !dt (q.params.map (·.name)))=true):gO l i q=⟨1501,i, -1⟩:=by
 unfold gO;rw [if_neg (by rw [h];decide),if_pos h2]
theorem ma {l:List SProc}{i:Int}{q:SProc}(h:(bM q&&q.params.all dr)=true)(h2:(decide (dk l q.name<i)|| !dt (q.params.map (·.name)))=false):gO l i q=okF:=by
 unfold gO;rw [if_neg (by rw [h];decide),if_neg (by rw [h2];decide)]
end
theorem Dj {k:Int}{l:List SArm}{x:SArm}(k0:0≤k)(hx:l[k.toNat]? =some x)(h:((l.take k.toNat).map (·.label)).Nodup)(hn:x.label∉(l.take k.toNat).map (·.label)):((l.take (k+1).toNat).map (·.label)).Nodup:=by
 rw [bv k0 hx,List.nodup_append]
 refine⟨h,by simp,?_⟩
 intro a ha b hb e
 simp at hb
 subst hb;subst e
 exact hn ha
section
variable {l:List SArm}{n k:Int}{x:SArm}
theorem Cs (h:¬(1≤l.length∧l.length≤6)):false=eA l n:=by
 unfold eA
 by_cases h1:1≤l.length
 ·rw [decide_eq_true h1,decide_eq_false (fun h2=>h ⟨h1,h2⟩)];rfl
 ·rw [decide_eq_false h1];rfl
theorem Jw (k0:0≤k)(hx:l[k.toNat]? =some x)(h:f8 n x=false∨x.label∈(l.take k.toNat).map (·.label)):false=eA l n:=by
 unfold eA
 rcases h with h | h
 ·rw [show l.all (f8 n)=false from ?_]; · simp
  rw [List.all_eq_false]
  exact⟨x,List.mem_of_getElem? hx,by simp [h]⟩
 ·rw [show dt (l.map (·.label))=false from ?_]; · simp
  unfold dt
  refine decide_eq_false (fun hn=>?_)
  have e:l.map (·.label)=(l.take k.toNat).map (·.label)++(l.drop k.toNat).map (·.label):=by rw [← List.map_append,List.take_append_drop]
  rw [e,List.nodup_append] at hn
  rw [bj hx,List.map_cons] at hn
  exact hn.2.2 _ h _ (List.mem_cons_self ..) rfl
theorem Jv (hl:1≤l.length∧l.length≤6)(k0:0≤k)(hk:¬k<l.length)(h:(l.take k.toNat).all (f8 n)=true)(hn:((l.take k.toNat).map (·.label)).Nodup):true=eA l n:=by
 rw [aX hk k0] at h hn
 unfold eA dt
 rw [decide_eq_true hl.1,decide_eq_true hl.2,h,decide_eq_true hn];rfl
end
section
variable {l:SLocal}{k:Int}{x:STurn}
theorem qw (h:¬(1≤l.turns.length∧l.turns.length≤40)):false=cr l:=by
 unfold cr
 by_cases h1:1≤l.turns.length
 ·rw [decide_eq_true h1,decide_eq_false (fun h2=>h ⟨h1,h2⟩)];rfl
 ·rw [decide_eq_false h1];rfl
theorem gj (k0:0≤k)(hx:l.turns[k.toNat]? =some x)(hb:de l.turns.length x=false)(h:l.turns.all (de l.turns.length)=(l.turns.drop k.toNat).all (de l.turns.length)):false=cr l:=by
 unfold cr;rw [ce k0 hx hb h];simp
theorem yj (hl:1≤l.turns.length∧l.turns.length≤40)(k0:0≤k)(hk:¬k<l.turns.length)(h:l.turns.all (de l.turns.length)=(l.turns.drop k.toNat).all (de l.turns.length)):true=cr l:=by
 unfold cr;rw [bU k0 hk h,decide_eq_true hl.1,decide_eq_true hl.2];rfl
end
theorem wi (ck:Int)(cn:Str)(p q:Sp):cr ⟨[],[⟨1,[120],[⟨[120],ck,cn,0⟩],p⟩],q⟩=dM ck cn:=by
 simp [cr,de,eA,f8,dt,show aN [120]=true by decide]
theorem EX {x:SPoint}(h:¬x.frm=[]∨¬x.to=[]∨0<x.arms.length):eu x=⟨1,x.to,x.arms,x.ap⟩:=by unfold eu;rw [if_pos h]
theorem EY {x:SPoint}(h:¬(¬x.frm=[]∨¬x.to=[]∨0<x.arms.length)):eu x=⟨0,[],x.arms,x.ap⟩:=by unfold eu;rw [if_neg h]
theorem Cc {H:Hp}{p:SProto}(hP:ProtoOk H p):∀t∈p.points.map eu,TurnOk H t:=by
 intro t ht
 obtain⟨x,hx,rfl⟩:=List.mem_map.1 ht
 have h:=hP.ps x hx
 unfold eu
 split<;>exact⟨h.a,h.z⟩
theorem pt_1 {r:List Str}{x:SPoint}(h:ez x=true):eU r x=true:=by unfold eU;rw [h];rfl
theorem pt_2 {r:List Str}{x:SPoint}(h:(!eT r x)=false):eU r x=true:=by unfold eU;rw [eX h,Bool.or_true]
theorem pt_3 {r:List Str}{x:SPoint}(h1:ez x=false)(h:(!eT r x)=true):eU r x=false:=by unfold eU;rw [gD h,h1];rfl
theorem sA {p:SProto}(h:(!dg p)=true):false=cF p:=by unfold cF;rw [gD h];rfl
theorem sy {p:SProto}(h1:p.roles.all aN=false):false=cF p:=by unfold cF;rw [h1];simp
theorem sx {p:SProto}(h1:p.points.all (eU p.roles)=false):false=cF p:=by unfold cF;rw [h1];simp
theorem su {p:SProto}{q:Sp}(h:dg p=true)(h1:p.roles.all aN=true)(h2:p.points.all (eU p.roles)=true):cr ⟨[],p.points.map eu,q⟩=cF p:=by
 unfold cF;rw [h,h1,h2];rfl
theorem Iz {p:SProto}(h:dg p=true):p.points.length≤24:=by
 unfold dg at h;simp only [Bool.and_eq_true,decide_eq_true_eq,Bool.not_eq_true',decide_eq_false_iff_not] at h;omega
section
variable {pg:SProg}{s:SStep}{k:Int}{x:SProto}
theorem Df (k0:0≤k)(hx:pg.protos[k.toNat]? =some x)(hn:¬x.name=s.label)(h:dx pg s=fe s (pg.protos.drop k.toNat)):dx pg s=fe s (pg.protos.drop (k+1).toNat):=by
 rw [h,bj hx,fe,if_neg hn,show(k+1).toNat=k.toNat+1 by omega]
theorem mF (k0:0≤k)(hk:¬k<pg.protos.length)(h:dx pg s=fe s (pg.protos.drop k.toNat)):dx pg s=false:=by
 rw [h,List.drop_of_length_le om];rfl
theorem sE (k0:0≤k)(hx:pg.protos[k.toNat]? =some x)(hn:x.name=s.label)(h:dx pg s=fe s (pg.protos.drop k.toNat))(hb:(!(decide (((cH s).length:Int)=x.roles.length)&&dt (cH s)))=true):dx pg s=false:=by
 rw [h,bj hx,fe,if_pos hn,eW]
 have hb:=gD hb
 cases h1:decide (((cH s).length:Int)=x.roles.length) with
 | false=>rfl
 | true=>rw [h1] at hb;simp at hb;simp [hb]
theorem sD {b:Bool}(k0:0≤k)(hx:pg.protos[k.toNat]? =some x)(hn:x.name=s.label)(h:dx pg s=fe s (pg.protos.drop k.toNat))(hb:(!(decide (((cH s).length:Int)=x.roles.length)&&dt (cH s)))=false)(ha:(cH s).all (fun r=>bI x.roles r)=b):dx pg s=b:=by
 rw [h,bj hx,fe,if_pos hn,eW]
 have hb:=eX hb
 simp only [Bool.and_eq_true] at hb
 rw [hb.1,hb.2,ha];simp
end
theorem Ja {q:SProc}{k:Int}{x:SParam}{b b2:Bool}(k0:0≤k)(hx:q.params[k.toNat]? =some x)(h:b=(bM q&&(q.params.take k.toNat).all dr))(h2:b2=(b&&dr x)):b2=(bM q&&(q.params.take (k+1).toNat).all dr):=by
 rw [h2,h,bi k0 hx,List.all_append];simp [Bool.and_assoc]
section
variable {pg:SProg}
theorem yA (h:(decide (6<(pg.protos.length:Int))||(decide (12<(pg.locals.length:Int))||decide (24<(pg.procs.length:Int))))=true):jH pg=⟨1500, -1, -1⟩:=by
 unfold jH;rw [if_pos (by simpa using h)]
theorem Jz (h:(decide (6<(pg.protos.length:Int))||(decide (12<(pg.locals.length:Int))||decide (24<(pg.procs.length:Int))))=false):¬(6<(pg.protos.length:Int)∨12<(pg.locals.length:Int)∨24<(pg.procs.length:Int)):=by
 intro e;rw [← Bool.not_eq_true] at h;exact h (by simpa using e)
theorem yz (h:(decide (6<(pg.protos.length:Int))||(decide (12<(pg.locals.length:Int))||decide (24<(pg.procs.length:Int))))=false)(h2:pg.protos.all cF=false):jH pg=⟨1500, -1, -1⟩:=by
 unfold jH;rw [if_neg (Jz h),if_pos h2]
theorem yy (h:(decide (6<(pg.protos.length:Int))||(decide (12<(pg.locals.length:Int))||decide (24<(pg.procs.length:Int))))=false)(h2:pg.protos.all cF=true)(h3:pg.locals.all (fun l=>cr l&&aN l.name)=false):jH pg=⟨1500, -1, -1⟩:=by
 unfold jH;rw [if_neg (Jz h),if_neg (by rw [h2];decide),if_pos h3]
theorem Cx (h:(decide (6<(pg.protos.length:Int))||(decide (12<(pg.locals.length:Int))||decide (24<(pg.procs.length:Int))))=false)(h2:pg.protos.all cF=true)(h3:pg.locals.all (fun l=>cr l&&aN l.name)=true):jH pg=okF:=by
 unfold jH;rw [if_neg (Jz h),if_neg (by rw [h2];decide),if_neg (by rw [h3];decide)]
end
theorem my:∀n:Nat,iE n [Value.int .i64 0]=(List.replicate n (0:Int)).map (Value.int .i64)
 | 0=>rfl
 | n+1=>by rw [List.replicate_succ,List.map_cons,← my n];rfl
theorem yT:∀n:Nat,iE n [Value.bool false]=(List.replicate n false).map Value.bool
 | 0=>rfl
 | n+1=>by rw [List.replicate_succ,List.map_cons,← yT n];rfl
theorem DD {c:List Bool}{k:Int}(h:k.toNat<c.length):(c.map Value.bool)[0+k.toNat * 1]? =some (.bool (c[k.toNat]?.getD false)):=by
 rw [show 0+k.toNat * 1=k.toNat by omega,List.getElem?_map,List.getElem?_eq_getElem h]
 simp [h]
theorem DC {c:List Bool}{k:Int}{x:Bool}:(c.map Value.bool).set (0+k.toNat * 1) (.bool x)=(c.set k.toNat x).map Value.bool:=by
 rw [show 0+k.toNat * 1=k.toNat by omega,List.map_set]
theorem ie {c:List Int}{k:Int}(h:k.toNat<c.length):(c.map (Value.int .i64))[0+k.toNat * 1]? =some (.int .i64 (aP c k)):=by
 rw [show 0+k.toNat * 1=k.toNat by omega,List.getElem?_map,List.getElem?_eq_getElem h]
 simp [aP,h]
theorem jF {c:List Int}{k x:Int}:(c.map (Value.int .i64)).set (0+k.toNat * 1) (.int .i64 x)=(c.set k.toNat x).map (Value.int .i64):=by
 rw [show 0+k.toNat * 1=k.toNat by omega,List.map_set]
section
variable {n at_:Int}{L:List Int}{k x:Int}{c d c2 d2:List Int}{N:Option (List Int×List Int)}
theorem ng_bad (k0:0≤k)(hx:L[k.toNat]? =some x)(hb:(decide (x≤at_)||decide (n≤x))=true)(h:N=cx n at_ (L.drop k.toNat) c d):N=none:=by
 rw [h,bj hx,cx,if_pos (by simpa using hb)]
theorem ng_next (k0:0≤k)(hx:L[k.toNat]? =some x)(hb:(decide (x≤at_)||decide (n≤x))=false)(h:N=cx n at_ (L.drop k.toNat) c d):N=cx n at_ (L.drop (k+1).toNat) (fU c x) (d.set x.toNat (aP d at_)):=by
 rw [h,bj hx,cx,if_neg (by intro e;rw [Bool.or_eq_false_iff] at hb;simp at hb;omega),show(k+1).toNat=k.toNat+1 by omega]
theorem ng_end (k0:0≤k)(hk:¬k<L.length)(h:N=cx n at_ (L.drop k.toNat) c d):N=some (c,d):=by
 rw [h,List.drop_of_length_le om];rfl
end
section
variable {L:List Int}{k x:Int}{u u2:List Bool}{N:Option (List Bool)}{ts:List Term}
theorem ug_bad (k0:0≤k)(hx:L[k.toNat]? =some x)(hb:u[x.toNat]?.getD false=true)(h:N=ge (L.drop k.toNat) u):N=none:=by
 rw [h,bj hx,ge,if_pos hb]
theorem ug_next (k0:0≤k)(hx:L[k.toNat]? =some x)(hb:u[x.toNat]?.getD false=false)(h:N=ge (L.drop k.toNat) u):N=ge (L.drop (k+1).toNat) (u.set x.toNat true):=by
 rw [h,bj hx,ge,if_neg (by rw [hb];decide),show(k+1).toNat=k.toNat+1 by omega]
theorem ug_end (k0:0≤k)(hk:¬k<L.length)(h:N=ge (L.drop k.toNat) u):N=some u:=by
 rw [h,List.drop_of_length_le om];rfl
theorem rg_may (k0:0≤k)(hx:L[k.toNat]? =some x)(hb:cN ts x=false)(h:N=cw ts (L.drop k.toNat) u):N=none:=by
 rw [h,bj hx,cw,if_pos hb]
theorem rg_bad (k0:0≤k)(hx:L[k.toNat]? =some x)(hb:cN ts x=true)(hu:ge (bH ts x) u=none)(h:N=cw ts (L.drop k.toNat) u):N=none:=by
 rw [h,bj hx,cw,if_neg (by rw [hb];decide),hu]
theorem rg_next (k0:0≤k)(hx:L[k.toNat]? =some x)(hb:cN ts x=true)(hu:ge (bH ts x) u=some u2)(h:N=cw ts (L.drop k.toNat) u):N=cw ts (L.drop (k+1).toNat) u2:=by
 rw [h,bj hx,cw,if_neg (by rw [hb];decide),hu,show(k+1).toNat=k.toNat+1 by omega]
theorem rg_end (k0:0≤k)(hk:¬k<L.length)(h:N=cw ts (L.drop k.toNat) u):N=some u:=by
 rw [h,List.drop_of_length_le om];rfl
end
section
variable {q:SProc}{i k:Int}{s:SStep}{c d c2 d2:List Int}{u u2:List Bool}{F:SFault}
theorem sh_form (k0:0≤k)(hx:q.steps[k.toNat]? =some s)(hm:dy s=false)(h:F=bT q i (q.steps.drop k.toNat) k c d u):F=⟨1500,i,k⟩:=by
 rw [h,bj hx,bT,if_pos hm]
theorem sh_tree (k0:0≤k)(hx:q.steps[k.toNat]? =some s)(hm:dy s=true)(ht:(decide (0<k)&& !decide (aP c k=1))=true)(h:F=bT q i (q.steps.drop k.toNat) k c d u):F=⟨1502,i,k⟩:=by
 rw [h,bj hx,bT,if_neg (by rw [hm];decide),if_pos (by simpa using ht)]
theorem sh_n (k0:0≤k)(hx:q.steps[k.toNat]? =some s)(hm:dy s=true)(ht:(decide (0<k)&& !decide (aP c k=1))=false)(hn:cx q.steps.length k (aW s) c (eL s k d)=none)(h:F=bT q i (q.steps.drop k.toNat) k c d u):F=⟨1502,i,k⟩:=by
 rw [h,bj hx,bT,if_neg (by rw [hm];decide),if_neg (by intro e;simp [e] at ht),hn]
theorem sh_d (k0:0≤k)(hx:q.steps[k.toNat]? =some s)(hm:dy s=true)(ht:(decide (0<k)&& !decide (aP c k=1))=false)(hn:cx q.steps.length k (aW s) c (eL s k d)=some (c2,d2))(hd:24<aP d2 k)
  (h:F=bT q i (q.steps.drop k.toNat) k c d u):F=⟨1502,i,k⟩:=by
 rw [h,bj hx,bT,if_neg (by rw [hm];decide),if_neg (by intro e;simp [e] at ht),hn];simp only;rw [if_pos hd]
theorem sh_t (k0:0≤k)(hx:q.steps[k.toNat]? =some s)(hm:dy s=true)(ht:(decide (0<k)&& !decide (aP c k=1))=false)(hn:cx q.steps.length k (aW s) c (eL s k d)=some (c2,d2))(hd:¬24<aP d2 k)
  (hr:cw q.terms (bJ s) u=none) (h:F=bT q i (q.steps.drop k.toNat) k c d u):F=⟨1503,i,k⟩:=by
 rw [h,bj hx,bT,if_neg (by rw [hm];decide),if_neg (by intro e;simp [e] at ht),hn];simp only;rw [if_neg hd,hr]
theorem sh_next (k0:0≤k)(hx:q.steps[k.toNat]? =some s)(hm:dy s=true)(ht:(decide (0<k)&& !decide (aP c k=1))=false)(hn:cx q.steps.length k (aW s) c (eL s k d)=some (c2,d2))(hd:¬24<aP d2 k)
  (hr:cw q.terms (bJ s) u=some u2) (h:F=bT q i (q.steps.drop k.toNat) k c d u):F=bT q i (q.steps.drop (k+1).toNat) (k+1) c2 d2 u2:=by
 rw [h,bj hx,bT,if_neg (by rw [hm];decide),if_neg (by intro e;simp [e] at ht),hn];simp only;rw [if_neg hd,hr,show(k+1).toNat=k.toNat+1 by omega]
theorem sh_end (k0:0≤k)(hk:¬k<q.steps.length)(h:F=bT q i (q.steps.drop k.toNat) k c d u):F=okF:=by
 rw [h,List.drop_of_length_le om];rfl
theorem deep_T (h:(decide (s.kind=3)||decide (s.kind=5))=true):fU d k=eL s k d:=by unfold eL;rw [if_pos (by simpa using h)]
theorem deep_F (h:(decide (s.kind=3)||decide (s.kind=5))=false):d=eL s k d:=by unfold eL;rw [if_neg (by intro e;rcases e with e | e<;>simp [e] at h)]
theorem Jh:(eL s k d).length=d.length:=by unfold eL fU;split<;>simp
end
theorem kw (c:List Int)(k:Int):(fU c k).length=c.length:=by simp [fU]
end Go.Sx
namespace Go.Sx
open Go
abbrev nilV:Value:=.slice none 0 0
abbrev CB:=Int×List Value×List (List Str)
def BRow (H:Hp)(vs:List Value)(b:List (List Str)):Prop:=vs.length=b.length∧(∀(i:Nat) v x,vs[i]? =some v→b[i]? =some x→RdSl H 1 Str.cells v x)∧∀(i:Nat) x,b[i]? =some x→x.length≤2000000+i
theorem BRow.le {H H':Hp}{vs:List Value}{b:List (List Str)}(h:BRow H vs b)(hl:H.le H'):BRow H' vs b:=⟨h.1,fun i v x h1 h2=>(h.2.1 i v x h1 h2).le hl,h.2.2⟩
theorem BRow.set {H:Hp}{vs:List Value}{b:List (List Str)}(h:BRow H vs b){t:Nat}{v:Value}{x:List Str}(hx:RdSl H 1 Str.cells v x)(hl:x.length≤2000000+t):BRow H (vs.set t v) (b.set t x):=by
 refine⟨by simp [h.1],fun i v' x' h1 h2=>?_,fun i x' h2=>?_⟩
 ·rw [List.getElem?_set] at h1 h2
  by_cases e:t=i
  ·subst e
   rw [if_pos rfl] at h1 h2
   split at h1
   ·rw [h.1] at *
    rename_i hl
    rw [if_pos hl] at h2
    cases h1;cases h2;exact hx
   ·cases h1
  ·rw [if_neg e] at h1 h2;exact h.2.1 i v' x' h1 h2
 ·rw [List.getElem?_set] at h2
  by_cases e:t=i
  ·subst e
   rw [if_pos rfl] at h2
   split at h2
   ·cases h2;exact hl
   ·cases h2
  ·rw [if_neg e] at h2;exact h.2.2 i x' h2
theorem BRow.at_ {H:Hp}{vs:List Value}{b:List (List Str)}(h:BRow H vs b){k:Int}(hk:k.toNat<b.length):∃v x,vs[k.toNat]? =some v∧b[k.toNat]? =some x∧RdSl H 1 Str.cells v x:=by
 have h1:=List.getElem?_eq_getElem (l:=vs) (i:=k.toNat) (by rw [h.1];exact hk)
 have h2:=List.getElem?_eq_getElem hk
 exact⟨_,_,h1,h2,h.2.1 _ _ _ h1 h2⟩
theorem Bh (v:Value):∀n:Nat,iE n [v]=List.replicate n v
 | 0=>rfl
 | n+1=>by rw [List.replicate_succ,← Bh v n];rfl
theorem Il (v:Value)(n:Nat):(List.replicate n v).set 0 v=List.replicate n v:=by
 cases n<;>rfl
theorem Id {vs:List Value}{v:Value}(h:0<vs.length):(vs.set 0 v)[0+(0:Int).toNat * 1]? =some v:=by
 show(vs.set 0 v)[0]? =some v
 rw [List.getElem?_set,if_pos rfl,if_pos h]
theorem Ic {vs:List Value}{v:Value}{k:Int}(h:k.toNat<vs.length):(vs.set (0+k.toNat * 1) v)[0+k.toNat * 1]? =some v:=by
 rw [List.getElem?_set,if_pos rfl,if_pos om]
theorem get_k {vs:List Value}{v:Value}{k:Int}(h:vs[k.toNat]? =some v):vs[0+k.toNat * 1]? =some v:=by
 rwa [show 0+k.toNat * 1=k.toNat by omega]
theorem Ib {vs:List Value}{v:Value}{k:Int}:vs.set (0+k.toNat * 1) v=vs.set k.toNat v:=by rw [show 0+k.toNat * 1=k.toNat by omega]
theorem brow0 {H:Hp}{q:SProc}{v:Value}(h:RdSl H 1 Str.cells v (q.params.map (·.name)))(hl:q.params.length≤2000000):BRow H ((List.replicate q.steps.length nilV).set 0 v) (mh q):=by
 unfold mh
 refine BRow.set ⟨by simp,fun i v' x' h1 h2=>?_,fun i x' h2=>?_⟩ h (by simpa using hl)
 ·rw [List.getElem?_replicate] at h1 h2
  split at h1
  ·rename_i hl
   rw [if_pos hl] at h2
   cases h1;cases h2;exact RdSl.nil
  ·cases h1
 ·rw [List.getElem?_replicate] at h2
  split at h2
  ·cases h2;simp
  ·cases h2
theorem vB (q:SProc):(mh q).length=q.steps.length:=by simp [mh]
def bX (q:SProc):Prop:=∀(k:Nat) (s:SStep),q.steps[k]? =some s→dy s=true∧∀t∈aW s,(k:Int)<t∧t<q.steps.length
theorem uP {n at_:Int}:∀{L c d c2 d2},cx n at_ L c d=some (c2,d2)→∀t∈L,at_<t∧t<n
 | [],_,_,_,_,_,t,ht=>by cases ht
 | x::r,c,d,c2,d2,h,t,ht=>by
  rw [cx] at h
  split at h
  ·cases h
  ·rcases List.mem_cons.1 ht with rfl | ht
   ·omega
   ·exact uP h t ht
theorem yM {q:SProc}{i:Int}:∀(l:List SStep) (k:Nat) (c d:List Int) (u:List Bool),l=q.steps.drop k→bT q i l k c d u=okF→∀(j:Nat) (s:SStep),k≤j→q.steps[j]? =some s→dy s=true∧∀t∈aW s,(j:Int)<t∧t<q.steps.length:=by
 intro l
 induction l with
 | nil=>
  intro k c d u hl _ j s hj hs
  have h1:=(List.getElem?_eq_some_iff.1 hs).1
  have h2:(q.steps.drop k).length=0:=by rw [← hl];rfl
  rw [List.length_drop] at h2;omega
 | cons x r ih=>
  intro k c d u hl h j s hj hs
  have hx:q.steps[k]? =some x:=by
   have h1:(q.steps.drop k)[0]? =some x:=by rw [← hl];rfl
   rwa [List.getElem?_drop,Nat.add_zero] at h1
  have hr:r=q.steps.drop (k+1):=by
   have h1:(q.steps.drop k).drop 1=r:=by rw [← hl];rfl
   rw [← h1,List.drop_drop]
  rw [bT] at h
  split at h
  ·cases h
  ·rename_i hm
   split at h
   ·cases h
   ·split at h
    ·cases h
    ·rename_i c2 d2 hn
     split at h
     ·cases h
     ·split at h
      ·cases h
      ·rename_i u2 _
       rcases Nat.lt_or_ge k j with hlt | hge
       ·exact ih (k+1) c2 d2 u2 hr (by rw [← h];rfl) j s hlt hs
       ·have:j=k:=by omega
        subst this
        rw [hx] at hs;cases hs
        exact⟨by simpa using hm,uP hn⟩
theorem nT {q:SProc}{i:Int}(h:f4 i q=okF):bX q:=fun k s hs=>yM _ 0 _ _ _ rfl h k s (Nat.zero_le _) hs
theorem qD (s:SStep):(cd s).length=(aW s).length:=by
 unfold cd
 split
 ·rename_i h;unfold aW;rw [if_pos (by rcases h with h | h<;>simp [gP,h])];rfl
 ·split
  ·rename_i h;unfold aW;rw [if_neg (by simp [gP,h])];simp
  ·simp
section
variable {pg:SProg}{q:SProc}{i k:Int}{s:SStep}{b:List (List Str)}{x:List Str}{F:SFault}
theorem sn_bad (k0:0≤k)(hx:q.steps[k.toNat]? =some s)(hb:b[k.toNat]? =some x)(he:¬gw pg q.terms s x=0)(h:F=fb pg q i (q.steps.drop k.toNat) k b):F=⟨gw pg q.terms s x,i,k⟩:=by
 rw [h,bj hx,fb,hb];simp only [Option.getD_some];rw [if_pos he]
theorem sn_next (k0:0≤k)(hx:q.steps[k.toNat]? =some s)(hb:b[k.toNat]? =some x)(he:gw pg q.terms s x=0)(h:F=fb pg q i (q.steps.drop k.toNat) k b):
  F=fb pg q i (q.steps.drop (k+1).toNat) (k+1) (d9 k (aW s) (cd s) b):=by
 rw [h,bj hx,fb,hb];simp only [Option.getD_some];rw [if_neg (by simpa using he),show(k+1).toNat=k.toNat+1 by omega]
theorem sn_end (k0:0≤k)(hk:¬k<q.steps.length)(h:F=fb pg q i (q.steps.drop k.toNat) k b):F=okF:=by
 rw [h,List.drop_of_length_le om];rfl
variable {N M:List Int}{ms:List Str}{j t:Int}{m:Str}{B b':List (List Str)}
theorem E9 {L:List Int}{ms:List Str}(j0:0≤j)(ht:L[j.toNat]? =some t)(hm:ms[j.toNat]? =some m)(h:B=d9 k (L.drop j.toNat) (ms.drop j.toNat) b'):B=d9 k (L.drop (j+1).toNat) (ms.drop (j+1).toNat) (jZ b' k t m):=by
 rw [h,bj ht,bj hm,d9,show(j+1).toNat=j.toNat+1 by omega];rfl
theorem bg_end {L:List Int}{ms:List Str}(j0:0≤j)(hj:¬j<L.length)(h:B=d9 k (L.drop j.toNat) (ms.drop j.toNat) b'):B=b':=by
 rw [h,List.drop_of_length_le om];rfl
theorem putAt_T (hb:b'[k.toNat]? =some x)(hm:¬m=[]):jZ b' k t m=b'.set t.toNat (x++[m]):=by unfold jZ;rw [hb,if_neg hm];rfl
theorem putAt_F (hb:b'[k.toNat]? =some x)(hm:m=[]):jZ b' k t m=b'.set t.toNat x:=by unfold jZ;rw [hb,if_pos hm];simp
end
theorem Js {s:SStep}{j:Int}(h0:0≤j)(h:j<(aW s).length):∃m,(cd s)[j.toNat]? =some m:=aj h0 (by rw [qD];exact h)
end Go.Sx
namespace Go.Sx
open Go
def PgAt (H:Hp)(b:Nat)(pg:SProg):Prop:=∀(j:Nat) v,pg.cells[j]? =some v→H b j=some v
theorem PgAt.le {H H':Hp}{b:Nat}{pg:SProg}(h:PgAt H b pg)(hl:H.le H'):PgAt H' b pg:=fun j v hv=>hl _ _ _ (h j v hv)
theorem PgAt.add {H:Hp}{b:Nat}{pg:SProg}(h:PgAt H b pg):∀(j:Nat) v,pg.cells[j]? =some v→H b (0+j)=some v:=fun j v hv=>by rw [Nat.zero_add];exact h j v hv
def Fc.cells (f:FuncId):List Value:=[.func (.func f) #[] #[]]
def CellAt (H:Hp)(b:Nat)(v:Value):Prop:=H b 0=some v
theorem CellAt.le {H H':Hp}{b:Nat}{v:Value}(h:CellAt H b v)(hl:H.le H'):CellAt H' b v:=hl _ _ _ h
theorem n6 {l:List SProc}{i:Int}{q:SProc}(h:(gO l i q).e=0):1≤q.steps.length∧q.steps.length≤80∧q.terms.length≤160:=by
 unfold gO at h
 split at h
 ·cases h
 ·rename_i hg
  have hg:(bM q&&q.params.all dr)=true:=by simpa using hg
  simp only [Bool.and_eq_true] at hg
  have h1:=hg.1
  unfold bM at h1
  simp only [Bool.and_eq_true,decide_eq_true_eq] at h1
  omega
theorem gX {q:SProc}{i:Int}:∀(l:List SStep) (k:Int) (c d:List Int) (u:List Bool),(bT q i l k c d u).e=0→bT q i l k c d u=okF
 | [],_,_,_,_,_=>rfl
 | s::r,k,c,d,u,h=>by
  rw [bT] at h ⊢
  split at h
  ·cases h
  ·rename_i h1
   rw [if_neg h1]
   split at h
   ·cases h
   ·rename_i h2
    rw [if_neg h2]
    split at h
    ·cases h
    ·rename_i c2 d2 h3
     split at h
     ·cases h
     ·rename_i h4
      try simp only at h ⊢
      rw [if_neg h4]
      split at h
      ·cases h
      ·exact gX r (k+1) _ _ _ h
theorem FE {q:SProc}{i:Int}(h:(f4 i q).e=0):bX q:=nT (i:=i) (gX _ _ _ _ _ h)
def CC (q:SProc):Prop:=bX q∧1≤q.steps.length∧q.steps.length≤80∧q.terms.length≤160
theorem yq {l:List SProc}:∀(r:List SProc) (i:Int),(cB (bf l) r i).e=0→∀q∈r,CC q
 | [],_,_,q,hq=>by cases hq
 | x::r,i,h,q,hq=>by
  rw [cB] at h
  split at h
  ·rename_i h1;exact absurd h h1
  ·rename_i h1
   have h1:(bf l i x).e=0:=by simpa using h1
   rcases List.mem_cons.1 hq with rfl | hq
   ·unfold bf at h1
    split at h1
    ·rename_i h2;exact absurd h1 h2
    ·rename_i h2
     exact⟨FE h1,n6 (by simpa using h2)⟩
   ·exact yq r (i+1) h q hq
section
variable {f:Int→SProc→SFault}{l:List SProc}{k:Int}{q:SProc}{F:SFault}
theorem j9 (k0:0≤k)(hx:l[k.toNat]? =some q)(he:¬(f k q).e=0)(h:F=cB f (l.drop k.toNat) k):F=f k q:=by
 rw [h,bj hx,cB,if_pos he]
theorem mO (k0:0≤k)(hx:l[k.toNat]? =some q)(he:(f k q).e=0)(h:F=cB f (l.drop k.toNat) k):F=cB f (l.drop (k+1).toNat) (k+1):=by
 rw [h,bj hx,cB,if_neg (by simpa using he),show(k+1).toNat=k.toNat+1 by omega]
theorem pF (k0:0≤k)(hk:¬k<l.length)(h:F=cB f (l.drop k.toNat) k):F=okF:=by
 rw [h,List.drop_of_length_le om];rfl
theorem hs_1 {pl:List SProc}(h:¬(gO pl k q).e=0):bf pl k q=gO pl k q:=by unfold bf;rw [if_pos h]
theorem B7 {pl:List SProc}(h:(gO pl k q).e=0):bf pl k q=f4 k q:=by unfold bf;rw [if_neg (by simpa using h)]
end
theorem zl {l:List SProc}(h:(decide (dk l cL<0)||decide (0<((pC l (dk l cL)).params.length:Int)))=true):j5 l=⟨1504, -1, -1⟩:=by
 unfold j5;rw [if_pos (by simpa using h)]
theorem Dn {l:List SProc}(h:(decide (dk l cL<0)||decide (0<((pC l (dk l cL)).params.length:Int)))=false):j5 l=okF:=by
 unfold j5;rw [if_neg (by intro e;rw [← Bool.not_eq_true] at h;exact h (by simpa using e))]
section
variable {pg:SProg}
theorem E6 (h:¬(jH pg).e=0):eh pg=jH pg:=by unfold eh;rw [if_pos h]
theorem chk_1 (h0:(jH pg).e=0)(h:¬(cB (bf pg.procs) pg.procs 0).e=0):eh pg=cB (bf pg.procs) pg.procs 0:=by unfold eh;rw [if_neg (by simpa using h0),if_pos h]
theorem chk_2 (h0:(jH pg).e=0)(h1:(cB (bf pg.procs) pg.procs 0).e=0)(h:¬(j5 pg.procs).e=0):eh pg=j5 pg.procs:=by
 unfold eh;rw [if_neg (by simpa using h0),if_neg (by simpa using h1),if_pos h]
theorem E5 (h0:(jH pg).e=0)(h1:(cB (bf pg.procs) pg.procs 0).e=0)(h2:(j5 pg.procs).e=0):eh pg=cB (f6 pg) pg.procs 0:=by
 unfold eh;rw [if_neg (by simpa using h0),if_neg (by simpa using h1),if_neg (by simpa using h2)]
theorem uj {q:SProc}{i:Int}:∀(l:List SStep) (k:Int) (b:List (List Str)),(fb pg q i l k b).e=0→fb pg q i l k b=okF
 | [],_,_,_=>rfl
 | s::r,k,b,h=>by
  rw [fb] at h ⊢
  try simp only at h ⊢
  split at h
  ·rename_i h1;exact absurd h h1
  ·rename_i h1;rw [if_neg h1];exact uj r _ _ h
theorem E3 {f:Int→SProc→SFault}(hf:∀i q,(f i q).e=0→f i q=okF):∀(l:List SProc) (i:Int),(cB f l i).e=0→cB f l i=okF
 | [],_,_=>rfl
 | q::r,i,h=>by
  rw [cB] at h ⊢
  split at h
  ·rename_i h1;exact absurd h h1
  ·rename_i h1;rw [if_neg h1];exact E3 hf r _ h
theorem chk_ok (h3:(cB (f6 pg) pg.procs 0).e=0)(h0:(jH pg).e=0)(h1:(cB (bf pg.procs) pg.procs 0).e=0)(h2:(j5 pg.procs).e=0):eh pg=okF:=by
 rw [E5 h0 h1 h2];exact E3 (fun i q h=>uj _ _ _ h) _ _ h3
theorem n8 (h:(eh pg).e=0):(jH pg).e=0∧(cB (bf pg.procs) pg.procs 0).e=0∧(j5 pg.procs).e=0∧(cB (f6 pg) pg.procs 0).e=0:=by
 unfold eh at h
 split at h
 ·rename_i h1;exact absurd h h1
 ·rename_i h1
  split at h
  ·rename_i h2;exact absurd h h2
  ·rename_i h2
   split at h
   ·rename_i h3;exact absurd h h3
   ·rename_i h3
    exact⟨by simpa using h1,by simpa using h2,by simpa using h3,h⟩
end
end Go.Sx
