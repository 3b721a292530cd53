import Derived.Test.YtjnlogbbcceaoaaGreatO1
import Derived.KernelRfl
import Derived.Sort.Walk0
import Derived.Lib.ItoaNum
import Derived.Lib.IndexMore
set_option linter.all false
set_option maxRecDepth 100000
set_option maxHeartbeats 32000000
namespace Go.Sx
open Go Go.ChangeShapes Go.WideShapes Go.ChangeAt Go.RowKit
def uU (W:World):Hp:=fun b o=>W.cell? ⟨b,o,none⟩
theorem St.below {W W':World}{H H':Hp}{L:aj}(h:St [] W H H' L W'):Below W.heap.size W W':=
 ⟨h.os,h.tape,h.output,h.size,fun k hk=>h.old k hk sq⟩
theorem Fn.callsT {P:Program}{f:FuncId}{args:List Value}{W:World}{u:Value}(h:Fn P f args (uU W) (fun v _=>v=u)):Calls P f args.toArray W fun e W'=>e= .returned u∧Below W.heap.size W W':=
 (h W (St.start (fun b o u hu=>hu))).mono (by
  rintro e W' ⟨v',H',L',rfl,hst,hk,rfl⟩
  exact⟨rfl,hst.below⟩)
section
variable {HH:Type}{enc:TypeId×Value→HH}{P:Program}
theorem jj (hl:laidOutB P=true){W W':World}(hB:Below W.heap.size W W'){sp:Nat→Bool}:∀(ts:List TypeId) (vs:List Value) (ds:List (DataW HH)) (ps:List MemPlace),
  (∀t∈ts,P.readableRec t=true∧t<P.types.size)→DataW.TrodAll enc P W 0 (fun _=>true) true ts vs ds ps→(∀x∈ps,x.block<W.heap.size)→(∀x∈ps,sp x.block=true)→DataW.TrodAll enc P W' 0 sp true ts vs ds ps
 | [],[],[],ps,_,h,_,_=>h
 | t::ts,v::vs,d::ds,ps,hr,h,hlt,hs=>by
  obtain⟨p,q,h1,h2,rfl⟩:=h
  refine⟨p,q,?_,?_,rfl⟩
  ·exact WideElems.Trod_stays hl (hr t sq).1 (hr t sq).2 h1 (fun x hx=>hB.same (hlt x (List.mem_append_left _ hx))) (fun x hx=>hs x (List.mem_append_left _ hx))
  ·exact jj hl hB ts vs ds q (fun u hu=>hr u (List.mem_cons_of_mem _ hu)) h2 (fun x hx=>hlt x (List.mem_append_right _ hx)) (fun x hx=>hs x (List.mem_append_right _ hx))
 | [],[],_::_,_,_,h,_,_=>h.elim
 | [],_::_,_,_,_,h,_,_=>h.elim
 | _::_,[],_,_,_,h,_,_=>h.elim
 | _::_,_::_,[],_,_,h,_,_=>h.elim
theorem zg {f:Func}{s:ChangeSpec}{W W':World}{args:Array Value}{ds gs:List (DataW HH)}{before:List MemPlace}{tb:TypeId}(hW:DataW.Whole enc P f.params.toList s.vars false W args.toList ds gs before)
  (hv:s.vars=[]) (hvs:(s.fn HH (ds++gs)).vars=[]) (hres:(s.fn HH (ds++gs)).results=[.lit (.bool true)]) (hargs:(s.fn HH (ds++gs)).args=ds) (hrt:f.resultTypes= #[tb]) (hb:P.underlying tb=some .bool) (hl:laidOutB P=true)
  (hread:∀t∈f.params.toList,P.readableRec t=true∧t<P.types.size) (hB:Below W.heap.size W W'):s.post enc P f false true false false W args (.bool true) W':=by
 have hW0:=hW
 obtain⟨p,q,hA,hV,he,hfz,hnd⟩:=hW
 rw [hv] at hV
 have hq:gs=[]∧q=[]:=by
  cases gs with
  | nil=>exact⟨rfl,hV⟩
  | cons g gs=>exact hV.elim
 obtain⟨rfl,rfl⟩:=hq
 rw [List.append_nil] at he
 subst he
 have hlt:∀x∈before,x.block<W.heap.size:=fun x hx=>hW0.lt x hx
 refine⟨ds,[],before,[],before,[],hW0,?_,?_,?_,World.keptBut_mono (fun x hx=>⟨hx,.inr (.inl hx)⟩) (hB.frame (· ∈before)),fun h=>(by cases h)⟩
 ·rw [hres,hrt]
  exact trodAll_mk1 (shut_bool hb _)
 ·rw [hargs]
  exact jj hl hB _ _ _ _ hread hA hlt (fun x hx=>by simpa using hlt x hx)
 ·rw [hv,hvs]
  exact rfl
def zO (P:Program)(t:TypeId){α:Type}(en:α→List Value)(ok:Hp→α→Prop):Prop:=
 ∀(HH:Type) (enc:TypeId×Value→HH) (W:World) (fuel:Nat) (cs:List Value) (x:DataW HH×List MemPlace),DataW.trod enc P W 0 (fun _=>true) true fuel t cs=some x→∃a:α,cs=en a∧ok (uU W) a
theorem w7 {t:TypeId}(ht:P.underlying t=some (.int .i64)):zO P t (fun n:Int=>[.int .i64 n]) (fun _ n=> -9223372036854775808≤n∧n≤9223372036854775807):=by
 intro HH enc W fuel cs x h
 obtain⟨n,rfl,_,hw⟩:=DataW.trod_int ht h
 refine⟨n,rfl,?_⟩
 simpa [Lit.wf,IntKind.min,IntKind.max,IntKind.signed,IntKind.bits] using hw
theorem wR {W:World}{a:Addr}{v:Value}(h:W.cell? a=some v):a.spot=none:=by
 unfold World.cell? at h
 split at h
 ·split at h
  ·cases h
  ·rename_i hs;simpa using hs
 ·cases h
theorem mc {α:Type}{Q:Nat→α→Prop}:∀{len:Nat},(∀i,i<len→∃z,Q i z)→∃l:List α,l.length=len∧∀i z,l[i]? =some z→Q i z
 | 0,_=>⟨[],rfl,fun i z h=>by simp at h⟩
 | len+1,h=>by
  obtain⟨l,h1,h2⟩:=mc (fun i hi=>h i (Nat.lt_succ_of_lt hi))
  obtain⟨z,hz⟩:=h len (Nat.lt_succ_self _)
  refine⟨l++[z],by simp [h1],fun i y hy=>?_⟩
  by_cases hi:i<l.length
  ·rw [List.getElem?_append_left hi] at hy;exact h2 i y hy
  ·rw [List.getElem?_append_right om] at hy
   have hi0:i - l.length=0:=by
    rcases Nat.eq_zero_or_pos (i - l.length) with h | h
    ·exact h
    ·rw [List.getElem?_eq_none (by simp;omega)] at hy;cases hy
   rw [hi0] at hy
   simp only [List.getElem?_cons_zero,Option.some.injEq] at hy
   subst hy
   have:i=len:=by omega
   subst this
   exact hz
end
end Go.Sx
namespace Go.Sx
open Go
def I64.ok (_:Hp)(n:Int):Prop:=i64ok n
theorem p8 {P:Program}{t:TypeId}(ht:P.underlying t=some (.int .i64)):zO P t I64.cells I64.ok:=w7 ht
end Go.Sx
namespace Go.Sx
open Go
end Go.Sx
namespace Go.Sx
open Go
end Go.Sx
namespace Go.Sx
open Go
def cA:List Str→Str→List Str
 | [],s=>[s]
 | x::r,s=>if Op.bytesLess x s=true then x::cA r s else if x=s then x::r else s::x::r
theorem yW {l:List Str}{s x:Str}{k:Int}(h0:0≤k)(h:cA l s=l.take k.toNat++cA (l.drop k.toNat) s)(hx:l[k.toNat]? =some x)(hc:Op.bytesLess x s=true):
  cA l s=l.take (k+1).toNat++cA (l.drop (k+1).toNat) s:=by
 have hlt:k.toNat<l.length:=(List.getElem?_eq_some_iff.1 hx).1
 have hx':l[k.toNat]=x:=(List.getElem?_eq_some_iff.1 hx).2
 rw [h,bB h0 hx,List.drop_eq_getElem_cons hlt,hx',cA,if_pos hc,show(k+1).toNat=k.toNat+1 by omega]
 simp
theorem yX {l:List Str}{s x:Str}{k:Int}(h:cA l s=l.take k.toNat++cA (l.drop k.toNat) s)(hx:l[k.toNat]? =some x)(hc:¬Op.bytesLess x s=true)(he:x=s):cA l s=l:=by
 have hlt:k.toNat<l.length:=(List.getElem?_eq_some_iff.1 hx).1
 have hx':l[k.toNat]=x:=(List.getElem?_eq_some_iff.1 hx).2
 rw [h,List.drop_eq_getElem_cons hlt,hx',cA,if_neg hc,if_pos he,← hx',← List.drop_eq_getElem_cons hlt,List.take_append_drop]
theorem put_mid {l:List Str}{s x:Str}{k:Int}(h:cA l s=l.take k.toNat++cA (l.drop k.toNat) s)(hx:l[k.toNat]? =some x)(hc:¬Op.bytesLess x s=true)(he:¬x=s):
  cA l s=([]++(l.take k.toNat).drop 0++[s])++(l.take l.length).drop k.toNat:=by
 have hlt:k.toNat<l.length:=(List.getElem?_eq_some_iff.1 hx).1
 have hx':l[k.toNat]=x:=(List.getElem?_eq_some_iff.1 hx).2
 rw [h,List.drop_eq_getElem_cons hlt,hx',cA,if_neg hc,if_neg he,← hx',← List.drop_eq_getElem_cons hlt]
 simp
theorem put_end {l:List Str}{s:Str}{k:Int}(h:cA l s=l.take k.toNat++cA (l.drop k.toNat) s)(h1:¬k<l.length):
  cA l s=([]++(l.take k.toNat).drop 0++[s])++(l.take l.length).drop k.toNat:=by
 rw [h,List.drop_eq_nil_of_le (show l.length≤k.toNat by omega),cA]
 have e1:l.drop k.toNat=[]:=List.drop_eq_nil_of_le om
 simp [e1]
theorem put_len (l:List Str)(s:Str):(cA l s).length≤l.length+1:=by
 induction l with
 | nil=>simp [cA]
 | cons x r ih=>
  unfold cA
  split
  ·simp;omega
  ·split<;>simp
end Go.Sx
namespace Go.Sx
open Go
end Go.Sx
namespace Go.Sx
open Go
def cU (l:List Str):Bool:=decide l.Nodup
theorem jx {l:List Str}{k:Int}{x:Str}(k0:0≤k)(hx:l[k.toNat]? =some x)(h:(l.take k.toNat).Nodup)(hn:x∉l.take k.toNat):(l.take (k+1).toNat).Nodup:=by
 rw [bB k0 hx,List.nodup_append]
 refine⟨h,by simp,fun a ha b hb e=>?_⟩
 simp at hb;subst hb;subst e;exact hn ha
theorem tj {l : List Str} {k : Int} {x : Str} (k0 : 0 ≤ k) (hx : l[k.toNat]? = some x) (h : bz l x = k) : x ∉ l.take k.toNat := by
 intro hm
 obtain ⟨j, hj, he⟩ := List.mem_iff_getElem.1 hm
 rw [List.length_take] at hj
 -- the least such place
 have key : ∀ (l : List Str) (j : Nat), l[j]? = some x → bz l x ≤ j := by
  intro l
  induction l with
  | nil => intro j h; simp at h
  | cons y l ih =>
   intro j h
   unfold bz
   split
   ·omega
   ·cases j with
    | zero => simp at h; subst h; rename_i hne; exact absurd rfl hne
    | succ j =>
     have := ih j (by simpa using h)
     split <;> omega
 have h2 : l[j]? = some x := by rw [List.getElem_take] at he; rw [← he]; exact List.getElem?_eq_getElem om
 have := key l j h2
 omega
theorem kx {l:List Str}{k:Int}(hk:¬k<l.length)(k0:0≤k)(h:(l.take k.toNat).Nodup):cU l=true:=by
 rw [bh hk k0] at h;exact decide_eq_true h
theorem w8 {l:List Str}{k:Int}{x:Str}(k0:0≤k)(hx:l[k.toNat]? =some x)(hm:x∈l.take k.toNat):cU l=false:=by
 refine decide_eq_false fun hn=>?_
 have h1:(l.take (k+1).toNat).Nodup:=hn.sublist (List.take_sublist _ _)
 rw [bB k0 hx,List.nodup_append] at h1
 exact h1.2.2 x hm x sq rfl
theorem tz {l:List Str}{k:Int}{x:Str}(k0:0≤k)(hx:l[k.toNat]? =some x)(h:bX ((l.take k.toNat).drop 0) x=true):cU l=false:=w8 k0 hx (by simpa [bX] using h)
theorem has_not {l:List Str}{x:Str}(h:bX (l.drop 0) x=false):x∉l:=by simpa [bX] using h
theorem nO {l:List Str}{k:Int}{x:Str}(k0:0≤k)(hx:l[k.toNat]? =some x)(h:¬bz l x=k):cU l=false:=by
 refine decide_eq_false fun hn=>h ?_
 refine dr k0 hx (fun j hj he=>?_)
 have h1:=(List.getElem?_eq_some_iff.1 hx)
 have h2:=(List.getElem?_eq_some_iff.1 he)
 obtain⟨a1,b1⟩:=h1;obtain⟨a2,b2⟩:=h2
 have:=(List.getElem_inj hn (h₀:=a2) (h₁:=a1)).1 (b2.trans b1.symm)
 omega
theorem tW (s:Str)(l:List Str):(l.foldl cA [s]).length≤l.length+1:=by
 have:∀(l a:List Str),(l.foldl cA a).length≤l.length+a.length:=by
  intro l
  induction l with
  | nil=>intro a;simp
  | cons x l ih=>
   intro a
   have h1:=ih (cA a x)
   have h2:=put_len a x
   simp only [List.foldl_cons,List.length_cons];omega
 simpa using this l [s]
section
variable {l:List Str}{s h:Str}{k:Int}
end
end Go.Sx
namespace Go.Sx
open Go
def jH (s:Str):Str×Str×Bool:=Lib.cut s [46]
end Go.Sx
namespace Go.Sx
open Go
abbrev Sp:=Option Addr×Nat
structure SWay where
 label:Str
 name:Str
 next:Int
def SWay.cells (w:SWay):List Value:=[gs w.label,gs w.name,.int .i64 w.next]
structure SCast where
 role:Str
 proc:Str
 args:List Int
 ap:Sp
def SCast.cells (c:SCast):List Value:=[gs c.role,gs c.proc,.slice c.ap.1 c.args.length c.ap.2]
structure SStep where
 kind:Int
 name:Str
 peer:Str
 label:Str
 proc:Str
 term:Int
 args:List Int
 ap:Sp
 casts:List SCast
 cp:Sp
 ways:List SWay
 wp:Sp
 next:Int
def SStep.cells (s:SStep):List Value:=[.int .i64 s.kind,gs s.name,gs s.peer,gs s.label,gs s.proc,.int .i64 s.term,.slice s.ap.1 s.args.length s.ap.2,.slice s.cp.1 s.casts.length s.cp.2,.slice s.wp.1 s.ways.length s.wp.2,.int .i64 s.next]
structure SArm where
 label:Str
 ck:Int
 cn:Str
 next:Int
def SArm.cells (a:SArm):List Value:=[gs a.label,.int .i64 a.ck,gs a.cn,.int .i64 a.next]
structure STurn where
 kind:Int
 peer:Str
 arms:List SArm
 ap:Sp
def STurn.cells (t:STurn):List Value:=[.int .i64 t.kind,gs t.peer,.slice t.ap.1 t.arms.length t.ap.2]
structure SLocal where
 name:Str
 turns:List STurn
 tp:Sp
def SLocal.cells (l:SLocal):List Value:=[gs l.name,.slice l.tp.1 l.turns.length l.tp.2]
structure SPoint where
 frm:Str
 to:Str
 arms:List SArm
 ap:Sp
def SPoint.cells (p:SPoint):List Value:=[gs p.frm,gs p.to,.slice p.ap.1 p.arms.length p.ap.2]
structure SProto where
 name:Str
 roles:List Str
 rp:Sp
 points:List SPoint
 pp:Sp
def SProto.cells (p:SProto):List Value:=[gs p.name,.slice p.rp.1 p.roles.length p.rp.2,.slice p.pp.1 p.points.length p.pp.2]
structure SParam where
 name:Str
 ck:Int
 cn:Str
def SParam.cells (p:SParam):List Value:=[gs p.name,.int .i64 p.ck,gs p.cn]
structure SProc where
 name:Str
 params:List SParam
 pp:Sp
 terms:List Term
 tp:Sp
 steps:List SStep
 sp:Sp
def SProc.cells (q:SProc):List Value:=[gs q.name,.slice q.pp.1 q.params.length q.pp.2,.slice q.tp.1 q.terms.length q.tp.2,.slice q.sp.1 q.steps.length q.sp.2]
structure SProg where
 protos:List SProto
 rp:Sp
 locals:List SLocal
 lp:Sp
 procs:List SProc
 qp:Sp
def SProg.cells (p:SProg):List Value:=[.slice p.rp.1 p.protos.length p.rp.2,.slice p.lp.1 p.locals.length p.lp.2,.slice p.qp.1 p.procs.length p.qp.2]
instance :Cells 3 SWay.cells:=⟨fun _=>rfl,by decide,fun _=>rfl⟩
instance :Cells 3 SCast.cells:=⟨fun _=>rfl,by decide,fun _=>rfl⟩
instance :Cells 10 SStep.cells:=⟨fun _=>rfl,by decide,fun _=>rfl⟩
instance :Cells 4 SArm.cells:=⟨fun _=>rfl,by decide,fun _=>rfl⟩
instance :Cells 3 STurn.cells:=⟨fun _=>rfl,by decide,fun _=>rfl⟩
instance :Cells 2 SLocal.cells:=⟨fun _=>rfl,by decide,fun _=>rfl⟩
instance :Cells 3 SPoint.cells:=⟨fun _=>rfl,by decide,fun _=>rfl⟩
instance :Cells 3 SProto.cells:=⟨fun _=>rfl,by decide,fun _=>rfl⟩
instance :Cells 3 SParam.cells:=⟨fun _=>rfl,by decide,fun _=>rfl⟩
instance :Cells 4 SProc.cells:=⟨fun _=>rfl,by decide,fun _=>rfl⟩
structure TurnOk (H:Hp)(t:STurn):Prop where
 a:RdSl H 4 SArm.cells (.slice t.ap.1 t.arms.length t.ap.2) t.arms
 z:∀a∈t.arms,a.cn.length≤4294960000
theorem TurnOk.le {H H':Hp}{t:STurn}(h:TurnOk H t)(hl:H.le H'):TurnOk H' t:=⟨h.a.le hl,h.z⟩
structure LocalOk (H:Hp)(l:SLocal):Prop where
 t:RdSl H 3 STurn.cells (.slice l.tp.1 l.turns.length l.tp.2) l.turns
 ts:∀t∈l.turns,TurnOk H t
theorem LocalOk.le {H H':Hp}{l:SLocal}(h:LocalOk H l)(hl:H.le H'):LocalOk H' l:=⟨h.t.le hl,fun t ht=>(h.ts t ht).le hl⟩
structure PointOk (H:Hp)(p:SPoint):Prop where
 a:RdSl H 4 SArm.cells (.slice p.ap.1 p.arms.length p.ap.2) p.arms
 z:∀a∈p.arms,a.cn.length≤4294960000
theorem PointOk.le {H H':Hp}{p:SPoint}(h:PointOk H p)(hl:H.le H'):PointOk H' p:=⟨h.a.le hl,h.z⟩
structure ProtoOk (H:Hp)(p:SProto):Prop where
 r:RdSl H 1 Str.cells (.slice p.rp.1 p.roles.length p.rp.2) p.roles
 pt:RdSl H 3 SPoint.cells (.slice p.pp.1 p.points.length p.pp.2) p.points
 ps:∀x∈p.points,PointOk H x
theorem ProtoOk.le {H H':Hp}{p:SProto}(h:ProtoOk H p)(hl:H.le H'):ProtoOk H' p:=⟨h.r.le hl,h.pt.le hl,fun x hx=>(h.ps x hx).le hl⟩
structure StepOk (H:Hp)(s:SStep):Prop where
 a:RdSl H 1 I64.cells (.slice s.ap.1 s.args.length s.ap.2) s.args
 c:RdSl H 3 SCast.cells (.slice s.cp.1 s.casts.length s.cp.2) s.casts
 cs:∀c∈s.casts,RdSl H 1 I64.cells (.slice c.ap.1 c.args.length c.ap.2) c.args
 w:RdSl H 3 SWay.cells (.slice s.wp.1 s.ways.length s.wp.2) s.ways
theorem StepOk.le {H H':Hp}{s:SStep}(h:StepOk H s)(hl:H.le H'):StepOk H' s:=⟨h.a.le hl,h.c.le hl,fun c hc=>(h.cs c hc).le hl,h.w.le hl⟩
structure ProcOk (H:Hp)(q:SProc):Prop where
 pa:RdSl H 3 SParam.cells (.slice q.pp.1 q.params.length q.pp.2) q.params
 pz:∀x∈q.params,x.cn.length≤4294960000
 pl:q.params.length≤2000000
 t:RdSl H 6 Term.cells (.slice q.tp.1 q.terms.length q.tp.2) q.terms
 tn:∀t∈q.terms,t.name.length≤9223372036854775807
 s:RdSl H 10 SStep.cells (.slice q.sp.1 q.steps.length q.sp.2) q.steps
 ss:∀s∈q.steps,StepOk H s
theorem ProcOk.le {H H':Hp}{q:SProc}(h:ProcOk H q)(hl:H.le H'):ProcOk H' q:=⟨h.pa.le hl,h.pz,h.pl,h.t.le hl,h.tn,h.s.le hl,fun s hs=>(h.ss s hs).le hl⟩
structure ProgOk (H:Hp)(P:SProg):Prop where
 r:RdSl H 3 SProto.cells (.slice P.rp.1 P.protos.length P.rp.2) P.protos
 rs:∀p∈P.protos,ProtoOk H p
 l:RdSl H 2 SLocal.cells (.slice P.lp.1 P.locals.length P.lp.2) P.locals
 ls:∀l∈P.locals,LocalOk H l
 q:RdSl H 4 SProc.cells (.slice P.qp.1 P.procs.length P.qp.2) P.procs
 qs:∀q∈P.procs,ProcOk H q
theorem ProgOk.le {H H':Hp}{P:SProg}(h:ProgOk H P)(hl:H.le H'):ProgOk H' P:=⟨h.r.le hl,fun p hp=>(h.rs p hp).le hl,h.l.le hl,fun l hh=>(h.ls l hh).le hl,h.q.le hl,fun q hq=>(h.qs q hq).le hl⟩
def iE (k:Int):Bool:=decide (k=1)||(decide (k=2)||(decide (k=4)||(decide (k=7)||(decide (k=8)||decide (k=9)))))
def aT (s:SStep):List Int:=if iE s.kind=true then [s.next] else s.ways.map (·.next)
def cq (s:SStep):List Int:=((if s.kind=1∨s.kind=2∨s.kind=3∨(s.kind=4∧s.term≠ -1) then [s.term] else [])++s.args)++s.casts.flatMap (·.args)
def ce (s:SStep):List Str:=if s.kind=1∨s.kind=8 then [s.name] else if s.kind=5 then s.ways.map (·.name) else List.replicate (aT s).length []
def eg (w:SWay):Bool:=(decide (w.label=[])&& !decide (w.name=[]))||((!decide (w.label=[])&& !aG w.label)||(!decide (w.name=[])&& !aG w.name))
def w00:SWay:=⟨[],[],0⟩
def ue (w:SWay):Bool:=decide (w.label=[])&&decide (w.name=[])
def fL (s:SStep):Bool:=
 if s.kind=3 then decide ((s.ways.length:Int)=2)&&(ue (s.ways[0]?.getD w00)&&ue (s.ways[1]?.getD w00))
 else decide ((1:Int)≤s.ways.length)&&(decide ((s.ways.length:Int)≤7)&&(s.ways.all (fun w=>!eg w)&&cU (s.ways.map (·.label))))
def fV (s:SStep):SStep:=
 {kind:=s.kind
  name:=if s.kind=1∨s.kind=4∨s.kind=5∨s.kind=8∨s.kind=9 then [] else s.name
  peer:=if s.kind=4∨s.kind=5∨s.kind=8 then [] else s.peer
  label:=if s.kind=4∨s.kind=8 then [] else s.label
  proc:=if s.kind=6∨s.kind=7 then [] else s.proc
  term:=if s.kind=1∨s.kind=2∨s.kind=3∨s.kind=4 then -1 else s.term
  args:=if s.kind=6∨s.kind=7 then [] else s.args
  ap:=if s.kind=6∨s.kind=7 then(none,0) else s.ap
  casts:=if s.kind=8 then [] else s.casts
  cp:=if s.kind=8 then(none,0) else s.cp
  ways:=if s.kind=3∨s.kind=5 then [] else s.ways
  wp:=if s.kind=3∨s.kind=5 then(none,0) else s.wp
  next:=if iE s.kind=true then -1 else s.next}
def ov (x:SStep):Bool:=!decide (x.name=[])||(!decide (x.peer=[])||(!decide (x.label=[])||(!decide (x.proc=[])||(!decide (x.term= -1)||(decide (0<(x.args.length:Int))||(decide (0<(x.casts.length:Int))||(decide (0<(x.ways.length:Int))|| !decide (x.next= -1))))))))
def eW (c:SCast):Bool:=!aG c.role||(!aG c.proc||decide (6<(c.args.length:Int)))
def gv (s:SStep):Bool:=
 if s.kind<0∨10<s.kind then false
 else if ov (fV s)=true then false
 else if s.kind=1∨s.kind=9 then aG s.name
 else if s.kind=3 then fL s
 else if s.kind=4 then aG s.name&&(aG s.peer&&aG s.label)
 else if s.kind=5 then aG s.name&&(aG s.peer&&fL s)
 else if s.kind=6∨s.kind=7 then aG s.proc&&decide ((s.args.length:Int)≤6)
 else if s.kind=8 then aG s.name&&(aG s.label&&(aG s.peer&&(decide ((1:Int)≤s.casts.length)&&(decide ((s.casts.length:Int)≤4)&&s.casts.all (fun c=>!eW c)))))
 else true
def ff (l:List Term):Nat→Int→List Int
 | 0,_=>[]
 | f+1,at_=>if at_<0 then [] else match l[at_.toNat]? with
  | none=>[]
  | some t=>ff l f t.l++(ff l f t.r++[at_])
theorem iU {l:List Term}{f:Nat}{at_:Int}(h:at_<0):ff l f at_=[]:=by
 cases f with
 | zero=>rfl
 | succ f=>unfold ff;rw [if_pos h]
theorem ku {l:List Term}{f:Nat}{at_:Int}{t:Term}(h:¬at_<0)(hx:l[at_.toNat]? =some t):ff l (f+1) at_=ff l f t.l++(ff l f t.r++[at_]):=by
 rw [ff,if_neg h,hx]
def eJ (l:List Term)(root:Int):List Int:=ff l (root.toNat+1) root
def cb (l:List SProc)(s:Str):Int:=bz (l.map (·.name)) s
structure SFault where
 e:Int
 part:Int
 at_:Int
def SFault.cells (f:SFault):List Value:=[.int .i64 f.e,.int .i64 f.part,.int .i64 f.at_]
def okF:SFault:=⟨0,0,0⟩
end Go.Sx
namespace Go.Sx
open Go
theorem xb {b:Bool}(h:(!b)=true):b=false:=by simpa using h
theorem nb_F {b:Bool}(h:(!b)=false):b=true:=by simpa using h
theorem fU (l:List SProc)(s:Str):cb l s= -1∨(0≤cb l s∧cb l s<l.length):=by
 have:=gM (l.map (·.name)) s
 rwa [List.length_map] at this
def q00:SProc:=⟨[],[],(none,0),[],(none,0),[],(none,0)⟩
def kF (l:List SProc)(k:Int):SProc:=l[k.toNat]?.getD q00
theorem qY {α:Type}{s:List α}{i:Int}{e:α}(h:s[i.toNat]? =some e):i<s.length:=by
 have:=(List.getElem?_eq_some_iff.1 h).1;omega
theorem RdSl.cast {α:Type}{H:Hp}{m:Nat}{enc:α→List Value}{v:Value}{l l':List α}(h:RdSl H m enc v l)(e:l=l'):RdSl H m enc v l':=e▸h
theorem ge {α β:Type}{f:α→β}{l:List α}{k:Nat}{x:α}(h:l[k]? =some x):(l.map f)[k]? =some (f x):=by rw [List.getElem?_map,h];rfl
theorem bM {α:Type}{p:α→Bool}{l:List α}{k:Int}{x:α}(k0:0≤k)(hx:l[k.toNat]? =some x)(hp:p x=true){b:Bool}(h:b=(l.drop k.toNat).all p):b=(l.drop (k+1).toNat).all p:=by
 rw [h,bu hx,List.all_cons,hp,Bool.true_and,show(k+1).toNat=k.toNat+1 by omega]
theorem cN {α:Type}{p:α→Bool}{l:List α}{k:Int}{x:α}(k0:0≤k)(hx:l[k.toNat]? =some x)(hp:p x=false){b:Bool}(h:b=(l.drop k.toNat).all p):b=false:=by
 rw [h,bu hx,List.all_cons,hp,Bool.false_and]
theorem cz {α:Type}{p:α→Bool}{l:List α}{k:Int}(k0:0≤k)(hk:¬k<l.length){b:Bool}(h:b=(l.drop k.toNat).all p):b=true:=by
 rw [h,List.drop_of_length_le om];rfl
theorem OwnSl.cast {α:Type}{m:Nat}{enc:α→List Value}{v:Value}{l l':List α}{ob:aj}(h:OwnSl m enc v l ob)(e:l=l'):OwnSl m enc v l' ob:=e▸h
def gZ (s:SStep):List Int:=(if s.kind=1∨s.kind=2∨s.kind=3∨(s.kind=4∧s.term≠ -1) then [s.term] else [])++s.args
theorem qw {s:SStep}(h:s.kind=1∨s.kind=2∨s.kind=3):gZ s=[s.term]++s.args:=by
 unfold gZ;rcases h with e | e | e<;>simp [e]
theorem qx {s:SStep}(h:s.kind=4)(h2:¬s.term= -1):gZ s=[s.term]++s.args:=by unfold gZ;simp [h,h2]
theorem iN {s:SStep}(h:¬s.kind=1∧¬s.kind=2∧¬s.kind=3)(h2:¬s.kind=4∨s.term= -1):gZ s=s.args:=by
 unfold gZ;obtain⟨a,b,c⟩:=h
 rcases h2 with h2 | h2<;>simp [a,b,c,h2]
theorem kW (s:SStep):gZ s++s.casts.flatMap (·.args)=cq s:=rfl
theorem kY (s:SStep):(gZ s).length≤1+s.args.length:=by unfold gZ;split<;>simp<;>omega
theorem xa (s:SStep)(h:s.ways.length≤1000):(aT s).length≤1000:=by unfold aT;split<;>simp<;>omega
theorem fF {s:SStep}(h:gv s=true):s.ways.length≤7∧(s.args.length≤6∧s.casts.length≤4∧∀c∈s.casts,c.args.length≤6):=by
 unfold gv at h
 split at h; · cases h
 split at h; · cases h
 rename_i hk hb
 have hb:ov (fV s)=false:=by simpa using hb
 simp only [ov,Bool.or_eq_false_iff,decide_eq_false_iff_not] at hb
 obtain⟨-, -, -, -, -,ha,hc,hw, -⟩:=hb
 have hw0:¬(s.kind=3∨s.kind=5)→s.ways.length≤7:=fun hn=>by
  simp only [fV,if_neg hn] at hw;omega
 have ha0:¬(s.kind=6∨s.kind=7)→s.args.length≤6:=fun hn=>by
  simp only [fV,if_neg hn] at ha;omega
 have hc0:¬s.kind=8→s.casts.length=0:=fun hn=>by
  simp only [fV,if_neg hn] at hc;omega
 have hcn:¬s.kind=8→s.casts.length≤4∧∀c∈s.casts,c.args.length≤6:=fun hn=>by
  have h0:=List.length_eq_zero_iff.1 (hc0 hn)
  rw [h0];exact⟨by simp,fun c hc=>by cases hc⟩
 have wy:fL s=true→s.ways.length≤7:=fun hy=>by
  unfold fL at hy
  split at hy
  ·simp only [Bool.and_eq_true,decide_eq_true_eq] at hy;omega
  ·simp only [Bool.and_eq_true,decide_eq_true_eq] at hy;omega
 split at h
 ·rename_i h1
  exact⟨hw0 om,ha0 om,hcn om⟩
 split at h
 ·rename_i h1 h3
  exact⟨wy h,ha0 om,hcn om⟩
 split at h
 ·exact⟨hw0 om,ha0 om,hcn om⟩
 split at h
 ·simp only [Bool.and_eq_true] at h
  exact⟨wy h.2.2,ha0 om,hcn om⟩
 split at h
 ·simp only [Bool.and_eq_true,decide_eq_true_eq] at h
  exact⟨hw0 om,by omega,hcn om⟩
 split at h
 ·rename_i h8
  simp only [Bool.and_eq_true,decide_eq_true_eq] at h
  obtain⟨-, -, -, -,h4,h5⟩:=h
  refine⟨hw0 om,ha0 om,by omega,fun c hc=>?_⟩
  have h6:=List.all_eq_true.1 h5 c hc
  simp only [eW,Bool.not_eq_true',Bool.or_eq_false_iff,decide_eq_false_iff_not] at h6
  omega
 ·exact⟨hw0 om,ha0 om,hcn om⟩
theorem qe {α:Type}{enc:α→List Value}{x:α}{u:Value}(he:enc x=[u]):∀n:Nat,(List.replicate n x).flatMap enc=fP n [u]
 | 0=>rfl
 | n+1=>by rw [List.replicate_succ,List.flatMap_cons,qe he n,he];rfl
theorem yS {l:List Str}{b n:Nat}(e:l=List.replicate n ([]:Str))(hn:n≤1000):OwnSl 1 Str.cells (.slice (some ⟨b,0,none⟩) n n) l [(b,fP n [gs []])]:=by
 subst e
 exact OwnSl.blk (enc:=Str.cells) (List.replicate n ([]:Str)) sq (qe (enc:=Str.cells) (x:=([]:Str)) rfl n).symm om
section
variable {s:SStep}{k:Int}{x w0 w1:SWay}
theorem ways_3 {b:Bool}(hk:s.kind=3)(h0:s.ways[(0:Int).toNat]? =some w0)(h1:s.ways[(1:Int).toNat]? =some w1)(h:b=(decide ((s.ways.length:Int)=2)&&(ue w0&&ue w1))):b=fL s:=by
 unfold fL
 rw [if_pos hk,h]
 rw [show(0:Int).toNat=0 from rfl] at h0
 rw [show(1:Int).toNat=1 from rfl] at h1
 rw [h0,h1];rfl
theorem ways_3n (hk:s.kind=3)(h:decide ((s.ways.length:Int)=2)=false):false=fL s:=by
 unfold fL;rw [if_pos hk,h];rfl
theorem ways_n (hk:¬s.kind=3)(h:¬((1:Int)≤s.ways.length∧(s.ways.length:Int)≤7)):fL s=false:=by
 unfold fL
 rw [if_neg hk]
 by_cases h1:(1:Int)≤s.ways.length
 ·rw [decide_eq_true h1,decide_eq_false (fun h2=>h ⟨h1,h2⟩)];rfl
 ·rw [decide_eq_false h1];rfl
theorem yw (hk:¬s.kind=3)(k0:0≤k)(hx:s.ways[k.toNat]? =some x)(hb:eg x=true)(h:s.ways.all (fun w=>!eg w)=(s.ways.drop k.toNat).all (fun w=>!eg w)):fL s=false:=by
 unfold fL
 rw [if_neg hk,cN (p:=fun w=>!eg w) k0 hx (by simp [hb]) h]
 simp
theorem yv (hk:¬s.kind=3)(hn:(1:Int)≤s.ways.length∧(s.ways.length:Int)≤7)(k0:0≤k)(he:¬k<s.ways.length)(h:s.ways.all (fun w=>!eg w)=(s.ways.drop k.toNat).all (fun w=>!eg w)):fL s=cU (s.ways.map (·.label)):=by
 unfold fL
 rw [if_neg hk,cz (p:=fun w=>!eg w) k0 he h,decide_eq_true hn.1,decide_eq_true hn.2]
 simp
theorem bare_rd {H:Hp}(hs:StepOk H s):StepOk H (fV s):=by
 unfold fV
 constructor<;>simp only
 ·by_cases h:s.kind=6∨s.kind=7
  ·simp only [if_pos h];exact RdSl.nil
  ·simp only [if_neg h];exact hs.a
 ·by_cases h:s.kind=8
  ·simp only [if_pos h];exact RdSl.nil
  ·simp only [if_neg h];exact hs.c
 ·by_cases h:s.kind=8
  ·simp only [if_pos h];intro c hc;cases hc
  ·simp only [if_neg h];exact hs.cs
 ·by_cases h:s.kind=3∨s.kind=5
  ·simp only [if_pos h];exact RdSl.nil
  ·simp only [if_neg h];exact hs.w
end
end Go.Sx
namespace Go.Sx
open Go
theorem xh {l:List Term}:∀(f:Nat) (at_ deep:Int) (met:List Bool),0≤at_→1≤deep→(dy l f at_ deep met).1=true→(ff l f at_).length+1≤2 ^ (26 - deep.toNat):=by
 intro f
 induction f with
 | zero=>intro at_ deep met _ _ h;simp [dy] at h
 | succ f ih=>
  intro at_ deep met h0 hd h
  cases hx:l[at_.toNat]? with
  | none=>simp [dy,hx] at h
  | some t=>
   by_cases hg:met[at_.toNat]?.getD false=true∨24<deep∨aH t.kind<0∨dt t=false
   ·rw [qP hx hg] at h;cases h
   ·have hgg:xO deep met at_ t:=by
     refine⟨?_,?_,?_,?_⟩
     ·cases hb:met[at_.toNat]?.getD false with
      | false=>rfl
      | true=>exact absurd (.inl hb) hg
     ·intro h1;exact hg (.inr (.inl h1))
     ·intro h1;exact hg (.inr (.inr (.inl h1)))
     ·cases hb:dt t with
      | true=>rfl
      | false=>exact absurd (.inr (.inr (.inr hb))) hg
    generalize h00:opW (aH t.kind) at_ (fun to m=>dy l f to (deep+1) m) 0 t.l (met.set at_.toNat true)=r0
    obtain⟨b0,m0⟩:=r0
    cases b0 with
    | false=>rw [qQ hx hgg h00] at h;cases h
    | true=>
     generalize h11:opW (aH t.kind) at_ (fun to m=>dy l f to (deep+1) m) 1 t.r m0=r1
     rw [lm hx hgg h00 h11] at h
     have h24:=hgg.2.1
     have h1:0<2 ^ (26 - (deep+1).toNat):=Nat.two_pow_pos _
     have key:∀(i to:Int) (m m':List Bool),opW (aH t.kind) at_ (fun to m=>dy l f to (deep+1) m) i to m=(true,m')→(ff l f to).length+1≤2 ^ (26 - (deep+1).toNat):=by
      intro i to m m' he
      by_cases hi:i<aH t.kind
      ·by_cases hb:to<0∨at_≤to
       ·rw [qL om hb] at he;cases he
       ·rw [qJ om om om] at he
        exact ih to (deep+1) m om om (by rw [he])
      ·rw [uM om] at he
       have:to= -1:=by simpa using congrArg Prod.fst he
       rw [iU om];simp;omega
     have k0:=key 0 t.l _ _ h00
     have k1:=key 1 t.r _ r1.2 (by rw [h11];cases r1;simp at h;simp [h])
     rw [ku om hx]
     have hp:2 ^ (26 - deep.toNat)=2 * 2 ^ (26 - (deep+1).toNat):=by
      rw [show 26 - deep.toNat=(26 - (deep+1).toNat)+1 by omega,Nat.pow_succ];omega
     simp only [List.length_append,List.length_cons,List.length_nil]
     omega
theorem ln {l:List Term}{root:Int}(h:dH l root=true):(ff l (root.toNat+1) root).length≤33554432:=by
 unfold dH at h
 split at h
 ·cases h
 ·split at h
  ·cases h
  ·split at h
   ·cases h
   ·have:=xh _ _ _ _ om dq h
    simp at this
    omega
theorem qG {l:List Term}:∀(f:Nat) (at_:Int),∀k∈ff l f at_,0≤k∧k<l.length
 | 0,at_,k,h=>by cases h
 | f+1,at_,k,h=>by
  rw [ff] at h
  split at h
  ·cases h
  ·split at h
   ·cases h
   ·rename_i hn t hx
    rcases List.mem_append.1 h with h | h
    ·exact qG f _ k h
    ·rcases List.mem_append.1 h with h | h
     ·exact qG f _ k h
     ·simp at h;subst h
      have:=(List.getElem?_eq_some_iff.1 hx).1
      omega
def bD (l:List SProc)(name:Str)(n:Int):Bool:=decide (0≤cb l name)&&decide (((kF l (cb l name)).params.length:Int)=n)
def dN (s:SStep):List Str:=s.peer::s.casts.map (·.role)
def uL (x:SProto)(s:SStep):Bool:=decide (((dN s).length:Int)=x.roles.length)&&(cU (dN s)&&(dN s).all (fun r=>bX x.roles r))
def eK (s:SStep):List SProto→Bool
 | []=>false
 | x::r=>if x.name=s.label then uL x s else eK s r
def dC (P:SProg)(s:SStep):Bool:=eK s P.protos
def cI (ts:List Term)(s:SStep):List Str:=(cq s).flatMap (gk ts)++(if s.kind=4∨s.kind=5∨s.kind=9 then [s.name] else [])
def dJ (P:SProg)(ts:List Term)(s:SStep)(bound:List Str):Int:=
 if(cI ts s).all (fun n=>bX bound n)=false then 1505
 else if(ce s).all (fun n=>!(!decide (n=[])&&bX bound n))=false then 1506
 else if(!decide (s.proc=[])&& !bD P.procs s.proc s.args.length)=true then 1507
 else if s.casts.all (fun c=>bD P.procs c.proc (c.args.length+1))=false then 1507
 else if(decide (s.kind=8)&& !dC P s)=true then 1508 else 0
def cu (ck:Int)(cn:Str):Bool:=
 if ck<0∨5<ck then false
 else if ck≠5 then decide (cn=[])
 else aG (jH cn).1&&(!(jH cn).2.2||aG (jH cn).2.1)
def d8 (n:Int)(a:SArm):Bool:=aG a.label&&(cu a.ck a.cn&&(!decide (a.next<0)&& !decide (n≤a.next)))
def cV (l:List SArm)(n:Int):Bool:=(decide (1≤l.length)&&decide (l.length≤6))&&(l.all (d8 n)&&cU (l.map (·.label)))
def ep (n:Int)(t:STurn):Bool:=
 if t.kind=0 then decide (t.peer=[])&& !decide (0<(t.arms.length:Int))
 else if t.kind=1∨t.kind=2 then aG t.peer&&cV t.arms n
 else false
def cH (l:SLocal):Bool:=(decide (1≤l.turns.length)&&decide (l.turns.length≤40))&&l.turns.all (ep l.turns.length)
def eL (x:SPoint):STurn:=if ¬x.frm=[]∨¬x.to=[]∨0<x.arms.length then⟨1,x.to,x.arms,x.ap⟩ else⟨0,[],x.arms,x.ap⟩
def dW (x:SPoint):Bool:=decide (x.frm=[])&&(decide (x.to=[])&&decide ((x.arms.length:Int)=0))
def dK (roles:List Str)(x:SPoint):Bool:=bX roles x.frm&&(bX roles x.to&& !decide (x.frm=x.to))
def ek (roles:List Str)(x:SPoint):Bool:=dW x||dK roles x
def cK (p:SProto):Bool:=aG p.name&&(decide ((2:Int)≤p.roles.length)&&(decide ((p.roles.length:Int)≤5)&&(cU p.roles&& !decide ((24:Int)<p.points.length))))
def cO (p:SProto):Bool:=cK p&&(p.roles.all aG&&(p.points.all (ek p.roles)&&cH ⟨[],p.points.map eL,(none,0)⟩))
def bQ (q:SProc):Bool:=aG q.name&&(decide ((q.params.length:Int)≤6)&&(decide ((1:Int)≤q.steps.length)&&(decide ((q.steps.length:Int)≤80)&&decide ((q.terms.length:Int)≤160))))
def el (x:SParam):Bool:=aG x.name&&cu x.ck x.cn
def dc (l:List SProc)(i:Int)(q:SProc):SFault:=
 if(bQ q&&q.params.all el)=false then⟨1500,i, -1⟩
 else if(decide (cb l q.name<i)|| !cU (q.params.map (·.name)))=true then⟨1501,i, -1⟩ else okF
def bS (l:List Int)(i:Int):Int:=l[i.toNat]?.getD 0
def n8 (l:List Int)(i:Int):List Int:=l.set i.toNat (IntKind.i64.wrap (bS l i+1))
def cG (n at_:Int):List Int→List Int→List Int→Option (List Int×List Int)
 | [],c,d=>some (c,d)
 | t::r,c,d=>if t≤at_∨n≤t then none else cG n at_ r (n8 c t) (d.set t.toNat (bS d at_))
def gX:List Int→List Bool→Option (List Bool)
 | [],u=>some u
 | k::r,u=>if u[k.toNat]?.getD false=true then none else gX r (u.set k.toNat true)
def cY (ts:List Term):List Int→List Bool→Option (List Bool)
 | [],u=>some u
 | t::r,u=>if dH ts t=false then none else match gX (eJ ts t) u with
  | none=>none
  | some u2=>cY ts r u2
def eU (s:SStep)(at_:Int)(d:List Int):List Int:=if s.kind=3∨s.kind=5 then n8 d at_ else d
def bH (q:SProc)(i:Int):List SStep→Int→List Int→List Int→List Bool→SFault
 | [],_,_,_,_=>okF
 | s::r,at_,c,d,u=>
  if gv s=false then⟨1500,i,at_⟩
  else if 0<at_∧¬bS c at_=1 then⟨1502,i,at_⟩
  else match cG q.steps.length at_ (aT s) c (eU s at_ d) with
   | none=>⟨1502,i,at_⟩
   | some (c2,d2)=>
    if 24<bS d2 at_ then⟨1502,i,at_⟩
    else match cY q.terms (cq s) u with
     | none=>⟨1503,i,at_⟩
     | some u2=>bH q i r (at_+1) c2 d2 u2
def gc (i:Int)(q:SProc):SFault:=bH q i q.steps 0 (List.replicate q.steps.length 0) (List.replicate q.steps.length 0) (List.replicate q.terms.length false)
def pZ (b:List (List Str))(at_:Int)(t:Int)(m:Str):List (List Str):=b.set t.toNat ((b[at_.toNat]?.getD [])++(if m=[] then [] else [m]))
def fC (at_:Int):List Int→List Str→List (List Str)→List (List Str)
 | [],_,b=>b
 | t::r,ms,b=>fC at_ r (ms.drop 1) (pZ b at_ t (ms.headD []))
def cR (P:SProg)(q:SProc)(i:Int):List SStep→Int→List (List Str)→SFault
 | [],_,_=>okF
 | s::r,at_,b=>
  let e:=dJ P q.terms s (b[at_.toNat]?.getD [])
  if e≠0 then⟨e,i,at_⟩ else cR P q i r (at_+1) (fC at_ (aT s) (ce s) b)
def lw (q:SProc):List (List Str):=(List.replicate q.steps.length ([]:List Str)).set 0 (q.params.map (·.name))
def dV (P:SProg)(i:Int)(q:SProc):SFault:=cR P q i q.steps 0 (lw q)
def br (f:Int→SProc→SFault):List SProc→Int→SFault
 | [],_=>okF
 | q::r,i=>if(f i q).e≠0 then f i q else br f r (i+1)
def aK (l:List SProc)(i:Int)(q:SProc):SFault:=if(dc l i q).e≠0 then dc l i q else gc i q
def fk (P:SProg):SFault:=
 if 6<(P.protos.length:Int)∨12<(P.locals.length:Int)∨24<(P.procs.length:Int) then⟨1500, -1, -1⟩
 else if P.protos.all cO=false then⟨1500, -1, -1⟩
 else if P.locals.all (fun l=>cH l&&aG l.name)=false then⟨1500, -1, -1⟩
 else okF
def bT:Str:=[109,97,105,110]
def fh (l:List SProc):SFault:=if cb l bT<0∨0<((kF l (cb l bT)).params.length:Int) then⟨1504, -1, -1⟩ else okF
def bU (P:SProg):SFault:=
 if(fk P).e≠0 then fk P
 else if(br (aK P.procs) P.procs 0).e≠0 then br (aK P.procs) P.procs 0
 else if(fh P.procs).e≠0 then fh P.procs
 else br (dV P) P.procs 0
end Go.Sx
namespace Go.Sx
open Go
section
variable {P:SProg}{ts:List Term}{s:SStep}{bound:List Str}
theorem step_1 (h:(cI ts s).all (fun n=>bX bound n)=false):dJ P ts s bound=1505:=by unfold dJ;rw [if_pos h]
theorem step_2 (h:(cI ts s).all (fun n=>bX bound n)=true)(h2:(ce s).all (fun n=>!(!decide (n=[])&&bX bound n))=false):dJ P ts s bound=1506:=by
 unfold dJ;rw [if_neg (by rw [h];decide),if_pos h2]
theorem step_3 (h:(cI ts s).all (fun n=>bX bound n)=true)(h2:(ce s).all (fun n=>!(!decide (n=[])&&bX bound n))=true)(h3:(!decide (s.proc=[])&& !bD P.procs s.proc s.args.length)=true):dJ P ts s bound=1507:=by
 unfold dJ;rw [if_neg (by rw [h];decide),if_neg (by rw [h2];decide),if_pos h3]
theorem step_4 (h:(cI ts s).all (fun n=>bX bound n)=true)(h2:(ce s).all (fun n=>!(!decide (n=[])&&bX bound n))=true)(h3:(!decide (s.proc=[])&& !bD P.procs s.proc s.args.length)=false)
  (h4:s.casts.all (fun c=>bD P.procs c.proc (c.args.length+1))=false):dJ P ts s bound=1507:=by
 unfold dJ;rw [if_neg (by rw [h];decide),if_neg (by rw [h2];decide),if_neg (by rw [h3];decide),if_pos h4]
theorem step_5 (h:(cI ts s).all (fun n=>bX bound n)=true)(h2:(ce s).all (fun n=>!(!decide (n=[])&&bX bound n))=true)(h3:(!decide (s.proc=[])&& !bD P.procs s.proc s.args.length)=false)
  (h4:s.casts.all (fun c=>bD P.procs c.proc (c.args.length+1))=true) (h5:(decide (s.kind=8)&& !dC P s)=true):dJ P ts s bound=1508:=by
 unfold dJ;rw [if_neg (by rw [h];decide),if_neg (by rw [h2];decide),if_neg (by rw [h3];decide),if_neg (by rw [h4];decide),if_pos h5]
theorem step_6 (h:(cI ts s).all (fun n=>bX bound n)=true)(h2:(ce s).all (fun n=>!(!decide (n=[])&&bX bound n))=true)(h3:(!decide (s.proc=[])&& !bD P.procs s.proc s.args.length)=false)
  (h4:s.casts.all (fun c=>bD P.procs c.proc (c.args.length+1))=true) (h5:(decide (s.kind=8)&& !dC P s)=false):dJ P ts s bound=0:=by
 unfold dJ;rw [if_neg (by rw [h];decide),if_neg (by rw [h2];decide),if_neg (by rw [h3];decide),if_neg (by rw [h4];decide),if_neg (by rw [h5];decide)]
theorem wO (h:s.args.length≤6∧s.casts.length≤4∧∀c∈s.casts,c.args.length≤6):(cq s).length≤100:=by
 have h1:=kY s
 have h2:∀l:List SCast,(∀c∈l,c.args.length≤6)→(l.flatMap (·.args)).length≤6 * l.length:=by
  intro l
  induction l with
  | nil=>simp
  | cons c l ih=>
   intro h
   have:=ih (fun x hx=>h x (by simp [hx]))
   have:=h c sq
   simp only [List.flatMap_cons,List.length_append,List.length_cons];omega
 have h3:=h2 s.casts h.2.2
 rw [← kW,List.length_append]
 omega
theorem vW:∀(r:List Int),(r.flatMap (gk ts)).length≤16777216 * r.length
 | []=>by simp
 | t::r=>by
  have:=vW r
  have:=pM ts t
  simp only [List.flatMap_cons,List.length_append,List.length_cons];omega
theorem uX {l:List SProc}{i:Int}{q:SProc}(h:(bQ q&&q.params.all el)=false):dc l i q=⟨1500,i, -1⟩:=by unfold dc;rw [if_pos h]
theorem uW {l:List SProc}{i:Int}{q:SProc}(h:(bQ q&&q.params.all el)=true)(h2:(decide (cb l q.name<i)|| !cU (q.params.map (·.name)))=true):dc l i q=⟨1501,i, -1⟩:=by
 unfold dc;rw [if_neg (by rw [h];decide),if_pos h2]
theorem uV {l:List SProc}{i:Int}{q:SProc}(h:(bQ q&&q.params.all el)=true)(h2:(decide (cb l q.name<i)|| !cU (q.params.map (·.name)))=false):dc l i q=okF:=by
 unfold dc;rw [if_neg (by rw [h];decide),if_neg (by rw [h2];decide)]
end
theorem uP {k:Int}{l:List SArm}{x:SArm}(k0:0≤k)(hx:l[k.toNat]? =some x)(h:((l.take k.toNat).map (·.label)).Nodup)(hn:x.label∉(l.take k.toNat).map (·.label)):((l.take (k+1).toNat).map (·.label)).Nodup:=by
 rw [bF k0 hx,List.nodup_append]
 refine⟨h,by simp,?_⟩
 intro a ha b hb e
 simp at hb
 subst hb;subst e
 exact hn ha
section
variable {l:List SArm}{n k:Int}{x:SArm}
theorem uf (h:¬(1≤l.length∧l.length≤6)):false=cV l n:=by
 unfold cV
 by_cases h1:1≤l.length
 ·rw [decide_eq_true h1,decide_eq_false (fun h2=>h ⟨h1,h2⟩)];rfl
 ·rw [decide_eq_false h1];rfl
theorem zJ (k0:0≤k)(hx:l[k.toNat]? =some x)(h:d8 n x=false∨x.label∈(l.take k.toNat).map (·.label)):false=cV l n:=by
 unfold cV
 rcases h with h | h
 ·rw [show l.all (d8 n)=false from ?_]; · simp
  rw [List.all_eq_false]
  exact⟨x,List.mem_of_getElem? hx,by simp [h]⟩
 ·rw [show cU (l.map (·.label))=false from ?_]; · simp
  unfold cU
  refine decide_eq_false (fun hn=>?_)
  have e:l.map (·.label)=(l.take k.toNat).map (·.label)++(l.drop k.toNat).map (·.label):=by rw [← List.map_append,List.take_append_drop]
  rw [e,List.nodup_append] at hn
  rw [bu hx,List.map_cons] at hn
  exact hn.2.2 _ h _ (List.mem_cons_self ..) rfl
theorem zI (hl:1≤l.length∧l.length≤6)(k0:0≤k)(hk:¬k<l.length)(h:(l.take k.toNat).all (d8 n)=true)(hn:((l.take k.toNat).map (·.label)).Nodup):true=cV l n:=by
 rw [bh hk k0] at h hn
 unfold cV cU
 rw [decide_eq_true hl.1,decide_eq_true hl.2,h,decide_eq_true hn];rfl
end
section
variable {l:SLocal}{k:Int}{x:STurn}
theorem qc (h:¬(1≤l.turns.length∧l.turns.length≤40)):false=cH l:=by
 unfold cH
 by_cases h1:1≤l.turns.length
 ·rw [decide_eq_true h1,decide_eq_false (fun h2=>h ⟨h1,h2⟩)];rfl
 ·rw [decide_eq_false h1];rfl
theorem gy (k0:0≤k)(hx:l.turns[k.toNat]? =some x)(hb:ep l.turns.length x=false)(h:l.turns.all (ep l.turns.length)=(l.turns.drop k.toNat).all (ep l.turns.length)):false=cH l:=by
 unfold cH;rw [cN k0 hx hb h];simp
theorem xk (hl:1≤l.turns.length∧l.turns.length≤40)(k0:0≤k)(hk:¬k<l.turns.length)(h:l.turns.all (ep l.turns.length)=(l.turns.drop k.toNat).all (ep l.turns.length)):true=cH l:=by
 unfold cH;rw [cz k0 hk h,decide_eq_true hl.1,decide_eq_true hl.2];rfl
end
theorem oS (ck:Int)(cn:Str)(p q:Sp):cH ⟨[],[⟨1,[120],[⟨[120],ck,cn,0⟩],p⟩],q⟩=cu ck cn:=by
 simp [cH,ep,cV,d8,cU,show aG [120]=true by decide]
theorem wq {x:SPoint}(h:¬x.frm=[]∨¬x.to=[]∨0<x.arms.length):eL x=⟨1,x.to,x.arms,x.ap⟩:=by unfold eL;rw [if_pos h]
theorem wr {x:SPoint}(h:¬(¬x.frm=[]∨¬x.to=[]∨0<x.arms.length)):eL x=⟨0,[],x.arms,x.ap⟩:=by unfold eL;rw [if_neg h]
theorem tS {H:Hp}{p:SProto}(hP:ProtoOk H p):∀t∈p.points.map eL,TurnOk H t:=by
 intro t ht
 obtain⟨x,hx,rfl⟩:=List.mem_map.1 ht
 have h:=hP.ps x hx
 unfold eL
 split<;>exact⟨h.a,h.z⟩
theorem pt_1 {r:List Str}{x:SPoint}(h:dW x=true):ek r x=true:=by unfold ek;rw [h];rfl
theorem pt_2 {r:List Str}{x:SPoint}(h:(!dK r x)=false):ek r x=true:=by unfold ek;rw [nb_F h,Bool.or_true]
theorem pt_3 {r:List Str}{x:SPoint}(h1:dW x=false)(h:(!dK r x)=true):ek r x=false:=by unfold ek;rw [xb h,h1];rfl
theorem mt {p:SProto}(h:(!cK p)=true):false=cO p:=by unfold cO;rw [xb h];rfl
theorem mr {p:SProto}(h1:p.roles.all aG=false):false=cO p:=by unfold cO;rw [h1];simp
theorem mq {p:SProto}(h1:p.points.all (ek p.roles)=false):false=cO p:=by unfold cO;rw [h1];simp
theorem mp {p:SProto}{q:Sp}(h:cK p=true)(h1:p.roles.all aG=true)(h2:p.points.all (ek p.roles)=true):cH ⟨[],p.points.map eL,q⟩=cO p:=by
 unfold cO;rw [h,h1,h2];rfl
theorem yZ {p:SProto}(h:cK p=true):p.points.length≤24:=by
 unfold cK at h;simp only [Bool.and_eq_true,decide_eq_true_eq,Bool.not_eq_true',decide_eq_false_iff_not] at h;omega
section
variable {pg:SProg}{s:SStep}{k:Int}{x:SProto}
theorem uK (k0:0≤k)(hx:pg.protos[k.toNat]? =some x)(hn:¬x.name=s.label)(h:dC pg s=eK s (pg.protos.drop k.toNat)):dC pg s=eK s (pg.protos.drop (k+1).toNat):=by
 rw [h,bu hx,eK,if_neg hn,show(k+1).toNat=k.toNat+1 by omega]
theorem iX (k0:0≤k)(hk:¬k<pg.protos.length)(h:dC pg s=eK s (pg.protos.drop k.toNat)):dC pg s=false:=by
 rw [h,List.drop_of_length_le om];rfl
theorem mv (k0:0≤k)(hx:pg.protos[k.toNat]? =some x)(hn:x.name=s.label)(h:dC pg s=eK s (pg.protos.drop k.toNat))(hb:(!(decide (((dN s).length:Int)=x.roles.length)&&cU (dN s)))=true):dC pg s=false:=by
 rw [h,bu hx,eK,if_pos hn,uL]
 have hb:=xb hb
 cases h1:decide (((dN s).length:Int)=x.roles.length) with
 | false=>rfl
 | true=>rw [h1] at hb;simp at hb;simp [hb]
theorem mu {b:Bool}(k0:0≤k)(hx:pg.protos[k.toNat]? =some x)(hn:x.name=s.label)(h:dC pg s=eK s (pg.protos.drop k.toNat))(hb:(!(decide (((dN s).length:Int)=x.roles.length)&&cU (dN s)))=false)(ha:(dN s).all (fun r=>bX x.roles r)=b):dC pg s=b:=by
 rw [h,bu hx,eK,if_pos hn,uL]
 have hb:=nb_F hb
 simp only [Bool.and_eq_true] at hb
 rw [hb.1,hb.2,ha];simp
end
theorem zl {q:SProc}{k:Int}{x:SParam}{b b2:Bool}(k0:0≤k)(hx:q.params[k.toNat]? =some x)(h:b=(bQ q&&(q.params.take k.toNat).all el))(h2:b2=(b&&el x)):b2=(bQ q&&(q.params.take (k+1).toNat).all el):=by
 rw [h2,h,bB k0 hx,List.all_append];simp [Bool.and_assoc]
section
variable {pg:SProg}
theorem wG (h:(decide (6<(pg.protos.length:Int))||(decide (12<(pg.locals.length:Int))||decide (24<(pg.procs.length:Int))))=true):fk pg=⟨1500, -1, -1⟩:=by
 unfold fk;rw [if_pos (by simpa using h)]
theorem zL (h:(decide (6<(pg.protos.length:Int))||(decide (12<(pg.locals.length:Int))||decide (24<(pg.procs.length:Int))))=false):¬(6<(pg.protos.length:Int)∨12<(pg.locals.length:Int)∨24<(pg.procs.length:Int)):=by
 intro e;rw [← Bool.not_eq_true] at h;exact h (by simpa using e)
theorem wF (h:(decide (6<(pg.protos.length:Int))||(decide (12<(pg.locals.length:Int))||decide (24<(pg.procs.length:Int))))=false)(h2:pg.protos.all cO=false):fk pg=⟨1500, -1, -1⟩:=by
 unfold fk;rw [if_neg (zL h),if_pos h2]
theorem wE (h:(decide (6<(pg.protos.length:Int))||(decide (12<(pg.locals.length:Int))||decide (24<(pg.procs.length:Int))))=false)(h2:pg.protos.all cO=true)(h3:pg.locals.all (fun l=>cH l&&aG l.name)=false):fk pg=⟨1500, -1, -1⟩:=by
 unfold fk;rw [if_neg (zL h),if_neg (by rw [h2];decide),if_pos h3]
theorem wD (h:(decide (6<(pg.protos.length:Int))||(decide (12<(pg.locals.length:Int))||decide (24<(pg.procs.length:Int))))=false)(h2:pg.protos.all cO=true)(h3:pg.locals.all (fun l=>cH l&&aG l.name)=true):fk pg=okF:=by
 unfold fk;rw [if_neg (zL h),if_neg (by rw [h2];decide),if_neg (by rw [h3];decide)]
end
theorem mo:∀n:Nat,fP n [Value.int .i64 0]=(List.replicate n (0:Int)).map (Value.int .i64)
 | 0=>rfl
 | n+1=>by rw [List.replicate_succ,List.map_cons,← mo n];rfl
theorem wg:∀n:Nat,fP n [Value.bool false]=(List.replicate n false).map Value.bool
 | 0=>rfl
 | n+1=>by rw [List.replicate_succ,List.map_cons,← wg n];rfl
theorem bs_get {c:List Bool}{k:Int}(h:k.toNat<c.length):(c.map Value.bool)[0+k.toNat * 1]? =some (.bool (c[k.toNat]?.getD false)):=by
 rw [show 0+k.toNat * 1=k.toNat by omega,List.getElem?_map,List.getElem?_eq_getElem h]
 simp [h]
theorem bs_set {c:List Bool}{k:Int}{x:Bool}:(c.map Value.bool).set (0+k.toNat * 1) (.bool x)=(c.set k.toNat x).map Value.bool:=by
 rw [show 0+k.toNat * 1=k.toNat by omega,List.map_set]
theorem fT {c:List Int}{k:Int}(h:k.toNat<c.length):(c.map (Value.int .i64))[0+k.toNat * 1]? =some (.int .i64 (bS c k)):=by
 rw [show 0+k.toNat * 1=k.toNat by omega,List.getElem?_map,List.getElem?_eq_getElem h]
 simp [bS,h]
theorem qZ {c:List Int}{k x:Int}:(c.map (Value.int .i64)).set (0+k.toNat * 1) (.int .i64 x)=(c.set k.toNat x).map (Value.int .i64):=by
 rw [show 0+k.toNat * 1=k.toNat by omega,List.map_set]
section
variable {n at_:Int}{L:List Int}{k x:Int}{c d c2 d2:List Int}{N:Option (List Int×List Int)}
theorem ng_bad (k0:0≤k)(hx:L[k.toNat]? =some x)(hb:(decide (x≤at_)||decide (n≤x))=true)(h:N=cG n at_ (L.drop k.toNat) c d):N=none:=by
 rw [h,bu hx,cG,if_pos (by simpa using hb)]
theorem ng_next (k0:0≤k)(hx:L[k.toNat]? =some x)(hb:(decide (x≤at_)||decide (n≤x))=false)(h:N=cG n at_ (L.drop k.toNat) c d):N=cG n at_ (L.drop (k+1).toNat) (n8 c x) (d.set x.toNat (bS d at_)):=by
 rw [h,bu hx,cG,if_neg (by intro e;rw [Bool.or_eq_false_iff] at hb;simp at hb;omega),show(k+1).toNat=k.toNat+1 by omega]
theorem ng_end (k0:0≤k)(hk:¬k<L.length)(h:N=cG n at_ (L.drop k.toNat) c d):N=some (c,d):=by
 rw [h,List.drop_of_length_le om];rfl
end
section
variable {L:List Int}{k x:Int}{u u2:List Bool}{N:Option (List Bool)}{ts:List Term}
theorem ug_bad (k0:0≤k)(hx:L[k.toNat]? =some x)(hb:u[x.toNat]?.getD false=true)(h:N=gX (L.drop k.toNat) u):N=none:=by
 rw [h,bu hx,gX,if_pos hb]
theorem ug_next (k0:0≤k)(hx:L[k.toNat]? =some x)(hb:u[x.toNat]?.getD false=false)(h:N=gX (L.drop k.toNat) u):N=gX (L.drop (k+1).toNat) (u.set x.toNat true):=by
 rw [h,bu hx,gX,if_neg (by rw [hb];decide),show(k+1).toNat=k.toNat+1 by omega]
theorem ug_end (k0:0≤k)(hk:¬k<L.length)(h:N=gX (L.drop k.toNat) u):N=some u:=by
 rw [h,List.drop_of_length_le om];rfl
theorem rg_may (k0:0≤k)(hx:L[k.toNat]? =some x)(hb:dH ts x=false)(h:N=cY ts (L.drop k.toNat) u):N=none:=by
 rw [h,bu hx,cY,if_pos hb]
theorem rg_bad (k0:0≤k)(hx:L[k.toNat]? =some x)(hb:dH ts x=true)(hu:gX (eJ ts x) u=none)(h:N=cY ts (L.drop k.toNat) u):N=none:=by
 rw [h,bu hx,cY,if_neg (by rw [hb];decide),hu]
theorem rg_next (k0:0≤k)(hx:L[k.toNat]? =some x)(hb:dH ts x=true)(hu:gX (eJ ts x) u=some u2)(h:N=cY ts (L.drop k.toNat) u):N=cY ts (L.drop (k+1).toNat) u2:=by
 rw [h,bu hx,cY,if_neg (by rw [hb];decide),hu,show(k+1).toNat=k.toNat+1 by omega]
theorem rg_end (k0:0≤k)(hk:¬k<L.length)(h:N=cY ts (L.drop k.toNat) u):N=some u:=by
 rw [h,List.drop_of_length_le om];rfl
end
section
variable {q:SProc}{i k:Int}{s:SStep}{c d c2 d2:List Int}{u u2:List Bool}{F:SFault}
theorem sh_form (k0:0≤k)(hx:q.steps[k.toNat]? =some s)(hm:gv s=false)(h:F=bH q i (q.steps.drop k.toNat) k c d u):F=⟨1500,i,k⟩:=by
 rw [h,bu hx,bH,if_pos hm]
theorem sh_tree (k0:0≤k)(hx:q.steps[k.toNat]? =some s)(hm:gv s=true)(ht:(decide (0<k)&& !decide (bS c k=1))=true)(h:F=bH q i (q.steps.drop k.toNat) k c d u):F=⟨1502,i,k⟩:=by
 rw [h,bu hx,bH,if_neg (by rw [hm];decide),if_pos (by simpa using ht)]
theorem sh_n (k0:0≤k)(hx:q.steps[k.toNat]? =some s)(hm:gv s=true)(ht:(decide (0<k)&& !decide (bS c k=1))=false)(hn:cG q.steps.length k (aT s) c (eU s k d)=none)(h:F=bH q i (q.steps.drop k.toNat) k c d u):F=⟨1502,i,k⟩:=by
 rw [h,bu hx,bH,if_neg (by rw [hm];decide),if_neg (by intro e;simp [e] at ht),hn]
theorem sh_d (k0:0≤k)(hx:q.steps[k.toNat]? =some s)(hm:gv s=true)(ht:(decide (0<k)&& !decide (bS c k=1))=false)(hn:cG q.steps.length k (aT s) c (eU s k d)=some (c2,d2))(hd:24<bS d2 k)
  (h:F=bH q i (q.steps.drop k.toNat) k c d u):F=⟨1502,i,k⟩:=by
 rw [h,bu hx,bH,if_neg (by rw [hm];decide),if_neg (by intro e;simp [e] at ht),hn];simp only;rw [if_pos hd]
theorem sh_t (k0:0≤k)(hx:q.steps[k.toNat]? =some s)(hm:gv s=true)(ht:(decide (0<k)&& !decide (bS c k=1))=false)(hn:cG q.steps.length k (aT s) c (eU s k d)=some (c2,d2))(hd:¬24<bS d2 k)
  (hr:cY q.terms (cq s) u=none) (h:F=bH q i (q.steps.drop k.toNat) k c d u):F=⟨1503,i,k⟩:=by
 rw [h,bu hx,bH,if_neg (by rw [hm];decide),if_neg (by intro e;simp [e] at ht),hn];simp only;rw [if_neg hd,hr]
theorem sh_next (k0:0≤k)(hx:q.steps[k.toNat]? =some s)(hm:gv s=true)(ht:(decide (0<k)&& !decide (bS c k=1))=false)(hn:cG q.steps.length k (aT s) c (eU s k d)=some (c2,d2))(hd:¬24<bS d2 k)
  (hr:cY q.terms (cq s) u=some u2) (h:F=bH q i (q.steps.drop k.toNat) k c d u):F=bH q i (q.steps.drop (k+1).toNat) (k+1) c2 d2 u2:=by
 rw [h,bu hx,bH,if_neg (by rw [hm];decide),if_neg (by intro e;simp [e] at ht),hn];simp only;rw [if_neg hd,hr,show(k+1).toNat=k.toNat+1 by omega]
theorem sh_end (k0:0≤k)(hk:¬k<q.steps.length)(h:F=bH q i (q.steps.drop k.toNat) k c d u):F=okF:=by
 rw [h,List.drop_of_length_le om];rfl
theorem deep_T (h:(decide (s.kind=3)||decide (s.kind=5))=true):n8 d k=eU s k d:=by unfold eU;rw [if_pos (by simpa using h)]
theorem deep_F (h:(decide (s.kind=3)||decide (s.kind=5))=false):d=eU s k d:=by unfold eU;rw [if_neg (by intro e;rcases e with e | e<;>simp [e] at h)]
theorem dp_len:(eU s k d).length=d.length:=by unfold eU n8;split<;>simp
end
theorem q3 (c:List Int)(k:Int):(n8 c k).length=c.length:=by simp [n8]
end Go.Sx
namespace Go.Sx
open Go
abbrev nilV:Value:=.slice none 0 0
abbrev ul:=Int×List Value×List (List Str)
def BRow (H:Hp)(vs:List Value)(b:List (List Str)):Prop:=vs.length=b.length∧(∀(i:Nat) v x,vs[i]? =some v→b[i]? =some x→RdSl H 1 Str.cells v x)∧∀(i:Nat) x,b[i]? =some x→x.length≤2000000+i
theorem BRow.le {H H':Hp}{vs:List Value}{b:List (List Str)}(h:BRow H vs b)(hl:H.le H'):BRow H' vs b:=⟨h.1,fun i v x h1 h2=>(h.2.1 i v x h1 h2).le hl,h.2.2⟩
theorem BRow.set {H:Hp}{vs:List Value}{b:List (List Str)}(h:BRow H vs b){t:Nat}{v:Value}{x:List Str}(hx:RdSl H 1 Str.cells v x)(hl:x.length≤2000000+t):BRow H (vs.set t v) (b.set t x):=by
 refine⟨by simp [h.1],fun i v' x' h1 h2=>?_,fun i x' h2=>?_⟩
 ·rw [List.getElem?_set] at h1 h2
  by_cases e:t=i
  ·subst e
   rw [if_pos rfl] at h1 h2
   split at h1
   ·rw [h.1] at *
    rename_i hl
    rw [if_pos hl] at h2
    cases h1;cases h2;exact hx
   ·cases h1
  ·rw [if_neg e] at h1 h2;exact h.2.1 i v' x' h1 h2
 ·rw [List.getElem?_set] at h2
  by_cases e:t=i
  ·subst e
   rw [if_pos rfl] at h2
   split at h2
   ·cases h2;exact hl
   ·cases h2
  ·rw [if_neg e] at h2;exact h.2.2 i x' h2
theorem BRow.at_ {H:Hp}{vs:List Value}{b:List (List Str)}(h:BRow H vs b){k:Int}(hk:k.toNat<b.length):∃v x,vs[k.toNat]? =some v∧b[k.toNat]? =some x∧RdSl H 1 Str.cells v x:=by
 have h1:=List.getElem?_eq_getElem (l:=vs) (i:=k.toNat) (by rw [h.1];exact hk)
 have h2:=List.getElem?_eq_getElem hk
 exact⟨_,_,h1,h2,h.2.1 _ _ _ h1 h2⟩
theorem sY (v:Value):∀n:Nat,fP n [v]=List.replicate n v
 | 0=>rfl
 | n+1=>by rw [List.replicate_succ,← sY v n];rfl
theorem yT (v:Value)(n:Nat):(List.replicate n v).set 0 v=List.replicate n v:=by
 cases n<;>rfl
theorem yN {vs:List Value}{v:Value}(h:0<vs.length):(vs.set 0 v)[0+(0:Int).toNat * 1]? =some v:=by
 show(vs.set 0 v)[0]? =some v
 rw [List.getElem?_set,if_pos rfl,if_pos h]
theorem yM {vs:List Value}{v:Value}{k:Int}(h:k.toNat<vs.length):(vs.set (0+k.toNat * 1) v)[0+k.toNat * 1]? =some v:=by
 rw [List.getElem?_set,if_pos rfl,if_pos om]
theorem get_k {vs:List Value}{v:Value}{k:Int}(h:vs[k.toNat]? =some v):vs[0+k.toNat * 1]? =some v:=by
 rwa [show 0+k.toNat * 1=k.toNat by omega]
theorem yL {vs:List Value}{v:Value}{k:Int}:vs.set (0+k.toNat * 1) v=vs.set k.toNat v:=by rw [show 0+k.toNat * 1=k.toNat by omega]
theorem brow0 {H:Hp}{q:SProc}{v:Value}(h:RdSl H 1 Str.cells v (q.params.map (·.name)))(hl:q.params.length≤2000000):BRow H ((List.replicate q.steps.length nilV).set 0 v) (lw q):=by
 unfold lw
 refine BRow.set ⟨by simp,fun i v' x' h1 h2=>?_,fun i x' h2=>?_⟩ h (by simpa using hl)
 ·rw [List.getElem?_replicate] at h1 h2
  split at h1
  ·rename_i hl
   rw [if_pos hl] at h2
   cases h1;cases h2;exact RdSl.nil
  ·cases h1
 ·rw [List.getElem?_replicate] at h2
  split at h2
  ·cases h2;simp
  ·cases h2
theorem vd (q:SProc):(lw q).length=q.steps.length:=by simp [lw]
def cj (q:SProc):Prop:=∀(k:Nat) (s:SStep),q.steps[k]? =some s→gv s=true∧∀t∈aT s,(k:Int)<t∧t<q.steps.length
theorem nU {n at_:Int}:∀{L c d c2 d2},cG n at_ L c d=some (c2,d2)→∀t∈L,at_<t∧t<n
 | [],_,_,_,_,_,t,ht=>by cases ht
 | x::r,c,d,c2,d2,h,t,ht=>by
  rw [cG] at h
  split at h
  ·cases h
  ·rcases List.mem_cons.1 ht with rfl | ht
   ·omega
   ·exact nU h t ht
theorem qz {q:SProc}{i:Int}:∀(l:List SStep) (k:Nat) (c d:List Int) (u:List Bool),l=q.steps.drop k→bH q i l k c d u=okF→∀(j:Nat) (s:SStep),k≤j→q.steps[j]? =some s→gv s=true∧∀t∈aT s,(j:Int)<t∧t<q.steps.length:=by
 intro l
 induction l with
 | nil=>
  intro k c d u hl _ j s hj hs
  have h1:=(List.getElem?_eq_some_iff.1 hs).1
  have h2:(q.steps.drop k).length=0:=by rw [← hl];rfl
  rw [List.length_drop] at h2;omega
 | cons x r ih=>
  intro k c d u hl h j s hj hs
  have hx:q.steps[k]? =some x:=by
   have h1:(q.steps.drop k)[0]? =some x:=by rw [← hl];rfl
   rwa [List.getElem?_drop,Nat.add_zero] at h1
  have hr:r=q.steps.drop (k+1):=by
   have h1:(q.steps.drop k).drop 1=r:=by rw [← hl];rfl
   rw [← h1,List.drop_drop]
  rw [bH] at h
  split at h
  ·cases h
  ·rename_i hm
   split at h
   ·cases h
   ·split at h
    ·cases h
    ·rename_i c2 d2 hn
     split at h
     ·cases h
     ·split at h
      ·cases h
      ·rename_i u2 _
       rcases Nat.lt_or_ge k j with hlt | hge
       ·exact ih (k+1) c2 d2 u2 hr (by rw [← h];rfl) j s hlt hs
       ·have:j=k:=by omega
        subst this
        rw [hx] at hs;cases hs
        exact⟨by simpa using hm,nU hn⟩
theorem nB {q:SProc}{i:Int}(h:gc i q=okF):cj q:=fun k s hs=>qz _ 0 _ _ _ rfl h k s (Nat.zero_le _) hs
theorem qm (s:SStep):(ce s).length=(aT s).length:=by
 unfold ce
 split
 ·rename_i h;unfold aT;rw [if_pos (by rcases h with h | h<;>simp [iE,h])];rfl
 ·split
  ·rename_i h;unfold aT;rw [if_neg (by simp [iE,h])];simp
  ·simp
section
variable {pg:SProg}{q:SProc}{i k:Int}{s:SStep}{b:List (List Str)}{x:List Str}{F:SFault}
theorem sn_bad (k0:0≤k)(hx:q.steps[k.toNat]? =some s)(hb:b[k.toNat]? =some x)(he:¬dJ pg q.terms s x=0)(h:F=cR pg q i (q.steps.drop k.toNat) k b):F=⟨dJ pg q.terms s x,i,k⟩:=by
 rw [h,bu hx,cR,hb];simp only [Option.getD_some];rw [if_pos he]
theorem sn_next (k0:0≤k)(hx:q.steps[k.toNat]? =some s)(hb:b[k.toNat]? =some x)(he:dJ pg q.terms s x=0)(h:F=cR pg q i (q.steps.drop k.toNat) k b):
  F=cR pg q i (q.steps.drop (k+1).toNat) (k+1) (fC k (aT s) (ce s) b):=by
 rw [h,bu hx,cR,hb];simp only [Option.getD_some];rw [if_neg (by simpa using he),show(k+1).toNat=k.toNat+1 by omega]
theorem sn_end (k0:0≤k)(hk:¬k<q.steps.length)(h:F=cR pg q i (q.steps.drop k.toNat) k b):F=okF:=by
 rw [h,List.drop_of_length_le om];rfl
variable {N M:List Int}{ms:List Str}{j t:Int}{m:Str}{B b':List (List Str)}
theorem wB {L:List Int}{ms:List Str}(j0:0≤j)(ht:L[j.toNat]? =some t)(hm:ms[j.toNat]? =some m)(h:B=fC k (L.drop j.toNat) (ms.drop j.toNat) b'):B=fC k (L.drop (j+1).toNat) (ms.drop (j+1).toNat) (pZ b' k t m):=by
 rw [h,bu ht,bu hm,fC,show(j+1).toNat=j.toNat+1 by omega];rfl
theorem bg_end {L:List Int}{ms:List Str}(j0:0≤j)(hj:¬j<L.length)(h:B=fC k (L.drop j.toNat) (ms.drop j.toNat) b'):B=b':=by
 rw [h,List.drop_of_length_le om];rfl
theorem putAt_T (hb:b'[k.toNat]? =some x)(hm:¬m=[]):pZ b' k t m=b'.set t.toNat (x++[m]):=by unfold pZ;rw [hb,if_neg hm];rfl
theorem putAt_F (hb:b'[k.toNat]? =some x)(hm:m=[]):pZ b' k t m=b'.set t.toNat x:=by unfold pZ;rw [hb,if_pos hm];simp
end
theorem zF {s:SStep}{j:Int}(h0:0≤j)(h:j<(aT s).length):∃m,(ce s)[j.toNat]? =some m:=ao h0 (by rw [qm];exact h)
end Go.Sx
namespace Go.Sx
open Go
def PgAt (H:Hp)(b:Nat)(pg:SProg):Prop:=∀(j:Nat) v,pg.cells[j]? =some v→H b j=some v
theorem PgAt.le {H H':Hp}{b:Nat}{pg:SProg}(h:PgAt H b pg)(hl:H.le H'):PgAt H' b pg:=fun j v hv=>hl _ _ _ (h j v hv)
theorem PgAt.add {H:Hp}{b:Nat}{pg:SProg}(h:PgAt H b pg):∀(j:Nat) v,pg.cells[j]? =some v→H b (0+j)=some v:=fun j v hv=>by rw [Nat.zero_add];exact h j v hv
def Fc.cells (f:FuncId):List Value:=[.func (.func f) #[] #[]]
def CellAt (H:Hp)(b:Nat)(v:Value):Prop:=H b 0=some v
theorem CellAt.le {H H':Hp}{b:Nat}{v:Value}(h:CellAt H b v)(hl:H.le H'):CellAt H' b v:=hl _ _ _ h
theorem jF {l:List SProc}{i:Int}{q:SProc}(h:(dc l i q).e=0):1≤q.steps.length∧q.steps.length≤80∧q.terms.length≤160:=by
 unfold dc at h
 split at h
 ·cases h
 ·rename_i hg
  have hg:(bQ q&&q.params.all el)=true:=by simpa using hg
  simp only [Bool.and_eq_true] at hg
  have h1:=hg.1
  unfold bQ at h1
  simp only [Bool.and_eq_true,decide_eq_true_eq] at h1
  omega
theorem jA {q:SProc}{i:Int}:∀(l:List SStep) (k:Int) (c d:List Int) (u:List Bool),(bH q i l k c d u).e=0→bH q i l k c d u=okF
 | [],_,_,_,_,_=>rfl
 | s::r,k,c,d,u,h=>by
  rw [bH] at h ⊢
  split at h
  ·cases h
  ·rename_i h1
   rw [if_neg h1]
   split at h
   ·cases h
   ·rename_i h2
    rw [if_neg h2]
    split at h
    ·cases h
    ·rename_i c2 d2 h3
     split at h
     ·cases h
     ·rename_i h4
      try simp only at h ⊢
      rw [if_neg h4]
      split at h
      ·cases h
      ·exact jA r (k+1) _ _ _ h
theorem wT {q:SProc}{i:Int}(h:(gc i q).e=0):cj q:=nB (i:=i) (jA _ _ _ _ _ h)
def um (q:SProc):Prop:=cj q∧1≤q.steps.length∧q.steps.length≤80∧q.terms.length≤160
theorem qj {l:List SProc}:∀(r:List SProc) (i:Int),(br (aK l) r i).e=0→∀q∈r,um q
 | [],_,_,q,hq=>by cases hq
 | x::r,i,h,q,hq=>by
  rw [br] at h
  split at h
  ·rename_i h1;exact absurd h h1
  ·rename_i h1
   have h1:(aK l i x).e=0:=by simpa using h1
   rcases List.mem_cons.1 hq with rfl | hq
   ·unfold aK at h1
    split at h1
    ·rename_i h2;exact absurd h1 h2
    ·rename_i h2
     exact⟨wT h1,jF (by simpa using h2)⟩
   ·exact qj r (i+1) h q hq
section
variable {f:Int→SProc→SFault}{l:List SProc}{k:Int}{q:SProc}{F:SFault}
theorem oo (k0:0≤k)(hx:l[k.toNat]? =some q)(he:¬(f k q).e=0)(h:F=br f (l.drop k.toNat) k):F=f k q:=by
 rw [h,bu hx,br,if_pos he]
theorem qi (k0:0≤k)(hx:l[k.toNat]? =some q)(he:(f k q).e=0)(h:F=br f (l.drop k.toNat) k):F=br f (l.drop (k+1).toNat) (k+1):=by
 rw [h,bu hx,br,if_neg (by simpa using he),show(k+1).toNat=k.toNat+1 by omega]
theorem tY (k0:0≤k)(hk:¬k<l.length)(h:F=br f (l.drop k.toNat) k):F=okF:=by
 rw [h,List.drop_of_length_le om];rfl
theorem hs_1 {pl:List SProc}(h:¬(dc pl k q).e=0):aK pl k q=dc pl k q:=by unfold aK;rw [if_pos h]
theorem hs_2 {pl:List SProc}(h:(dc pl k q).e=0):aK pl k q=gc k q:=by unfold aK;rw [if_neg (by simpa using h)]
end
theorem ze {l:List SProc}(h:(decide (cb l bT<0)||decide (0<((kF l (cb l bT)).params.length:Int)))=true):fh l=⟨1504, -1, -1⟩:=by
 unfold fh;rw [if_pos (by simpa using h)]
theorem zd {l:List SProc}(h:(decide (cb l bT<0)||decide (0<((kF l (cb l bT)).params.length:Int)))=false):fh l=okF:=by
 unfold fh;rw [if_neg (by intro e;rw [← Bool.not_eq_true] at h;exact h (by simpa using e))]
section
variable {pg:SProg}
theorem chk_0 (h:¬(fk pg).e=0):bU pg=fk pg:=by unfold bU;rw [if_pos h]
theorem chk_1 (h0:(fk pg).e=0)(h:¬(br (aK pg.procs) pg.procs 0).e=0):bU pg=br (aK pg.procs) pg.procs 0:=by unfold bU;rw [if_neg (by simpa using h0),if_pos h]
theorem chk_2 (h0:(fk pg).e=0)(h1:(br (aK pg.procs) pg.procs 0).e=0)(h:¬(fh pg.procs).e=0):bU pg=fh pg.procs:=by
 unfold bU;rw [if_neg (by simpa using h0),if_neg (by simpa using h1),if_pos h]
theorem chk_3 (h0:(fk pg).e=0)(h1:(br (aK pg.procs) pg.procs 0).e=0)(h2:(fh pg.procs).e=0):bU pg=br (dV pg) pg.procs 0:=by
 unfold bU;rw [if_neg (by simpa using h0),if_neg (by simpa using h1),if_neg (by simpa using h2)]
theorem nD {q:SProc}{i:Int}:∀(l:List SStep) (k:Int) (b:List (List Str)),(cR pg q i l k b).e=0→cR pg q i l k b=okF
 | [],_,_,_=>rfl
 | s::r,k,b,h=>by
  rw [cR] at h ⊢
  try simp only at h ⊢
  split at h
  ·rename_i h1;exact absurd h h1
  ·rename_i h1;rw [if_neg h1];exact nD r _ _ h
theorem wv {f:Int→SProc→SFault}(hf:∀i q,(f i q).e=0→f i q=okF):∀(l:List SProc) (i:Int),(br f l i).e=0→br f l i=okF
 | [],_,_=>rfl
 | q::r,i,h=>by
  rw [br] at h ⊢
  split at h
  ·rename_i h1;exact absurd h h1
  ·rename_i h1;rw [if_neg h1];exact wv hf r _ h
theorem zy (h3:(br (dV pg) pg.procs 0).e=0)(h0:(fk pg).e=0)(h1:(br (aK pg.procs) pg.procs 0).e=0)(h2:(fh pg.procs).e=0):bU pg=okF:=by
 rw [chk_3 h0 h1 h2];exact wv (fun i q h=>nD _ _ _ h) _ _ h3
theorem jI (h:(bU pg).e=0):(fk pg).e=0∧(br (aK pg.procs) pg.procs 0).e=0∧(fh pg.procs).e=0∧(br (dV pg) pg.procs 0).e=0:=by
 unfold bU at h
 split at h
 ·rename_i h1;exact absurd h h1
 ·rename_i h1
  split at h
  ·rename_i h2;exact absurd h h2
  ·rename_i h2
   split at h
   ·rename_i h3;exact absurd h h3
   ·rename_i h3
    exact⟨by simpa using h1,by simpa using h2,by simpa using h3,h⟩
end
end Go.Sx
