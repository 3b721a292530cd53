import Derived.Test.YtjnlogbbcceaoaaGreatR6
set_option linter.all false
set_option maxRecDepth 100000
set_option maxHeartbeats 32000000
namespace Go.Sx
open Go
structure DiceOk (H:Hp)(dl:Value)(at_:Int):Prop where
 l:∃l:List Int,RdSl H 1 I64.cells dl l∧0≤at_∧at_≤l.length
theorem DiceOk.le {H H':Hp}{dl:Value}{a:Int}(h:DiceOk H dl a)(hl:H.le H'):DiceOk H' dl a:=by
 obtain⟨l,h1,h2⟩:=h.l
 exact⟨l,h1.le hl,h2⟩
def PickR (n r:Int):Prop:=0≤r∧(1≤n→r<n)∧(n<1→r=0)
theorem BV (x:Int):0≤IntKind.u64.wrap x:=by
 simp only [IntKind.wrap,IntKind.signed,IntKind.bits];simp;omega
theorem mv {x:Int}(h0:0≤x)(h1:x≤9223372036854775807):IntKind.u64.wrap x=x:=by
 simp only [IntKind.wrap,IntKind.signed,IntKind.bits];simp;omega
theorem DF {x:Int}(h0: -9223372036854775808≤x)(h1:x≤9223372036854775807):IntKind.i64.wrap x=x:=by
 simp only [IntKind.wrap,IntKind.signed,IntKind.bits];simp;omega
theorem rA {x n:Int}(h0:0≤x)(h1:1≤n):0≤x.tmod n∧x.tmod n<n:=by
 rw [Int.tmod_eq_emod_of_nonneg h0]
 exact⟨Int.emod_nonneg _ om,Int.emod_lt_of_pos _ om⟩
theorem mQ (x:Int){n:Int}(h1:1≤n)(h2:n≤1000000000):0≤IntKind.i64.wrap ((IntKind.u64.wrap x).tmod (IntKind.u64.wrap n))∧IntKind.i64.wrap ((IntKind.u64.wrap x).tmod (IntKind.u64.wrap n))<n:=by
 rw [mv (x:=n) om om]
 have:=rA (n:=n) (BV x) h1
 rw [DF om om]
 exact this
section
variable {P:Program}{n:Nat}{ops:Array Oper}{Q:Exit→Act→World→Prop}{E:Env}{M:List Nat}{w0:World}{H0 H:Hp}{L:aj}{C:World→Prop}{rest:List Oper}{dst:Option Nat}{op:Op}{ty:TypeId}{pos:String}{aft:Array Edge}
def DFn (P:Program)(bd:Nat)(dl:Value)(at_:Int)(f:FuncId)(args:List Value)(H:Hp)(R:Value→Hp→aj→Prop):Prop:=
 FnX P f (.pointer (some ⟨bd,0,none⟩)::args) H [(bd,[dl,.int .i64 at_])] (fun v H' L'=>∃at' ob,L'=(bd,[dl,.int .i64 at'])::ob∧DiceOk H' dl at'∧R v H' ob)
theorem y1 (X:aj)(y:Nat×List Value)(Y:aj):(X++y::Y).Perm ([y]++(X++Y)):=List.perm_middle
theorem vt (X:aj)(y:Nat×List Value)(Y ob:aj):((y::ob)++(X++Y)).Perm (X++y::(Y++ob)):=by
 have h1:((y::ob)++(X++Y)).Perm ((y::(X++Y))++ob):=by
  rw [List.cons_append,List.cons_append]
  exact(List.perm_append_comm).cons y
 refine h1.trans ?_
 rw [List.cons_append,List.append_assoc]
 exact List.perm_middle.symm
theorem sY {f:FuncId}{args:List Value}{X Y:aj}{bd:Nat}{dl:Value}{at_:Int}{R:Value→Hp→aj→Prop}(hL:L=X++(bd,[dl,.int .i64 at_])::Y)(hE:cA P E op f (.pointer (some ⟨bd,0,none⟩)::args))(hF:DFn P bd dl at_ f args H R)(hd:cu dst n=true)
  (h:∀v H' at' ob,H.le H'→DiceOk H' dl at'→R v H' ob→TL P n ops Q rest (cr dst v E) (St M w0 H0 H' (X++(bd,[dl,.int .i64 at'])::(Y++ob)))):
  TL P n ops Q ({dst:=dst,op:=op,type:=ty,pos:=pos,after:=aft,guard:=none}::rest) E (St M w0 H0 H L):=by
 subst hL
 refine aM (y1 X _ Y) (dY hE hF hd fun v H' L1' hle hΦ=>?_)
 obtain⟨at',ob,rfl,hk,hR⟩:=hΦ
 exact aM (vt X _ Y ob) (h v H' at' ob hle hk hR)
theorem aE {f:FuncId}{args:List Value}{X Y:aj}{bd:Nat}{dl:Value}{at_:Int}{R:Value→Hp→Prop}(hL:L=X++(bd,[dl,.int .i64 at_])::Y)(hE:cA P E op f (.pointer (some ⟨bd,0,none⟩)::args))(hF:DFn P bd dl at_ f args H (fun v H' ob=>ob=[]∧R v H'))(hd:cu dst n=true)
  (h:∀v H' at',H.le H'→DiceOk H' dl at'→R v H'→TL P n ops Q rest (cr dst v E) (St M w0 H0 H' (X++(bd,[dl,.int .i64 at'])::Y))):
  TL P n ops Q ({dst:=dst,op:=op,type:=ty,pos:=pos,after:=aft,guard:=none}::rest) E (St M w0 H0 H L):=
 sY hL hE hF hd fun v H' at' ob h1 h2 h3=>by
  obtain⟨rfl,h3⟩:=h3
  rw [List.append_nil]
  exact h v H' at' h1 h2 h3
theorem TL.pubN {b:Nat}{cs:List Value}{l:List Oper}(hM:∀k∈M,k∈keys L)(h:∀H',H.le H'→(∀o v,cs[o]? =some v→H' b o=some v)→TL P n ops Q l E (St M w0 H0 H' L)):TL P n ops Q l E (St M w0 H0 H ((b,cs)::L)):=by
 intro a w he hw
 have hbM:b∉M:=fun hm=>by
  have h1:=hM b hm
  have h2:=hw.nd
  simp only [List.map_cons,List.nodup_cons] at h2
  exact h2.1 h1
 exact h _ hw.le_add (fun o v hv=>by simp only [Hp.add,if_true];exact hv) a w he (hw.publish hbM)
theorem cB {b:Nat}{cs:List Value}{q:Act→World→Prop}(hM:∀k∈M,k∈keys L)(h:∀H',H.le H'→(∀o v,cs[o]? =some v→H' b o=some v)→TX n q E (St M w0 H0 H' L)):TX n q E (St M w0 H0 H ((b,cs)::L)):=by
 intro a w he hw
 have hbM:b∉M:=fun hm=>by
  have h1:=hM b hm
  have h2:=hw.nd
  simp only [List.map_cons,List.nodup_cons] at h2
  exact h2.1 h1
 exact h _ hw.le_add (fun o v hv=>by simp only [Hp.add,if_true];exact hv) a w he (hw.publish hbM)
theorem ogn {w:World}{M:List Nat}{ob R:aj}(hM:∀k∈M,k∈keys R)(hw:St M w0 H0 H (ob++R) w):∀p∈ob,p.1∉M:=fun p hp hm=>by
 have h2:=hw.nd
 rw [List.map_append,List.nodup_append] at h2
 exact h2.2.2 _ (List.mem_map.2 ⟨p,hp,rfl⟩) _ (hM _ hm) rfl
theorem dX {α:Type}{k:Nat}{enc:α→List Value}[hc:Cells k enc]{v:Value}{xs:List α}{ob X:aj}{q:Act→World→Prop}(hO:OwnSl k enc v xs ob)(hL:L=X++ob)(hM:∀k∈M,k∈keys X)
  (h:∀H',H.le H'→RdSl H' k enc v xs→TX n q E (St M w0 H0 H' X)):TX n q E (St M w0 H0 H L):=by
 subst hL
 intro a w he hw
 have hw':=hw.perm List.perm_append_comm
 obtain⟨H',h1,h2,h3⟩:=St.pubO hO (.app X) (ogn hM hw') hw'
 exact h H' h1 h2 a w he (by simpa using h3)
end
structure Fx where
 bw:Nat
 bd:Nat
 psv:Value
 ps:List SProto
 nm:Str
 pa:Value
 self:Str
 tyv:Value
 tys:List SLocal
 role:Int
 dl:Value
structure GPr (p:SProto):Prop where
 nm:p.name=[112]∨p.name=[113]
 r2:2≤p.roles.length
 r5:p.roles.length≤5
 rs:∀r∈p.roles,r.length=1
structure FxOk (H:Hp)(F:Fx):Prop where
 ps:RdSl H 3 SProto.cells F.psv F.ps
 pk:∀p∈F.ps,ProtoOk H p
 pg:∀p∈F.ps,GPr p
 pn:0<F.ps.length
 ty:RdSl H 2 SLocal.cells F.tyv F.tys
 tk:∀l∈F.tys,LocalOk H l
 sf:PNm F.self
theorem FxOk.le {H H':Hp}{F:Fx}(h:FxOk H F)(hl:H.le H'):FxOk H' F:=⟨h.ps.le hl,fun p hp=>(h.pk p hp).le hl,h.pg,h.pn,h.ty.le hl,fun l hh=>(h.tk l hh).le hl,h.sf⟩
section
variable {P:Program}{n:Nat}{ops:Array Oper}{Q:Exit→Act→World→Prop}{E:Env}{M:List Nat}{w0:World}{H0 H:Hp}{L:aj}{C:World→Prop}{rest:List Oper}{dst:Option Nat}{op:Op}{ty:TypeId}{pos:String}{aft:Array Edge}
theorem bH {x:Operand}{a:Addr}(hx:ev E x=some (.pointer (some a))):PR P E C (.nilCheck x) (.pointer (some a)):=by
 intro n ac w o ho he hw
 unfold execOp
 rw [ho]
 simp [he.eval hx]
end
end Go.Sx
namespace Go.Sx
open Go
structure TStep where
 kind:Int
 name:Str
 peer:Str
 label:Str
 proc:Str
 term:Int
 aa:Option Addr
 an:Nat
 ac:Nat
 ca:Option Addr
 cn:Nat
 cc:Nat
 wa:Option Addr
 wn:Nat
 wc:Nat
 next:Int
def TStep.cells (s:TStep):List Value:=[.int .i64 s.kind,gs s.name,gs s.peer,gs s.label,gs s.proc,.int .i64 s.term,.slice s.aa s.an s.ac,.slice s.ca s.cn s.cc,.slice s.wa s.wn s.wc,.int .i64 s.next]
instance :Cells 10 TStep.cells:=⟨fun _=>rfl,by decide,fun _=>rfl⟩
theorem PNm.nil:PNm []:=by simp [PNm]
theorem lC:∀(k u:Nat),u<10 ^ (k+1)→(Lib.decDigits u).length≤k+1∧∀c∈Lib.decDigits u,(48:UInt8)≤c∧c≤57
 | k,u,h=>by
  by_cases h1:u<10
  ·rw [Lib.decDigits_one h1]
   refine⟨by simp,fun c hc=>?_⟩
   rw [List.mem_singleton.1 hc]
   have h2:(UInt8.ofNat (48+u)).toNat=48+u:=by rw [UInt8.toNat_ofNat'];omega
   constructor
   ·rw [UInt8.le_iff_toNat_le,h2];show 48≤48+u;omega
   ·rw [UInt8.le_iff_toNat_le,h2];show 48+u≤57;omega
  ·cases k with
   | zero=>simp at h;omega
   | succ k=>
    have h3:u / 10<10 ^ (k+1):=by rw [Nat.pow_succ] at h;omega
    obtain⟨h4,h5⟩:=lC k (u / 10) h3
    rw [Lib.decDigits,dif_neg h1]
    refine⟨by simp;omega,fun c hc=>?_⟩
    rcases List.mem_append.1 hc with hc | hc
    ·exact h5 c hc
    ·rw [List.mem_singleton.1 hc]
     have h2:(UInt8.ofNat (48+u % 10)).toNat=48+u % 10:=by rw [UInt8.toNat_ofNat'];omega
     constructor
     ·rw [UInt8.le_iff_toNat_le,h2];show 48≤48+u % 10;omega
     ·rw [UInt8.le_iff_toNat_le,h2];show 48+u % 10≤57;omega
theorem m9 {n:Int}(h0:0≤n)(h1:n≤100000000):(Lib.itoa n).length≤10∧∀c∈Lib.itoa n,(48:UInt8)≤c∧c≤57:=by
 unfold Lib.itoa
 rw [if_neg om]
 exact lC 9 n.toNat om
section
variable {P:Program}{n:Nat}{ops:Array Oper}{Q:Exit→Act→World→Prop}{E:Env}{M:List Nat}{w0:World}{H0 H:Hp}{L:aj}{C:World→Prop}{rest:List Oper}{dst:Option Nat}{op:Op}{ty:TypeId}{pos:String}{aft:Array Edge}
end
section
variable {P:Program}{n:Nat}{ops:Array Oper}{Q:Exit→Act→World→Prop}{E:Env}{C:World→Prop}
end
theorem GPr.n1 {p:SProto}(h:GPr p):p.name.length=1:=by rcases h.nm with h | h<;>rw [h]<;>rfl
theorem GPr.proc {p:SProto}(h:GPr p){r:Str}(hr:r.length≤900):PNm (p.name++r):=by
 constructor
 ·rw [List.length_append,h.n1];omega
 ·rcases h.nm with h | h<;>rw [h]<;>simp
theorem GPr.rl {p:SProto}(h:GPr p){r:Str}(hr:r∈p.roles):r.length≤900:=by rw [h.rs r hr];omega
structure TGt (T:SLocal)(t:STurn):Prop where
 peer:AnyNm t.peer
 a6:t.arms.length≤6
 a1:t.kind≠0→t.kind≠2→1≤t.arms.length
 lb:∀a∈t.arms,AnyNm a.label
 nx:∀a∈t.arms,0≤a.next∧a.next<T.turns.length
structure TG (F:Fx)(T:SLocal):Prop where
 r0:0≤F.role
 r1:F.role<F.tys.length
 g:F.tys[F.role.toNat]? =some T
 n0:0<T.turns.length
 ts:∀t∈T.turns,TGt T t
theorem le2:2≤9223372036854775807:=by decide
def KB:Nat→Nat
 | 0=>300
 | n+1=>6 * (KB n+40)+60
theorem KB_le {n:Nat}(h:n≤5):KB n≤9000000:=by
 rcases(by omega:n=0∨n=1∨n=2∨n=3∨n=4∨n=5) with rfl | rfl | rfl | rfl | rfl | rfl<;>decide
theorem cmul {k:Int}{c:Nat}(h:0≤k):(k+1).toNat * c=k.toNat * c+c:=by
 rw [show(k+1).toNat=k.toNat+1 by omega,Nat.succ_mul]
theorem cmul_le {k:Int}{c n:Nat}(h:0≤k)(h1:k<n):k.toNat * c+c≤n * c:=by
 rw [← Nat.succ_mul];exact Nat.mul_le_mul_right _ om
end Go.Sx
namespace Go.Sx
open Go
def rolesL:List Str:=[[97],[98],[99],[100],[101]]
def labelsL:List Str:=[[119],[120],[121],[122]]
theorem data_at {r:Int}(h0:0≤r)(h1:r<6):∃k:Int,(0≤k∧k≤4)∧([.int .i64 1,.int .i64 0,.int .i64 1,.int .i64 2,.int .i64 3,.int .i64 4]:List Value)[0+r.toNat * 1]? =some (.int .i64 k):=by
 rcases(by omega:r=0∨r=1∨r=2∨r=3∨r=4∨r=5) with rfl | rfl | rfl | rfl | rfl | rfl
 ·exact⟨1,by decide,rfl⟩
 ·exact⟨0,by decide,rfl⟩
 ·exact⟨1,by decide,rfl⟩
 ·exact⟨2,by decide,rfl⟩
 ·exact⟨3,by decide,rfl⟩
 ·exact⟨4,by decide,rfl⟩
def CarOk (types:List Str)(k:Int)(nm:Str):Prop:=(0≤k∧k≤4∧nm=[])∨(k=5∧nm∈types)
def TyNm (s:Str):Prop:=∃r,r∈rolesL∧s=[112,46]++r
theorem TyNm.len {s:Str}(h:TyNm s):s.length=3:=by
 obtain⟨r,hr,rfl⟩:=h
 simp only [rolesL,List.mem_cons,List.not_mem_nil,or_false] at hr
 rcases hr with rfl | rfl | rfl | rfl | rfl<;>rfl
theorem CarOk.len {types:List Str}(ht:∀s∈types,TyNm s){k:Int}{nm:Str}(h:CarOk types k nm):nm.length≤3:=by
 rcases h with ⟨_,_,rfl⟩ | ⟨_,h⟩
 ·simp
 ·rw [(ht _ h).len];omega
structure ArmsG (types:List Str)(places:Int)(l:List SArm):Prop where
 n1:1≤l.length
 n3:l.length≤3
 car:∀a∈l,CarOk types a.ck a.cn
 nx:∀a∈l,0≤a.next∧a.next<places
 lb:∃f:Nat,∀i a,l[i]? =some a→labelsL[(f+i) % 4]? =some a.label
theorem EV {f k:Int}(hf:0≤f)(hk:0≤k):∃s,labelsL[((f+k).tmod 4).toNat]? =some s∧labelsL[(f.toNat+k.toNat) % 4]? =some s:=by
 have h1:((f+k).tmod 4).toNat=(f.toNat+k.toNat) % 4:=by rw [Int.tmod_eq_emod_of_nonneg om];omega
 rw [h1]
 have h2:(f.toNat+k.toNat) % 4<4:=Nat.mod_lt _ dq
 have h3:(f.toNat+k.toNat) % 4<labelsL.length:=h2
 exact⟨_,List.getElem?_eq_getElem h3,List.getElem?_eq_getElem h3⟩
theorem tmod4 {x:Int}(h:0≤x):0≤x.tmod 4∧x.tmod 4<4:=rA h dq
structure ArmsI (types:List Str)(places:Int)(f:Nat)(l:List SArm):Prop where
 car:∀a∈l,CarOk types a.ck a.cn
 nx:∀a∈l,0≤a.next∧a.next<places
 lb:∀i a,l[i]? =some a→labelsL[(f+i) % 4]? =some a.label
theorem ArmsI.nil {types:List Str}{places:Int}{f:Nat}:ArmsI types places f []:=⟨by simp,by simp,by simp⟩
theorem ArmsI.snoc {types:List Str}{places:Int}{f:Nat}{l:List SArm}(h:ArmsI types places f l){a:SArm}{k:Int}(hk:(l.length:Int)=k)(h1:CarOk types a.ck a.cn)(h2:0≤a.next∧a.next<places)(h3:labelsL[(f+k.toNat) % 4]? =some a.label):ArmsI types places f (l++[a]):=by
 refine⟨fun x hx=>?_,fun x hx=>?_,fun i x hi=>?_⟩
 ·rcases List.mem_append.1 hx with hx | hx
  ·exact h.car x hx
  ·rw [List.mem_singleton.1 hx];exact h1
 ·rcases List.mem_append.1 hx with hx | hx
  ·exact h.nx x hx
  ·rw [List.mem_singleton.1 hx];exact h2
 ·by_cases hl:i<l.length
  ·rw [List.getElem?_append_left hl] at hi;exact h.lb i x hi
  ·rw [List.getElem?_append_right om] at hi
   have h4:i - l.length=0:=by
    have:=(List.getElem?_eq_some_iff.1 hi).1
    simp at this;omega
   rw [h4] at hi
   simp at hi;subst hi
   rwa [show i=k.toNat by omega]
theorem ArmsI.fin {types:List Str}{places:Int}{f:Nat}{l:List SArm}(h:ArmsI types places f l)(h1:1≤l.length)(h3:l.length≤3):ArmsG types places l:=⟨h1,h3,h.car,h.nx,f,h.lb⟩
theorem ArmsG.len {types:List Str}{places:Int}{l:List SArm}(ht:∀s∈types,TyNm s)(h:ArmsG types places l):∀a∈l,a.cn.length≤4294960000:=fun a ha=>Nat.le_trans ((h.car a ha).len ht) dq
structure AnyPts (types:List Str)(roles:List Str)(n:Int)(l:List SPoint):Prop where
 ft:∀x∈l,x.frm∈roles∧x.to∈roles
 ne:∀x∈l,x.frm≠x.to
 am:∀x∈l,ArmsG types n x.arms
def eB:SPoint:=⟨[],[],[],(none,0)⟩
theorem mI:rolesL.Nodup:=by decide
theorem any_ne {k r m:Int}(h0:0≤k)(h1:k<m)(h2:0≤r)(h3:r<m - 1):(0≤(k+1+r).tmod m∧(k+1+r).tmod m<m)∧((k+1+r).tmod m).toNat≠k.toNat:=by
 have h4:=rA (x:=k+1+r) (n:=m) om om
 refine⟨h4,fun e=>?_⟩
 have h5:(k+1+r).tmod m=k:=by omega
 rw [Int.tmod_eq_emod_of_nonneg om] at h5
 by_cases h6:k+1+r<m
 ·rw [Int.emod_eq_of_lt om h6] at h5;omega
 ·rw [← Int.sub_emod_right,Int.emod_eq_of_lt om om] at h5;omega
theorem Ef {n i j:Nat}{a b:Str}(h1:(rolesL.take n)[i]? =some a)(h2:(rolesL.take n)[j]? =some b)(hij:i≠j):a≠b:=by
 intro e
 subst e
 have hn:(rolesL.take n).Nodup:=(List.take_sublist n rolesL).nodup mI
 obtain⟨hi,hi'⟩:=List.getElem?_eq_some_iff.1 h1
 obtain⟨hj,hj'⟩:=List.getElem?_eq_some_iff.1 h2
 have hp:=List.pairwise_iff_getElem.1 hn
 rcases Nat.lt_or_gt_of_ne hij with h | h
 ·exact hp i j hi hj h (hi'.trans hj'.symm)
 ·exact hp j i hj hi h (hj'.trans hi'.symm)
theorem zW {n:Int}(h0:0≤n)(h1:n≤5):(rolesL.take n.toNat).length=n.toNat:=by
 rw [List.length_take];show min n.toNat 5=n.toNat;omega
theorem AnyPts.nil {types roles:List Str}{n:Int}:AnyPts types roles n []:=⟨by simp,by simp,by simp⟩
theorem AnyPts.snoc {types roles:List Str}{n:Int}{l:List SPoint}(h:AnyPts types roles n l){x:SPoint}(h1:x.frm∈roles∧x.to∈roles)(h2:x.frm≠x.to)(h3:ArmsG types n x.arms):AnyPts types roles n (l++[x]):=by
 refine⟨fun y hy=>?_,fun y hy=>?_,fun y hy=>?_⟩<;>rcases List.mem_append.1 hy with hy | hy
 ·exact h.ft y hy
 ·rw [List.mem_singleton.1 hy];exact h1
 ·exact h.ne y hy
 ·rw [List.mem_singleton.1 hy];exact h2
 ·exact h.am y hy
 ·rw [List.mem_singleton.1 hy];exact h3
theorem fj {α:Type}{p:α→Prop}{l:List α}{x:α}(h:∀y∈l,p y)(hx:p x):∀y∈l++[x],p y:=fun y hy=>by
 rcases List.mem_append.1 hy with hy | hy
 ·exact h y hy
 ·rw [List.mem_singleton.1 hy];exact hx
theorem mJ {n:Nat}{r:Str}(h:r∈rolesL.take n):r.length=1:=by
 have:=List.mem_of_mem_take h
 simp only [rolesL,List.mem_cons,List.not_mem_nil,or_false] at this
 rcases this with rfl | rfl | rfl | rfl | rfl<;>rfl
structure AnyP (types:List Str)(p:SProto):Prop where
 pts:∃l,p.points=l++[eB]∧AnyPts types p.roles (l.length+1) l∧1≤l.length∧l.length≤6
theorem jM {H:Hp}:PointOk H eB:=⟨RdSl.nil,by simp [eB]⟩
theorem RdSl.recell {α:Type}{H:Hp}{k:Nat}{enc:α→List Value}{v:Value}{l l':List α}(h:RdSl H k enc v l)(e:l.map enc=l'.map enc):RdSl H k enc v l':=by
 have hl:l'.length=l.length:=by have:=congrArg List.length e;simpa using this.symm
 refine⟨by rw [hl];exact h.len,by rw [hl];exact h.max,fun hne=>?_,fun i x hx j u hu=>?_,fun a n c hv=>by rw [hl];exact h.room a n c hv⟩
 ·rw [hl];exact h.addr (fun e0=>hne (List.length_eq_zero_iff.1 (by rw [hl,e0];rfl)))
 ·have h1:(l.map enc)[i]? =some (enc x):=by rw [e,List.getElem?_map,hx];rfl
  rw [List.getElem?_map] at h1
  cases hy:l[i]? with
  | none=>rw [hy] at h1;cases h1
  | some y=>
   rw [hy] at h1
   simp only [Option.map_some,Option.some.injEq] at h1
   exact h.get i y hy j u (by rw [h1];exact hu)
structure Q4 where
 a:Str
 b:Str
 at_:Int
 h:Hp
theorem m8 {i:Int}(h0:0≤i)(h1:i<4):∃s,labelsL[i.toNat]? =some s:=⟨_,List.getElem?_eq_getElem (by show i.toNat<4;omega)⟩
end Go.Sx
namespace Go.Sx
open Go
def d7 (x:SPoint)(r:Str):Bool:=decide (x.frm=r)||decide (x.to=r)
def iE:List Bool→List Int→List Int→List Bool×List Int
 | met,todo,[]=>(met,todo)
 | met,todo,i::r=>if 0≤i∧met[i.toNat]? =some false then iE (met.set i.toNat true) (todo++[i]) r else iE met todo r
def io:List Bool→List Int→List SArm→List Bool×List Int
 | met,todo,[]=>(met,todo)
 | met,todo,a::r=>if met[a.next.toNat]? =some false then io (met.set a.next.toNat true) (todo++[a.next]) r else io met todo r
def gl (p:SProto)(role:Str)(j:Int)(met:List Bool)(todo:List Int):List Bool×List Int:=match p.points[j.toNat]? with
 | none=>(met,todo)
 | some x=>if d7 x role=true then(met,todo) else io met todo x.arms
def fW (p:SProto)(role:Str):Nat→Nat→List Bool→List Int→List Bool×List Int
 | 0,_,met,todo=>(met,todo)
 | f+1,i,met,todo=>match todo[i]? with
  | none=>(met,todo)
  | some j=>fW p role f (i+1) (gl p role j met todo).1 (gl p role j met todo).2
def Bi (met:List Bool):List Int:=((List.range met.length).filter (fun i=>met[i]? ==some true)).map (fun i:Nat=>(i:Int))
def hZ (p:SProto)(role:Str)(frm:List Int):List Bool×List Int:=iE (List.replicate p.points.length false) [] frm
def cQ (p:SProto)(role:Str)(frm:List Int):List Int:=Bi (fW p role p.points.length 0 (hZ p role frm).1 (hZ p role frm).2).1
structure Met (n:Nat)(met:List Bool)(todo:List Int):Prop where
 len:met.length=n
 cnt:todo.length=met.count true
 rng:∀j∈todo,0≤j∧j<n
theorem Met.le {n:Nat}{met:List Bool}{todo:List Int}(h:Met n met todo):todo.length≤n:=by
 rw [h.cnt,← h.len];exact List.count_le_length
theorem Met.zero (n:Nat):Met n (List.replicate n false) []:=⟨by simp,by simp [List.count_replicate],by simp⟩
theorem CN {l:List Bool}{i:Nat}(h:l[i]? =some false):(l.set i true).count true=l.count true+1:=by
 induction l generalizing i with
 | nil=>simp at h
 | cons b l ih=>
  cases i with
  | zero=>simp at h;subst h;simp
  | succ i=>
   simp only [List.getElem?_cons_succ] at h
   have:=ih h
   simp only [List.set_cons_succ,List.count_cons,this]
   omega
theorem Met.set {n:Nat}{met:List Bool}{todo:List Int}(h:Met n met todo){j:Int}(h0:0≤j)(hj:met[j.toNat]? =some false):Met n (met.set j.toNat true) (todo++[j]):=by
 refine⟨by simp [h.len],by rw [CN hj,List.length_append,h.cnt];rfl,fun x hx=>?_⟩
 rcases List.mem_append.1 hx with hx | hx
 ·exact h.rng x hx
 ·rw [List.mem_singleton.1 hx]
  have:=(List.getElem?_eq_some_iff.1 hj).1
  rw [h.len] at this
  exact⟨h0,by omega⟩
theorem rF {met:List Bool}{todo:List Int}{l:List Int}{i:Int}{k:Nat}(hx:l[k]? =some i)(h:¬(0≤i∧met[i.toNat]? =some false)):iE met todo (l.drop k)=iE met todo (l.drop (k+1)):=by
 rw [List.drop_eq_getElem?_toList_append,hx]
 simp only [Option.toList_some,List.singleton_append,iE,if_neg h]
theorem B7 {met:List Bool}{todo:List Int}{l:List Int}{i:Int}{k:Nat}(hx:l[k]? =some i)(h:0≤i∧met[i.toNat]? =some false):iE met todo (l.drop k)=iE (met.set i.toNat true) (todo++[i]) (l.drop (k+1)):=by
 rw [List.drop_eq_getElem?_toList_append,hx]
 simp only [Option.toList_some,List.singleton_append,iE,if_pos h]
theorem Fp {met:List Bool}{todo:List Int}{l:List SArm}{a:SArm}{k:Nat}(hx:l[k]? =some a)(h:¬met[a.next.toNat]? =some false):io met todo (l.drop k)=io met todo (l.drop (k+1)):=by
 rw [List.drop_eq_getElem?_toList_append,hx]
 simp only [Option.toList_some,List.singleton_append,io,if_neg h]
theorem CV {met:List Bool}{todo:List Int}{l:List SArm}{a:SArm}{k:Nat}(hx:l[k]? =some a)(h:met[a.next.toNat]? =some false):io met todo (l.drop k)=io (met.set a.next.toNat true) (todo++[a.next]) (l.drop (k+1)):=by
 rw [List.drop_eq_getElem?_toList_append,hx]
 simp only [Option.toList_some,List.singleton_append,io,if_pos h]
theorem Am {met:List Bool}{i:Int}(h0:0≤i)(h1:i<met.length):∃b,met[i.toNat]? =some b∧(met.map Value.bool)[0+i.toNat * 1]? =some (.bool b):=by
 have h2:i.toNat<met.length:=by omega
 refine⟨met[i.toNat],List.getElem?_eq_getElem h2,?_⟩
 rw [Nat.zero_add,Nat.mul_one,List.getElem?_map,List.getElem?_eq_getElem h2];rfl
theorem uR (met:List Bool)(k:Nat)(b:Bool)(h:met[k]? =some b):(((List.range (k+1)).filter (fun i=>met[i]? ==some true)).map (fun i:Nat=>(i:Int)))=((List.range k).filter (fun i=>met[i]? ==some true)).map (fun i:Nat=>(i:Int))++(if b=true then [(k:Int)] else []):=by
 rw [List.range_succ,List.filter_append,List.map_append]
 congr 1
 cases b<;>simp [h]
def oH (p:SProto):Prop:=∀x∈p.points,∀a∈x.arms,0≤a.next∧a.next<p.points.length
theorem nU {a b:List Int}(h:¬(a.length:Int)=b.length):decide (a=b)=false:=by
 simp only [decide_eq_false_iff_not];rintro rfl;exact h rfl
theorem rK {a b:List Int}{k:Int}{x y:Int}(hx:a[k.toNat]? =some x)(hy:b[k.toNat]? =some y)(h:¬x=y):decide (a=b)=false:=by
 simp only [decide_eq_false_iff_not];rintro rfl;rw [hx] at hy;exact h (Option.some.inj hy)
theorem nV {a b:List Int}{k:Int}(hl:a.length=b.length)(k0:0≤k)(hk:¬k<a.length)(h:a.take k.toNat=b.take k.toNat):decide (a=b)=true:=by
 simp only [decide_eq_true_iff]
 rwa [List.take_of_length_le om,List.take_of_length_le om] at h
theorem reps_b (n:Nat):ic n [.bool false]=(List.replicate n false).map Value.bool:=by
 induction n with
 | zero=>rfl
 | succ n ih=>rw [List.replicate_succ,List.map_cons,← ih];rfl
theorem mset {M:List Nat}{w0 w:World}{H0 H:Hp}{b:Nat}{met:List Bool}{i:Nat}{R:aj}(h:St M w0 H0 H ((b,(met.map Value.bool).set (0+i * 1) (.bool true))::R) w):St M w0 H0 H ((b,(met.set i true).map Value.bool)::R) w:=by
 rw [List.map_set]
 simpa using h
theorem mset1 {M:List Nat}{w0 w:World}{H0 H:Hp}{b:Nat}{met:List Bool}{i:Nat}{y:Nat×List Value}{R:aj}(h:St M w0 H0 H (y::(b,(met.map Value.bool).set (0+i * 1) (.bool true))::R) w):St M w0 H0 H (y::(b,(met.set i true).map Value.bool)::R) w:=by
 rw [List.map_set]
 simpa using h
theorem St.dropT {M:List Nat}{w0 w:World}{H0 H:Hp}{A B:aj}(h:St M w0 H0 H (A++B) w):St M w0 H0 H A w:=(h.perm List.perm_append_comm).dropN
theorem rE {p:SProto}{role:Str}{f i:Nat}{met:List Bool}{todo:List Int}{j:Int}{x:SPoint}{r:List Bool×List Int}(hj:todo[i]? =some j)(hx:p.points[j.toNat]? =some x)(hr:(if d7 x role=true then(met,todo) else io met todo x.arms)=r):fW p role (f+1) i met todo=fW p role f (i+1) r.1 r.2:=by
 rw [fW,hj]
 simp only [gl,hx,hr]
theorem uZ {p:SProto}{role:Str}{f i:Nat}{met:List Bool}{todo:List Int}(h:todo.length≤i):fW p role f i met todo=(met,todo):=by
 cases f with
 | zero=>rfl
 | succ f=>rw [fW,List.getElem?_eq_none h]
def jS (met:List Bool)(k:Nat):List Int:=((List.range k).filter (fun i=>met[i]? ==some true)).map (fun i:Nat=>(i:Int))
theorem uS {met:List Bool}{k:Int}(k0:0≤k)(h:met[k.toNat]? =some true):jS met (k+1).toNat=jS met k.toNat++[k]:=by
 unfold jS
 rw [show(k+1).toNat=k.toNat+1 by omega,uR met k.toNat true h]
 simp;omega
theorem yy {met:List Bool}{k:Int}(k0:0≤k)(h:met[k.toNat]? =some false):jS met (k+1).toNat=jS met k.toNat:=by
 unfold jS
 rw [show(k+1).toNat=k.toNat+1 by omega,uR met k.toNat false h]
 simp
theorem uT (met:List Bool)(k:Nat):(jS met k).length≤k:=by
 unfold jS
 rw [List.length_map]
 exact Nat.le_trans (List.length_filter_le _ _) sq
theorem nR {n:Nat}:∀{l:List Int} {met:List Bool} {todo:List Int},Met n met todo→Met n (iE met todo l).1 (iE met todo l).2
 | [],_,_,h=>h
 | i::r,met,todo,h=>by
  unfold iE
  split
  ·rename_i hc;exact nR (h.set hc.1 hc.2)
  ·exact nR h
theorem oD {n:Nat}:∀{l:List SArm} {met:List Bool} {todo:List Int},(∀a∈l,0≤a.next)→Met n met todo→Met n (io met todo l).1 (io met todo l).2
 | [],_,_,_,h=>h
 | a::r,met,todo,hn,h=>by
  unfold io
  split
  ·rename_i hc;exact oD (fun x hx=>hn x (List.mem_cons_of_mem _ hx)) (h.set (hn a sq) hc)
  ·exact oD (fun x hx=>hn x (List.mem_cons_of_mem _ hx)) h
theorem wr {n:Nat}{p:SProto}{role:Str}(hN:oH p){j:Int}{met:List Bool}{todo:List Int}(h:Met n met todo):Met n (gl p role j met todo).1 (gl p role j met todo).2:=by
 unfold gl
 split
 ·exact h
 ·rename_i x hx
  split
  ·exact h
  ·exact oD (fun a ha=>(hN x (List.mem_of_getElem? hx) a ha).1) h
theorem uY {n:Nat}{p:SProto}{role:Str}(hN:oH p):∀{f i:Nat} {met:List Bool} {todo:List Int},Met n met todo→Met n (fW p role f i met todo).1 (fW p role f i met todo).2
 | 0,_,_,_,h=>h
 | f+1,i,met,todo,h=>by
  unfold fW
  split
  ·exact h
  ·exact uY hN (wr hN h)
theorem nQ {p:SProto}{role:Str}(hN:oH p)(frm:List Int):Met p.points.length (fW p role p.points.length 0 (hZ p role frm).1 (hZ p role frm).2).1 (fW p role p.points.length 0 (hZ p role frm).1 (hZ p role frm).2).2:=uY hN (nR (Met.zero _))
theorem nP {p:SProto}{role:Str}(hN:oH p){frm:List Int}:∀j∈cQ p role frm,0≤j∧j<p.points.length:=by
 intro j hj
 unfold cQ Bi at hj
 obtain⟨i,hi,rfl⟩:=List.mem_map.1 hj
 have h1:=List.mem_range.1 (List.mem_filter.1 hi).1
 rw [(nQ hN frm).len] at h1
 exact o2q
theorem kN {p:SProto}{role:Str}(hN:oH p){frm:List Int}:(cQ p role frm).length≤p.points.length:=by
 have:=uT (fW p role p.points.length 0 (hZ p role frm).1 (hZ p role frm).2).1 (fW p role p.points.length 0 (hZ p role frm).1 (hZ p role frm).2).1.length
 rw [(nQ hN frm).len] at this
 unfold cQ Bi
 rw [(nQ hN frm).len]
 exact this
def inP (p:SProto)(role:Str)(i:Int):Bool:=match p.points[i.toNat]? with
 | some x=>d7 x role
 | none=>false
def dS (p:SProto)(role:Str)(l:List Int):List Int:=l.filter (inP p role)
theorem EJ {p:SProto}{role:Str}{l:List Int}{i:Int}{k:Int}(k0:0≤k)(hx:l[k.toNat]? =some i)(h:inP p role i=true):dS p role (l.take (k+1).toNat)=dS p role (l.take k.toNat)++[i]:=by
 rw [bT k0 hx];unfold dS;rw [List.filter_append];simp [h]
theorem near_no {p:SProto}{role:Str}{l:List Int}{i:Int}{k:Int}(k0:0≤k)(hx:l[k.toNat]? =some i)(h:inP p role i=false):dS p role (l.take (k+1).toNat)=dS p role (l.take k.toNat):=by
 rw [bT k0 hx];unfold dS;rw [List.filter_append];simp [h]
theorem oo {p:SProto}{role:Str}(l:List Int):(dS p role l).length≤l.length:=List.length_filter_le _ _
def jg (p:SProto)(role:Str)(i:Int):Bool:=decide ((dS p role (cQ p role [i])).length=0)
structure GRow where
 l:List Int
 sp:Sp
def GRow.cells (r:GRow):List Value:=[.slice r.sp.1 r.l.length r.sp.2]
instance :Cells 1 GRow.cells:=⟨fun _=>rfl,by decide,fun _=>rfl⟩
def fO:List (List Int)→List Int→Option Nat
 | [],_=>none
 | y::r,x=>if y=x then some 0 else(fO r x).map (· +1)
theorem rh:∀{l:List (List Int)} {x:List Int} {k:Nat},l[k]? =some x→(∀j,j<k→l[j]? ≠some x)→fO l x=some k
 | [],_,_,h,_=>by simp at h
 | y::r,x,0,h,_=>by simp at h;unfold fO;rw [if_pos h]
 | y::r,x,k+1,h,hn=>by
  unfold fO
  rw [if_neg (fun e=>hn 0 om (by simp [e])),rh (k:=k) (by simpa using h) (fun j hj=>by have:=hn (j+1) om;simpa using this)]
  rfl
theorem rj:∀{l:List (List Int)} {x:List Int},(∀j,j<l.length→l[j]? ≠some x)→fO l x=none
 | [],_,_=>rfl
 | y::r,x,hn=>by
  unfold fO
  rw [if_neg (fun e=>hn 0 sq (by simp [e])),rj (fun j hj=>by have:=hn (j+1) (by simp;omega);simpa using this)]
  rfl
def bR (p:SProto)(role:Str)(sets:List (List Int))(frm:List Int):Int×Int×List (List Int):=
 if 0<(dS p role (cQ p role frm)).length∧(cQ p role frm).any (jg p role)=true then(0,801,sets)
 else match fO sets (dS p role (cQ p role frm)) with
  | some i=>(i,0,sets)
  | none=>if sets.length=40 then(0,805,sets) else(sets.length,0,sets++[dS p role (cQ p role frm)])
def WK (p:SProto)(role:Str)(sv:Value):List Value:=[gs p.name,.slice p.rp.1 p.roles.length p.rp.2,.slice p.pp.1 p.points.length p.pp.2,gs role,sv]
def GRowsOk (H:Hp)(rows:List GRow):Prop:=∀r∈rows,RdSl H 1 I64.cells (.slice r.sp.1 r.l.length r.sp.2) r.l
theorem GRowsOk.le {H H':Hp}{rows:List GRow}(h:GRowsOk H rows)(hl:H.le H'):GRowsOk H' rows:=fun r hr=>(h r hr).le hl
section
variable {p:SProto}{role:Str}{sets:List (List Int)}{frm:List Int}
theorem Cz {k:Int}{j:Int}(hx:(cQ p role frm)[k.toNat]? =some j)(hl:jg p role j=true)(hn:0<(dS p role (cQ p role frm)).length):bR p role sets frm=(0,801,sets):=by
 unfold bR
 rw [if_pos ⟨hn,List.any_eq_true.2 ⟨j,List.mem_of_getElem? hx,hl⟩⟩]
theorem Cy {k:Nat}(hno:¬(0<(dS p role (cQ p role frm)).length∧(cQ p role frm).any (jg p role)=true))(hx:sets[k]? =some (dS p role (cQ p role frm)))(hn:∀j,j<k→sets[j]? ≠some (dS p role (cQ p role frm))):bR p role sets frm=((k:Int),0,sets):=by
 unfold bR
 rw [if_neg hno,rh hx hn]
theorem vA (hno:¬(0<(dS p role (cQ p role frm)).length∧(cQ p role frm).any (jg p role)=true))(hn:∀j,j<sets.length→sets[j]? ≠some (dS p role (cQ p role frm))):bR p role sets frm=if sets.length=40 then((0:Int),(805:Int),sets) else((sets.length:Int),(0:Int),sets++[dS p role (cQ p role frm)]):=by
 unfold bR
 rw [if_neg hno,rj hn]
end
theorem no_lost {p:SProto}{role:Str}{l:List Int}{n:Nat}{k:Int}(k0:0≤k)(h:∀j:Nat,j<k.toNat→∀i,l[j]? =some i→jg p role i=false)(hk:¬k<l.length∨¬0<n):¬(0<n∧l.any (jg p role)=true):=by
 rintro⟨h1,h2⟩
 obtain⟨i,hi,hl⟩:=List.any_eq_true.1 h2
 obtain⟨j,hj⟩:=List.getElem?_of_mem hi
 have hjl:=(List.getElem?_eq_some_iff.1 hj).1
 rcases hk with hk | hk
 ·rw [h j om i hj] at hl;cases hl
 ·exact hk h1
section
variable {P:Program}{n:Nat}{ops:Array Oper}{Q:Exit→Act→World→Prop}{E:Env}{M:List Nat}{w0:World}{H0 H:Hp}{L:aj}{rest:List Oper}{dst:Option Nat}{op:Op}{ty:TypeId}{pos:String}{aft:Array Edge}
def KFn (P:Program)(b:Nat)(cs:List Value)(f:FuncId)(args:List Value)(H:Hp)(R:Value→Hp→aj→Prop):Prop:=FnX P f args H [(b,cs)] (fun v H' L'=>∃ob,L'=(b,cs)::ob∧R v H' ob)
theorem nt {f:FuncId}{args:List Value}{X Y:aj}{b:Nat}{cs:List Value}{R:Value→Hp→aj→Prop}(hL:L=X++(b,cs)::Y)(hE:cA P E op f args)(hF:KFn P b cs f args H R)(hd:cu dst n=true)
  (h:∀v H' ob,H.le H'→(∀p∈ob,w0.heap.size≤p.1)→R v H' ob→TL P n ops Q rest (cr dst v E) (St M w0 H0 H' (X++(b,cs)::(Y++ob)))):
  TL P n ops Q ({dst:=dst,op:=op,type:=ty,pos:=pos,after:=aft,guard:=none}::rest) E (St M w0 H0 H L):=by
 subst hL
 refine aM (y1 X _ Y) ?_
 intro a w he hw
 refine cE rfl (fun K hK=>?_)
 unfold Oper.wp
 rw [hE n a w _ rfl he]
 refine(hF w hw.pass1).mono ?_
 rintro e w' ⟨v,H',L1',rfl,hst,ob,rfl,hR⟩
 have hf:∀p∈ob,w0.heap.size≤p.1:=fun p hp=>by
  rcases hst.mine p (List.mem_cons_of_mem _ hp) with hm | hm
  ·have h2:=hst.nd
   simp only [List.map_cons,List.nodup_cons] at h2
   have h3:p.1=b:=by simpa [keys] using hm
   exact absurd (List.mem_map.2 ⟨p,hp,h3⟩) h2.1
  ·exact Nat.le_trans hw.size hm
 have h1:=(hw.pastX hst).perm (vt X _ Y ob)
 exact hK _ _ (h v H' ob hst.fr.1 hf hR _ _ (he.put hd) h1)
end
def ez (p:SProto)(role:Str):Nat→Int→Str→List Int→Int×Str×Int
 | _,kind,peer,[]=>(kind,peer,0)
 | i,kind,peer,j::r=>match p.points[j.toNat]? with
  | none=>(kind,peer,0)
  | some x=>if 0<i∧¬((if x.to=role then 2 else 1)=kind∧(if x.to=role then x.frm else x.to)=peer) then(0,[],802)
   else ez p role (i+1) (if x.to=role then 2 else 1) (if x.to=role then x.frm else x.to) r
def cL (p:SProto)(role:Str)(set:List Int):Int×Str×Int:=ez p role 0 0 [] set
theorem jw {p:SProto}{role:Str}{kind:Int}{peer:Str}{l:List Int}{k:Nat}{j:Int}{x:SPoint}{i:Nat}(hx:l[k]? =some j)(hp:p.points[j.toNat]? =some x)(h:0<i∧¬((if x.to=role then 2 else 1)=kind∧(if x.to=role then x.frm else x.to)=peer)):ez p role i kind peer (l.drop k)=(0,[],802):=by
 rw [List.drop_eq_getElem?_toList_append,hx]
 simp only [Option.toList_some,List.singleton_append,ez,hp,if_pos h]
theorem iy {p:SProto}{role:Str}{kind:Int}{peer:Str}{l:List Int}{k:Nat}{j:Int}{x:SPoint}{i:Nat}(hx:l[k]? =some j)(hp:p.points[j.toNat]? =some x)(h:¬(0<i∧¬((if x.to=role then 2 else 1)=kind∧(if x.to=role then x.frm else x.to)=peer))):ez p role i kind peer (l.drop k)=ez p role (i+1) (if x.to=role then 2 else 1) (if x.to=role then x.frm else x.to) (l.drop (k+1)):=by
 rw [List.drop_eq_getElem?_toList_append,hx]
 simp only [Option.toList_some,List.singleton_append,ez,hp,if_neg h]
def gO (o:List Str)(l:List SArm):List Str:=l.foldl (fun o a=>o.foldl cv [a.label]) o
def kw (p:SProto)(o:List Str)(l:List Int):List Str:=l.foldl (fun o j=>match p.points[j.toNat]? with | some x=>gO o x.arms | none=>o) o
def cY (p:SProto)(l:List Int):List Str:=kw p [] l
def mD (p:SProto)(n:Nat)(j:Int):Bool:=match p.points[j.toNat]? with
 | some x=>decide ((x.arms.length:Int)=n)
 | none=>true
def jO (p:SProto)(l:List Int):Bool:=l.all (mD p (cY p l).length)
theorem yW:∀(l:List Str) (s:Str),(cv l s).length≤l.length+1
 | [],s=>by simp [cv]
 | x::r,s=>by
  have:=yW r s
  unfold cv
  split
  ·simp;omega
  ·split<;>simp
theorem pF:∀(l o:List Str),(l.foldl cv o).length≤l.length+o.length
 | [],o=>by simp
 | x::r,o=>by
  have h1:=pF r (cv o x)
  have h2:=yW o x
  simp only [List.foldl_cons,List.length_cons]
  omega
theorem CE {o:List Str}{l:List SArm}{k:Int}{a:SArm}(k0:0≤k)(hx:l[k.toNat]? =some a):gO o (l.take (k+1).toNat)=(gO o (l.take k.toNat)).foldl cv [a.label]:=by
 rw [bT k0 hx];unfold gO;rw [List.foldl_append];rfl
theorem sD:∀(o:List Str) (l:List SArm),(gO o l).length≤o.length+l.length
 | o,[]=>by simp [gO]
 | o,a::r=>by
  have h1:=sD (o.foldl cv [a.label]) r
  have h2:=pF o [a.label]
  have e:gO o (a::r)=gO (o.foldl cv [a.label]) r:=rfl
  rw [e]
  simp only [List.length_cons,List.length_nil] at *
  omega
theorem CD {p:SProto}{o:List Str}{l:List Int}{k:Int}{j:Int}{x:SPoint}(k0:0≤k)(hx:l[k.toNat]? =some j)(hp:p.points[j.toNat]? =some x):kw p o (l.take (k+1).toNat)=gO (kw p o (l.take k.toNat)) x.arms:=by
 rw [bT k0 hx];unfold kw;rw [List.foldl_append];simp only [List.foldl_cons,List.foldl_nil,hp]
theorem zg {p:SProto}(h6:∀x∈p.points,x.arms.length≤6):∀(l:List Int) (o:List Str),(kw p o l).length≤o.length+6 * l.length
 | [],o=>by simp [kw]
 | j::r,o=>by
  have key:∀o',(kw p o' r).length≤o'.length+6 * r.length:=fun o'=>zg h6 r o'
  show(kw p (match p.points[j.toNat]? with | some x=>gO o x.arms | none=>o) r).length≤_
  cases hj:p.points[j.toNat]? with
  | none=>have:=key o;simp only [List.length_cons];omega
  | some x=>
   have h1:=key (gO o x.arms)
   have h2:=sD o x.arms
   have h3:=h6 x (List.mem_of_getElem? hj)
   simp only [List.length_cons];omega
def iU (p:SProto)(s:Str):Int→Str→List Int→List Int→Int×Str×List Int×Bool
 | ck,cn,to,[]=>(ck,cn,to,true)
 | ck,cn,to,j::r=>match p.points[j.toNat]? with
  | none=>iU p s ck cn to r
  | some x=>if cl (x.arms.map (·.label)) s<0 then iU p s ck cn to r else match x.arms[(cl (x.arms.map (·.label)) s).toNat]? with
   | none=>iU p s ck cn to r
   | some a=>if 0<to.length∧¬(a.ck=ck∧a.cn=cn) then(ck,cn,[],false) else iU p s a.ck a.cn (to++[a.next]) r
def dW (p:SProto)(l:List Int)(s:Str):Int×Str×List Int×Bool:=iU p s 0 [] [] l
section
variable {p:SProto}{s:Str}{ck:Int}{cn:Str}{to l:List Int}{k:Nat}{j:Int}{x:SPoint}
theorem CR (hx:l[k]? =some j)(hp:p.points[j.toNat]? =some x)(h:cl (x.arms.map (·.label)) s<0):iU p s ck cn to (l.drop k)=iU p s ck cn to (l.drop (k+1)):=by
 rw [List.drop_eq_getElem?_toList_append,hx]
 simp only [Option.toList_some,List.singleton_append,iU,hp,if_pos h]
theorem Ff {a:SArm}(hx:l[k]? =some j)(hp:p.points[j.toNat]? =some x)(h:¬cl (x.arms.map (·.label)) s<0)(ha:x.arms[(cl (x.arms.map (·.label)) s).toNat]? =some a)(hb:0<to.length∧¬(a.ck=ck∧a.cn=cn)):iU p s ck cn to (l.drop k)=(ck,cn,[],false):=by
 rw [List.drop_eq_getElem?_toList_append,hx]
 simp only [Option.toList_some,List.singleton_append,iU,hp,if_neg h,ha,if_pos hb]
theorem vT {a:SArm}(hx:l[k]? =some j)(hp:p.points[j.toNat]? =some x)(h:¬cl (x.arms.map (·.label)) s<0)(ha:x.arms[(cl (x.arms.map (·.label)) s).toNat]? =some a)(hb:¬(0<to.length∧¬(a.ck=ck∧a.cn=cn))):iU p s ck cn to (l.drop k)=iU p s a.ck a.cn (to++[a.next]) (l.drop (k+1)):=by
 rw [List.drop_eq_getElem?_toList_append,hx]
 simp only [Option.toList_some,List.singleton_append,iU,hp,if_neg h,ha,if_neg hb]
end
section
variable {P:Program}{n:Nat}{ops:Array Oper}{Q:Exit→Act→World→Prop}{E:Env}{M:List Nat}{w0:World}{H0 H:Hp}{L:aj}{rest:List Oper}{dst:Option Nat}{op:Op}{ty:TypeId}{pos:String}{aft:Array Edge}
theorem Bt (X A Y:aj):(X++(A++Y)).Perm (A++(X++Y)):=by
 rw [← List.append_assoc,← List.append_assoc];exact(List.perm_append_comm).append_right Y
theorem oF {f:FuncId}{args:List Value}{X A Y:aj}{Φ:Value→Hp→aj→Prop}(hL:L=X++(A++Y))(hE:cA P E op f args)(hF:FnX P f args H A Φ)(hd:cu dst n=true)
  (h:∀v H' A',H.le H'→Φ v H' A'→TL P n ops Q rest (cr dst v E) (St M w0 H0 H' (X++(A'++Y)))):
  TL P n ops Q ({dst:=dst,op:=op,type:=ty,pos:=pos,after:=aft,guard:=none}::rest) E (St M w0 H0 H L):=by
 subst hL
 refine aM (Bt X A Y) (dY hE hF hd fun v H' A' hle hΦ=>?_)
 exact aM (Bt X A' Y).symm (h v H' A' hle hΦ)
end
def turnA (p:SProto)(role:Str)(set:List Int):List Str→List (List Int)→List SArm→List SArm×Int×List (List Int)
 | [],sets,acc=>(acc,0,sets)
 | lb::r,sets,acc=>if(bR p role sets (dW p set lb).2.2.1).2.1≠0 then([],(bR p role sets (dW p set lb).2.2.1).2.1,(bR p role sets (dW p set lb).2.2.1).2.2)
  else turnA p role set r (bR p role sets (dW p set lb).2.2.1).2.2 (acc++[⟨lb,(dW p set lb).1,(dW p set lb).2.1,(bR p role sets (dW p set lb).2.2.1).1⟩])
def k8 (p:SProto)(set:List Int)(lb:Str):Bool:=(dW p set lb).2.2.2
def bD (p:SProto)(role:Str)(sets:List (List Int))(set:List Int):(Int×Str×List SArm)×Int×List (List Int):=
 if set.length=0 then((0,[],[]),0,sets)
 else if(cL p role set).2.2≠0 then((0,[],[]),(cL p role set).2.2,sets)
 else if(cL p role set).1=1∧jO p set=false then((0,[],[]),803,sets)
 else if 6<(cY p set).length then((0,[],[]),805,sets)
 else if(cY p set).all (k8 p set)=false then((0,[],[]),804,sets)
 else if(turnA p role set (cY p set) sets []).2.1≠0 then((0,[],[]),(turnA p role set (cY p set) sets []).2.1,(turnA p role set (cY p set) sets []).2.2)
 else(((cL p role set).1,(cL p role set).2.1,(turnA p role set (cY p set) sets []).1),0,(turnA p role set (cY p set) sets []).2.2)
section
variable {p:SProto}{role:Str}{set:List Int}{sets:List (List Int)}{acc:List SArm}{l:List Str}{k:Nat}{lb:Str}
theorem BZ (hx:l[k]? =some lb)(h:(bR p role sets (dW p set lb).2.2.1).2.1≠0):turnA p role set (l.drop k) sets acc=([],(bR p role sets (dW p set lb).2.2.1).2.1,(bR p role sets (dW p set lb).2.2.1).2.2):=by
 rw [List.drop_eq_getElem?_toList_append,hx]
 simp only [Option.toList_some,List.singleton_append,turnA,if_pos h]
theorem zO (hx:l[k]? =some lb)(h:¬(bR p role sets (dW p set lb).2.2.1).2.1≠0):turnA p role set (l.drop k) sets acc=turnA p role set (l.drop (k+1)) (bR p role sets (dW p set lb).2.2.1).2.2 (acc++[⟨lb,(dW p set lb).1,(dW p set lb).2.1,(bR p role sets (dW p set lb).2.2.1).1⟩]):=by
 rw [List.drop_eq_getElem?_toList_append,hx]
 simp only [Option.toList_some,List.singleton_append,turnA,if_neg h]
end
structure TQ1 where
 k:Int
 h:Hp
 sv:Value
 ob:aj
 rows:List GRow
 v:Value
 oa:aj
 arms:List SArm
theorem kD {p:SProto}{s:Str}:∀(l:List Int) (ck:Int) (cn:Str) (to:List Int),(iU p s ck cn to l).2.2.1.length≤to.length+l.length
 | [],_,_,to=>by simp [iU]
 | j::r,ck,cn,to=>by
  unfold iU
  split
  ·have:=kD (p:=p) (s:=s) r ck cn to;simp only [List.length_cons];omega
  ·split
   ·have:=kD (p:=p) (s:=s) r ck cn to;simp only [List.length_cons];omega
   ·split
    ·have:=kD (p:=p) (s:=s) r ck cn to;simp only [List.length_cons];omega
    ·rename_i a _
     split
     ·simp
     ·have:=kD (p:=p) (s:=s) r a.ck a.cn (to++[a.next]);simp only [List.length_append,List.length_cons,List.length_nil] at *;omega
theorem Fe {p:SProto}{s:Str}(l:List Int):(dW p l s).2.2.1.length≤l.length:=by
 have:=kD (p:=p) (s:=s) l 0 [] []
 simpa [dW] using this
end Go.Sx
namespace Go.Sx
open Go
theorem BD:∀{s:Str} {k:Nat},s[k]? =some 46→(∀j,j<k→s[j]? ≠some 46)→Lib.index s [46]=(k:Int)
 | [],_,h,_=>by simp at h
 | b::l,0,h,_=>by
  simp at h;subst h
  simp [Lib.index,List.isPrefixOf]
 | b::l,k+1,h,hn=>by
  have h0:b≠46:=fun e=>hn 0 om (by simp [e])
  have ih:=BD (s:=l) (k:=k) (by simpa using h) (fun j hj=>by have:=hn (j+1) om;simpa using this)
  have h1:((46:UInt8)==b)=false:=by simpa using Ne.symm h0
  have h2:((k:Int)== -1)=false:=by rw [beq_eq_false_iff_ne];omega
  simp [Lib.index,List.isPrefixOf,h1,ih,h2]
theorem zk:∀{s:Str},(∀j,j<s.length→s[j]? ≠some 46)→Lib.index s [46]= -1
 | [],_=>by simp [Lib.index]
 | b::l,hn=>by
  have h0:b≠46:=fun e=>hn 0 sq (by simp [e])
  have ih:=zk (s:=l) (fun j hj=>by have:=hn (j+1) (by simp;omega);simpa using this)
  have h1:((46:UInt8)==b)=false:=by simpa using Ne.symm h0
  simp [Lib.index,List.isPrefixOf,h1,ih]
theorem cut_hit {s:Str}{k:Nat}(h:s[k]? =some 46)(hn:∀j,j<k→s[j]? ≠some 46):lR s=(s.take k,s.drop (k+1),true):=by
 unfold lR Lib.cut
 rw [BD h hn,if_pos om]
 simp
theorem Fb {s:Str}(hn:∀j,j<s.length→s[j]? ≠some 46):lR s=(s,[],false):=by
 unfold lR Lib.cut
 rw [zk hn,if_neg om]
def kJ (s:Str):Bool:=au (lR s).1&&(!(lR s).2.2||au (lR s).2.1)
theorem lH {s:Str}{k:Int}(k0:0≤k)(h:s[k.toNat]? =some 46)(hn:∀j:Nat,j<k.toNat→s[j]? ≠some 46):kJ s=(au (s.take k.toNat)&&au (s.drop (k+1).toNat)):=by
 unfold kJ
 rw [cut_hit h hn,show(k+1).toNat=k.toNat+1 by omega];rfl
theorem j8 {s:Str}(hn:∀j:Nat,j<s.length→s[j]? ≠some 46):kJ s=au s:=by
 unfold kJ
 rw [Fb hn];simp
theorem kW {ck:Int}{cn:Str}(h:ck=5):cD ck cn=kJ cn:=by subst h;rfl
theorem fJ {ck:Int}{cn:Str}(h:¬ck=5):cD ck cn=(decide (0≤ck)&&(decide (ck<5)&&decide (cn=[]))):=by
 unfold cD
 by_cases h1:ck<0∨5<ck
 ·rw [if_pos h1]
  rcases h1 with h1 | h1
  ·rw [show decide (0≤ck)=false from decide_eq_false om];rfl
  ·rw [show decide (ck<5)=false from decide_eq_false om];simp
 ·rw [if_neg h1,if_pos h,show decide (0≤ck)=true from decide_eq_true om,show decide (ck<5)=true from decide_eq_true om];simp
def cb (roles:List Str)(n:Int)(x:SPoint):Bool:=dy x||(dH roles x&&dv x.arms n)
def iH (p:SProto):Bool:=au p.name&&(decide ((2:Int)≤p.roles.length)&&(decide ((p.roles.length:Int)≤5)&&(de p.roles&&(decide ((1:Int)≤p.points.length)&&decide ((p.points.length:Int)≤24)))))
def ci (p:SProto):Bool:=iH p&&(p.roles.all au&&p.points.all (cb p.roles p.points.length))
theorem u8_of {c:UInt8}(h:(c.toNat:Int)=46):c=46:=by
 apply UInt8.toNat_inj.1
 have:(46:UInt8).toNat=46:=rfl
 omega
section
variable {l:List SArm}{n k m:Int}{a b:SArm}
theorem Cc (k0:0≤k)(hx:l[k.toNat]? =some a)(h:fa n a=false)(hal:l.all (fa n)=(l.drop k.toNat).all (fa n)):false=dv l n:=by
 have h1:l.all (fa n)=false:=du k0 hx h hal
 unfold dv;rw [h1];simp
theorem Cb (k0:0≤k)(m0:0≤m)(hm:m<k)(hx:l[k.toNat]? =some a)(hb:l[m.toNat]? =some b)(h:b.label=a.label):false=dv l n:=by
 have h1:de (l.map (·.label))=false:=by
  unfold de
  simp only [decide_eq_false_iff_not]
  intro hn
  have h2:(l.map (·.label))[k.toNat]? =some a.label:=iR hx
  have h3:(l.map (·.label))[m.toNat]? =some b.label:=iR hb
  obtain⟨hi,hi'⟩:=List.getElem?_eq_some_iff.1 h2
  obtain⟨hj,hj'⟩:=List.getElem?_eq_some_iff.1 h3
  exact List.pairwise_iff_getElem.1 hn m.toNat k.toNat hj hi om (by rw [hi',hj',h])
 unfold dv;rw [h1];simp
theorem En (k0:0≤k)(hx:l[k.toNat]? =some a)(hnd:((l.map (·.label)).take k.toNat).Nodup)(hm:k≤m)(h:∀j:Nat,j<m.toNat→(l.map (·.label))[j]? ≠some a.label):((l.map (·.label)).take (k+1).toNat).Nodup:=by
 refine lI k0 (iR hx) hnd (fun hm2=>?_)
 obtain⟨j,hj⟩:=List.getElem?_of_mem hm2
 have hlt:=(List.getElem?_eq_some_iff.1 hj).1
 rw [List.length_take] at hlt
 rw [List.getElem?_take,if_pos om] at hj
 exact h j om hj
theorem ve (k0:0≤k)(hk:¬k<l.length)(hal:l.all (fa n)=(l.drop k.toNat).all (fa n))(hnd:((l.map (·.label)).take k.toNat).Nodup){r:Bool}(hr:r=(decide ((1:Int)≤l.length)&&decide ((l.length:Int)≤6))):r=dv l n:=by
 have h1:l.all (fa n)=true:=cU k0 hk hal
 rw [List.take_of_length_le (by rw [List.length_map];omega)] at hnd
 unfold dv de
 rw [h1,hr,decide_eq_true hnd]
 have e1:decide ((1:Int)≤l.length)=decide (1≤l.length):=decide_eq_decide.2 om
 have e2:decide ((l.length:Int)≤6)=decide (l.length≤6):=decide_eq_decide.2 om
 rw [e1,e2];simp
end
theorem rpt_1 {r:List Str}{n:Int}{x:SPoint}(h:dy x=true):cb r n x=true:=by unfold cb;rw [h];rfl
def z7 (r:List Str)(n:Int)(x:SPoint):Bool:=dH r x&&dv x.arms n
theorem rpt_2 {r:List Str}{n:Int}{x:SPoint}(h:(!z7 r n x)=false):cb r n x=true:=by unfold cb;rw [show(dH r x&&dv x.arms n)=true from EK h,Bool.or_true]
theorem rpt_3 {r:List Str}{n:Int}{x:SPoint}(h1:dy x=false)(h:(!z7 r n x)=true):cb r n x=false:=by unfold cb;rw [show(dH r x&&dv x.arms n)=false from Ak h,h1];rfl
theorem mH {p:SProto}(h:(!iH p)=true):false=ci p:=by unfold ci;rw [Ak h];rfl
theorem mG {p:SProto}(h1:p.roles.all au=false):false=ci p:=by unfold ci;rw [h1];simp
theorem mF {p:SProto}(h1:p.points.all (cb p.roles p.points.length)=false):false=ci p:=by unfold ci;rw [h1];simp
theorem mE {p:SProto}(h:iH p=true)(h1:p.roles.all au=true)(h2:p.points.all (cb p.roles p.points.length)=true):true=ci p:=by unfold ci;rw [h,h1,h2];rfl
structure RPOk (p:SProto):Prop where
 n1:1≤p.points.length
 n24:p.points.length≤24
 r5:p.roles.length≤5
 nx:oH p
 a6:∀x∈p.points,x.arms.length≤6
 rn:∀r∈p.roles,au r=true
 nm:au p.name=true
 pt:∀x∈p.points,cb p.roles p.points.length x=true
theorem RPOk.of {p:SProto}(h:ci p=true):RPOk p:=by
 unfold ci iH at h
 simp only [Bool.and_eq_true,decide_eq_true_eq] at h
 obtain⟨⟨h1,h2,h3,h4,h5,h6⟩,h7,h8⟩:=h
 have hpt:∀x∈p.points,cb p.roles p.points.length x=true:=List.all_eq_true.1 h8
 have key:∀x∈p.points,x.arms=[]∨dv x.arms p.points.length=true:=fun x hx=>by
  have:=hpt x hx
  unfold cb dy at this
  simp only [Bool.or_eq_true,Bool.and_eq_true,decide_eq_true_eq] at this
  rcases this with ⟨_,_,h⟩ | ⟨_,h⟩
  ·exact .inl (List.length_eq_zero_iff.1 om)
  ·exact .inr h
 refine⟨by omega,by omega,by omega,fun x hx a ha=>?_,fun x hx=>?_,List.all_eq_true.1 h7,h1,hpt⟩
 ·rcases key x hx with h | h
  ·rw [h] at ha;simp at ha
  ·unfold dv at h
   simp only [Bool.and_eq_true] at h
   have:=List.all_eq_true.1 h.2.1 a ha
   unfold fa at this
   simp only [Bool.and_eq_true,Bool.not_eq_true',decide_eq_false_iff_not] at this
   omega
 ·rcases key x hx with h | h
  ·rw [h];simp
  ·unfold dv at h
   simp only [Bool.and_eq_true,decide_eq_true_eq] at h
   omega
theorem no {p:SProto}{s:Str}{B:Nat}(hB:∀x∈p.points,∀a∈x.arms,a.cn.length≤B):∀(l:List Int) (ck:Int) (cn:Str) (to:List Int),cn.length≤B→(iU p s ck cn to l).2.1.length≤B
 | [],_,_,_,h=>h
 | j::r,ck,cn,to,h=>by
  unfold iU
  split
  ·exact no hB r _ _ _ h
  ·rename_i x hx
   split
   ·exact no hB r _ _ _ h
   ·split
    ·exact no hB r _ _ _ h
    ·rename_i a ha
     split
     ·exact h
     ·exact no hB r _ _ _ (hB x (List.mem_of_getElem? hx) a (List.mem_of_getElem? ha))
theorem yw {p:SProto}{role:Str}{set:List Int}{B:Nat}(hB:∀x∈p.points,∀a∈x.arms,a.cn.length≤B):∀(l:List Str) (sets:List (List Int)) (acc:List SArm),(∀a∈acc,a.cn.length≤B)→∀a∈(turnA p role set l sets acc).1,a.cn.length≤B
 | [],_,_,h=>h
 | lb::r,sets,acc,h=>by
  unfold turnA
  split
  ·simp
  ·exact yw hB r _ _ (fj h (no hB set 0 [] [] sq))
theorem DN {p:SProto}{role:Str}{sets:List (List Int)}{set:List Int}{B:Nat}(hB:∀x∈p.points,∀a∈x.arms,a.cn.length≤B):∀a∈(bD p role sets set).1.2.2,a.cn.length≤B:=by
 unfold bD
 split; · simp
 split; · simp
 split; · simp
 split; · simp
 split; · simp
 split; · simp
 exact yw hB _ _ _ sq
def kG (n:Nat)(sets:List (List Int)):Prop:=∀s∈sets,(∀j∈s,0≤j∧j<(n:Int))∧s.length≤n
theorem sy {p:SProto}{role:Str}(hN:oH p){sets:List (List Int)}{frm:List Int}(h:kG p.points.length sets):kG p.points.length (bR p role sets frm).2.2:=by
 unfold bR
 split
 ·exact h
 ·split
  ·exact h
  ·split
   ·exact h
   ·refine fj h ⟨fun j hj=>nP hN j (List.mem_filter.1 hj).1,Nat.le_trans (oo _) (kN hN)⟩
theorem rt {p:SProto}{role:Str}(hN:oH p){set:List Int}:∀(l:List Str) (sets:List (List Int)) (acc:List SArm),kG p.points.length sets→kG p.points.length (turnA p role set l sets acc).2.2
 | [],_,_,h=>h
 | lb::r,sets,acc,h=>by
  unfold turnA
  split
  ·exact sy hN h
  ·exact rt hN r _ _ (sy hN h)
theorem DM {p:SProto}{role:Str}(hN:oH p){set:List Int}{sets:List (List Int)}(h:kG p.points.length sets):kG p.points.length (bD p role sets set).2.2:=by
 unfold bD
 split; · exact h
 split; · exact h
 split; · exact h
 split; · exact h
 split; · exact h
 split; · exact rt hN _ _ _ h
 exact rt hN _ _ _ h
abbrev TT:=Int×Str×List SArm
def tt (t:STurn):TT:=(t.kind,t.peer,t.arms)
def jB (p:SProto)(role:Str):Nat→Nat→List (List Int)→List TT→Int×List TT
 | 0,_,_,acc=>(0,acc)
 | f+1,i,sets,acc=>match sets[i]? with
  | none=>(0,acc)
  | some s=>if(bD p role sets s).2.1≠0 then((bD p role sets s).2.1,[]) else jB p role f (i+1) (bD p role sets s).2.2 (acc++[(bD p role sets s).1])
def cN (p:SProto)(role:Str):Int×List TT:=
 if(ci p&&cj p.roles role)=false then(800,[])
 else if(bR p role [] [0]).2.1≠0 then((bR p role [] [0]).2.1,[])
 else jB p role 41 0 (bR p role [] [0]).2.2 []
section
variable {p:SProto}{role:Str}{f i:Nat}{sets:List (List Int)}{acc:List TT}{s:List Int}
theorem rO (hs:sets[i]? =some s)(h:(bD p role sets s).2.1≠0):jB p role (f+1) i sets acc=((bD p role sets s).2.1,[]):=by
 rw [jB,hs];simp only [if_pos h]
theorem kO (hs:sets[i]? =some s)(h:¬(bD p role sets s).2.1≠0):jB p role (f+1) i sets acc=jB p role f (i+1) (bD p role sets s).2.2 (acc++[(bD p role sets s).1]):=by
 rw [jB,hs];simp only [if_neg h]
theorem mK (h:sets.length≤i):jB p role f i sets acc=(0,acc):=by
 cases f with
 | zero=>rfl
 | succ f=>rw [jB,List.getElem?_eq_none h]
end
structure TQ2 where
 k:Int
 h:Hp
 sv:Value
 ob:aj
 rows:List GRow
 v:Value
 oa:aj
 ts:List STurn
theorem sA {p:SProto}{role:Str}{sets:List (List Int)}{frm:List Int}:sets.length≤(bR p role sets frm).2.2.length:=by
 unfold bR
 split; · simp
 split; · simp
 split<;>simp
theorem rv {p:SProto}{role:Str}{set:List Int}:∀(l:List Str) (sets:List (List Int)) (acc:List SArm),sets.length≤(turnA p role set l sets acc).2.2.length
 | [],_,_=>Nat.le_refl _
 | lb::r,sets,acc=>by
  unfold turnA
  split
  ·exact sA
  ·exact Nat.le_trans sA (rv r _ _)
theorem yv {p:SProto}{role:Str}{set:List Int}{sets:List (List Int)}:sets.length≤(bD p role sets set).2.2.length:=by
 unfold bD
 split; · simp
 split; · simp
 split; · simp
 split; · simp
 split; · simp
 split; · exact rv _ _ _
 exact rv _ _ _
theorem perm_as (X:aj){a:Nat×List Value}{A B C:aj}:(X++((a::(A++B))++C)).Perm (X++(a::(A++(B++C)))):=by
 rw [List.cons_append,List.append_assoc]
def jc (p:SProto):Nat→List Str→Int×Int
 | _,[]=>(0,0)
 | i,r::rs=>if(cN p r).1≠0 then((cN p r).1,(i:Int)) else jc p (i+1) rs
def jk (p:SProto):Int×Int:=if ci p=false then(800,0) else jc p 0 p.roles
theorem Cg {p:SProto}{l:List Str}{k i:Nat}{r:Str}(hx:l[k]? =some r)(h:(cN p r).1≠0):jc p i (l.drop k)=((cN p r).1,(i:Int)):=by
 rw [List.drop_eq_getElem?_toList_append,hx]
 simp only [Option.toList_some,List.singleton_append,jc,if_pos h]
theorem z8 {p:SProto}{l:List Str}{k i:Nat}{r:Str}(hx:l[k]? =some r)(h:¬(cN p r).1≠0):jc p i (l.drop k)=jc p (i+1) (l.drop (k+1)):=by
 rw [List.drop_eq_getElem?_toList_append,hx]
 simp only [Option.toList_some,List.singleton_append,jc,if_neg h]
structure LsOk (H:Hp)(p:SProto)(k:Int)(ls:List SLocal):Prop where
 len:(ls.length:Int)=k
 at_:∀(i:Nat) (l:SLocal),ls[i]? =some l→∃r,p.roles[i]? =some r∧l.name=(p.name++[46])++r∧LocalOk H l∧l.turns.map tt=(cN p r).2
theorem LsOk.le {H H':Hp}{p:SProto}{k:Int}{ls:List SLocal}(h:LsOk H p k ls)(hl:H.le H'):LsOk H' p k ls:=⟨h.len,fun i l hi=>by
 obtain⟨r,h1,h2,h3,h4⟩:=h.at_ i l hi
 exact⟨r,h1,h2,h3.le hl,h4⟩⟩
theorem LsOk.snoc {H:Hp}{p:SProto}{k:Int}{ls:List SLocal}{l:SLocal}{r:Str}(h:LsOk H p k ls)(hr:p.roles[k.toNat]? =some r)(h1:l.name=(p.name++[46])++r)(h2:LocalOk H l)(h3:l.turns.map tt=(cN p r).2):LsOk H p (k+1) (ls++[l]):=by
 have hl:=h.len
 refine⟨by simp;omega,fun i x hi=>?_⟩
 by_cases hlt:i<ls.length
 ·rw [List.getElem?_append_left hlt] at hi;exact h.at_ i x hi
 ·rw [List.getElem?_append_right om] at hi
  have h4:i - ls.length=0:=by
   have:=(List.getElem?_eq_some_iff.1 hi).1
   simp at this;omega
  rw [h4] at hi
  simp at hi;subst hi
  exact⟨r,by rwa [show i=k.toNat by omega],h1,h2,h3⟩
end Go.Sx
namespace Go.Sx
open Go Go.Proofs
theorem gR {H:Hp}(s:Str):
  FnS Tryz.prog 51 [gs s] H (.bool (au s)):=by
 refine FnS.enter Tryz.func51 Tryz.ntmps51 rfl rfl (fun w0=>?_)
 refine oM ?_;refine TL.run (eq rfl rfl) rfl (zm3 ?_)
 refine ai (s:=7) rfl ?_ ?_<;>intro g7
 · exact zq42
 have q7:=of_decide_eq_false g7
 refine cK ?_;refine aC rfl rfl (eq rfl rfl) rfl (db ?_)
 refine ai (s:=12) rfl ?_ ?_<;>intro g12
 ·
  have q12:=of_decide_eq_true g12
  exact zq44
 have q12:=of_decide_eq_false g12
 refine cK ?_
 have hlen:(0:Int)<s.length:=by have:=of_decide_eq_false g7;omega
 obtain⟨c0,hc0⟩:=ao (l:=s) (i:=0) om hlen
 refine aC rfl rfl (gn rfl rfl om hc0) rfl (aO rfl rfl (ab rfl rfl rfl rfl) (py c0) rfl (db ?_))
 refine ai (s:=18) rfl ?_ ?_<;>intro g18
 · exact zq50
 refine cK ?_;refine aO rfl rfl (ab rfl rfl rfl rfl) (wB s) rfl (zm1 ?_)
 refine TC.cond rfl ?_ ?_<;>intro c21
 · exact zq56
 have hn:=oq g7 g12 hc0 g18 c21
 have hl12:(s.length:Int)≤12:=by have:=of_decide_eq_false g12;omega
 refine nC ?_
 refine TC.loop (V:=fun k=>[(3,.int .i64 k)]) (K:=[(0,_),(2,_)]) (L:=fun k=>_) (I:=fun k=>1≤k∧k≤s.length∧(s.drop 1).all eW=(s.drop k.toNat).all eW) (μ:=fun k=>(s.length - k).toNat) (i:=(1:Int)) ky ⟨by omega,by omega,rfl⟩ (fun w hw=>hw) (fun k hI=>?_)
 refine f3 ?_;refine TL.run (eq rfl rfl) rfl (zm1 ?_)
 refine ag rfl ?_ ?_<;>intro c25
 ·
  refine dz ?_
  obtain⟨c,hc⟩:=ao (l:=s) (i:=k) om c25
  refine zm3 ?_;refine TL.run (gn rfl rfl om hc) rfl (ay (ab rfl rfl rfl rfl) (py c) rfl (zm3 ?_))
  refine ai (s:=33) rfl ?_ ?_<;>intro g33
  · refine fc ?_;exact aC rfl rfl (gn rfl rfl om hc) rfl (aO rfl rfl (ab rfl rfl rfl rfl) (z1 c) rfl (zq36))
  refine pQ ?_;refine pP ?_
  exact zq35
 refine gv ?_
 exact zq20
theorem rQ {H:Hp}(s:Str)(hs:s.length≤4294960000):
  FnS Tryz.prog 183 [gs s] H (.bool (kJ s)):=by
 refine FnS.enter Tryz.func183 Tryz.ntmps183 rfl rfl (fun w0=>?_)
 refine jt ?_
 refine TC.loop (V:=fun k=>[(3,.int .i64 k)]) (K:=[(0,_),(2,_)]) (L:=fun k=>_) (I:=fun k=>(0≤k∧k≤s.length)∧∀j:Nat,j<k.toNat→s[j]? ≠some 46) (μ:=fun k=>(s.length - k).toNat) (i:=(0:Int)) ky ⟨o2q,fun j h=>absurd h om⟩ (fun w hw=>hw) (fun k hI=>?_)
 obtain⟨⟨k0,k1⟩,hn⟩:=hI
 refine f3 ?_;refine TL.run (eq rfl rfl) rfl (zm1 ?_)
 refine ag rfl ?_ ?_<;>intro c7
 ·
  obtain⟨c,hc⟩:=ao (l:=s) k0 c7
  refine o7 ?_;refine TL.run (gn rfl rfl om hc) rfl (zm1 ?_)
  refine ag rfl ?_ ?_<;>intro c13
  ·
   have hcd:s[k.toNat]? =some 46:=by rw [hc];congr 1;exact u8_of c13
   refine eh ?_;refine TL.run (pr_strH rfl rfl om om) rfl (ay (ab rfl rfl rfl rfl) (gR (s.take k.toNat)) rfl (zm0 ?_))
   refine ai (s:=18) rfl ?_ ?_<;>intro g18
   ·
    refine fc ?_;refine qX ?_;refine aC rfl rfl (pr_strL rfl rfl om om) rfl (aO rfl rfl (ab rfl rfl rfl rfl) (gR (s.drop (k+1).toNat)) rfl (fq ?_));refine iM ?_
    exact ax (.inr rfl) (ad rfl (RVal.tmp rfl)) (congrArg Value.bool (by first | (rw [lH k0 hcd hn];simp_all;done) | exact(j8 (fun j hj=>hn j om)).symm))
   refine pQ ?_;refine fq ?_;refine iM ?_
   exact ax (.inr rfl) (ad rfl (RVal.tmp rfl)) (congrArg Value.bool (by first | (rw [lH k0 hcd hn];simp_all;done) | exact(j8 (fun j hj=>hn j om)).symm))
  refine gG ?_
  exact aS (k+1) ⟨o2q,fun j hj=>by by_cases e:j<k.toNat;exact hn j e;rw [show j=k.toNat by omega,hc];intro e2;exact c13 (by cases e2;rfl)⟩ ky (fun w hw=>hw) om
 refine ux ?_;refine ay (ab rfl rfl rfl rfl) (gR s) rfl (ei ?_)
 exact ax (.inr rfl) (ad rfl (RVal.tmp rfl)) (congrArg Value.bool (by first | (rw [lH k0 hcd hn];simp_all;done) | exact(j8 (fun j hj=>hn j om)).symm))
theorem nZ {H:Hp}(ck:Int)(cn:Str)(hn:cn.length≤4294960000):
  FnS Tryz.prog 148 [.agg #[.int .i64 ck,gs cn]] H (.bool (cD ck cn)):=by
 refine FnS.enter Tryz.func148 Tryz.ntmps148 rfl rfl (fun w0=>?_)
 refine zm2 ?_
 refine TL.box rfl rfl (fun b1=>?_)
 refine iW ?_;refine qm ?_
 refine ag rfl ?_ ?_<;>intro c5
 ·
  refine fL ?_;refine ay (ab rfl rfl rfl rfl) (rQ cn hn) rfl (tO ?_)
  exact ax (.inr rfl) (ad rfl (RVal.tmp rfl)) (congrArg Value.bool (by first | exact(kW c5).symm | (rw [fJ c5];simp_all;done) | (rw [fJ c5];simp_all;omega)))
 refine cV ?_;refine fL ?_;refine zm3 ?_
 refine ai (s:=12) rfl ?_ ?_<;>intro g12
 ·
  have q12:=of_decide_eq_true g12
  refine qZ ?_
  refine ai (s:=17) rfl ?_ ?_<;>intro g17
  ·
   have q17:=of_decide_eq_true g17
   refine tP ?_;refine fq ?_
   exact ax (.inr rfl) (ad rfl (RVal.tmp rfl)) (congrArg Value.bool (by first | exact(kW c5).symm | (rw [fJ c5];simp_all;done) | (rw [fJ c5];simp_all;omega)))
  have q17:=of_decide_eq_false g17
  refine yf ?_
  exact ax (.inr rfl) (ad rfl (RVal.tmp rfl)) (congrArg Value.bool (by first | exact(kW c5).symm | (rw [fJ c5];simp_all;done) | (rw [fJ c5];simp_all;omega)))
 have q12:=of_decide_eq_false g12
 refine jr ?_;refine yf ?_
 exact ax (.inr rfl) (ad rfl (RVal.tmp rfl)) (congrArg Value.bool (by first | exact(kW c5).symm | (rw [fJ c5];simp_all;done) | (rw [fJ c5];simp_all;omega)))
theorem tC {H:Hp}{l:List SArm}{v:Value}(n:Int)(hA:RdSl H 4 SArm.cells v l)(hz:∀a∈l,a.cn.length≤4294960000):
  FnS Tryz.prog 98 [v,.int .i64 n] H (.bool (dv l n)):=by
 have hmax:=hA.max
 refine FnS.enter Tryz.func98 Tryz.ntmps98 rfl rfl (fun w0=>?_)
 refine jt ?_
 refine TC.loop (V:=fun k=>[(5,.int .i64 k)]) (K:=[(0,_),(1,_),(4,_)]) (L:=fun k=>_) (I:=fun k=>(0≤k∧k≤l.length)∧l.all (fa n)=(l.drop k.toNat).all (fa n)∧((l.map (·.label)).take k.toNat).Nodup) (μ:=fun k=>(l.length - k).toNat) (i:=(0:Int)) ky ⟨o2q,rfl,List.nodup_nil⟩ (fun w hw=>hw) (fun k hI=>?_)
 obtain⟨⟨k0,k1⟩,hal,hnd⟩:=hI
 refine f3 ?_;refine TL.run (ah rfl rfl hA) rfl (zm1 ?_)
 refine ag rfl ?_ ?_<;>intro c10
 ·
  obtain⟨a,hx⟩:=ao (l:=l) k0 c10
  refine gj ?_;refine TC.seq (bO (!fa n a) 45 [(0,_),(1,_),(4,_),(5,_),(7,_),(8,_),(9,_),(10,_)] ky ?_ ?_)
  ·
   refine jZ ?_;refine TL.run (ae rfl hA rfl om om) rfl (zm6 ?_);refine TL.run (br hA hx rfl rfl) rfl (ay (ab rfl rfl rfl rfl) (gR a.label) rfl (zm3 ?_))
   refine ai (s:=20) rfl ?_ ?_<;>intro g20
   ·
    refine eg ?_;refine lo ?_;refine oL ?_;refine ny ?_
    exact aV rfl (by unfold fa;first | (simp_all;done) | (simp_all;omega)) ky
   refine fc ?_;refine aC rfl rfl (ae rfl hA rfl om om) rfl (it ?_)
   refine aC rfl rfl (rT hA hx rfl rfl) rfl (aO rfl rfl (ab rfl rfl rfl rfl) (nZ a.ck a.cn (hz a (List.mem_of_getElem? hx))) rfl (db ?_))
   refine ai (s:=29) rfl ?_ ?_<;>intro g29
   ·
    refine qV ?_;refine ny ?_
    exact aV rfl (by unfold fa;first | (simp_all;done) | (simp_all;omega)) ky
   refine fc ?_;refine aC rfl rfl (ae rfl hA rfl om om) rfl (it ?_);refine aC rfl rfl (br hA hx rfl rfl) rfl (db ?_)
   refine ai (s:=37) rfl ?_ ?_<;>intro g37
   ·
    have q37:=of_decide_eq_true g37
    refine xN ?_
    exact aV rfl (by unfold fa;first | (simp_all;done) | (simp_all;omega)) ky
   have q37:=of_decide_eq_false g37
   refine fc ?_;refine aC rfl rfl (ae rfl hA rfl om om) rfl (it ?_);refine aC rfl rfl (br hA hx rfl rfl) rfl (fc ?_);refine dN ?_
   exact aV rfl (by unfold fa;first | (simp_all;done) | (simp_all;omega)) ky
  refine TC.cond rfl ?_ ?_<;>intro c45
  ·
   refine iV ?_;refine k5 ?_
   exact ax (.inr rfl) (ad rfl (RVal.tmp rfl)) (congrArg Value.bool (Cc k0 hx (by simpa using c45) hal))
  have ha:fa n a=true:=by simpa using c45
  refine cV ?_;refine lg ?_
  refine TC.loop (V:=fun m=>[(6,.int .i64 m)]) (K:=[(0,_),(1,_),(4,_),(5,_),(7,_),(8,_),(9,_),(10,_),(45,_)]) (L:=fun m=>_) (I:=fun m=>0≤m∧m≤k∧∀j:Nat,j<m.toNat→(l.map (·.label))[j]? ≠some a.label) (μ:=fun m=>(k - m).toNat) (i:=(0:Int)) ky ⟨by omega,by omega,fun j h=>absurd h om⟩ (fun w hw=>hw) (fun m hI=>?_)
  obtain⟨m0,m1,hI2⟩:=hI
  refine f3 ?_;refine zm1 ?_
  refine ag rfl ?_ ?_<;>intro c48
  ·
   obtain⟨b,hb⟩:=ao (l:=l) m0 om
   refine Di ?_;refine TQ.run (ae rfl hA rfl om om) rfl (gE ?_);refine TQ.run (br hA hb rfl rfl) rfl (iZ ?_);refine TQ.run (ae rfl hA rfl om om) rfl (gE ?_)
   refine TQ.run (br hA hx rfl rfl) rfl (TQ.run (bW rfl rfl rfl) rfl (TQ.nil (af ?_)))
   refine ag rfl ?_ ?_<;>intro c61
   ·
    refine nE ?_;refine aI (bv (iM ?_))
    exact ax (.inr rfl) (ad rfl (RVal.tmp rfl)) (congrArg Value.bool (Cb k0 m0 c48 hx hb c61))
   refine gG ?_
   exact aS (m+1) ⟨by omega,by omega,fun j hj=>by by_cases e:j<m.toNat;exact hI2 j e;rw [show j=m.toNat by omega,iR hb];intro e2;exact c61 (by simpa using e2)⟩ ky (fun w hw=>hw) om
  refine xM ?_
  exact aS (k+1) ⟨o2q,cg (p:=fa n) k0 hx ha hal,En k0 hx hnd om hI2⟩ ky (fun w hw=>hw) om
 refine ux ?_;refine TL.run (ah rfl rfl hA) rfl (zm3 ?_)
 refine ai (s:=65) rfl ?_ ?_<;>intro g65
 ·
  have q65:=of_decide_eq_true g65
  refine cK ?_;refine aC rfl rfl (ah rfl rfl hA) rfl (cK ?_);refine fq ?_
  exact ax (.inr rfl) (ad rfl (RVal.tmp rfl)) (congrArg Value.bool (ve k0 c10 hal hnd (by first | (simp_all;done) | (simp_all;omega))))
 have q65:=of_decide_eq_false g65
 refine yf ?_
 exact ax (.inr rfl) (ad rfl (RVal.tmp rfl)) (congrArg Value.bool (ve k0 c10 hal hnd (by first | (simp_all;done) | (simp_all;omega))))
end Go.Sx
namespace Go.Sx
open Go Go.Proofs
theorem z2 {H:Hp}{l:List Str}{v:Value}(s:Str)(hL:RdSl H 1 Str.cells v l):
  FnS Tryz.prog 147 [v,gs s] H (.int .i64 (cl l s)):=by
 have hmax:=hL.max
 refine FnS.enter Tryz.func147 Tryz.ntmps147 rfl rfl (fun w0=>?_)
 refine jt ?_
 refine TC.loop (V:=fun k=>[(5,.int .i64 k)]) (K:=[(0,_),(1,_),(4,_)]) (L:=fun k=>_) (I:=fun k=>0≤k∧k≤l.length∧∀j:Nat,j<k.toNat→l[j]? ≠some s) (μ:=fun k=>(l.length - k).toNat) (i:=(0:Int)) ky ⟨by omega,by omega,fun j hj=>absurd hj sq⟩ (fun w hw=>hw) (fun k hI=>?_)
 refine qR ?_;refine zm1 ?_
 refine ag rfl ?_ ?_<;>intro c9
 ·
  obtain⟨x,hx⟩:=ao (l:=l) hI.1 c9
  refine o7 ?_;refine pc ?_;refine TL.run (aQ hL hx rfl rfl) rfl (ya ?_)
  refine ag rfl ?_ ?_<;>intro c17
  ·
   refine xZ ?_
   exact ax (.inr rfl) (ad rfl (RVal.tmp rfl)) (congrArg (Value.int .i64) (by first | exact(dI hI.1 (by rw [hx,c17]) hI.2.2).symm | exact(fC hI.2.2 c9).symm))
  refine gG ?_
  exact aS (k+1) ⟨by omega,by omega,lO hI.1 hI.2.2 hx c17⟩ ky (fun w hw=>hw) om
 refine gv ?_
 exact ax (.inr rfl) (ad rfl (RVal.tmp rfl)) (congrArg (Value.int .i64) (by first | exact(dI hI.1 (by rw [hx,c17]) hI.2.2).symm | exact(fC hI.2.2 c9).symm))
theorem mM {H:Hp}{l:List Str}{v:Value}(s:Str)(hL:RdSl H 1 Str.cells v l):
  FnS Tryz.prog 97 [v,gs s] H (.bool (cj l s)):=by
 refine FnS.enter Tryz.func97 Tryz.ntmps97 rfl rfl (fun w0=>?_)
 refine uz ?_;refine ay (ab rfl rfl rfl rfl) (z2 s hL) rfl (fq ?_)
 exact ax (.inr rfl) (ad rfl (RVal.tmp rfl)) (congrArg Value.bool (by rw [← sI]))
theorem Cd {H:Hp}{l:List Str}{v:Value}(hL:RdSl H 1 Str.cells v l):
  FnS Tryz.prog 96 [v] H (.bool (de l)):=by
 have hmax:=hL.max
 obtain⟨la,lc,rfl⟩:=hL.len
 have hroom:=hL.room _ _ _ rfl
 refine FnS.enter Tryz.func96 Tryz.ntmps96 rfl rfl (fun w0=>?_)
 refine jt ?_
 refine TC.loop (V:=fun k=>[(3,.int .i64 k)]) (K:=[(0,_),(2,_)]) (L:=fun k=>_) (I:=fun k=>0≤k∧k≤l.length∧(l.take k.toNat).Nodup) (μ:=fun k=>(l.length - k).toNat) (i:=(0:Int)) ky ⟨by omega,by omega,List.nodup_nil⟩ (fun w hw=>hw) (fun k hI=>?_)
 refine qR ?_;refine zm1 ?_
 refine ag rfl ?_ ?_<;>intro c7
 ·
  obtain⟨x,hx⟩:=ao (l:=l) hI.1 c7
  refine Di ?_;refine TQ.run (vn rfl rfl om om) rfl (iZ ?_)
  refine TQ.run (ae rfl hL rfl om om) rfl (TQ.run (aQ hL hx rfl rfl) rfl (ip (ab rfl rfl rfl rfl) (mM x (hL.sliced (i:=0) (j:=k.toNat) om om)) rfl (TQ.nil ?_)))
  refine af (TC.cond rfl (fun c17=>?_) (fun c17=>?_))
  ·
   refine o8 ?_
   exact ax (.inr rfl) (ad rfl (RVal.tmp rfl)) (congrArg Value.bool (by first | exact(mU c7 hI.1 hI.2.2).symm | exact(y5 hI.1 hx c17).symm))
  refine gG ?_
  exact aS (k+1) ⟨by omega,by omega,lI hI.1 hx hI.2.2 (has_not c17)⟩ ky (fun w hw=>hw) om
 refine gv ?_
 exact ax (.inr rfl) (ad rfl (RVal.tmp rfl)) (congrArg Value.bool (by first | exact(mU c7 hI.1 hI.2.2).symm | exact(y5 hI.1 hx c17).symm))
end Go.Sx
namespace Go.Sx
open Go Go.Proofs
theorem iI {H:Hp}(p:SProto)(hP:ProtoOk H p):
  FnS Tryz.prog 49 [.agg p.cells.toArray] H (.bool (ci p)):=by
 have hr:=hP.r
 have hpt:=hP.pt
 have hrm:=hr.max
 have hpm:=hpt.max
 refine FnS.enter Tryz.func49 Tryz.ntmps49 rfl rfl (fun w0=>?_)
 refine zm2 ?_
 refine TL.box rfl rfl (fun b1=>?_)
 refine iW ?_
 refine bO (!iH p) 39 [(1,_),(2,_)] ⟨rfl,rfl,trivial⟩ ?_ ?_
 ·
  refine ql ?_;refine ay (ab rfl rfl rfl rfl) (gR p.name) rfl (zm3 ?_)
  refine ai (s:=10) rfl ?_ ?_<;>intro g10
  ·
   refine xU ?_;refine qx ?_;refine dN ?_
   exact aV rfl (by unfold iH;by_cases h24:(24:Int)<p.points.length<;>by_cases h24b:(p.points.length:Int)≤24<;>first | (exfalso;omega) | (simp_all;done) | (simp_all;omega)) ⟨rfl,rfl,trivial⟩
  refine zm9 ?_;refine aC rfl rfl (ah rfl rfl hr) rfl (db ?_)
  refine ai (s:=16) rfl ?_ ?_<;>intro g16
  ·
   have q16:=of_decide_eq_true g16
   refine xU ?_;refine dN ?_
   exact aV rfl (by unfold iH;by_cases h24:(24:Int)<p.points.length<;>by_cases h24b:(p.points.length:Int)≤24<;>first | (exfalso;omega) | (simp_all;done) | (simp_all;omega)) ⟨rfl,rfl,trivial⟩
  have q16:=of_decide_eq_false g16
  refine zm9 ?_;refine aC rfl rfl (ah rfl rfl hr) rfl (db ?_)
  refine ai (s:=22) rfl ?_ ?_<;>intro g22
  ·
   have q22:=of_decide_eq_true g22
   refine w6 ?_;refine dN ?_
   exact aV rfl (by unfold iH;by_cases h24:(24:Int)<p.points.length<;>by_cases h24b:(p.points.length:Int)≤24<;>first | (exfalso;omega) | (simp_all;done) | (simp_all;omega)) ⟨rfl,rfl,trivial⟩
  have q22:=of_decide_eq_false g22
  refine zm9 ?_;refine aO rfl rfl (ab rfl rfl rfl rfl) (Cd hr) rfl (db ?_)
  refine ai (s:=28) rfl ?_ ?_<;>intro g28
  ·
   refine oK ?_;refine dN ?_
   exact aV rfl (by unfold iH;by_cases h24:(24:Int)<p.points.length<;>by_cases h24b:(p.points.length:Int)≤24<;>first | (exfalso;omega) | (simp_all;done) | (simp_all;omega)) ⟨rfl,rfl,trivial⟩
  refine zm9 ?_;refine aC rfl rfl (ah rfl rfl hpt) rfl (db ?_)
  refine ai (s:=34) rfl ?_ ?_<;>intro g34
  ·
   have q34:=of_decide_eq_true g34
   refine nD ?_
   exact aV rfl (by unfold iH;by_cases h24:(24:Int)<p.points.length<;>by_cases h24b:(p.points.length:Int)≤24<;>first | (exfalso;omega) | (simp_all;done) | (simp_all;omega)) ⟨rfl,rfl,trivial⟩
  have q34:=of_decide_eq_false g34
  refine zm9 ?_;refine aC rfl rfl (ah rfl rfl hpt) rfl (gH ?_)
  exact aV rfl (by unfold iH;by_cases h24:(24:Int)<p.points.length<;>by_cases h24b:(p.points.length:Int)≤24<;>first | (exfalso;omega) | (simp_all;done) | (simp_all;omega)) ⟨rfl,rfl,trivial⟩
 refine TC.cond rfl ?_ ?_<;>intro c39
 ·
  refine lF ?_
  exact ax (.inr rfl) (ad rfl (RVal.tmp rfl)) (congrArg Value.bool (by first | exact mH c39 | exact mG hr1 | exact mF hp1 | exact mE hh hr1 hp1))
 have hh:iH p=true:=by simpa using c39
 refine nC ?_
 refine TC.loop (V:=fun k=>[(3,.int .i64 k)]) (K:=[(1,_),(2,_)]) (L:=fun k=>_) (I:=fun k=>(0≤k∧k≤p.roles.length)∧p.roles.all au=(p.roles.drop k.toNat).all au) (μ:=fun k=>(p.roles.length - k).toNat) (i:=(0:Int)) ky ⟨o2q,rfl⟩ (fun w hw=>hw) (fun k hI=>?_)
 obtain⟨⟨k0,k1⟩,hal⟩:=hI
 refine qQ ?_;refine TL.run (ah rfl rfl hr) rfl (zm1 ?_)
 refine ag rfl ?_ ?_<;>intro c44
 ·
  obtain⟨y,hy⟩:=ao (l:=p.roles) k0 c44
  refine gj ?_;refine o9 ?_;refine TL.run (ae rfl hr rfl om om) rfl (TL.run (aQ hr hy rfl rfl) rfl (ay (ab rfl rfl rfl rfl) (gR y) rfl (zm1 ?_)))
  refine TC.cond rfl ?_ ?_<;>intro c53
  ·
   have hr1:=du (p:=au) k0 hy (by simpa using c53) hal
   refine o8 ?_
   exact ax (.inr rfl) (ad rfl (RVal.tmp rfl)) (congrArg Value.bool (by first | exact mH c39 | exact mG hr1 | exact mF hp1 | exact mE hh hr1 hp1))
  refine gG ?_
  exact aS (k+1) ⟨o2q,cg (p:=au) k0 hy (by simpa using c53) hal⟩ ky (fun w hw=>hw) om
 have hr1:=cU (p:=au) k0 c44 hal
 refine xL ?_
 refine TC.loop (V:=fun k=>[(4,.int .i64 k)]) (K:=[(1,_),(2,_)]) (L:=fun k=>_) (I:=fun k=>(0≤k∧k≤p.points.length)∧p.points.all (cb p.roles p.points.length)=(p.points.drop k.toNat).all (cb p.roles p.points.length)) (μ:=fun k=>(p.points.length - k).toNat) (i:=(0:Int)) ky ⟨o2q,rfl⟩ (fun w hw=>hw) (fun k hI=>?_)
 obtain⟨⟨k0,k1⟩,hal⟩:=hI
 refine qQ ?_;refine TL.run (ah rfl rfl hpt) rfl (zm1 ?_)
 refine ag rfl ?_ ?_<;>intro c58
 ·
  obtain⟨x,hx⟩:=ao (l:=p.points) k0 c58
  have hxa:=(hP.ps x (List.mem_of_getElem? hx)).a
  have hxz:=(hP.ps x (List.mem_of_getElem? hx)).z
  have hxm:=hxa.max
  refine gj ?_;refine o9 ?_;refine TL.run (ae rfl hpt rfl om om) rfl (TL.run (bg hpt hx rfl rfl) rfl (TL.alloc rfl (fun b5=>?_)))
  refine qt ?_
  refine bO (dy x) 79 [(1,_),(2,_),(4,_),(5,_),(54,_),(55,_),(56,_),(57,_),(58,_),(61,_),(62,_),(63,_),(64,_),(65,_)] ky ?_ ?_
  ·
   refine xV ?_
   refine ai (s:=69) rfl ?_ ?_<;>intro g69
   ·
    have q69:=of_decide_eq_true g69
    refine qu ?_
    refine ai (s:=74) rfl ?_ ?_<;>intro g74
    ·
     have q74:=of_decide_eq_true g74
     refine zm9 ?_;refine aC rfl rfl (ah rfl rfl hxa) rfl (gH ?_)
     exact aV rfl (by unfold dy;simp_all) ky
    have q74:=of_decide_eq_false g74
    refine nD ?_
    exact aV rfl (by unfold dy;simp_all) ky
   have q69:=of_decide_eq_false g69
   refine xR ?_
   exact aV rfl (by unfold dy;simp_all) ky
  refine TC.cond rfl ?_ ?_<;>intro c79
  ·
   refine TC.exit (bM (cG (af ?_)));refine iX ?_;refine nv ?_
   exact aS (k+1) ⟨o2q,cg (p:=(cb p.roles p.points.length)) k0 hx (by first | exact rpt_1 c79 | exact rpt_2 c109) hal⟩ ky (fun w hw=>hw.drop) om
  refine cV ?_
  refine bO (!z7 p.roles p.points.length x) 109 [(1,_),(2,_),(4,_),(5,_),(54,_),(55,_),(56,_),(57,_),(58,_),(61,_),(62,_),(63,_),(64,_),(65,_),(79,_)] ky ?_ ?_
  ·
   refine ql ?_;refine fV ?_;refine ma ?_
   refine ai (s:=85) rfl ?_ ?_<;>intro g85
   ·
    have q85:=of_decide_eq_true g85
    refine qV ?_;refine oL ?_;refine ny ?_
    exact aV rfl (by unfold z7 dH;simp_all) ky
   have q85:=of_decide_eq_false g85
   refine lu ?_;refine aO rfl rfl (ab rfl rfl rfl rfl) (mM x.frm hr) rfl (db ?_)
   refine ai (s:=93) rfl ?_ ?_<;>intro g93
   ·
    refine qV ?_;refine ny ?_
    exact aV rfl (by unfold z7 dH;simp_all) ky
   refine lu ?_;refine aO rfl rfl (ab rfl rfl rfl rfl) (mM x.to hr) rfl (db ?_)
   refine ai (s:=101) rfl ?_ ?_<;>intro g101
   ·
    refine xN ?_
    exact aV rfl (by unfold z7 dH;simp_all) ky
   refine zm9 ?_;refine fM ?_;refine aC rfl rfl (ah rfl rfl hpt) rfl (aO rfl rfl (ab rfl rfl rfl rfl) (tC p.points.length hxa hxz) rfl (gH ?_))
   exact aV rfl (by unfold z7 dH;simp_all) ky
  refine TC.cond rfl ?_ ?_<;>intro c109
  ·
   have hp1:=du (p:=(cb p.roles p.points.length)) k0 hx (rpt_3 c79 c109) hal
   refine o8 ?_
   exact ax (.inr rfl) (ad rfl (RVal.tmp rfl)) (congrArg Value.bool (by first | exact mH c39 | exact mG hr1 | exact mF hp1 | exact mE hh hr1 hp1))
  refine gG ?_
  exact aS (k+1) ⟨o2q,cg (p:=(cb p.roles p.points.length)) k0 hx (by first | exact rpt_1 c79 | exact rpt_2 c109) hal⟩ ky (fun w hw=>hw.drop) om
 have hp1:=cU (p:=(cb p.roles p.points.length)) k0 c58 hal
 refine gv ?_
 exact ax (.inr rfl) (ad rfl (RVal.tmp rfl)) (congrArg Value.bool (by first | exact mH c39 | exact mG hr1 | exact mF hp1 | exact mE hh hr1 hp1))
end Go.Sx
