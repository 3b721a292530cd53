import Derived.Test.YtjnlogbbcceaoaaGreatO4
set_option linter.all false
set_option maxRecDepth 100000
set_option maxHeartbeats 32000000
namespace Go.Sx
open Go
structure DiceOk (H:Hp)(dl:Value)(at_:Int):Prop where
 l:∃l:List Int,RdSl H 1 I64.cells dl l∧0≤at_∧at_≤l.length
theorem DiceOk.le {H H':Hp}{dl:Value}{a:Int}(h:DiceOk H dl a)(hl:H.le H'):DiceOk H' dl a:=by
 obtain⟨l,h1,h2⟩:=h.l
 exact⟨l,h1.le hl,h2⟩
def PickR (n r:Int):Prop:=0≤r∧(1≤n→r<n)∧(n<1→r=0)
theorem wI (x:Int):0≤IntKind.u64.wrap x:=by
 simp only [IntKind.wrap,IntKind.signed,IntKind.bits];simp;omega
theorem sH {x:Int}(h0:0≤x)(h1:x≤9223372036854775807):IntKind.u64.wrap x=x:=by
 simp only [IntKind.wrap,IntKind.signed,IntKind.bits];simp;omega
theorem yu {x:Int}(h0: -9223372036854775808≤x)(h1:x≤9223372036854775807):IntKind.i64.wrap x=x:=by
 simp only [IntKind.wrap,IntKind.signed,IntKind.bits];simp;omega
theorem nw {x n:Int}(h0:0≤x)(h1:1≤n):0≤x.tmod n∧x.tmod n<n:=by
 rw [Int.tmod_eq_emod_of_nonneg h0]
 exact⟨Int.emod_nonneg _ om,Int.emod_lt_of_pos _ om⟩
theorem tq (x:Int){n:Int}(h1:1≤n)(h2:n≤1000000000):0≤IntKind.i64.wrap ((IntKind.u64.wrap x).tmod (IntKind.u64.wrap n))∧IntKind.i64.wrap ((IntKind.u64.wrap x).tmod (IntKind.u64.wrap n))<n:=by
 rw [sH (x:=n) om om]
 have:=nw (n:=n) (wI x) h1
 rw [yu om om]
 exact this
section
variable {P:Program}{n:Nat}{ops:Array Oper}{Q:Exit→Act→World→Prop}{E:Env}{M:List Nat}{w0:World}{H0 H:Hp}{L:aj}{C:World→Prop}{rest:List Oper}{dst:Option Nat}{op:Op}{ty:TypeId}{pos:String}{aft:Array Edge}
def DFn (P:Program)(bd:Nat)(dl:Value)(at_:Int)(f:FuncId)(args:List Value)(H:Hp)(R:Value→Hp→aj→Prop):Prop:=
 FnX P f (.pointer (some ⟨bd,0,none⟩)::args) H [(bd,[dl,.int .i64 at_])] (fun v H' L'=>∃at' ob,L'=(bd,[dl,.int .i64 at'])::ob∧DiceOk H' dl at'∧R v H' ob)
theorem tr (X:aj)(y:Nat×List Value)(Y:aj):(X++y::Y).Perm ([y]++(X++Y)):=List.perm_middle
theorem p6 (X:aj)(y:Nat×List Value)(Y ob:aj):((y::ob)++(X++Y)).Perm (X++y::(Y++ob)):=by
 have h1:((y::ob)++(X++Y)).Perm ((y::(X++Y))++ob):=by
  rw [List.cons_append,List.cons_append]
  exact(List.perm_append_comm).cons y
 refine h1.trans ?_
 rw [List.cons_append,List.append_assoc]
 exact List.perm_middle.symm
theorem oA {f:FuncId}{args:List Value}{X Y:aj}{bd:Nat}{dl:Value}{at_:Int}{R:Value→Hp→aj→Prop}(hL:L=X++(bd,[dl,.int .i64 at_])::Y)(hE:cB P E op f (.pointer (some ⟨bd,0,none⟩)::args))(hF:DFn P bd dl at_ f args H R)(hd:bR dst n=true)
  (h:∀v H' at' ob,H.le H'→DiceOk H' dl at'→R v H' ob→TL P n ops Q rest (bN dst v E) (St M w0 H0 H' (X++(bd,[dl,.int .i64 at'])::(Y++ob)))):
  TL P n ops Q ({dst:=dst,op:=op,type:=ty,pos:=pos,after:=aft,guard:=none}::rest) E (St M w0 H0 H L):=by
 subst hL
 refine aP (tr X _ Y) (di hE hF hd fun v H' L1' hle hΦ=>?_)
 obtain⟨at',ob,rfl,hk,hR⟩:=hΦ
 exact aP (p6 X _ Y ob) (h v H' at' ob hle hk hR)
theorem az {f:FuncId}{args:List Value}{X Y:aj}{bd:Nat}{dl:Value}{at_:Int}{R:Value→Hp→Prop}(hL:L=X++(bd,[dl,.int .i64 at_])::Y)(hE:cB P E op f (.pointer (some ⟨bd,0,none⟩)::args))(hF:DFn P bd dl at_ f args H (fun v H' ob=>ob=[]∧R v H'))(hd:bR dst n=true)
  (h:∀v H' at',H.le H'→DiceOk H' dl at'→R v H'→TL P n ops Q rest (bN dst v E) (St M w0 H0 H' (X++(bd,[dl,.int .i64 at'])::Y))):
  TL P n ops Q ({dst:=dst,op:=op,type:=ty,pos:=pos,after:=aft,guard:=none}::rest) E (St M w0 H0 H L):=
 oA hL hE hF hd fun v H' at' ob h1 h2 h3=>by
  obtain⟨rfl,h3⟩:=h3
  rw [List.append_nil]
  exact h v H' at' h1 h2 h3
theorem TL.pubN {b:Nat}{cs:List Value}{l:List Oper}(hM:∀k∈M,k∈keys L)(h:∀H',H.le H'→(∀o v,cs[o]? =some v→H' b o=some v)→TL P n ops Q l E (St M w0 H0 H' L)):TL P n ops Q l E (St M w0 H0 H ((b,cs)::L)):=by
 intro a w he hw
 have hbM:b∉M:=fun hm=>by
  have h1:=hM b hm
  have h2:=hw.nd
  simp only [List.map_cons,List.nodup_cons] at h2
  exact h2.1 h1
 exact h _ hw.le_add (fun o v hv=>by simp only [Hp.add,if_true];exact hv) a w he (hw.publish hbM)
theorem bY {b:Nat}{cs:List Value}{q:Act→World→Prop}(hM:∀k∈M,k∈keys L)(h:∀H',H.le H'→(∀o v,cs[o]? =some v→H' b o=some v)→TX n q E (St M w0 H0 H' L)):TX n q E (St M w0 H0 H ((b,cs)::L)):=by
 intro a w he hw
 have hbM:b∉M:=fun hm=>by
  have h1:=hM b hm
  have h2:=hw.nd
  simp only [List.map_cons,List.nodup_cons] at h2
  exact h2.1 h1
 exact h _ hw.le_add (fun o v hv=>by simp only [Hp.add,if_true];exact hv) a w he (hw.publish hbM)
theorem ogn {w:World}{M:List Nat}{ob R:aj}(hM:∀k∈M,k∈keys R)(hw:St M w0 H0 H (ob++R) w):∀p∈ob,p.1∉M:=fun p hp hm=>by
 have h2:=hw.nd
 rw [List.map_append,List.nodup_append] at h2
 exact h2.2.2 _ (List.mem_map.2 ⟨p,hp,rfl⟩) _ (hM _ hm) rfl
theorem dh {α:Type}{k:Nat}{enc:α→List Value}[hc:Cells k enc]{v:Value}{xs:List α}{ob X:aj}{q:Act→World→Prop}(hO:OwnSl k enc v xs ob)(hL:L=X++ob)(hM:∀k∈M,k∈keys X)
  (h:∀H',H.le H'→RdSl H' k enc v xs→TX n q E (St M w0 H0 H' X)):TX n q E (St M w0 H0 H L):=by
 subst hL
 intro a w he hw
 have hw':=hw.perm List.perm_append_comm
 obtain⟨H',h1,h2,h3⟩:=St.pubO hO (.app X) (ogn hM hw') hw'
 exact h H' h1 h2 a w he (by simpa using h3)
theorem gB {α:Type}{k t m b:Nat}{enc:α→List Value}[hc:Cells k enc]{X Y:aj}{B:aj}{S:Sig}{cs:List Value}{l:List Oper}(ys:List α)(hL:L=X++(b,cs)::(Y++B))(hB:Bag H S B)(hk:kT t=k)(hm:m=ys.length)(he:cs=ys.flatMap enc)(hy:∀y∈ys,AllT H S (dX t) (enc y))
  (h:∀S' B',S.le S'→S'.N=S.N→S' b=some (t,m)→Bag H S' B'→TL P n ops Q l E (St M w0 H0 H (X++(Y++B')))):TL P n ops Q l E (St M w0 H0 H L):=by
 subst hL hm he
 intro a w hE hw
 have hp:(X++(b,ys.flatMap enc)::(Y++B)).Perm (X++(Y++(b,ys.flatMap enc)::B)):=List.Perm.append_left X List.perm_middle.symm
 have hw':=hw.perm hp
 have hnone:S b=none:=hB.none (fun p hp e=>by
  have h2:=hw'.nd
  rw [← List.append_assoc,List.map_append,List.nodup_append] at h2
  have h3:=h2.2.1
  simp only [List.map_cons,List.nodup_cons] at h3
  exact h3.1 (List.mem_map.2 ⟨p,hp,e⟩))
 have hlen:(ys.flatMap enc).length=ys.length * kT t:=by rw [hk];exact gz (fun x _=>hc.len x)
 refine h (S.put b t ys.length) ((b,ys.flatMap enc)::B) (Sig.le_put hnone) rfl Sig.put_at (hB.add hnone hlen (fun o u hu=>?_)) a w hE hw'
 obtain⟨x,h1,h2⟩:=iZ hc.pos (fun x _=>hc.len x) o u hu
 have:=(hy x (List.mem_of_getElem? h1)).at h2
 rw [hk]
 exact this
theorem SlT.blk {S:Sig}{t b m:Nat}(h:S b=some (t,m))(hm:m≤9223372036854775807):SlT S t (some ⟨b,0,none⟩) m m:=.inr ⟨b,0,m,by simp,h,by omega,by omega,hm⟩
end
structure Fx where
 bw:Nat
 bd:Nat
 psv:Value
 ps:List SProto
 nm:Str
 pa:Value
 self:Str
 tyv:Value
 tys:List SLocal
 role:Int
 dl:Value
structure WV where
 H:Hp
 S:Sig
 ta:Option Addr
 tn:Nat
 tc:Nat
 sa:Option Addr
 sn:Nat
 sc:Nat
 names:Int
 room:Int
 at_:Int
 B:aj
def Fx.c (F:Fx)(V:WV):List Value:=[.pointer (some ⟨F.bd,0,none⟩),F.psv,gs F.nm,F.pa,.slice V.ta V.tn V.tc,.slice V.sa V.sn V.sc,gs F.self,F.tyv,.int .i64 F.role,.int .i64 V.names,.int .i64 V.room]
def Fx.L (F:Fx)(V:WV):aj:=(F.bw,F.c V)::(F.bd,[F.dl,.int .i64 V.at_])::V.B
structure GPr (p:SProto):Prop where
 nm:p.name=[112]∨p.name=[113]
 r2:2≤p.roles.length
 r5:p.roles.length≤5
 rs:∀r∈p.roles,r.length=1
structure FxOk (H:Hp)(F:Fx):Prop where
 ps:RdSl H 3 SProto.cells F.psv F.ps
 pk:∀p∈F.ps,ProtoOk H p
 pg:∀p∈F.ps,GPr p
 pn:0<F.ps.length
 ty:RdSl H 2 SLocal.cells F.tyv F.tys
 tk:∀l∈F.tys,LocalOk H l
 sf:PNm F.self
theorem FxOk.le {H H':Hp}{F:Fx}(h:FxOk H F)(hl:H.le H'):FxOk H' F:=⟨h.ps.le hl,fun p hp=>(h.pk p hp).le hl,h.pg,h.pn,h.ty.le hl,fun l hh=>(h.tk l hh).le hl,h.sf⟩
structure WI (F:Fx)(V:WV)(m:Nat):Prop where
 fx:FxOk V.H F
 bag:Bag V.H V.S V.B
 t:SlT V.S 0 V.ta V.tn V.tc
 s:SlT V.S 3 V.sa V.sn V.sc
 n0:0≤V.names
 r0: -(V.sn:Int)≤V.room
 r1:V.room≤100
 d:DiceOk V.H F.dl V.at_
 me:V.tn+V.sn+V.names.toNat≤m
 nb:V.S.N≤m+10
 n10:10≤V.S.N
theorem WI.more {F:Fx}{V:WV}{m m':Nat}(h:WI F V m)(hm:m≤m'):WI F V m':={h with me:=Nat.le_trans h.me hm,nb:=Nat.le_trans h.nb (Nat.add_le_add_right hm _)}
theorem WI.dice {F:Fx}{V:WV}{m:Nat}{H':Hp}{a:Int}(h:WI F V m)(hl:V.H.le H')(hd:DiceOk H' F.dl a):WI F {V with H:=H',at_:=a} m:=⟨h.fx.le hl,h.bag.leH hl,h.t,h.s,h.n0,h.r0,h.r1,hd,h.me,h.nb,h.n10⟩
theorem WI.bagA {F:Fx}{V:WV}{m:Nat}{S':Sig}{B':aj}(h:WI F V m)(hl:V.S.le S')(hN:S'.N=V.S.N)(hB:Bag V.H S' B'):WI F {V with S:=S',B:=B'} m:=⟨h.fx,hB,h.t.le hl,h.s.le hl,h.n0,h.r0,h.r1,h.d,h.me,by rw [hN];exact h.nb,by rw [hN];exact h.n10⟩
theorem WI.bagT {F:Fx}{V:WV}{m:Nat}{S':Sig}{B':aj}(h:WI F V m)(hl:V.S.le S')(hN:S'.N=V.S.N+1)(hB:Bag V.H S' B'):WI F {V with S:=S',B:=B'} (m+1):=⟨h.fx,hB,h.t.le hl,h.s.le hl,h.n0,h.r0,h.r1,h.d,Nat.le_succ_of_le h.me,by have:=h.nb;dsimp only;omega,by have:=h.n10;dsimp only;omega⟩
def WFn (P:Program)(F:Fx)(V:WV)(f:FuncId)(args:List Value)(k:Nat)(R:Value→WV→Prop):Prop:=
 ∀m,WI F V m→m+k≤10000000→FnX P f (.pointer (some ⟨F.bw,0,none⟩)::args) V.H (F.L V) (fun v H' L'=>∃V':WV,H'=V'.H∧L'=F.L V'∧WI F V' (m+k)∧V.S.le V'.S∧V.sn≤V'.sn∧V.tn≤V'.tn∧R v V')
section
variable {P:Program}{n:Nat}{ops:Array Oper}{Q:Exit→Act→World→Prop}{E:Env}{M:List Nat}{w0:World}{H0 H:Hp}{L:aj}{C:World→Prop}{rest:List Oper}{dst:Option Nat}{op:Op}{ty:TypeId}{pos:String}{aft:Array Edge}
theorem au {F:Fx}{V:WV}{f:FuncId}{args:List Value}{k m:Nat}{R:Value→WV→Prop}(X:aj)(hL:L=X++F.L V)(hH:H=V.H)(hE:cB P E op f (.pointer (some ⟨F.bw,0,none⟩)::args))(hF:WFn P F V f args k R)(hW:WI F V m)(hm:m+k≤10000000)(hd:bR dst n=true)
  (h:∀v (V':WV),V.H.le V'.H→WI F V' (m+k)→V.S.le V'.S→V.sn≤V'.sn→V.tn≤V'.tn→R v V'→TL P n ops Q rest (bN dst v E) (St M w0 H0 V'.H (X++F.L V'))):
  TL P n ops Q ({dst:=dst,op:=op,type:=ty,pos:=pos,after:=aft,guard:=none}::rest) E (St M w0 H0 H L):=by
 subst hL hH
 refine aP List.perm_append_comm (di hE (hF m hW hm) hd fun v H' L1' hle hΦ=>?_)
 obtain⟨V',rfl,rfl,h1,h2,h3,h4,h5⟩:=hΦ
 exact aP List.perm_append_comm (h v V' hle h1 h2 h3 h4 h5)
theorem WFn.enter {F:Fx}{V:WV}{f:FuncId}{args:List Value}{k:Nat}{R:Value→WV→Prop}{fn:Func}{c:Code}
  (hf:P.funcs[f]? =some fn) (hn:fn.ntmps=n) (hb:fn.body=some c) (hl:Nat.ble (args.length+1) n=true)
  (h:∀m w0,WI F V m→m+k≤10000000→TC P n c (bodyPost P fn (qq (keys (F.L V)) w0 V.H (fun v H' L'=>∃V':WV,H'=V'.H∧L'=F.L V'∧WI F V' (m+k)∧V.S.le V'.S∧V.sn≤V'.sn∧V.tn≤V'.tn∧R v V'))) (hY 0 (.pointer (some ⟨F.bw,0,none⟩)::args)) (St (keys (F.L V)) w0 V.H V.H (F.L V))):WFn P F V f args k R:=
 fun m hW hm=>FnX.enter hf hn hb (by simpa using hl) (fun w0=>h m w0 hW hm)
theorem ba {F:Fx}{V V':WV}{fn:Func}{K:List Nat}{k m:Nat}{R:Value→WV→Prop}{v:Value}{X:aj}{e:Exit}(he:e= .normal∨e= .ret)(hr:∀a w,EOk n E a→St K w0 H0 H L w→(results fn a.tmps).run P w= .ok v w)
  (hL:L=X++F.L V') (hH:H=V'.H) (hW:WI F V' (m+k)) (hS:V.S.le V'.S) (hs:V.sn≤V'.sn) (ht:V.tn≤V'.tn) (hR:R v V'):
  TX n (bodyPost P fn (qq K w0 H0 (fun v H' L'=>∃V':WV,H'=V'.H∧L'=F.L V'∧WI F V' (m+k)∧V.S.le V'.S∧V.sn≤V'.sn∧V.tn≤V'.tn∧R v V')) e) E (St K w0 H0 H L):=by
 subst hH
 exact aO he hr (fun w hw=>by subst hL;exact hw.dropN) ⟨V',rfl,rfl,hW,hS,hs,ht,hR⟩
theorem bC {x:Operand}{a:Addr}(hx:ev E x=some (.pointer (some a))):PR P E C (.nilCheck x) (.pointer (some a)):=by
 intro n ac w o ho he hw
 unfold execOp
 rw [ho]
 simp [he.eval hx]
theorem cP {t e k tb:Nat}{x y:Operand}{b j len cap:Nat}{a:Option Addr}{kd:IntKind}{i:Int}(hx:ev E x=some (.slice a len cap))(hy:ev E y=some (.int kd i))(ha:a=some ⟨b,j * kT tb,none⟩)[hel:El P t e k](h0:0≤i)(h1:i<len):
  PR P E C (.indexAddr t x y) (.pointer (some ⟨b,j * kT tb+i.toNat * k,none⟩)):=by
 subst ha
 exact fe hx hy h0 h1
end
end Go.Sx
namespace Go.Sx
open Go
structure TStep where
 kind:Int
 name:Str
 peer:Str
 label:Str
 proc:Str
 term:Int
 aa:Option Addr
 an:Nat
 ac:Nat
 ca:Option Addr
 cn:Nat
 cc:Nat
 wa:Option Addr
 wn:Nat
 wc:Nat
 next:Int
def TStep.cells (s:TStep):List Value:=[.int .i64 s.kind,gs s.name,gs s.peer,gs s.label,gs s.proc,.int .i64 s.term,.slice s.aa s.an s.ac,.slice s.ca s.cn s.cc,.slice s.wa s.wn s.wc,.int .i64 s.next]
instance :Cells 10 TStep.cells:=⟨fun _=>rfl,by decide,fun _=>rfl⟩
structure TStep.Ok (S:Sig)(s:TStep):Prop where
 name:VarNm s.name
 peer:AnyNm s.peer
 label:AnyNm s.label
 proc:PNm s.proc
 a:SlT S 4 s.aa s.an s.ac
 c:SlT S 2 s.ca s.cn s.cc
 w:SlT S 1 s.wa s.wn s.wc
 an:s.an≤S.N
 cn:s.cn≤S.N
 wn:s.wn≤S.N
theorem TStep.Ok.all {H:Hp}{S:Sig}{s:TStep}(h:s.Ok S):AllT H S (dX 3) s.cells:=
 ⟨⟨_,rfl⟩,⟨_,rfl,h.name⟩,⟨_,rfl,h.peer⟩,⟨_,rfl,h.label⟩,⟨_,rfl,h.proc⟩,⟨_,rfl⟩,⟨_,_,_,rfl,h.a,h.an⟩,⟨_,_,_,rfl,h.c,h.cn⟩,⟨_,_,_,rfl,h.w,h.wn⟩,⟨_,rfl⟩,trivial⟩
structure TCast where
 role:Str
 proc:Str
 aa:Option Addr
 an:Nat
 ac:Nat
def TCast.cells (s:TCast):List Value:=[gs s.role,gs s.proc,.slice s.aa s.an s.ac]
instance :Cells 3 TCast.cells:=⟨fun _=>rfl,by decide,fun _=>rfl⟩
theorem TCast.all {H:Hp}{S:Sig}{s:TCast}(h1:AnyNm s.role)(h2:PNm s.proc)(h3:SlT S 4 s.aa s.an s.ac)(h4:s.an≤S.N):AllT H S (dX 2) s.cells:=⟨⟨_,rfl,h1⟩,⟨_,rfl,h2⟩,⟨_,_,_,rfl,h3,h4⟩,trivial⟩
theorem SWay.all {H:Hp}{S:Sig}{s:SWay}(h1:AnyNm s.label)(h2:VarNm s.name):AllT H S (dX 1) s.cells:=⟨⟨_,rfl,h1⟩,⟨_,rfl,h2⟩,⟨_,rfl⟩,trivial⟩
theorem yH {H:Hp}{S:Sig}{s:Term}(h1:VarNm s.name)(h2:AnyNm s.text):AllT H S (dX 0) s.cells:=⟨⟨_,rfl⟩,⟨_,rfl,h1⟩,⟨_,rfl⟩,⟨_,rfl,h2⟩,⟨_,rfl⟩,⟨_,rfl⟩,trivial⟩
theorem VarNm.nil:VarNm []:=.inl rfl
theorem VarNm.len {s:Str}(h:VarNm s):s.length≤11:=by
 rcases h with rfl | rfl | rfl | rfl | ⟨ds,rfl,h,_⟩<;>simp<;>omega
theorem AnyNm.nil:AnyNm []:=by simp [AnyNm]
theorem PNm.nil:PNm []:=by simp [PNm]
theorem zt0 {H:Hp}{S:Sig}:AllT H S (dX 0) [.int .i64 0,gs [],.int .i64 0,gs [],.int .i64 0,.int .i64 0]:=⟨⟨_,rfl⟩,⟨_,rfl,.nil⟩,⟨_,rfl⟩,⟨_,rfl,.nil⟩,⟨_,rfl⟩,⟨_,rfl⟩,trivial⟩
theorem zt1 {H:Hp}{S:Sig}:AllT H S (dX 1) [gs [],gs [],.int .i64 0]:=⟨⟨_,rfl,.nil⟩,⟨_,rfl,.nil⟩,⟨_,rfl⟩,trivial⟩
theorem zt2 {H:Hp}{S:Sig}:AllT H S (dX 2) [gs [],gs [],.slice none 0 0]:=⟨⟨_,rfl,.nil⟩,⟨_,rfl,.nil⟩,⟨_,_,_,rfl,.nil,Nat.zero_le _⟩,trivial⟩
theorem zt3 {H:Hp}{S:Sig}:AllT H S (dX 3) [.int .i64 0,gs [],gs [],gs [],gs [],.int .i64 0,.slice none 0 0,.slice none 0 0,.slice none 0 0,.int .i64 0]:=
 ⟨⟨_,rfl⟩,⟨_,rfl,.nil⟩,⟨_,rfl,.nil⟩,⟨_,rfl,.nil⟩,⟨_,rfl,.nil⟩,⟨_,rfl⟩,⟨_,_,_,rfl,.nil,Nat.zero_le _⟩,⟨_,_,_,rfl,.nil,Nat.zero_le _⟩,⟨_,_,_,rfl,.nil,Nat.zero_le _⟩,⟨_,rfl⟩,trivial⟩
theorem jp:∀(k u:Nat),u<10 ^ (k+1)→(Lib.decDigits u).length≤k+1∧∀c∈Lib.decDigits u,(48:UInt8)≤c∧c≤57
 | k,u,h=>by
  by_cases h1:u<10
  ·rw [Lib.decDigits_one h1]
   refine⟨by simp,fun c hc=>?_⟩
   rw [List.mem_singleton.1 hc]
   have h2:(UInt8.ofNat (48+u)).toNat=48+u:=by rw [UInt8.toNat_ofNat'];omega
   constructor
   ·rw [UInt8.le_iff_toNat_le,h2];show 48≤48+u;omega
   ·rw [UInt8.le_iff_toNat_le,h2];show 48+u≤57;omega
  ·cases k with
   | zero=>simp at h;omega
   | succ k=>
    have h3:u / 10<10 ^ (k+1):=by rw [Nat.pow_succ] at h;omega
    obtain⟨h4,h5⟩:=jp k (u / 10) h3
    rw [Lib.decDigits,dif_neg h1]
    refine⟨by simp;omega,fun c hc=>?_⟩
    rcases List.mem_append.1 hc with hc | hc
    ·exact h5 c hc
    ·rw [List.mem_singleton.1 hc]
     have h2:(UInt8.ofNat (48+u % 10)).toNat=48+u % 10:=by rw [UInt8.toNat_ofNat'];omega
     constructor
     ·rw [UInt8.le_iff_toNat_le,h2];show 48≤48+u % 10;omega
     ·rw [UInt8.le_iff_toNat_le,h2];show 48+u % 10≤57;omega
theorem kE {n:Int}(h0:0≤n)(h1:n≤100000000):(Lib.itoa n).length≤10∧∀c∈Lib.itoa n,(48:UInt8)≤c∧c≤57:=by
 unfold Lib.itoa
 rw [if_neg om]
 exact jp 9 n.toNat om
theorem vname {n:Int}(h0:0≤n)(h1:n≤100000000):VarNm ([118]++Lib.itoa n):=.inr (.inr (.inr (.inr ⟨Lib.itoa n,rfl,kE h0 h1⟩)))
theorem tname {n:Int}(h0:0≤n)(h1:n≤100000000):AnyNm ([116]++Lib.itoa n):=by
 have:=(kE h0 h1).1
 simp [AnyNm];omega
theorem zG {t k j i f n m:Nat}(hk:kT t=k)(hj:j+n≤m)(hi:i<n)(hf:f<k):j * kT t+i * k+f<m * kT t∧(j * kT t+i * k+f) % kT t=f:=by
 subst hk
 exact⟨bag_lt hj hi hf,bag_mod hf⟩
def Cell (B:aj)(b o:Nat)(u:Value):Prop:=∃cs,(b,cs)∈B∧cs[o]? =some u
theorem Bag.get {H:Hp}{S:Sig}{B:aj}{t m b j i f n k:Nat}{ct:CT}(hB:Bag H S B)(hS:S b=some (t,m))(hk:kT t=k)(hj:j+n≤m)(hi:i<n)(hct:(dX t)[f]? =some ct):∃u,CTy H S ct u∧Cell B b (j * kT t+i * k+f) u:=by
 have hf:f<k:=by rw [← hk];exact(List.getElem?_eq_some_iff.1 hct).1
 obtain⟨h1,h2⟩:=zG hk hj hi hf
 obtain⟨cs,R2,hp3,hcl,hty⟩:=hB.take hS
 have hlt:j * kT t+i * k+f<cs.length:=by rw [hcl];exact h1
 obtain⟨ct',h3,h4⟩:=hty _ _ (List.getElem?_eq_getElem hlt)
 rw [h2,hct] at h3
 cases h3
 exact⟨_,h4,cs,hp3.mem_iff.2 sq,List.getElem?_eq_getElem hlt⟩
section
variable {P:Program}{n:Nat}{ops:Array Oper}{Q:Exit→Act→World→Prop}{E:Env}{M:List Nat}{w0:World}{H0 H:Hp}{L:aj}{C:World→Prop}{rest:List Oper}{dst:Option Nat}{op:Op}{ty:TypeId}{pos:String}{aft:Array Edge}
theorem Cell.inl {B:aj}{F:aj→aj}{b o:Nat}{u:Value}(hC:Cell B b o u)(hU:Tl B L F):∃cs,InL b cs L∧cs[o]? =some u:=by
 obtain⟨cs,h1,h2⟩:=hC
 obtain⟨R,hp1,_⟩:=hU.perm
 have h3:(b,cs)∈L:=hp1.mem_iff.2 (List.mem_append_left _ h1)
 refine⟨cs,?_,h2⟩
 clear hp1 hU h1 h2
 induction L with
 | nil=>simp at h3
 | cons x L ih=>
  rcases List.mem_cons.1 h3 with rfl | h3
  ·exact .here _
  ·exact .there _ (ih h3)
theorem jC {t k1 b o:Nat}{x:Operand}{u:Value}{B:aj}{F:aj→aj}(hx:ev E x=some (.pointer (some ⟨b,o,none⟩)))(hC:Cell B b o u)(hU:Tl B L F)[ht:Ty P t false k1](hk:k1=1:=by rfl):PR P E (St M w0 H0 H L) (.load t x) u:=by
 obtain⟨cs,h1,h2⟩:=hC.inl hU
 exact ay hx h1 h2
theorem iK {t m b j i f n' k k1:Nat}{x y:Operand}{u:Value}{ct:CT}{S:Sig}{B:aj}{F:aj→aj}{tt:TypeId}(hx:ev E x=some (.pointer (some ⟨b,j * kT t+i * k+f,none⟩)))(hy:ev E y=some u)(hB:Bag H S B)(hU:Tl B L F)(hS:S b=some (t,m))(hkk:kT t=k)(hj:j+n'≤m)(hi:i<n')(hct:(dX t)[f]? =some ct)
  (hu:CTy H S ct u) [ht:Ty P tt false k1] [h1:One u] (hk:k1=1) (hd:bR dst n=true) (h:∀B',Bag H S B'→TL P n ops Q rest (bN dst undef E) (St M w0 H0 H (F B'))):
  TL P n ops Q ({dst:=dst,op:=.store tt x y,type:=ty,pos:=pos,after:=aft,guard:=none}::rest) E (St M w0 H0 H L):=by
 have hf:f<k:=by rw [← hkk];exact(List.getElem?_eq_some_iff.1 hct).1
 obtain⟨h2,h3⟩:=zG hkk hj hi hf
 exact TL.stT hx hy hB hU hS h2 (by rw [h3];exact hct) hu hk hd h
end
theorem WI.bagB {F:Fx}{V:WV}{m:Nat}{B':aj}(h:WI F V m)(hB:Bag V.H V.S B'):WI F {V with B:=B'} m:=⟨h.fx,hB,h.t,h.s,h.n0,h.r0,h.r1,h.d,h.me,h.nb,h.n10⟩
structure Rw where
 a:Option Addr
 n:Nat
 c:Nat
section
variable {P:Program}{n:Nat}{ops:Array Oper}{Q:Exit→Act→World→Prop}{E:Env}{C:World→Prop}
theorem oE {ι ρ:Type}{c:Code}(V:ι→WV→ρ→Env)(K:Env)(L:ι→WV→ρ→World→Prop)(I:ι→WV→ρ→Prop)(μ:ι→Nat)(i:ι)(v:WV)(r:ρ)(h0:Sub (V i v r++K) E)(hi:I i v r)(hC:∀w,C w→L i v r w)
  (round:∀i v r,I i v r→TC P n c (Exit.then (fun a w=>∃j v' r',I j v' r'∧EOk n (V j v' r'++K) a∧L j v' r' w∧μ j<μ i) Q) (V i v r++K) (L i v r)):TC P n (.loop c) Q E C:=
 TC.loop (ι:=ι×WV×ρ) (V:=fun i=>V i.1 i.2.1 i.2.2) (K:=K) (L:=fun i=>L i.1 i.2.1 i.2.2) (I:=fun i=>I i.1 i.2.1 i.2.2) (μ:=fun i=>μ i.1) (i:=(i,v,r)) h0 hi hC
  (fun i hI a w he hw=>Code.wp_mono (fun e a' w' hq=>by
   cases e with
   | normal=>obtain⟨j,v',r',h1,h2,h3,h4⟩:=hq;exact⟨(j,v',r'),h1,h2,h3,h4⟩
   | exit id=>exact hq
   | goto l=>exact hq
   | ret=>exact hq
   | panic ch=>exact hq
   | outgrown=>exact hq) (round i.1 i.2.1 i.2.2 hI a w he hw))
theorem fH {ι ρ:Type}{V:ι→WV→ρ→Env}{L:ι→WV→ρ→World→Prop}{I:ι→WV→ρ→Prop}{μ:ι→Nat}{i:ι}{E0:Env}(j:ι)(v':WV)(r':ρ)(hI:I j v' r')(hs:Sub (V j v' r'++E0) E)(hC:∀w,C w→L j v' r' w)(hm:μ j<μ i):
  TX n (Exit.then (fun a w=>∃j v' r',I j v' r'∧EOk n (V j v' r'++E0) a∧L j v' r' w∧μ j<μ i) Q .normal) E C:=fun a w he hw=>⟨j,v',r',hI,he.sub hs,hC w hw,hm⟩
end
theorem GPr.n1 {p:SProto}(h:GPr p):p.name.length=1:=by rcases h.nm with h | h<;>rw [h]<;>rfl
theorem GPr.proc {p:SProto}(h:GPr p){r:Str}(hr:r.length≤900):PNm (p.name++r):=by
 constructor
 ·rw [List.length_append,h.n1];omega
 ·rcases h.nm with h | h<;>rw [h]<;>simp
theorem GPr.rl {p:SProto}(h:GPr p){r:Str}(hr:r∈p.roles):r.length≤900:=by rw [h.rs r hr];omega
structure TGt (T:SLocal)(t:STurn):Prop where
 peer:AnyNm t.peer
 a6:t.arms.length≤6
 a1:t.kind≠0→t.kind≠2→1≤t.arms.length
 lb:∀a∈t.arms,AnyNm a.label
 nx:∀a∈t.arms,0≤a.next∧a.next<T.turns.length
structure TG (F:Fx)(T:SLocal):Prop where
 r0:0≤F.role
 r1:F.role<F.tys.length
 g:F.tys[F.role.toNat]? =some T
 n0:0<T.turns.length
 ts:∀t∈T.turns,TGt T t
theorem le2:2≤9223372036854775807:=by decide
def KB:Nat→Nat
 | 0=>300
 | n+1=>6 * (KB n+40)+60
theorem uo {n:Nat}(h:n≤5):KB n≤9000000:=by
 rcases(by omega:n=0∨n=1∨n=2∨n=3∨n=4∨n=5) with rfl | rfl | rfl | rfl | rfl | rfl<;>decide
theorem cmul {k:Int}{c:Nat}(h:0≤k):(k+1).toNat * c=k.toNat * c+c:=by
 rw [show(k+1).toNat=k.toNat+1 by omega,Nat.succ_mul]
theorem cmul_le {k:Int}{c n:Nat}(h:0≤k)(h1:k<n):k.toNat * c+c≤n * c:=by
 rw [← Nat.succ_mul];exact Nat.mul_le_mul_right _ om
structure GProc where
 name:Str
 params:List SParam
 pp:Sp
 ta:Option Addr
 tn:Nat
 tc:Nat
 sa:Option Addr
 sn:Nat
 sc:Nat
def GProc.cells (q:GProc):List Value:=[gs q.name,.slice q.pp.1 q.params.length q.pp.2,.slice q.ta q.tn q.tc,.slice q.sa q.sn q.sc]
instance :Cells 4 GProc.cells:=⟨fun _=>rfl,by decide,fun _=>rfl⟩
structure GPOk (H:Hp)(S:Sig)(q:GProc):Prop where
 nm:PNm q.name
 pa:RdSl H 3 SParam.cells (.slice q.pp.1 q.params.length q.pp.2) q.params
 pv:∀x∈q.params,VarNm x.name∧x.cn.length≤1000
 pl:q.params.length≤2
 t:SlT S 0 q.ta q.tn q.tc
 s:SlT S 3 q.sa q.sn q.sc
 s0:0<q.sn
 tl:q.tn≤10000000
 sl:q.sn≤10000000
theorem GPOk.le {H H':Hp}{S S':Sig}{q:GProc}(h:GPOk H S q)(hl:H.le H')(hs:S.le S'):GPOk H' S' q:=⟨h.nm,h.pa.le hl,h.pv,h.pl,h.t.le hs,h.s.le hs,h.s0,h.tl,h.sl⟩
end Go.Sx
namespace Go.Sx
open Go Go.Proofs
theorem aV {H:Hp}{bd:Nat}{dl:Value}{at_:Int}(n:Int)(hn:n≤1000000000)(hd:DiceOk H dl at_):
  DFn Tryz.prog bd dl at_ 65 [.int .i64 n] H (fun v H1 ob=>ob=[]∧(H1=H∧∃r,v= .int .i64 r∧PickR n r)):=by
 obtain⟨l,hl,ha0,ha1⟩:=hd.l
 have hmax:=hl.max
 refine FnX.enter Tryz.func65 Tryz.ntmps65 rfl rfl (fun w0=>?_)
 refine zm5 ?_;refine TC.seq (eP kr kr (mI ?_));refine TQ.run (aD rfl) rfl (ug (s:=7) rfl (fun g7=>?_) (fun g7=>?_))
 ·
  have q7:=of_decide_eq_true g7
  refine yp ?_;refine yp ?_;refine gV rfl rfl rfl rfl (gV rfl rfl rfl rfl (mM ?_));refine cD rfl (jt ?_)
  exact aO (.inr rfl) (ad rfl (RVal.tmp rfl)) (fun w hw=>hw) ⟨_,[],rfl,⟨l,hl,ha0,ha1⟩,rfl,rfl,_,rfl,⟨by omega,fun h=>by omega,fun _=>rfl⟩⟩
 have q7:=of_decide_eq_false g7
 refine dP rfl rfl (aD rfl) rfl (dP rfl rfl (bC rfl) rfl (dP rfl rfl (aX rfl) rfl (dP rfl rfl (ay rfl (.here _) rfl) rfl ?_)))
 refine dP rfl rfl (aD rfl) rfl (dP rfl rfl (bC rfl) rfl (dP rfl rfl (aX rfl) rfl (dP rfl rfl (ay rfl (.here _) rfl) rfl ?_)))
 refine dP rfl rfl (ai rfl rfl hl) rfl (dP rfl rfl (aD rfl) rfl (mM ?_))
 refine ag rfl ?_ ?_<;>intro c18
 ·
  refine jt ?_
  exact aO (.inr rfl) (ad rfl (RVal.tmp rfl)) (fun w hw=>hw) ⟨_,[],rfl,⟨l,hl,ha0,ha1⟩,rfl,rfl,_,rfl,⟨by omega,fun h=>by omega,fun _=>rfl⟩⟩
 have hn1:1≤n∧at_<l.length:=by omega
 obtain⟨x,hx⟩:=ao (l:=l) (i:=at_+1 - 1) om om
 refine j7 ?_;refine nc ?_;refine jq ?_;refine TL.run (bC rfl) rfl (jR ?_);refine TL.nil (ae (TC.seq (eP kr kr ?_)))
 refine TQ.run (aD rfl) rfl (TQ.run (bC rfl) rfl (TQ.run (aX rfl) rfl (TQ.run (ay rfl (.here _) rfl) rfl ?_)))
 refine TQ.run (aD rfl) rfl (TQ.run (bC rfl) rfl (TQ.run (aX rfl) rfl (TQ.run (ay rfl (.here _) rfl) rfl ?_)))
 refine TQ.run ((by first | exact fq rfl rfl om om | exact aD rfl)) rfl (TQ.run (af rfl hl rfl om om) rfl (TQ.run (aJ hl hx rfl rfl) rfl (TQ.run (iT rfl) rfl ?_)))
 refine TQ.run (aD rfl) rfl (TQ.run (iT rfl) rfl (TQ.run (lg rfl rfl (by rw [sH om om];omega)) rfl (TQ.run (iT rfl) rfl ?_)));refine mM ?_
 exact TC.ret (aO (.inr rfl) (ad rfl (RVal.tmp rfl)) (fun w hw=>hw) ⟨_,[],rfl,⟨l,hl,by omega,by omega⟩,rfl,rfl,_,rfl,⟨(tq x (n:=n) om hn).1,fun _=>(tq x (n:=n) om hn).2,fun h=>absurd h om⟩⟩)
theorem cC {H:Hp}(k:Int):
  FnS Tryz.prog 71 [.int .i64 k] H (.agg (TStep.cells ⟨k,[],[],[],[], -1,none,0,0,none,0,0,none,0,0, -1⟩).toArray):=by
 refine FnS.enter Tryz.func71 Tryz.ntmps71 rfl rfl (fun w0=>?_)
 refine zm2 ?_
 refine TL.alloc rfl (fun b2=>?_)
 refine fY ?_;refine cE ?_;refine gH ?_
 exact aw (.inr rfl) (ad rfl (RVal.cellA rfl (.here _) rfl)) rfl
theorem fM {F:Fx}{V:WV}(t:Term)(h1:VarNm t.name)(h2:AnyNm t.text):
  WFn Tryz.prog F V 133 [.agg t.cells.toArray] 1 (fun v V1=>∃i,v= .int .i64 i):=by
 refine WFn.enter Tryz.func133 Tryz.ntmps133 rfl rfl (fun m w0 hW hm=>?_)
 refine zm2 ?_
 refine TL.box rfl rfl (fun b3=>?_)
 refine sh ?_;refine zm309 ?_;refine j6 ?_;refine pE ?_;refine aF (S1 (S1 (S1 SN))) (Hp.le.refl _) (fun _ _=>aU rfl (.here _) rfl) rfl (aA rfl rfl rfl rfl (fun b12=>?_))
 refine ak rfl (gg (enc:=Term.cells) (t:=0) rfl rfl rfl hW.bag hW.t (Src.own [t] (.here _) rfl rfl) rfl (by intro y hy;rw [List.mem_singleton.1 hy];exact yH h1 h2) zt0 (by have:=hW.me;(try dsimp only at this ⊢);simp only [List.length_cons,List.length_nil];omega) rfl (.s3 (.skip _ .all)) rfl (fun S13 a13 c13 B13 hS13 hN13 hT13 hB13=>?_))
 change _=_+1 at hN13
 refine al (S0 (S1 (S1 (S1 SN)))) (Hp.le.refl _) (ar (bC rfl) rfl (zm3 ?_));refine vQ ?_;refine ik ?_;refine cZ ?_;refine mm ?_;refine mN ?_;refine TL.run (dp rfl rfl) rfl (pD ?_)
 refine dv ?_
 exact ba (V':={V with S:=S13,B:=B13,ta:=a13,tn:=V.tn+1,tc:=c13}) (X:=[(b12,_),(b3,_)]) (.inr rfl) (ad rfl (RVal.tmp rfl)) rfl rfl (⟨hW.fx,hB13,hT13,hW.s.le hS13,hW.n0,hW.r0,hW.r1,hW.d,by have:=hW.me;dsimp only;omega,by have:=hW.nb;dsimp only;omega,by have:=hW.n10;dsimp only;omega⟩) hS13 (by(try dsimp only);omega) (by(try dsimp only);omega) ⟨_,rfl⟩
theorem bZ {F:Fx}{V:WV}(s:Str)(hs:VarNm s):
  WFn Tryz.prog F V 72 [gs s] 1 (fun v V1=>∃i,v= .int .i64 i):=by
 refine WFn.enter Tryz.func72 Tryz.ntmps72 rfl rfl (fun m w0 hW hm=>?_)
 refine pB ?_;refine cE ?_
 refine au (F:=F) (V:=V) (m:=m) [] rfl rfl (ab rfl rfl rfl rfl) (fM ⟨0,s,0,[], -1, -1⟩ hs .nil) hW om rfl (fun v8 V8 hle8 hW8 hS8 hs8 ht8 hp8=>?_)
 obtain⟨i8,rfl⟩:=hp8
 refine dv ?_
 exact ba (V':=V8) (X:=[]) (.inr rfl) (ad rfl (RVal.tmp rfl)) rfl rfl (hW8.more om) hS8 (by(try dsimp only);omega) (by(try dsimp only);omega) ⟨_,rfl⟩
theorem dT {F:Fx}{V:WV}(n:Int):
  WFn Tryz.prog F V 73 [.int .i64 n] 1 (fun v V1=>∃i,v= .int .i64 i):=by
 refine WFn.enter Tryz.func73 Tryz.ntmps73 rfl rfl (fun m w0 hW hm=>?_)
 refine pB ?_;refine cE ?_
 refine au (F:=F) (V:=V) (m:=m) [] rfl rfl (ab rfl rfl rfl rfl) (fM ⟨1,[],n,[], -1, -1⟩ .nil .nil) hW om rfl (fun v8 V8 hle8 hW8 hS8 hs8 ht8 hp8=>?_)
 obtain⟨i8,rfl⟩:=hp8
 refine dv ?_
 exact ba (V':=V8) (X:=[]) (.inr rfl) (ad rfl (RVal.tmp rfl)) rfl rfl (hW8.more om) hS8 (by(try dsimp only);omega) (by(try dsimp only);omega) ⟨_,rfl⟩
theorem d6 {F:Fx}{V:WV}(k l r:Int):
  WFn Tryz.prog F V 130 [.int .i64 k,.int .i64 l,.int .i64 r] 1 (fun v V1=>∃i,v= .int .i64 i):=by
 refine WFn.enter Tryz.func130 Tryz.ntmps130 rfl rfl (fun m w0 hW hm=>?_)
 refine pB ?_;refine zm4 ?_;refine cE ?_
 refine au (F:=F) (V:=V) (m:=m) [] rfl rfl (ab rfl rfl rfl rfl) (fM ⟨k,[],0,[],l,r⟩ .nil .nil) hW om rfl (fun v14 V14 hle14 hW14 hS14 hs14 ht14 hp14=>?_)
 obtain⟨i14,rfl⟩:=hp14
 refine dv ?_
 exact ba (V':=V14) (X:=[]) (.inr rfl) (ad rfl (RVal.tmp rfl)) rfl rfl (hW14.more om) hS14 (by(try dsimp only);omega) (by(try dsimp only);omega) ⟨_,rfl⟩
theorem yy {F:Fx}{V:WV}:
  WFn Tryz.prog F V 177 [] 3 (fun v V1=>∃i,v= .int .i64 i):=by
 refine WFn.enter Tryz.func177 Tryz.ntmps177 rfl rfl (fun m w0 hW hm=>?_)
 refine pB ?_
 refine au (F:=F) (V:=V) (m:=m) [] rfl rfl (ab rfl rfl rfl rfl) (bZ [110] (.inr (.inr (.inl rfl)))) hW om rfl (fun v5 V5 hle5 hW5 hS5 hs5 ht5 hp5=>?_)
 obtain⟨i5,rfl⟩:=hp5
 refine zm0 ?_
 refine au (F:=F) (V:=V5) (m:=m+1) [] rfl rfl (ab rfl rfl rfl rfl) (dT 1) hW5 om rfl (fun v7 V7 hle7 hW7 hS7 hs7 ht7 hp7=>?_)
 obtain⟨i7,rfl⟩:=hp7
 refine au (F:=F) (V:=V7) (m:=m+1+1) [] rfl rfl (ab rfl rfl rfl rfl) (d6 7 i5 i7) hW7 om rfl (fun v8 V8 hle8 hW8 hS8 hs8 ht8 hp8=>?_)
 obtain⟨i8,rfl⟩:=hp8
 refine dv ?_
 exact ba (V':=V8) (X:=[]) (.inr rfl) (ad rfl (RVal.tmp rfl)) rfl rfl (hW8.more om) (hS5.trans (hS7.trans (hS8))) (by(try dsimp only);omega) (by(try dsimp only);omega) ⟨_,rfl⟩
theorem pK {F:Fx}{V:WV}:
  WFn Tryz.prog F V 132 [] 1 (fun v V1=>∃s,v=gs s∧VarNm s):=by
 refine WFn.enter Tryz.func132 Tryz.ntmps132 rfl rfl (fun m w0 hW hm=>?_)
 have hn0:=hW.n0
 have hme:=hW.me
 refine j8 ?_;refine nc ?_;refine jq ?_;refine TL.run (bC rfl) rfl (pA ?_);refine nc ?_
 refine aq (ab rfl rfl rfl rfl) (qk (V.names+1) om om) rfl (TL.run (dA rfl rfl (by have:=(kE (n:=V.names+1) om om).1;simp only [List.length_cons,List.length_nil];omega)) rfl (dv ?_))
 exact ba (V':={V with names:=V.names+1}) (X:=[]) (.inr rfl) (ad rfl (RVal.tmp rfl)) rfl rfl (⟨hW.fx,hW.bag,hW.t,hW.s,by dsimp only;omega,hW.r0,hW.r1,hW.d,by dsimp only;omega,by have:=hW.nb;dsimp only;omega,hW.n10⟩) (.refl _) (by(try dsimp only);omega) (by(try dsimp only);omega) ⟨_,rfl,vname om om⟩
theorem yz {F:Fx}{V:WV}(k:Int):
  WFn Tryz.prog F V 180 [.int .i64 k] 3 (fun v V1=>∃i,v= .int .i64 i):=by
 refine WFn.enter Tryz.func180 Tryz.ntmps180 rfl rfl (fun m w0 hW hm=>?_)
 refine ij ?_;refine dZ ?_
 refine ag rfl ?_ ?_<;>intro c7
 ·
  refine il ?_;refine nc ?_
  refine az (X:=[(F.bw,_)]) (bd:=F.bd) rfl (ab rfl rfl rfl rfl) (aV 5 om hW.d) rfl (fun v13 H13 at13 hle13 hd13 hp13=>?_)
  obtain⟨rfl,r13,rfl,hr13⟩:=hp13
  refine sE ?_
  refine ag rfl ?_ ?_<;>intro c14
  ·
   refine dS ?_
   refine au (F:=F) (V:={V with at_:=at13}) (m:=m) [] rfl rfl (ab rfl rfl rfl rfl) (dT 12) (hW.dice (.refl _) hd13) om rfl (fun v18 V18 hle18 hW18 hS18 hs18 ht18 hp18=>?_)
   dsimp only at hle18 hS18 hs18 ht18 hp18
   obtain⟨i18,rfl⟩:=hp18
   refine zm0 ?_
   refine au (F:=F) (V:=V18) (m:=m+1) [] rfl rfl (ab rfl rfl rfl rfl) (bZ [110] (.inr (.inr (.inl rfl)))) hW18 om rfl (fun v20 V20 hle20 hW20 hS20 hs20 ht20 hp20=>?_)
   obtain⟨i20,rfl⟩:=hp20
   refine au (F:=F) (V:=V20) (m:=m+1+1) [] rfl rfl (ab rfl rfl rfl rfl) (d6 9 i18 i20) hW20 om rfl (fun v21 V21 hle21 hW21 hS21 hs21 ht21 hp21=>?_)
   obtain⟨i21,rfl⟩:=hp21
   refine dv ?_;refine aY (aC (aY (aC ?_)))
   exact ba (V':=V21) (X:=[]) (.inr rfl) (ad rfl (RVal.tmp rfl)) rfl rfl (hW21.more om) (hS18.trans (hS20.trans (hS21))) (by(try dsimp only);omega) (by(try dsimp only);omega) ⟨_,rfl⟩
  refine dZ ?_
  refine ag rfl ?_ ?_<;>intro c22
  ·
   refine dS ?_;refine nc ?_
   refine az (X:=[(F.bw,_)]) (bd:=F.bd) rfl (ab rfl rfl rfl rfl) (aV 9 om (hW.dice (.refl _) hd13).d) rfl (fun v29 H29 at29 hle29 hd29 hp29=>?_)
   obtain⟨rfl,r29,rfl,hr29⟩:=hp29
   refine pD ?_
   refine au (F:=F) (V:={{V with at_:=at13} with at_:=at29}) (m:=m) [] rfl rfl (ab rfl rfl rfl rfl) (dT _) ((hW.dice (.refl _) hd13).dice (.refl _) hd29) om rfl (fun v31 V31 hle31 hW31 hS31 hs31 ht31 hp31=>?_)
   dsimp only at hle31 hS31 hs31 ht31 hp31
   obtain⟨i31,rfl⟩:=hp31
   refine dv ?_;refine aY (aC (aY (aC ?_)))
   exact ba (V':=V31) (X:=[]) (.inr rfl) (ad rfl (RVal.tmp rfl)) rfl rfl (hW31.more om) hS31 (by(try dsimp only);omega) (by(try dsimp only);omega) ⟨_,rfl⟩
  refine TC.skip (a8 (ae (ig ?_)))
  refine TD.part 7 2 rfl rfl rfl ?_ ?_
  ·
   refine zm310 ?_;refine oU ?_;refine lE ?_
   refine ak rfl (au (F:=F) (V:={V with at_:=at13}) (m:=m) [] rfl rfl (ab rfl rfl rfl rfl) (bZ [110] (.inr (.inr (.inl rfl)))) (hW.dice (.refl _) hd13) om rfl (fun v34 V34 hle34 hW34 hS34 hs34 ht34 hp34=>?_))
   dsimp only at hle34 hS34 hs34 ht34 hp34
   obtain⟨i34,rfl⟩:=hp34
   refine al SN hle34 (ak rfl (az (X:=[(F.bw,_)]) (bd:=F.bd) rfl (ab rfl rfl rfl rfl) (aV 5 om hW34.d) rfl (fun v40 H40 at40 hle40 hd40 hp40=>?_)))
   obtain⟨rfl,r40,rfl,hr40⟩:=hp40
   refine al SN hle34 (ak rfl (au (F:=F) (V:={V34 with at_:=at40}) (m:=m+1) [] rfl rfl (ab rfl rfl rfl rfl) (dT _) (hW34.dice (.refl _) hd40) om rfl (fun v41 V41 hle41 hW41 hS41 hs41 ht41 hp41=>?_)))
   dsimp only at hle41 hS41 hs41 ht41 hp41
   obtain⟨i41,rfl⟩:=hp41
   refine al SN (hle34.trans (hle41)) (ak rfl (au (F:=F) (V:=V41) (m:=m+1+1) [] rfl rfl (ab rfl rfl rfl rfl) (d6 6 i34 i41) hW41 om rfl (fun v42 V42 hle42 hW42 hS42 hs42 ht42 hp42=>?_)))
   obtain⟨i42,rfl⟩:=hp42
   refine al SN (hle34.trans (hle41.trans (hle42))) (na ?_)
   exact aY (aC (ba (V':=V42) (X:=[]) (.inr rfl) (ad rfl (RVal.tmp rfl)) rfl rfl (hW42.more om) (hS34.trans (hS41.trans (hS42))) (by(try dsimp only);omega) (by(try dsimp only);omega) ⟨_,rfl⟩))
  refine zm311 ?_;refine sg ?_
  refine au (F:=F) (V:={V with at_:=at13}) (m:=m) [] rfl rfl (ab rfl rfl rfl rfl) (bZ [110] (.inr (.inr (.inl rfl)))) (hW.dice (.refl _) hd13) om rfl (fun v34 V34 hle34 hW34 hS34 hs34 ht34 hp34=>?_)
  dsimp only at hle34 hS34 hs34 ht34 hp34
  obtain⟨i34,rfl⟩:=hp34
  refine al SN hle34 (lE ?_);refine ak rfl (az (X:=[(F.bw,_)]) (bd:=F.bd) rfl (ab rfl rfl rfl rfl) (aV 5 om hW34.d) rfl (fun v40 H40 at40 hle40 hd40 hp40=>?_))
  obtain⟨rfl,r40,rfl,hr40⟩:=hp40
  refine al SN hle34 (ak rfl (au (F:=F) (V:={V34 with at_:=at40}) (m:=m+1) [] rfl rfl (ab rfl rfl rfl rfl) (dT _) (hW34.dice (.refl _) hd40) om rfl (fun v41 V41 hle41 hW41 hS41 hs41 ht41 hp41=>?_)))
  dsimp only at hle41 hS41 hs41 ht41 hp41
  obtain⟨i41,rfl⟩:=hp41
  refine al SN (hle34.trans (hle41)) (ak rfl (au (F:=F) (V:=V41) (m:=m+1+1) [] rfl rfl (ab rfl rfl rfl rfl) (d6 6 i34 i41) hW41 om rfl (fun v42 V42 hle42 hW42 hS42 hs42 ht42 hp42=>?_)))
  obtain⟨i42,rfl⟩:=hp42
  refine al SN (hle34.trans (hle41.trans (hle42))) (na ?_)
  exact aY (aC (ba (V':=V42) (X:=[]) (.inr rfl) (ad rfl (RVal.tmp rfl)) rfl rfl (hW42.more om) (hS34.trans (hS41.trans (hS42))) (by(try dsimp only);omega) (by(try dsimp only);omega) ⟨_,rfl⟩))
 refine dZ ?_
 refine ag rfl ?_ ?_<;>intro c43
 ·
  refine ig ?_
  refine TD.part 7 2 rfl rfl rfl ?_ ?_
  ·
   refine zm310 ?_;refine oU ?_;refine lE ?_
   refine ak rfl (au (F:=F) (V:=V) (m:=m) [] rfl rfl (ab rfl rfl rfl rfl) (bZ [110] (.inr (.inr (.inl rfl)))) hW om rfl (fun v47 V47 hle47 hW47 hS47 hs47 ht47 hp47=>?_))
   obtain⟨i47,rfl⟩:=hp47
   refine al SN hle47 (ak rfl (az (X:=[(F.bw,_)]) (bd:=F.bd) rfl (ab rfl rfl rfl rfl) (aV 4 om hW47.d) rfl (fun v53 H53 at53 hle53 hd53 hp53=>?_)))
   obtain⟨rfl,r53,rfl,hr53⟩:=hp53
   refine al SN hle47 (ak rfl (au (F:=F) (V:={V47 with at_:=at53}) (m:=m+1) [] rfl rfl (ab rfl rfl rfl rfl) (dT _) (hW47.dice (.refl _) hd53) om rfl (fun v54 V54 hle54 hW54 hS54 hs54 ht54 hp54=>?_)))
   dsimp only at hle54 hS54 hs54 ht54 hp54
   obtain⟨i54,rfl⟩:=hp54
   refine al SN (hle47.trans (hle54)) (ak rfl (au (F:=F) (V:=V54) (m:=m+1+1) [] rfl rfl (ab rfl rfl rfl rfl) (d6 12 i47 i54) hW54 om rfl (fun v55 V55 hle55 hW55 hS55 hs55 ht55 hp55=>?_)))
   obtain⟨i55,rfl⟩:=hp55
   refine al SN (hle47.trans (hle54.trans (hle55))) (na ?_)
   exact aY (aC (ba (V':=V55) (X:=[]) (.inr rfl) (ad rfl (RVal.tmp rfl)) rfl rfl (hW55.more om) (hS47.trans (hS54.trans (hS55))) (by(try dsimp only);omega) (by(try dsimp only);omega) ⟨_,rfl⟩))
  refine zm311 ?_;refine sg ?_
  refine au (F:=F) (V:=V) (m:=m) [] rfl rfl (ab rfl rfl rfl rfl) (bZ [110] (.inr (.inr (.inl rfl)))) hW om rfl (fun v47 V47 hle47 hW47 hS47 hs47 ht47 hp47=>?_)
  obtain⟨i47,rfl⟩:=hp47
  refine al SN hle47 (lE ?_);refine ak rfl (az (X:=[(F.bw,_)]) (bd:=F.bd) rfl (ab rfl rfl rfl rfl) (aV 4 om hW47.d) rfl (fun v53 H53 at53 hle53 hd53 hp53=>?_))
  obtain⟨rfl,r53,rfl,hr53⟩:=hp53
  refine al SN hle47 (ak rfl (au (F:=F) (V:={V47 with at_:=at53}) (m:=m+1) [] rfl rfl (ab rfl rfl rfl rfl) (dT _) (hW47.dice (.refl _) hd53) om rfl (fun v54 V54 hle54 hW54 hS54 hs54 ht54 hp54=>?_)))
  dsimp only at hle54 hS54 hs54 ht54 hp54
  obtain⟨i54,rfl⟩:=hp54
  refine al SN (hle47.trans (hle54)) (ak rfl (au (F:=F) (V:=V54) (m:=m+1+1) [] rfl rfl (ab rfl rfl rfl rfl) (d6 12 i47 i54) hW54 om rfl (fun v55 V55 hle55 hW55 hS55 hs55 ht55 hp55=>?_)))
  obtain⟨i55,rfl⟩:=hp55
  refine al SN (hle47.trans (hle54.trans (hle55))) (na ?_)
  exact aY (aC (ba (V':=V55) (X:=[]) (.inr rfl) (ad rfl (RVal.tmp rfl)) rfl rfl (hW55.more om) (hS47.trans (hS54.trans (hS55))) (by(try dsimp only);omega) (by(try dsimp only);omega) ⟨_,rfl⟩))
 refine dZ ?_
 refine ag rfl ?_ ?_<;>intro c56
 ·
  refine dS ?_;refine nc ?_
  refine az (X:=[(F.bw,_)]) (bd:=F.bd) rfl (ab rfl rfl rfl rfl) (aV 9 om hW.d) rfl (fun v63 H63 at63 hle63 hd63 hp63=>?_)
  obtain⟨rfl,r63,rfl,hr63⟩:=hp63
  refine aq (ab rfl rfl rfl rfl) (qk r63 (by have:=hr63.1;omega) (by have:=hr63.2.1 om;omega)) rfl (TL.run (dA rfl rfl (by have:=(kE (n:=r63) (by have:=hr63.1;omega) (by have:=hr63.2.1 om;omega)).1;simp only [List.length_cons,List.length_nil];omega)) rfl (cE ?_))
  refine au (F:=F) (V:={V with at_:=at63}) (m:=m) [] rfl rfl (ab rfl rfl rfl rfl) (fM ⟨3,[],0,[116]++Lib.itoa r63, -1, -1⟩ .nil (tname (by have:=hr63.1;omega) (by have:=hr63.2.1 om;omega))) (hW.dice (.refl _) hd63) om rfl (fun v67 V67 hle67 hW67 hS67 hs67 ht67 hp67=>?_)
  dsimp only at hle67 hS67 hs67 ht67 hp67
  obtain⟨i67,rfl⟩:=hp67
  refine zm1 ?_;refine fo ?_;refine cE ?_
  refine au (F:=F) (V:=V67) (m:=m+1) [] rfl rfl (ab rfl rfl rfl rfl) (fM ⟨3,[],0,[117], -1, -1⟩ .nil (by simp [AnyNm])) hW67 om rfl (fun v72 V72 hle72 hW72 hS72 hs72 ht72 hp72=>?_)
  obtain⟨i72,rfl⟩:=hp72
  refine au (F:=F) (V:=V72) (m:=m+1+1) [] rfl rfl (ab rfl rfl rfl rfl) (d6 19 i67 i72) hW72 om rfl (fun v73 V73 hle73 hW73 hS73 hs73 ht73 hp73=>?_)
  obtain⟨i73,rfl⟩:=hp73
  refine dv ?_
  exact aY (aC (ba (V':=V73) (X:=[]) (.inr rfl) (ad rfl (RVal.tmp rfl)) rfl rfl (hW73.more om) (hS67.trans (hS72.trans (hS73))) (by(try dsimp only);omega) (by(try dsimp only);omega) ⟨_,rfl⟩))
 refine TC.skip (a8 (ae (dS ?_)));refine cE ?_
 refine au (F:=F) (V:=V) (m:=m) [] rfl rfl (ab rfl rfl rfl rfl) (fM ⟨4,[],0,[], -1, -1⟩ .nil .nil) hW om rfl (fun v77 V77 hle77 hW77 hS77 hs77 ht77 hp77=>?_)
 obtain⟨i77,rfl⟩:=hp77
 refine zm0 ?_
 refine au (F:=F) (V:=V77) (m:=m+1) [] rfl rfl (ab rfl rfl rfl rfl) (bZ [110] (.inr (.inr (.inl rfl)))) hW77 om rfl (fun v79 V79 hle79 hW79 hS79 hs79 ht79 hp79=>?_)
 obtain⟨i79,rfl⟩:=hp79
 refine au (F:=F) (V:=V79) (m:=m+1+1) [] rfl rfl (ab rfl rfl rfl rfl) (d6 18 i77 i79) hW79 om rfl (fun v80 V80 hle80 hW80 hS80 hs80 ht80 hp80=>?_)
 obtain⟨i80,rfl⟩:=hp80
 refine dv ?_
 exact ba (V':=V80) (X:=[]) (.inr rfl) (ad rfl (RVal.tmp rfl)) rfl rfl (hW80.more om) (hS77.trans (hS79.trans (hS80))) (by(try dsimp only);omega) (by(try dsimp only);omega) ⟨_,rfl⟩
theorem eG {F:Fx}{V:WV}(s:TStep)(hs:s.Ok V.S):
  WFn Tryz.prog F V 74 [.agg s.cells.toArray] 1 (fun v V1=>v= .int .i64 (V.sn:Int)∧V1.sn=V.sn+1):=by
 refine WFn.enter Tryz.func74 Tryz.ntmps74 rfl rfl (fun m w0 hW hm=>?_)
 have hr0:=hW.r0
 have hr1:=hW.r1
 have hme:=hW.me
 refine TC.seq (TC.region ?_)
 refine TL.box rfl rfl (fun b3=>?_)
 refine TL.run (aD rfl) rfl (TL.nil (ae (TC.seq (TC.region (TL.run (aX rfl) rfl ?_)))))
 refine aZ rfl rfl rfl (.here _) rfl rfl ?_
 refine TL.nil (ae (TC.seq ?_))
 refine TC.drawn kr kr ?_
 refine aI [true,true,true] [(0,1),(1,1),(2,1),(3,1),(4,1),(5,4),(6,4),(7,3),(8,5),(9,1),(10,1),(11,1),(12,0)] kr kr ?_
 refine ar (aD rfl) rfl (ar (aD rfl) rfl (ar (bC rfl) rfl (ar (aX rfl) rfl (ar (aX rfl) rfl ?_))))
 refine aF (S1 (S1 (S1 SN))) (Hp.le.refl _) (fun _ _=>ay rfl (.h1) rfl) rfl ?_
 refine aF (S1 (S1 (S1 SN))) (Hp.le.refl _) (fun _ _=>aU rfl (.here _) rfl) rfl ?_
 refine aA rfl rfl rfl rfl (fun b13=>?_)
 refine ak rfl ?_
 refine gg (enc:=TStep.cells) (t:=3) rfl rfl rfl hW.bag hW.s (Src.own [{s with next:= -1}] (.here _) rfl rfl) rfl (by intro y hy;rw [List.mem_singleton.1 hy];exact TStep.Ok.all (s:={s with next:= -1}) ⟨hs.name,hs.peer,hs.label,hs.proc,hs.a,hs.c,hs.w,hs.an,hs.cn,hs.wn⟩) zt3 (by have:=hW.me;(try dsimp only at this ⊢);simp only [List.length_cons,List.length_nil];omega) rfl (.s3 (.skip _ .all)) rfl (fun S14 a14 c14 B14 hS14 hN14 hT14 hB14=>?_)
 change _=_+1 at hN14
 refine al (S0 (S1 (S1 (S1 SN)))) (Hp.le.refl _) ?_
 refine ar (bC rfl) rfl (ar (aX rfl) rfl (ar (aX rfl) rfl (bn ?_)))
 refine aZ rfl rfl rfl (.h2) rfl rfl ?_
 refine TF.back (TF.nil (ae (TC.seq (TC.region (TL.run (aD rfl) rfl (TL.run (bC rfl) rfl (TL.run (aX rfl) rfl ?_)))))))
 refine TL.run (ay rfl (.h2) rfl) rfl (TL.run ((by first | exact fq rfl rfl om om | exact aD rfl)) rfl (TL.run (bC rfl) rfl (TL.run (aX rfl) rfl ?_)))
 refine aZ rfl rfl rfl (.h2) rfl rfl ?_
 refine TL.nil (ae (TC.seq (TC.region (TL.run (aD rfl) rfl (TL.run (bC rfl) rfl (TL.run (aX rfl) rfl (TL.run (aX rfl) rfl ?_)))))))
 refine TL.run (ay rfl (.h2) rfl) rfl (TL.run (dp rfl rfl) rfl (TL.run (PR.to (fq rfl rfl (by simp only [List.length_cons,List.length_nil];omega) (by simp only [List.length_cons,List.length_nil];omega)) (congrArg (Value.int .i64) (by simp only [List.length_cons,List.length_nil];omega))) rfl (TL.run (aD rfl) rfl (TL.nil (ae (TC.ret (ba (V':={V with S:=S14,B:=B14,sa:=a14,sn:=V.sn+1,sc:=c14,room:=V.room - 1}) (X:=[(b13,_),(b3,_)]) (.inr rfl) (ad rfl (RVal.tmp rfl)) rfl rfl (⟨hW.fx,hB14,hW.t.le hS14,hT14,hW.n0,by dsimp only;omega,by dsimp only;omega,hW.d,by dsimp only;omega,by have:=hW.nb;dsimp only;omega,by have:=hW.n10;dsimp only;omega⟩) hS14 (by(try dsimp only);omega) (by(try dsimp only);omega) ⟨rfl,rfl⟩)))))))
end Go.Sx
namespace Go.Sx
open Go
def rolesL:List Str:=[[97],[98],[99],[100],[101]]
def labelsL:List Str:=[[119],[120],[121],[122]]
theorem data_at {r:Int}(h0:0≤r)(h1:r<6):∃k:Int,(0≤k∧k≤4)∧([.int .i64 1,.int .i64 0,.int .i64 1,.int .i64 2,.int .i64 3,.int .i64 4]:List Value)[0+r.toNat * 1]? =some (.int .i64 k):=by
 rcases(by omega:r=0∨r=1∨r=2∨r=3∨r=4∨r=5) with rfl | rfl | rfl | rfl | rfl | rfl
 ·exact⟨1,by decide,rfl⟩
 ·exact⟨0,by decide,rfl⟩
 ·exact⟨1,by decide,rfl⟩
 ·exact⟨2,by decide,rfl⟩
 ·exact⟨3,by decide,rfl⟩
 ·exact⟨4,by decide,rfl⟩
def CarOk (types:List Str)(k:Int)(nm:Str):Prop:=(0≤k∧k≤4∧nm=[])∨(k=5∧nm∈types)
def TyNm (s:Str):Prop:=∃r,r∈rolesL∧s=[112,46]++r
theorem TyNm.len {s:Str}(h:TyNm s):s.length=3:=by
 obtain⟨r,hr,rfl⟩:=h
 simp only [rolesL,List.mem_cons,List.not_mem_nil,or_false] at hr
 rcases hr with rfl | rfl | rfl | rfl | rfl<;>rfl
theorem CarOk.len {types:List Str}(ht:∀s∈types,TyNm s){k:Int}{nm:Str}(h:CarOk types k nm):nm.length≤3:=by
 rcases h with ⟨_,_,rfl⟩ | ⟨_,h⟩
 ·simp
 ·rw [(ht _ h).len];omega
structure ArmsG (types:List Str)(places:Int)(l:List SArm):Prop where
 n1:1≤l.length
 n3:l.length≤3
 car:∀a∈l,CarOk types a.ck a.cn
 nx:∀a∈l,0≤a.next∧a.next<places
 lb:∃f:Nat,∀i a,l[i]? =some a→labelsL[(f+i) % 4]? =some a.label
theorem zh {f k:Int}(hf:0≤f)(hk:0≤k):∃s,labelsL[((f+k).tmod 4).toNat]? =some s∧labelsL[(f.toNat+k.toNat) % 4]? =some s:=by
 have h1:((f+k).tmod 4).toNat=(f.toNat+k.toNat) % 4:=by rw [Int.tmod_eq_emod_of_nonneg om];omega
 rw [h1]
 have h2:(f.toNat+k.toNat) % 4<4:=Nat.mod_lt _ dq
 have h3:(f.toNat+k.toNat) % 4<labelsL.length:=h2
 exact⟨_,List.getElem?_eq_getElem h3,List.getElem?_eq_getElem h3⟩
theorem tmod4 {x:Int}(h:0≤x):0≤x.tmod 4∧x.tmod 4<4:=nw h dq
structure ArmsI (types:List Str)(places:Int)(f:Nat)(l:List SArm):Prop where
 car:∀a∈l,CarOk types a.ck a.cn
 nx:∀a∈l,0≤a.next∧a.next<places
 lb:∀i a,l[i]? =some a→labelsL[(f+i) % 4]? =some a.label
theorem ArmsI.nil {types:List Str}{places:Int}{f:Nat}:ArmsI types places f []:=⟨by simp,by simp,by simp⟩
theorem ArmsI.snoc {types:List Str}{places:Int}{f:Nat}{l:List SArm}(h:ArmsI types places f l){a:SArm}{k:Int}(hk:(l.length:Int)=k)(h1:CarOk types a.ck a.cn)(h2:0≤a.next∧a.next<places)(h3:labelsL[(f+k.toNat) % 4]? =some a.label):ArmsI types places f (l++[a]):=by
 refine⟨fun x hx=>?_,fun x hx=>?_,fun i x hi=>?_⟩
 ·rcases List.mem_append.1 hx with hx | hx
  ·exact h.car x hx
  ·rw [List.mem_singleton.1 hx];exact h1
 ·rcases List.mem_append.1 hx with hx | hx
  ·exact h.nx x hx
  ·rw [List.mem_singleton.1 hx];exact h2
 ·by_cases hl:i<l.length
  ·rw [List.getElem?_append_left hl] at hi;exact h.lb i x hi
  ·rw [List.getElem?_append_right om] at hi
   have h4:i - l.length=0:=by
    have:=(List.getElem?_eq_some_iff.1 hi).1
    simp at this;omega
   rw [h4] at hi
   simp at hi;subst hi
   rwa [show i=k.toNat by omega]
theorem ArmsI.fin {types:List Str}{places:Int}{f:Nat}{l:List SArm}(h:ArmsI types places f l)(h1:1≤l.length)(h3:l.length≤3):ArmsG types places l:=⟨h1,h3,h.car,h.nx,f,h.lb⟩
theorem ArmsG.len {types:List Str}{places:Int}{l:List SArm}(ht:∀s∈types,TyNm s)(h:ArmsG types places l):∀a∈l,a.cn.length≤4294960000:=fun a ha=>Nat.le_trans ((h.car a ha).len ht) dq
structure AnyPts (types:List Str)(roles:List Str)(n:Int)(l:List SPoint):Prop where
 ft:∀x∈l,x.frm∈roles∧x.to∈roles
 ne:∀x∈l,x.frm≠x.to
 am:∀x∈l,ArmsG types n x.arms
def em:SPoint:=⟨[],[],[],(none,0)⟩
theorem qD:rolesL.Nodup:=by decide
theorem any_ne {k r m:Int}(h0:0≤k)(h1:k<m)(h2:0≤r)(h3:r<m - 1):(0≤(k+1+r).tmod m∧(k+1+r).tmod m<m)∧((k+1+r).tmod m).toNat≠k.toNat:=by
 have h4:=nw (x:=k+1+r) (n:=m) om om
 refine⟨h4,fun e=>?_⟩
 have h5:(k+1+r).tmod m=k:=by omega
 rw [Int.tmod_eq_emod_of_nonneg om] at h5
 by_cases h6:k+1+r<m
 ·rw [Int.emod_eq_of_lt om h6] at h5;omega
 ·rw [← Int.sub_emod_right,Int.emod_eq_of_lt om om] at h5;omega
theorem yQ {n i j:Nat}{a b:Str}(h1:(rolesL.take n)[i]? =some a)(h2:(rolesL.take n)[j]? =some b)(hij:i≠j):a≠b:=by
 intro e
 subst e
 have hn:(rolesL.take n).Nodup:=(List.take_sublist n rolesL).nodup qD
 obtain⟨hi,hi'⟩:=List.getElem?_eq_some_iff.1 h1
 obtain⟨hj,hj'⟩:=List.getElem?_eq_some_iff.1 h2
 have hp:=List.pairwise_iff_getElem.1 hn
 rcases Nat.lt_or_gt_of_ne hij with h | h
 ·exact hp i j hi hj h (hi'.trans hj'.symm)
 ·exact hp j i hj hi h (hj'.trans hi'.symm)
theorem uz {n:Int}(h0:0≤n)(h1:n≤5):(rolesL.take n.toNat).length=n.toNat:=by
 rw [List.length_take];show min n.toNat 5=n.toNat;omega
theorem AnyPts.nil {types roles:List Str}{n:Int}:AnyPts types roles n []:=⟨by simp,by simp,by simp⟩
theorem AnyPts.snoc {types roles:List Str}{n:Int}{l:List SPoint}(h:AnyPts types roles n l){x:SPoint}(h1:x.frm∈roles∧x.to∈roles)(h2:x.frm≠x.to)(h3:ArmsG types n x.arms):AnyPts types roles n (l++[x]):=by
 refine⟨fun y hy=>?_,fun y hy=>?_,fun y hy=>?_⟩<;>rcases List.mem_append.1 hy with hy | hy
 ·exact h.ft y hy
 ·rw [List.mem_singleton.1 hy];exact h1
 ·exact h.ne y hy
 ·rw [List.mem_singleton.1 hy];exact h2
 ·exact h.am y hy
 ·rw [List.mem_singleton.1 hy];exact h3
theorem eN {α:Type}{p:α→Prop}{l:List α}{x:α}(h:∀y∈l,p y)(hx:p x):∀y∈l++[x],p y:=fun y hy=>by
 rcases List.mem_append.1 hy with hy | hy
 ·exact h y hy
 ·rw [List.mem_singleton.1 hy];exact hx
theorem nG {n:Nat}{r:Str}(h:r∈rolesL.take n):r.length=1:=by
 have:=List.mem_of_mem_take h
 simp only [rolesL,List.mem_cons,List.not_mem_nil,or_false] at this
 rcases this with rfl | rfl | rfl | rfl | rfl<;>rfl
structure AnyP (types:List Str)(p:SProto):Prop where
 pts:∃l,p.points=l++[em]∧AnyPts types p.roles (l.length+1) l∧1≤l.length∧l.length≤6
theorem gR {H:Hp}:PointOk H em:=⟨RdSl.nil,by simp [em]⟩
theorem dn {H:Hp}{b:Nat}{a c:Str}{k d:Int}(rd:∀o v,[gs a,.int .i64 k,gs c,.int .i64 d][o]? =some v→H b o=some v)(hc:c.length≤3):∃l:List SArm,l.length=1∧RdSl H 4 SArm.cells (.slice (some ⟨b,0,none⟩) 1 1) l∧∀a∈l,a.cn.length≤4294960000:=
 ⟨[⟨a,k,c,d⟩],rfl,RdSl.blk (l:=[⟨a,k,c,d⟩]) (enc:=SArm.cells) rd (by intro x hx;rfl) rfl (by show 1≤9223372036854775807;decide),by intro x hx;rw [List.mem_singleton.1 hx];exact Nat.le_trans hc dq⟩
theorem iR {H:Hp}{b:Nat}{a c a' c':Str}{k d k' d':Int}(rd:∀o v,[gs a,.int .i64 k,gs c,.int .i64 d,gs a',.int .i64 k',gs c',.int .i64 d'][o]? =some v→H b o=some v)(hc:c.length≤3)(hc':c'.length≤3):∃l:List SArm,l.length=2∧RdSl H 4 SArm.cells (.slice (some ⟨b,0,none⟩) 2 2) l∧∀a∈l,a.cn.length≤4294960000:=
 ⟨[⟨a,k,c,d⟩,⟨a',k',c',d'⟩],rfl,RdSl.blk (l:=[⟨a,k,c,d⟩,⟨a',k',c',d'⟩]) (enc:=SArm.cells) rd (by intro x hx;rfl) rfl (by show 2≤9223372036854775807;decide),by
  intro x hx
  simp only [List.mem_cons,List.not_mem_nil,or_false] at hx
  rcases hx with rfl | rfl
  ·exact Nat.le_trans hc dq
  ·exact Nat.le_trans hc' dq⟩
theorem RdSl.recell {α:Type}{H:Hp}{k:Nat}{enc:α→List Value}{v:Value}{l l':List α}(h:RdSl H k enc v l)(e:l.map enc=l'.map enc):RdSl H k enc v l':=by
 have hl:l'.length=l.length:=by have:=congrArg List.length e;simpa using this.symm
 refine⟨by rw [hl];exact h.len,by rw [hl];exact h.max,fun hne=>?_,fun i x hx j u hu=>?_,fun a n c hv=>by rw [hl];exact h.room a n c hv⟩
 ·rw [hl];exact h.addr (fun e0=>hne (List.length_eq_zero_iff.1 (by rw [hl,e0];rfl)))
 ·have h1:(l.map enc)[i]? =some (enc x):=by rw [e,List.getElem?_map,hx];rfl
  rw [List.getElem?_map] at h1
  cases hy:l[i]? with
  | none=>rw [hy] at h1;cases h1
  | some y=>
   rw [hy] at h1
   simp only [Option.map_some,Option.some.injEq] at h1
   exact h.get i y hy j u (by rw [h1];exact hu)
structure Q4 where
 a:Str
 b:Str
 at_:Int
 h:Hp
theorem kD {i:Int}(h0:0≤i)(h1:i<4):∃s,labelsL[i.toNat]? =some s:=⟨_,List.getElem?_eq_getElem (by show i.toNat<4;omega)⟩
end Go.Sx
namespace Go.Sx
open Go Go.Proofs
theorem New_ok {H:Hp}{v:Value}{l:List Int}(hl:RdSl H 1 I64.cells v l)(hm:l.length≤1000000000000):
  FnO Tryz.prog 28 [v] H (fun v H1 ob=>∃bd dl,v= .pointer (some ⟨bd,0,none⟩)∧ob=[(bd,[dl,.int .i64 0])]∧DiceOk H1 dl 0):=by
 refine FnO.enter Tryz.func28 Tryz.ntmps28 rfl rfl (fun w0=>?_)
 refine j8 ?_
 refine TL.append (enc:=I64.cells) rfl rfl rfl (OwnSl.nil (enc:=I64.cells)) (Src.sl hl) (by simp;omega) rfl (.new _ rfl) rfl (fun a4 c4 ob4 hO4=>?_)
 refine cE ?_
 refine TL.box rfl rfl (fun b6=>?_)
 refine dk ?_
 refine TX.pubO hO4 (.skip _ .all) sq (fun H1 hle1 hR=>?_)
 exact ae (TC.ret (dG (.inr rfl) (ad rfl (RVal.tmp rfl)) .all ⟨_,_,rfl,rfl,⟨_,hR,by omega,by simp⟩⟩))
theorem gP {H:Hp}:
  Fn Tryz.prog 26 [] H (fun v H1=>RdSl H1 1 Str.cells v rolesL):=by
 refine Fn.enter Tryz.func26 Tryz.ntmps26 rfl rfl (fun w0=>?_)
 refine sA ?_
 refine ax rfl rfl rfl rfl (fun b1=>?_)
 refine dk ?_
 refine iJ sq (fun H_b1 le_b1 rd_b1=>?_)
 have hR:RdSl H_b1 1 Str.cells _ (rolesL):=RdSl.blk (cap:=5) rd_b1 (by intro x hx;rfl) kr (by show 5≤9223372036854775807;decide)
 exact ae (TC.ret (aN (.inr rfl) (ad rfl (RVal.tmp rfl)) hR))
theorem dL {H:Hp}:
  Fn Tryz.prog 27 [] H (fun v H1=>RdSl H1 1 Str.cells v labelsL):=by
 refine Fn.enter Tryz.func27 Tryz.ntmps27 rfl rfl (fun w0=>?_)
 refine sA ?_
 refine ax rfl rfl rfl rfl (fun b1=>?_)
 refine dk ?_
 refine iJ sq (fun H_b1 le_b1 rd_b1=>?_)
 have hR:RdSl H_b1 1 Str.cells _ (labelsL):=RdSl.blk (cap:=4) rd_b1 (by intro x hx;rfl) kr (by show 4≤9223372036854775807;decide)
 exact ae (TC.ret (aN (.inr rfl) (ad rfl (RVal.tmp rfl)) hR))
theorem fi {H:Hp}{bd:Nat}{dl:Value}{at_:Int}(hd:DiceOk H dl at_):
  DFn Tryz.prog bd dl at_ 192 [] H (fun v H1 ob=>ob=[]∧(H1=H∧∃k,v= .agg #[.int .i64 k,gs []]∧0≤k∧k≤4)):=by
 refine FnX.enter Tryz.func192 Tryz.ntmps192 rfl rfl (fun w0=>?_)
 refine zm2 ?_
 refine TL.alloc rfl (fun b2=>?_)
 refine fz ?_
 refine ax rfl rfl rfl rfl (fun b3=>?_)
 refine zm0 ?_
 refine az (X:=[(b3,_),(b2,_)]) (bd:=bd) rfl (ab rfl rfl rfl rfl) (aV 6 om hd) rfl (fun v5 H5 at5 hle5 hd5 hp5=>?_)
 obtain⟨eH5,r5,rfl,hr5⟩:=hp5
 replace eH5:=eH5.symm;subst eH5
 have hra5:=hr5.1
 have hrb5:=hr5.2.1 om
 obtain⟨k,hk,hxk⟩:=data_at hra5 hrb5
 refine ec ?_;refine TL.run (ay rfl (.here _) hxk) rfl (cE ?_);refine mj ?_
 exact aO (.inr rfl) (ad rfl (RVal.cellA rfl (.h1) rfl)) (fun w hw=>hw.drop.drop) ⟨_,[],rfl,hd5,rfl,rfl,_,rfl,hk⟩
theorem ez {H:Hp}{bd:Nat}{dl:Value}{at_:Int}(hd:DiceOk H dl at_){tv:Value}{types:List Str}(hty:RdSl H 1 Str.cells tv types)(htn:∀s∈types,TyNm s)(htl:types.length≤100):
  DFn Tryz.prog bd dl at_ 193 [tv] H (fun v H1 ob=>ob=[]∧(H1=H∧∃k nm,v= .agg #[.int .i64 k,gs nm]∧CarOk types k nm)):=by
 refine FnX.enter Tryz.func193 Tryz.ntmps193 rfl rfl (fun w0=>?_)
 refine zm2 ?_
 refine TL.alloc rfl (fun b4=>?_)
 refine TL.nil (ae (il ?_));refine TL.run (ai rfl rfl hty) rfl (zm4 ?_)
 refine ah (s:=8) rfl ?_ ?_<;>intro g8
 ·
  have q8:=of_decide_eq_true g8
  refine cg ?_;refine TL.gd rfl rfl (az (X:=[(b4,_)]) (bd:=bd) rfl (ab rfl rfl rfl rfl) (aV 4 om hd) rfl (fun v10 H10 at10 hle10 hd10 hp10=>?_))
  obtain⟨eH10,r10,rfl,hr10⟩:=hp10
  replace eH10:=eH10.symm;subst eH10
  have hra10:=hr10.1
  have hrb10:=hr10.2.1 om
  refine fK ?_
  refine ag rfl ?_ ?_<;>intro c12
  ·
   refine fo ?_;refine TL.run (ai rfl rfl hty) rfl (az (X:=[(b4,_)]) (bd:=bd) rfl (ab rfl rfl rfl rfl) (aV (types.length:Int) om hd10) rfl (fun v17 H17 at17 hle17 hd17 hp17=>?_))
   obtain⟨eH17,r17,rfl,hr17⟩:=hp17
   replace eH17:=eH17.symm;subst eH17
   have hra17:=hr17.1
   have hrb17:=hr17.2.1 om
   obtain⟨s,hx⟩:=ao (l:=types) hra17 hrb17
   refine TL.run (af rfl hty rfl om om) rfl (TL.run (aJ hty hx rfl rfl) rfl (cE ?_));refine gH ?_
   exact aC (aO (.inr rfl) (ad rfl (RVal.cellA rfl (.here _) rfl)) (fun w hw=>hw.drop) ⟨_,[],rfl,hd17,rfl,rfl,_,_,rfl,.inr ⟨rfl,List.mem_of_getElem? hx⟩⟩)
  refine j7 ?_
  refine az (X:=[(b4,_)]) (bd:=bd) rfl (ab rfl rfl rfl rfl) (fi hd10) rfl (fun v22 H22 at22 hle22 hd22 hp22=>?_)
  obtain⟨eH22,k22,rfl,hk22⟩:=hp22
  replace eH22:=eH22.symm;subst eH22
  refine gH ?_
  exact aO (.inr rfl) (ad rfl (RVal.cellA rfl (.here _) rfl)) (fun w hw=>hw.drop) ⟨_,[],rfl,hd22,rfl,rfl,_,_,rfl,.inl ⟨hk22.1,hk22.2,rfl⟩⟩
 have q8:=of_decide_eq_false g8
 refine gF ?_;refine mi ?_;refine j7 ?_
 refine az (X:=[(b4,_)]) (bd:=bd) rfl (ab rfl rfl rfl rfl) (fi hd) rfl (fun v22 H22 at22 hle22 hd22 hp22=>?_)
 obtain⟨eH22,k22,rfl,hk22⟩:=hp22
 replace eH22:=eH22.symm;subst eH22
 refine gH ?_
 exact aO (.inr rfl) (ad rfl (RVal.cellA rfl (.here _) rfl)) (fun w hw=>hw.drop) ⟨_,[],rfl,hd22,rfl,rfl,_,_,rfl,.inl ⟨hk22.1,hk22.2,rfl⟩⟩
theorem zf {H:Hp}{bd:Nat}{dl:Value}{at_:Int}(hd:DiceOk H dl at_){tv:Value}{types:List Str}(hty:RdSl H 1 Str.cells tv types)(htn:∀s∈types,TyNm s)(htl:types.length≤100)(places:Int)(h1:1≤places)(h2:places≤1000):
  DFn Tryz.prog bd dl at_ 169 [tv,.int .i64 places] H (fun v H1 ob=>ob=[]∧(H.le H1∧∃l:List SArm,RdSl H1 4 SArm.cells v l∧ArmsG types places l)):=by
 have hty0:=hty
 refine FnX.enter Tryz.func169 Tryz.ntmps169 rfl rfl (fun w0=>?_)
 refine ja ?_;refine j8 ?_
 refine az (X:=[]) (bd:=bd) rfl (ab rfl rfl rfl rfl) (aV 3 om hd) rfl (fun v12 H12 at12 hle12 hd12 hp12=>?_)
 obtain⟨eH12,r12,rfl,hr12⟩:=hp12
 replace eH12:=eH12.symm;subst eH12
 have hra12:=hr12.1
 have hrb12:=hr12.2.1 om
 refine jq ?_;refine ju ?_
 refine az (X:=[]) (bd:=bd) rfl (ab rfl rfl rfl rfl) (aV 4 om hd12) rfl (fun v15 H15 at15 hle15 hd15 hp15=>?_)
 obtain⟨eH15,r15,rfl,hr15⟩:=hp15
 replace eH15:=eH15.symm;subst eH15
 have hra15:=hr15.1
 have hrb15:=hr15.2.1 om
 refine eX ?_;refine hZ ?_
 refine aR (V:=fun(p:Int×Int) v ob H1=>[(7,v),(10,.int .i64 p.1)]) (K:=[(0,_),(1,_),(2,_),(6,_),(8,_),(9,_)]) (L:=fun(p:Int×Int) v ob H1=>St (keys [(bd,[dl,.int .i64 at_])]) w0 H H1 ((bd,[dl,.int .i64 p.2])::ob)) (I:=fun(p:Int×Int) v ob H1=>(0≤p.1∧p.1≤1+r12)∧DiceOk H1 dl p.2∧H.le H1∧∃l:List SArm,OwnSl 4 SArm.cells v l ob∧(l.length:Int)=p.1∧ArmsI types places r15.toNat l) (μ:=fun(p:Int×Int)=>(1+r12 - p.1).toNat) (0,at15) (.slice none 0 0) [] H ky ⟨o2q,hd15,.refl _,[],OwnSl.nil,rfl,.nil⟩ (fun w hw=>hw) (fun p v ob H1 hI=>?_)
 obtain⟨⟨k0,k1⟩,hI2,hI3,l,hO,hI5,hI6⟩:=hI
 replace hty:=hty0.le hI3
 refine eZ ?_;refine zm1 ?_
 refine ag rfl ?_ ?_<;>intro c18
 ·
  obtain⟨lb,hlx,hlb⟩:=zh (f:=r15) (k:=p.1) hra15 k0
  have hm4:=tmod4 (x:=r15+p.1) om
  have hl4:labelsL.length=4:=rfl
  refine vv ?_
  refine TD.part 7 10 rfl rfl rfl ?_ ?_
  ·
   refine aI [false] [(0,1),(2,1),(3,1),(4,1),(5,1),(8,1),(9,1),(11,1),(12,1),(1,3),(6,1),(7,2),(10,5),(13,5),(14,1),(15,3),(16,5),(17,1)] kr kr (lS ?_)
   refine se ?_;refine ar (lg rfl rfl dq) rfl (sd ?_)
   refine TF.call (ab rfl rfl rfl rfl) (dL) rfl (fun v22 H22 hle22 hp22=>?_)
   replace hty:=hty.le hle22
   replace hI2:=hI2.le hle22
   have hll22:=hp22
   refine ar (af rfl hll22 rfl om om) rfl (aQ (aJ hll22 hlx rfl rfl) rfl (ak rfl (az (X:=[]) (bd:=bd) rfl (ab rfl rfl rfl rfl) (ez hI2 hty htn htl) rfl (fun v31 H31 at31 hle31 hd31 hp31=>?_))))
   obtain⟨eH31,k31,nm31,rfl,hc31⟩:=hp31
   replace eH31:=eH31.symm;subst eH31
   refine al SN hle22 (ak rfl (az (X:=[]) (bd:=bd) rfl (ab rfl rfl rfl rfl) (aV places om hd31) rfl (fun v34 H34 at34 hle34 hd34 hp34=>?_)))
   obtain⟨eH34,r34,rfl,hr34⟩:=hp34
   replace eH34:=eH34.symm;subst eH34
   have hra34:=hr34.1
   have hrb34:=hr34.2.1 om
   exact al SN hle22 (xX)
  refine TD.part 7 13 rfl rfl rfl ?_ ?_
  ·
   refine aI [false] [(0,1),(2,1),(3,1),(4,1),(5,1),(8,1),(9,1),(11,1),(12,1),(1,3),(6,1),(10,5),(7,2),(13,5),(14,1),(15,3),(16,5),(17,1)] kr kr (lS ?_)
   refine se ?_;refine ar (lg rfl rfl dq) rfl (sd ?_)
   refine TF.call (ab rfl rfl rfl rfl) (dL) rfl (fun v22 H22 hle22 hp22=>?_)
   replace hty:=hty.le hle22
   replace hI2:=hI2.le hle22
   have hll22:=hp22
   refine ar (af rfl hll22 rfl om om) rfl (ak rfl (az (X:=[]) (bd:=bd) rfl (ab rfl rfl rfl rfl) (ez hI2 hty htn htl) rfl (fun v31 H31 at31 hle31 hd31 hp31=>?_)))
   obtain⟨eH31,k31,nm31,rfl,hc31⟩:=hp31
   replace eH31:=eH31.symm;subst eH31
   refine al SN hle22 (aQ (aJ hll22 hlx rfl rfl) rfl (ak rfl (az (X:=[]) (bd:=bd) rfl (ab rfl rfl rfl rfl) (aV places om hd31) rfl (fun v34 H34 at34 hle34 hd34 hp34=>?_))))
   obtain⟨eH34,r34,rfl,hr34⟩:=hp34
   replace eH34:=eH34.symm;subst eH34
   have hra34:=hr34.1
   have hrb34:=hr34.2.1 om
   exact al SN hle22 (xX)
  refine aI [false] [(0,1),(2,1),(3,1),(4,1),(5,1),(8,1),(9,1),(11,1),(12,1),(1,3),(6,1),(10,5),(13,5),(7,2),(14,1),(15,3),(16,5),(17,1)] kr kr (lS ?_)
  refine se ?_;refine ar (lg rfl rfl dq) rfl (sd ?_)
  refine TF.call (ab rfl rfl rfl rfl) (dL) rfl (fun v22 H22 hle22 hp22=>?_)
  replace hty:=hty.le hle22
  replace hI2:=hI2.le hle22
  have hll22:=hp22
  refine ar (af rfl hll22 rfl om om) rfl (ak rfl (az (X:=[]) (bd:=bd) rfl (ab rfl rfl rfl rfl) (ez hI2 hty htn htl) rfl (fun v31 H31 at31 hle31 hd31 hp31=>?_)))
  obtain⟨eH31,k31,nm31,rfl,hc31⟩:=hp31
  replace eH31:=eH31.symm;subst eH31
  refine al SN hle22 (ak rfl (az (X:=[]) (bd:=bd) rfl (ab rfl rfl rfl rfl) (aV places om hd31) rfl (fun v34 H34 at34 hle34 hd34 hp34=>?_)))
  obtain⟨eH34,r34,rfl,hr34⟩:=hp34
  replace eH34:=eH34.symm;subst eH34
  have hra34:=hr34.1
  have hrb34:=hr34.2.1 om
  exact al SN hle22 (aQ (aJ hll22 hlx rfl rfl) rfl (xX))
 refine oJ ?_
 refine dh (X:=[(bd,_)]) hO rfl (by simp [keys]) (fun H2 hle2 hR=>?_)
 exact aO (.inr rfl) (ad rfl (RVal.tmp rfl)) (fun w hw=>hw) ⟨_,[],rfl,(hI2.le hle2),rfl,hI3.trans hle2,_,hR,hI6.fin om om⟩
end Go.Sx
namespace Go.Sx
open Go Go.Proofs
theorem qV {H:Hp}{bd:Nat}{dl:Value}{at_:Int}(hd:DiceOk H dl at_){tv:Value}{types:List Str}(hty:RdSl H 1 Str.cells tv types)(htn:∀s∈types,TyNm s)(htl:types.length≤100)(name:Str)(many:Int)(h2:2≤many)(h5:many≤5):
  DFn Tryz.prog bd dl at_ 124 [gs name,.int .i64 many,tv] H (fun v H1 ob=>ob=[]∧(H.le H1∧∃p:SProto,v= .agg p.cells.toArray∧ProtoOk H1 p∧p.name=name∧p.roles=rolesL.take many.toNat∧AnyP types p)):=by
 have hrl:(rolesL.take many.toNat).length=many.toNat:=uz om om
 refine FnX.enter Tryz.func124 Tryz.ntmps124 rfl rfl (fun w0=>?_)
 refine zm2 ?_
 refine TL.alloc rfl (fun b8=>?_)
 refine fY ?_
 refine az (X:=[(b8,_)]) (bd:=bd) rfl (ab rfl rfl rfl rfl) (aV 6 om hd) rfl (fun v15 H15 at15 hle15 hd15 hp15=>?_)
 obtain⟨eH15,r15,rfl,hr15⟩:=hp15
 replace eH15:=eH15.symm;subst eH15
 have hra15:=hr15.1
 have hrb15:=hr15.2.1 om
 refine jq ?_;refine ju ?_
 refine TL.call (ab rfl rfl rfl rfl) (gP) rfl (fun v18 H18 hle18 hp18=>?_)
 replace hty:=hty.le hle18
 replace hd15:=hd15.le hle18
 have hro18:=hp18
 obtain⟨ra18,rc18,rfl⟩:=hro18.len
 have hcp:5≤rc18:=hro18.room _ _ _ rfl
 have hsl:=hro18.sliced (i:=0) (j:=many.toNat) om (by show many.toNat≤5;omega)
 have hle0:=hle18
 refine zm0 ?_;refine r9 ?_
 refine TL.append (enc:=Str.cells) rfl rfl rfl (OwnSl.nil (enc:=Str.cells)) (Src.sl hsl) (by simp only [List.length_drop,List.length_nil];omega) rfl (.new _ rfl) rfl (fun a21 c21 ob21 hO21=>?_)
 refine cE ?_
 refine TL.alloc rfl (fun b10=>?_)
 refine r7 ?_
 refine dh (X:=[(b10,_),(b8,_),(bd,_)]) hO21 rfl (by simp [keys]) (fun HR leR hR=>?_)
 replace hty:=hty.le leR
 replace hd15:=hd15.le leR
 replace hle0:=hle0.trans leR
 have hrs:RdSl HR 1 Str.cells (.slice a21 (rolesL.take many.toNat).length c21) (rolesL.take many.toNat):=hR
 have hty1:=hty
 refine ae (lR ?_)
 refine aR (V:=fun(p:Int×Int) v ob H1=>[(11,.int .i64 p.1)]) (K:=[(0,_),(2,_),(3,_),(8,_),(9,_),(10,_)]) (L:=fun(p:Int×Int) v ob H1=>St (keys [(bd,[dl,.int .i64 at_])]) w0 H H1 ((b10,[gs name,.slice a21 (rolesL.take many.toNat).length c21,v])::(b8,[gs [],.slice none 0 0,.slice none 0 0])::(bd,[dl,.int .i64 p.2])::ob)) (I:=fun(p:Int×Int) v ob H1=>(0≤p.1∧p.1≤1+r15)∧DiceOk H1 dl p.2∧HR.le H1∧∃l:List SPoint,OwnSl 3 SPoint.cells v l ob∧(l.length:Int)=p.1∧AnyPts types (rolesL.take many.toNat) (1+r15+1) l∧∀x∈l,PointOk H1 x) (μ:=fun(p:Int×Int)=>(1+r15 - p.1).toNat) (0,at15) (.slice none 0 0) [] HR ky ⟨o2q,hd15,.refl _,[],OwnSl.nil,rfl,.nil,by simp⟩ (fun w hw=>hw) (fun p v ob H1 hI=>?_)
 obtain⟨⟨k0,k1⟩,hI2,hI3,l,hO,hI5,hI6,hI7⟩:=hI
 replace hty:=hty1.le hI3
 obtain⟨va,vc,rfl⟩:=hO.form
 have hrs1:=hrs.le hI3
 refine eZ ?_;refine zm1 ?_
 refine ag rfl ?_ ?_<;>intro c25
 ·
  refine m9 ?_
  refine az (X:=[(b10,_),(b8,_)]) (bd:=bd) rfl (ab rfl rfl rfl rfl) (aV many om hI2) rfl (fun v30 H30 at30 hle30 hd30 hp30=>?_)
  obtain⟨eH30,r30,rfl,hr30⟩:=hp30
  replace eH30:=eH30.symm;subst eH30
  have hra30:=hr30.1
  have hrb30:=hr30.2.1 om
  refine ju ?_;refine jq ?_;refine zm4 ?_;refine pD ?_
  refine az (X:=[(b10,_),(b8,_)]) (bd:=bd) rfl (ab rfl rfl rfl rfl) (aV (many - 1) om hd30) rfl (fun v36 H36 at36 hle36 hd36 hp36=>?_)
  obtain⟨eH36,r36,rfl,hr36⟩:=hp36
  replace eH36:=eH36.symm;subst eH36
  have hra36:=hr36.1
  have hrb36:=hr36.2.1 om
  refine jq ?_;refine zm0 ?_;refine TL.run (lg rfl rfl om) rfl (dk ?_)
  have hne:=any_ne hra30 hrb30 hra36 hrb36
  obtain⟨q1,hr1⟩:=ao (l:=(rolesL.take many.toNat)) (i:=r30) om om
  obtain⟨q2,hr2⟩:=ao (l:=(rolesL.take many.toNat)) hne.1.1 om
  refine ae (d3 ?_);refine zm342 ?_;refine lQ ?_;refine lQ ?_;refine zm6 ?_
  refine ar (af rfl hrs1 rfl om om) rfl (aF (S1 (S1 SN)) (Hp.le.refl _) (fun _ _=>aJ hrs1 hr1 rfl rfl) rfl (lQ ?_));refine zm6 ?_
  refine ar (af rfl hrs1 rfl om om) rfl (aF (S1 (S1 SN)) (Hp.le.refl _) (fun _ _=>aJ hrs1 hr2 rfl rfl) rfl (lS ?_));refine se ?_
  refine ak rfl (az (X:=[(b10,_),(b8,_)]) (bd:=bd) rfl (ab rfl rfl rfl rfl) (zf hd36 hty htn htl (1+r15+1) om om) rfl (fun v56 H56 at56 hle56 hd56 hp56=>?_))
  obtain⟨hle56_,l56,hl56,hA56⟩:=hp56
  obtain⟨a56,c56,rfl⟩:=hl56.len
  refine al (S1 (S1 SN)) hle56 (dj ?_)
  refine aA rfl rfl rfl rfl (fun b58=>?_)
  refine ak rfl (TL.append (enc:=SPoint.cells) rfl rfl rfl hO (Src.own [⟨q1,q2,l56,(a56,c56)⟩] (.here _) rfl rfl) (by have:=hI5;simp only [List.length_cons,List.length_nil];omega) rfl (.s3 (.skip _ .all)) rfl (fun a59 c59 ob59 hO59=>?_))
  refine al (S0 (S1 (S1 SN))) hle56 (r6 ?_);refine TF.back (TF.nil (ie ?_))
  exact aE (p.1+1,at56) _ ob59 H56 ⟨o2q,hd56,hI3.trans hle56,_,hO59,by simp only [List.length_append,List.length_cons,List.length_nil];omega,hI6.snoc ⟨List.mem_of_getElem? hr1,List.mem_of_getElem? hr2⟩ (yQ hr1 hr2 (Ne.symm hne.2)) hA56,eN (fun x hx=>(hI7 x hx).le hle56) ⟨hl56,hA56.len htn⟩⟩ ky (fun w hw=>hw.drop) om
 refine fX ?_;refine eQ ?_;refine cE ?_
 refine ax rfl rfl rfl rfl (fun b64=>?_)
 refine TL.append (enc:=SPoint.cells) rfl rfl rfl hO (Src.own [em] (.here _) rfl rfl) (by have:=hI5;simp only [List.length_cons,List.length_nil];omega) rfl (.s3 (.skip _ .all)) rfl (fun a65 c65 ob65 hO65=>?_)
 refine r4 ?_;refine fz ?_;refine kS ?_;refine r3 ?_
 refine dh (X:=[(b64,_),(b10,_),(b8,_),(bd,_)]) hO65 rfl (by simp [keys]) (fun H2 hle2 hP=>?_)
 exact aO (.inr rfl) (ad rfl (RVal.cellA rfl (.h2) rfl)) (fun w hw=>hw.drop.drop.drop) ⟨_,[],rfl,(hI2.le hle2),rfl,hle0.trans (hI3.trans hle2),⟨name,(rolesL.take many.toNat),(a21,c21),l++[em],(a65,c65)⟩,rfl,⟨hrs.le (hI3.trans hle2),hP,eN (fun x hx=>(hI7 x hx).le hle2) gR⟩,rfl,rfl,⟨l,rfl,by rw [show((l.length:Int)+1)=1+r15+1 by omega];exact hI6,by omega,by omega⟩⟩
end Go.Sx
