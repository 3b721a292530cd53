import Derived.Test.YtjnlogbbcceaoaaGreatJ5
set_option linter.all false
set_option maxRecDepth 100000
set_option maxHeartbeats 32000000
namespace Go.Sx
open Go
structure DiceOk (H:Hp)(dl:Value)(at_:Int):Prop where
 l:∃l:List Int,RdSl H 1 I64.cells dl l∧0≤at_∧at_≤l.length
theorem DiceOk.le {H H':Hp}{dl:Value}{a:Int}(h:DiceOk H dl a)(hl:H.le H'):DiceOk H' dl a:=by
 obtain⟨l,h1,h2⟩:=h.l
 exact⟨l,h1.le hl,h2⟩
def PickR (n r:Int):Prop:=0≤r∧(1≤n→r<n)∧(n<1→r=0)
theorem Bg (x:Int):0≤IntKind.u64.wrap x:=by
 simp only [IntKind.wrap,IntKind.signed,IntKind.bits];simp;omega
theorem jU {x:Int}(h0:0≤x)(h1:x≤9223372036854775807):IntKind.u64.wrap x=x:=by
 simp only [IntKind.wrap,IntKind.signed,IntKind.bits];simp;omega
theorem Dh {x:Int}(h0: -9223372036854775808≤x)(h1:x≤9223372036854775807):IntKind.i64.wrap x=x:=by
 simp only [IntKind.wrap,IntKind.signed,IntKind.bits];simp;omega
theorem qD {x n:Int}(h0:0≤x)(h1:1≤n):0≤x.tmod n∧x.tmod n<n:=by
 rw [Int.tmod_eq_emod_of_nonneg h0]
 exact⟨Int.emod_nonneg _ omq,Int.emod_lt_of_pos _ omq⟩
theorem kb (x:Int){n:Int}(h1:1≤n)(h2:n≤1000000000):0≤IntKind.i64.wrap ((IntKind.u64.wrap x).tmod (IntKind.u64.wrap n))∧IntKind.i64.wrap ((IntKind.u64.wrap x).tmod (IntKind.u64.wrap n))<n:=by
 rw [jU (x:=n) omq omq]
 have:=qD (n:=n) (Bg x) h1
 rw [Dh omq omq]
 exact this
theorem D9 (x:Int){n:Int}(h1:1≤n)(h2:n≤1000000000):0≤IntKind.i64.wrap ((IntKind.u64.wrap x).tmod n)∧IntKind.i64.wrap ((IntKind.u64.wrap x).tmod n)<n:=by
 have:=kb x h1 h2
 rwa [jU (x:=n) omq omq] at this
section
variable {P:Program}{n:Nat}{ops:Array Oper}{Q:Exit→Act→World→Prop}{E:Env}{M:List Nat}{w0:World}{H0 H:Hp}{L:ak}{C:World→Prop}{rest:List Oper}{dst:Option Nat}{op:Op}{ty:TypeId}{pos:String}{aft:Array Edge}
def DFn (P:Program)(bd:Nat)(dl:Value)(at_:Int)(f:FuncId)(args:List Value)(H:Hp)(R:Value→Hp→ak→Prop):Prop:=
 FnX P f (.pointer (some ⟨bd,0,none⟩)::args) H [(bd,[dl,.int .i64 at_])] (fun v H' L'=>∃at' ob,L'=(bd,[dl,.int .i64 at'])::ob∧DiceOk H' dl at'∧R v H' ob)
theorem xT (X:ak)(y:Nat×List Value)(Y:ak):(X++y::Y).Perm ([y]++(X++Y)):=List.perm_middle
theorem um (X:ak)(y:Nat×List Value)(Y ob:ak):((y::ob)++(X++Y)).Perm (X++y::(Y++ob)):=by
 have h1:((y::ob)++(X++Y)).Perm ((y::(X++Y))++ob):=by
  rw [List.cons_append,List.cons_append]
  exact(List.perm_append_comm).cons y
 refine h1.trans ?_
 rw [List.cons_append,List.append_assoc]
 exact List.perm_middle.symm
theorem rV {f:FuncId}{args:List Value}{X Y:ak}{bd:Nat}{dl:Value}{at_:Int}{R:Value→Hp→ak→Prop}(hL:L=X++(bd,[dl,.int .i64 at_])::Y)(hE:cS P E op f (.pointer (some ⟨bd,0,none⟩)::args))(hF:DFn P bd dl at_ f args H R)(hd:cx dst n=true)
  (h:∀v H' at' ob,H.le H'→DiceOk H' dl at'→R v H' ob→TL P n ops Q rest (cr dst v E) (St M w0 H0 H' (X++(bd,[dl,.int .i64 at'])::(Y++ob)))):
  TL P n ops Q ({dst:=dst,op:=op,type:=ty,pos:=pos,after:=aft,guard:=none}::rest) E (St M w0 H0 H L):=by
 subst hL
 refine aV (xT X _ Y) (dW hE hF hd fun v H' L1' hle hΦ=>?_)
 obtain⟨at',ob,rfl,hk,hR⟩:=hΦ
 exact aV (um X _ Y ob) (h v H' at' ob hle hk hR)
theorem aA {f:FuncId}{args:List Value}{X Y:ak}{bd:Nat}{dl:Value}{at_:Int}{R:Value→Hp→Prop}(hL:L=X++(bd,[dl,.int .i64 at_])::Y)(hE:cS P E op f (.pointer (some ⟨bd,0,none⟩)::args))(hF:DFn P bd dl at_ f args H (fun v H' ob=>ob=[]∧R v H'))(hd:cx dst n=true)
  (h:∀v H' at',H.le H'→DiceOk H' dl at'→R v H'→TL P n ops Q rest (cr dst v E) (St M w0 H0 H' (X++(bd,[dl,.int .i64 at'])::Y))):
  TL P n ops Q ({dst:=dst,op:=op,type:=ty,pos:=pos,after:=aft,guard:=none}::rest) E (St M w0 H0 H L):=
 rV hL hE hF hd fun v H' at' ob h1 h2 h3=>by
  obtain⟨rfl,h3⟩:=h3
  rw [List.append_nil]
  exact h v H' at' h1 h2 h3
theorem TL.pubN {b:Nat}{cs:List Value}{l:List Oper}(hM:∀k∈M,k∈keys L)(h:∀H',H.le H'→(∀o v,cs[o]? =some v→H' b o=some v)→TL P n ops Q l E (St M w0 H0 H' L)):TL P n ops Q l E (St M w0 H0 H ((b,cs)::L)):=by
 intro a w he hw
 have hbM:b∉M:=fun hm=>by
  have h1:=hM b hm
  have h2:=hw.nd
  simp only [List.map_cons,List.nodup_cons] at h2
  exact h2.1 h1
 exact h _ hw.le_add (fun o v hv=>by simp only [Hp.add,if_true];exact hv) a w he (hw.publish hbM)
theorem cD {b:Nat}{cs:List Value}{q:Act→World→Prop}(hM:∀k∈M,k∈keys L)(h:∀H',H.le H'→(∀o v,cs[o]? =some v→H' b o=some v)→TX n q E (St M w0 H0 H' L)):TX n q E (St M w0 H0 H ((b,cs)::L)):=by
 intro a w he hw
 have hbM:b∉M:=fun hm=>by
  have h1:=hM b hm
  have h2:=hw.nd
  simp only [List.map_cons,List.nodup_cons] at h2
  exact h2.1 h1
 exact h _ hw.le_add (fun o v hv=>by simp only [Hp.add,if_true];exact hv) a w he (hw.publish hbM)
theorem ogn {w:World}{M:List Nat}{ob R:ak}(hM:∀k∈M,k∈keys R)(hw:St M w0 H0 H (ob++R) w):∀p∈ob,p.1∉M:=fun p hp hm=>by
 have h2:=hw.nd
 rw [List.map_append,List.nodup_append] at h2
 exact h2.2.2 _ (List.mem_map.2 ⟨p,hp,rfl⟩) _ (hM _ hm) rfl
theorem dV {α:Type}{k:Nat}{enc:α→List Value}[hc:Cells k enc]{v:Value}{xs:List α}{ob X:ak}{q:Act→World→Prop}(hO:OwnSl k enc v xs ob)(hL:L=X++ob)(hM:∀k∈M,k∈keys X)
  (h:∀H',H.le H'→RdSl H' k enc v xs→TX n q E (St M w0 H0 H' X)):TX n q E (St M w0 H0 H L):=by
 subst hL
 intro a w he hw
 have hw':=hw.perm List.perm_append_comm
 obtain⟨H',h1,h2,h3⟩:=St.pubO hO (.app X) (ogn hM hw') hw'
 exact h H' h1 h2 a w he (by simpa using h3)
theorem jg {α:Type}{k t m b:Nat}{enc:α→List Value}[hc:Cells k enc]{X Y:ak}{B:ak}{S:Sig}{cs:List Value}{l:List Oper}(ys:List α)(hL:L=X++(b,cs)::(Y++B))(hB:Bag H S B)(hk:kT t=k)(hm:m=ys.length)(he:cs=ys.flatMap enc)(hy:∀y∈ys,AllT H S (eW t) (enc y))
  (h:∀S' B',S.le S'→S'.N=S.N→S' b=some (t,m)→Bag H S' B'→TL P n ops Q l E (St M w0 H0 H (X++(Y++B')))):TL P n ops Q l E (St M w0 H0 H L):=by
 subst hL hm he
 intro a w hE hw
 have hp:(X++(b,ys.flatMap enc)::(Y++B)).Perm (X++(Y++(b,ys.flatMap enc)::B)):=List.Perm.append_left X List.perm_middle.symm
 have hw':=hw.perm hp
 have hnone:S b=none:=hB.none (fun p hp e=>by
  have h2:=hw'.nd
  rw [← List.append_assoc,List.map_append,List.nodup_append] at h2
  have h3:=h2.2.1
  simp only [List.map_cons,List.nodup_cons] at h3
  exact h3.1 (List.mem_map.2 ⟨p,hp,e⟩))
 have hlen:(ys.flatMap enc).length=ys.length * kT t:=by rw [hk];exact jb (fun x _=>hc.len x)
 refine h (S.put b t ys.length) ((b,ys.flatMap enc)::B) (Sig.le_put hnone) rfl Sig.put_at (hB.add hnone hlen (fun o u hu=>?_)) a w hE hw'
 obtain⟨x,h1,h2⟩:=kN hc.pos (fun x _=>hc.len x) o u hu
 have:=(hy x (List.mem_of_getElem? h1)).at h2
 rw [hk]
 exact this
theorem SlT.blk {S:Sig}{t b m:Nat}(h:S b=some (t,m))(hm:m≤9223372036854775807):SlT S t (some ⟨b,0,none⟩) m m:=.inr ⟨b,0,m,by simp,h,by omega,by omega,hm⟩
end
structure Fx where
 bw:Nat
 bd:Nat
 psv:Value
 ps:List SProto
 nm:Str
 pa:Value
 self:Str
 tyv:Value
 tys:List SLocal
 role:Int
 dl:Value
structure WV where
 H:Hp
 S:Sig
 ta:Option Addr
 tn:Nat
 tc:Nat
 sa:Option Addr
 sn:Nat
 sc:Nat
 names:Int
 room:Int
 at_:Int
 B:ak
def Fx.c (F:Fx)(V:WV):List Value:=[.pointer (some ⟨F.bd,0,none⟩),F.psv,gs F.nm,F.pa,.slice V.ta V.tn V.tc,.slice V.sa V.sn V.sc,gs F.self,F.tyv,.int .i64 F.role,.int .i64 V.names,.int .i64 V.room]
def Fx.L (F:Fx)(V:WV):ak:=(F.bw,F.c V)::(F.bd,[F.dl,.int .i64 V.at_])::V.B
structure GPr (p:SProto):Prop where
 nm:p.name=[112]∨p.name=[113]
 r2:2≤p.roles.length
 r5:p.roles.length≤5
 rs:∀r∈p.roles,r.length=1
structure FxOk (H:Hp)(F:Fx):Prop where
 ps:RdSl H 3 SProto.cells F.psv F.ps
 pk:∀p∈F.ps,ProtoOk H p
 pg:∀p∈F.ps,GPr p
 pn:0<F.ps.length
 ty:RdSl H 2 SLocal.cells F.tyv F.tys
 tk:∀l∈F.tys,LocalOk H l
 sf:PNm F.self
theorem FxOk.le {H H':Hp}{F:Fx}(h:FxOk H F)(hl:H.le H'):FxOk H' F:=⟨h.ps.le hl,fun p hp=>(h.pk p hp).le hl,h.pg,h.pn,h.ty.le hl,fun l hh=>(h.tk l hh).le hl,h.sf⟩
structure WI (F:Fx)(V:WV)(m:Nat):Prop where
 fx:FxOk V.H F
 bag:Bag V.H V.S V.B
 t:SlT V.S 0 V.ta V.tn V.tc
 s:SlT V.S 3 V.sa V.sn V.sc
 n0:0≤V.names
 r0: -(V.sn:Int)≤V.room
 r1:V.room≤100
 d:DiceOk V.H F.dl V.at_
 me:V.tn+V.sn+V.names.toNat≤m
 nb:V.S.N≤m+10
 n10:10≤V.S.N
theorem WI.more {F:Fx}{V:WV}{m m':Nat}(h:WI F V m)(hm:m≤m'):WI F V m':={h with me:=Nat.le_trans h.me hm,nb:=Nat.le_trans h.nb (Nat.add_le_add_right hm _)}
theorem WI.dice {F:Fx}{V:WV}{m:Nat}{H':Hp}{a:Int}(h:WI F V m)(hl:V.H.le H')(hd:DiceOk H' F.dl a):WI F {V with H:=H',at_:=a} m:=⟨h.fx.le hl,h.bag.leH hl,h.t,h.s,h.n0,h.r0,h.r1,hd,h.me,h.nb,h.n10⟩
theorem WI.bagA {F:Fx}{V:WV}{m:Nat}{S':Sig}{B':ak}(h:WI F V m)(hl:V.S.le S')(hN:S'.N=V.S.N)(hB:Bag V.H S' B'):WI F {V with S:=S',B:=B'} m:=⟨h.fx,hB,h.t.le hl,h.s.le hl,h.n0,h.r0,h.r1,h.d,h.me,by rw [hN];exact h.nb,by rw [hN];exact h.n10⟩
theorem WI.bagT {F:Fx}{V:WV}{m:Nat}{S':Sig}{B':ak}(h:WI F V m)(hl:V.S.le S')(hN:S'.N=V.S.N+1)(hB:Bag V.H S' B'):WI F {V with S:=S',B:=B'} (m+1):=⟨h.fx,hB,h.t.le hl,h.s.le hl,h.n0,h.r0,h.r1,h.d,Nat.le_succ_of_le h.me,by have:=h.nb;dsimp only;omega,by have:=h.n10;dsimp only;omega⟩
def WFn (P:Program)(F:Fx)(V:WV)(f:FuncId)(args:List Value)(k:Nat)(R:Value→WV→Prop):Prop:=
 ∀m,WI F V m→m+k≤10000000→FnX P f (.pointer (some ⟨F.bw,0,none⟩)::args) V.H (F.L V) (fun v H' L'=>∃V':WV,H'=V'.H∧L'=F.L V'∧WI F V' (m+k)∧V.S.le V'.S∧V.sn≤V'.sn∧V.tn≤V'.tn∧R v V')
section
variable {P:Program}{n:Nat}{ops:Array Oper}{Q:Exit→Act→World→Prop}{E:Env}{M:List Nat}{w0:World}{H0 H:Hp}{L:ak}{C:World→Prop}{rest:List Oper}{dst:Option Nat}{op:Op}{ty:TypeId}{pos:String}{aft:Array Edge}
theorem ay {F:Fx}{V:WV}{f:FuncId}{args:List Value}{k m:Nat}{R:Value→WV→Prop}(X:ak)(hL:L=X++F.L V)(hH:H=V.H)(hE:cS P E op f (.pointer (some ⟨F.bw,0,none⟩)::args))(hF:WFn P F V f args k R)(hW:WI F V m)(hm:m+k≤10000000)(hd:cx dst n=true)
  (h:∀v (V':WV),V.H.le V'.H→WI F V' (m+k)→V.S.le V'.S→V.sn≤V'.sn→V.tn≤V'.tn→R v V'→TL P n ops Q rest (cr dst v E) (St M w0 H0 V'.H (X++F.L V'))):
  TL P n ops Q ({dst:=dst,op:=op,type:=ty,pos:=pos,after:=aft,guard:=none}::rest) E (St M w0 H0 H L):=by
 subst hL hH
 refine aV List.perm_append_comm (dW hE (hF m hW hm) hd fun v H' L1' hle hΦ=>?_)
 obtain⟨V',rfl,rfl,h1,h2,h3,h4,h5⟩:=hΦ
 exact aV List.perm_append_comm (h v V' hle h1 h2 h3 h4 h5)
theorem WFn.enter {F:Fx}{V:WV}{f:FuncId}{args:List Value}{k:Nat}{R:Value→WV→Prop}{fn:Func}{c:Code}
  (hf:P.funcs[f]? =some fn) (hn:fn.ntmps=n) (hb:fn.body=some c) (hl:Nat.ble (args.length+1) n=true)
  (h:∀m w0,WI F V m→m+k≤10000000→TC P n c (bodyPost P fn (uM (keys (F.L V)) w0 V.H (fun v H' L'=>∃V':WV,H'=V'.H∧L'=F.L V'∧WI F V' (m+k)∧V.S.le V'.S∧V.sn≤V'.sn∧V.tn≤V'.tn∧R v V'))) (jM 0 (.pointer (some ⟨F.bw,0,none⟩)::args)) (St (keys (F.L V)) w0 V.H V.H (F.L V))):WFn P F V f args k R:=
 fun m hW hm=>FnX.enter hf hn hb (by simpa using hl) (fun w0=>h m w0 hW hm)
theorem bv {F:Fx}{V V':WV}{fn:Func}{K:List Nat}{k m:Nat}{R:Value→WV→Prop}{v:Value}{X:ak}{e:Exit}(he:e= .normal∨e= .ret)(hr:∀a w,EOk n E a→St K w0 H0 H L w→(results fn a.tmps).run P w= .ok v w)
  (hL:L=X++F.L V') (hH:H=V'.H) (hW:WI F V' (m+k)) (hS:V.S.le V'.S) (hs:V.sn≤V'.sn) (ht:V.tn≤V'.tn) (hR:R v V'):
  TX n (bodyPost P fn (uM K w0 H0 (fun v H' L'=>∃V':WV,H'=V'.H∧L'=F.L V'∧WI F V' (m+k)∧V.S.le V'.S∧V.sn≤V'.sn∧V.tn≤V'.tn∧R v V')) e) E (St K w0 H0 H L):=by
 subst hH
 exact aU he hr (fun w hw=>by subst hL;exact hw.dropN) ⟨V',rfl,rfl,hW,hS,hs,ht,hR⟩
theorem cg {x:Operand}{a:Addr}(hx:ev E x=some (.pointer (some a))):PR P E C (.nilCheck x) (.pointer (some a)):=by
 intro n ac w o ho he hw
 unfold execOp
 rw [ho]
 simp [he.eval hx]
theorem cM {t e k tb:Nat}{x y:Operand}{b j len cap:Nat}{a:Option Addr}{kd:IntKind}{i:Int}(hx:ev E x=some (.slice a len cap))(hy:ev E y=some (.int kd i))(ha:a=some ⟨b,j * kT tb,none⟩)[hel:El P t e k](h0:0≤i)(h1:i<len):
  PR P E C (.indexAddr t x y) (.pointer (some ⟨b,j * kT tb+i.toNat * k,none⟩)):=by
 subst ha
 exact gh hx hy h0 h1
end
end Go.Sx
namespace Go.Sx
open Go
structure TStep where
 kind:Int
 name:Str
 peer:Str
 label:Str
 proc:Str
 term:Int
 aa:Option Addr
 an:Nat
 ac:Nat
 ca:Option Addr
 cn:Nat
 cc:Nat
 wa:Option Addr
 wn:Nat
 wc:Nat
 next:Int
def TStep.cells (s:TStep):List Value:=[.int .i64 s.kind,gs s.name,gs s.peer,gs s.label,gs s.proc,.int .i64 s.term,.slice s.aa s.an s.ac,.slice s.ca s.cn s.cc,.slice s.wa s.wn s.wc,.int .i64 s.next]
instance :Cells 10 TStep.cells:=⟨fun _=>rfl,by decide,fun _=>rfl⟩
structure TStep.Ok (S:Sig)(s:TStep):Prop where
 name:VarNm s.name
 peer:AnyNm s.peer
 label:AnyNm s.label
 proc:PNm s.proc
 a:SlT S 4 s.aa s.an s.ac
 c:SlT S 2 s.ca s.cn s.cc
 w:SlT S 1 s.wa s.wn s.wc
 an:s.an≤S.N
 cn:s.cn≤S.N
 wn:s.wn≤S.N
theorem TStep.Ok.all {H:Hp}{S:Sig}{s:TStep}(h:s.Ok S):AllT H S (eW 3) s.cells:=
 ⟨⟨_,rfl⟩,⟨_,rfl,h.name⟩,⟨_,rfl,h.peer⟩,⟨_,rfl,h.label⟩,⟨_,rfl,h.proc⟩,⟨_,rfl⟩,⟨_,_,_,rfl,h.a,h.an⟩,⟨_,_,_,rfl,h.c,h.cn⟩,⟨_,_,_,rfl,h.w,h.wn⟩,⟨_,rfl⟩,trivial⟩
structure TCast where
 role:Str
 proc:Str
 aa:Option Addr
 an:Nat
 ac:Nat
def TCast.cells (s:TCast):List Value:=[gs s.role,gs s.proc,.slice s.aa s.an s.ac]
instance :Cells 3 TCast.cells:=⟨fun _=>rfl,by decide,fun _=>rfl⟩
theorem TCast.all {H:Hp}{S:Sig}{s:TCast}(h1:AnyNm s.role)(h2:PNm s.proc)(h3:SlT S 4 s.aa s.an s.ac)(h4:s.an≤S.N):AllT H S (eW 2) s.cells:=⟨⟨_,rfl,h1⟩,⟨_,rfl,h2⟩,⟨_,_,_,rfl,h3,h4⟩,trivial⟩
theorem SWay.all {H:Hp}{S:Sig}{s:SWay}(h1:AnyNm s.label)(h2:VarNm s.name):AllT H S (eW 1) s.cells:=⟨⟨_,rfl,h1⟩,⟨_,rfl,h2⟩,⟨_,rfl⟩,trivial⟩
theorem Dz {H:Hp}{S:Sig}{s:Term}(h1:VarNm s.name)(h2:AnyNm s.text):AllT H S (eW 0) s.cells:=⟨⟨_,rfl⟩,⟨_,rfl,h1⟩,⟨_,rfl⟩,⟨_,rfl,h2⟩,⟨_,rfl⟩,⟨_,rfl⟩,trivial⟩
theorem VarNm.nil:VarNm []:=.inl rfl
theorem VarNm.len {s:Str}(h:VarNm s):s.length≤11:=by
 rcases h with rfl | rfl | rfl | rfl | ⟨ds,rfl,h,_⟩<;>simp<;>omega
theorem AnyNm.nil:AnyNm []:=by simp [AnyNm]
theorem PNm.nil:PNm []:=by simp [PNm]
theorem zt0 {H:Hp}{S:Sig}:AllT H S (eW 0) [.int .i64 0,gs [],.int .i64 0,gs [],.int .i64 0,.int .i64 0]:=⟨⟨_,rfl⟩,⟨_,rfl,.nil⟩,⟨_,rfl⟩,⟨_,rfl,.nil⟩,⟨_,rfl⟩,⟨_,rfl⟩,trivial⟩
theorem zt1 {H:Hp}{S:Sig}:AllT H S (eW 1) [gs [],gs [],.int .i64 0]:=⟨⟨_,rfl,.nil⟩,⟨_,rfl,.nil⟩,⟨_,rfl⟩,trivial⟩
theorem zt2 {H:Hp}{S:Sig}:AllT H S (eW 2) [gs [],gs [],.slice none 0 0]:=⟨⟨_,rfl,.nil⟩,⟨_,rfl,.nil⟩,⟨_,_,_,rfl,.nil,Nat.zero_le _⟩,trivial⟩
theorem zt3 {H:Hp}{S:Sig}:AllT H S (eW 3) [.int .i64 0,gs [],gs [],gs [],gs [],.int .i64 0,.slice none 0 0,.slice none 0 0,.slice none 0 0,.int .i64 0]:=
 ⟨⟨_,rfl⟩,⟨_,rfl,.nil⟩,⟨_,rfl,.nil⟩,⟨_,rfl,.nil⟩,⟨_,rfl,.nil⟩,⟨_,rfl⟩,⟨_,_,_,rfl,.nil,Nat.zero_le _⟩,⟨_,_,_,rfl,.nil,Nat.zero_le _⟩,⟨_,_,_,rfl,.nil,Nat.zero_le _⟩,⟨_,rfl⟩,trivial⟩
theorem lr:∀(k u:Nat),u<10 ^ (k+1)→(Lib.decDigits u).length≤k+1∧∀c∈Lib.decDigits u,(48:UInt8)≤c∧c≤57
 | k,u,h=>by
  by_cases h1:u<10
  ·rw [Lib.decDigits_one h1]
   refine⟨by simp,fun c hc=>?_⟩
   rw [List.mem_singleton.1 hc]
   have h2:(UInt8.ofNat (48+u)).toNat=48+u:=by rw [UInt8.toNat_ofNat'];omega
   constructor
   ·rw [UInt8.le_iff_toNat_le,h2];show 48≤48+u;omega
   ·rw [UInt8.le_iff_toNat_le,h2];show 48+u≤57;omega
  ·cases k with
   | zero=>simp at h;omega
   | succ k=>
    have h3:u / 10<10 ^ (k+1):=by rw [Nat.pow_succ] at h;omega
    obtain⟨h4,h5⟩:=lr k (u / 10) h3
    rw [Lib.decDigits,dif_neg h1]
    refine⟨by simp;omega,fun c hc=>?_⟩
    rcases List.mem_append.1 hc with hc | hc
    ·exact h5 c hc
    ·rw [List.mem_singleton.1 hc]
     have h2:(UInt8.ofNat (48+u % 10)).toNat=48+u % 10:=by rw [UInt8.toNat_ofNat'];omega
     constructor
     ·rw [UInt8.le_iff_toNat_le,h2];show 48≤48+u % 10;omega
     ·rw [UInt8.le_iff_toNat_le,h2];show 48+u % 10≤57;omega
theorem mQ {n:Int}(h0:0≤n)(h1:n≤100000000):(Lib.itoa n).length≤10∧∀c∈Lib.itoa n,(48:UInt8)≤c∧c≤57:=by
 unfold Lib.itoa
 rw [if_neg omq]
 exact lr 9 n.toNat omq
theorem vname {n:Int}(h0:0≤n)(h1:n≤100000000):VarNm ([118]++Lib.itoa n):=.inr (.inr (.inr (.inr ⟨Lib.itoa n,rfl,mQ h0 h1⟩)))
theorem tname {n:Int}(h0:0≤n)(h1:n≤100000000):AnyNm ([116]++Lib.itoa n):=by
 have:=(mQ h0 h1).1
 simp [AnyNm];omega
theorem EX {t k j i f n m:Nat}(hk:kT t=k)(hj:j+n≤m)(hi:i<n)(hf:f<k):j * kT t+i * k+f<m * kT t∧(j * kT t+i * k+f) % kT t=f:=by
 subst hk
 exact⟨bag_lt hj hi hf,bag_mod hf⟩
def Cell (B:ak)(b o:Nat)(u:Value):Prop:=∃cs,(b,cs)∈B∧cs[o]? =some u
theorem Bag.get {H:Hp}{S:Sig}{B:ak}{t m b j i f n k:Nat}{ct:CT}(hB:Bag H S B)(hS:S b=some (t,m))(hk:kT t=k)(hj:j+n≤m)(hi:i<n)(hct:(eW t)[f]? =some ct):∃u,CTy H S ct u∧Cell B b (j * kT t+i * k+f) u:=by
 have hf:f<k:=by rw [← hk];exact(List.getElem?_eq_some_iff.1 hct).1
 obtain⟨h1,h2⟩:=EX hk hj hi hf
 obtain⟨cs,R2,hp3,hcl,hty⟩:=hB.take hS
 have hlt:j * kT t+i * k+f<cs.length:=by rw [hcl];exact h1
 obtain⟨ct',h3,h4⟩:=hty _ _ (List.getElem?_eq_getElem hlt)
 rw [h2,hct] at h3
 cases h3
 exact⟨_,h4,cs,hp3.mem_iff.2 sq,List.getElem?_eq_getElem hlt⟩
section
variable {P:Program}{n:Nat}{ops:Array Oper}{Q:Exit→Act→World→Prop}{E:Env}{M:List Nat}{w0:World}{H0 H:Hp}{L:ak}{C:World→Prop}{rest:List Oper}{dst:Option Nat}{op:Op}{ty:TypeId}{pos:String}{aft:Array Edge}
theorem Cell.inl {B:ak}{F:ak→ak}{b o:Nat}{u:Value}(hC:Cell B b o u)(hU:Tl B L F):∃cs,InL b cs L∧cs[o]? =some u:=by
 obtain⟨cs,h1,h2⟩:=hC
 obtain⟨R,hp1,_⟩:=hU.perm
 have h3:(b,cs)∈L:=hp1.mem_iff.2 (List.mem_append_left _ h1)
 refine⟨cs,?_,h2⟩
 clear hp1 hU h1 h2
 induction L with
 | nil=>simp at h3
 | cons x L ih=>
  rcases List.mem_cons.1 h3 with rfl | h3
  ·exact .here _
  ·exact .there _ (ih h3)
theorem j9 {t k1 b o:Nat}{x:Operand}{u:Value}{B:ak}{F:ak→ak}(hx:ev E x=some (.pointer (some ⟨b,o,none⟩)))(hC:Cell B b o u)(hU:Tl B L F)[ht:Ty P t false k1](hk:k1=1:=by rfl):PR P E (St M w0 H0 H L) (.load t x) u:=by
 obtain⟨cs,h1,h2⟩:=hC.inl hU
 exact aE hx h1 h2
theorem dw {t m b j i f n' k k1:Nat}{x y:Operand}{u:Value}{ct:CT}{S:Sig}{B:ak}{F:ak→ak}{tt:TypeId}(hx:ev E x=some (.pointer (some ⟨b,j * kT t+i * k+f,none⟩)))(hy:ev E y=some u)(hB:Bag H S B)(hU:Tl B L F)(hS:S b=some (t,m))(hkk:kT t=k)(hj:j+n'≤m)(hi:i<n')(hct:(eW t)[f]? =some ct)
  (hu:CTy H S ct u) [ht:Ty P tt false k1] [h1:One u] (hk:k1=1) (hd:cx dst n=true) (h:∀B',Bag H S B'→TL P n ops Q rest (cr dst undef E) (St M w0 H0 H (F B'))):
  TL P n ops Q ({dst:=dst,op:=.store tt x y,type:=ty,pos:=pos,after:=aft,guard:=none}::rest) E (St M w0 H0 H L):=by
 have hf:f<k:=by rw [← hkk];exact(List.getElem?_eq_some_iff.1 hct).1
 obtain⟨h2,h3⟩:=EX hkk hj hi hf
 exact TL.stT hx hy hB hU hS h2 (by rw [h3];exact hct) hu hk hd h
end
theorem WI.bagB {F:Fx}{V:WV}{m:Nat}{B':ak}(h:WI F V m)(hB:Bag V.H V.S B'):WI F {V with B:=B'} m:=⟨h.fx,hB,h.t,h.s,h.n0,h.r0,h.r1,h.d,h.me,h.nb,h.n10⟩
structure Rw where
 a:Option Addr
 n:Nat
 c:Nat
section
variable {P:Program}{n:Nat}{ops:Array Oper}{Q:Exit→Act→World→Prop}{E:Env}{C:World→Prop}
theorem r4 {ι ρ:Type}{c:Code}(V:ι→WV→ρ→Env)(K:Env)(L:ι→WV→ρ→World→Prop)(I:ι→WV→ρ→Prop)(μ:ι→Nat)(i:ι)(v:WV)(r:ρ)(h0:Sub (V i v r++K) E)(hi:I i v r)(hC:∀w,C w→L i v r w)
  (round:∀i v r,I i v r→TC P n c (Exit.then (fun a w=>∃j v' r',I j v' r'∧EOk n (V j v' r'++K) a∧L j v' r' w∧μ j<μ i) Q) (V i v r++K) (L i v r)):TC P n (.loop c) Q E C:=
 TC.loop (ι:=ι×WV×ρ) (V:=fun i=>V i.1 i.2.1 i.2.2) (K:=K) (L:=fun i=>L i.1 i.2.1 i.2.2) (I:=fun i=>I i.1 i.2.1 i.2.2) (μ:=fun i=>μ i.1) (i:=(i,v,r)) h0 hi hC
  (fun i hI a w he hw=>Code.wp_mono (fun e a' w' hq=>by
   cases e with
   | normal=>obtain⟨j,v',r',h1,h2,h3,h4⟩:=hq;exact⟨(j,v',r'),h1,h2,h3,h4⟩
   | exit id=>exact hq
   | goto l=>exact hq
   | ret=>exact hq
   | panic ch=>exact hq
   | outgrown=>exact hq) (round i.1 i.2.1 i.2.2 hI a w he hw))
theorem gN {ι ρ:Type}{V:ι→WV→ρ→Env}{L:ι→WV→ρ→World→Prop}{I:ι→WV→ρ→Prop}{μ:ι→Nat}{i:ι}{E0:Env}(j:ι)(v':WV)(r':ρ)(hI:I j v' r')(hs:Sub (V j v' r'++E0) E)(hC:∀w,C w→L j v' r' w)(hm:μ j<μ i):
  TX n (Exit.then (fun a w=>∃j v' r',I j v' r'∧EOk n (V j v' r'++E0) a∧L j v' r' w∧μ j<μ i) Q .normal) E C:=fun a w he hw=>⟨j,v',r',hI,he.sub hs,hC w hw,hm⟩
end
theorem GPr.n1 {p:SProto}(h:GPr p):p.name.length=1:=by rcases h.nm with h | h<;>rw [h]<;>rfl
theorem GPr.proc {p:SProto}(h:GPr p){r:Str}(hr:r.length≤900):PNm (p.name++r):=by
 constructor
 ·rw [List.length_append,h.n1];omega
 ·rcases h.nm with h | h<;>rw [h]<;>simp
theorem GPr.rl {p:SProto}(h:GPr p){r:Str}(hr:r∈p.roles):r.length≤900:=by rw [h.rs r hr];omega
structure TGt (T:SLocal)(t:STurn):Prop where
 peer:AnyNm t.peer
 a6:t.arms.length≤6
 a1:t.kind≠0→t.kind≠2→1≤t.arms.length
 lb:∀a∈t.arms,AnyNm a.label
 nx:∀a∈t.arms,0≤a.next∧a.next<T.turns.length
structure TG (F:Fx)(T:SLocal):Prop where
 r0:0≤F.role
 r1:F.role<F.tys.length
 g:F.tys[F.role.toNat]? =some T
 n0:0<T.turns.length
 ts:∀t∈T.turns,TGt T t
theorem le2:2≤9223372036854775807:=by decide
def KB:Nat→Nat
 | 0=>300
 | n+1=>6 * (KB n+40)+60
theorem yP {n:Nat}(h:n≤5):KB n≤9000000:=by
 rcases(by omega:n=0∨n=1∨n=2∨n=3∨n=4∨n=5) with rfl | rfl | rfl | rfl | rfl | rfl<;>decide
theorem cmul {k:Int}{c:Nat}(h:0≤k):(k+1).toNat * c=k.toNat * c+c:=by
 rw [show(k+1).toNat=k.toNat+1 by omega,Nat.succ_mul]
theorem cmul_le {k:Int}{c n:Nat}(h:0≤k)(h1:k<n):k.toNat * c+c≤n * c:=by
 rw [← Nat.succ_mul];exact Nat.mul_le_mul_right _ omq
structure GProc where
 name:Str
 params:List SParam
 pp:Sp
 ta:Option Addr
 tn:Nat
 tc:Nat
 sa:Option Addr
 sn:Nat
 sc:Nat
def GProc.cells (q:GProc):List Value:=[gs q.name,.slice q.pp.1 q.params.length q.pp.2,.slice q.ta q.tn q.tc,.slice q.sa q.sn q.sc]
instance :Cells 4 GProc.cells:=⟨fun _=>rfl,by decide,fun _=>rfl⟩
structure GPOk (H:Hp)(S:Sig)(q:GProc):Prop where
 nm:PNm q.name
 pa:RdSl H 3 SParam.cells (.slice q.pp.1 q.params.length q.pp.2) q.params
 pv:∀x∈q.params,VarNm x.name∧x.cn.length≤1000
 pl:q.params.length≤2
 t:SlT S 0 q.ta q.tn q.tc
 s:SlT S 3 q.sa q.sn q.sc
 s0:0<q.sn
 tl:q.tn≤10000000
 sl:q.sn≤10000000
theorem GPOk.le {H H':Hp}{S S':Sig}{q:GProc}(h:GPOk H S q)(hl:H.le H')(hs:S.le S'):GPOk H' S' q:=⟨h.nm,h.pa.le hl,h.pv,h.pl,h.t.le hs,h.s.le hs,h.s0,h.tl,h.sl⟩
end Go.Sx
namespace Go.Sx
open Go
def rolesL:List Str:=[[97],[98],[99],[100],[101]]
def labelsL:List Str:=[[119],[120],[121],[122]]
theorem data_at {r:Int}(h0:0≤r)(h1:r<6):∃k:Int,(0≤k∧k≤4)∧([.int .i64 1,.int .i64 0,.int .i64 1,.int .i64 2,.int .i64 3,.int .i64 4]:List Value)[0+r.toNat * 1]? =some (.int .i64 k):=by
 rcases(by omega:r=0∨r=1∨r=2∨r=3∨r=4∨r=5) with rfl | rfl | rfl | rfl | rfl | rfl
 ·exact⟨1,by decide,rfl⟩
 ·exact⟨0,by decide,rfl⟩
 ·exact⟨1,by decide,rfl⟩
 ·exact⟨2,by decide,rfl⟩
 ·exact⟨3,by decide,rfl⟩
 ·exact⟨4,by decide,rfl⟩
def CarOk (types:List Str)(k:Int)(nm:Str):Prop:=(0≤k∧k≤4∧nm=[])∨(k=5∧nm∈types)
def TyNm (s:Str):Prop:=∃r,r∈rolesL∧s=[112,46]++r
theorem TyNm.len {s:Str}(h:TyNm s):s.length=3:=by
 obtain⟨r,hr,rfl⟩:=h
 simp only [rolesL,List.mem_cons,List.not_mem_nil,or_false] at hr
 rcases hr with rfl | rfl | rfl | rfl | rfl<;>rfl
theorem CarOk.len {types:List Str}(ht:∀s∈types,TyNm s){k:Int}{nm:Str}(h:CarOk types k nm):nm.length≤3:=by
 rcases h with ⟨_,_,rfl⟩ | ⟨_,h⟩
 ·simp
 ·rw [(ht _ h).len];omega
structure ArmsG (types:List Str)(places:Int)(l:List SArm):Prop where
 n1:1≤l.length
 n3:l.length≤3
 car:∀a∈l,CarOk types a.ck a.cn
 nx:∀a∈l,0≤a.next∧a.next<places
 lb:∃f:Nat,∀i a,l[i]? =some a→labelsL[(f+i) % 4]? =some a.label
theorem Ew {f k:Int}(hf:0≤f)(hk:0≤k):∃s,labelsL[((f+k).tmod 4).toNat]? =some s∧labelsL[(f.toNat+k.toNat) % 4]? =some s:=by
 have h1:((f+k).tmod 4).toNat=(f.toNat+k.toNat) % 4:=by rw [Int.tmod_eq_emod_of_nonneg omq];omega
 rw [h1]
 have h2:(f.toNat+k.toNat) % 4<4:=Nat.mod_lt _ dq
 have h3:(f.toNat+k.toNat) % 4<labelsL.length:=h2
 exact⟨_,List.getElem?_eq_getElem h3,List.getElem?_eq_getElem h3⟩
theorem tmod4 {x:Int}(h:0≤x):0≤x.tmod 4∧x.tmod 4<4:=qD h dq
theorem Ch {s:Str}{i:Nat}(h:labelsL[i]? =some s):s.length=1:=by
 have:=List.mem_of_getElem? h
 simp only [labelsL,List.mem_cons,List.not_mem_nil,or_false] at this
 rcases this with rfl | rfl | rfl | rfl<;>rfl
structure ArmsI (types:List Str)(places:Int)(f:Nat)(l:List SArm):Prop where
 car:∀a∈l,CarOk types a.ck a.cn
 nx:∀a∈l,0≤a.next∧a.next<places
 lb:∀i a,l[i]? =some a→labelsL[(f+i) % 4]? =some a.label
theorem ArmsI.nil {types:List Str}{places:Int}{f:Nat}:ArmsI types places f []:=⟨by simp,by simp,by simp⟩
theorem ArmsI.snoc {types:List Str}{places:Int}{f:Nat}{l:List SArm}(h:ArmsI types places f l){a:SArm}{k:Int}(hk:(l.length:Int)=k)(h1:CarOk types a.ck a.cn)(h2:0≤a.next∧a.next<places)(h3:labelsL[(f+k.toNat) % 4]? =some a.label):ArmsI types places f (l++[a]):=by
 refine⟨fun x hx=>?_,fun x hx=>?_,fun i x hi=>?_⟩
 ·rcases List.mem_append.1 hx with hx | hx
  ·exact h.car x hx
  ·rw [List.mem_singleton.1 hx];exact h1
 ·rcases List.mem_append.1 hx with hx | hx
  ·exact h.nx x hx
  ·rw [List.mem_singleton.1 hx];exact h2
 ·by_cases hl:i<l.length
  ·rw [List.getElem?_append_left hl] at hi;exact h.lb i x hi
  ·rw [List.getElem?_append_right omq] at hi
   have h4:i - l.length=0:=by
    have:=(List.getElem?_eq_some_iff.1 hi).1
    simp at this;omega
   rw [h4] at hi
   simp at hi;subst hi
   rwa [show i=k.toNat by omega]
theorem ArmsI.fin {types:List Str}{places:Int}{f:Nat}{l:List SArm}(h:ArmsI types places f l)(h1:1≤l.length)(h3:l.length≤3):ArmsG types places l:=⟨h1,h3,h.car,h.nx,f,h.lb⟩
theorem ArmsG.len {types:List Str}{places:Int}{l:List SArm}(ht:∀s∈types,TyNm s)(h:ArmsG types places l):∀a∈l,a.cn.length≤4294960000:=fun a ha=>Nat.le_trans ((h.car a ha).len ht) dq
structure AnyPts (types:List Str)(roles:List Str)(n:Int)(l:List SPoint):Prop where
 ft:∀x∈l,x.frm∈roles∧x.to∈roles
 ne:∀x∈l,x.frm≠x.to
 am:∀x∈l,ArmsG types n x.arms
def fL:SPoint:=⟨[],[],[],(none,0)⟩
theorem u5:rolesL.Nodup:=by decide
theorem any_ne {k r m:Int}(h0:0≤k)(h1:k<m)(h2:0≤r)(h3:r<m - 1):(0≤(k+1+r).tmod m∧(k+1+r).tmod m<m)∧((k+1+r).tmod m).toNat≠k.toNat:=by
 have h4:=qD (x:=k+1+r) (n:=m) omq omq
 refine⟨h4,fun e=>?_⟩
 have h5:(k+1+r).tmod m=k:=by omega
 rw [Int.tmod_eq_emod_of_nonneg omq] at h5
 by_cases h6:k+1+r<m
 ·rw [Int.emod_eq_of_lt omq h6] at h5;omega
 ·rw [← Int.sub_emod_right,Int.emod_eq_of_lt omq omq] at h5;omega
theorem DL {n i j:Nat}{a b:Str}(h1:(rolesL.take n)[i]? =some a)(h2:(rolesL.take n)[j]? =some b)(hij:i≠j):a≠b:=by
 intro e
 subst e
 have hn:(rolesL.take n).Nodup:=(List.take_sublist n rolesL).nodup u5
 obtain⟨hi,hi'⟩:=List.getElem?_eq_some_iff.1 h1
 obtain⟨hj,hj'⟩:=List.getElem?_eq_some_iff.1 h2
 have hp:=List.pairwise_iff_getElem.1 hn
 rcases Nat.lt_or_gt_of_ne hij with h | h
 ·exact hp i j hi hj h (hi'.trans hj'.symm)
 ·exact hp j i hj hi h (hj'.trans hi'.symm)
theorem y4 {n:Int}(h0:0≤n)(h1:n≤5):(rolesL.take n.toNat).length=n.toNat:=by
 rw [List.length_take];show min n.toNat 5=n.toNat;omega
theorem AnyPts.nil {types roles:List Str}{n:Int}:AnyPts types roles n []:=⟨by simp,by simp,by simp⟩
theorem AnyPts.snoc {types roles:List Str}{n:Int}{l:List SPoint}(h:AnyPts types roles n l){x:SPoint}(h1:x.frm∈roles∧x.to∈roles)(h2:x.frm≠x.to)(h3:ArmsG types n x.arms):AnyPts types roles n (l++[x]):=by
 refine⟨fun y hy=>?_,fun y hy=>?_,fun y hy=>?_⟩<;>rcases List.mem_append.1 hy with hy | hy
 ·exact h.ft y hy
 ·rw [List.mem_singleton.1 hy];exact h1
 ·exact h.ne y hy
 ·rw [List.mem_singleton.1 hy];exact h2
 ·exact h.am y hy
 ·rw [List.mem_singleton.1 hy];exact h3
theorem fN {α:Type}{p:α→Prop}{l:List α}{x:α}(h:∀y∈l,p y)(hx:p x):∀y∈l++[x],p y:=fun y hy=>by
 rcases List.mem_append.1 hy with hy | hy
 ·exact h y hy
 ·rw [List.mem_singleton.1 hy];exact hx
theorem my {n:Nat}{r:Str}(h:r∈rolesL.take n):r.length=1:=by
 have:=List.mem_of_mem_take h
 simp only [rolesL,List.mem_cons,List.not_mem_nil,or_false] at this
 rcases this with rfl | rfl | rfl | rfl | rfl<;>rfl
structure AnyP (types:List Str)(p:SProto):Prop where
 pts:∃l,p.points=l++[fL]∧AnyPts types p.roles (l.length+1) l∧1≤l.length∧l.length≤6
theorem jB {H:Hp}:PointOk H fL:=⟨RdSl.nil,by simp [fL]⟩
theorem eb {H:Hp}{b:Nat}{a c:Str}{k d:Int}(rd:∀o v,[gs a,.int .i64 k,gs c,.int .i64 d][o]? =some v→H b o=some v)(hc:c.length≤3):∃l:List SArm,l.length=1∧RdSl H 4 SArm.cells (.slice (some ⟨b,0,none⟩) 1 1) l∧∀a∈l,a.cn.length≤4294960000:=
 ⟨[⟨a,k,c,d⟩],rfl,RdSl.blk (l:=[⟨a,k,c,d⟩]) (enc:=SArm.cells) rd (by intro x hx;rfl) rfl (by show 1≤9223372036854775807;decide),by intro x hx;rw [List.mem_singleton.1 hx];exact Nat.le_trans hc dq⟩
theorem kF {H:Hp}{b:Nat}{a c a' c':Str}{k d k' d':Int}(rd:∀o v,[gs a,.int .i64 k,gs c,.int .i64 d,gs a',.int .i64 k',gs c',.int .i64 d'][o]? =some v→H b o=some v)(hc:c.length≤3)(hc':c'.length≤3):∃l:List SArm,l.length=2∧RdSl H 4 SArm.cells (.slice (some ⟨b,0,none⟩) 2 2) l∧∀a∈l,a.cn.length≤4294960000:=
 ⟨[⟨a,k,c,d⟩,⟨a',k',c',d'⟩],rfl,RdSl.blk (l:=[⟨a,k,c,d⟩,⟨a',k',c',d'⟩]) (enc:=SArm.cells) rd (by intro x hx;rfl) rfl (by show 2≤9223372036854775807;decide),by
  intro x hx
  simp only [List.mem_cons,List.not_mem_nil,or_false] at hx
  rcases hx with rfl | rfl
  ·exact Nat.le_trans hc dq
  ·exact Nat.le_trans hc' dq⟩
theorem RdSl.recell {α:Type}{H:Hp}{k:Nat}{enc:α→List Value}{v:Value}{l l':List α}(h:RdSl H k enc v l)(e:l.map enc=l'.map enc):RdSl H k enc v l':=by
 have hl:l'.length=l.length:=by have:=congrArg List.length e;simpa using this.symm
 refine⟨by rw [hl];exact h.len,by rw [hl];exact h.max,fun hne=>?_,fun i x hx j u hu=>?_,fun a n c hv=>by rw [hl];exact h.room a n c hv⟩
 ·rw [hl];exact h.addr (fun e0=>hne (List.length_eq_zero_iff.1 (by rw [hl,e0];rfl)))
 ·have h1:(l.map enc)[i]? =some (enc x):=by rw [e,List.getElem?_map,hx];rfl
  rw [List.getElem?_map] at h1
  cases hy:l[i]? with
  | none=>rw [hy] at h1;cases h1
  | some y=>
   rw [hy] at h1
   simp only [Option.map_some,Option.some.injEq] at h1
   exact h.get i y hy j u (by rw [h1];exact hu)
structure Q4 where
 a:Str
 b:Str
 at_:Int
 h:Hp
theorem mO {i:Int}(h0:0≤i)(h1:i<4):∃s,labelsL[i.toNat]? =some s:=⟨_,List.getElem?_eq_getElem (by show i.toNat<4;omega)⟩
end Go.Sx
namespace Go.Sx
open Go
def ff (x:SPoint)(r:Str):Bool:=decide (x.frm=r)||decide (x.to=r)
def iV:List Bool→List Int→List Int→List Bool×List Int
 | met,todo,[]=>(met,todo)
 | met,todo,i::r=>if 0≤i∧met[i.toNat]? =some false then iV (met.set i.toNat true) (todo++[i]) r else iV met todo r
def ik:List Bool→List Int→List SArm→List Bool×List Int
 | met,todo,[]=>(met,todo)
 | met,todo,a::r=>if met[a.next.toNat]? =some false then ik (met.set a.next.toNat true) (todo++[a.next]) r else ik met todo r
def iT (p:SProto)(role:Str)(j:Int)(met:List Bool)(todo:List Int):List Bool×List Int:=match p.points[j.toNat]? with
 | none=>(met,todo)
 | some x=>if ff x role=true then(met,todo) else ik met todo x.arms
def gy (p:SProto)(role:Str):Nat→Nat→List Bool→List Int→List Bool×List Int
 | 0,_,met,todo=>(met,todo)
 | f+1,i,met,todo=>match todo[i]? with
  | none=>(met,todo)
  | some j=>gy p role f (i+1) (iT p role j met todo).1 (iT p role j met todo).2
def Dv (met:List Bool):List Int:=((List.range met.length).filter (fun i=>met[i]? ==some true)).map (fun i:Nat=>(i:Int))
def iU (p:SProto)(role:Str)(frm:List Int):List Bool×List Int:=iV (List.replicate p.points.length false) [] frm
def cZ (p:SProto)(role:Str)(frm:List Int):List Int:=Dv (gy p role p.points.length 0 (iU p role frm).1 (iU p role frm).2).1
structure Met (n:Nat)(met:List Bool)(todo:List Int):Prop where
 len:met.length=n
 cnt:todo.length=met.count true
 rng:∀j∈todo,0≤j∧j<n
theorem Met.le {n:Nat}{met:List Bool}{todo:List Int}(h:Met n met todo):todo.length≤n:=by
 rw [h.cnt,← h.len];exact List.count_le_length
theorem Met.zero (n:Nat):Met n (List.replicate n false) []:=⟨by simp,by simp [List.count_replicate],by simp⟩
theorem Cw {l:List Bool}{i:Nat}(h:l[i]? =some false):(l.set i true).count true=l.count true+1:=by
 induction l generalizing i with
 | nil=>simp at h
 | cons b l ih=>
  cases i with
  | zero=>simp at h;subst h;simp
  | succ i=>
   simp only [List.getElem?_cons_succ] at h
   have:=ih h
   simp only [List.set_cons_succ,List.count_cons,this]
   omega
theorem Met.set {n:Nat}{met:List Bool}{todo:List Int}(h:Met n met todo){j:Int}(h0:0≤j)(hj:met[j.toNat]? =some false):Met n (met.set j.toNat true) (todo++[j]):=by
 refine⟨by simp [h.len],by rw [Cw hj,List.length_append,h.cnt];rfl,fun x hx=>?_⟩
 rcases List.mem_append.1 hx with hx | hx
 ·exact h.rng x hx
 ·rw [List.mem_singleton.1 hx]
  have:=(List.getElem?_eq_some_iff.1 hj).1
  rw [h.len] at this
  exact⟨h0,by omega⟩
theorem qH {met:List Bool}{todo:List Int}{l:List Int}{i:Int}{k:Nat}(hx:l[k]? =some i)(h:¬(0≤i∧met[i.toNat]? =some false)):iV met todo (l.drop k)=iV met todo (l.drop (k+1)):=by
 rw [List.drop_eq_getElem?_toList_append,hx]
 simp only [Option.toList_some,List.singleton_append,iV,if_neg h]
theorem Bv {met:List Bool}{todo:List Int}{l:List Int}{i:Int}{k:Nat}(hx:l[k]? =some i)(h:0≤i∧met[i.toNat]? =some false):iV met todo (l.drop k)=iV (met.set i.toNat true) (todo++[i]) (l.drop (k+1)):=by
 rw [List.drop_eq_getElem?_toList_append,hx]
 simp only [Option.toList_some,List.singleton_append,iV,if_pos h]
theorem E1 {met:List Bool}{todo:List Int}{l:List SArm}{a:SArm}{k:Nat}(hx:l[k]? =some a)(h:¬met[a.next.toNat]? =some false):ik met todo (l.drop k)=ik met todo (l.drop (k+1)):=by
 rw [List.drop_eq_getElem?_toList_append,hx]
 simp only [Option.toList_some,List.singleton_append,ik,if_neg h]
theorem CD {met:List Bool}{todo:List Int}{l:List SArm}{a:SArm}{k:Nat}(hx:l[k]? =some a)(h:met[a.next.toNat]? =some false):ik met todo (l.drop k)=ik (met.set a.next.toNat true) (todo++[a.next]) (l.drop (k+1)):=by
 rw [List.drop_eq_getElem?_toList_append,hx]
 simp only [Option.toList_some,List.singleton_append,ik,if_pos h]
theorem zo {met:List Bool}{i:Int}(h0:0≤i)(h1:i<met.length):∃b,met[i.toNat]? =some b∧(met.map Value.bool)[0+i.toNat * 1]? =some (.bool b):=by
 have h2:i.toNat<met.length:=by omega
 refine⟨met[i.toNat],List.getElem?_eq_getElem h2,?_⟩
 rw [Nat.zero_add,Nat.mul_one,List.getElem?_map,List.getElem?_eq_getElem h2];rfl
theorem tQ (met:List Bool)(k:Nat)(b:Bool)(h:met[k]? =some b):(((List.range (k+1)).filter (fun i=>met[i]? ==some true)).map (fun i:Nat=>(i:Int)))=((List.range k).filter (fun i=>met[i]? ==some true)).map (fun i:Nat=>(i:Int))++(if b=true then [(k:Int)] else []):=by
 rw [List.range_succ,List.filter_append,List.map_append]
 congr 1
 cases b<;>simp [h]
def nY (p:SProto):Prop:=∀x∈p.points,∀a∈x.arms,0≤a.next∧a.next<p.points.length
theorem nr {a b:List Int}(h:¬(a.length:Int)=b.length):decide (a=b)=false:=by
 simp only [decide_eq_false_iff_not];rintro rfl;exact h rfl
theorem qL {a b:List Int}{k:Int}{x y:Int}(hx:a[k.toNat]? =some x)(hy:b[k.toNat]? =some y)(h:¬x=y):decide (a=b)=false:=by
 simp only [decide_eq_false_iff_not];rintro rfl;rw [hx] at hy;exact h (Option.some.inj hy)
theorem ns {a b:List Int}{k:Int}(hl:a.length=b.length)(k0:0≤k)(hk:¬k<a.length)(h:a.take k.toNat=b.take k.toNat):decide (a=b)=true:=by
 simp only [decide_eq_true_iff]
 rwa [List.take_of_length_le omq,List.take_of_length_le omq] at h
theorem reps_b (n:Nat):gX n [.bool false]=(List.replicate n false).map Value.bool:=by
 induction n with
 | zero=>rfl
 | succ n ih=>rw [List.replicate_succ,List.map_cons,← ih];rfl
theorem mset {M:List Nat}{w0 w:World}{H0 H:Hp}{b:Nat}{met:List Bool}{i:Nat}{R:ak}(h:St M w0 H0 H ((b,(met.map Value.bool).set (0+i * 1) (.bool true))::R) w):St M w0 H0 H ((b,(met.set i true).map Value.bool)::R) w:=by
 rw [List.map_set]
 simpa using h
theorem mset1 {M:List Nat}{w0 w:World}{H0 H:Hp}{b:Nat}{met:List Bool}{i:Nat}{y:Nat×List Value}{R:ak}(h:St M w0 H0 H (y::(b,(met.map Value.bool).set (0+i * 1) (.bool true))::R) w):St M w0 H0 H (y::(b,(met.set i true).map Value.bool)::R) w:=by
 rw [List.map_set]
 simpa using h
theorem St.dropT {M:List Nat}{w0 w:World}{H0 H:Hp}{A B:ak}(h:St M w0 H0 H (A++B) w):St M w0 H0 H A w:=(h.perm List.perm_append_comm).dropN
theorem qG {p:SProto}{role:Str}{f i:Nat}{met:List Bool}{todo:List Int}{j:Int}{x:SPoint}{r:List Bool×List Int}(hj:todo[i]? =some j)(hx:p.points[j.toNat]? =some x)(hr:(if ff x role=true then(met,todo) else ik met todo x.arms)=r):gy p role (f+1) i met todo=gy p role f (i+1) r.1 r.2:=by
 rw [gy,hj]
 simp only [iT,hx,hr]
theorem Bu {p:SProto}{role:Str}{f i:Nat}{met:List Bool}{todo:List Int}(h:todo.length≤i):gy p role f i met todo=(met,todo):=by
 cases f with
 | zero=>rfl
 | succ f=>rw [gy,List.getElem?_eq_none h]
def jX (met:List Bool)(k:Nat):List Int:=((List.range k).filter (fun i=>met[i]? ==some true)).map (fun i:Nat=>(i:Int))
theorem Bm {met:List Bool}{k:Int}(k0:0≤k)(h:met[k.toNat]? =some true):jX met (k+1).toNat=jX met k.toNat++[k]:=by
 unfold jX
 rw [show(k+1).toNat=k.toNat+1 by omega,tQ met k.toNat true h]
 simp;omega
theorem Dw {met:List Bool}{k:Int}(k0:0≤k)(h:met[k.toNat]? =some false):jX met (k+1).toNat=jX met k.toNat:=by
 unfold jX
 rw [show(k+1).toNat=k.toNat+1 by omega,tQ met k.toNat false h]
 simp
theorem tR (met:List Bool)(k:Nat):(jX met k).length≤k:=by
 unfold jX
 rw [List.length_map]
 exact Nat.le_trans (List.length_filter_le _ _) sq
theorem no {n:Nat}:∀{l:List Int} {met:List Bool} {todo:List Int},Met n met todo→Met n (iV met todo l).1 (iV met todo l).2
 | [],_,_,h=>h
 | i::r,met,todo,h=>by
  unfold iV
  split
  ·rename_i hc;exact no (h.set hc.1 hc.2)
  ·exact no h
theorem nU {n:Nat}:∀{l:List SArm} {met:List Bool} {todo:List Int},(∀a∈l,0≤a.next)→Met n met todo→Met n (ik met todo l).1 (ik met todo l).2
 | [],_,_,_,h=>h
 | a::r,met,todo,hn,h=>by
  unfold ik
  split
  ·rename_i hc;exact nU (fun x hx=>hn x (List.mem_cons_of_mem _ hx)) (h.set (hn a sq) hc)
  ·exact nU (fun x hx=>hn x (List.mem_cons_of_mem _ hx)) h
theorem uU {n:Nat}{p:SProto}{role:Str}(hN:nY p){j:Int}{met:List Bool}{todo:List Int}(h:Met n met todo):Met n (iT p role j met todo).1 (iT p role j met todo).2:=by
 unfold iT
 split
 ·exact h
 ·rename_i x hx
  split
  ·exact h
  ·exact nU (fun a ha=>(hN x (List.mem_of_getElem? hx) a ha).1) h
theorem tX {n:Nat}{p:SProto}{role:Str}(hN:nY p):∀{f i:Nat} {met:List Bool} {todo:List Int},Met n met todo→Met n (gy p role f i met todo).1 (gy p role f i met todo).2
 | 0,_,_,_,h=>h
 | f+1,i,met,todo,h=>by
  unfold gy
  split
  ·exact h
  ·exact tX hN (uU hN h)
theorem nn {p:SProto}{role:Str}(hN:nY p)(frm:List Int):Met p.points.length (gy p role p.points.length 0 (iU p role frm).1 (iU p role frm).2).1 (gy p role p.points.length 0 (iU p role frm).1 (iU p role frm).2).2:=tX hN (no (Met.zero _))
theorem nl {p:SProto}{role:Str}(hN:nY p){frm:List Int}:∀j∈cZ p role frm,0≤j∧j<p.points.length:=by
 intro j hj
 unfold cZ Dv at hj
 obtain⟨i,hi,rfl⟩:=List.mem_map.1 hj
 have h1:=List.mem_range.1 (List.mem_filter.1 hi).1
 rw [(nn hN frm).len] at h1
 exact o2q
theorem kE {p:SProto}{role:Str}(hN:nY p){frm:List Int}:(cZ p role frm).length≤p.points.length:=by
 have:=tR (gy p role p.points.length 0 (iU p role frm).1 (iU p role frm).2).1 (gy p role p.points.length 0 (iU p role frm).1 (iU p role frm).2).1.length
 rw [(nn hN frm).len] at this
 unfold cZ Dv
 rw [(nn hN frm).len]
 exact this
def inP (p:SProto)(role:Str)(i:Int):Bool:=match p.points[i.toNat]? with
 | some x=>ff x role
 | none=>false
def ej (p:SProto)(role:Str)(l:List Int):List Int:=l.filter (inP p role)
theorem Eh {p:SProto}{role:Str}{l:List Int}{i:Int}{k:Int}(k0:0≤k)(hx:l[k.toNat]? =some i)(h:inP p role i=true):ej p role (l.take (k+1).toNat)=ej p role (l.take k.toNat)++[i]:=by
 rw [bM k0 hx];unfold ej;rw [List.filter_append];simp [h]
theorem near_no {p:SProto}{role:Str}{l:List Int}{i:Int}{k:Int}(k0:0≤k)(hx:l[k.toNat]? =some i)(h:inP p role i=false):ej p role (l.take (k+1).toNat)=ej p role (l.take k.toNat):=by
 rw [bM k0 hx];unfold ej;rw [List.filter_append];simp [h]
theorem nE {p:SProto}{role:Str}(l:List Int):(ej p role l).length≤l.length:=List.length_filter_le _ _
def lo (p:SProto)(role:Str)(i:Int):Bool:=decide ((ej p role (cZ p role [i])).length=0)
structure GRow where
 l:List Int
 sp:Sp
def GRow.cells (r:GRow):List Value:=[.slice r.sp.1 r.l.length r.sp.2]
instance :Cells 1 GRow.cells:=⟨fun _=>rfl,by decide,fun _=>rfl⟩
def iG:List (List Int)→List Int→Option Nat
 | [],_=>none
 | y::r,x=>if y=x then some 0 else(iG r x).map (· +1)
theorem qu:∀{l:List (List Int)} {x:List Int} {k:Nat},l[k]? =some x→(∀j,j<k→l[j]? ≠some x)→iG l x=some k
 | [],_,_,h,_=>by simp at h
 | y::r,x,0,h,_=>by simp at h;unfold iG;rw [if_pos h]
 | y::r,x,k+1,h,hn=>by
  unfold iG
  rw [if_neg (fun e=>hn 0 omq (by simp [e])),qu (k:=k) (by simpa using h) (fun j hj=>by have:=hn (j+1) omq;simpa using this)]
  rfl
theorem qv:∀{l:List (List Int)} {x:List Int},(∀j,j<l.length→l[j]? ≠some x)→iG l x=none
 | [],_,_=>rfl
 | y::r,x,hn=>by
  unfold iG
  rw [if_neg (fun e=>hn 0 sq (by simp [e])),qv (fun j hj=>by have:=hn (j+1) (by simp;omega);simpa using this)]
  rfl
def bS (p:SProto)(role:Str)(sets:List (List Int))(frm:List Int):Int×Int×List (List Int):=
 if 0<(ej p role (cZ p role frm)).length∧(cZ p role frm).any (lo p role)=true then(0,801,sets)
 else match iG sets (ej p role (cZ p role frm)) with
  | some i=>(i,0,sets)
  | none=>if sets.length=40 then(0,805,sets) else(sets.length,0,sets++[ej p role (cZ p role frm)])
def WK (p:SProto)(role:Str)(sv:Value):List Value:=[gs p.name,.slice p.rp.1 p.roles.length p.rp.2,.slice p.pp.1 p.points.length p.pp.2,gs role,sv]
def GRowsOk (H:Hp)(rows:List GRow):Prop:=∀r∈rows,RdSl H 1 I64.cells (.slice r.sp.1 r.l.length r.sp.2) r.l
theorem GRowsOk.le {H H':Hp}{rows:List GRow}(h:GRowsOk H rows)(hl:H.le H'):GRowsOk H' rows:=fun r hr=>(h r hr).le hl
section
variable {p:SProto}{role:Str}{sets:List (List Int)}{frm:List Int}
theorem Ce {k:Int}{j:Int}(hx:(cZ p role frm)[k.toNat]? =some j)(hl:lo p role j=true)(hn:0<(ej p role (cZ p role frm)).length):bS p role sets frm=(0,801,sets):=by
 unfold bS
 rw [if_pos ⟨hn,List.any_eq_true.2 ⟨j,List.mem_of_getElem? hx,hl⟩⟩]
theorem Cd {k:Nat}(hno:¬(0<(ej p role (cZ p role frm)).length∧(cZ p role frm).any (lo p role)=true))(hx:sets[k]? =some (ej p role (cZ p role frm)))(hn:∀j,j<k→sets[j]? ≠some (ej p role (cZ p role frm))):bS p role sets frm=((k:Int),0,sets):=by
 unfold bS
 rw [if_neg hno,qu hx hn]
theorem uw (hno:¬(0<(ej p role (cZ p role frm)).length∧(cZ p role frm).any (lo p role)=true))(hn:∀j,j<sets.length→sets[j]? ≠some (ej p role (cZ p role frm))):bS p role sets frm=if sets.length=40 then((0:Int),(805:Int),sets) else((sets.length:Int),(0:Int),sets++[ej p role (cZ p role frm)]):=by
 unfold bS
 rw [if_neg hno,qv hn]
end
theorem no_lost {p:SProto}{role:Str}{l:List Int}{n:Nat}{k:Int}(k0:0≤k)(h:∀j:Nat,j<k.toNat→∀i,l[j]? =some i→lo p role i=false)(hk:¬k<l.length∨¬0<n):¬(0<n∧l.any (lo p role)=true):=by
 rintro⟨h1,h2⟩
 obtain⟨i,hi,hl⟩:=List.any_eq_true.1 h2
 obtain⟨j,hj⟩:=List.getElem?_of_mem hi
 have hjl:=(List.getElem?_eq_some_iff.1 hj).1
 rcases hk with hk | hk
 ·rw [h j omq i hj] at hl;cases hl
 ·exact hk h1
section
variable {P:Program}{n:Nat}{ops:Array Oper}{Q:Exit→Act→World→Prop}{E:Env}{M:List Nat}{w0:World}{H0 H:Hp}{L:ak}{rest:List Oper}{dst:Option Nat}{op:Op}{ty:TypeId}{pos:String}{aft:Array Edge}
def KFn (P:Program)(b:Nat)(cs:List Value)(f:FuncId)(args:List Value)(H:Hp)(R:Value→Hp→ak→Prop):Prop:=FnX P f args H [(b,cs)] (fun v H' L'=>∃ob,L'=(b,cs)::ob∧R v H' ob)
theorem m5 {f:FuncId}{args:List Value}{X Y:ak}{b:Nat}{cs:List Value}{R:Value→Hp→ak→Prop}(hL:L=X++(b,cs)::Y)(hE:cS P E op f args)(hF:KFn P b cs f args H R)(hd:cx dst n=true)
  (h:∀v H' ob,H.le H'→(∀p∈ob,w0.heap.size≤p.1)→R v H' ob→TL P n ops Q rest (cr dst v E) (St M w0 H0 H' (X++(b,cs)::(Y++ob)))):
  TL P n ops Q ({dst:=dst,op:=op,type:=ty,pos:=pos,after:=aft,guard:=none}::rest) E (St M w0 H0 H L):=by
 subst hL
 refine aV (xT X _ Y) ?_
 intro a w he hw
 refine cA rfl (fun K hK=>?_)
 unfold Oper.wp
 rw [hE n a w _ rfl he]
 refine(hF w hw.pass1).mono ?_
 rintro e w' ⟨v,H',L1',rfl,hst,ob,rfl,hR⟩
 have hf:∀p∈ob,w0.heap.size≤p.1:=fun p hp=>by
  rcases hst.mine p (List.mem_cons_of_mem _ hp) with hm | hm
  ·have h2:=hst.nd
   simp only [List.map_cons,List.nodup_cons] at h2
   have h3:p.1=b:=by simpa [keys] using hm
   exact absurd (List.mem_map.2 ⟨p,hp,h3⟩) h2.1
  ·exact Nat.le_trans hw.size hm
 have h1:=(hw.pastX hst).perm (um X _ Y ob)
 exact hK _ _ (h v H' ob hst.fr.1 hf hR _ _ (he.put hd) h1)
end
def fG (p:SProto)(role:Str):Nat→Int→Str→List Int→Int×Str×Int
 | _,kind,peer,[]=>(kind,peer,0)
 | i,kind,peer,j::r=>match p.points[j.toNat]? with
  | none=>(kind,peer,0)
  | some x=>if 0<i∧¬((if x.to=role then 2 else 1)=kind∧(if x.to=role then x.frm else x.to)=peer) then(0,[],802)
   else fG p role (i+1) (if x.to=role then 2 else 1) (if x.to=role then x.frm else x.to) r
def du (p:SProto)(role:Str)(set:List Int):Int×Str×Int:=fG p role 0 0 [] set
theorem jq {p:SProto}{role:Str}{kind:Int}{peer:Str}{l:List Int}{k:Nat}{j:Int}{x:SPoint}{i:Nat}(hx:l[k]? =some j)(hp:p.points[j.toNat]? =some x)(h:0<i∧¬((if x.to=role then 2 else 1)=kind∧(if x.to=role then x.frm else x.to)=peer)):fG p role i kind peer (l.drop k)=(0,[],802):=by
 rw [List.drop_eq_getElem?_toList_append,hx]
 simp only [Option.toList_some,List.singleton_append,fG,hp,if_pos h]
theorem iq {p:SProto}{role:Str}{kind:Int}{peer:Str}{l:List Int}{k:Nat}{j:Int}{x:SPoint}{i:Nat}(hx:l[k]? =some j)(hp:p.points[j.toNat]? =some x)(h:¬(0<i∧¬((if x.to=role then 2 else 1)=kind∧(if x.to=role then x.frm else x.to)=peer))):fG p role i kind peer (l.drop k)=fG p role (i+1) (if x.to=role then 2 else 1) (if x.to=role then x.frm else x.to) (l.drop (k+1)):=by
 rw [List.drop_eq_getElem?_toList_append,hx]
 simp only [Option.toList_some,List.singleton_append,fG,hp,if_neg h]
def kn (o:List Str)(l:List SArm):List Str:=l.foldl (fun o a=>o.foldl cw [a.label]) o
def mP (p:SProto)(o:List Str)(l:List Int):List Str:=l.foldl (fun o j=>match p.points[j.toNat]? with | some x=>kn o x.arms | none=>o) o
def eG (p:SProto)(l:List Int):List Str:=mP p [] l
def oL (p:SProto)(n:Nat)(j:Int):Bool:=match p.points[j.toNat]? with
 | some x=>decide ((x.arms.length:Int)=n)
 | none=>true
def nV (p:SProto)(l:List Int):Bool:=l.all (oL p (eG p l).length)
theorem xP:∀(l:List Str) (s:Str),(cw l s).length≤l.length+1
 | [],s=>by simp [cw]
 | x::r,s=>by
  have:=xP r s
  unfold cw
  split
  ·simp;omega
  ·split<;>simp
theorem oU:∀(l o:List Str),(l.foldl cw o).length≤l.length+o.length
 | [],o=>by simp
 | x::r,o=>by
  have h1:=oU r (cw o x)
  have h2:=xP o x
  simp only [List.foldl_cons,List.length_cons]
  omega
theorem Cj {o:List Str}{l:List SArm}{k:Int}{a:SArm}(k0:0≤k)(hx:l[k.toNat]? =some a):kn o (l.take (k+1).toNat)=(kn o (l.take k.toNat)).foldl cw [a.label]:=by
 rw [bM k0 hx];unfold kn;rw [List.foldl_append];rfl
theorem ry:∀(o:List Str) (l:List SArm),(kn o l).length≤o.length+l.length
 | o,[]=>by simp [kn]
 | o,a::r=>by
  have h1:=ry (o.foldl cw [a.label]) r
  have h2:=oU o [a.label]
  have e:kn o (a::r)=kn (o.foldl cw [a.label]) r:=rfl
  rw [e]
  simp only [List.length_cons,List.length_nil] at *
  omega
theorem Ci {p:SProto}{o:List Str}{l:List Int}{k:Int}{j:Int}{x:SPoint}(k0:0≤k)(hx:l[k.toNat]? =some j)(hp:p.points[j.toNat]? =some x):mP p o (l.take (k+1).toNat)=kn (mP p o (l.take k.toNat)) x.arms:=by
 rw [bM k0 hx];unfold mP;rw [List.foldl_append];simp only [List.foldl_cons,List.foldl_nil,hp]
theorem yl {p:SProto}(h6:∀x∈p.points,x.arms.length≤6):∀(l:List Int) (o:List Str),(mP p o l).length≤o.length+6 * l.length
 | [],o=>by simp [mP]
 | j::r,o=>by
  have key:∀o',(mP p o' r).length≤o'.length+6 * r.length:=fun o'=>yl h6 r o'
  show(mP p (match p.points[j.toNat]? with | some x=>kn o x.arms | none=>o) r).length≤_
  cases hj:p.points[j.toNat]? with
  | none=>have:=key o;simp only [List.length_cons];omega
  | some x=>
   have h1:=key (kn o x.arms)
   have h2:=ry o x.arms
   have h3:=h6 x (List.mem_of_getElem? hj)
   simp only [List.length_cons];omega
def jD (p:SProto)(s:Str):Int→Str→List Int→List Int→Int×Str×List Int×Bool
 | ck,cn,to,[]=>(ck,cn,to,true)
 | ck,cn,to,j::r=>match p.points[j.toNat]? with
  | none=>jD p s ck cn to r
  | some x=>if ci (x.arms.map (·.label)) s<0 then jD p s ck cn to r else match x.arms[(ci (x.arms.map (·.label)) s).toNat]? with
   | none=>jD p s ck cn to r
   | some a=>if 0<to.length∧¬(a.ck=ck∧a.cn=cn) then(ck,cn,[],false) else jD p s a.ck a.cn (to++[a.next]) r
def el (p:SProto)(l:List Int)(s:Str):Int×Str×List Int×Bool:=jD p s 0 [] [] l
section
variable {p:SProto}{s:Str}{ck:Int}{cn:Str}{to l:List Int}{k:Nat}{j:Int}{x:SPoint}
theorem Cz (hx:l[k]? =some j)(hp:p.points[j.toNat]? =some x)(h:ci (x.arms.map (·.label)) s<0):jD p s ck cn to (l.drop k)=jD p s ck cn to (l.drop (k+1)):=by
 rw [List.drop_eq_getElem?_toList_append,hx]
 simp only [Option.toList_some,List.singleton_append,jD,hp,if_pos h]
theorem EP {a:SArm}(hx:l[k]? =some j)(hp:p.points[j.toNat]? =some x)(h:¬ci (x.arms.map (·.label)) s<0)(ha:x.arms[(ci (x.arms.map (·.label)) s).toNat]? =some a)(hb:0<to.length∧¬(a.ck=ck∧a.cn=cn)):jD p s ck cn to (l.drop k)=(ck,cn,[],false):=by
 rw [List.drop_eq_getElem?_toList_append,hx]
 simp only [Option.toList_some,List.singleton_append,jD,hp,if_neg h,ha,if_pos hb]
theorem uJ {a:SArm}(hx:l[k]? =some j)(hp:p.points[j.toNat]? =some x)(h:¬ci (x.arms.map (·.label)) s<0)(ha:x.arms[(ci (x.arms.map (·.label)) s).toNat]? =some a)(hb:¬(0<to.length∧¬(a.ck=ck∧a.cn=cn))):jD p s ck cn to (l.drop k)=jD p s a.ck a.cn (to++[a.next]) (l.drop (k+1)):=by
 rw [List.drop_eq_getElem?_toList_append,hx]
 simp only [Option.toList_some,List.singleton_append,jD,hp,if_neg h,ha,if_neg hb]
end
section
variable {P:Program}{n:Nat}{ops:Array Oper}{Q:Exit→Act→World→Prop}{E:Env}{M:List Nat}{w0:World}{H0 H:Hp}{L:ak}{rest:List Oper}{dst:Option Nat}{op:Op}{ty:TypeId}{pos:String}{aft:Array Edge}
theorem AL (X A Y:ak):(X++(A++Y)).Perm (A++(X++Y)):=by
 rw [← List.append_assoc,← List.append_assoc];exact(List.perm_append_comm).append_right Y
theorem nX {f:FuncId}{args:List Value}{X A Y:ak}{Φ:Value→Hp→ak→Prop}(hL:L=X++(A++Y))(hE:cS P E op f args)(hF:FnX P f args H A Φ)(hd:cx dst n=true)
  (h:∀v H' A',H.le H'→Φ v H' A'→TL P n ops Q rest (cr dst v E) (St M w0 H0 H' (X++(A'++Y)))):
  TL P n ops Q ({dst:=dst,op:=op,type:=ty,pos:=pos,after:=aft,guard:=none}::rest) E (St M w0 H0 H L):=by
 subst hL
 refine aV (AL X A Y) (dW hE hF hd fun v H' A' hle hΦ=>?_)
 exact aV (AL X A' Y).symm (h v H' A' hle hΦ)
end
def dh (p:SProto)(role:Str)(set:List Int):List Str→List (List Int)→List SArm→List SArm×Int×List (List Int)
 | [],sets,acc=>(acc,0,sets)
 | lb::r,sets,acc=>if(bS p role sets (el p set lb).2.2.1).2.1≠0 then([],(bS p role sets (el p set lb).2.2.1).2.1,(bS p role sets (el p set lb).2.2.1).2.2)
  else dh p role set r (bS p role sets (el p set lb).2.2.1).2.2 (acc++[⟨lb,(el p set lb).1,(el p set lb).2.1,(bS p role sets (el p set lb).2.2.1).1⟩])
def nP (p:SProto)(set:List Int)(lb:Str):Bool:=(el p set lb).2.2.2
def bH (p:SProto)(role:Str)(sets:List (List Int))(set:List Int):(Int×Str×List SArm)×Int×List (List Int):=
 if set.length=0 then((0,[],[]),0,sets)
 else if(du p role set).2.2≠0 then((0,[],[]),(du p role set).2.2,sets)
 else if(du p role set).1=1∧nV p set=false then((0,[],[]),803,sets)
 else if 6<(eG p set).length then((0,[],[]),805,sets)
 else if(eG p set).all (nP p set)=false then((0,[],[]),804,sets)
 else if(dh p role set (eG p set) sets []).2.1≠0 then((0,[],[]),(dh p role set (eG p set) sets []).2.1,(dh p role set (eG p set) sets []).2.2)
 else(((du p role set).1,(du p role set).2.1,(dh p role set (eG p set) sets []).1),0,(dh p role set (eG p set) sets []).2.2)
section
variable {p:SProto}{role:Str}{set:List Int}{sets:List (List Int)}{acc:List SArm}{l:List Str}{k:Nat}{lb:Str}
theorem Bl (hx:l[k]? =some lb)(h:(bS p role sets (el p set lb).2.2.1).2.1≠0):dh p role set (l.drop k) sets acc=([],(bS p role sets (el p set lb).2.2.1).2.1,(bS p role sets (el p set lb).2.2.1).2.2):=by
 rw [List.drop_eq_getElem?_toList_append,hx]
 simp only [Option.toList_some,List.singleton_append,dh,if_pos h]
theorem yW (hx:l[k]? =some lb)(h:¬(bS p role sets (el p set lb).2.2.1).2.1≠0):dh p role set (l.drop k) sets acc=dh p role set (l.drop (k+1)) (bS p role sets (el p set lb).2.2.1).2.2 (acc++[⟨lb,(el p set lb).1,(el p set lb).2.1,(bS p role sets (el p set lb).2.2.1).1⟩]):=by
 rw [List.drop_eq_getElem?_toList_append,hx]
 simp only [Option.toList_some,List.singleton_append,dh,if_neg h]
end
structure TQ1 where
 k:Int
 h:Hp
 sv:Value
 ob:ak
 rows:List GRow
 v:Value
 oa:ak
 arms:List SArm
theorem ku {p:SProto}{s:Str}:∀(l:List Int) (ck:Int) (cn:Str) (to:List Int),(jD p s ck cn to l).2.2.1.length≤to.length+l.length
 | [],_,_,to=>by simp [jD]
 | j::r,ck,cn,to=>by
  unfold jD
  split
  ·have:=ku (p:=p) (s:=s) r ck cn to;simp only [List.length_cons];omega
  ·split
   ·have:=ku (p:=p) (s:=s) r ck cn to;simp only [List.length_cons];omega
   ·split
    ·have:=ku (p:=p) (s:=s) r ck cn to;simp only [List.length_cons];omega
    ·rename_i a _
     split
     ·simp
     ·have:=ku (p:=p) (s:=s) r a.ck a.cn (to++[a.next]);simp only [List.length_append,List.length_cons,List.length_nil] at *;omega
theorem EO {p:SProto}{s:Str}(l:List Int):(el p l s).2.2.1.length≤l.length:=by
 have:=ku (p:=p) (s:=s) l 0 [] []
 simpa [el] using this
end Go.Sx
namespace Go.Sx
open Go
theorem AW:∀{s:Str} {k:Nat},s[k]? =some 46→(∀j,j<k→s[j]? ≠some 46)→Lib.index s [46]=(k:Int)
 | [],_,h,_=>by simp at h
 | b::l,0,h,_=>by
  simp at h;subst h
  simp [Lib.index,List.isPrefixOf]
 | b::l,k+1,h,hn=>by
  have h0:b≠46:=fun e=>hn 0 omq (by simp [e])
  have ih:=AW (s:=l) (k:=k) (by simpa using h) (fun j hj=>by have:=hn (j+1) omq;simpa using this)
  have h1:((46:UInt8)==b)=false:=by simpa using Ne.symm h0
  have h2:((k:Int)== -1)=false:=by rw [beq_eq_false_iff_ne];omega
  simp [Lib.index,List.isPrefixOf,h1,ih,h2]
theorem yo:∀{s:Str},(∀j,j<s.length→s[j]? ≠some 46)→Lib.index s [46]= -1
 | [],_=>by simp [Lib.index]
 | b::l,hn=>by
  have h0:b≠46:=fun e=>hn 0 sq (by simp [e])
  have ih:=yo (s:=l) (fun j hj=>by have:=hn (j+1) (by simp;omega);simpa using this)
  have h1:((46:UInt8)==b)=false:=by simpa using Ne.symm h0
  simp [Lib.index,List.isPrefixOf,h1,ih]
theorem cut_hit {s:Str}{k:Nat}(h:s[k]? =some 46)(hn:∀j,j<k→s[j]? ≠some 46):lS s=(s.take k,s.drop (k+1),true):=by
 unfold lS Lib.cut
 rw [AW h hn,if_pos omq]
 simp
theorem EL {s:Str}(hn:∀j,j<s.length→s[j]? ≠some 46):lS s=(s,[],false):=by
 unfold lS Lib.cut
 rw [yo hn,if_neg omq]
def kx (s:Str):Bool:=aH (lS s).1&&(!(lS s).2.2||aH (lS s).2.1)
theorem lC {s:Str}{k:Int}(k0:0≤k)(h:s[k.toNat]? =some 46)(hn:∀j:Nat,j<k.toNat→s[j]? ≠some 46):kx s=(aH (s.take k.toNat)&&aH (s.drop (k+1).toNat)):=by
 unfold kx
 rw [cut_hit h hn,show(k+1).toNat=k.toNat+1 by omega];rfl
theorem jW {s:Str}(hn:∀j:Nat,j<s.length→s[j]? ≠some 46):kx s=aH s:=by
 unfold kx
 rw [EL hn];simp
theorem kO {ck:Int}{cn:Str}(h:ck=5):di ck cn=kx cn:=by subst h;rfl
theorem fB {ck:Int}{cn:Str}(h:¬ck=5):di ck cn=(decide (0≤ck)&&(decide (ck<5)&&decide (cn=[]))):=by
 unfold di
 by_cases h1:ck<0∨5<ck
 ·rw [if_pos h1]
  rcases h1 with h1 | h1
  ·rw [show decide (0≤ck)=false from decide_eq_false omq];rfl
  ·rw [show decide (ck<5)=false from decide_eq_false omq];simp
 ·rw [if_neg h1,if_pos h,show decide (0≤ck)=true from decide_eq_true omq,show decide (ck<5)=true from decide_eq_true omq];simp
def cX (roles:List Str)(n:Int)(x:SPoint):Bool:=eV x||(eT roles x&&dZ x.arms n)
def jL (p:SProto):Bool:=aH p.name&&(decide ((2:Int)≤p.roles.length)&&(decide ((p.roles.length:Int)≤5)&&(dT p.roles&&(decide ((1:Int)≤p.points.length)&&decide ((p.points.length:Int)≤24)))))
def dB (p:SProto):Bool:=jL p&&(p.roles.all aH&&p.points.all (cX p.roles p.points.length))
theorem u8_of {c:UInt8}(h:(c.toNat:Int)=46):c=46:=by
 apply UInt8.toNat_inj.1
 have:(46:UInt8).toNat=46:=rfl
 omega
section
variable {l:List SArm}{n k m:Int}{a b:SArm}
theorem BE (k0:0≤k)(hx:l[k.toNat]? =some a)(h:fm n a=false)(hal:l.all (fm n)=(l.drop k.toNat).all (fm n)):false=dZ l n:=by
 have h1:l.all (fm n)=false:=dm k0 hx h hal
 unfold dZ;rw [h1];simp
theorem BD (k0:0≤k)(m0:0≤m)(hm:m<k)(hx:l[k.toNat]? =some a)(hb:l[m.toNat]? =some b)(h:b.label=a.label):false=dZ l n:=by
 have h1:dT (l.map (·.label))=false:=by
  unfold dT
  simp only [decide_eq_false_iff_not]
  intro hn
  have h2:(l.map (·.label))[k.toNat]? =some a.label:=iJ hx
  have h3:(l.map (·.label))[m.toNat]? =some b.label:=iJ hb
  obtain⟨hi,hi'⟩:=List.getElem?_eq_some_iff.1 h2
  obtain⟨hj,hj'⟩:=List.getElem?_eq_some_iff.1 h3
  exact List.pairwise_iff_getElem.1 hn m.toNat k.toNat hj hi omq (by rw [hi',hj',h])
 unfold dZ;rw [h1];simp
theorem DR (k0:0≤k)(hx:l[k.toNat]? =some a)(hnd:((l.map (·.label)).take k.toNat).Nodup)(hm:k≤m)(h:∀j:Nat,j<m.toNat→(l.map (·.label))[j]? ≠some a.label):((l.map (·.label)).take (k+1).toNat).Nodup:=by
 refine lD k0 (iJ hx) hnd (fun hm2=>?_)
 obtain⟨j,hj⟩:=List.getElem?_of_mem hm2
 have hlt:=(List.getElem?_eq_some_iff.1 hj).1
 rw [List.length_take] at hlt
 rw [List.getElem?_take,if_pos omq] at hj
 exact h j omq hj
theorem t8 (k0:0≤k)(hk:¬k<l.length)(hal:l.all (fm n)=(l.drop k.toNat).all (fm n))(hnd:((l.map (·.label)).take k.toNat).Nodup){r:Bool}(hr:r=(decide ((1:Int)≤l.length)&&decide ((l.length:Int)≤6))):r=dZ l n:=by
 have h1:l.all (fm n)=true:=cP k0 hk hal
 rw [List.take_of_length_le (by rw [List.length_map];omega)] at hnd
 unfold dZ dT
 rw [h1,hr,decide_eq_true hnd]
 have e1:decide ((1:Int)≤l.length)=decide (1≤l.length):=decide_eq_decide.2 omq
 have e2:decide ((l.length:Int)≤6)=decide (l.length≤6):=decide_eq_decide.2 omq
 rw [e1,e2];simp
end
theorem rpt_1 {r:List Str}{n:Int}{x:SPoint}(h:eV x=true):cX r n x=true:=by unfold cX;rw [h];rfl
def za (r:List Str)(n:Int)(x:SPoint):Bool:=eT r x&&dZ x.arms n
theorem rpt_2 {r:List Str}{n:Int}{x:SPoint}(h:(!za r n x)=false):cX r n x=true:=by unfold cX;rw [show(eT r x&&dZ x.arms n)=true from nb_F h,Bool.or_true]
theorem rpt_3 {r:List Str}{n:Int}{x:SPoint}(h1:eV x=false)(h:(!za r n x)=true):cX r n x=false:=by unfold cX;rw [show(eT r x&&dZ x.arms n)=false from BW h,h1];rfl
theorem mx {p:SProto}(h:(!jL p)=true):false=dB p:=by unfold dB;rw [BW h];rfl
theorem mw {p:SProto}(h1:p.roles.all aH=false):false=dB p:=by unfold dB;rw [h1];simp
theorem mv {p:SProto}(h1:p.points.all (cX p.roles p.points.length)=false):false=dB p:=by unfold dB;rw [h1];simp
theorem mu {p:SProto}(h:jL p=true)(h1:p.roles.all aH=true)(h2:p.points.all (cX p.roles p.points.length)=true):true=dB p:=by unfold dB;rw [h,h1,h2];rfl
structure RPOk (p:SProto):Prop where
 n1:1≤p.points.length
 n24:p.points.length≤24
 r5:p.roles.length≤5
 nx:nY p
 a6:∀x∈p.points,x.arms.length≤6
 rn:∀r∈p.roles,aH r=true
 nm:aH p.name=true
 pt:∀x∈p.points,cX p.roles p.points.length x=true
theorem RPOk.of {p:SProto}(h:dB p=true):RPOk p:=by
 unfold dB jL at h
 simp only [Bool.and_eq_true,decide_eq_true_eq] at h
 obtain⟨⟨h1,h2,h3,h4,h5,h6⟩,h7,h8⟩:=h
 have hpt:∀x∈p.points,cX p.roles p.points.length x=true:=List.all_eq_true.1 h8
 have key:∀x∈p.points,x.arms=[]∨dZ x.arms p.points.length=true:=fun x hx=>by
  have:=hpt x hx
  unfold cX eV at this
  simp only [Bool.or_eq_true,Bool.and_eq_true,decide_eq_true_eq] at this
  rcases this with ⟨_,_,h⟩ | ⟨_,h⟩
  ·exact .inl (List.length_eq_zero_iff.1 omq)
  ·exact .inr h
 refine⟨by omega,by omega,by omega,fun x hx a ha=>?_,fun x hx=>?_,List.all_eq_true.1 h7,h1,hpt⟩
 ·rcases key x hx with h | h
  ·rw [h] at ha;simp at ha
  ·unfold dZ at h
   simp only [Bool.and_eq_true] at h
   have:=List.all_eq_true.1 h.2.1 a ha
   unfold fm at this
   simp only [Bool.and_eq_true,Bool.not_eq_true',decide_eq_false_iff_not] at this
   omega
 ·rcases key x hx with h | h
  ·rw [h];simp
  ·unfold dZ at h
   simp only [Bool.and_eq_true,decide_eq_true_eq] at h
   omega
theorem mY {p:SProto}{s:Str}{B:Nat}(hB:∀x∈p.points,∀a∈x.arms,a.cn.length≤B):∀(l:List Int) (ck:Int) (cn:Str) (to:List Int),cn.length≤B→(jD p s ck cn to l).2.1.length≤B
 | [],_,_,_,h=>h
 | j::r,ck,cn,to,h=>by
  unfold jD
  split
  ·exact mY hB r _ _ _ h
  ·rename_i x hx
   split
   ·exact mY hB r _ _ _ h
   ·split
    ·exact mY hB r _ _ _ h
    ·rename_i a ha
     split
     ·exact h
     ·exact mY hB r _ _ _ (hB x (List.mem_of_getElem? hx) a (List.mem_of_getElem? ha))
theorem xp {p:SProto}{role:Str}{set:List Int}{B:Nat}(hB:∀x∈p.points,∀a∈x.arms,a.cn.length≤B):∀(l:List Str) (sets:List (List Int)) (acc:List SArm),(∀a∈acc,a.cn.length≤B)→∀a∈(dh p role set l sets acc).1,a.cn.length≤B
 | [],_,_,h=>h
 | lb::r,sets,acc,h=>by
  unfold dh
  split
  ·simp
  ·exact xp hB r _ _ (fN h (mY hB set 0 [] [] sq))
theorem Du {p:SProto}{role:Str}{sets:List (List Int)}{set:List Int}{B:Nat}(hB:∀x∈p.points,∀a∈x.arms,a.cn.length≤B):∀a∈(bH p role sets set).1.2.2,a.cn.length≤B:=by
 unfold bH
 split; · simp
 split; · simp
 split; · simp
 split; · simp
 split; · simp
 split; · simp
 exact xp hB _ _ _ sq
def kw (n:Nat)(sets:List (List Int)):Prop:=∀s∈sets,(∀j∈s,0≤j∧j<(n:Int))∧s.length≤n
theorem rt {p:SProto}{role:Str}(hN:nY p){sets:List (List Int)}{frm:List Int}(h:kw p.points.length sets):kw p.points.length (bS p role sets frm).2.2:=by
 unfold bS
 split
 ·exact h
 ·split
  ·exact h
  ·split
   ·exact h
   ·refine fN h ⟨fun j hj=>nl hN j (List.mem_filter.1 hj).1,Nat.le_trans (nE _) (kE hN)⟩
theorem qy {p:SProto}{role:Str}(hN:nY p){set:List Int}:∀(l:List Str) (sets:List (List Int)) (acc:List SArm),kw p.points.length sets→kw p.points.length (dh p role set l sets acc).2.2
 | [],_,_,h=>h
 | lb::r,sets,acc,h=>by
  unfold dh
  split
  ·exact rt hN h
  ·exact qy hN r _ _ (rt hN h)
theorem Ds {p:SProto}{role:Str}(hN:nY p){set:List Int}{sets:List (List Int)}(h:kw p.points.length sets):kw p.points.length (bH p role sets set).2.2:=by
 unfold bH
 split; · exact h
 split; · exact h
 split; · exact h
 split; · exact h
 split; · exact h
 split; · exact qy hN _ _ _ h
 exact qy hN _ _ _ h
abbrev TT:=Int×Str×List SArm
def tt (t:STurn):TT:=(t.kind,t.peer,t.arms)
def kX (p:SProto)(role:Str):Nat→Nat→List (List Int)→List TT→Int×List TT
 | 0,_,_,acc=>(0,acc)
 | f+1,i,sets,acc=>match sets[i]? with
  | none=>(0,acc)
  | some s=>if(bH p role sets s).2.1≠0 then((bH p role sets s).2.1,[]) else kX p role f (i+1) (bH p role sets s).2.2 (acc++[(bH p role sets s).1])
def dL (p:SProto)(role:Str):Int×List TT:=
 if(dB p&&cj p.roles role)=false then(800,[])
 else if(bS p role [] [0]).2.1≠0 then((bS p role [] [0]).2.1,[])
 else kX p role 41 0 (bS p role [] [0]).2.2 []
section
variable {p:SProto}{role:Str}{f i:Nat}{sets:List (List Int)}{acc:List TT}{s:List Int}
theorem xK (hs:sets[i]? =some s)(h:(bH p role sets s).2.1≠0):kX p role (f+1) i sets acc=((bH p role sets s).2.1,[]):=by
 rw [kX,hs];simp only [if_pos h]
theorem t7 (hs:sets[i]? =some s)(h:¬(bH p role sets s).2.1≠0):kX p role (f+1) i sets acc=kX p role f (i+1) (bH p role sets s).2.2 (acc++[(bH p role sets s).1]):=by
 rw [kX,hs];simp only [if_neg h]
theorem xJ (h:sets.length≤i):kX p role f i sets acc=(0,acc):=by
 cases f with
 | zero=>rfl
 | succ f=>rw [kX,List.getElem?_eq_none h]
end
structure TQ2 where
 k:Int
 h:Hp
 sv:Value
 ob:ak
 rows:List GRow
 v:Value
 oa:ak
 ts:List STurn
theorem rv {p:SProto}{role:Str}{sets:List (List Int)}{frm:List Int}:sets.length≤(bS p role sets frm).2.2.length:=by
 unfold bS
 split; · simp
 split; · simp
 split<;>simp
theorem qA {p:SProto}{role:Str}{set:List Int}:∀(l:List Str) (sets:List (List Int)) (acc:List SArm),sets.length≤(dh p role set l sets acc).2.2.length
 | [],_,_=>Nat.le_refl _
 | lb::r,sets,acc=>by
  unfold dh
  split
  ·exact rv
  ·exact Nat.le_trans rv (qA r _ _)
theorem xo {p:SProto}{role:Str}{set:List Int}{sets:List (List Int)}:sets.length≤(bH p role sets set).2.2.length:=by
 unfold bH
 split; · simp
 split; · simp
 split; · simp
 split; · simp
 split; · simp
 split; · exact qA _ _ _
 exact qA _ _ _
theorem perm_as (X:ak){a:Nat×List Value}{A B C:ak}:(X++((a::(A++B))++C)).Perm (X++(a::(A++(B++C)))):=by
 rw [List.cons_append,List.append_assoc]
def j5 (p:SProto):Nat→List Str→Int×Int
 | _,[]=>(0,0)
 | i,r::rs=>if(dL p r).1≠0 then((dL p r).1,(i:Int)) else j5 p (i+1) rs
def kY (p:SProto):Int×Int:=if dB p=false then(800,0) else j5 p 0 p.roles
theorem BK {p:SProto}{l:List Str}{k i:Nat}{r:Str}(hx:l[k]? =some r)(h:(dL p r).1≠0):j5 p i (l.drop k)=((dL p r).1,(i:Int)):=by
 rw [List.drop_eq_getElem?_toList_append,hx]
 simp only [Option.toList_some,List.singleton_append,j5,if_pos h]
theorem zb {p:SProto}{l:List Str}{k i:Nat}{r:Str}(hx:l[k]? =some r)(h:¬(dL p r).1≠0):j5 p i (l.drop k)=j5 p (i+1) (l.drop (k+1)):=by
 rw [List.drop_eq_getElem?_toList_append,hx]
 simp only [Option.toList_some,List.singleton_append,j5,if_neg h]
structure LsOk (H:Hp)(p:SProto)(k:Int)(ls:List SLocal):Prop where
 len:(ls.length:Int)=k
 at_:∀(i:Nat) (l:SLocal),ls[i]? =some l→∃r,p.roles[i]? =some r∧l.name=(p.name++[46])++r∧LocalOk H l∧l.turns.map tt=(dL p r).2
theorem LsOk.le {H H':Hp}{p:SProto}{k:Int}{ls:List SLocal}(h:LsOk H p k ls)(hl:H.le H'):LsOk H' p k ls:=⟨h.len,fun i l hi=>by
 obtain⟨r,h1,h2,h3,h4⟩:=h.at_ i l hi
 exact⟨r,h1,h2,h3.le hl,h4⟩⟩
theorem LsOk.snoc {H:Hp}{p:SProto}{k:Int}{ls:List SLocal}{l:SLocal}{r:Str}(h:LsOk H p k ls)(hr:p.roles[k.toNat]? =some r)(h1:l.name=(p.name++[46])++r)(h2:LocalOk H l)(h3:l.turns.map tt=(dL p r).2):LsOk H p (k+1) (ls++[l]):=by
 have hl:=h.len
 refine⟨by simp;omega,fun i x hi=>?_⟩
 by_cases hlt:i<ls.length
 ·rw [List.getElem?_append_left hlt] at hi;exact h.at_ i x hi
 ·rw [List.getElem?_append_right omq] at hi
  have h4:i - ls.length=0:=by
   have:=(List.getElem?_eq_some_iff.1 hi).1
   simp at this;omega
  rw [h4] at hi
  simp at hi;subst hi
  exact⟨r,by rwa [show i=k.toNat by omega],h1,h2,h3⟩
end Go.Sx
namespace Go.Sx
open Go
structure GP (H:Hp)(nm:Str)(p:SProto):Prop where
 ok:ProtoOk H p
 nm:p.name=nm
 rs:∃n,2≤n∧n≤5∧p.roles=rolesL.take n
theorem GP.le {H H':Hp}{nm:Str}{p:SProto}(h:GP H nm p)(hl:H.le H'):GP H' nm p:=⟨h.ok.le hl,h.nm,h.rs⟩
theorem GP.pr {H:Hp}{nm:Str}{p:SProto}(h:GP H nm p)(hn:nm=[112]∨nm=[113]):GPr p:=by
 obtain⟨n,h2,h5,hr⟩:=h.rs
 have hl:p.roles.length=n:=by rw [hr,List.length_take];show min n 5=n;omega
 exact⟨by rw [h.nm];exact hn,by omega,by omega,fun r hm=>by rw [hr] at hm;exact my hm⟩
def PsOk (H:Hp)(ps:List SProto):Prop:=∃p,GP H [112] p∧(ps=[p]∨∃q,GP H [113] q∧ps=[p,q])
theorem PsOk.le {H H':Hp}{ps:List SProto}(h:PsOk H ps)(hl:H.le H'):PsOk H' ps:=by
 obtain⟨p,hp,h⟩:=h
 refine⟨p,hp.le hl,?_⟩
 rcases h with h | ⟨q,hq,h⟩
 ·exact .inl h
 ·exact .inr ⟨q,hq.le hl,h⟩
theorem PsOk.pk {H:Hp}{ps:List SProto}(h:PsOk H ps):∀p∈ps,ProtoOk H p:=by
 obtain⟨p,hp,rfl | ⟨q,hq,rfl⟩⟩:=h<;>intro x hx<;>simp only [List.mem_cons,List.not_mem_nil,or_false] at hx
 ·subst hx;exact hp.ok
 ·rcases hx with rfl | rfl
  ·exact hp.ok
  ·exact hq.ok
theorem PsOk.pg {H:Hp}{ps:List SProto}(h:PsOk H ps):∀p∈ps,GPr p:=by
 obtain⟨p,hp,rfl | ⟨q,hq,rfl⟩⟩:=h<;>intro x hx<;>simp only [List.mem_cons,List.not_mem_nil,or_false] at hx
 ·subst hx;exact hp.pr (.inl rfl)
 ·rcases hx with rfl | rfl
  ·exact hp.pr (.inl rfl)
  ·exact hq.pr (.inr rfl)
theorem PsOk.pn {H:Hp}{ps:List SProto}(h:PsOk H ps):0<ps.length∧ps.length≤2:=by
 obtain⟨p,hp,rfl | ⟨q,hq,rfl⟩⟩:=h<;>simp
theorem tyNm_of {n:Nat}{l:List Str}(h:l=rolesL.take n):∀s∈l.map (fun r=>([112]++[46])++r),TyNm s:=by
 intro s hs
 simp only [List.mem_map] at hs
 obtain⟨r,hr,rfl⟩:=hs
 exact⟨r,List.mem_of_mem_take (h▸hr),rfl⟩
end Go.Sx
