import Derived.Test.YtjnlogbbcceaoaaGreatR8
set_option linter.all false
set_option maxRecDepth 100000
set_option maxHeartbeats 32000000
namespace Go.Sx
open Go
structure XV where
 H:Hp
 tm:List Term
 ta:Option Addr
 tc:Nat
 oT:aj
 st:List TStep
 sa:Option Addr
 sc:Nat
 oS:aj
 oN:aj
 names:Int
 room:Int
 at_:Int
theorem InL.past {b:Nat}{cs:List Value}(A:aj){L:aj}(h:InL b cs L):InL b cs (A++L):=by
 induction A with
 | nil=>exact h
 | cons x A ih=>exact .there x ih
theorem SA {α:Type}{A l m:List α}(h:l.Sublist m):l.Sublist (A++m):=h.trans (List.sublist_append_right A m)
def Fx.cx (F:Fx)(V:XV):List Value:=[.pointer (some ⟨F.bd,0,none⟩),F.psv,gs F.nm,F.pa,.slice V.ta V.tm.length V.tc,.slice V.sa V.st.length V.sc,gs F.self,F.tyv,.int .i64 F.role,.int .i64 V.names,.int .i64 V.room]
def Fx.X (F:Fx)(V:XV):aj:=(F.bw,F.cx V)::(F.bd,[F.dl,.int .i64 V.at_])::(V.oT++(V.oS++V.oN))
structure XI (F:Fx)(V:XV)(m:Nat):Prop where
 fx:FxOk V.H F
 t:OwnSl 6 Term.cells (.slice V.ta V.tm.length V.tc) V.tm V.oT
 s:OwnSl 10 TStep.cells (.slice V.sa V.st.length V.sc) V.st V.oS
 n0:0≤V.names
 r0: -(V.st.length:Int)≤V.room
 r1:V.room≤100
 d:DiceOk V.H F.dl V.at_
 me:V.tm.length+V.st.length+V.names.toNat≤m
theorem XI.more {F:Fx}{V:XV}{m m':Nat}(h:XI F V m)(hm:m≤m'):XI F V m':={h with me:=Nat.le_trans h.me hm}
theorem XI.dice {F:Fx}{V:XV}{m:Nat}{H':Hp}{a:Int}(h:XI F V m)(hl:V.H.le H')(hd:DiceOk H' F.dl a):XI F {V with H:=H',at_:=a} m:=⟨h.fx.le hl,h.t,h.s,h.n0,h.r0,h.r1,hd,h.me⟩
theorem XI.pile {F:Fx}{V:XV}{m:Nat}{N:aj}(h:XI F V m):XI F {V with oN:=N} m:=⟨h.fx,h.t,h.s,h.n0,h.r0,h.r1,h.d,h.me⟩
structure XA (V V':XV)(ts:List Term)(ss:List TStep)(nm:Int):Prop where
 tm:V'.tm=V.tm++ts
 st:V'.st=V.st++ss
 nm:V'.names=V.names+nm
 rm:V'.room=V.room - ss.length
 nn:∀p∈V.oN,p∈V'.oN
theorem XA.refl (V:XV):XA V V [] [] 0:=⟨by simp,by simp,by simp,by simp,fun _ h=>h⟩
theorem XA.trans {A B C:XV}{ts us:List Term}{ss rs:List TStep}{a b:Int}(h:XA A B ts ss a)(k:XA B C us rs b):XA A C (ts++us) (ss++rs) (a+b):=
 ⟨by rw [k.tm,h.tm,List.append_assoc],by rw [k.st,h.st,List.append_assoc],by rw [k.nm,h.nm];omega,by rw [k.rm,h.rm];simp;omega,fun p hp=>k.nn p (h.nn p hp)⟩
theorem XA.tl {V V':XV}{ts:List Term}{ss:List TStep}{nm:Int}(h:XA V V' ts ss nm):V'.tm.length=V.tm.length+ts.length:=by rw [h.tm,List.length_append]
theorem XA.sl {V V':XV}{ts:List Term}{ss:List TStep}{nm:Int}(h:XA V V' ts ss nm):V'.st.length=V.st.length+ss.length:=by rw [h.st,List.length_append]
def PSl {α:Type}(k:Nat)(enc:α→List Value)(v:Value)(l:List α)(B:aj):Prop:=(v= .slice none 0 0∧l=[])∨∃b cap cs,v= .slice (some ⟨b,0,none⟩) l.length cap∧(b,cs)∈B∧cs.length=cap * k∧cs.take (l.length * k)=l.flatMap enc∧l.length≤cap∧cap≤9223372036854775807
theorem PSl.nil {α:Type}{k:Nat}{enc:α→List Value}{B:aj}:PSl k enc (.slice none 0 0) [] B:=.inl ⟨rfl,rfl⟩
theorem PSl.le {α:Type}{k:Nat}{enc:α→List Value}{v:Value}{l:List α}{B B':aj}(h:PSl k enc v l B)(hB:∀p∈B,p∈B'):PSl k enc v l B':=by
 rcases h with h | ⟨b,cap,cs,h1,h2,h3⟩
 ·exact .inl h
 ·exact .inr ⟨b,cap,cs,h1,hB _ h2,h3⟩
theorem PSl.own {α:Type}{k:Nat}{enc:α→List Value}{v:Value}{l:List α}{ob B:aj}(h:OwnSl k enc v l ob)(hB:∀p∈ob,p∈B):PSl k enc v l B:=by
 rcases h with ⟨rfl,rfl,rfl⟩ | ⟨b,cap,cs,rfl,rfl,h1,h2,h3,h4⟩
 ·exact .inl ⟨rfl,rfl⟩
 ·exact .inr ⟨b,cap,cs,rfl,hB _ sq,h1,h2,h3,h4⟩
theorem PSl.blk {α:Type}{k:Nat}{enc:α→List Value}[he:Cells k enc]{b n:Nat}{cs:List Value}{B:aj}(xs:List α)(hn:n=xs.length)(hc:cs=xs.flatMap enc)(hm:n≤9223372036854775807)(hB:(b,cs)∈B):PSl k enc (.slice (some ⟨b,0,none⟩) n n) xs B:=by
 subst hn hc
 have hl:(xs.flatMap enc).length=xs.length * k:=ji (fun x _=>he.len x)
 exact .inr ⟨b,xs.length,_,rfl,hB,hl,by rw [← hl,List.take_length],Nat.le_refl _,hm⟩
structure StepP (B:aj)(s:SStep):Prop where
 a:PSl 1 I64.cells (.slice s.ap.1 s.args.length s.ap.2) s.args B
 c:PSl 3 SCast.cells (.slice s.cp.1 s.casts.length s.cp.2) s.casts B
 cs:∀c∈s.casts,PSl 1 I64.cells (.slice c.ap.1 c.args.length c.ap.2) c.args B
 w:PSl 3 SWay.cells (.slice s.wp.1 s.ways.length s.wp.2) s.ways B
theorem StepP.le {B B':aj}{s:SStep}(h:StepP B s)(hB:∀p∈B,p∈B'):StepP B' s:=⟨h.a.le hB,h.c.le hB,fun c hc=>(h.cs c hc).le hB,h.w.le hB⟩
structure Mir (B:aj)(ss:List TStep)(xs:List SStep):Prop where
 c:ss.map TStep.cells=xs.map SStep.cells
 k:∀x∈xs,StepP B x
theorem Mir.nil {B:aj}:Mir B [] []:=⟨rfl,by simp⟩
theorem Mir.le {B B':aj}{ss:List TStep}{xs:List SStep}(h:Mir B ss xs)(hl:∀p∈B,p∈B'):Mir B' ss xs:=⟨h.c,fun x hx=>(h.k x hx).le hl⟩
theorem Mir.app {B:aj}{ss rs:List TStep}{xs ys:List SStep}(h:Mir B ss xs)(k:Mir B rs ys):Mir B (ss++rs) (xs++ys):=
 ⟨by rw [List.map_append,List.map_append,h.c,k.c],fun x hx=>by
  rcases List.mem_append.1 hx with hx | hx
  ·exact h.k x hx
  ·exact k.k x hx⟩
theorem Mir.len {B:aj}{ss:List TStep}{xs:List SStep}(h:Mir B ss xs):ss.length=xs.length:=by
 have:=congrArg List.length h.c
 simpa using this
theorem Mir.one {B:aj}{s:TStep}{x:SStep}(h:s.cells=x.cells)(k:StepP B x):Mir B [s] [x]:=⟨by simp [h],fun y hy=>by rw [List.mem_singleton.1 hy];exact k⟩
theorem oe (X P T S N:aj)(x:Nat×List Value):(X++x::(P++(T++(S++N)))).Perm (X++(P++(T++(S++x::N)))):=by
 refine List.Perm.append_left X ?_
 refine List.perm_middle.symm.trans (List.Perm.append_left P ?_)
 refine List.perm_middle.symm.trans (List.Perm.append_left T ?_)
 exact List.perm_middle.symm
theorem rY (X P O Q T S N:aj)(x:Nat×List Value):(X++x::(P++(O++(Q++(T++(S++N)))))).Perm (X++(P++(O++(Q++(T++(S++x::N)))))):=by
 refine List.Perm.append_left X ?_
 refine List.perm_middle.symm.trans (List.Perm.append_left P ?_)
 refine List.perm_middle.symm.trans (List.Perm.append_left O ?_)
 refine List.perm_middle.symm.trans (List.Perm.append_left Q ?_)
 refine List.perm_middle.symm.trans (List.Perm.append_left T ?_)
 exact List.perm_middle.symm
theorem ig (X P T S N O:aj):(X++(O++(P++(T++(S++N))))).Perm (X++(P++(T++(S++(O++N))))):=by
 refine List.Perm.append_left X ?_
 have key:∀A C:aj,(O++(A++C)).Perm (A++(O++C)):=fun A C=>by
  rw [← List.append_assoc,← List.append_assoc];exact List.Perm.append_right C List.perm_append_comm
 refine(key P _).trans (List.Perm.append_left P ?_)
 refine(key T _).trans (List.Perm.append_left T ?_)
 exact key S N
def WFx (P:Program)(F:Fx)(V:XV)(f:FuncId)(args:List Value)(k:Nat)(R:Value→XV→Prop):Prop:=
 ∀m,XI F V m→m+k≤10000000→FnX P f (.pointer (some ⟨F.bw,0,none⟩)::args) V.H (F.X V) (fun v H' L'=>∃V':XV,H'=V'.H∧L'=F.X V'∧XI F V' (m+k)∧R v V')
section
variable {P:Program}{n:Nat}{ops:Array Oper}{Q:Exit→Act→World→Prop}{E:Env}{M:List Nat}{w0:World}{H0 H:Hp}{L:aj}{C:World→Prop}{rest:List Oper}{dst:Option Nat}{op:Op}{ty:TypeId}{pos:String}{aft:Array Edge}
theorem aA {F:Fx}{V:XV}{f:FuncId}{args:List Value}{k m:Nat}{R:Value→XV→Prop}(X:aj)(hL:L=X++F.X V)(hH:H=V.H)(hE:cA P E op f (.pointer (some ⟨F.bw,0,none⟩)::args))(hF:WFx P F V f args k R)(hW:XI F V m)(hm:m+k≤10000000)(hd:cu dst n=true)
  (h:∀v (V':XV),V.H.le V'.H→XI F V' (m+k)→R v V'→TL P n ops Q rest (cr dst v E) (St M w0 H0 V'.H (X++F.X V'))):
  TL P n ops Q ({dst:=dst,op:=op,type:=ty,pos:=pos,after:=aft,guard:=none}::rest) E (St M w0 H0 H L):=by
 subst hL hH
 refine aM List.perm_append_comm (dY hE (hF m hW hm) hd fun v H' L1' hle hΦ=>?_)
 obtain⟨V',rfl,rfl,h1,h5⟩:=hΦ
 exact aM List.perm_append_comm (h v V' hle h1 h5)
theorem cI {F:Fx}{V:XV}{f:FuncId}{args:List Value}{k m:Nat}{R:Value→XV→Prop}(X O:aj)(hL:L=X++(O++F.X V))(hH:H=V.H)(hE:cA P E op f (.pointer (some ⟨F.bw,0,none⟩)::args))(hF:WFx P F V f args k R)(hW:XI F V m)(hm:m+k≤10000000)(hd:cu dst n=true)
  (h:∀v (V':XV),V.H.le V'.H→XI F V' (m+k)→R v V'→TL P n ops Q rest (cr dst v E) (St M w0 H0 V'.H (X++(O++F.X V')))):
  TL P n ops Q ({dst:=dst,op:=op,type:=ty,pos:=pos,after:=aft,guard:=none}::rest) E (St M w0 H0 H L):=by
 subst hL
 refine aM (L':=(X++O)++F.X V) (by rw [List.append_assoc]) (aA (X++O) rfl hH hE hF hW hm hd fun v V' a b c=>?_)
 exact aM (by rw [List.append_assoc]) (h v V' a b c)
theorem sX {f:FuncId}{args:List Value}{X O Y:aj}{x:Nat×List Value}{bd:Nat}{dl:Value}{at_:Int}{R:Value→Hp→Prop}(hL:L=X++(O++x::(bd,[dl,.int .i64 at_])::Y))(hE:cA P E op f (.pointer (some ⟨bd,0,none⟩)::args))(hF:DFn P bd dl at_ f args H (fun v H' ob=>ob=[]∧R v H'))(hd:cu dst n=true)
  (h:∀v H' at',H.le H'→DiceOk H' dl at'→R v H'→TL P n ops Q rest (cr dst v E) (St M w0 H0 H' (X++(O++x::(bd,[dl,.int .i64 at'])::Y)))):
  TL P n ops Q ({dst:=dst,op:=op,type:=ty,pos:=pos,after:=aft,guard:=none}::rest) E (St M w0 H0 H L):=by
 subst hL
 refine aM (L':=(X++(O++[x]))++(bd,[dl,.int .i64 at_])::Y) sq (aE rfl hE hF hd fun v H' at' a b c=>?_)
 exact aM sq (h v H' at' a b c)
theorem WFx.enter {F:Fx}{V:XV}{f:FuncId}{args:List Value}{k:Nat}{R:Value→XV→Prop}{fn:Func}{c:Code}
  (hf:P.funcs[f]? =some fn) (hn:fn.ntmps=n) (hb:fn.body=some c) (hl:Nat.ble (args.length+1) n=true)
  (h:∀m w0,XI F V m→m+k≤10000000→TC P n c (bodyPost P fn (vX (keys (F.X V)) w0 V.H (fun v H' L'=>∃V':XV,H'=V'.H∧L'=F.X V'∧XI F V' (m+k)∧R v V'))) (jU 0 (.pointer (some ⟨F.bw,0,none⟩)::args)) (St (keys (F.X V)) w0 V.H V.H (F.X V))):WFx P F V f args k R:=
 fun m hW hm=>FnX.enter hf hn hb (by simpa using hl) (fun w0=>h m w0 hW hm)
theorem bn {F:Fx}{V':XV}{fn:Func}{K:List Nat}{k m:Nat}{R:Value→XV→Prop}{v:Value}{X:aj}{e:Exit}(he:e= .normal∨e= .ret)(hr:∀a w,EOk n E a→St K w0 H0 H L w→(results fn a.tmps).run P w= .ok v w)
  (hL:L=X++F.X V') (hH:H=V'.H) (hW:XI F V' (m+k)) (hR:R v V'):
  TX n (bodyPost P fn (vX K w0 H0 (fun v H' L'=>∃V':XV,H'=V'.H∧L'=F.X V'∧XI F V' (m+k)∧R v V')) e) E (St K w0 H0 H L):=by
 subst hH
 exact aZ he hr (fun w hw=>by subst hL;exact hw.dropN) ⟨V',rfl,rfl,hW,hR⟩
theorem oG {ι ρ:Type}{c:Code}(V:ι→XV→ρ→Env)(K:Env)(L:ι→XV→ρ→World→Prop)(I:ι→XV→ρ→Prop)(μ:ι→Nat)(i:ι)(v:XV)(r:ρ)(h0:Sub (V i v r++K) E)(hi:I i v r)(hC:∀w,C w→L i v r w)
  (round:∀i v r,I i v r→TC P n c (Exit.then (fun a w=>∃j v' r',I j v' r'∧EOk n (V j v' r'++K) a∧L j v' r' w∧μ j<μ i) Q) (V i v r++K) (L i v r)):TC P n (.loop c) Q E C:=
 TC.loop (ι:=ι×XV×ρ) (V:=fun i=>V i.1 i.2.1 i.2.2) (K:=K) (L:=fun i=>L i.1 i.2.1 i.2.2) (I:=fun i=>I i.1 i.2.1 i.2.2) (μ:=fun i=>μ i.1) (i:=(i,v,r)) h0 hi hC
  (fun i hI a w he hw=>Code.wp_mono (fun e a' w' hq=>by
   cases e with
   | normal=>obtain⟨j,v',r',h1,h2,h3,h4⟩:=hq;exact⟨(j,v',r'),h1,h2,h3,h4⟩
   | exit id=>exact hq
   | goto l=>exact hq
   | ret=>exact hq
   | panic ch=>exact hq
   | outgrown=>exact hq) (round i.1 i.2.1 i.2.2 hI a w he hw))
theorem gc {ι ρ:Type}{V:ι→XV→ρ→Env}{L:ι→XV→ρ→World→Prop}{I:ι→XV→ρ→Prop}{μ:ι→Nat}{i:ι}{E0:Env}(j:ι)(v':XV)(r':ρ)(hI:I j v' r')(hs:Sub (V j v' r'++E0) E)(hC:∀w,C w→L j v' r' w)(hm:μ j<μ i):
  TX n (Exit.then (fun a w=>∃j v' r',I j v' r'∧EOk n (V j v' r'++E0) a∧L j v' r' w∧μ j<μ i) Q .normal) E C:=fun a w he hw=>⟨j,v',r',hI,he.sub hs,hC w hw,hm⟩
end
structure GiveT (t:Nat)(ts:List Term):Prop where
 n1:1≤ts.length
 n3:ts.length≤3
 t:TS t ts ((t+ts.length - 1:Nat):Int) 2 [[110]]
end Go.Sx
namespace Go.Sx
open Go
structure LeafX (V:List Str)(x:Term):Prop where
 o:ak x.kind=0
 f:bF x=true
 l:x.l= -1
 r:x.r= -1
 v:x.kind=0→x.name∈V
theorem LeafX.ts {V:List Str}{x:Term}(h:LeafX V x)(t:Nat):TS t [x] t 1 V:=TS.leaf h.o h.f h.l h.r h.v
theorem eo (V:List Str)(n:Int):LeafX V ⟨1,[],n,[], -1, -1⟩:=⟨rfl,rfl,rfl,rfl,fun h=>absurd h (by show ¬((1:Int)=0);decide)⟩
theorem dC {V:List Str}{s:Str}(hs:au s=true)(hv:s∈V):LeafX V ⟨0,s,0,[], -1, -1⟩:=⟨rfl,by simp [bF,hs],rfl,rfl,fun _=>hv⟩
theorem ou (V:List Str){s:Str}(hs:s.length≤24):LeafX V ⟨3,[],0,s, -1, -1⟩:=⟨rfl,by simp [bF];omega,rfl,rfl,fun h=>absurd h (by show ¬((3:Int)=0);decide)⟩
theorem Ao (V:List Str):LeafX V ⟨4,[],0,[], -1, -1⟩:=⟨rfl,rfl,rfl,rfl,fun h=>absurd h dq⟩
theorem mY:au [110]=true:=by decide
theorem zb:au [99]=true:=by decide
theorem wj {V:List Str}{t:Nat}{a b:Term}{k ra rb:Int}(ha:LeafX V a)(hb:LeafX V b)(hk:ak k=2)(hf:bF ⟨k,[],0,[],ra,rb⟩=true)(hk0:k≠0)(h1:ra=t)(h2:rb=t+1):TS t [a,b,⟨k,[],0,[],ra,rb⟩] ((t+2:Nat):Int) 2 V:=by
 subst h1 h2
 have h:=TS.both (ha.ts t) (hb.ts (t+1)) hk hf dq hk0
 exact h
theorem CI {t:Nat}{x:Term}(h:LeafX [[110]] x):GiveT t [x]:=⟨by simp,by simp,by
 have:=h.ts t
 exact⟨fun T hT f dp h1 h2=>this.p T hT f dp h1 om,this.o,this.v,this.r0,this.r1,this.f⟩⟩
theorem ga {t:Nat}{a b:Term}{k ra rb:Int}(ha:LeafX [[110]] a)(hb:LeafX [[110]] b)(hk:ak k=2)(hf:bF ⟨k,[],0,[],ra,rb⟩=true)(hk0:k≠0)(h1:ra=t)(h2:rb=t+1):GiveT t [a,b,⟨k,[],0,[],ra,rb⟩]:=
 ⟨by simp,by simp,wj ha hb hk hf hk0 h1 h2⟩
abbrev nS0:Sp:=(none,0)
def rD:SStep:=⟨0,[],[],[],[], -1,[],nS0,[],nS0,[],nS0, -1⟩
def pK (nm:Str)(nx:Int):SStep:=⟨9,nm,[],[],[], -1,[],nS0,[],nS0,[],nS0,nx⟩
def iP (t nx:Int):SStep:=⟨2,[],[],[],[],t,[],nS0,[],nS0,[],nS0,nx⟩
def ifX (t:Int)(ws:List SWay)(wp:Sp):SStep:=⟨3,[],[],[],[],t,[],nS0,[],nS0,ws,wp, -1⟩
def ja (peer label:Str)(t nx:Int):SStep:=⟨4,[99],peer,label,[],t,[],nS0,[],nS0,[],nS0,nx⟩
def pD (peer:Str)(ws:List SWay)(wp:Sp):SStep:=⟨5,[99],peer,[],[], -1,[],nS0,[],nS0,ws,wp, -1⟩
def callX (k:Int)(pr:Str)(args:List Int)(ap:Sp)(nx:Int):SStep:=⟨k,[],[],[],pr, -1,args,ap,[],nS0,[],nS0,nx⟩
def mT (nm role label:Str)(cs:List SCast)(cp:Sp)(nx:Int):SStep:=⟨8,nm,role,label,[], -1,[],nS0,cs,cp,[],nS0,nx⟩
section
variable {ps:List SProto}{Γ:List Str}{t:Nat}
theorem yG:SOk ps Γ t rD []:=⟨by rfl,.nil,fun h=>absurd h dq,(fun m hm=>by cases hm),fun h=>absurd rfl h,(fun c hc=>by cases hc),fun h=>absurd h dq⟩
theorem yI {nm:Str}{nx:Int}(hn:au nm=true)(hg:nm∈Γ):SOk ps Γ t (pK nm nx) []:=
 ⟨by simp [dg,pK,gA,dD,cd,hn],.nil,fun _=>hg,(fun m hm=>by simp [bz,pK,aG,cd] at hm;exact fun e=>absurd hm e),fun h=>absurd rfl h,(fun c hc=>by cases hc),fun h=>absurd h (by simp [pK])⟩
theorem u5 {x:Term}{nx:Int}(hx:LeafX Γ x):SOk ps Γ t (iP t nx) [x]:=
 ⟨by simp [dg,iP,gA,dD,cd],TSs.one (hx.ts t) dq,fun h=>absurd h (by simp [iP]),(fun m hm=>by simp [bz,iP,aG,cd] at hm;exact fun e=>absurd hm e),fun h=>absurd rfl h,(fun c hc=>by cases hc),fun h=>absurd h (by simp [iP])⟩
theorem sok_if {ts:List Term}{r e a b:Int}{wp:Sp}(hx:TS t ts r e Γ)(he:e≤24):SOk ps Γ t (ifX r [⟨[],[],a⟩,⟨[],[],b⟩] wp) ts:=
 ⟨by simp [dg,ifX,gA,dD,cd,eI,sV],TSs.one hx he,fun h=>absurd h (by simp [ifX]),(fun m hm=>by simp [bz,ifX,aG,cd] at hm;exact fun e=>absurd hm e),fun h=>absurd rfl h,(fun c hc=>by cases hc),fun h=>absurd h (by simp [ifX])⟩
theorem DW {peer label:Str}{nx:Int}(hp:au peer=true)(hl:au label=true)(hc:[99]∈Γ):SOk ps Γ t (ja peer label (-1) nx) []:=
 ⟨by simp [dg,ja,gA,dD,cd,hp,hl,zb],.nil,fun _=>hc,(fun m hm=>by simp [bz,ja,aG,cd] at hm;exact fun e=>absurd hm e),fun h=>absurd rfl h,(fun c hc=>by cases hc),fun h=>absurd h (by simp [ja])⟩
theorem sok_say {peer label:Str}{nx r e:Int}{ts:List Term}(hp:au peer=true)(hl:au label=true)(hc:[99]∈Γ)(hx:TS t ts r e Γ)(he:e≤24):SOk ps Γ t (ja peer label r nx) ts:=by
 have h0:=hx.r0
 refine⟨by simp [dg,ja,gA,dD,cd,hp,hl,zb],?_,fun _=>hc,(fun m hm=>by simp [bz,ja,aG,cd] at hm;exact fun e=>absurd hm e),fun h=>absurd rfl h,(fun c hc=>by cases hc),fun h=>absurd h (by simp [ja])⟩
 have:a8 (ja peer label r nx)=[r]:=by
  unfold a8 ja
  dsimp only
  rw [if_pos (by right;right;right;exact⟨rfl,by omega⟩)];rfl
 rw [this];exact TSs.one hx he
theorem DZ {k:Int}{pr:Str}{ts us:List Term}{r1 r2 e1 e2 nx:Int}{ap:Sp}(hk:(k=6∧nx= -1)∨k=7)(hm:au pr=true)(hc:CallOk ps pr)(h1:TS t ts r1 e1 Γ)(he1:e1≤24)(h2:TS (t+ts.length) us r2 e2 Γ)(he2:e2≤24):SOk ps Γ t (callX k pr [r1,r2] ap nx) (ts++us):=by
 have e:a8 (callX k pr [r1,r2] ap nx)=[r1,r2]:=by
  unfold a8 callX
  dsimp only
  rw [if_neg (by rcases hk with ⟨h,_⟩ | h<;>omega)];rfl
 refine⟨?_,?_,fun h=>?_,fun m hmm=>?_,fun _=>⟨hc,rfl⟩,(fun c hc=>by cases hc),fun h=>?_⟩
 ·rcases hk with ⟨rfl,rfl⟩ | rfl<;>simp [dg,callX,gA,dD,cd,hm]
 ·rw [e];exact TSs.cons h1 he1 (TSs.one h2 he2)
 ·rcases hk with ⟨rfl,_⟩ | rfl<;>simp [callX] at h
 ·intro e0
  rcases hk with ⟨rfl,_⟩ | rfl<;>simp [bz,callX,aG,cd] at hmm
  exact absurd hmm e0
 ·rcases hk with ⟨rfl,_⟩ | rfl<;>simp [callX] at h
end
theorem D6 {ps:List SProto}{d n t:Nat}{Γ:List Str}(hc:[99]∈Γ):SG ps none d Γ n t [pK [99] ((n:Int)+1),rD] []:=by
 have:=SG.go (d:=d) (n:=n) (yI (ps:=ps) (t:=t) (nx:=(n:Int)+1) zb hc) rfl (by show(n:Int)+1=_;omega) (SG.fin (Γ:=Γ++wU (pK [99] ((n:Int)+1))) (n:=n+1) (t:=t) yG rfl dq)
 exact this
theorem Bm {ps:List SProto}{d n t:Nat}{Γ:List Str}:SG ps none d Γ n t [rD] []:=SG.fin yG rfl dq
theorem u7 {ps:List SProto}{d n t:Nat}{Γ:List Str}{s:SStep}{ts us:List Term}{xs:List SStep}(h:SOk ps Γ t s ts)(hg:cd s.kind=true)(hb:¬(s.kind=1∨s.kind=8))(hn:s.next=(n:Int)+1)(hr:SG ps none d Γ (n+1) (t+ts.length) xs us):SG ps none d Γ n t (s::xs) (ts++us):=by
 have e:wU s=[]:=by unfold wU;rw [if_neg hb]
 refine SG.go h hg (by rw [hn];omega) ?_
 rw [e,List.append_nil];exact hr
end Go.Sx
namespace Go.Sx
open Go
theorem EX {types:List Str}{places:Int}{l:List SArm}(h:ArmsG types places l):∃g:Nat,g<4∧l.map (·.label)=(List.range l.length).map (fun i=>(labelsL[(g+i) % 4]?).getD []):=by
 obtain⟨f,hf⟩:=h.lb
 refine⟨f % 4,Nat.mod_lt _ dq,List.ext_getElem? (fun i=>?_)⟩
 rw [List.getElem?_map,List.getElem?_map]
 by_cases hi:i<l.length
 ·have hx:=List.getElem?_eq_getElem hi
  have:=hf i _ hx
  rw [hx,List.getElem?_range hi,Option.map_some,Option.map_some,show(f % 4+i) % 4=(f+i) % 4 by omega,this];rfl
 ·rw [List.getElem?_eq_none om,List.getElem?_eq_none (by simp;omega)];rfl
theorem zh:∀(l:List SArm) (o:List Str),gO o l=(l.map (·.label)).foldl (fun o b=>o.foldl cv [b]) o
 | [],_=>rfl
 | a::r,o=>by
  rw [List.map_cons,List.foldl_cons,← zh r];rfl
theorem ov {types:List Str}{places:Int}{l:List SArm}(h:ArmsG types places l):(l.map (·.label)).Nodup∧(gO [] l).length=l.length:=by
 obtain⟨g,hg,e⟩:=EX h
 have h1:=h.n1
 have h3:=h.n3
 rw [zh,e]
 rcases(by omega:l.length=1∨l.length=2∨l.length=3) with hl | hl | hl<;>rw [hl]<;>
 rcases(by omega:g=0∨g=1∨g=2∨g=3) with rfl | rfl | rfl | rfl<;>exact⟨by decide,by decide⟩
structure TwoP (p:SProto)(l:List SPoint)(role:Str):Prop where
 e:p.points=l++[eB]
 n:l.length≤6
 r0:role≠[]
 w:∀x∈l,d7 x role=true
 nd:∀x∈l,(x.arms.map (·.label)).Nodup
 la:∀x∈l,(gO [] x.arms).length=x.arms.length
 a3:∀x∈l,x.arms.length≤3
 nx:∀x∈l,∀a∈x.arms,0≤a.next∧a.next<p.points.length
section
variable {p:SProto}{l:List SPoint}{role:Str}(h:TwoP p l role)
include h
theorem TwoP.len:p.points.length=l.length+1:=by rw [h.e];simp
theorem TwoP.at1 {j:Int}(h0:0≤j)(h1:j<l.length):∃x,p.points[j.toNat]? =some x∧x∈l:=by
 have hx:=List.getElem?_eq_getElem (l:=l) (i:=j.toNat) om
 exact⟨_,by rw [h.e,List.getElem?_append_left om];exact hx,List.getElem_mem _⟩
theorem TwoP.at2 {j:Int}(h0:0≤j)(h1:¬j<l.length)(h2:j<p.points.length):p.points[j.toNat]? =some eB:=by
 have:=h.len
 rw [h.e,List.getElem?_append_right om,show j.toNat - l.length=0 by omega];rfl
theorem TwoP.within {j:Int}(h0:0≤j)(h2:j<p.points.length):inP p role j=decide (j<l.length):=by
 unfold inP
 by_cases h1:j<l.length
 ·obtain⟨x,hx,hm⟩:=h.at1 h0 h1
  rw [hx,decide_eq_true h1];exact h.w x hm
 ·rw [h.at2 h0 h1 h2,decide_eq_false h1]
  have:=h.r0
  show(decide (([]:Str)=role)||decide (([]:Str)=role))=false
  rw [decide_eq_false (fun e=>this e.symm)];rfl
theorem TwoP.span {j:Int}(h0:0≤j)(h2:j<p.points.length):cQ p role [j]=[j]:=by
 have hM:hZ p role [j]=((List.replicate p.points.length false).set j.toNat true,[j]):=by
  unfold hZ iE
  rw [if_pos ⟨h0,by rw [List.getElem?_replicate,if_pos om]⟩];rfl
 have hS:∀met,gl p role j met [j]=(met,[j]):=fun met=>by
  unfold gl
  by_cases h1:j<l.length
  ·obtain⟨x,hx,hm⟩:=h.at1 h0 h1
   rw [hx];dsimp only
   rw [if_pos (h.w x hm)]
  ·rw [h.at2 h0 h1 h2];dsimp only
   split
   ·rfl
   ·rfl
 have hW:∀met f,fW p role (f+1) 0 met [j]=(met,[j]):=fun met f=>by
  unfold fW
  rw [show([j]:List Int)[0]? =some j from rfl]
  dsimp only
  rw [hS,uZ sq]
 unfold cQ
 rw [hM]
 dsimp only
 have hl:=h.len
 rw [show p.points.length=l.length+1 by omega,hW]
 have key:∀k:Nat,k≤l.length+1→jS ((List.replicate (l.length+1) false).set j.toNat true) k=if j<k then [j] else []:=by
  intro k
  induction k with
  | zero=>intro _;rw [if_neg om];rfl
  | succ k ih=>
   intro hk
   have ih:=ih om
   have hg:((List.replicate (l.length+1) false).set j.toNat true)[k]? =some (decide (j.toNat=k)):=by
    rw [List.getElem?_set]
    by_cases e:j.toNat=k
    ·rw [if_pos e,if_pos (by simp;omega),decide_eq_true e]
    ·rw [if_neg e,List.getElem?_replicate,if_pos om,decide_eq_false e]
   by_cases e:j.toNat=k
   ·rw [decide_eq_true e] at hg
    have:=uS (k:=(k:Int)) om (by simpa using hg)
    rw [show((k:Int)+1).toNat=k+1 by omega,show((k:Int)).toNat=k by omega] at this
    rw [this,ih,if_neg om,if_pos om]
    simp;omega
   ·rw [decide_eq_false e] at hg
    have:=yy (k:=(k:Int)) om (by simpa using hg)
    rw [show((k:Int)+1).toNat=k+1 by omega,show((k:Int)).toNat=k by omega] at this
    rw [this,ih]
    by_cases h1:j<(k:Int)
    ·rw [if_pos h1,if_pos om]
    ·rw [if_neg h1,if_neg om]
 have:=key (l.length+1) (Nat.le_refl _)
 rw [if_pos om] at this
 unfold Bi
 rw [List.length_set,List.length_replicate]
 exact this
theorem TwoP.near {j:Int}(h0:0≤j)(h2:j<p.points.length):dS p role [j]=if j<l.length then [j] else []:=by
 unfold dS
 rw [List.filter_cons,h.within h0 h2]
 by_cases h1:j<l.length
 ·rw [decide_eq_true h1,if_pos h1];rfl
 ·rw [decide_eq_false h1,if_neg h1];rfl
theorem TwoP.lost {j:Int}(h0:0≤j)(h2:j<p.points.length)(h1:j<l.length):jg p role j=false:=by
 unfold jg
 rw [h.span h0 h2,h.near h0 h2,if_pos h1];rfl
end
structure SetI (n:Nat)(sets:List (List Int)):Prop where
 nd:sets.Nodup
 i:∀s∈sets,s=[]∨∃j:Int,s=[j]∧0≤j∧j<n
theorem SetI.len {n:Nat}{sets:List (List Int)}(h:SetI n sets):sets.length≤n+1:=by
 let f:List Int→Int:=fun s=>match s with
  | []=>0
  | j::_=>j+1
 have h1:=se (n+1) (sets.map f) (by
  unfold List.Nodup
  rw [List.pairwise_map]
  refine gM (fun a ha b hb hne e=>hne ?_) h.nd
  rcases h.i a ha with rfl | ⟨j,rfl,j0,j1⟩<;>rcases h.i b hb with rfl | ⟨k,rfl,k0,k1⟩
  ·rfl
  ·have e:(0:Int)=k+1:=e
   omega
  ·have e:j+1=(0:Int):=e
   omega
  ·have e:j+1=k+1:=e
   rw [show j=k by omega]) (fun x hx=>by
  obtain⟨s,hs,rfl⟩:=List.mem_map.1 hx
  rcases h.i s hs with rfl | ⟨j,rfl,j0,j1⟩
  ·show 0≤(0:Int)∧(0:Int)<_;omega
  ·show 0≤j+1∧j+1<_;omega)
 rwa [List.length_map] at h1
theorem uL:∀{l:List (List Int)} {x:List Int},fO l x=none→x∉l
 | [],_,_=>by simp
 | y::r,x,h=>by
  unfold fO at h
  split at h
  ·cases h
  ·rename_i hne
   have h1:fO r x=none:=by
    cases e:fO r x with
    | none=>rfl
    | some i=>rw [e] at h;cases h
   intro hm
   rcases List.mem_cons.1 hm with e | hm
   ·exact hne e.symm
   ·exact uL h1 hm
section
variable {p:SProto}{l:List SPoint}{role:Str}(h:TwoP p l role)
include h
theorem TwoP.look {sets:List (List Int)}(hI:SetI l.length sets){j:Int}(h0:0≤j)(h2:j<p.points.length):(bR p role sets [j]).2.1=0∧SetI l.length (bR p role sets [j]).2.2:=by
 unfold bR
 rw [h.span h0 h2,h.near h0 h2]
 have hno:¬(0<(if j<l.length then [j] else([]:List Int)).length∧([j]:List Int).any (jg p role)=true):=by
  rintro⟨a,b⟩
  by_cases h1:j<l.length
  ·rw [List.any_cons,h.lost h0 h2 h1] at b;cases b
  ·rw [if_neg h1] at a;exact absurd a dq
 rw [if_neg hno]
 split
 ·exact⟨rfl,hI⟩
 ·rename_i hw
  have hl:=hI.len
  have hn:=h.n
  rw [if_neg om]
  refine⟨rfl,?_,fun s hs=>?_⟩
  ·show(sets++[_]).Nodup
   rw [List.nodup_append]
   refine⟨hI.nd,by simp,fun a ha b hb e=>?_⟩
   rw [List.mem_singleton.1 hb] at e
   exact uL hw (e▸ha)
  ·rcases List.mem_append.1 hs with hs | hs
   ·exact hI.i s hs
   ·rw [List.mem_singleton.1 hs]
    split
    ·rename_i h1;exact .inr ⟨j,rfl,h0,h1⟩
    ·exact .inl rfl
theorem TwoP.car {j:Int}(h0:0≤j)(h1:j<l.length){lb:Str}(hlb:lb∈cY p [j]):∃to:Int,(0≤to∧to<p.points.length)∧(dW p [j] lb).2.2.1=[to]∧k8 p [j] lb=true:=by
 obtain⟨x,hx,hm⟩:=h.at1 h0 h1
 have e:cY p [j]=gO [] x.arms:=by
  unfold cY kw
  rw [List.foldl_cons,List.foldl_nil,hx]
 rw [e] at hlb
 rcases sC hlb with hlb | ⟨a0,ha0,e0⟩
 ·cases hlb
 have hin:lb∈x.arms.map (·.label):=List.mem_map.2 ⟨a0,ha0,e0.symm⟩
 have hp:=rW.2 hin
 have hr:=jG (x.arms.map (·.label)) lb
 rw [List.length_map] at hr
 have ha:=List.getElem?_eq_getElem (l:=x.arms) (i:=(cl (x.arms.map (·.label)) lb).toNat) om
 have hnx:=h.nx x hm _ (List.mem_of_getElem? ha)
 refine⟨_,hnx,?_,?_⟩
 ·unfold dW iU
  rw [hx];dsimp only
  rw [if_neg om,ha];dsimp only
  rw [if_neg sq];rfl
 ·unfold k8 dW iU
  rw [hx];dsimp only
  rw [if_neg om,ha];dsimp only
  rw [if_neg sq];rfl
theorem TwoP.turnA {j:Int}(h0:0≤j)(h1:j<l.length):∀(L:List Str) (sets:List (List Int)) (acc:List SArm),(∀lb∈L,lb∈cY p [j])→SetI l.length sets→(Sx.turnA p role [j] L sets acc).2.1=0∧SetI l.length (Sx.turnA p role [j] L sets acc).2.2
 | [],sets,acc,_,hI=>⟨rfl,hI⟩
 | lb::r,sets,acc,hL,hI=>by
  obtain⟨to,ht,e1,_⟩:=h.car h0 h1 (hL lb sq)
  obtain⟨k1,k2⟩:=h.look hI ht.1 ht.2
  unfold Sx.turnA
  rw [e1,if_neg (by rw [k1];decide)]
  exact TwoP.turnA h0 h1 r _ _ (fun x hx=>hL x (by simp [hx])) k2
theorem TwoP.turn {sets:List (List Int)}(hI:SetI l.length sets){s:List Int}(hs:s=[]∨∃j:Int,s=[j]∧0≤j∧j<l.length):(bD p role sets s).2.1=0∧SetI l.length (bD p role sets s).2.2:=by
 rcases hs with rfl | ⟨j,rfl,h0,h1⟩
 ·exact⟨rfl,hI⟩
 ·obtain⟨x,hx,hm⟩:=h.at1 h0 h1
  have e:cY p [j]=gO [] x.arms:=by
   unfold cY kw
   rw [List.foldl_cons,List.foldl_nil,hx]
  have hla:=h.la x hm
  have ha3:=h.a3 x hm
  have e2:(cL p role [j]).2.2=0:=by
   unfold cL ez
   rw [hx];dsimp only
   rw [if_neg om];rfl
  have e3:jO p [j]=true:=by
   unfold jO mD
   rw [List.all_cons,hx,e,hla]
   simp
  obtain⟨k1,k2⟩:=h.turnA h0 h1 (cY p [j]) sets [] (fun _ h=>h) hI
  unfold bD
  rw [if_neg sq,if_neg (by rw [e2];decide),if_neg (by rw [e3];simp),if_neg (by rw [e,hla];omega),if_neg,if_neg (by rw [k1];decide)]
  ·exact⟨rfl,k2⟩
  ·rw [Bool.not_eq_false,List.all_eq_true]
   intro lb hlb
   obtain⟨_,_,_,hb⟩:=h.car h0 h1 hlb
   exact hb
theorem TwoP.rol:∀(f i:Nat) (sets:List (List Int)) (acc:List TT),SetI l.length sets→(jB p role f i sets acc).1=0
 | 0,_,_,_,_=>rfl
 | f+1,i,sets,acc,hI=>by
  cases hs:sets[i]? with
  | none=>rw [mK (List.getElem?_eq_none_iff.1 hs)]
  | some s=>
   obtain⟨k1,k2⟩:=h.turn hI (hI.i s (List.mem_of_getElem? hs))
   rw [kO hs (by rw [k1];decide)]
   exact TwoP.rol f (i+1) _ _ k2
theorem TwoP.ok (hp:ci p=true)(hr:role∈p.roles):(cN p role).1=0:=by
 unfold cN
 have hl:=h.len
 have hh:cj p.roles role=true:=decide_eq_true hr
 obtain⟨k1,k2⟩:=h.look (sets:=[]) ⟨List.nodup_nil,by simp⟩ (j:=0) om om
 rw [hp,hh,if_neg dq,if_neg (by rw [k1];decide)]
 exact h.rol 41 0 _ [] k2
end
theorem yU {p:SProto}:∀(L:List Str) (i:Nat),(∀r∈L,(cN p r).1=0)→(jc p i L).1=0
 | [],_,_=>rfl
 | r::L,i,h=>by
  unfold jc
  rw [if_neg (by rw [h r sq];decide)]
  exact yU L _ (fun x hx=>h x (by simp [hx]))
theorem CQ {types:List Str}(ht:∀s∈types,TyNm s){k:Int}{nm:Str}(h:CarOk types k nm):cD k nm=true:=by
 unfold cD
 rcases h with ⟨h0,h4,rfl⟩ | ⟨rfl,hm⟩
 ·rw [if_neg om,if_pos om];rfl
 ·obtain⟨r,hr,rfl⟩:=ht _ hm
  simp only [rolesL,List.mem_cons,List.not_mem_nil,or_false] at hr
  rcases hr with rfl | rfl | rfl | rfl | rfl<;>decide
theorem CC {s:Str}{i:Nat}(h:labelsL[i]? =some s):au s=true:=by
 have:=List.mem_of_getElem? h
 simp only [labelsL,List.mem_cons,List.not_mem_nil,or_false] at this
 rcases this with rfl | rfl | rfl | rfl<;>decide
theorem Fl {types:List Str}{n:Int}{l:List SArm}(ht:∀s∈types,TyNm s)(h:ArmsG types n l):dv l n=true:=by
 have h1:=h.n1
 have h3:=h.n3
 unfold dv de
 rw [decide_eq_true h1,decide_eq_true (show l.length≤6 by omega),decide_eq_true (ov h).1,Bool.and_true,Bool.and_true,Bool.true_and,List.all_eq_true]
 intro a ha
 obtain⟨i,hi⟩:=List.getElem?_of_mem ha
 obtain⟨f,hf⟩:=h.lb
 have hn:=h.nx a ha
 unfold fa
 rw [CC (hf i a hi),CQ ht (h.car a ha),decide_eq_false (show ¬a.next<0 by omega),decide_eq_false (show ¬n≤a.next by omega)];rfl
theorem two_all {types:List Str}{p:SProto}(ht:∀s∈types,TyNm s)(hA:AnyP types p)(hn:au p.name=true)(hr:p.roles=rolesL.take 2):(jk p).1=0:=by
 obtain⟨l,e,hP,h1,h6⟩:=hA.pts
 have hlen:p.points.length=l.length+1:=by rw [e];simp
 have hpr:ci p=true:=by
  unfold ci iH
  rw [hn,hr,decide_eq_true (show(1:Int)≤p.points.length by omega),decide_eq_true (show(p.points.length:Int)≤24 by omega)]
  have e2:p.points.all (cb (rolesL.take 2) p.points.length)=true:=by
   rw [List.all_eq_true]
   intro x hx
   rw [e] at hx
   rcases List.mem_append.1 hx with hx | hx
   ·have hf:=hP.ft x hx
    have hne:=hP.ne x hx
    have ha:=Fl ht (hP.am x hx)
    rw [hr] at hf
    unfold cb dH
    rw [show(p.points.length:Int)=(l.length:Int)+1 by omega,ha]
    rw [show cj (rolesL.take 2) x.frm=true from decide_eq_true hf.1,show cj (rolesL.take 2) x.to=true from decide_eq_true hf.2,decide_eq_false hne]
    simp
   ·rw [List.mem_singleton.1 hx];rfl
  rw [e2];decide
 unfold jk
 rw [if_neg (by rw [hpr];decide)]
 refine yU _ _ (fun r hrm=>?_)
 refine TwoP.ok (l:=l) ⟨e,h6,?_,fun x hx=>?_,fun x hx=>(ov (hP.am x hx)).1,fun x hx=>(ov (hP.am x hx)).2,fun x hx=>(hP.am x hx).n3,fun x hx a ha=>?_⟩ hpr hrm
 ·rw [hr] at hrm
  intro e2;subst e2
  exact absurd hrm dq
 ·have hf:=hP.ft x hx
  have hne:=hP.ne x hx
  rw [hr] at hf hrm
  have hc:∀s:Str,s∈rolesL.take 2↔s=[97]∨s=[98]:=fun s=>by simp [rolesL]
  rw [hc] at hrm
  rw [hc,hc] at hf
  unfold d7
  rcases hrm with rfl | rfl<;>rcases hf.1 with h2 | h2<;>rcases hf.2 with h3 | h3<;>first | (exfalso;exact hne (h2.trans h3.symm)) | (rw [h2,h3];decide)
 ·have:=(hP.am x hx).nx a ha
  rw [hlen];omega
end Go.Sx
namespace Go.Sx
open Go
def Fs (ps:List SProto):Prop:=∀p∈ps,(jk p).1=0
end Go.Sx
namespace Go.Sx
open Go
def PrX (p:SProto):Prop:=(p.name=[112]∨p.name=[113])∧∃n,2≤n∧n≤5∧p.roles=rolesL.take n
theorem PrX.nm {p:SProto}(h:PrX p):au p.name=true:=by rcases h.1 with e | e<;>rw [e]<;>decide
theorem jA {r:Str}(h:r∈rolesL):r=[97]∨r=[98]∨r=[99]∨r=[100]∨r=[101]:=by
 simpa [rolesL] using h
theorem PrX.in_ {p:SProto}(h:PrX p){r:Str}(hr:r∈p.roles):r∈rolesL:=by
 obtain⟨n,_,_,e⟩:=h.2
 rw [e] at hr;exact List.mem_of_mem_take hr
theorem PrX.rm {p:SProto}(h:PrX p){r:Str}(hr:r∈p.roles):au r=true:=by
 rcases jA (h.in_ hr) with rfl | rfl | rfl | rfl | rfl<;>decide
theorem PrX.pm {p:SProto}(h:PrX p){r:Str}(hr:r∈p.roles):au (p.name++r)=true:=by
 rcases h.1 with e | e<;>rw [e]<;>rcases jA (h.in_ hr) with rfl | rfl | rfl | rfl | rfl<;>decide
theorem PrX.nd {p:SProto}(h:PrX p):p.roles.Nodup:=by
 obtain⟨n,_,_,e⟩:=h.2
 rw [e];exact(List.take_sublist n rolesL).nodup mI
theorem PrX.len {p:SProto}(h:PrX p):2≤p.roles.length∧p.roles.length≤5:=by
 obtain⟨n,h2,h5,e⟩:=h.2
 rw [e,List.length_take]
 show 2≤min n 5∧min n 5≤5
 omega
theorem PrX.call {ps:List SProto}{p:SProto}{r:Str}(hp:p∈ps)(hr:r∈p.roles):CallOk ps (p.name++r):=⟨p,hp,r,hr,rfl⟩
def kv (n:Int):Term:=⟨1,[],n,[], -1, -1⟩
theorem yx {V:List Str}:∀(ns:List Int) (t:Nat),TSs V t (ns.map kv) (dj t ns.length)
 | [],_=>.nil
 | n::ns,t=>by
  rw [List.length_cons,px]
  exact TSs.cons (a:=[kv n]) ((eo V n).ts t) dq (yx ns (t+1))
theorem yS (t n:Nat):dj t (n+1)=dj t n++[((t+n:Nat):Int)]:=by rw [dG,jC]
structure CastI (p:SProto)(role:Str)(rs:List Str)(t:Nat)(cs:List SCast)(ns:List Int)(B:aj):Prop where
 rl:cs.map (·.role)=rs.filter (fun r=>decide (r≠role))
 pr:∀c∈cs,c.proc=p.name++c.role∧c.args.length=1
 ar:cs.flatMap (·.args)=dj t ns.length
 ln:ns.length=cs.length
 pl:∀c∈cs,PSl 1 I64.cells (.slice c.ap.1 c.args.length c.ap.2) c.args B
theorem CastI.nil {p:SProto}{role:Str}{t:Nat}{B:aj}:CastI p role [] t [] [] B:=⟨rfl,(fun c h=>by cases h),rfl,rfl,(fun c h=>by cases h)⟩
theorem CastI.skip {p:SProto}{role r:Str}{rs:List Str}{t:Nat}{cs:List SCast}{ns:List Int}{B:aj}(h:CastI p role rs t cs ns B)(e:r=role):CastI p role (rs++[r]) t cs ns B:=
 ⟨by rw [List.filter_append,h.rl,e];simp,h.pr,h.ar,h.ln,h.pl⟩
theorem CastI.add {p:SProto}{role r:Str}{rs:List Str}{t b:Nat}{i n:Int}{cs:List SCast}{ns:List Int}{B B':aj}{cells:List Value}(h:CastI p role rs t cs ns B)(e:¬r=role)(hi:i=((t+ns.length:Nat):Int))(hB:∀x∈B,x∈B')(hb:(b,cells)∈B')(hc0:cells=[.int .i64 i]):
  CastI p role (rs++[r]) t (cs++[⟨r,p.name++r,[i],(some ⟨b,0,none⟩,1)⟩]) (ns++[n]) B':=by
 refine⟨by rw [List.map_append,List.filter_append,h.rl];simp [e],fun c hc=>?_,?_,by simp [h.ln],fun c hc=>?_⟩
 ·rcases List.mem_append.1 hc with hc | hc
  ·exact h.pr c hc
  ·rw [List.mem_singleton.1 hc];exact⟨rfl,rfl⟩
 ·rw [List.flatMap_append,h.ar,List.length_append,List.length_singleton,yS,hi];simp
 ·rcases List.mem_append.1 hc with hc | hc
  ·exact(h.pl c hc).le hB
  ·rw [List.mem_singleton.1 hc]
   exact PSl.blk [i] rfl hc0 (by show 1≤9223372036854775807;decide) hb
theorem sM {l:List Str}{r:Str}(hn:l.Nodup)(hr:r∈l):(l.filter (fun x=>decide (x≠r))).length+1=l.length:=by
 induction l with
 | nil=>cases hr
 | cons x l ih=>
  rw [List.nodup_cons] at hn
  by_cases e:x=r
  ·subst e
   have:l.filter (fun y=>decide (y≠x))=l:=List.filter_eq_self.2 (fun y hy=>decide_eq_true (fun e=>hn.1 (e▸hy)))
   rw [List.filter_cons_of_neg sq,this];rfl
  ·have:=ih hn.2 ((List.mem_cons.1 hr).resolve_left (fun e2=>e e2.symm))
   rw [List.filter_cons_of_pos (by simpa using e),List.length_cons,List.length_cons];omega
theorem DX {ps:List SProto}{Γ:List Str}{p:SProto}{role nm:Str}{t:Nat}{cs:List SCast}{ns:List Int}{B:aj}{cp:Sp}{nx:Int}(hp:p∈ps)(hX:PrX p)(hr:role∈p.roles)(h:CastI p role p.roles t cs ns B)(hm:au nm=true)(hg:nm∉Γ):SOk ps Γ t (mT nm role p.name cs cp nx) (ns.map kv):=by
 have hlen:=sM hX.nd hr
 rw [← h.rl,List.length_map] at hlen
 have hl:=hX.len
 have hin:∀c∈cs,c.role∈p.roles:=fun c hc=>by
  have:c.role∈cs.map (·.role):=List.mem_map.2 ⟨c,hc,rfl⟩
  rw [h.rl] at this
  exact(List.mem_filter.1 this).1
 have hcb:cs.all (fun c=>!eU c)=true:=by
  rw [List.all_eq_true]
  intro c hc
  obtain⟨e1,e2⟩:=h.pr c hc
  have h1:=hX.rm (hin c hc)
  have h2:=hX.pm (hin c hc)
  rw [← e1] at h2
  unfold eU
  rw [h1,h2,e2];decide
 refine⟨?_,?_,fun h=>absurd h (by simp [mT]),fun m hmm _=>?_,fun h=>absurd rfl h,fun c hc=>?_,fun _=>?_⟩
 ·have e1:(1:Int)≤cs.length:=by omega
  have e2:(cs.length:Int)≤4:=by omega
  simp [dg,mT,gA,dD,cd,hm,hX.nm,hX.rm hr,hcb,e1,e2]
 ·have e:a8 (mT nm role p.name cs cp nx)=cs.flatMap (·.args):=by
   unfold a8 mT
   dsimp only
   rw [if_neg dq];rfl
  rw [e,h.ar]
  exact yx ns t
 ·have:m=nm:=by simpa [bz,mT] using hmm
  rw [this];exact hg
 ·obtain⟨e1,e2⟩:=h.pr c hc
  exact⟨by rw [e1];exact PrX.call hp (hin c hc),e2⟩
 ·have hco:cz (mT nm role p.name cs cp nx)=role::p.roles.filter (fun r=>decide (r≠role)):=by
   unfold cz mT
   dsimp only
   rw [h.rl]
  refine⟨p,hp,rfl,?_,?_,fun r hr2=>?_⟩
  ·rw [hco,List.length_cons];exact sM hX.nd hr
  ·rw [hco,List.nodup_cons]
   exact⟨fun hm2=>by have:=(List.mem_filter.1 hm2).2;simp at this,hX.nd.sublist List.filter_sublist⟩
  ·rw [hco] at hr2
   rcases List.mem_cons.1 hr2 with rfl | hr2
   ·exact hr
   ·exact(List.mem_filter.1 hr2).1
end Go.Sx
namespace Go.Sx
open Go
theorem jL {s:SStep}(h:cd s.kind=true):aG s=[s.next]:=by unfold aG;rw [if_pos h]
theorem jK {s:SStep}(h:s.kind=3∨s.kind=5):aG s=s.ways.map (·.next):=by
 unfold aG;rw [if_neg (by rcases h with h | h<;>simp [cd,h])]
theorem wV {α:Type}{a b:List α}{i:Nat}{x:α}(h:(a++b)[i]? =some x):(i<a.length∧a[i]? =some x)∨(a.length≤i∧b[i - a.length]? =some x):=by
 by_cases hi:i<a.length
 ·rw [List.getElem?_append_left hi] at h;exact .inl ⟨hi,h⟩
 ·rw [List.getElem?_append_right om] at h;exact .inr ⟨by omega,h⟩
theorem SG.ne {ps:List SProto}{o:Option (List SWay)}{d:Nat}{Γ:List Str}{n t:Nat}{xs:List SStep}{ts:List Term}(h:SG ps o d Γ n t xs ts):o=none→1≤xs.length:=by
 intro ho
 cases h with
 | fin=>simp
 | go=>simp
 | fork=>simp
 | nil=>cases ho
 | cons=>cases ho
theorem SG.rng {ps:List SProto}{o:Option (List SWay)}{d:Nat}{Γ:List Str}{n t:Nat}{xs:List SStep}{ts:List Term}(h:SG ps o d Γ n t xs ts):
  (∀(i:Nat) (s:SStep),xs[i]? =some s→dg s=true∧∀x∈aG s,((n+i:Nat):Int)<x∧x<((n+xs.length:Nat):Int))∧(∀ws,o=some ws→∀w∈ws,(n:Int)≤w.next∧w.next<((n+xs.length:Nat):Int)):=by
 induction h with
 | fin h hn hd=>
  rename_i d Γ n t s ts
  refine⟨fun i x hx=>?_,fun ws h=>(by cases h)⟩
  cases i with
  | zero=>simp at hx;subst hx;exact⟨h.may,fun y hy=>by rw [hn] at hy;cases hy⟩
  | succ i=>simp at hx
 | go h hg hn hr ih=>
  rename_i d Γ n t s ts us xs
  refine⟨fun i x hx=>?_,fun ws h=>(by cases h)⟩
  have h1:=hr.ne rfl
  cases i with
  | zero=>
   simp at hx;subst hx
   refine⟨h.may,fun y hy=>?_⟩
   rw [jL hg,List.mem_singleton] at hy
   rw [hy,hn];simp only [List.length_cons];omega
  | succ i=>
   obtain⟨a,b⟩:=ih.1 i x (by simpa using hx)
   refine⟨a,fun y hy=>?_⟩
   have:=b y hy
   simp only [List.length_cons];omega
 | fork h hk hr ih=>
  rename_i d Γ n t s ts us xs
  refine⟨fun i x hx=>?_,fun ws h=>(by cases h)⟩
  cases i with
  | zero=>
   simp at hx;subst hx
   refine⟨h.may,fun y hy=>?_⟩
   rw [jK hk] at hy
   obtain⟨w,hw,rfl⟩:=List.mem_map.1 hy
   have:=ih.2 _ rfl w hw
   simp only [List.length_cons];omega
  | succ i=>
   obtain⟨a,b⟩:=ih.1 i x (by simpa using hx)
   refine⟨a,fun y hy=>?_⟩
   have:=b y hy
   simp only [List.length_cons];omega
 | nil=>exact⟨fun i x hx=>(by simp at hx),fun ws h w hw=>(by cases h;cases hw)⟩
 | cons hn h1 h2 ih1 ih2=>
  rename_i d Γ n t w ws xs xs' us us'
  have hne:=h1.ne rfl
  refine⟨fun i x hx=>?_,fun ws' h w' hw'=>?_⟩
  ·rcases wV hx with ⟨hi,hx⟩ | ⟨hi,hx⟩
   ·obtain⟨a,b⟩:=ih1.1 i x hx
    refine⟨a,fun y hy=>?_⟩
    have:=b y hy
    rw [List.length_append];omega
   ·obtain⟨a,b⟩:=ih2.1 _ x hx
    refine⟨a,fun y hy=>?_⟩
    have:=b y hy
    rw [List.length_append];omega
  ·cases h
   rw [List.length_append]
   rcases List.mem_cons.1 hw' with rfl | hw'
   ·rw [hn];omega
   ·have:=ih2.2 _ rfl w' hw'
    omega
theorem perm4 {α:Type}(a b c d:List α):(a++b++(c++d)).Perm (a++c++(b++d)):=by
 rw [List.append_assoc,List.append_assoc]
 refine List.Perm.append_left a ?_
 rw [← List.append_assoc,← List.append_assoc]
 exact List.Perm.append_right d List.perm_append_comm
theorem SG.perm {ps:List SProto}{o:Option (List SWay)}{d:Nat}{Γ:List Str}{n t:Nat}{xs:List SStep}{ts:List Term}(h:SG ps o d Γ n t xs ts):
  (o=none→(xs.flatMap aG).Perm (dj (n+1) (xs.length - 1)))∧(∀ws,o=some ws→(ws.map (·.next)++xs.flatMap aG).Perm (dj n xs.length)):=by
 induction h with
 | fin h hn hd=>exact⟨fun _=>by simp [hn,yR],fun ws h=>(by cases h)⟩
 | go h hg hn hr ih=>
  rename_i d Γ n t s ts us xs
  refine⟨fun _=>?_,fun ws h=>(by cases h)⟩
  have h1:=hr.ne rfl
  rw [List.flatMap_cons,jL hg,hn]
  have:=(ih.1 rfl).cons ((n+1:Nat):Int)
  refine this.trans (List.Perm.of_eq ?_)
  rw [show(s::xs).length - 1=1+(xs.length - 1) by simp only [List.length_cons];omega,dG,jC];rfl
 | fork h hk hr ih=>
  rename_i d Γ n t s ts us xs
  refine⟨fun _=>?_,fun ws h=>(by cases h)⟩
  rw [List.flatMap_cons,jK hk]
  have:=ih.2 _ rfl
  simpa using this
 | nil=>exact⟨fun h=>(by cases h),fun ws h=>(by cases h;exact List.Perm.refl _)⟩
 | cons hn h1 h2 ih1 ih2=>
  rename_i d Γ n t w ws xs xs' us us'
  refine⟨fun h=>(by cases h),fun ws' h=>?_⟩
  cases h
  have hne:=h1.ne rfl
  have p1:=ih1.1 rfl
  have p2:=ih2.2 _ rfl
  rw [List.map_cons,hn,List.flatMap_append]
  have e:((n:Int)::ws.map (·.next))++(xs.flatMap aG++xs'.flatMap aG)=([(n:Int)]++ws.map (·.next))++(xs.flatMap aG++xs'.flatMap aG):=rfl
  rw [e]
  refine(perm4 _ _ _ _).trans ?_
  refine(List.Perm.append ((List.Perm.refl _).append p1) p2).trans (List.Perm.of_eq ?_)
  rw [List.length_append,dG]
  congr 1
  conv=>rhs;rw [show xs.length=(xs.length - 1)+1 by omega,px]
  rfl
theorem SG.post {ps:List SProto}{o:Option (List SWay)}{d:Nat}{Γ:List Str}{n t:Nat}{xs:List SStep}{ts:List Term}(h:SG ps o d Γ n t xs ts):∀T,Lies T t ts→
  (xs.flatMap (fun s=>(a8 s).flatMap (bi T))=dj t ts.length)∧∀s∈xs,∃(V:List Str) (a b:Nat),TsR V T a b (a8 s):=by
 induction h with
 | fin h hn hd=>
  intro T hT
  have:=h.tm.all T hT
  exact⟨by simpa using this.o,fun s hs=>by rw [List.mem_singleton.1 hs];exact⟨_,_,_,this⟩⟩
 | go h hg hn hr ih=>
  intro T hT
  have h1:=h.tm.all T hT.left
  obtain⟨i1,i2⟩:=ih T hT.right
  refine⟨by rw [List.flatMap_cons,h1.o,i1,List.length_append,dG],fun s hs=>?_⟩
  rcases List.mem_cons.1 hs with rfl | hs
  ·exact⟨_,_,_,h1⟩
  ·exact i2 s hs
 | fork h hk hr ih=>
  intro T hT
  have h1:=h.tm.all T hT.left
  obtain⟨i1,i2⟩:=ih T hT.right
  refine⟨by rw [List.flatMap_cons,h1.o,i1,List.length_append,dG],fun s hs=>?_⟩
  rcases List.mem_cons.1 hs with rfl | hs
  ·exact⟨_,_,_,h1⟩
  ·exact i2 s hs
 | nil=>intro T hT;exact⟨rfl,by simp⟩
 | cons hn h1 h2 ih1 ih2=>
  intro T hT
  obtain⟨a1,a2⟩:=ih1 T hT.left
  obtain⟨b1,b2⟩:=ih2 T hT.right
  refine⟨by rw [List.flatMap_append,a1,b1,List.length_append,dG],fun s hs=>?_⟩
  rcases List.mem_append.1 hs with hs | hs
  ·exact a2 s hs
  ·exact b2 s hs
structure SO2 (ps:List SProto)(Γ:List Str)(T:List Term)(s:SStep):Prop where
 tm:∃a b,TsR Γ T a b (a8 s)
 ask:s.kind=4∨s.kind=5∨s.kind=9→s.name∈Γ
 bnd:∀m∈bz s,m≠[]→m∉Γ
 pr:s.proc≠[]→CallOk ps s.proc∧s.args.length=2
 cs:∀c∈s.casts,CallOk ps c.proc∧c.args.length=1
 op:s.kind=8→∃p∈ps,s.label=p.name∧(cz s).length=p.roles.length∧(cz s).Nodup∧∀r∈cz s,r∈p.roles
theorem SOk.two {ps:List SProto}{Γ:List Str}{t:Nat}{s:SStep}{ts T:List Term}(h:SOk ps Γ t s ts)(hT:Lies T t ts):SO2 ps Γ T s:=⟨⟨_,_,h.tm.all T hT⟩,h.ask,h.bnd,h.pr,h.cs,h.op⟩
structure Gh (ps:List SProto)(T:List Term)(o:Option (List SWay))(d:Nat)(Γ:List Str)(n:Nat)(xs:List SStep)(b:Int)(D:Int→Int)(G:Int→List Str):Prop where
 d0:∀(i:Nat) (s:SStep),xs[i]? =some s→0≤D ((n+i:Nat):Int)∧D ((n+i:Nat):Int)≤b+d
 s:∀(i:Nat) (s:SStep),xs[i]? =some s→SO2 ps (G ((n+i:Nat):Int)) T s
 nx:∀(i:Nat) (s:SStep),xs[i]? =some s→∀(j:Nat) (x:Int) (m:Str),(aG s)[j]? =some x→(bz s)[j]? =some m→G x=G ((n+i:Nat):Int)++(if m=[] then [] else [m])∧∀y,xs[(x - n).toNat]? =some y→D x=fZ (some y)+D ((n+i:Nat):Int)
 r:o=none→G n=Γ∧∀s,xs[0]? =some s→D n=fZ (some s)+b
 w:∀ws,o=some ws→∀w∈ws,G w.next=Γ++wnm w∧∀s,xs[(w.next - n).toNat]? =some s→D w.next=fZ (some s)+b
theorem Fk {s:SStep}(h:cd s.kind=true):bz s=wU s++(if s.kind=1∨s.kind=8 then [] else [[]]):=by
 unfold bz wU
 split
 ·rfl
 ·rename_i h1
  rw [if_neg (by intro e;rw [e] at h;simp [cd] at h),jL h];rfl
theorem zi {s:SStep}(h:s.kind≠3∧s.kind≠5):fZ (some s)=0:=by rw [kd_s,if_neg om]
theorem goes_35 {s:SStep}(h:cd s.kind=true):s.kind≠3∧s.kind≠5:=by
 constructor<;>(intro e;rw [e] at h;simp [cd] at h)
theorem SG.ghost {ps:List SProto}{o:Option (List SWay)}{d:Nat}{Γ:List Str}{n t:Nat}{xs:List SStep}{ts:List Term}(h:SG ps o d Γ n t xs ts):∀T,Lies T t ts→∀b:Int,0≤b→∃D G,Gh ps T o d Γ n xs b D G:=by
 induction h with
 | fin h hn hd=>
  rename_i d Γ n t s ts
  intro T hT b hb
  refine⟨fun _=>b,fun _=>Γ,⟨fun i x hx=>o2q,fun i x hx=>?_,fun i x hx j y m hy=>?_,fun _=>⟨rfl,fun x hx=>?_⟩,fun ws h=>(by cases h)⟩⟩
  ·cases i with
   | zero=>simp at hx;subst hx;exact h.two hT
   | succ i=>simp at hx
  ·cases i with
   | zero=>simp at hx;subst hx;rw [hn] at hy;simp at hy
   | succ i=>simp at hx
  ·simp at hx;subst hx;rw [zi hd];omega
 | go h hg hn hr ih=>
  rename_i d Γ n t s ts us xs
  intro T hT b hb
  obtain⟨D,G,hG⟩:=ih T hT.right b hb
  have hk:=goes_35 hg
  have fD:∀x:Int,x≠n→(if x=n then b else D x)=D x:=fun x hx=>if_neg hx
  have fG:∀x:Int,x≠n→(if x=n then Γ else G x)=G x:=fun x hx=>if_neg hx
  have fD0:(if((n+0:Nat):Int)=n then b else D ((n+0:Nat):Int))=b:=if_pos rfl
  have fG0:(if((n+0:Nat):Int)=n then Γ else G ((n+0:Nat):Int))=Γ:=if_pos rfl
  have e1:∀i:Nat,(if((n+1+i:Nat):Int)=n then b else D ((n+1+i:Nat):Int))=D ((n+1+i:Nat):Int):=fun i=>by rw [if_neg om]
  have e2:∀i:Nat,(if((n+1+i:Nat):Int)=n then Γ else G ((n+1+i:Nat):Int))=G ((n+1+i:Nat):Int):=fun i=>by rw [if_neg om]
  have hrn:=hr.rng.1
  refine⟨fun x=>if x=n then b else D x,fun x=>if x=n then Γ else G x,⟨fun i x hx=>?_,fun i x hx=>?_,fun i x hx j y m hy hm=>?_,fun _=>⟨by rw [if_pos rfl],fun x hx=>?_⟩,fun ws h=>(by cases h)⟩⟩
  ·cases i with
   | zero=>rw [Nat.add_zero,if_pos rfl];omega
   | succ i=>
    have:=hG.d0 i x (by simpa using hx)
    rw [show n+(i+1)=n+1+i by omega,e1];exact this
  ·cases i with
   | zero=>simp at hx;subst hx;rw [Nat.add_zero,if_pos rfl];exact h.two hT.left
   | succ i=>rw [show n+(i+1)=n+1+i by omega,e2];exact hG.s i x (by simpa using hx)
  ·cases i with
   | zero=>
    simp at hx;subst hx
    rw [jL hg] at hy
    have hj:j=0:=by have:=(List.getElem?_eq_some_iff.1 hy).1;simp at this;omega
    subst hj
    simp at hy;subst hy
    obtain⟨r1,r2⟩:=hG.r rfl
    refine⟨?_,fun y hy=>?_⟩
    ·rw [fG0,hn,fG _ om,r1]
     congr 1
     rw [Fk hg] at hm
     unfold wU at hm ⊢
     by_cases h18:s.kind=1∨s.kind=8
     ·rw [if_pos h18,if_pos h18] at hm
      simp at hm;subst hm
      rw [if_pos h18]
      have hne:s.name≠[]:=by
       have:=h.may
       intro e
       unfold dg at this
       rw [e] at this
       split at this; · cases this
       split at this; · cases this
       rcases h18 with h1 | h1<;>simp [h1,au] at this
      rw [if_neg hne]
     ·rw [if_neg h18,if_neg h18] at hm
      have hm0:m=[]:=by simpa using hm.symm
      rw [hm0,if_pos rfl,if_neg h18]
    ·have hy2:xs[0]? =some y:=by
      have e:(((n+1:Nat):Int) - n).toNat=1:=by omega
      rw [hn,e] at hy;simpa using hy
     rw [fD0,hn,fD _ om,r2 y hy2]
   | succ i=>
    have hx':xs[i]? =some x:=by simpa using hx
    have hr':=(hrn i x hx').2 y (List.mem_of_getElem? hy)
    obtain⟨c1,c2⟩:=hG.nx i x hx' j y m hy hm
    refine⟨by rw [show n+(i+1)=n+1+i by omega,e2,fG _ om];exact c1,fun z hz=>?_⟩
    rw [show n+(i+1)=n+1+i by omega,e1,fD _ om]
    refine c2 z ?_
    rw [show(y - (n:Int)).toNat=(y - ((n+1:Nat):Int)).toNat+1 by omega] at hz
    simpa using hz
  ·simp at hx;subst hx;rw [if_pos rfl,zi hk];omega
 | fork h hk hr ih=>
  rename_i d Γ n t s ts us xs
  intro T hT b hb
  obtain⟨D,G,hG⟩:=ih T hT.right (b+1) om
  have hkd:fZ (some s)=1:=by rw [kd_s,if_pos hk]
  have fD:∀x:Int,x≠n→(if x=n then b+1 else D x)=D x:=fun x hx=>if_neg hx
  have fG:∀x:Int,x≠n→(if x=n then Γ else G x)=G x:=fun x hx=>if_neg hx
  have fD0:(if((n+0:Nat):Int)=n then b+1 else D ((n+0:Nat):Int))=b+1:=if_pos rfl
  have fG0:(if((n+0:Nat):Int)=n then Γ else G ((n+0:Nat):Int))=Γ:=if_pos rfl
  have e1:∀i:Nat,(if((n+1+i:Nat):Int)=n then b+1 else D ((n+1+i:Nat):Int))=D ((n+1+i:Nat):Int):=fun i=>by rw [if_neg om]
  have e2:∀i:Nat,(if((n+1+i:Nat):Int)=n then Γ else G ((n+1+i:Nat):Int))=G ((n+1+i:Nat):Int):=fun i=>by rw [if_neg om]
  have hrn:=hr.rng
  refine⟨fun x=>if x=n then b+1 else D x,fun x=>if x=n then Γ else G x,⟨fun i x hx=>?_,fun i x hx=>?_,fun i x hx j y m hy hm=>?_,fun _=>⟨by rw [if_pos rfl],fun x hx=>?_⟩,fun ws h=>(by cases h)⟩⟩
  ·cases i with
   | zero=>rw [Nat.add_zero,if_pos rfl];omega
   | succ i=>
    have:=hG.d0 i x (by simpa using hx)
    rw [show n+(i+1)=n+1+i by omega,e1];omega
  ·cases i with
   | zero=>simp at hx;subst hx;rw [Nat.add_zero,if_pos rfl];exact h.two hT.left
   | succ i=>rw [show n+(i+1)=n+1+i by omega,e2];exact hG.s i x (by simpa using hx)
  ·cases i with
   | zero=>
    simp at hx;subst hx
    rw [jK hk,List.getElem?_map] at hy
    cases hw:s.ways[j]? with
    | none=>rw [hw] at hy;cases hy
    | some w=>
     rw [hw] at hy
     obtain rfl:w.next=y:=by simpa using hy
     have hmem:=List.mem_of_getElem? hw
     have hr':=hrn.2 _ rfl w hmem
     obtain⟨g1,g2⟩:=hG.w _ rfl w hmem
     refine⟨?_,fun z hz=>?_⟩
     ·rw [fG0,fG _ om,g1]
      congr 1
      unfold wnm
      have hmw:m=w.name∨(m=[]∧w.name=[]):=by
       unfold bz at hm
       rw [if_neg om] at hm
       rcases hk with hk | hk
       ·rw [if_neg om] at hm
        right
        refine⟨?_,?_⟩
        ·rw [List.getElem?_replicate] at hm;split at hm
         ·simpa using hm.symm
         ·cases hm
        ·exact(Cv h.may).2.2.1 hk w hmem
       ·rw [if_pos hk,List.getElem?_map,hw] at hm
        left;simpa using hm.symm
      rcases hmw with rfl | ⟨rfl,e⟩
      ·rfl
      ·rw [e]
     ·rw [show(w.next - (n:Int)).toNat=(w.next - ((n+1:Nat):Int)).toNat+1 by omega] at hz
      rw [fD0,fD _ om,g2 z (by simpa using hz)]
   | succ i=>
    have hx':xs[i]? =some x:=by simpa using hx
    have hr':=(hrn.1 i x hx').2 y (List.mem_of_getElem? hy)
    obtain⟨c1,c2⟩:=hG.nx i x hx' j y m hy hm
    refine⟨by rw [show n+(i+1)=n+1+i by omega,e2,fG _ om];exact c1,fun z hz=>?_⟩
    rw [show n+(i+1)=n+1+i by omega,e1,fD _ om]
    refine c2 z ?_
    rw [show(y - (n:Int)).toNat=(y - ((n+1:Nat):Int)).toNat+1 by omega] at hz
    simpa using hz
  ·simp at hx;subst hx;rw [if_pos rfl,hkd];omega
 | nil=>
  intro T hT b hb
  exact⟨fun _=>0,fun _=>[],⟨fun i x hx=>(by simp at hx),fun i x hx=>(by simp at hx),fun i x hx=>(by simp at hx),fun h=>(by cases h),fun ws h w hw=>(by cases h;cases hw)⟩⟩
 | cons hn h1 h2 ih1 ih2=>
  rename_i d Γ n t w ws xs xs' us us'
  intro T hT b hb
  obtain⟨D1,G1,a⟩:=ih1 T hT.left b hb
  obtain⟨D2,G2,c⟩:=ih2 T hT.right b hb
  have hne:=h1.ne rfl
  have r1:=h1.rng
  have r2:=h2.rng
  have l1:∀x:Int,x<((n+xs.length:Nat):Int)→(if x<((n+xs.length:Nat):Int) then D1 x else D2 x)=D1 x∧(if x<((n+xs.length:Nat):Int) then G1 x else G2 x)=G1 x:=fun x hx=>⟨by rw [if_pos hx],by rw [if_pos hx]⟩
  have l2:∀x:Int,¬x<((n+xs.length:Nat):Int)→(if x<((n+xs.length:Nat):Int) then D1 x else D2 x)=D2 x∧(if x<((n+xs.length:Nat):Int) then G1 x else G2 x)=G2 x:=fun x hx=>⟨by rw [if_neg hx],by rw [if_neg hx]⟩
  refine⟨fun x=>if x<((n+xs.length:Nat):Int) then D1 x else D2 x,fun x=>if x<((n+xs.length:Nat):Int) then G1 x else G2 x,⟨fun i x hx=>?_,fun i x hx=>?_,fun i x hx j y m hy hm=>?_,fun h=>(by cases h),fun ws' h w' hw'=>?_⟩⟩
  ·rcases wV hx with ⟨hi,hx⟩ | ⟨hi,hx⟩
   ·rw [(l1 _ om).1];exact a.d0 i x hx
   ·rw [(l2 _ om).1]
    have:=c.d0 _ x hx
    rwa [show n+xs.length+(i - xs.length)=n+i by omega] at this
  ·rcases wV hx with ⟨hi,hx⟩ | ⟨hi,hx⟩
   ·rw [(l1 _ om).2];exact a.s i x hx
   ·rw [(l2 _ om).2]
    have:=c.s _ x hx
    rwa [show n+xs.length+(i - xs.length)=n+i by omega] at this
  ·rcases wV hx with ⟨hi,hx⟩ | ⟨hi,hx⟩
   ·have hr':=(r1.1 i x hx).2 y (List.mem_of_getElem? hy)
    obtain⟨c1,c2⟩:=a.nx i x hx j y m hy hm
    rw [(l1 ((n+i:Nat):Int) om).1,(l1 ((n+i:Nat):Int) om).2,(l1 y om).1,(l1 y om).2]
    refine⟨c1,fun z hz=>c2 z ?_⟩
    rw [List.getElem?_append_left om] at hz
    exact hz
   ·have hr':=(r2.1 _ x hx).2 y (List.mem_of_getElem? hy)
    obtain⟨c1,c2⟩:=c.nx _ x hx j y m hy hm
    rw [show n+xs.length+(i - xs.length)=n+i by omega] at c1 c2
    rw [(l2 ((n+i:Nat):Int) om).1,(l2 ((n+i:Nat):Int) om).2,(l2 y om).1,(l2 y om).2]
    refine⟨c1,fun z hz=>c2 z ?_⟩
    rw [List.getElem?_append_right om] at hz
    rw [show(y - ((n+xs.length:Nat):Int)).toNat=(y - (n:Int)).toNat - xs.length by omega]
    exact hz
  ·cases h
   rcases List.mem_cons.1 hw' with rfl | hw'
   ·rw [hn,(l1 _ om).1,(l1 _ om).2]
    obtain⟨g1,g2⟩:=a.r rfl
    refine⟨g1,fun s hs=>g2 s ?_⟩
    rw [show((n:Int) - n).toNat=0 by omega,List.getElem?_append_left om] at hs
    exact hs
   ·have hr':=r2.2 _ rfl w' hw'
    rw [(l2 _ om).1,(l2 _ om).2]
    obtain⟨g1,g2⟩:=c.w _ rfl w' hw'
    refine⟨g1,fun s hs=>g2 s ?_⟩
    rw [List.getElem?_append_right om] at hs
    rw [show(w'.next - ((n+xs.length:Nat):Int)).toNat=(w'.next - (n:Int)).toNat - xs.length by omega]
    exact hs
end Go.Sx
namespace Go.Sx
open Go
theorem mayB_of {T:List Term}{r:Int}{p:List Nat}(hl:T.length≤160)(h0:0≤r)(h1:r<T.length)(hp:cf T (r.toNat+1) r.toNat 1=some p)(hn:(bi T r).Nodup):cF T r=true:=by
 refine zc.2 ⟨⟨by omega,h0,h1⟩,p,hp,?_⟩
 have:=yZ _ _ _ _ hp r h0 rfl
 have h2:(p.map Int.ofNat).Nodup:=this.nodup_iff.1 hn
 unfold List.Nodup at h2 ⊢
 rw [List.pairwise_map] at h2
 exact List.Pairwise.imp (fun h e=>h (by rw [e])) h2
structure SgOk (ps:List SProto)(q:SProc)(d:Nat)(Γ:List Str):Prop where
 g:SG ps none d Γ 0 0 q.steps q.terms
 d24:d≤24
 n80:q.steps.length≤80
 t160:q.terms.length≤160
section
variable {ps:List SProto}{q:SProc}{d:Nat}{Γ:List Str}(h:SgOk ps q d Γ)
include h
theorem SgOk.n1:1≤q.steps.length:=h.g.ne rfl
theorem SgOk.post:q.steps.flatMap (fun s=>(a8 s).flatMap (bi q.terms))=dj 0 q.terms.length:=(h.g.post _ (Lies.self _)).1
theorem SgOk.nd:(q.steps.flatMap (fun s=>(a8 s).flatMap (bi q.terms))).Nodup:=by rw [h.post];exact vf _ _
theorem SgOk.shapeOk:bK q:=fun k s hs=>by
 obtain⟨a,b⟩:=h.g.rng.1 k s hs
 exact⟨a,fun t ht=>by have:=b t ht;omega⟩
theorem SgOk.treeOk:gb q:=fun x h0 hx=>by
 have hp:=h.g.perm.1 rfl
 have:(k9 q).count (x:Int)=(dj (0+1) (q.steps.length - 1)).count (x:Int):=hp.count_eq _
 rw [this,(vf _ _).count,if_pos (zZ.2 o2q)]
theorem SgOk.termsOk:iL q:=fun k s hs r hr=>by
 have hm:=List.mem_of_getElem? hs
 obtain⟨V,a,b,hT⟩:=(h.g.post _ (Lies.self _)).2 s hm
 obtain⟨p,hp⟩:=hT.p r hr
 have hr0:=hT.r r hr
 have hlt:=Ex hp
 have hnd:=h.nd
 have hsub:((a8 s).flatMap (bi q.terms)).Sublist (q.steps.flatMap (fun s=>(a8 s).flatMap (bi q.terms))):=zo (f:=fun s=>(a8 s).flatMap (bi q.terms)) hm
 have hsub2:(bi q.terms r).Sublist ((a8 s).flatMap (bi q.terms)):=zo hr
 exact mayB_of h.t160 om om hp (hnd.sublist (hsub2.trans hsub))
theorem SgOk.shape (i:Int):eZ i q=okF:=by
 obtain⟨D,G,hG⟩:=h.g.ghost q.terms (Lies.self _) 0 om
 refine u6 (dp:=D) h.shapeOk h.n80 h.treeOk ⟨fun x h0 h1=>?_,?_,fun p x hP=>?_⟩ h.termsOk h.nd
 ·obtain⟨s,hs⟩:=gP h0 h1
  have:=hG.d0 x.toNat s hs
  rw [Nat.zero_add,show((x.toNat:Nat):Int)=x by omega] at this
  have:=h.d24
  omega
 ·obtain⟨s,hs⟩:=gP (q:=q) (x:=0) om (by have:=h.n1;omega)
  have:=(hG.r rfl).2 s (by simpa using hs)
  rw [hs]
  simpa using this
 ·obtain⟨p0,s,hs,hx⟩:=hP
  have hl:=ko h.shapeOk ⟨p0,s,hs,hx⟩
  obtain⟨j,hj⟩:=List.getElem?_of_mem hx
  have hjl:=(List.getElem?_eq_some_iff.1 hj).1
  obtain⟨m,hm⟩:∃m,(bz s)[j]? =some m:=⟨_,List.getElem?_eq_getElem (by rw [gU];exact hjl)⟩
  obtain⟨y,hy⟩:=gP (q:=q) (x:=x) om hl.2
  have:=(hG.nx p.toNat s hs j x m hj hm).2 y (by simpa using hy)
  rw [Nat.zero_add,show((p.toNat:Nat):Int)=p by omega] at this
  rw [hy];exact this
end
structure PgFor (ps:List SProto)(P:SProg):Prop where
 c:∀s,CallOk ps s→ct P.procs s 2=true
 o:∀(s:SStep),(∃p∈ps,s.label=p.name∧(cz s).length=p.roles.length∧(cz s).Nodup∧∀r∈cz s,r∈p.roles)→dk P s=true
theorem yF {ps:List SProto}{P:SProg}{ts:List Term}{s:SStep}{Γ:List Str}(hP:PgFor ps P)(hm:∀t∈a8 s,cF ts t=true)(h:SO2 ps Γ ts s):d5 P ts s Γ=0:=by
 obtain⟨a,b,hT⟩:=h.tm
 refine DV ?_ ?_ ?_ ?_ ?_
 ·rw [List.all_eq_true]
  intro x hx
  unfold dr at hx
  refine decide_eq_true ?_
  rcases List.mem_append.1 hx with hx | hx
  ·obtain⟨r,hr,hx⟩:=List.mem_flatMap.1 hx
   exact hT.v r hr x ((Ct (hm r hr)).1 hx)
  ·split at hx
   ·rename_i hk
    rw [List.mem_singleton.1 hx];exact h.ask hk
   ·cases hx
 ·rw [List.all_eq_true]
  intro m hmm
  by_cases e:m=[]
  ·rw [e];rfl
  ·have:cj Γ m=false:=decide_eq_false (h.bnd m hmm e)
   rw [this];simp
 ·by_cases e:s.proc=[]
  ·rw [e];rfl
  ·have:=h.pr e
   rw [this.2,show ct P.procs s.proc ((2:Nat):Int)=true from hP.c _ this.1];simp
 ·rw [List.all_eq_true]
  intro c hc
  have:=h.cs c hc
  rw [this.2]
  exact hP.c _ this.1
 ·by_cases e:s.kind=8
  ·rw [hP.o s (h.op e)];simp
  ·rw [decide_eq_false e];rfl
theorem SgOk.sense {ps:List SProto}{q:SProc}{d:Nat}{P:SProg}(h:SgOk ps q d (q.params.map (·.name)))(hP:PgFor ps P)(i:Int):gy P i q=okF:=by
 obtain⟨D,G,hG⟩:=h.g.ghost q.terms (Lies.self _) 0 om
 have hS:=h.shapeOk
 have hT:=h.treeOk
 have key:∀(l:List SStep) (k:Nat) (b:List (List Str)),l=q.steps.drop k→b.length=q.steps.length→(∀x:Nat,k≤x→x<q.steps.length→(x=0∨∃p:Nat,p<k∧Par q p x)→b[x]? =some (G x))→dO P q i l k b=okF:=by
  intro l
  induction l with
  | nil=>intros;rfl
  | cons s r ih=>
   intro k b hl hb hg
   have hx:q.steps[k]? =some s:=by
    have h1:(q.steps.drop k)[0]? =some s:=by rw [← hl];rfl
    rwa [List.getElem?_drop,Nat.add_zero] at h1
   have hr:r=q.steps.drop (k+1):=by
    have h1:(q.steps.drop k).drop 1=r:=by rw [← hl];rfl
    rw [← h1,List.drop_drop]
   have hkn:=(List.getElem?_eq_some_iff.1 hx).1
   have hin:=(hS k s hx).2
   have hbk:b[k]? =some (G k):=by
    refine hg k (Nat.le_refl _) hkn ?_
    rcases Nat.eq_zero_or_pos k with e | e
    ·exact .inl e
    ·right
     have h1:=hT k e hkn
     have hm:(k:Int)∈k9 q:=List.count_pos_iff.1 om
     obtain⟨sp,hsp,hm2⟩:=List.mem_flatMap.1 hm
     obtain⟨p,hp⟩:=List.getElem?_of_mem hsp
     have:=(hS p sp hp).2 _ hm2
     exact⟨p,by omega,⟨by omega,sp,by simpa using hp,hm2⟩⟩
   have hG0:=hG.s k s hx
   rw [Nat.zero_add] at hG0
   have he:d5 P q.terms s (G k)=0:=yF hP (h.termsOk k s hx) hG0
   rw [dO,show b[((k:Int)).toNat]?.getD []=G k by rw [show((k:Int)).toNat=k by omega,hbk];rfl]
   rw [if_neg (by rw [he];decide),show((k:Int)+1)=((k+1:Nat):Int) by omega]
   have hnd:=kq hS hT hx
   refine ih (k+1) _ hr (by rw [kE,hb]) (fun x hkx hxn hpar=>?_)
   by_cases hm:(x:Int)∈aG s
   ·obtain⟨j,hj⟩:=List.getElem?_of_mem hm
    have hjl:=(List.getElem?_eq_some_iff.1 hj).1
    obtain⟨m,hmm⟩:∃m,(bz s)[j]? =some m:=⟨_,List.getElem?_eq_getElem (by rw [gU];exact hjl)⟩
    have h1:=(hG.nx k s hx j x m hj hmm).1
    rw [Nat.zero_add] at h1
    have h2:=lT (k:=k) (aG s) (bz s) b hj hmm hnd (fun t ht=>⟨(hin t ht).1,by have:=hin t ht;omega⟩) om
    rw [show((x:Int)).toNat=x by omega] at h2
    rw [h2,h1]
    rw [show((k:Int)).toNat=k by omega,hbk];rfl
   ·rw [gf (aG s) _ _ x (fun t ht e=>hm (by
     have:=hin t ht
     rw [show(x:Int)=t by omega];exact ht))]
    refine hg x om hxn ?_
    rcases hpar with e | ⟨p,hp,hP2⟩
    ·exact .inl e
    ·right
     refine⟨p,?_,hP2⟩
     by_cases e:p=k
     ·subst e
      obtain⟨_,s',hs',hm'⟩:=hP2
      rw [show((p:Int)).toNat=p by omega,hx] at hs'
      obtain rfl:=Option.some.inj hs'
      exact absurd hm' hm
     ·omega
 refine key q.steps 0 _ rfl (lU q) (fun x _ hxn hpar=>?_)
 have hx0:x=0:=by
  rcases hpar with e | ⟨p,hp,_⟩
  ·exact e
  ·omega
 subst hx0
 have:=(hG.r rfl).1
 rw [show((0:Nat):Int)=0 from rfl] at this
 unfold kF
 rw [List.getElem?_set,if_pos rfl,if_pos (by have:=h.n1;simp;omega)]
 rw [← this];rfl
end Go.Sx
namespace Go.Sx
open Go
def Fa (l:Str):Nat:=l.foldl (fun a c=>10 * a+(c.toNat - 48)) 0
theorem CM (l:Str)(c:UInt8):Fa (l++[c])=10 * Fa l+(c.toNat - 48):=by unfold Fa;rw [List.foldl_append];rfl
theorem digC {d:Nat}(h:d<10):(UInt8.ofNat (48+d)).toNat - 48=d:=by
 have:∀d:Fin 10,(UInt8.ofNat (48+d.val)).toNat - 48=d.val:=by decide
 exact this ⟨d,h⟩
theorem zu:∀u:Nat,Fa (Lib.decDigits u)=u:=fun u=>by
 induction u using Nat.strongRecOn with
 | ind u ih=>
  rw [Lib.decDigits]
  split
  ·rename_i h
   show 10 * 0+((UInt8.ofNat (48+u)).toNat - 48)=u
   rw [digC h];omega
  ·rename_i h
   rw [CM,ih (u / 10) om,digC om];omega
def vnm (n:Int):Str:=[118]++Lib.itoa n
theorem zj {n:Int}(h:0≤n):Lib.itoa n=Lib.decDigits n.toNat:=by unfold Lib.itoa;rw [if_neg om]
theorem vnm_inj {a b:Int}(ha:0≤a)(hb:0≤b)(h:vnm a=vnm b):a=b:=by
 have h1:Lib.itoa a=Lib.itoa b:=by simpa [vnm] using h
 rw [zj ha,zj hb] at h1
 have:=congrArg Fa h1
 rw [zu,zu] at this;omega
theorem mx {n:Int}(h0:0≤n)(h1:n≤100000000):au (vnm n)=true:=by
 have⟨hl,hd⟩:=m9 h0 h1
 have hall:=Ay hd
 show au (118::Lib.itoa n)=true
 unfold au
 rw [if_neg (by simp;omega),if_neg (by simp;omega),if_neg (by simp;decide),kw_v]
 simpa using hall
theorem vnm_c {n:Int}:vnm n≠[99]:=by simp [vnm]
theorem vnm_n {n:Int}:vnm n≠[110]:=by simp [vnm]
theorem vnm_ne {n:Int}:vnm n≠[]:=by simp [vnm]
def GV (n:Int)(Γ:List Str):Prop:=∀x∈Γ,x=[99]∨x=[110]∨∃k,1≤k∧k≤n∧x=vnm k
structure GI (n:Int)(Γ:List Str):Prop where
 c:[99]∈Γ
 m:[110]∈Γ
 v:GV n Γ
theorem GV.more {n m:Int}{Γ:List Str}(h:GV n Γ)(hm:n≤m):GV m Γ:=fun x hx=>by
 rcases h x hx with h | h | ⟨k,h1,h2,h3⟩
 ·exact .inl h
 ·exact .inr (.inl h)
 ·exact .inr (.inr ⟨k,h1,by omega,h3⟩)
theorem GV.new {n k:Int}{Γ:List Str}(h:GV n Γ)(hn:0≤n)(hk:n<k):vnm k∉Γ:=fun hx=>by
 rcases h _ hx with h | h | ⟨j,h1,h2,h3⟩
 ·exact vnm_c h
 ·exact vnm_n h
 ·have:=vnm_inj om om h3;omega
theorem GV.add {n m:Int}{Γ:List Str}(h:GV n Γ)(hn:0≤n)(hm:n<m):GV m (Γ++[vnm m]):=fun x hx=>by
 rcases List.mem_append.1 hx with hx | hx
 ·exact h.more om x hx
 ·exact .inr (.inr ⟨m,by omega,Int.le_refl _,List.mem_singleton.1 hx⟩)
theorem GI.more {n m:Int}{Γ:List Str}(h:GI n Γ)(hm:n≤m):GI m Γ:=⟨h.c,h.m,h.v.more hm⟩
theorem GI.add {n m:Int}{Γ:List Str}(h:GI n Γ)(hn:0≤n)(hm:n<m):GI m (Γ++[vnm m]):=⟨List.mem_append_left _ h.c,List.mem_append_left _ h.m,h.v.add hn hm⟩
theorem jx {α:Type}{l:List α}{k:Int}{x:α}(k0:0≤k)(hx:l[k.toNat]? =some x):l.take (k+1).toNat=l.take k.toNat++[x]:=by
 rw [show(k+1).toNat=k.toNat+1 by omega,List.take_add_one,hx];rfl
theorem XA.pile {A B:XV}{ts:List Term}{ss:List TStep}{nm:Int}{N:aj}(h:XA A B ts ss nm)(hn:∀p∈B.oN,p∈N):XA A {B with oN:=N} ts ss nm:=⟨h.tm,h.st,h.nm,h.rm,fun p hp=>hn p (h.nn p hp)⟩
theorem vr (X Y O:aj):((X++Y)++O).Perm (X++(O++Y)):=by
 rw [List.append_assoc];exact List.Perm.append_left X List.perm_append_comm
theorem XA.at {A B:XV}{ts:List Term}{a:TStep}{ss:List TStep}{nm:Int}(h:XA A B ts (a::ss) nm):B.st[((A.st.length:Nat):Int).toNat]? =some a:=by
 rw [h.st,Int.toNat_natCast,List.getElem?_append_right (Nat.le_refl _),Nat.sub_self];rfl
theorem XA.set {A B:XV}{ts:List Term}{a b:TStep}{ss:List TStep}{nm:Int}{o:aj}(h:XA A B ts (a::ss) nm):XA A {B with st:=B.st.set ((A.st.length:Nat):Int).toNat b,oS:=o} ts (b::ss) nm:=
 ⟨h.tm,by show B.st.set _ _=_;rw [h.st,Int.toNat_natCast,List.set_append_right _ _ (Nat.le_refl _),Nat.sub_self];rfl,h.nm,h.rm,h.nn⟩
theorem XI.set {F:Fx}{V:XV}{m i:Nat}{b:TStep}{o:aj}(h:XI F V m)(ho:OwnSl 10 TStep.cells (.slice V.sa V.st.length V.sc) (V.st.set i b) o):XI F {V with st:=V.st.set i b,oS:=o} m:=
 ⟨h.fx,h.t,by rw [List.length_set];exact ho,h.n0,by rw [List.length_set];exact h.r0,h.r1,h.d,by rw [List.length_set];exact h.me⟩
theorem Bl {ps:List SProto}{Γ:List Str}{t:Nat}{ts:List Term}{r' r e a b:Int}{wp:Sp}(hr:r'=r)(hx:TS t ts r e Γ)(he:e≤24):SOk ps Γ t (ifX r' [⟨[],[],a⟩,⟨[],[],b⟩] wp) ts:=by subst hr;exact sok_if hx he
theorem yH {ps:List SProto}{Γ:List Str}{t:Nat}{peer label:Str}{nx r' r e:Int}{ts:List Term}(hr:r'=r)(hp:au peer=true)(hl:au label=true)(hc:[99]∈Γ)(hx:TS t ts r e Γ)(he:e≤24):SOk ps Γ t (ja peer label r' nx) ts:=by subst hr;exact sok_say hp hl hc hx he
theorem nT {ps:List SProto}{Γ:List Str}{t:Nat}{k:Int}{pr:Str}{ts us:List Term}{r1' r2' r1 r2 e1 e2 nx:Int}{ap:Sp}(hr1:r1'=r1)(hr2:r2'=r2)(hk:(k=6∧nx= -1)∨k=7)(hm:au pr=true)(hc:CallOk ps pr)(h1:TS t ts r1 e1 Γ)(he1:e1≤24)(h2:TS (t+ts.length) us r2 e2 Γ)(he2:e2≤24):SOk ps Γ t (callX k pr [r1',r2'] ap nx) (ts++us):=by subst hr1 hr2;exact DZ hk hm hc h1 he1 h2 he2
theorem yJ {ps:List SProto}{d:Nat}{Γ:List Str}{n t:Nat}{s:SStep}{a b:Int}{ts us vs:List Term}{xs ys:List SStep}(h:SOk ps Γ t s ts)(hk:s.kind=3)(hw:s.ways=[⟨[],[],a⟩,⟨[],[],b⟩])(ha:a=((n+1:Nat):Int))(hb:b=((n+1+xs.length:Nat):Int))(h1:SG ps none d Γ (n+1) (t+ts.length) xs us)(h2:SG ps none d Γ (n+1+xs.length) (t+ts.length+us.length) ys vs):SG ps none (d+1) Γ n t (s::(xs++ys)) (ts++(us++vs)):=by
 refine SG.fork h (.inl hk) ?_
 rw [hw]
 refine SG.cons ha (by show SG ps none d (Γ++[]) _ _ _ _;rw [List.append_nil];exact h1) ?_
 have:=SG.cons (ps:=ps) (d:=d) (Γ:=Γ) (w:=⟨[],[],b⟩) hb (by show SG ps none d (Γ++[]) _ _ _ _;rw [List.append_nil];exact h2) SG.nil
 simpa using this
structure OR where
 cs:List SCast
 ns:List Int
 a:Option Addr
 c:Nat
 ob:aj
structure OpenR (ps:List SProto)(t n:Nat)(nm:Str)(ts:List Term)(x:SStep):Prop where
 k:x.kind=8
 en:x.name=nm
 nx:x.next=((n+1:Nat):Int)
 ok:∀Γ,nm∉Γ→SOk ps Γ t x ts
 ln:ts.length≤4
theorem OpenR.go {ps:List SProto}{d n t:Nat}{Γ:List Str}{nm:Str}{s:SStep}{ts us:List Term}{xs:List SStep}(h:OpenR ps t n nm ts s)(hg:nm∉Γ)(hr:SG ps none d (Γ++[nm]) (n+1) (t+ts.length) xs us):SG ps none d Γ n t (s::xs) (ts++us):=
 SG.go (h.ok Γ hg) (by unfold cd;rw [h.k];decide) h.nx (by rw [show wU s=[nm] by unfold wU;rw [if_pos (.inr h.k),h.en]];exact hr)
def Pre (ps:List SProto)(n t:Nat)(ys:List SStep)(us:List Term)(Γ:List Str):Prop:=∀(d:Nat) (xs:List SStep) (ts:List Term),SG ps none d Γ (n+ys.length) (t+us.length) xs ts→SG ps none d Γ n t (ys++xs) (us++ts)
theorem Pre.nil {ps:List SProto}{n t:Nat}{Γ:List Str}:Pre ps n t [] [] Γ:=fun d xs ts h=>h
theorem Pre.one {ps:List SProto}{n t:Nat}{Γ:List Str}{s:SStep}{us:List Term}(k:Int)(h:SOk ps Γ t s us)(hk:s.kind=k)(hg:cd k=true)(hb:¬(k=1∨k=8))(hn:s.next=(n:Int)+1):Pre ps n t [s] us Γ:=fun d xs ts hr=>u7 h (by rw [hk];exact hg) (by rw [hk];exact hb) hn hr
def stB (r d:Int):Int:=if r<1 then 2 else r+3+12 * (5 - d)
def tmB (r d:Int):Int:=if r<1 then 0 else 3 * (r+3)+7 * (5 - d)
structure BlkR (ps:List SProto)(dp r names:Int)(n t:Nat)(xs:List SStep)(ts:List Term):Prop where
 n1:1≤xs.length
 s:(xs.length:Int)≤stB r dp
 t1:ts.length≤3 * xs.length
 t2:(ts.length:Int)≤tmB r dp
 g:∀Γ,GI names Γ→SG ps none (6 - dp).toNat Γ n t xs ts
structure SayR (ps:List SProto)(dp r names:Int)(n t:Nat)(xs:List SStep)(ts:List Term):Prop where
 n1:1≤xs.length
 s:(xs.length:Int)≤if r<1 then 4 else r+3+12 * (4 - dp)
 t1:ts.length≤3 * xs.length
 t2:(ts.length:Int)≤if r<1 then 5 else 3 * (r+3)+7 * (4 - dp)
 g:∀Γ,GI names Γ→SG ps none (5 - dp).toNat Γ n t xs ts
theorem SayR.of {ps:List SProto}{dp r names r' names' nm:Int}{n t n' t':Nat}{ys xs:List SStep}{us ts:List Term}(hb:BlkR ps (dp+1) r' names' n' t' xs ts)(er:r'=r - ys.length)(en:names'=names+nm)(es:n'=n+ys.length)(et:t'=t+us.length)
  (hy1:1≤ys.length) (hy:ys.length≤2) (hu:us.length≤3 * ys.length) (hu5:us.length≤5) (hd:0≤dp∧dp≤4)
  (hg:∀Γ,GI names Γ→∃Γ',GI (names+nm) Γ'∧∀(d:Nat) (xs:List SStep) (ts:List Term),SG ps none d Γ' (n+ys.length) (t+us.length) xs ts→SG ps none d Γ n t (ys++xs) (us++ts)):SayR ps dp r names n t (ys++xs) (us++ts):=by
 subst er en es et
 have h1:=hb.s;have h2:=hb.t1;have h3:=hb.t2
 unfold stB at h1;unfold tmB at h3
 refine⟨by simp;omega,?_,by simp;omega,?_,fun Γ hG=>?_⟩
 ·rw [List.length_append];split at h1<;>split<;>omega
 ·rw [List.length_append];split at h3<;>split<;>omega
 ·obtain⟨Γ',h4,h5⟩:=hg Γ hG
  have h6:=hb.g Γ' h4
  rw [show(6 - (dp+1)).toNat=(5 - dp).toNat by omega] at h6
  exact h5 _ _ _ h6
structure FXk (F:Fx):Prop where
 pr:∀p∈F.ps,PrX p
 sf:CallOk F.ps F.self
theorem CallOk.may {ps:List SProto}{s:Str}(hp:∀p∈ps,PrX p)(h:CallOk ps s):au s=true:=by
 obtain⟨p,hp1,r,hr,rfl⟩:=h
 exact(hp p hp1).pm hr
structure TGx (T:SLocal)(t:STurn):Prop where
 peer:t.kind≠0→au t.peer=true
 a4:t.arms.length≤4
 a1:t.kind≠0→1≤t.arms.length
 lb:∀a∈t.arms,au a.label=true
 nd:(t.arms.map (·.label)).Nodup
theorem vU {ps:List SProto}{dp r names:Int}{n t:Nat}{xs:List SStep}(h1:1≤xs.length)(h2:xs.length≤2)(hd:dp≤5)(h:∀(d:Nat) (Γ:List Str) (t:Nat),[99]∈Γ→SG ps none d Γ n t xs []):BlkR ps dp r names n t xs []:=
 ⟨h1,by unfold stB;split<;>omega,Nat.zero_le _,by unfold tmB;split<;>simp<;>omega,fun Γ hG=>h _ Γ t hG.c⟩
theorem GiveT.up {t:Nat}{ts:List Term}{V:List Str}(h:GiveT t ts)(hV:[110]∈V):TS t ts ((t+ts.length - 1:Nat):Int) 2 V:=h.t.up (fun x hx=>by rw [List.mem_singleton.1 hx];exact hV)
theorem DY {ps:List SProto}{Γ:List Str}{t:Nat}{peer:Str}{ws:List SWay}{wp:Sp}(hp:au peer=true)(hc:[99]∈Γ)(h1:1≤ws.length)(h7:ws.length≤7)(hw:∀w∈ws,dQ w=false)(hn:(ws.map (·.label)).Nodup)(hg:∀w∈ws,w.name≠[]→w.name∉Γ):SOk ps Γ t (pD peer ws wp) []:=by
 have e1:(1:Int)≤ws.length:=by omega
 have e2:(ws.length:Int)≤7:=by omega
 have e3:de (ws.map (·.label))=true:=by unfold de;exact decide_eq_true hn
 have e4:∀w∈ws,dQ w=false:=hw
 refine⟨?_,.nil,fun _=>hc,fun m hm=>?_,fun h=>absurd rfl h,(fun c hc=>by cases hc),fun h=>absurd h (by simp [pD])⟩
 ·simp [dg,pD,gA,dD,cd,hp,zb,eI,e1,e2,e3]
  exact e4
 ·intro e0
  simp only [bz,pD] at hm
  rw [if_neg dq,if_pos trivial] at hm
  obtain⟨w,hw1,rfl⟩:=List.mem_map.1 hm
  exact hg w hw1 e0
end Go.Sx
