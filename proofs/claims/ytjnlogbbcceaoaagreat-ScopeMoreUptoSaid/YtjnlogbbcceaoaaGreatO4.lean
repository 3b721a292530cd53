import Derived.Test.YtjnlogbbcceaoaaGreatO3
import Derived.Shelf.Small.Bits
import Derived.Shelf.Strconv.Itoa0
import Derived.Shelf.Strings.Search1
import Derived.Shelf.Strings.Search2
import Derived.Shelf.Strings.Cut
import Derived.Shelf.LaysM
import Derived.Shelf.Strings.Shaped
import Derived.Shelf.Sort.Plain
import Derived.Shelf.Slices.CompactS
import Derived.Shelf.Slices.Cells
import Derived.Shelf.Slices.In.SortNone
import Derived.Test.YtjnlogbbcceaoaaGreatProg
import Derived.Lib.ItoaNum
set_option linter.all false
set_option maxRecDepth 100000
set_option maxHeartbeats 32000000
namespace Go.Sx
open Go Go.Proofs Go.Proofs.YtjnlogbbcceaoaaGreat
section
variable {P:Program}
def OpensB (P:Program)(t:TypeId){α:Type}(en:α→List Value)(ok:Hp→α→Prop):Prop:=
 ∀(HH:Type) (enc:TypeId×Value→HH) (W:World) (fuel:Nat) (cs:List Value) (x:DataW HH×List MemPlace),DataW.trod enc P W 0 (fun _=>true) true fuel t cs=some x→Rows.uptoBulk x.1≤1048576→∃a:α,cs=en a∧ok (uU W) a
theorem zE {HH:Type}(d:DataW HH):1≤Rows.uptoBulk d:=by
 cases d with
 | lit l=>cases l<;>simp [Rows.uptoBulk]
 | nil=>simp [Rows.uptoBulk]
 | ptr d=>simp [Rows.uptoBulk]
 | slice elems spare=>simp [Rows.uptoBulk]
 | agg parts=>simp [Rows.uptoBulk]
 | iface t d=>simp [Rows.uptoBulk]
 | map entries=>simp [Rows.uptoBulk]
 | held h=>simp [Rows.uptoBulk]
theorem lu {HH:Type}{d:DataW HH}:∀{l:List (DataW HH)},d∈l→Rows.uptoBulk d≤Rows.uptoBulkAll l
 | x::r,h=>by
  simp only [Rows.uptoBulkAll]
  rcases List.mem_cons.1 h with e | e
  ·subst e;omega
  ·have:=lu e;omega
theorem ud {HH:Type}:∀{l:List (DataW HH)},l.length≤Rows.uptoBulkAll l
 | []=>by simp [Rows.uptoBulkAll]
 | x::r=>by
  simp only [Rows.uptoBulkAll,List.length_cons]
  have:=zE x;have:=ud (l:=r);omega
theorem wA {HH:Type}{l:List (DataW HH)}{d:DataW HH}{i:Nat}(hk:Rows.uptoSmall HH l=true)(hi:l[i]? =some d):Rows.uptoBulk d≤1048576:=by
 have h1:Rows.uptoBulkAll l≤1048576:=of_decide_eq_true hk
 have h2:=lu (List.mem_of_getElem? hi)
 omega
theorem p9 {t:TypeId}{α:Type}{en:α→List Value}{ok:Hp→α→Prop}(h:zO P t en ok):OpensB P t en ok:=fun HH enc W fuel cs x hx _=>h HH enc W fuel cs x hx
theorem kw {t e:TypeId}{k:Nat}{α:Type}{en:α→List Value}{ok:Hp→α→Prop}(ht:P.underlying t=some (.slice e))(hk:P.cellsOf e=k)(hpos:0<k)(he:OpensB P e en ok):
  OpensB P t (fun v:Sp×List α=>[.slice v.1.1 v.2.length v.1.2]) (fun H v=>RdSl H k en (.slice v.1.1 v.2.length v.1.2) v.2∧v.2.length≤1048576∧∀x∈v.2,ok H x):=by
 subst hk
 intro HH enc W fuel cs x h hbk
 rcases Go.Deep.open_slice ht h with ⟨rfl,_⟩ | ⟨a,len,cap,m,n,D,Pl,rfl,_,hl,hm,hmm,hxe,hx⟩
 ·exact⟨((none,0),[]),rfl,RdSl.nil,Nat.zero_le _,by simp⟩
 ·have hlm:m=cap:=by simpa using hmm
  subst hlm
  have hd:x.1= .slice ((List.range len).map D) ((List.range (m - len)).map fun j=>D (len+j)):=by rw [hxe]
  rw [hd] at hbk
  simp only [Rows.uptoBulk] at hbk
  have hlen1:len≤1048576:=by
   have:=ud (l:=(List.range len).map D)
   simp at this
   omega
  have hel:∀i,i<len→∃z:α,∃cs',W.cells? 0 (a.add (i * P.cellsOf e)) (P.cellsOf e)=some cs'∧cs'=en z∧ok (uU W) z:=fun i hi=>by
   obtain⟨cs',h1,h2⟩:=hx i om
   have hbi:Rows.uptoBulk (D i)≤1048576:=by
    have:=lu (d:=D i) (l:=(List.range len).map D) (List.mem_map.2 ⟨i,List.mem_range.2 hi,rfl⟩)
    omega
   obtain⟨z,h3,h4⟩:=he HH enc W n cs' _ h2 hbi
   exact⟨z,cs',h1,h3,h4⟩
  have hch:=mc hel
  obtain⟨l,hlen,hget⟩:=hch
  have hspot:l≠[]→a.spot=none:=fun hne=>by
   cases l with
   | nil=>exact absurd rfl hne
   | cons z l=>
    obtain⟨cs',h1,h2,_⟩:=hget 0 z rfl
    obtain⟨_,h3,h4⟩:=World.cells?_some h1
    have h5:=h4 0 om
    have h6:cs'[0]? =some (cs'[0]'om):=List.getElem?_eq_getElem om
    rw [h6] at h5
    have:=wR h5
    simpa [Addr.add] using this
  refine⟨((some a,m),l),(by simp only;rw [hlen]),⟨⟨_,_,rfl⟩,(by show l.length≤_;unfold maxLen at hm;omega),fun hne=>⟨m,?_⟩,fun i z hz j u hu=>?_,fun a' n' c' e=>by injection e with _ _ e;have e2:m=c':=e;show l.length≤c';omega⟩,by dsimp only;omega,fun z hz=>?_⟩
  ·have:=hspot hne
   obtain⟨b,o,sp⟩:=a
   simp only at this
   subst this
   simp [blk,off,hlen]
  ·obtain⟨cs',h1,rfl,_⟩:=hget i z hz
   obtain⟨_,h3,h4⟩:=World.cells?_some h1
   have hj:j<P.cellsOf e:=by rw [← h3];exact(List.getElem?_eq_some_iff.1 hu).1
   have h5:=h4 j hj
   have hsp:=hspot (fun e=>by rw [e] at hz;simp at hz)
   obtain⟨b,o,sp⟩:=a
   simp only at hsp
   subst hsp
   rw [dO,dO] at h5
   simp only [uU,blk,off]
   exact h5.trans hu
  ·obtain⟨i,hi⟩:=List.mem_iff_getElem?.1 hz
   obtain⟨cs',_,_,h4⟩:=hget i z hi
   exact h4
theorem OpensB.one {HH:Type}{enc:TypeId×Value→HH}{t:TypeId}{α:Type}{en:α→List Value}{ok:Hp→α→Prop}{W:World}{v:Value}{d:DataW HH}{p:List MemPlace}(h:OpensB P t en ok)(hT:DataW.Trod enc P W 0 (fun _=>true) true t v d p)(hb:Rows.uptoBulk d≤1048576):
  ∃a:α,v.cells.toList=en a∧ok (uU W) a:=by
 obtain⟨fuel,hf⟩:=hT
 exact h HH enc W fuel _ _ hf hb
end
end Go.Sx
namespace Go.Sx
open Go Go.Proofs
theorem iB {H:Hp}(c:UInt8):
  FnS Tryz.prog 136 [.int .u8 (c.toNat:Int)] H (.bool (eb c)):=by
 refine FnS.enter Tryz.func136 Tryz.ntmps136 rfl rfl (fun w0=>?_)
 refine ja ?_;refine fo ?_
 refine ah (s:=5) rfl ?_ ?_<;>intro g5
 ·
  have q5:=of_decide_eq_true g5
  refine sG ?_
  exact aN (.inr rfl) (ad rfl (RVal.tmp rfl)) ⟨congrArg Value.bool (by simp [eb,g5]),rfl⟩
 have q5:=of_decide_eq_false g5
 refine gE ?_;refine eD ?_
 exact aN (.inr rfl) (ad rfl (RVal.tmp rfl)) ⟨congrArg Value.bool (by simp [eb,g5]),rfl⟩
theorem uQ {H:Hp}(c:UInt8):
  FnS Tryz.prog 138 [.int .u8 (c.toNat:Int)] H (.bool (gS c)):=by
 refine FnS.enter Tryz.func138 Tryz.ntmps138 rfl rfl (fun w0=>?_)
 refine ja ?_;refine fo ?_
 refine ah (s:=5) rfl ?_ ?_<;>intro g5
 ·
  have q5:=of_decide_eq_true g5
  refine sG ?_
  exact aN (.inr rfl) (ad rfl (RVal.tmp rfl)) ⟨congrArg Value.bool (by simp [gS,g5]),rfl⟩
 have q5:=of_decide_eq_false g5
 refine gE ?_;refine eD ?_
 exact aN (.inr rfl) (ad rfl (RVal.tmp rfl)) ⟨congrArg Value.bool (by simp [gS,g5]),rfl⟩
theorem kB {H:Hp}(s:Str):
  FnS Tryz.prog 137 [gs s] H (.bool (dM s)):=by
 refine FnS.enter Tryz.func137 Tryz.ntmps137 rfl rfl (fun w0=>?_)
 refine ij ?_
 refine bJ (kw1 s) 4 [(2,_),(3,_)] ⟨rfl,rfl,trivial⟩ ?_ ?_
 ·
  refine vP ?_;refine vn ?_
  exact dY (cd rfl rfl rfl) rfl rfl ⟨rfl,rfl,trivial⟩
 refine TC.cond rfl ?_ ?_<;>intro c4
 ·
  refine ml ?_
  exact aN (.inr rfl) (ad rfl (RVal.tmp rfl)) ⟨congrArg Value.bool (by simp_all [dM]),rfl⟩
 refine bJ (kw2 s) 18 [(2,_),(3,_)] ⟨rfl,rfl,trivial⟩ ?_ ?_
 ·
  refine vP ?_;refine vn ?_
  exact dY (cd rfl rfl rfl) rfl rfl ⟨rfl,rfl,trivial⟩
 refine TC.cond rfl ?_ ?_<;>intro c18
 ·
  refine ml ?_
  exact aN (.inr rfl) (ad rfl (RVal.tmp rfl)) ⟨congrArg Value.bool (by simp_all [dM]),rfl⟩
 refine bJ (kw3 s) 32 [(2,_)] ⟨rfl,trivial⟩ ?_ ?_
 ·
  refine yr ?_;refine xY ?_
  exact dY (cd rfl rfl rfl) rfl rfl ⟨rfl,trivial⟩
 refine TC.cond rfl ?_ ?_<;>intro c32
 ·
  refine ml ?_
  exact aN (.inr rfl) (ad rfl (RVal.tmp rfl)) ⟨congrArg Value.bool (by simp_all [dM]),rfl⟩
 refine sF ?_
 exact aN (.inr rfl) (ad rfl (RVal.tmp rfl)) ⟨congrArg Value.bool (by simp_all [dM]),rfl⟩
theorem y9 {H:Hp}(s:Str)(hmax:s.length≤9223372036854775807):
  FnS Tryz.prog 79 [gs s] H (.bool (aG s)):=by
 refine FnS.enter Tryz.func79 Tryz.ntmps79 rfl rfl (fun w0=>?_)
 refine lV ?_;refine TL.run (dz rfl rfl) rfl (zm4 ?_)
 refine ah (s:=7) rfl ?_ ?_<;>intro g7
 · exact zq42
 have q7:=of_decide_eq_false g7
 refine cg ?_;refine aB rfl rfl (dz rfl rfl) rfl (da ?_)
 refine ah (s:=12) rfl ?_ ?_<;>intro g12
 ·
  have q12:=of_decide_eq_true g12
  exact zq44
 have q12:=of_decide_eq_false g12
 refine cg ?_
 have hlen:(0:Int)<s.length:=by have:=of_decide_eq_false g7;omega
 obtain⟨c0,hc0⟩:=ao (l:=s) (i:=0) om hlen
 refine aB rfl rfl (fc rfl rfl om hc0) rfl (aL rfl rfl (ab rfl rfl rfl rfl) (iB c0) rfl (da ?_))
 refine ah (s:=18) rfl ?_ ?_<;>intro g18
 · exact zq50
 refine cg ?_;refine aL rfl rfl (ab rfl rfl rfl rfl) (kB s) rfl (zm1 ?_)
 refine TC.cond rfl ?_ ?_<;>intro c21
 · exact zq56
 have hn:=ll g7 g12 hc0 g18 c21
 exact zq0
theorem l4 {H:Hp}(c:UInt8):
  FnS Tryz.prog 99 [.int .u8 (c.toNat:Int)] H (.bool (eb c)):=by
 refine FnS.enter Tryz.func99 Tryz.ntmps99 rfl rfl (fun w0=>?_)
 refine ja ?_;refine fo ?_
 refine ah (s:=5) rfl ?_ ?_<;>intro g5
 ·
  have q5:=of_decide_eq_true g5
  refine sG ?_
  exact aN (.inr rfl) (ad rfl (RVal.tmp rfl)) ⟨congrArg Value.bool (by simp [eb,g5]),rfl⟩
 have q5:=of_decide_eq_false g5
 refine gE ?_;refine eD ?_
 exact aN (.inr rfl) (ad rfl (RVal.tmp rfl)) ⟨congrArg Value.bool (by simp [eb,g5]),rfl⟩
theorem uD {H:Hp}(c:UInt8):
  FnS Tryz.prog 101 [.int .u8 (c.toNat:Int)] H (.bool (gS c)):=by
 refine FnS.enter Tryz.func101 Tryz.ntmps101 rfl rfl (fun w0=>?_)
 refine ja ?_;refine fo ?_
 refine ah (s:=5) rfl ?_ ?_<;>intro g5
 ·
  have q5:=of_decide_eq_true g5
  refine sG ?_
  exact aN (.inr rfl) (ad rfl (RVal.tmp rfl)) ⟨congrArg Value.bool (by simp [gS,g5]),rfl⟩
 have q5:=of_decide_eq_false g5
 refine gE ?_;refine eD ?_
 exact aN (.inr rfl) (ad rfl (RVal.tmp rfl)) ⟨congrArg Value.bool (by simp [gS,g5]),rfl⟩
theorem qE {H:Hp}(s:Str):
  FnS Tryz.prog 100 [gs s] H (.bool (dM s)):=by
 refine FnS.enter Tryz.func100 Tryz.ntmps100 rfl rfl (fun w0=>?_)
 refine ij ?_
 refine bJ (rkw1 s) 4 [(2,_),(3,_)] ⟨rfl,rfl,trivial⟩ ?_ ?_
 ·
  refine vP ?_;refine vP ?_
  exact bV (cd rfl rfl rfl) rfl rfl ⟨rfl,rfl,trivial⟩ (bV (cd rfl rfl rfl) rfl rfl ⟨rfl,rfl,trivial⟩ (bV (cd rfl rfl rfl) rfl rfl ⟨rfl,rfl,trivial⟩ (dY (cd rfl rfl rfl) rfl rfl ⟨rfl,rfl,trivial⟩)))
 refine TC.cond rfl ?_ ?_<;>intro c4
 ·
  refine ml ?_
  exact aN (.inr rfl) (ad rfl (RVal.tmp rfl)) ⟨congrArg Value.bool (by simp_all [← uA]),rfl⟩
 refine bJ (rkw2 s) 25 [(2,_)] ⟨rfl,trivial⟩ ?_ ?_
 · refine yr ?_;refine yr ?_;exact bV (cd rfl rfl rfl) rfl rfl ⟨rfl,trivial⟩ (bV (cd rfl rfl rfl) rfl rfl ⟨rfl,trivial⟩ (dY (cd rfl rfl rfl) rfl rfl ⟨rfl,trivial⟩))
 refine TC.cond rfl ?_ ?_<;>intro c25
 ·
  refine ml ?_
  exact aN (.inr rfl) (ad rfl (RVal.tmp rfl)) ⟨congrArg Value.bool (by simp_all [← uA]),rfl⟩
 refine sF ?_
 exact aN (.inr rfl) (ad rfl (RVal.tmp rfl)) ⟨congrArg Value.bool (by simp_all [← uA]),rfl⟩
end Go.Sx
namespace Go.Proofs
open Go.Shelf
def Tryz.lays145_ren:Go.Shelf.Ren:=⟨fun | 145=>196 | 220=>200 | 219=>201 | 217=>202 | 225=>203 | 224=>204 | 267=>205 | 266=>206 | 314=>207 | n=>n,fun | 9=>9 | 4=>4 | 59=>226 | 3=>3 | 5=>5 | 46=>30 | 146=>233 | 51=>195 | n=>n,fun | 1=>0 | n=>n⟩
theorem Tryz.lays145:Go.Proofs.Lays.n145 Tryz.prog Tryz.lays145_ren:={
 mixed:=by kernel_rfl
 f145:=Tryz.func196.trans (congrArg some (by kernel_rfl))
 f217:=Tryz.func202.trans (congrArg some (by kernel_rfl))
 f219:=Tryz.func201.trans (congrArg some (by kernel_rfl))
 f220:=Tryz.func200.trans (congrArg some (by kernel_rfl))
 f224:=Tryz.func204.trans (congrArg some (by kernel_rfl))
 f225:=Tryz.func203.trans (congrArg some (by kernel_rfl))
 f266:=Tryz.func206.trans (congrArg some (by kernel_rfl))
 f267:=Tryz.func205.trans (congrArg some (by kernel_rfl))
 f314:=Tryz.func207.trans (congrArg some (by kernel_rfl))
 t3:=Tryz.underlying3
 a3:=Tryz.isAgg3
 z3:=Tryz.sizeOf3
 v3:=Tryz.zeroValue3
 t4:=Tryz.underlying4
 a4:=Tryz.isAgg4
 z4:=Tryz.sizeOf4
 v4:=Tryz.zeroValue4
 t5:=Tryz.underlying5
 a5:=Tryz.isAgg5
 z5:=Tryz.sizeOf5
 v5:=Tryz.zeroValue5
 t9:=Tryz.underlying9
 a9:=Tryz.isAgg9
 z9:=Tryz.sizeOf9
 v9:=Tryz.zeroValue9
 t46:=Tryz.underlying30
 a46:=Tryz.isAgg30
 z46:=Tryz.sizeOf30
 v46:=Tryz.zeroValue30
 t51:=Tryz.underlying195
 a51:=Tryz.isAgg195
 z51:=Tryz.sizeOf195
 v51:=Tryz.zeroValue195
 t59:=Tryz.underlying226
 a59:=Tryz.isAgg226
 z59:=Tryz.sizeOf226
 v59:=Tryz.zeroValue226
 t146:=Tryz.underlying233
 a146:=Tryz.isAgg233
 z146:=Tryz.sizeOf233
 v146:=Tryz.zeroValue233
 g1:=by kernel_rfl}
open Go.RowKit Go.Lib in
theorem Tryz.strings_Cut (s sep:ByteArray)(m:Int)(w:World)(hs:s.size<4294967281)(hm:w.cell? ⟨0,0,none⟩=some (.int .i64 m)):
  Calls Tryz.prog 196 #[.string s,.string sep] w fun e w'=>e= .returned (.tuple #[.string ⟨(Lib.cut s.data.toList sep.data.toList).1.toArray⟩,.string ⟨(Lib.cut s.data.toList sep.data.toList).2.1.toArray⟩,.bool (Lib.cut s.data.toList sep.data.toList).2.2])∧∃n,w'=w.drewN n:=Any.strings_Cut Tryz.lays145 s sep m w hs hm
def Tryz.lays190_ren:Go.Shelf.Ren:=⟨fun | 190=>61 | 125=>122 | 258=>121 | 128=>166 | 129=>167 | 302=>157 | 303=>158 | 304=>159 | 305=>160 | 306=>161 | 307=>162 | 308=>163 | 309=>164 | 310=>165 | 333=>186 | 329=>187 | 330=>188 | 334=>189 | 335=>190 | 336=>191 | 344=>199 | n=>n,fun | 31=>61 | 9=>9 | 3=>3 | 46=>30 | 0=>0 | 51=>195 | 53=>197 | 4=>4 | 183=>187 | 182=>186 | 131=>192 | 5=>5 | 218=>215 | 222=>219 | 228=>228 | 229=>229 | n=>n,fun | n=>n⟩
theorem Tryz.lays190:Go.Proofs.Lays.n190 Tryz.prog Tryz.lays190_ren:={
 mixed:=by kernel_rfl
 f125:=Tryz.func122.trans (congrArg some (by kernel_rfl))
 f128:=Tryz.func166.trans (congrArg some (by kernel_rfl))
 f129:=Tryz.func167.trans (congrArg some (by kernel_rfl))
 f190:=Tryz.func61.trans (congrArg some (by kernel_rfl))
 f258:=Tryz.func121.trans (congrArg some (by kernel_rfl))
 f302:=Tryz.func157.trans (congrArg some (by kernel_rfl))
 f303:=Tryz.func158.trans (congrArg some (by kernel_rfl))
 f304:=Tryz.func159.trans (congrArg some (by kernel_rfl))
 f305:=Tryz.func160.trans (congrArg some (by kernel_rfl))
 f306:=Tryz.func161.trans (congrArg some (by kernel_rfl))
 f307:=Tryz.func162.trans (congrArg some (by kernel_rfl))
 f308:=Tryz.func163.trans (congrArg some (by kernel_rfl))
 f309:=Tryz.func164.trans (congrArg some (by kernel_rfl))
 f310:=Tryz.func165.trans (congrArg some (by kernel_rfl))
 f329:=Tryz.func187.trans (congrArg some (by kernel_rfl))
 f330:=Tryz.func188.trans (congrArg some (by kernel_rfl))
 f333:=Tryz.func186.trans (congrArg some (by kernel_rfl))
 f334:=Tryz.func189.trans (congrArg some (by kernel_rfl))
 f335:=Tryz.func190.trans (congrArg some (by kernel_rfl))
 f336:=Tryz.func191.trans (congrArg some (by kernel_rfl))
 f344:=Tryz.func199.trans (congrArg some (by kernel_rfl))
 t0:=Tryz.underlying0
 a0:=Tryz.isAgg0
 z0:=Tryz.sizeOf0
 v0:=Tryz.zeroValue0
 t3:=Tryz.underlying3
 a3:=Tryz.isAgg3
 z3:=Tryz.sizeOf3
 v3:=Tryz.zeroValue3
 t4:=Tryz.underlying4
 a4:=Tryz.isAgg4
 z4:=Tryz.sizeOf4
 v4:=Tryz.zeroValue4
 t5:=Tryz.underlying5
 a5:=Tryz.isAgg5
 z5:=Tryz.sizeOf5
 v5:=Tryz.zeroValue5
 t9:=Tryz.underlying9
 a9:=Tryz.isAgg9
 z9:=Tryz.sizeOf9
 v9:=Tryz.zeroValue9
 t31:=Tryz.underlying61
 a31:=Tryz.isAgg61
 z31:=Tryz.sizeOf61
 v31:=Tryz.zeroValue61
 t46:=Tryz.underlying30
 a46:=Tryz.isAgg30
 z46:=Tryz.sizeOf30
 v46:=Tryz.zeroValue30
 t51:=Tryz.underlying195
 a51:=Tryz.isAgg195
 z51:=Tryz.sizeOf195
 v51:=Tryz.zeroValue195
 t53:=Tryz.underlying197
 a53:=Tryz.isAgg197
 z53:=Tryz.sizeOf197
 v53:=Tryz.zeroValue197
 t131:=Tryz.underlying192
 a131:=Tryz.isAgg192
 z131:=Tryz.sizeOf192
 v131:=Tryz.zeroValue192
 t182:=Tryz.underlying186
 a182:=Tryz.isAgg186
 z182:=Tryz.sizeOf186
 v182:=Tryz.zeroValue186
 t183:=Tryz.underlying187
 a183:=Tryz.isAgg187
 z183:=Tryz.sizeOf187
 v183:=Tryz.zeroValue187
 t218:=Tryz.underlying215
 a218:=Tryz.isAgg215
 z218:=Tryz.sizeOf215
 v218:=Tryz.zeroValue215
 t222:=Tryz.underlying219
 a222:=Tryz.isAgg219
 z222:=Tryz.sizeOf219
 v222:=Tryz.zeroValue219
 t228:=Tryz.underlying228
 a228:=Tryz.isAgg228
 z228:=Tryz.sizeOf228
 v228:=Tryz.zeroValue228
 t229:=Tryz.underlying229
 a229:=Tryz.isAgg229
 z229:=Tryz.sizeOf229
 v229:=Tryz.zeroValue229}
open Go.Sort Go.RowKit in
theorem Tryz.slices_Sort_string (blk off cap:Nat)(ss:List (List UInt8))(w:World)(hH:Holds encStr w blk off ss.toArray)(hblk:blk<w.heap.size)(hsz:ss.length<4611686018427387904):
  Calls Tryz.prog 61 #[.slice (some ⟨blk,off,none⟩) ss.length cap] w fun e w'=>
   e= .returned (.tuple #[])∧∃n os,w'=grow (putRow encStr (Sort.ahead w n) blk off (ss.mergeSort fun x y=>decide (x≤y)).toArray) os:=Any.slices_Sort_string Tryz.lays190 blk off cap ss w hH hblk hsz
def Tryz.lays194_ren:Go.Shelf.Ren:=⟨fun | 194=>62 | n=>n,fun | 31=>61 | 9=>9 | 3=>3 | 4=>4 | 0=>0 | n=>n,fun | n=>n⟩
theorem Tryz.lays194:Go.Proofs.Lays.n194 Tryz.prog Tryz.lays194_ren:={
 mixed:=by kernel_rfl
 f194:=Tryz.func62.trans (congrArg some (by kernel_rfl))
 t0:=Tryz.underlying0
 a0:=Tryz.isAgg0
 z0:=Tryz.sizeOf0
 v0:=Tryz.zeroValue0
 t3:=Tryz.underlying3
 a3:=Tryz.isAgg3
 z3:=Tryz.sizeOf3
 v3:=Tryz.zeroValue3
 t4:=Tryz.underlying4
 a4:=Tryz.isAgg4
 z4:=Tryz.sizeOf4
 v4:=Tryz.zeroValue4
 t9:=Tryz.underlying9
 a9:=Tryz.isAgg9
 z9:=Tryz.sizeOf9
 v9:=Tryz.zeroValue9
 t31:=Tryz.underlying61
 a31:=Tryz.isAgg61
 z31:=Tryz.sizeOf61
 v31:=Tryz.zeroValue61}
open Go.RowKit Go.Lib Go.Sort in
theorem Tryz.slices_Compact_string (blk off cap:Nat)(zs:List (List UInt8))(w:World)(hH:Holds encStr w blk off zs.toArray)(hsz:zs.length≤9223372036854775807)(hcap:zs.length≤cap):
  Calls Tryz.prog 62 #[.slice (some ⟨blk,off,none⟩) zs.length cap] w fun e w'=>e= .returned (.slice (some ⟨blk,off,none⟩) (Lib.compact zs).length cap)∧∃q,w'=putRow encStr (Sort.ahead w q) blk off (Lib.compact zs++List.replicate (zs.length - (Lib.compact zs).length) []).toArray:=Any.slices_Compact_string Tryz.lays194 blk off cap zs w hH hsz hcap
open Go.RowKit Go.Lib Go.Sort in
theorem Tryz.slices_Compact_string_empty (a:Option Addr)(cap:Nat)(w:World):
  Calls Tryz.prog 62 #[.slice a 0 cap] w fun e w'=>e= .returned (.slice a 0 cap)∧w'=w:=Any.slices_Compact_string_empty Tryz.lays194 a cap w
open Go.RowKit Go.Sort in
theorem Tryz.slices_Sort_string_none (p:Option Addr)(cap:Nat)(w:World):
  Calls Tryz.prog 61 #[.slice p 0 cap] w fun e w'=>e= .returned (.tuple #[])∧w'=w:=Any.slices_Sort_string_none Tryz.lays190 p cap w
end Go.Proofs
namespace Go.Sx
open Go Go.Proofs
theorem sort_ok:SortC Tryz.prog 61:=⟨fun b off cap ss w h1 h2 h3=>Tryz.slices_Sort_string b off cap ss w h1 h2 h3,fun p cap w=>Tryz.slices_Sort_string_none p cap w⟩
theorem u9:CompactC Tryz.prog 62:=⟨fun b off cap zs w h1 h2 h3=>Tryz.slices_Compact_string b off cap zs w h1 h2 h3,fun p cap w=>Tryz.slices_Compact_string_empty p cap w⟩
def MaxG (H:Hp):Prop:=∃m,H 0 0=some (.int .i64 m)
theorem MaxG.le {H H1:Hp}(h:MaxG H)(hl:H.le H1):MaxG H1:=by
 obtain⟨m,hm⟩:=h
 exact⟨m,hl _ _ _ hm⟩
theorem cut_ok {H:Hp}(s:Str)(hs:s.length≤4294960000)(hM:MaxG H):FnS Tryz.prog 196 [gs s,gs [46]] H (.tuple #[gs (jH s).1,gs (jH s).2.1,.bool (jH s).2.2]):=by
 refine FnS.ext (fun w hw=>?_)
 obtain⟨m,hm⟩:=hM
 refine(Tryz.strings_Cut ⟨s.toArray⟩ ⟨[46].toArray⟩ m w (by simp [ByteArray.size];omega) (hw.hp _ _ _ hm)).mono ?_
 rintro e w1 ⟨rfl,n,rfl⟩
 exact⟨rfl,⟨rfl,rfl,rfl,Nat.le_refl _,fun _ _=>rfl⟩⟩
end Go.Sx
namespace Go.Sx
open Go Go.Proofs
theorem tw {H:Hp}(k:Int):
  FnS Tryz.prog 119 [.int .i64 k] H (.int .i64 (aH k)):=by
 refine FnS.enter Tryz.func119 Tryz.ntmps119 rfl rfl (fun w0=>?_)
 refine ij ?_
 refine bJ (decide (k=0)||(decide (k=1)||(decide (k=2)||(decide (k=3)||(decide (k=4)||decide (k=5)))))) 4 [(2,_),(3,_)] ⟨rfl,rfl,trivial⟩ ?_ ?_
 ·
  refine pC ?_;refine pC ?_;refine pC ?_;refine pC ?_;refine pC ?_
  exact dY (aD rfl) rfl rfl ⟨rfl,rfl,trivial⟩
 refine TC.cond rfl ?_ ?_<;>intro c4
 ·
  refine ml ?_
  exact aN (.inr rfl) (ad rfl (RVal.tmp rfl)) ⟨congrArg (Value.int .i64) (by simp only [Bool.or_eq_true,Bool.or_eq_false_iff,decide_eq_true_eq,decide_eq_false_iff_not] at *;unfold aH;(repeat' split)<;>omega),rfl⟩
 refine bJ (decide (k=15)||decide (k=16)) 11 [(2,_),(3,_)] ⟨rfl,rfl,trivial⟩ ?_ ?_
 ·
  refine pC ?_
  exact dY (aD rfl) rfl rfl ⟨rfl,rfl,trivial⟩
 refine TC.cond rfl ?_ ?_<;>intro c11
 ·
  refine ml ?_
  exact aN (.inr rfl) (ad rfl (RVal.tmp rfl)) ⟨congrArg (Value.int .i64) (by simp only [Bool.or_eq_true,Bool.or_eq_false_iff,decide_eq_true_eq,decide_eq_false_iff_not] at *;unfold aH;(repeat' split)<;>omega),rfl⟩
 refine bJ (decide (k=6)||(decide (k=7)||(decide (k=8)||(decide (k=9)||(decide (k=10)||(decide (k=11)||(decide (k=12)||(decide (k=13)||(decide (k=14)||(decide (k=17)||(decide (k=18)||decide (k=19)))))))))))) 14 [(2,_)] ⟨rfl,trivial⟩ ?_ ?_
 · refine yq ?_;refine yq ?_;exact bV (aD rfl) rfl rfl ⟨rfl,trivial⟩ (bV (aD rfl) rfl rfl ⟨rfl,trivial⟩ (bV (aD rfl) rfl rfl ⟨rfl,trivial⟩ (dY (aD rfl) rfl rfl ⟨rfl,trivial⟩)))
 refine TC.cond rfl ?_ ?_<;>intro c14
 ·
  refine ml ?_
  exact aN (.inr rfl) (ad rfl (RVal.tmp rfl)) ⟨congrArg (Value.int .i64) (by simp only [Bool.or_eq_true,Bool.or_eq_false_iff,decide_eq_true_eq,decide_eq_false_iff_not] at *;unfold aH;(repeat' split)<;>omega),rfl⟩
 refine sF ?_
 exact aN (.inr rfl) (ad rfl (RVal.tmp rfl)) ⟨congrArg (Value.int .i64) (by simp only [Bool.or_eq_true,Bool.or_eq_false_iff,decide_eq_true_eq,decide_eq_false_iff_not] at *;unfold aH;(repeat' split)<;>omega),rfl⟩
theorem xv {H:Hp}(t:Term)(hn:t.name.length≤9223372036854775807):
  FnS Tryz.prog 120 [.agg t.cells.toArray] H (.bool (dt t)):=by
 refine FnS.enter Tryz.func120 Tryz.ntmps120 rfl rfl (fun w0=>?_)
 refine zm2 ?_
 refine TL.box rfl rfl (fun b1=>?_)
 refine nl ?_;refine sE ?_
 refine ag rfl ?_ ?_<;>intro c5
 ·
  refine eQ ?_;refine aq (ab rfl rfl rfl rfl) (y9 t.name hn) rfl (zm0 ?_)
  refine ah (s:=10) rfl ?_ ?_<;>intro g10
  ·
   refine nk ?_
   refine ah (s:=15) rfl ?_ ?_<;>intro g15
   ·
    have q15:=of_decide_eq_true g15
    refine oV ?_
    exact mf
   have q15:=of_decide_eq_false g15
   refine gF ?_
   exact mf
  refine gI ?_;refine gF ?_
  exact mf
 refine dZ ?_
 refine ag rfl ?_ ?_<;>intro c20
 ·
  refine sD ?_
  refine ah (s:=25) rfl ?_ ?_<;>intro g25
  ·
   have q25:=of_decide_eq_true g25
   refine oV ?_
   exact mf
  have q25:=of_decide_eq_false g25
  refine gF ?_
  exact mf
 refine dZ ?_
 refine ag rfl ?_ ?_<;>intro c30
 ·
  refine sD ?_
  refine ah (s:=35) rfl ?_ ?_<;>intro g35
  ·
   have q35:=of_decide_eq_true g35
   refine nj ?_
   refine ah (s:=40) rfl ?_ ?_<;>intro g40
   ·
    have q40:=of_decide_eq_true g40
    refine co ?_;refine ef ?_
    refine ah (s:=44) rfl ?_ ?_<;>intro g44
    ·
     have q44:=of_decide_eq_true g44
     refine gF ?_;refine cg ?_
     exact mf
    have q44:=of_decide_eq_false g44
    refine co ?_;refine ef ?_
    exact mf
   have q40:=of_decide_eq_false g40
   refine sC ?_;refine dD rfl rfl rfl (zm9 ?_)
   exact mf
  have q35:=of_decide_eq_false g35
  refine oG ?_;refine dD rfl rfl rfl (dD rfl rfl rfl (dD rfl rfl rfl (zm9 ?_)))
  exact mf
 refine dZ ?_
 refine ag rfl ?_ ?_<;>intro c50
 ·
  refine sD ?_
  refine ah (s:=55) rfl ?_ ?_<;>intro g55
  ·
   have q55:=of_decide_eq_true g55
   refine nk ?_
   refine ah (s:=60) rfl ?_ ?_<;>intro g60
   ·
    have q60:=of_decide_eq_true g60
    refine co ?_;refine aB rfl rfl (dz rfl rfl) rfl (cg ?_)
    exact mf
   have q60:=of_decide_eq_false g60
   refine dB ?_
   exact mf
  have q55:=of_decide_eq_false g55
  refine oG ?_
  exact mf
 refine TC.skip (a8 (ae (sD ?_)))
 refine ah (s:=69) rfl ?_ ?_<;>intro g69
 ·
  have q69:=of_decide_eq_true g69
  refine nk ?_
  refine ah (s:=74) rfl ?_ ?_<;>intro g74
  ·
   have q74:=of_decide_eq_true g74
   refine oV ?_;refine eD ?_
   exact aN (.inr rfl) (ad rfl (RVal.tmp rfl)) ⟨congrArg Value.bool (by simp_all [dt]),rfl⟩
  have q74:=of_decide_eq_false g74
  refine sB ?_
  exact aN (.inr rfl) (ad rfl (RVal.tmp rfl)) ⟨congrArg Value.bool (by simp_all [dt]),rfl⟩
 have q69:=of_decide_eq_false g69
 refine gI ?_;refine sB ?_
 exact aN (.inr rfl) (ad rfl (RVal.tmp rfl)) ⟨congrArg Value.bool (by simp_all [dt]),rfl⟩
theorem walk_ok {H:Hp}{l:List Term}{v:Value}{bl bm bmv bw:Nat}(hT:RdSl H 6 Term.cells v l)(hnames:∀t∈l,t.name.length≤9223372036854775807)(hl:H bl 0=some v)(hm:H bmv 0=some (.slice (some ⟨bm,0,none⟩) l.length l.length))(hw:H bw 0=some (.func (.func 118) #[] #[.pointer (some ⟨bl,0,none⟩),.pointer (some ⟨bmv,0,none⟩),.pointer (some ⟨bw,0,none⟩)])):
  ∀(f:Nat) (at_ deep:Int) (met:List Bool),0≤at_→at_<l.length→at_.toNat<f→1≤deep∧deep≤25→met.length=l.length→
   FnM1 Tryz.prog 118 [.int .i64 at_,.int .i64 deep,.pointer (some ⟨bl,0,none⟩),.pointer (some ⟨bmv,0,none⟩),.pointer (some ⟨bw,0,none⟩)] H bm (met.map Value.bool)
    (fun v' H' cs'=>∃b m,dy l f at_ deep met=(b,m)∧v'= .bool b∧cs'=m.map Value.bool∧m.length=l.length∧H'=H):=by
 intro f
 induction f with
 | zero=>intro at_ deep met _ _ h;omega
 | succ f ih=>
 intro at_ deep met h0 h1 hf hd hlen
 have hmax:=hT.max
 have hlt:at_.toNat<met.length:=by omega
 obtain⟨t,hx⟩:=ao h0 h1
 have hN:t.name.length≤9223372036854775807:=hnames t (List.mem_of_getElem? hx)
 refine FnM1.enter Tryz.func118 Tryz.ntmps118 rfl rfl (fun w0=>?_)
 refine sA ?_;refine TL.run (bq rfl hl) rfl (zm0 ?_);refine TL.run (af rfl hT rfl om om) rfl (TL.run (bg hT hx rfl rfl) rfl (TL.alloc rfl (fun b8=>?_)))
 refine ni ?_;refine aq (ab rfl rfl rfl rfl) (tw t.kind) rfl (nh ?_);refine TL.run (bq rfl hm) rfl (zm0 ?_);refine ec ?_
 refine TL.run (ay rfl (.h1) (xH hlt)) rfl (zm0 ?_)
 refine ah (s:=23) rfl ?_ ?_<;>intro g23
 ·
  refine gE ?_;refine zm4 ?_;refine gE ?_;refine zm4 ?_
  exact zq84
 refine sy ?_
 refine ah (s:=27) rfl ?_ ?_<;>intro g27
 ·
  have q27:=of_decide_eq_true g27
  refine gE ?_;refine zm4 ?_
  exact zq84
 have q27:=of_decide_eq_false g27
 refine sy ?_
 refine ah (s:=31) rfl ?_ ?_<;>intro g31
 ·
  have q31:=of_decide_eq_true g31
  exact zq84
 have q31:=of_decide_eq_false g31
 refine aB rfl rfl (aU rfl (.here _) rfl) rfl (aL rfl rfl (ab rfl rfl rfl rfl) (xv t hN) rfl (fK ?_))
 refine TC.cond rfl ?_ ?_<;>intro c35
 · exact zq91
 refine qt ?_
 have hg:xO deep met at_ t:=⟨by simp_all,by simp_all,by simp_all,by simp_all⟩
 refine TL.run (bq rfl hm) rfl (zm0 ?_);refine yc ?_;refine TL.nil ?_
 rw [xG]
 refine sx ?_;refine fw ?_
 refine ax rfl rfl rfl rfl (fun b43=>?_)
 refine TL.run (dp rfl rfl) rfl (zm7 ?_);refine TC.rounds 3 (eO (zm5 ?_));refine cD rfl (qr ?_);refine ec ?_;refine su ?_;refine eX ?_;refine sr ?_
 refine ag rfl ?_ ?_<;>intro c52_0
 ·
  refine ng ?_
  refine aW rfl ?_ ?_<;>intro c54_0
  · refine jt ?_;exact aC (zq99)
  refine cW ?_;refine sm ?_;refine lC ?_
  have o0:opW (aH t.kind) at_ (fun to m=>dy l f to (deep+1) m) 0 t.l (met.set at_.toNat true)=(true,(met.set at_.toNat true)):=by first | exact fB c52_0 c54_0 | exact fR c52_0 g57_0 g62_0 (e1.trans (by simp_all;done)) | exact fR c52_0 g57_0 g62_0 (e2.trans (by simp_all;done))
  refine ly (eO (zm5 ?_));refine cD rfl (qr ?_);refine ec ?_;refine su ?_;refine eX ?_;refine sr ?_
  refine ag rfl ?_ ?_<;>intro c52_1
  ·
   refine ng ?_
   refine aW rfl ?_ ?_<;>intro c54_1
   · refine jt ?_;exact aC (zq99)
   refine cW ?_;refine sm ?_;refine lC ?_
   have o1:opW (aH t.kind) at_ (fun to m=>dy l f to (deep+1) m) 1 t.r (met.set at_.toNat true)=(true,(met.set at_.toNat true)):=by first | exact fB c52_1 c54_1 | exact fR c52_1 g57_1 g62_1 (e1.trans (by simp_all;done)) | exact fR c52_1 g57_1 g62_1 (e2.trans (by simp_all;done))
   refine ly (eO (zm5 ?_));refine dR rfl (jv ?_)
   exact zq104
  refine cW ?_;refine fo ?_
  refine ah (s:=57) rfl ?_ ?_<;>intro g57_1
  ·
   have q57_1:=of_decide_eq_true g57_1
   refine gI ?_
   exact vm
  have q57_1:=of_decide_eq_false g57_1
  refine ef ?_;refine da ?_
  refine ah (s:=62) rfl ?_ ?_<;>intro g62_1
  ·
   have q62_1:=of_decide_eq_true g62_1
   exact vm
  have q62_1:=of_decide_eq_false g62_1
  refine aB rfl rfl (bq rfl hw) rfl (ef ?_);refine vO ?_
  refine dQ (.h2) (jL rfl rfl (ab rfl rfl rfl rfl) (ih _ (deep+1) _ (by have q1:=of_decide_eq_false g57_1;have q2:=of_decide_eq_false g62_1;omega) (by have q1:=of_decide_eq_false g57_1;have q2:=of_decide_eq_false g62_1;omega) (by have q1:=of_decide_eq_false g57_1;have q2:=of_decide_eq_false g62_1;omega) ⟨by omega,by have:=hg.2.1;omega⟩ (by first | assumption | (simp;assumption))) rfl (fun v67 H67 cs67 hle67 hp67=>?_))
  obtain⟨r1,m1,e1,rfl,rfl,hl1,rfl⟩:=hp67
  refine fK ?_
  refine TC.cond rfl ?_ ?_<;>intro c69_1
  · exact rg
  refine TC.skip (a8 (ae (TC.region ?_)));refine lC ?_
  have o1:opW (aH t.kind) at_ (fun to m=>dy l f to (deep+1) m) 1 t.r (met.set at_.toNat true)=(true,m1):=by first | exact fB c52_1 c54_1 | exact fR c52_1 g57_1 g62_1 (e1.trans (by simp_all;done)) | exact fR c52_1 g57_1 g62_1 (e2.trans (by simp_all;done))
  exact zq63
 refine cW ?_;refine fo ?_
 refine ah (s:=57) rfl ?_ ?_<;>intro g57_0
 ·
  have q57_0:=of_decide_eq_true g57_0
  refine gI ?_
  exact vm
 have q57_0:=of_decide_eq_false g57_0
 refine ef ?_;refine da ?_
 refine ah (s:=62) rfl ?_ ?_<;>intro g62_0
 ·
  have q62_0:=of_decide_eq_true g62_0
  exact vm
 have q62_0:=of_decide_eq_false g62_0
 refine aB rfl rfl (bq rfl hw) rfl (ef ?_);refine vO ?_
 refine dQ (.h2) (jL rfl rfl (ab rfl rfl rfl rfl) (ih _ (deep+1) _ (by have q1:=of_decide_eq_false g57_0;have q2:=of_decide_eq_false g62_0;omega) (by have q1:=of_decide_eq_false g57_0;have q2:=of_decide_eq_false g62_0;omega) (by have q1:=of_decide_eq_false g57_0;have q2:=of_decide_eq_false g62_0;omega) ⟨by omega,by have:=hg.2.1;omega⟩ (by first | assumption | (simp;assumption))) rfl (fun v67 H67 cs67 hle67 hp67=>?_))
 obtain⟨r1,m1,e1,rfl,rfl,hl1,rfl⟩:=hp67
 refine fK ?_
 refine TC.cond rfl ?_ ?_<;>intro c69_0
 · exact rg
 refine TC.skip (a8 (ae (TC.region ?_)));refine lC ?_
 have o0:opW (aH t.kind) at_ (fun to m=>dy l f to (deep+1) m) 0 t.l (met.set at_.toNat true)=(true,m1):=by first | exact fB c52_0 c54_0 | exact fR c52_0 g57_0 g62_0 (e1.trans (by simp_all;done)) | exact fR c52_0 g57_0 g62_0 (e2.trans (by simp_all;done))
 refine ly (eO (zm5 ?_));refine cD rfl (qr ?_);refine ec ?_;refine TL.run (ay rfl (.h1) rfl) rfl (zm0 ?_);refine eX ?_;refine sr ?_
 refine ag rfl ?_ ?_<;>intro c52_1
 ·
  refine ng ?_
  refine aW rfl ?_ ?_<;>intro c54_1
  · refine jt ?_;exact aC (zq127)
  refine cW ?_;refine sm ?_;refine lC ?_
  have o1:opW (aH t.kind) at_ (fun to m=>dy l f to (deep+1) m) 1 t.r m1=(true,m1):=by first | exact fB c52_1 c54_1 | exact fR c52_1 g57_1 g62_1 (e1.trans (by simp_all;done)) | exact fR c52_1 g57_1 g62_1 (e2.trans (by simp_all;done))
  exact zq63
 refine cW ?_;refine fo ?_
 refine ah (s:=57) rfl ?_ ?_<;>intro g57_1
 ·
  have q57_1:=of_decide_eq_true g57_1
  refine oG ?_;refine gE ?_;refine ji ?_
  exact rg
 have q57_1:=of_decide_eq_false g57_1
 refine ef ?_;refine da ?_
 refine ah (s:=62) rfl ?_ ?_<;>intro g62_1
 ·
  have q62_1:=of_decide_eq_true g62_1
  refine dB ?_;refine gE ?_;refine ji ?_
  exact rg
 have q62_1:=of_decide_eq_false g62_1
 refine aB rfl rfl (bq rfl hw) rfl (ef ?_);refine vO ?_
 refine jL rfl rfl (ab rfl rfl rfl rfl) (ih _ (deep+1) _ (by have q1:=of_decide_eq_false g57_1;have q2:=of_decide_eq_false g62_1;omega) (by have q1:=of_decide_eq_false g57_1;have q2:=of_decide_eq_false g62_1;omega) (by have q1:=of_decide_eq_false g57_1;have q2:=of_decide_eq_false g62_1;omega) ⟨by omega,by have:=hg.2.1;omega⟩ (by first | assumption | (simp;assumption))) rfl (fun v67 H67 cs67 hle67 hp67=>?_)
 obtain⟨r2,m2,e2,rfl,rfl,hl2,rfl⟩:=hp67
 refine fK ?_
 refine TC.cond rfl ?_ ?_<;>intro c69_1
 · exact rg
 refine TC.skip (a8 (ae (TC.region ?_)));refine lC ?_
 have o1:opW (aH t.kind) at_ (fun to m=>dy l f to (deep+1) m) 1 t.r m1=(true,m2):=by first | exact fB c52_1 c54_1 | exact fR c52_1 g57_1 g62_1 (e1.trans (by simp_all;done)) | exact fR c52_1 g57_1 g62_1 (e2.trans (by simp_all;done))
 exact zq63
theorem zP {H:Hp}{l:List Term}{v:Value}(root:Int)(hT:RdSl H 6 Term.cells v l)(hnames:∀t∈l,t.name.length≤9223372036854775807):
  FnS Tryz.prog 59 [v,.int .i64 root] H (.bool (dH l root)):=by
 have hmax:=hT.max
 have one1:=hT.isOne
 refine FnS.enter Tryz.func59 Tryz.ntmps59 rfl rfl (fun w0=>?_)
 refine zm2 ?_
 refine mE rfl rfl (fun b2=>?_)
 refine nh ?_;refine jb ?_;refine TL.run (ai rfl rfl hT) rfl (zm4 ?_)
 refine ah (s:=10) rfl ?_ ?_<;>intro g10
 ·
  have q10:=of_decide_eq_true g10
  refine mU ?_;refine j9 ?_
  exact aw (.inr rfl) (ad rfl (RVal.tmp rfl)) (congrArg Value.bool (by first | exact(mA g10).symm | exact(mz g14).symm | exact(my c19).symm | (rw [qS h160,e])))
 have q10:=of_decide_eq_false g10
 refine sy ?_
 refine ah (s:=14) rfl ?_ ?_<;>intro g14
 ·
  have q14:=of_decide_eq_true g14
  refine dB ?_;refine j9 ?_
  exact aw (.inr rfl) (ad rfl (RVal.tmp rfl)) (congrArg Value.bool (by first | exact(mA g10).symm | exact(mz g14).symm | exact(my c19).symm | (rw [qS h160,e])))
 have q14:=of_decide_eq_false g14
 refine cg ?_;refine aB rfl rfl (ay rfl (.here _) rfl) rfl (aB rfl rfl (ai rfl rfl hT) rfl (fK ?_))
 refine ag rfl ?_ ?_<;>intro c19
 ·
  refine jt ?_
  exact aw (.inr rfl) (ad rfl (RVal.tmp rfl)) (congrArg Value.bool (by first | exact(mA g10).symm | exact(mz g14).symm | exact(my c19).symm | (rw [qS h160,e])))
 refine qt ?_;refine jb ?_;refine TL.run (ai rfl rfl hT) rfl (fD rfl rfl (by first | omega | decide) (by first | omega | decide) (by first | omega | decide) rfl (fun b22=>?_))
 refine TL.alloc rfl (fun b5=>?_)
 refine nf ?_
 refine TL.alloc rfl (fun b6=>?_)
 refine fY ?_;refine nf ?_
 refine cT sq (fun H_b6 le_b6 rd_b6=>?_)
 refine cT sq (fun H_b5 le_b5 rd_b5=>?_)
 refine dQ (.h1) (cT sq (fun H_b2 le_b2 rd_b2=>?_))
 have hT2:=((hT.le le_b6).le le_b5).le le_b2
 have hl:H_b2 b2 0=some v:=rd_b2 0 _ rfl
 have hm:=le_b2 _ _ _ (rd_b5 0 _ rfl)
 have hw:=le_b2 _ _ _ (le_b5 _ _ _ (rd_b6 0 _ rfl))
 have h160:=mayB_in g10 g14 c19
 rw [uB]
 refine TL.run (bq rfl hw) rfl (zm0 ?_)
 refine xL (ab rfl rfl rfl rfl) (walk_ok hT2 hnames hl hm hw (root.toNat+1) root 1 _ om om om om sq) rfl (fun v26 H26 cs26 hle26 hp26=>?_)
 obtain⟨b,m,e,rfl,rfl,hl2,rfl⟩:=hp26
 refine dv ?_
 exact aw (.inr rfl) (ad rfl (RVal.tmp rfl)) (congrArg Value.bool (by first | exact(mA g10).symm | exact(mz g14).symm | exact(my c19).symm | (rw [qS h160,e])))
end Go.Sx
namespace Go.Sx
open Go Go.Proofs
theorem nV {H:Hp}{l:List Str}{v:Value}(s:Str)(hL:RdSl H 1 Str.cells v l):
  FnS Tryz.prog 63 [v,gs s] H (.int .i64 (bz l s)):=by
 have hmax:=hL.max
 refine FnS.enter Tryz.func63 Tryz.ntmps63 rfl rfl (fun w0=>?_)
 refine lV ?_;refine TL.run (ai rfl rfl hL) rfl (zm7 ?_)
 refine TC.loop (V:=fun k=>[(8,.int .i64 k)]) (K:=[(0,_),(1,_),(4,_),(7,_)]) (L:=fun k=>_) (I:=fun k=>0≤k∧k≤l.length∧∀j:Nat,j<k.toNat→l[j]? ≠some s) (μ:=fun k=>(l.length - k).toNat) (i:=(0:Int)) ky ⟨by omega,by omega,fun j hj=>absurd hj sq⟩ (fun w hw=>hw) (fun k hI=>?_)
 refine zm5 ?_
 refine ag rfl ?_ ?_<;>intro c9
 ·
  refine cQ ?_
  obtain⟨x,hx⟩:=ao (l:=l) hI.1 c9
  refine jr ?_;refine dS ?_;refine lU ?_;refine TL.run (aJ hL hx rfl rfl) rfl (sk ?_)
  refine ag rfl ?_ ?_<;>intro c16
  ·
   refine sj ?_
   exact aw (.inr rfl) (ad rfl (RVal.tmp rfl)) (congrArg (Value.int .i64) (by first | exact(dr hI.1 (by rw [hx,c16]) hI.2.2).symm | exact(et hI.2.2 c9).symm))
  refine jP ?_
  exact aM (k+1) ⟨by omega,by omega,jD hI.1 hI.2.2 hx c16⟩ ky (fun w hw=>hw) om
 refine jv ?_
 exact aw (.inr rfl) (ad rfl (RVal.tmp rfl)) (congrArg (Value.int .i64) (by first | exact(dr hI.1 (by rw [hx,c16]) hI.2.2).symm | exact(et hI.2.2 c9).symm))
theorem gt {H:Hp}{l:List Str}{v:Value}(s:Str)(hL:RdSl H 1 Str.cells v l):
  FnS Tryz.prog 24 [v,gs s] H (.bool (bX l s)):=by
 refine FnS.enter Tryz.func24 Tryz.ntmps24 rfl rfl (fun w0=>?_)
 refine pB ?_;refine aq (ab rfl rfl rfl rfl) (nV s hL) rfl (eD ?_)
 exact aw (.inr rfl) (ad rfl (RVal.tmp rfl)) (congrArg Value.bool (by rw [← n9]))
theorem yB {H:Hp}{at_:Int}{bl bo bw:Nat}{u:Value}{xs:List Str}{ob:aj}(hneg:at_<0)(hO:OwnSl 1 Str.cells u xs ob):
  FnX Tryz.prog 60 [.int .i64 at_,.pointer (some ⟨bw,0,none⟩),.pointer (some ⟨bl,0,none⟩),.pointer (some ⟨bo,0,none⟩)] H ((bo,[u])::ob) (fun r H' L'=>r= .tuple #[]∧H'=H∧∃u' ob',L'=(bo,[u'])::ob'∧OwnSl 1 Str.cells u' xs ob'):=by
 refine FnX.enter Tryz.func60 Tryz.ntmps60 rfl rfl (fun w0=>?_)
 refine ng ?_
 refine ag rfl ?_ ?_<;>intro c6
 · exact TC.ret (aC (aO (.inr rfl) (bK rfl) (fun w hw=>hw) ⟨rfl,rfl,_,_,rfl,hO⟩))
 exact absurd hneg c6
theorem yA {H:Hp}{l:List Term}{v:Value}{bl bo bw:Nat}(hT:RdSl H 6 Term.cells v l)(hl:H bl 0=some v)(hw:H bw 0=some (.func (.func 60) #[] #[.pointer (some ⟨bw,0,none⟩),.pointer (some ⟨bl,0,none⟩),.pointer (some ⟨bo,0,none⟩)])):
  ∀(f:Nat) (at_:Int),(at_<0∨Tr l f at_)→∀(u:Value) (xs:List Str) (ob:aj),OwnSl 1 Str.cells u xs ob→xs.length+(eo l f at_).length≤100000000→
   FnX Tryz.prog 60 [.int .i64 at_,.pointer (some ⟨bw,0,none⟩),.pointer (some ⟨bl,0,none⟩),.pointer (some ⟨bo,0,none⟩)] H ((bo,[u])::ob) (fun r H' L'=>r= .tuple #[]∧H'=H∧∃u' ob',L'=(bo,[u'])::ob'∧OwnSl 1 Str.cells u' (xs++eo l f at_) ob'):=by
 intro f
 induction f with
 | zero=>
  intro at_ h u xs ob hO hlen
  have h0:at_<0:=h.resolve_right (fun h=>h)
  rw [kV h0,List.append_nil]
  exact yB h0 hO
 | succ f ih=>
 intro at_ h u xs ob hO hlen
 have one0:=hT.isOne
 obtain⟨ua,uc,rfl⟩:=hO.form
 refine FnX.enter Tryz.func60 Tryz.ntmps60 rfl rfl (fun w0=>?_)
 refine ng ?_
 refine ag rfl ?_ ?_<;>intro c6
 · exact TC.ret (aC (aO (.inr rfl) (bK rfl) (fun w hw=>hw) ⟨rfl,rfl,_,_,rfl,by rw [kV c6,List.append_nil];exact hO⟩))
 obtain⟨h0,t,hx,_,_,hTl0,hTl1,hTr0,hTr1⟩:=h.resolve_left c6
 have hlt:at_.toNat<l.length:=(List.getElem?_eq_some_iff.1 hx).1
 rw [kb c6 hx] at hlen
 simp only [List.length_append] at hlen
 have hTl:t.l<0∨Tr l f t.l:=by rcases Int.lt_or_le (aH t.kind) 1 with h1 | h1;exact .inl (by have:=hTl1 h1;omega);exact .inr (hTl0 h1)
 have hTr:t.r<0∨Tr l f t.r:=by rcases Int.lt_or_le (aH t.kind) 2 with h1 | h1;exact .inl (by have:=hTr1 h1;omega);exact .inr (hTr0 h1)
 refine f8 ?_;refine d3 ?_;refine vN ?_;refine aQ (bq rfl hw) rfl (si ?_)
 refine bn (eV (L1:=(bo,[(.slice ua _ uc)])::ob) (ab rfl rfl rfl rfl) (ih t.l (hTl) _ _ _ hO om) rfl (fun v13 H13 L13 hle13 hp13=>?_))
 obtain⟨rfl,rfl,u13,ob13,rfl,hO13⟩:=hp13
 obtain⟨ua13,uc13,rfl⟩:=hO13.form
 refine ik ?_;refine ig ?_;refine vN ?_;refine aQ (bq rfl hw) rfl (si ?_)
 refine bn (eV (L1:=(bo,[(.slice ua13 _ uc13)])::ob13) (ab rfl rfl rfl rfl) (ih t.r (hTr) _ _ _ hO13 (by simp only [List.length_append];omega)) rfl (fun v20 H20 L20 hle20 hp20=>?_))
 obtain⟨rfl,rfl,u20,ob20,rfl,hO20⟩:=hp20
 obtain⟨ua20,uc20,rfl⟩:=hO20.form
 refine ik ?_;refine zm2 ?_;refine TL.run (bq rfl hl) rfl (zm0 ?_);refine TL.run (af rfl hT rfl om om) rfl (zm8 ?_);refine TL.run (bL hT hx rfl rfl) rfl (zm1 ?_)
 refine ag rfl ?_ ?_<;>intro c26
 ·
  rw [if_pos c26] at hlen
  simp only [List.length_cons,List.length_nil] at hlen
  refine d3 ?_;refine cJ [(0,2),(1,2),(2,1),(3,1),(4,1),(5,2),(6,3),(7,0),(8,0)] kr kr (lE ?_);refine si ?_
  refine aA rfl rfl rfl rfl (fun b33=>?_)
  refine bn (TL.append (enc:=Str.cells) rfl rfl rfl hO20 (Src.own [t.name] (.here _) rfl rfl) (by simp;omega) rfl (.skip _ (.skip _ .all)) rfl (fun a34 c34 ob34 hO34=>?_))
  refine TF.back (bn (i3 rfl rfl rfl (.h1) rfl (TF.back ?_)))
  exact TF.nil (aO (.inl rfl) (bK rfl) (fun w hw=>hw.drop) ⟨rfl,rfl,_,_,rfl,by rw [kb c6 hx,if_pos c26,← List.append_assoc,← List.append_assoc];exact hO34⟩)
 exact TC.skip (aO (.inl rfl) (bK rfl) (fun w hw=>hw) ⟨rfl,rfl,_,_,rfl,by rw [kb c6 hx,if_neg c26,List.append_nil,← List.append_assoc];exact hO20⟩)
theorem Vars_ok {H:Hp}{l:List Term}{v:Value}(root:Int)(hT:RdSl H 6 Term.cells v l)(hnames:∀t∈l,t.name.length≤9223372036854775807):
  Fn Tryz.prog 23 [v,.int .i64 root] H (fun r H1=>RdSl H1 1 Str.cells r (gk l root)):=by
 have one1:=hT.isOne
 refine Fn.enter Tryz.func23 Tryz.ntmps23 rfl rfl (fun w0=>?_)
 refine zm2 ?_
 refine mE rfl rfl (fun b2=>?_)
 refine nh ?_;refine su ?_;refine aq (ab rfl rfl rfl rfl) (zP root hT hnames) rfl (zm1 ?_)
 refine TC.cond rfl ?_ ?_<;>intro c10
 ·
  refine jt ?_
  exact aN (.inr rfl) (ad rfl (RVal.tmp rfl)) (by unfold gk;rw [if_neg (by simpa using c10)];exact RdSl.nil)
 refine qt ?_
 refine TL.alloc rfl (fun b5=>?_)
 refine fz ?_
 refine TL.alloc rfl (fun b6=>?_)
 refine fY ?_;refine nf ?_
 refine cT sq (fun H_b6 le_b6 rd_b6=>?_)
 refine dQ (.h1) (cT sq (fun H_b2 le_b2 rd_b2=>?_))
 have hT2:=(hT.le le_b6).le le_b2
 have hl:H_b2 b2 0=some v:=rd_b2 0 _ rfl
 have hw:=le_b2 _ _ _ (rd_b6 0 _ rfl)
 have hm:dH l root=true:=by simpa using c10
 have hvl:=qa hm
 refine TL.run (bq rfl hw) rfl (zm0 ?_)
 refine eV (L1:=(b5,[.slice none 0 0])::[]) (ab rfl rfl rfl rfl) (yA hT2 hl hw (root.toNat+1) root (.inr (qR hm)) _ [] [] OwnSl.nil (by simp;omega)) rfl (fun v14 H14 L14 hle14 hp14=>?_)
 obtain⟨rfl,rfl,u14,ob14,rfl,hO14⟩:=hp14
 rw [List.nil_append] at hO14
 obtain⟨ua14,uc14,rfl⟩:=hO14.form
 refine fz ?_;refine jb ?_
 refine TL.sort (ab rfl rfl rfl rfl) sort_ok hO14 (.skip _ .all) om rfl (fun ob16 hO16=>?_)
 refine fz ?_;refine jb ?_
 refine TL.compact (ab rfl rfl rfl rfl) u9 hO16 (.skip _ .all) rfl (fun a18 c18 ob18 hO18=>?_)
 refine dv ?_
 refine TX.pubO hO18 (.skip _ .all) sq (fun H1 hle hR=>?_)
 exact aN (.inr rfl) (ad rfl (RVal.tmp rfl)) (by unfold gk;rw [if_pos hm];exact hR)
end Go.Sx
namespace Go.Sx
open Go
theorem t7 {u:Nat}(h:10≤u):Lib.decDigits u=Lib.decDigits (u / 10)++[UInt8.ofNat (48+u % 10)]:=by
 rw [Lib.decDigits,dif_neg om]
theorem dec_len (k : Nat) : ∀ u : Nat, u < 10 ^ k → (Lib.decDigits u).length ≤ max k 1 := by
  induction k with
  | zero => intro u h; have : u = 0 := by simpa using h
            subst this; rw [Lib.decDigits_one dq]; simp
  | succ k ih =>
    intro u h
    by_cases h10 : u < 10
    · rw [Lib.decDigits_one h10]; simp
    · rw [t7 om]
      have := ih (u / 10) (by rw [Nat.pow_succ] at h; omega)
      simp only [List.length_append, List.length_cons, List.length_nil]
      have h2 : 1 ≤ (Lib.decDigits (u / 10)).length := by
        rw [Lib.decDigits]; split <;> simp
      rcases Nat.eq_zero_or_pos k with rfl | hk
      · simp at h; omega
      · omega
def DigI (m u z:Nat)(o:List UInt8):Prop:=m≤9223372036854775808∧((o=[]∧u=m∧z=1)∨(o≠[]∧z=0∧u≤m∧(if u=0 then o else Lib.decDigits u++o)=Lib.decDigits m))
section
variable {m u z:Nat}{o:List UInt8}{n:Int}
theorem DigI.zero (h0: -9223372036854775808≤n)(h1:n≤9223372036854775807):DigI n.natAbs n.natAbs 1 []:=⟨by omega,.inl ⟨rfl,rfl,rfl⟩⟩
theorem DigI.lt (h:DigI m u z o):u<18446744073709551616:=by
 obtain⟨h0,⟨_,h,_⟩ | ⟨_,_,h,_⟩⟩:=h<;>omega
theorem DigI.len (h : DigI m u z o) : o.length ≤ 20 := by
  obtain ⟨h0, ⟨h, _⟩ | ⟨_, _, _, h⟩⟩ := h
  · rw [h]; simp
  · have h2 := dec_len 20 m (by have : (10 : Nat) ^ 20 = 100000000000000000000 := by decide
                                omega)
    have h3 := congrArg List.length h
    split at h3
    · omega
    · simp only [List.length_append] at h3; omega
theorem DigI.next (h:DigI m u z o)(hg:0<u∨o.length=0):DigI m (u / 10) 0 ([UInt8.ofNat (48+u % 10)]++o):=by
 obtain⟨h0,h⟩:=h
 refine⟨h0,.inr ⟨by simp,rfl,?_,?_⟩⟩
 ·rcases h with ⟨_,rfl,_⟩ | ⟨_,_,h,_⟩<;>omega
 ·have key:0<u→(if u / 10=0 then [UInt8.ofNat (48+u % 10)]++o else Lib.decDigits (u / 10)++([UInt8.ofNat (48+u % 10)]++o))=Lib.decDigits u++o:=by
   intro hu
   split
   ·rw [Lib.decDigits_one om,show u % 10=u by omega]
   ·rw [t7 (u:=u) om];simp
  rcases h with ⟨rfl,rfl,_⟩ | ⟨hne,_,_,h⟩
  ·rcases Nat.eq_zero_or_pos u with rfl | hu
   ·rw [Lib.decDigits_one dq];rfl
   ·rw [key hu];simp
  ·have hu:0<u:=by
    rcases hg with h | h
    ·exact h
    ·exact absurd (List.length_eq_zero_iff.1 h) hne
   rw [key hu,← h,if_neg om]
theorem DigI.down (h:DigI m u z o)(hg:0<u∨o.length=0):u / 10+0<u+z:=by
 obtain⟨h0,⟨_,_,rfl⟩ | ⟨hne,rfl,_,_⟩⟩:=h
 ·omega
 ·rcases hg with h | h
  ·omega
  ·exact absurd (List.length_eq_zero_iff.1 h) hne
theorem dgo_1 (h:decide ((0:Int)<(u:Int))=true):true=(decide (0<u)||decide (o.length=0)):=by
 have:0<u:=by have:=of_decide_eq_true h;omega
 simp [this]
theorem dgo_2 (h:decide ((0:Int)<(u:Int))=false):decide ((o.length:Int)=0)=(decide (0<u)||decide (o.length=0)):=by
 have:¬0<u:=by have:=of_decide_eq_false h;omega
 have e:((o.length:Int)=0)↔o.length=0:=by omega
 simp only [this,decide_false,Bool.false_or]
 exact decide_eq_decide.2 e
theorem dgo_T (h:(decide (0<u)||decide (o.length=0))=true):0<u∨o.length=0:=by simpa only [Bool.or_eq_true,decide_eq_true_eq] using h
theorem dgo_F (h:(decide (0<u)||decide (o.length=0))=false):¬0<u∧¬o.length=0:=by simpa only [Bool.or_eq_false_iff,decide_eq_false_iff_not] using h
theorem DigI.out (h:DigI m u z o)(hu:¬0<u)(ho:¬o.length=0):o=Lib.decDigits m:=by
 obtain⟨h0,⟨rfl,_⟩ | ⟨_,_,_,h⟩⟩:=h
 ·exact absurd rfl ho
 ·rwa [if_pos om] at h
theorem t6 (hD:DigI n.natAbs u z o)(hend:¬0<u∧¬o.length=0)(h:n<0):[45]++o=Lib.itoa n:=by
 rw [hD.out hend.1 hend.2];unfold Lib.itoa;rw [if_pos h];rfl
theorem tZ (hD:DigI n.natAbs u z o)(hend:¬0<u∧¬o.length=0)(h:¬n<0):o=Lib.itoa n:=by
 rw [hD.out hend.1 hend.2];unfold Lib.itoa;rw [if_neg h];congr 1;omega
theorem dig_quo (h:u<18446744073709551616):IntKind.u64.wrap ((u:Int).tdiv 10)=((u / 10:Nat):Int):=by
 rw [Int.tdiv_eq_ediv_of_nonneg om]
 simp only [IntKind.wrap,IntKind.signed,IntKind.bits]
 simp
 omega
theorem zw (u:Nat):IntKind.u8.wrap (IntKind.u64.wrap (48+(u:Int).tmod 10))=((UInt8.ofNat (48+u % 10)).toNat:Int):=by
 rw [Int.tmod_eq_emod_of_nonneg om]
 simp only [IntKind.wrap,IntKind.signed,IntKind.bits]
 simp
theorem dig_pos (h0: -9223372036854775808≤n)(h1:n≤9223372036854775807)(h:¬n<0):IntKind.u64.wrap n=(n.natAbs:Int):=by
 simp only [IntKind.wrap,IntKind.signed,IntKind.bits]
 simp
 omega
theorem dig_neg (h0: -9223372036854775808≤n)(h1:n≤9223372036854775807)(h:n<0):IntKind.u64.wrap (0 - IntKind.u64.wrap n)=(n.natAbs:Int):=by
 simp only [IntKind.wrap,IntKind.signed,IntKind.bits]
 simp
 omega
end
end Go.Sx
namespace Go.Sx
open Go Go.Proofs
theorem u7 {H:Hp}(n:Int)(h0: -9223372036854775808≤n)(h1:n≤9223372036854775807)(hn:¬n<0):
  FnS Tryz.prog 181 [.int .i64 n] H (gs (Lib.itoa n)):=by
 refine FnS.enter Tryz.func181 Tryz.ntmps181 rfl rfl (fun w0=>?_)
 refine j8 ?_;refine TL.run (PR.to (iT rfl) (congrArg (Value.int .u64) (dig_pos h0 h1 hn))) rfl (lT ?_)
 refine ag rfl ?_ ?_<;>intro c8
 · exact absurd c8 hn
 exact TC.skip (zq132)
theorem u6 {H:Hp}(n:Int)(h0: -9223372036854775808≤n)(h1:n≤9223372036854775807)(hn:n<0):
  FnS Tryz.prog 181 [.int .i64 n] H (gs (Lib.itoa n)):=by
 refine FnS.enter Tryz.func181 Tryz.ntmps181 rfl rfl (fun w0=>?_)
 refine j8 ?_;refine TL.run (iT rfl) rfl (lT ?_)
 refine ag rfl ?_ ?_<;>intro c8
 ·
  refine jN ?_;refine TL.run (PR.to (aD rfl) (congrArg (Value.int .u64) (dig_neg h0 h1 hn))) rfl (dk ?_)
  exact zq132
 exact absurd hn c8
theorem qk {H:Hp}(n:Int)(h0: -9223372036854775808≤n)(h1:n≤9223372036854775807):FnS Tryz.prog 181 [.int .i64 n] H (gs (Lib.itoa n)):=by
 by_cases hn:n<0
 · exact u6 n h0 h1 hn
 · exact u7 n h0 h1 hn
end Go.Sx
namespace Go.Sx
open Go
inductive CT where
 | int
 | str (p:Str→Prop)
 | sl (t:Nat)
structure Sig where
 f:Nat→Option (Nat×Nat)
 N:Nat
instance :CoeFun Sig (fun _=>Nat→Option (Nat×Nat)):=⟨Sig.f⟩
def Sig.le (S S':Sig):Prop:=(∀b x,S b=some x→S' b=some x)∧S.N≤S'.N
theorem Sig.le.refl (S:Sig):S.le S:=⟨fun _ _ h=>h,Nat.le_refl _⟩
theorem Sig.le.trans {A B C:Sig}(h:A.le B)(k:B.le C):A.le C:=⟨fun b x hx=>k.1 b x (h.1 b x hx),Nat.le_trans h.2 k.2⟩
def Sig.up (S:Sig)(k:Nat):Sig:={S with N:=S.N+k}
theorem Sig.le_up (S:Sig)(k:Nat):S.le (S.up k):=⟨fun _ _ h=>h,Nat.le_add_right _ _⟩
def VarNm (s:Str):Prop:=s=[]∨s=[99]∨s=[110]∨s=[99,57]∨∃ds:Str,s=118::ds∧ds.length≤10∧∀c∈ds,48≤c∧c≤57
def AnyNm (s:Str):Prop:=s.length≤1000
def PNm (s:Str):Prop:=s.length≤1000∧s≠[109,111,114,101]
def dX:Nat→List CT
 | 0=>[.int,.str VarNm,.int,.str AnyNm,.int,.int]
 | 1=>[.str AnyNm,.str VarNm,.int]
 | 2=>[.str AnyNm,.str PNm,.sl 4]
 | 3=>[.int,.str VarNm,.str AnyNm,.str AnyNm,.str PNm,.int,.sl 4,.sl 2,.sl 1,.int]
 | _=>[.int]
def kT (t:Nat):Nat:=(dX t).length
theorem kT_pos:∀t,0<kT t
 | 0 | 1 | 2 | 3=>by decide
 | n+4=>by simp [kT,dX]
def SlT (S:Sig)(t:Nat)(a:Option Addr)(n c:Nat):Prop:=
 (a=none∧n=0∧c=0)∨∃b j m,a=some ⟨b,j * kT t,none⟩∧S b=some (t,m)∧n≤c∧j+c≤m∧c≤9223372036854775807
theorem SlT.nil {S:Sig}{t:Nat}:SlT S t none 0 0:=.inl ⟨rfl,rfl,rfl⟩
theorem SlT.le {S S':Sig}{t:Nat}{a:Option Addr}{n c:Nat}(h:SlT S t a n c)(hl:S.le S'):SlT S' t a n c:=by
 rcases h with h | ⟨b,j,m,h1,h2,h3⟩
 ·exact .inl h
 ·exact .inr ⟨b,j,m,h1,hl.1 _ _ h2,h3⟩
def CTy (H:Hp)(S:Sig):CT→Value→Prop
 | .int,v=>∃i,v= .int .i64 i
 | .str p,v=>∃s,v=gs s∧p s
 | .sl t,v=>∃a n c,v= .slice a n c∧SlT S t a n c∧n≤S.N
theorem CTy.le {H H':Hp}{S S':Sig}{ct:CT}{v:Value}(h:CTy H S ct v)(hH:H.le H')(hS:S.le S'):CTy H' S' ct v:=by
 cases ct with
 | int=>exact h
 | str p=>exact h
 | sl t=>
  obtain⟨a,n,c,e,hs,hn⟩:=h
  exact⟨a,n,c,e,hs.le hS,Nat.le_trans hn hS.2⟩
def AllT (H:Hp)(S:Sig):List CT→List Value→Prop
 | [],[]=>True
 | c::cs,v::vs=>CTy H S c v∧AllT H S cs vs
 | _,_=>False
theorem AllT.at {H:Hp}{S:Sig}:∀{cs:List CT} {vs:List Value},AllT H S cs vs→∀{j:Nat} {u:Value},vs[j]? =some u→∃ct,cs[j]? =some ct∧CTy H S ct u
 | [],[],_,j,u,hu=>by simp at hu
 | c::cs,v::vs,h,0,u,hu=>by simp at hu;subst hu;exact⟨c,rfl,h.1⟩
 | c::cs,v::vs,h,j+1,u,hu=>by
  obtain⟨ct,h1,h2⟩:=AllT.at h.2 (j:=j) (u:=u) (by simpa using hu)
  exact⟨ct,by simpa using h1,h2⟩
 | [],_::_,h,_,_,_=>h.elim
 | _::_,[],h,_,_,_=>h.elim
theorem AllT.of {H:Hp}{S:Sig}:∀{cs:List CT} {vs:List Value},vs.length=cs.length→(∀(j:Nat) (ct:CT),cs[j]? =some ct→∃u,vs[j]? =some u∧CTy H S ct u)→AllT H S cs vs
 | [],[],_,_=>trivial
 | c::cs,v::vs,hl,h=>by
  obtain⟨u,h1,h2⟩:=h 0 c rfl
  simp at h1;subst h1
  exact⟨h2,AllT.of (by simpa using hl) (fun j ct hj=>by simpa using h (j+1) ct (by simpa using hj))⟩
 | [],_::_,h,_=>by simp at h
 | _::_,[],h,_=>by simp at h
structure Bag (H:Hp)(S:Sig)(B:aj):Prop where
 ty:∀p∈B,∃t m,S p.1=some (t,m)∧p.2.length=m * kT t∧∀(o:Nat) (u:Value),p.2[o]? =some u→∃ct,(dX t)[o % kT t]? =some ct∧CTy H S ct u
 mem:∀b t m,S b=some (t,m)→∃cs,(b,cs)∈B
def Sig.nil:Sig:=⟨fun _=>none,10⟩
theorem Bag.nil {H:Hp}:Bag H Sig.nil []:=⟨by simp,by simp [Sig.nil]⟩
theorem Bag.leH {H H':Hp}{S:Sig}{B:aj}(h:Bag H S B)(hl:H.le H'):Bag H' S B:=
 ⟨fun p hp=>by
  obtain⟨t,m,h1,h2,h3⟩:=h.ty p hp
  refine⟨t,m,h1,h2,fun o u hu=>?_⟩
  obtain⟨ct,h4,h5⟩:=h3 o u hu
  exact⟨ct,h4,h5.le hl (.refl S)⟩,h.mem⟩
theorem Bag.up {H:Hp}{S:Sig}{B:aj}(h:Bag H S B)(k:Nat):Bag H (S.up k) B:=
 ⟨fun p hp=>by
  obtain⟨t,m,h1,h2,h3⟩:=h.ty p hp
  refine⟨t,m,h1,h2,fun o u hu=>?_⟩
  obtain⟨ct,h4,h5⟩:=h3 o u hu
  exact⟨ct,h4,h5.le (.refl H) (Sig.le_up S k)⟩,h.mem⟩
theorem Bag.perm {H:Hp}{S:Sig}{B B':aj}(h:Bag H S B)(hp:B.Perm B'):Bag H S B':=
 ⟨fun p hm=>h.ty p (hp.mem_iff.2 hm),fun b t m hs=>by
  obtain⟨cs,hc⟩:=h.mem b t m hs
  exact⟨cs,hp.mem_iff.1 hc⟩⟩
theorem Bag.take {H:Hp}{S:Sig}{B:aj}{b t m:Nat}(h:Bag H S B)(hS:S b=some (t,m)):∃cs R,B.Perm ((b,cs)::R)∧cs.length=m * kT t∧∀(o:Nat) (u:Value),cs[o]? =some u→∃ct,(dX t)[o % kT t]? =some ct∧CTy H S ct u:=by
 obtain⟨cs,hc⟩:=h.mem b t m hS
 obtain⟨X,Y,rfl⟩:=List.append_of_mem hc
 obtain⟨t',m',h1,h2,h3⟩:=h.ty _ hc
 rw [hS] at h1
 cases h1
 exact⟨cs,X++Y,List.perm_middle,h2,h3⟩
theorem Bag.back {H:Hp}{S:Sig}{R:aj}{b t m:Nat}{cs cs':List Value}(h:Bag H S ((b,cs)::R))(hS:S b=some (t,m))(hl:cs'.length=m * kT t)
    (hc:∀(o:Nat) (u:Value),cs'[o]? =some u→∃ct,(dX t)[o % kT t]? =some ct∧CTy H S ct u):Bag H S ((b,cs')::R):=
  ⟨fun p hp=>by
    rcases List.mem_cons.1 hp with rfl | hp
    · exact⟨t,m,hS,hl,hc⟩
    · exact h.ty p (List.mem_cons_of_mem _ hp),
   fun b' t' m' hs=>by
    obtain⟨c,hm⟩:=h.mem b' t' m' hs
    rcases List.mem_cons.1 hm with e | hm
    · cases e;exact⟨cs',by simp⟩
    · exact⟨c,List.mem_cons_of_mem _ hm⟩⟩
def Sig.put (S:Sig)(b t m:Nat):Sig:=⟨fun x=>if x=b then some (t,m) else S x,S.N⟩
theorem Sig.le_put {S:Sig}{b t m:Nat}(h:S b=none):S.le (S.put b t m):=⟨fun x y hx=>by
 simp only [Sig.put]
 split
 ·rename_i e;subst e;rw [h] at hx;cases hx
 ·exact hx,Nat.le_refl _⟩
theorem Sig.put_at {S:Sig}{b t m:Nat}:(S.put b t m) b=some (t,m):=by simp [Sig.put]
theorem Bag.add {H:Hp}{S:Sig}{B:aj}{b t m:Nat}{cs:List Value}(h:Bag H S B)(hb:S b=none)(hl:cs.length=m * kT t)
    (hc:∀(o:Nat) (u:Value),cs[o]? =some u→∃ct,(dX t)[o % kT t]? =some ct∧CTy H S ct u):Bag H (S.put b t m) ((b,cs)::B):=
  ⟨fun p hp=>by
    rcases List.mem_cons.1 hp with rfl | hp
    · refine⟨t,m,Sig.put_at,hl,fun o u hu=>?_⟩
      obtain⟨ct,h1,h2⟩:=hc o u hu
      exact⟨ct,h1,h2.le (.refl H) (Sig.le_put hb)⟩
    · obtain⟨t',m',h1,h2,h3⟩:=h.ty p hp
      refine⟨t',m',(Sig.le_put hb).1 _ _ h1,h2,fun o u hu=>?_⟩
      obtain⟨ct,h4,h5⟩:=h3 o u hu
      exact⟨ct,h4,h5.le (.refl H) (Sig.le_put hb)⟩,
   fun b' t' m' hs=>by
    simp only [Sig.put] at hs
    split at hs
    · rename_i e;subst e;exact⟨cs,by simp⟩
    · obtain⟨c,hm⟩:=h.mem b' t' m' hs
      exact⟨c,List.mem_cons_of_mem _ hm⟩⟩
theorem Bag.none {H:Hp}{S:Sig}{B:aj}(h:Bag H S B){b:Nat}(hb:∀p∈B,p.1≠b):S b=none:=by
 cases e:S b with
 | none=>rfl
 | some x=>
  obtain⟨cs,hc⟩:=h.mem b x.1 x.2 (by rw [e])
  exact absurd rfl (hb _ hc)
theorem set_get {cs:List Value}{o:Nat}{v:Value}{i:Nat}{u:Value}(h:(cs.set o v)[i]? =some u):(i=o∧u=v)∨cs[i]? =some u:=by
 rw [List.getElem?_set] at h
 split at h
 ·split at h
  ·simp only [Option.some.injEq] at h
   rename_i e _
   exact .inl ⟨e.symm,h.symm⟩
  ·cases h
 ·exact .inr h
theorem qA {vs cs:List Value}{o i:Nat}{u:Value}(hl:o+vs.length≤cs.length)(h:(bG cs o vs)[i]? =some u):(o≤i∧vs[i - o]? =some u)∨cs[i]? =some u:=by
 rw [fa _ _ _ hl] at h
 by_cases h1:i<o
 ·rw [List.getElem?_append_left (by simp;omega),List.getElem?_take,if_pos h1] at h
  exact .inr h
 ·rw [List.getElem?_append_right (by simp;omega),List.length_take,Nat.min_eq_left om] at h
  by_cases h2:i - o<vs.length
  ·rw [List.getElem?_append_left h2] at h
   exact .inl ⟨by omega,h⟩
  ·rw [List.getElem?_append_right om,List.getElem?_drop] at h
   rw [show o+vs.length+(i - o - vs.length)=i by omega] at h
   exact .inr h
theorem oK {z:Array Value}{m o:Nat}{u:Value}(hz:0<z.size)(h:(Builtin.zeroCells z m).toList[o]? =some u):z.toList[o % z.size]? =some u:=by
 have h1:(Builtin.zeroCells z m)[o]? =some u:=by simpa using h
 unfold Builtin.zeroCells at h1
 rw [Array.getElem?_map] at h1
 cases e:(Array.range (m * z.size))[o]? with
 | none=>rw [e] at h1;simp at h1
 | some i=>
  rw [e] at h1
  obtain⟨hlt,hi⟩:=Array.getElem?_eq_some_iff.1 e
  simp at hi
  subst hi
  have hm:=Nat.mod_lt o hz
  simp only [Option.map_some,Option.some.injEq] at h1
  rw [Array.getElem!_eq_getD,Array.getD_eq_getD_getElem?,Array.getElem?_eq_getElem hm] at h1
  simp only [Option.getD_some] at h1
  subst h1
  simp [hm]
section
variable {P:Program}{n:Nat}{ops:Array Oper}{Q:Exit→Act→World→Prop}{E:Env}{M:List Nat}{w0:World}{H0 H:Hp}{L:aj}{C:World→Prop}{rest:List Oper}{dst:Option Nat}{op:Op}{ty:TypeId}{pos:String}{aft:Array Edge}
theorem sV {α : Type} {k t e bs tt : Nat} {z : List Value} {enc : α → List Value} [hc : Cells k enc] [hE : Elz P tt e k bs z] {S : Sig} {B : aj} {F : aj → aj} {a : Option Addr} {n c : Nat} {v2 : Value} {ys : List α} {ty : TypeId}
  (hB : Bag H S B) (hT : SlT S t a n c) (hS : Src M w0 H0 H L enc v2 ys) (hk : kT t = k) (hy : ∀ y ∈ ys, AllT H S (dX t) (enc y)) (hz : AllT H S (dX t) z)
  (hb : (n + ys.length) * bs ≤ 140737488355328) (hbs : 0 < bs) (hU : Tl B L F) {w : World} (hw : St M w0 H0 H L w) :
  ∃ S' a' c' B' w', (S.le S' ∧ S'.N = S.N) ∧ SlT S' t a' (n + ys.length) c' ∧ Bag H S' B' ∧ St M w0 H0 H (F B') w' ∧ (Builtin.append_ #[tt, tt] ty #[.slice a n c, v2]).run P w = .ok (.slice a' (n + ys.length) c') w' := by
 obtain ⟨hu, i, zv, hi, h1, h2, h3, h4⟩ := hE.und
 have hkp := hc.pos
 have hmax : n + ys.length ≤ 140737488355328 := Nat.le_trans (Nat.le_mul_of_pos_right _ hbs) hb
 obtain ⟨R, hp1, hp2⟩ := hU.perm
 have hwR := hw.perm hp1
 obtain ⟨a2, cap2, rfl, hsrc⟩ := hS
 have hzk : zv.cells.size = k := by rw [← hE.len, ← h4]; simp
 have hzl : ∀ m, (Builtin.zeroCells zv.cells m).toList.length = m * k := by intro m; rw [Array.length_toList, size_zeroCells, hzk]
 have hzt : ∀ m (o : Nat) (u : Value), (Builtin.zeroCells zv.cells m).toList[o]? = some u → ∃ ct, (dX t)[o % k]? = some ct ∧ CTy H S ct u := fun m o u hx => by
  have := oK om hx
  rw [h4, hzk] at this
  exact hz.at this
 by_cases hys : ys = []
 ·subst hys
  have hfc : ∀ w, (Builtin.firstCells i.size 0 (.slice a2 0 cap2)).run P w = .ok #[] w := by
   intro w
   cases a2 with
   | none => exact run_firstCells_none w _ _ _ _
   | some a => exact run_firstCells_some (P := P) w i.size 0 a 0 cap2 [] sq sq
  refine ⟨S, a, c, B, w, ⟨.refl S, rfl⟩, by simpa using hT, hB, hw.perm (hp1.trans (hp2 B).symm), ?_⟩
  rcases hT with ⟨rfl, rfl, rfl⟩ | ⟨b, j, m, rfl, hSb, hn, hjc, hcm⟩
  ·simp [Builtin.append_, run_underlying hu, sizeOf, typeInfo, hi, Builtin.lenOf, hfc]
  ·simp [Builtin.append_, run_underlying hu, sizeOf, typeInfo, hi, Builtin.lenOf, hfc, hn, storeCells]
 ·obtain ⟨sb, so, rfl, hrd⟩ := hsrc hys
  have hrd' : ∀ j u, (ys.flatMap enc)[j]? = some u → w.cell? ((⟨sb, so, none⟩ : Addr).add j) = some u := fun j u hj => by rw [dO]; exact hrd w hw j u hj
  have hyl : (ys.flatMap enc).length = ys.length * k := gz (fun x _ => hc.len x)
  have hyl' : (ys.flatMap enc).length = ys.length * i.size := by rw [hyl, h1]
  have hypos : 0 < ys.length := List.length_pos_iff.2 hys
  have hyt : ∀ (o : Nat) (u : Value), (ys.flatMap enc)[o]? = some u → ∃ ct, (dX t)[o % k]? = some ct ∧ CTy H S ct u := fun o u hx => by
   obtain ⟨x, h5, h6⟩ := iZ hkp (fun x _ => hc.len x) o u hx
   exact (hy x (List.mem_of_getElem? h5)).at h6
  have hone : ∀ u ∈ ys.flatMap enc, u.oneCell' = true := by
   intro u hu
   obtain ⟨x, _, hx⟩ := List.mem_flatMap.1 hu
   exact List.all_eq_true.1 (hc.one x) u hx
  have fresh : ∀ {X : aj} {cs : List Value} {w' : World}, St M w0 H0 H ((w.heap.size, cs) :: (B ++ X)) w' → S w.heap.size = none := fun {X cs w'} hst => hB.none (fun p hp e => by
   have hnd := hst.nd
   simp only [List.map_cons, List.nodup_cons] at hnd
   exact hnd.1 (List.mem_map.2 ⟨p, List.mem_append_left _ hp, e⟩))
  rcases hT with ⟨rfl, rfl, rfl⟩ | ⟨b, j, m, rfl, hSb, hn, hjc, hcm⟩
  ·-- the first block
   have hb0 : ys.length * i.bytes ≤ 281474976710656 := by rw [h2]; simp at hb; omega
   have hr := run_append_nil (P := P) w tt ty e i zv hu hi h3 ⟨sb, so, none⟩ ys.length cap2 (ys.flatMap enc) hyl' hrd' hypos (by simp at hmax; omega) hb0
   have hge := grownCap_ge w ys.length 0 e
   have hcm := grownCap_le_maxLen w ys.length 0 e (by simp only [maxLen]; simp at hmax; omega)
   simp only [maxLen] at hcm
   have hst := (hwR.drew).alloc ((ys.flatMap enc) ++ (Builtin.zeroCells zv.cells (grownCap w ys.length 0 e - ys.length)).toList) e
   have hlen : ((ys.flatMap enc) ++ (Builtin.zeroCells zv.cells (grownCap w ys.length 0 e - ys.length)).toList).length = grownCap w ys.length 0 e * kT t := by
    rw [List.length_append, hyl, hzl, ← Nat.add_mul, hk]; congr 1; omega
   refine ⟨S.put w.heap.size t (grownCap w ys.length 0 e), some ⟨w.heap.size, 0, none⟩, grownCap w ys.length 0 e, (w.heap.size, (ys.flatMap enc) ++ (Builtin.zeroCells zv.cells (grownCap w ys.length 0 e - ys.length)).toList) :: B, _, ⟨Sig.le_put (fresh hst), rfl⟩, .inr ⟨w.heap.size, 0, _, by simp, Sig.put_at, by omega, by omega, by omega⟩, hB.add (fresh hst) hlen (fun o u hx => ?_), hst.perm (hp2 ((_, _) :: B)).symm, ?_⟩
   ·by_cases ho : o < (ys.flatMap enc).length
    ·rw [List.getElem?_append_left ho] at hx; rw [hk]; exact hyt o u hx
    ·rw [List.getElem?_append_right om] at hx
     have := hzt _ _ _ hx
     rw [hk]
     rw [show o % k = (o - (ys.flatMap enc).length) % k by
      rw [hyl]; conv => lhs; rw [show o = (o - ys.length * k) + ys.length * k by omega]
      rw [Nat.add_mul_mod_self_right]]
     exact this
   ·rw [hr]
    congr 2
    ·simp
    ·simp
  ·obtain ⟨cs, R2, hp3, hcl, hct⟩ := hB.take hSb
   have hB2 := hB.perm hp3
   have hw2 : St M w0 H0 H ((b, cs) :: (R2 ++ R)) w := hwR.perm (by simpa using hp3.append_right R)
   rw [hk] at hcl
   have hjm : j * k + c * k ≤ m * k := by rw [← Nat.add_mul]; exact Nat.mul_le_mul_right _ hjc
   by_cases hroom : n + ys.length ≤ c
   ·-- room
    have hroomk : n * k + ys.length * k ≤ c * k := by rw [← Nat.add_mul]; exact Nat.mul_le_mul_right _ hroom
    have hfit : j * k + n * k + 0 + (ys.flatMap enc).length ≤ cs.length := by rw [hyl, hcl]; omega
    obtain ⟨w', hr, hst⟩ := eI (P := P) (ys.flatMap enc) cs (j * k + n * k) 0 _ _ w hw2 (Upd.here _) hone hfit
    have hfc := run_firstCells_some (P := P) w i.size ys.length ⟨sb, so, none⟩ ys.length cap2 (ys.flatMap enc) hyl' hrd'
    have hfit' : (j * k + n * k) + (ys.flatMap enc).length ≤ cs.length := by omega
    have hsl : (bG cs (j * k + n * k) (ys.flatMap enc)).length = m * kT t := by
     rw [fa _ _ _ hfit', hk, ← hcl]
     simp only [List.length_append, List.length_take, List.length_drop]; omega
    refine ⟨S, some ⟨b, j * kT t, none⟩, c, (b, bG cs (j * k + n * k) (ys.flatMap enc)) :: R2, w', ⟨.refl S, rfl⟩, .inr ⟨b, j, m, rfl, hSb, hroom, hjc, hcm⟩, hB2.back hSb hsl (fun o u hx => ?_), hst.perm (by simpa using (hp2 ((_, _) :: R2)).symm), ?_⟩
    ·rcases qA hfit' hx with ⟨ho, hx⟩ | hx
     ·have := hyt _ _ hx
      rw [hk]
      rw [show o % k = (o - (j * k + n * k)) % k by
       conv => lhs; rw [show o = (o - (j * k + n * k)) + (j + n) * k by rw [Nat.add_mul]; omega]
       rw [Nat.add_mul_mod_self_right]]
      exact this
     ·exact hct o u hx
    ·have hr' : (storeCells ⟨b, j * kT t + n * i.size, none⟩ (ys.flatMap enc)).run P w = .ok () w' := by rw [h1, hk]; exact hr
     simp [Builtin.append_, run_underlying hu, sizeOf, typeInfo, hi, Builtin.lenOf, hroom, hfc, Addr.add_lit, hr']
   ·-- a new block
    have hnk : n * k ≤ c * k := Nat.mul_le_mul_right _ hn
    have hol : ((cs.drop (j * k)).take (n * k)).length = n * k := by rw [List.length_take, List.length_drop, hcl]; omega
    have hog : ∀ (o : Nat) (u : Value), ((cs.drop (j * k)).take (n * k))[o]? = some u → cs[j * k + o]? = some u := fun o u hx => by
     rw [List.getElem?_take] at hx
     split at hx
     ·rwa [List.getElem?_drop] at hx
     ·cases hx
    have holds : ∀ o u, ((cs.drop (j * k)).take (n * k))[o]? = some u → w.cell? ((⟨b, j * kT t, none⟩ : Addr).add o) = some u := by
     intro o u hj
     rw [dO, hk, hw2.cell (.here _)]
     exact hog o u hj
    have hr := run_append_grow (P := P) w tt ty e i zv hu hi h3 ⟨b, j * kT t, none⟩ n c ((cs.drop (j * k)).take (n * k)) (by rw [hol, h1]) holds ⟨sb, so, none⟩ ys.length cap2 (ys.flatMap enc) hyl' hrd' om om (growslice_fits om (by rw [h2]; exact hb))
    have hge := grownCap_ge w (n + ys.length) c e
    have hcm2 := grownCap_le_maxLen w (n + ys.length) c e (by simp only [maxLen]; omega)
    simp only [maxLen] at hcm2
    have hst := (hwR.drew).alloc (((cs.drop (j * k)).take (n * k)) ++ (ys.flatMap enc) ++ (Builtin.zeroCells zv.cells (grownCap w (n + ys.length) c e - (n + ys.length))).toList) e
    have hlen : (((cs.drop (j * k)).take (n * k)) ++ (ys.flatMap enc) ++ (Builtin.zeroCells zv.cells (grownCap w (n + ys.length) c e - (n + ys.length))).toList).length = grownCap w (n + ys.length) c e * kT t := by
     rw [List.length_append, List.length_append, hol, hyl, hzl, ← Nat.add_mul, ← Nat.add_mul, hk]; congr 1; omega
    refine ⟨S.put w.heap.size t (grownCap w (n + ys.length) c e), some ⟨w.heap.size, 0, none⟩, grownCap w (n + ys.length) c e, (w.heap.size, ((cs.drop (j * k)).take (n * k)) ++ (ys.flatMap enc) ++ (Builtin.zeroCells zv.cells (grownCap w (n + ys.length) c e - (n + ys.length))).toList) :: B, _, ⟨Sig.le_put (fresh hst), rfl⟩, .inr ⟨w.heap.size, 0, _, by simp, Sig.put_at, by omega, by omega, by omega⟩, hB.add (fresh hst) hlen (fun o u hx => ?_), hst.perm (hp2 ((_, _) :: B)).symm, ?_⟩
    ·rw [hk]
     by_cases ho : o < n * k
     ·rw [List.append_assoc, List.getElem?_append_left (by rw [hol]; exact ho)] at hx
      have := hct _ _ (hog o u hx)
      rw [hk, Nat.mul_comm, Nat.mul_add_mod] at this
      exact this
     ·rw [List.append_assoc, List.getElem?_append_right (by rw [hol]; omega), hol] at hx
      have hoe : o % k = (o - n * k) % k := by
       conv => lhs; rw [show o = (o - n * k) + n * k by omega]
       rw [Nat.add_mul_mod_self_right]
      rw [hoe]
      by_cases ho2 : o - n * k < (ys.flatMap enc).length
      ·rw [List.getElem?_append_left ho2] at hx; exact hyt _ u hx
      ·rw [List.getElem?_append_right om] at hx
       have := hzt _ _ _ hx
       rw [show (o - n * k) % k = (o - n * k - (ys.flatMap enc).length) % k by
        rw [hyl]; conv => lhs; rw [show o - n * k = (o - n * k - ys.length * k) + ys.length * k by omega]
        rw [Nat.add_mul_mod_self_right]]
       exact this
    ·rw [hr]
     congr 2
     congr 1
     apply Array.ext'; simp
theorem gg {α:Type}{k t e bs tt:Nat}{z:List Value}{enc:α→List Value}[hc:Cells k enc]{cl:Call}{x y:Operand}{S:Sig}{B:aj}{F:aj→aj}{a:Option Addr}{m c:Nat}{v2:Value}{ys:List α}
  (hcl:cl={callee:=.builtin .append,args:= #[x,y],argTypes:= #[tt,tt]}) (hx:ev E x=some (.slice a m c)) (hy:ev E y=some v2) (hB:Bag H S B) (hT:SlT S t a m c) (hS:Src M w0 H0 H L enc v2 ys)
  [hE:Elz P tt e k bs z] (hk:kT t=k) (hyt:∀y∈ys,AllT H S (dX t) (enc y)) (hz:AllT H S (dX t) z) (hb:(m+ys.length) * bs≤140737488355328) (hbs:Nat.blt 0 bs=true) (hU:Tl B L F) (hd:bR dst n=true)
  (h:∀S' a' c' B',S.le S'→S'.N=S.N+ys.length→SlT S' t a' (m+ys.length) c'→Bag H S' B'→TL P n ops Q rest (bN dst (.slice a' (m+ys.length) c') E) (St M w0 H0 H (F B'))):
  TL P n ops Q ({dst:=dst,op:=.call cl,type:=ty,pos:=pos,after:=aft,guard:=none}::rest) E (St M w0 H0 H L):=by
 intro a0 w he hw
 refine bW rfl (fun K hK=>?_)
 obtain⟨S',a',c',B',w',h0,h1,h2,h3,h4⟩:=sV (P:=P) (tt:=tt) (ty:=ty) hB hT hS hk hyt hz hb (by simpa [Nat.blt_eq] using hbs) hU hw
 have hrun:(execOp a0.eval {dst:=dst,op:=.call cl,type:=ty,pos:=pos,after:=aft,guard:=none}).run P w= .ok (.value (.slice a' (m+ys.length) c')) w':=by
  subst hcl
  simp [execOp,resolve,invoke,builtin,he.eval hx,he.eval hy,h4]
 unfold Oper.wp
 rw [hrun]
 exact hK _ _ (h (S'.up ys.length) a' c' B' (h0.1.trans (Sig.le_up _ _)) (by simp only [Sig.up];rw [h0.2]) (h1.le (Sig.le_up _ _)) (h2.up _) _ _ (he.put hd) h3)
theorem TL.stT {t m b o k1:Nat}{x y:Operand}{u:Value}{ct:CT}{S:Sig}{B:aj}{F:aj→aj}{tt:TypeId}(hx:ev E x=some (.pointer (some ⟨b,o,none⟩)))(hy:ev E y=some u)(hB:Bag H S B)(hU:Tl B L F)(hS:S b=some (t,m))(ho:o<m * kT t)(hct:(dX t)[o % kT t]? =some ct)
  (hu:CTy H S ct u) [ht:Ty P tt false k1] [h1:One u] (hk:k1=1) (hd:bR dst n=true) (h:∀B',Bag H S B'→TL P n ops Q rest (bN dst undef E) (St M w0 H0 H (F B'))):
  TL P n ops Q ({dst:=dst,op:=.store tt x y,type:=ty,pos:=pos,after:=aft,guard:=none}::rest) E (St M w0 H0 H L):=by
 obtain⟨cs,R2,hp3,hcl,hty⟩:=hB.take hS
 obtain⟨R,hp1,hp2⟩:=hU.perm
 have hlt:o<cs.length:=by rw [hcl];exact ho
 have hp:L.Perm ((b,cs)::(R2++R)):=hp1.trans (by simpa using hp3.append_right R)
 refine aP hp (aZ (b:=b) (o:=o) hx hy hk (.here _) (by rw [Nat.blt_eq];exact hlt) hd ?_)
 have hB':Bag H S ((b,cs.set o u)::R2):=(hB.perm hp3).back hS (by rw [List.length_set];exact hcl) (fun i v hv=>by
  rcases set_get hv with ⟨rfl,rfl⟩ | hv
  ·exact⟨ct,hct,hu⟩
  ·exact hty i v hv)
 exact aP (by simpa using(hp2 ((b,cs.set o u)::R2)).symm) (h _ hB')
end
theorem SlT.at {S:Sig}{t:Nat}{a:Option Addr}{n c:Nat}(h:SlT S t a n c)(hn:0<n):∃b j m,a=some ⟨b,j * kT t,none⟩∧S b=some (t,m)∧j+n≤m:=by
 rcases h with ⟨_,rfl,_⟩ | ⟨b,j,m,h1,h2,h3,h4,_⟩
 ·omega
 ·exact⟨b,j,m,h1,h2,by omega⟩
theorem bag_lt {j n m k i f:Nat}(h:j+n≤m)(hi:i<n)(hf:f<k):j * k+i * k+f<m * k:=by
 have h1:(j+i+1) * k≤m * k:=Nat.mul_le_mul_right _ om
 rw [Nat.succ_mul,Nat.add_mul] at h1
 omega
theorem bag_mod {j k i f:Nat}(hf:f<k):(j * k+i * k+f) % k=f:=by
 rw [← Nat.add_mul,Nat.add_comm,Nat.add_mul_mod_self_right,Nat.mod_eq_of_lt hf]
theorem St.pubL {M:List Nat}{w0:World}{H0:Hp}{R:aj}:∀{B:aj} {H:Hp} {w:World},St M w0 H0 H (B++R) w→(∀p∈B,p.1∉M)→∃H',H.le H'∧(∀p∈B,∀(o:Nat) (u:Value),p.2[o]? =some u→H' p.1 o=some u)∧St M w0 H0 H' R w
 | [],H,w,hw,_=>⟨H,.refl H,by simp,hw⟩
 | (b,cs)::B,H,w,hw,hM=>by
  have h1:=hw.publish (hM (b,cs) sq)
  obtain⟨H',h2,h3,h4⟩:=St.pubL (B:=B) h1 (fun p hp=>hM p (List.mem_cons_of_mem _ hp))
  refine⟨H',hw.le_add.trans h2,fun p hp o u hu=>?_,h4⟩
  rcases List.mem_cons.1 hp with rfl | hp
  ·exact h2 _ _ _ (by simp only [Hp.add,if_true];exact hu)
  ·exact h3 p hp o u hu
structure BagH (H:Hp)(S:Sig):Prop where
 get:∀b t m,S b=some (t,m)→∀o,o<m * kT t→∃ct u,(dX t)[o % kT t]? =some ct∧H b o=some u∧CTy H S ct u
theorem St.pubB {M:List Nat}{w0 w:World}{H0 H:Hp}{L B:aj}{F:aj→aj}{S:Sig}(hB:Bag H S B)(hU:Tl B L F)(hM:∀p∈B,p.1∉M)(hw:St M w0 H0 H L w):∃H',H.le H'∧BagH H' S∧St M w0 H0 H' (F []) w:=by
 obtain⟨R,hp1,hp2⟩:=hU.perm
 obtain⟨H',h1,h2,h3⟩:=St.pubL (hw.perm hp1) hM
 refine⟨H',h1,⟨fun b t m hS o ho=>?_⟩,h3.perm (by simpa using(hp2 []).symm)⟩
 obtain⟨cs,hc⟩:=hB.mem b t m hS
 obtain⟨t',m',e,hl,hty⟩:=hB.ty _ hc
 rw [hS] at e
 cases e
 have hlt:o<cs.length:=by rw [hl];exact ho
 obtain⟨ct,h4,h5⟩:=hty o cs[o] (List.getElem?_eq_getElem hlt)
 exact⟨ct,cs[o],h4,h2 _ hc o _ (List.getElem?_eq_getElem hlt),h5.le h1 (.refl S)⟩
theorem qW {α:Type}{p:Nat→α→Prop}:∀{n:Nat},(∀i,i<n→∃x,p i x)→∃xs:List α,xs.length=n∧∀i x,xs[i]? =some x→p i x
 | 0,_=>⟨[],rfl,by simp⟩
 | n+1,h=>by
  obtain⟨xs,hl,hx⟩:=qW (n:=n) (fun i hi=>h i om)
  obtain⟨y,hy⟩:=h n om
  refine⟨xs++[y],by simp [hl],fun i x hi=>?_⟩
  by_cases hin:i<n
  ·rw [List.getElem?_append_left om] at hi;exact hx i x hi
  ·rw [List.getElem?_append_right om] at hi
   have:i - xs.length=0:=by
    have:=(List.getElem?_eq_some_iff.1 hi).1
    simp at this;omega
   rw [this] at hi
   simp at hi
   subst hi
   rwa [show i=n by omega]
theorem BagH.elem {H:Hp}{S:Sig}{t b m e:Nat}(h:BagH H S)(hS:S b=some (t,m))(he:e<m):∃cs,AllT H S (dX t) cs∧∀(j:Nat) (u:Value),cs[j]? =some u→H b (e * kT t+j)=some u:=by
 have hk:=kT_pos t
 obtain⟨cs,hl,hc⟩:=qW (n:=kT t) (p:=fun j u=>H b (e * kT t+j)=some u∧∃ct,(dX t)[j]? =some ct∧CTy H S ct u) (fun j hj=>by
  have hlt:e * kT t+j<m * kT t:=by
   have:(e+1) * kT t≤m * kT t:=Nat.mul_le_mul_right _ om
   rw [Nat.succ_mul] at this;omega
  obtain⟨ct,u,h1,h2,h3⟩:=h.get b t m hS _ hlt
  rw [Nat.mul_comm,Nat.mul_add_mod,Nat.mod_eq_of_lt hj] at h1
  exact⟨u,h2,ct,h1,h3⟩)
 refine⟨cs,AllT.of hl (fun j ct hj=>?_),fun j u hu=>(hc j u hu).1⟩
 have hjl:j<cs.length:=by rw [hl];exact(List.getElem?_eq_some_iff.1 hj).1
 obtain⟨h1,ct',h2,h3⟩:=hc j cs[j] (List.getElem?_eq_getElem hjl)
 rw [hj] at h2
 cases h2
 exact⟨cs[j],List.getElem?_eq_getElem hjl,h3⟩
theorem SlT.list {α:Type}{k:Nat}{enc:α→List Value}[hc:Cells k enc]{H:Hp}{S:Sig}{t:Nat}{a:Option Addr}{n c:Nat}{p:α→Prop}(hT:SlT S t a n c)(hk:kT t=k)(hB:BagH H S)(hd:∀cs,AllT H S (dX t) cs→∃x,cs=enc x∧p x):∃xs:List α,xs.length=n∧RdSl H k enc (.slice a n c) xs∧∀x∈xs,p x:=by
 rcases hT with ⟨rfl,rfl,rfl⟩ | ⟨b,j,m,rfl,hS,hn,hj,hm⟩
 ·exact⟨[],rfl,⟨⟨_,_,rfl⟩,by simp,fun h=>absurd rfl h,fun i x hx=>by simp at hx,fun a n c _=>by simp⟩,by simp⟩
 ·obtain⟨xs,hl,hx⟩:=qW (n:=n) (p:=fun i x=>p x∧∀(f:Nat) (u:Value),(enc x)[f]? =some u→H b (j * k+i * k+f)=some u) (fun i hi=>by
   obtain⟨cs,h1,h2⟩:=hB.elem hS (e:=j+i) om
   obtain⟨x,rfl,hp⟩:=hd cs h1
   refine⟨x,hp,fun f u hu=>?_⟩
   have:=h2 f u hu
   rwa [hk,Nat.add_mul] at this)
  refine⟨xs,hl,⟨⟨_,_,by rw [hl]⟩,by omega,fun _=>⟨c,by rw [hl];rfl⟩,fun i x hi f u hu=>?_,fun a n c' e=>by injection e with _ _ e;omega⟩,fun x hm=>?_⟩
  ·have:=(hx i x hi).2 f u hu
   simpa [blk,off,hk] using this
  ·obtain⟨i,hi⟩:=List.getElem?_of_mem hm
   exact(hx i x hi).1
end Go.Sx
