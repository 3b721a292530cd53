import Derived.Test.YtjnlogbbcceaoaaGreatE6
import Derived.Shelf.Small.Bits
import Derived.Shelf.Strconv.Itoa0
import Derived.Shelf.Strings.Search1
import Derived.Shelf.Strings.Search2
import Derived.Shelf.Strings.Cut
import Derived.Shelf.LaysM
import Derived.Shelf.Strings.Shaped
import Derived.Shelf.Sort.Plain
import Derived.Shelf.Slices.CompactS
import Derived.Shelf.Slices.Cells
import Derived.Shelf.Slices.In.SortNone
import Derived.Test.YtjnlogbbcceaoaaGreatProg
set_option linter.all false
set_option maxRecDepth 100000
set_option maxHeartbeats 32000000
namespace Go.Sx
open Go Go.Proofs
theorem lX {H:Hp}(c:UInt8):
  FnS Tryz.prog 136 [.int .u8 (c.toNat:Int)] H (.bool (fZ c)):=by
 refine FnS.enter Tryz.func136 Tryz.ntmps136 rfl rfl (fun w0=>?_)
 refine jK ?_;refine fO ?_
 refine ag (s:=5) rfl ?_ ?_<;>intro g5
 ·
  have q5:=of_decide_eq_true g5
  refine AQ ?_
  exact aR (.inr rfl) (ad rfl (RVal.tmp rfl)) ⟨congrArg Value.bool (by simp [fZ,g5]),rfl⟩
 have q5:=of_decide_eq_false g5
 refine rF ?_
 exact aR (.inr rfl) (ad rfl (RVal.tmp rfl)) ⟨congrArg Value.bool (by simp [fZ,g5]),rfl⟩
theorem Dl {H:Hp}(c:UInt8):
  FnS Tryz.prog 138 [.int .u8 (c.toNat:Int)] H (.bool (kB c)):=by
 refine FnS.enter Tryz.func138 Tryz.ntmps138 rfl rfl (fun w0=>?_)
 refine jK ?_;refine fO ?_
 refine ag (s:=5) rfl ?_ ?_<;>intro g5
 ·
  have q5:=of_decide_eq_true g5
  refine AQ ?_
  exact aR (.inr rfl) (ad rfl (RVal.tmp rfl)) ⟨congrArg Value.bool (by simp [kB,g5]),rfl⟩
 have q5:=of_decide_eq_false g5
 refine rF ?_
 exact aR (.inr rfl) (ad rfl (RVal.tmp rfl)) ⟨congrArg Value.bool (by simp [kB,g5]),rfl⟩
theorem po {H:Hp}(s:Str):
  FnS Tryz.prog 137 [gs s] H (.bool (fw s)):=by
 refine FnS.enter Tryz.func137 Tryz.ntmps137 rfl rfl (fun w0=>?_)
 refine kg ?_
 refine a7 (kw1 s) 4 [(2,_),(3,_)] ⟨rfl,rfl,trivial⟩ ?_ ?_
 ·
  refine Em ?_;refine DM ?_
  exact ei (cb rfl rfl rfl) rfl rfl ⟨rfl,rfl,trivial⟩
 refine TC.cond rfl ?_ ?_<;>intro c4
 ·
  refine ki ?_
  exact aR (.inr rfl) (ad rfl (RVal.tmp rfl)) ⟨congrArg Value.bool (by simp_all [fw]),rfl⟩
 refine a7 (kw2 s) 18 [(2,_),(3,_)] ⟨rfl,rfl,trivial⟩ ?_ ?_
 ·
  refine Em ?_;refine DM ?_
  exact ei (cb rfl rfl rfl) rfl rfl ⟨rfl,rfl,trivial⟩
 refine TC.cond rfl ?_ ?_<;>intro c18
 ·
  refine ki ?_
  exact aR (.inr rfl) (ad rfl (RVal.tmp rfl)) ⟨congrArg Value.bool (by simp_all [fw]),rfl⟩
 refine a7 (kw3 s) 32 [(2,_)] ⟨rfl,trivial⟩ ?_ ?_
 ·
  refine Hx ?_;refine G9 ?_
  exact ei (cb rfl rfl rfl) rfl rfl ⟨rfl,trivial⟩
 refine TC.cond rfl ?_ ?_<;>intro c32
 ·
  refine ki ?_
  exact aR (.inr rfl) (ad rfl (RVal.tmp rfl)) ⟨congrArg Value.bool (by simp_all [fw]),rfl⟩
 refine rE ?_
 exact aR (.inr rfl) (ad rfl (RVal.tmp rfl)) ⟨congrArg Value.bool (by simp_all [fw]),rfl⟩
theorem IV {H:Hp}(s:Str)(hmax:s.length≤9223372036854775807):
  FnS Tryz.prog 79 [gs s] H (.bool (aN s)):=by
 refine FnS.enter Tryz.func79 Tryz.ntmps79 rfl rfl (fun w0=>?_)
 refine ni ?_;refine TL.run (dF rfl rfl) rfl (zm3 ?_)
 refine ag (s:=7) rfl ?_ ?_<;>intro g7
 · exact zq48
 have q7:=of_decide_eq_false g7
 refine cv ?_;refine aw rfl rfl (dF rfl rfl) rfl (cM ?_)
 refine ag (s:=12) rfl ?_ ?_<;>intro g12
 · exact zq72
 have q12:=of_decide_eq_false g12
 refine cv ?_
 have hlen:(0:Int)<s.length:=by have:=of_decide_eq_false g7;omega
 obtain⟨c0,hc0⟩:=aj (l:=s) (i:=0) om hlen
 refine aw rfl rfl (gB rfl rfl om hc0) rfl (aH rfl rfl (ab rfl rfl rfl rfl) (lX c0) rfl (cM ?_))
 refine ag (s:=18) rfl ?_ ?_<;>intro g18
 · exact GL
 refine cv ?_;refine aH rfl rfl (ab rfl rfl rfl rfl) (po s) rfl (zm1 ?_)
 refine TC.cond rfl ?_ ?_<;>intro c21
 · exact GK
 have hn:=mG g7 g12 hc0 g18 c21
 exact zq0
theorem lN {H:Hp}(c:UInt8):
  FnS Tryz.prog 99 [.int .u8 (c.toNat:Int)] H (.bool (fZ c)):=by
 refine FnS.enter Tryz.func99 Tryz.ntmps99 rfl rfl (fun w0=>?_)
 refine jK ?_;refine fO ?_
 refine ag (s:=5) rfl ?_ ?_<;>intro g5
 ·
  have q5:=of_decide_eq_true g5
  refine AQ ?_
  exact aR (.inr rfl) (ad rfl (RVal.tmp rfl)) ⟨congrArg Value.bool (by simp [fZ,g5]),rfl⟩
 have q5:=of_decide_eq_false g5
 refine rF ?_
 exact aR (.inr rfl) (ad rfl (RVal.tmp rfl)) ⟨congrArg Value.bool (by simp [fZ,g5]),rfl⟩
theorem C1 {H:Hp}(c:UInt8):
  FnS Tryz.prog 101 [.int .u8 (c.toNat:Int)] H (.bool (kB c)):=by
 refine FnS.enter Tryz.func101 Tryz.ntmps101 rfl rfl (fun w0=>?_)
 refine jK ?_;refine fO ?_
 refine ag (s:=5) rfl ?_ ?_<;>intro g5
 ·
  have q5:=of_decide_eq_true g5
  refine AQ ?_
  exact aR (.inr rfl) (ad rfl (RVal.tmp rfl)) ⟨congrArg Value.bool (by simp [kB,g5]),rfl⟩
 have q5:=of_decide_eq_false g5
 refine rF ?_
 exact aR (.inr rfl) (ad rfl (RVal.tmp rfl)) ⟨congrArg Value.bool (by simp [kB,g5]),rfl⟩
theorem o8 {H:Hp}(s:Str):
  FnS Tryz.prog 100 [gs s] H (.bool (fw s)):=by
 refine FnS.enter Tryz.func100 Tryz.ntmps100 rfl rfl (fun w0=>?_)
 refine kg ?_
 refine a7 (rkw1 s) 4 [(2,_),(3,_)] ⟨rfl,rfl,trivial⟩ ?_ ?_
 ·
  refine Em ?_;refine Em ?_
  exact cg (cb rfl rfl rfl) rfl rfl ⟨rfl,rfl,trivial⟩ (cg (cb rfl rfl rfl) rfl rfl ⟨rfl,rfl,trivial⟩ (cg (cb rfl rfl rfl) rfl rfl ⟨rfl,rfl,trivial⟩ (ei (cb rfl rfl rfl) rfl rfl ⟨rfl,rfl,trivial⟩)))
 refine TC.cond rfl ?_ ?_<;>intro c4
 ·
  refine ki ?_
  exact aR (.inr rfl) (ad rfl (RVal.tmp rfl)) ⟨congrArg Value.bool (by simp_all [← C0]),rfl⟩
 refine a7 (rkw2 s) 25 [(2,_)] ⟨rfl,trivial⟩ ?_ ?_
 · refine Hx ?_;refine Hx ?_;exact cg (cb rfl rfl rfl) rfl rfl ⟨rfl,trivial⟩ (cg (cb rfl rfl rfl) rfl rfl ⟨rfl,trivial⟩ (ei (cb rfl rfl rfl) rfl rfl ⟨rfl,trivial⟩))
 refine TC.cond rfl ?_ ?_<;>intro c25
 ·
  refine ki ?_
  exact aR (.inr rfl) (ad rfl (RVal.tmp rfl)) ⟨congrArg Value.bool (by simp_all [← C0]),rfl⟩
 refine rE ?_
 exact aR (.inr rfl) (ad rfl (RVal.tmp rfl)) ⟨congrArg Value.bool (by simp_all [← C0]),rfl⟩
theorem Io {H:Hp}(s:Str)(hmax:s.length≤9223372036854775807):
  FnS Tryz.prog 51 [gs s] H (.bool (aN s)):=by
 refine FnS.enter Tryz.func51 Tryz.ntmps51 rfl rfl (fun w0=>?_)
 refine ni ?_;refine TL.run (dF rfl rfl) rfl (zm3 ?_)
 refine ag (s:=7) rfl ?_ ?_<;>intro g7
 · exact zq48
 have q7:=of_decide_eq_false g7
 refine cv ?_;refine aw rfl rfl (dF rfl rfl) rfl (cM ?_)
 refine ag (s:=12) rfl ?_ ?_<;>intro g12
 · exact zq72
 have q12:=of_decide_eq_false g12
 refine cv ?_
 have hlen:(0:Int)<s.length:=by have:=of_decide_eq_false g7;omega
 obtain⟨c0,hc0⟩:=aj (l:=s) (i:=0) om hlen
 refine aw rfl rfl (gB rfl rfl om hc0) rfl (aH rfl rfl (ab rfl rfl rfl rfl) (lN c0) rfl (cM ?_))
 refine ag (s:=18) rfl ?_ ?_<;>intro g18
 · exact GL
 refine cv ?_;refine aH rfl rfl (ab rfl rfl rfl rfl) (o8 s) rfl (zm1 ?_)
 refine TC.cond rfl ?_ ?_<;>intro c21
 · exact GK
 have hn:=mG g7 g12 hc0 g18 c21
 exact zq73
end Go.Sx
namespace Go.Proofs
open Go.Shelf
def Tryz.lays145_ren:Go.Shelf.Ren:=⟨fun | 145=>196 | 220=>200 | 219=>201 | 217=>202 | 225=>203 | 224=>204 | 267=>205 | 266=>206 | 314=>207 | n=>n,fun | 9=>9 | 4=>4 | 59=>226 | 3=>3 | 5=>5 | 46=>30 | 146=>233 | 51=>195 | n=>n,fun | 1=>0 | n=>n⟩
theorem Tryz.lays145:Go.Proofs.Lays.n145 Tryz.prog Tryz.lays145_ren:={
 mixed:=by kernel_rfl
 f145:=Tryz.func196.trans (congrArg some (by kernel_rfl))
 f217:=Tryz.func202.trans (congrArg some (by kernel_rfl))
 f219:=Tryz.func201.trans (congrArg some (by kernel_rfl))
 f220:=Tryz.func200.trans (congrArg some (by kernel_rfl))
 f224:=Tryz.func204.trans (congrArg some (by kernel_rfl))
 f225:=Tryz.func203.trans (congrArg some (by kernel_rfl))
 f266:=Tryz.func206.trans (congrArg some (by kernel_rfl))
 f267:=Tryz.func205.trans (congrArg some (by kernel_rfl))
 f314:=Tryz.func207.trans (congrArg some (by kernel_rfl))
 t3:=Tryz.underlying3
 a3:=Tryz.isAgg3
 z3:=Tryz.sizeOf3
 v3:=Tryz.zeroValue3
 t4:=Tryz.underlying4
 a4:=Tryz.isAgg4
 z4:=Tryz.sizeOf4
 v4:=Tryz.zeroValue4
 t5:=Tryz.underlying5
 a5:=Tryz.isAgg5
 z5:=Tryz.sizeOf5
 v5:=Tryz.zeroValue5
 t9:=Tryz.underlying9
 a9:=Tryz.isAgg9
 z9:=Tryz.sizeOf9
 v9:=Tryz.zeroValue9
 t46:=Tryz.underlying30
 a46:=Tryz.isAgg30
 z46:=Tryz.sizeOf30
 v46:=Tryz.zeroValue30
 t51:=Tryz.underlying195
 a51:=Tryz.isAgg195
 z51:=Tryz.sizeOf195
 v51:=Tryz.zeroValue195
 t59:=Tryz.underlying226
 a59:=Tryz.isAgg226
 z59:=Tryz.sizeOf226
 v59:=Tryz.zeroValue226
 t146:=Tryz.underlying233
 a146:=Tryz.isAgg233
 z146:=Tryz.sizeOf233
 v146:=Tryz.zeroValue233
 g1:=by kernel_rfl}
open Go.RowKit Go.Lib in
theorem Tryz.strings_Cut (s sep:ByteArray)(m:Int)(w:World)(hs:s.size<4294967281)(hm:w.cell? ⟨0,0,none⟩=some (.int .i64 m)):
  Calls Tryz.prog 196 #[.string s,.string sep] w fun e w'=>e= .returned (.tuple #[.string ⟨(Lib.cut s.data.toList sep.data.toList).1.toArray⟩,.string ⟨(Lib.cut s.data.toList sep.data.toList).2.1.toArray⟩,.bool (Lib.cut s.data.toList sep.data.toList).2.2])∧∃n,w'=w.drewN n:=Any.strings_Cut Tryz.lays145 s sep m w hs hm
def Tryz.lays190_ren:Go.Shelf.Ren:=⟨fun | 190=>61 | 125=>122 | 258=>121 | 128=>166 | 129=>167 | 302=>157 | 303=>158 | 304=>159 | 305=>160 | 306=>161 | 307=>162 | 308=>163 | 309=>164 | 310=>165 | 333=>186 | 329=>187 | 330=>188 | 334=>189 | 335=>190 | 336=>191 | 344=>199 | n=>n,fun | 31=>61 | 9=>9 | 3=>3 | 46=>30 | 0=>0 | 51=>195 | 53=>197 | 4=>4 | 183=>187 | 182=>186 | 131=>192 | 5=>5 | 218=>215 | 222=>219 | 228=>228 | 229=>229 | n=>n,fun | n=>n⟩
theorem Tryz.lays190:Go.Proofs.Lays.n190 Tryz.prog Tryz.lays190_ren:={
 mixed:=by kernel_rfl
 f125:=Tryz.func122.trans (congrArg some (by kernel_rfl))
 f128:=Tryz.func166.trans (congrArg some (by kernel_rfl))
 f129:=Tryz.func167.trans (congrArg some (by kernel_rfl))
 f190:=Tryz.func61.trans (congrArg some (by kernel_rfl))
 f258:=Tryz.func121.trans (congrArg some (by kernel_rfl))
 f302:=Tryz.func157.trans (congrArg some (by kernel_rfl))
 f303:=Tryz.func158.trans (congrArg some (by kernel_rfl))
 f304:=Tryz.func159.trans (congrArg some (by kernel_rfl))
 f305:=Tryz.func160.trans (congrArg some (by kernel_rfl))
 f306:=Tryz.func161.trans (congrArg some (by kernel_rfl))
 f307:=Tryz.func162.trans (congrArg some (by kernel_rfl))
 f308:=Tryz.func163.trans (congrArg some (by kernel_rfl))
 f309:=Tryz.func164.trans (congrArg some (by kernel_rfl))
 f310:=Tryz.func165.trans (congrArg some (by kernel_rfl))
 f329:=Tryz.func187.trans (congrArg some (by kernel_rfl))
 f330:=Tryz.func188.trans (congrArg some (by kernel_rfl))
 f333:=Tryz.func186.trans (congrArg some (by kernel_rfl))
 f334:=Tryz.func189.trans (congrArg some (by kernel_rfl))
 f335:=Tryz.func190.trans (congrArg some (by kernel_rfl))
 f336:=Tryz.func191.trans (congrArg some (by kernel_rfl))
 f344:=Tryz.func199.trans (congrArg some (by kernel_rfl))
 t0:=Tryz.underlying0
 a0:=Tryz.isAgg0
 z0:=Tryz.sizeOf0
 v0:=Tryz.zeroValue0
 t3:=Tryz.underlying3
 a3:=Tryz.isAgg3
 z3:=Tryz.sizeOf3
 v3:=Tryz.zeroValue3
 t4:=Tryz.underlying4
 a4:=Tryz.isAgg4
 z4:=Tryz.sizeOf4
 v4:=Tryz.zeroValue4
 t5:=Tryz.underlying5
 a5:=Tryz.isAgg5
 z5:=Tryz.sizeOf5
 v5:=Tryz.zeroValue5
 t9:=Tryz.underlying9
 a9:=Tryz.isAgg9
 z9:=Tryz.sizeOf9
 v9:=Tryz.zeroValue9
 t31:=Tryz.underlying61
 a31:=Tryz.isAgg61
 z31:=Tryz.sizeOf61
 v31:=Tryz.zeroValue61
 t46:=Tryz.underlying30
 a46:=Tryz.isAgg30
 z46:=Tryz.sizeOf30
 v46:=Tryz.zeroValue30
 t51:=Tryz.underlying195
 a51:=Tryz.isAgg195
 z51:=Tryz.sizeOf195
 v51:=Tryz.zeroValue195
 t53:=Tryz.underlying197
 a53:=Tryz.isAgg197
 z53:=Tryz.sizeOf197
 v53:=Tryz.zeroValue197
 t131:=Tryz.underlying192
 a131:=Tryz.isAgg192
 z131:=Tryz.sizeOf192
 v131:=Tryz.zeroValue192
 t182:=Tryz.underlying186
 a182:=Tryz.isAgg186
 z182:=Tryz.sizeOf186
 v182:=Tryz.zeroValue186
 t183:=Tryz.underlying187
 a183:=Tryz.isAgg187
 z183:=Tryz.sizeOf187
 v183:=Tryz.zeroValue187
 t218:=Tryz.underlying215
 a218:=Tryz.isAgg215
 z218:=Tryz.sizeOf215
 v218:=Tryz.zeroValue215
 t222:=Tryz.underlying219
 a222:=Tryz.isAgg219
 z222:=Tryz.sizeOf219
 v222:=Tryz.zeroValue219
 t228:=Tryz.underlying228
 a228:=Tryz.isAgg228
 z228:=Tryz.sizeOf228
 v228:=Tryz.zeroValue228
 t229:=Tryz.underlying229
 a229:=Tryz.isAgg229
 z229:=Tryz.sizeOf229
 v229:=Tryz.zeroValue229}
open Go.Sort Go.RowKit in
theorem Tryz.slices_Sort_string (blk off cap:Nat)(ss:List (List UInt8))(w:World)(hH:Holds encStr w blk off ss.toArray)(hblk:blk<w.heap.size)(hsz:ss.length<4611686018427387904):
  Calls Tryz.prog 61 #[.slice (some ⟨blk,off,none⟩) ss.length cap] w fun e w'=>
   e= .returned (.tuple #[])∧∃n os,w'=grow (putRow encStr (Sort.ahead w n) blk off (ss.mergeSort fun x y=>decide (x≤y)).toArray) os:=Any.slices_Sort_string Tryz.lays190 blk off cap ss w hH hblk hsz
def Tryz.lays194_ren:Go.Shelf.Ren:=⟨fun | 194=>62 | n=>n,fun | 31=>61 | 9=>9 | 3=>3 | 4=>4 | 0=>0 | n=>n,fun | n=>n⟩
theorem Tryz.lays194:Go.Proofs.Lays.n194 Tryz.prog Tryz.lays194_ren:={
 mixed:=by kernel_rfl
 f194:=Tryz.func62.trans (congrArg some (by kernel_rfl))
 t0:=Tryz.underlying0
 a0:=Tryz.isAgg0
 z0:=Tryz.sizeOf0
 v0:=Tryz.zeroValue0
 t3:=Tryz.underlying3
 a3:=Tryz.isAgg3
 z3:=Tryz.sizeOf3
 v3:=Tryz.zeroValue3
 t4:=Tryz.underlying4
 a4:=Tryz.isAgg4
 z4:=Tryz.sizeOf4
 v4:=Tryz.zeroValue4
 t9:=Tryz.underlying9
 a9:=Tryz.isAgg9
 z9:=Tryz.sizeOf9
 v9:=Tryz.zeroValue9
 t31:=Tryz.underlying61
 a31:=Tryz.isAgg61
 z31:=Tryz.sizeOf61
 v31:=Tryz.zeroValue61}
open Go.RowKit Go.Lib Go.Sort in
theorem Tryz.slices_Compact_string (blk off cap:Nat)(zs:List (List UInt8))(w:World)(hH:Holds encStr w blk off zs.toArray)(hsz:zs.length≤9223372036854775807)(hcap:zs.length≤cap):
  Calls Tryz.prog 62 #[.slice (some ⟨blk,off,none⟩) zs.length cap] w fun e w'=>e= .returned (.slice (some ⟨blk,off,none⟩) (Lib.compact zs).length cap)∧∃q,w'=putRow encStr (Sort.ahead w q) blk off (Lib.compact zs++List.replicate (zs.length - (Lib.compact zs).length) []).toArray:=Any.slices_Compact_string Tryz.lays194 blk off cap zs w hH hsz hcap
open Go.RowKit Go.Lib Go.Sort in
theorem Tryz.slices_Compact_string_empty (a:Option Addr)(cap:Nat)(w:World):
  Calls Tryz.prog 62 #[.slice a 0 cap] w fun e w'=>e= .returned (.slice a 0 cap)∧w'=w:=Any.slices_Compact_string_empty Tryz.lays194 a cap w
open Go.RowKit Go.Sort in
theorem Tryz.slices_Sort_string_none (p:Option Addr)(cap:Nat)(w:World):
  Calls Tryz.prog 61 #[.slice p 0 cap] w fun e w'=>e= .returned (.tuple #[])∧w'=w:=Any.slices_Sort_string_none Tryz.lays190 p cap w
end Go.Proofs
namespace Go.Sx
open Go Go.Proofs
theorem sort_ok:SortC Tryz.prog 61:=⟨fun b off cap ss w h1 h2 h3=>Tryz.slices_Sort_string b off cap ss w h1 h2 h3,fun p cap w=>Tryz.slices_Sort_string_none p cap w⟩
theorem DA:CompactC Tryz.prog 62:=⟨fun b off cap zs w h1 h2 h3=>Tryz.slices_Compact_string b off cap zs w h1 h2 h3,fun p cap w=>Tryz.slices_Compact_string_empty p cap w⟩
def MaxG (H:Hp):Prop:=∃m,H 0 0=some (.int .i64 m)
theorem MaxG.le {H H1:Hp}(h:MaxG H)(hl:H.le H1):MaxG H1:=by
 obtain⟨m,hm⟩:=h
 exact⟨m,hl _ _ _ hm⟩
theorem cut_ok {H:Hp}(s:Str)(hs:s.length≤4294960000)(hM:MaxG H):FnS Tryz.prog 196 [gs s,gs [46]] H (.tuple #[gs (n7 s).1,gs (n7 s).2.1,.bool (n7 s).2.2]):=by
 refine FnS.ext (fun w hw=>?_)
 obtain⟨m,hm⟩:=hM
 refine(Tryz.strings_Cut ⟨s.toArray⟩ ⟨[46].toArray⟩ m w (by simp [ByteArray.size];omega) (hw.hp _ _ _ hm)).mono ?_
 rintro e w1 ⟨rfl,n,rfl⟩
 exact⟨rfl,⟨rfl,rfl,rfl,Nat.le_refl _,fun _ _=>rfl⟩⟩
end Go.Sx
namespace Go.Sx
open Go Go.Proofs
theorem Bt {H:Hp}(k:Int):
  FnS Tryz.prog 119 [.int .i64 k] H (.int .i64 (al k)):=by
 refine FnS.enter Tryz.func119 Tryz.ntmps119 rfl rfl (fun w0=>?_)
 refine kg ?_
 refine a7 (decide (k=0)||(decide (k=1)||(decide (k=2)||(decide (k=3)||(decide (k=4)||decide (k=5)))))) 4 [(2,_),(3,_)] ⟨rfl,rfl,trivial⟩ ?_ ?_
 · refine Ek ?_;refine Ek ?_;exact cg (aG rfl) rfl rfl ⟨rfl,rfl,trivial⟩ (ei (aG rfl) rfl rfl ⟨rfl,rfl,trivial⟩)
 refine TC.cond rfl ?_ ?_<;>intro c4
 ·
  refine ki ?_
  exact aR (.inr rfl) (ad rfl (RVal.tmp rfl)) ⟨congrArg (Value.int .i64) (by simp only [Bool.or_eq_true,Bool.or_eq_false_iff,decide_eq_true_eq,decide_eq_false_iff_not] at *;unfold al;(repeat' split)<;>omega),rfl⟩
 refine a7 (decide (k=15)||decide (k=16)) 11 [(2,_),(3,_)] ⟨rfl,rfl,trivial⟩ ?_ ?_
 · exact cg (aG rfl) rfl rfl ⟨rfl,rfl,trivial⟩ (ei (aG rfl) rfl rfl ⟨rfl,rfl,trivial⟩)
 refine TC.cond rfl ?_ ?_<;>intro c11
 ·
  refine ki ?_
  exact aR (.inr rfl) (ad rfl (RVal.tmp rfl)) ⟨congrArg (Value.int .i64) (by simp only [Bool.or_eq_true,Bool.or_eq_false_iff,decide_eq_true_eq,decide_eq_false_iff_not] at *;unfold al;(repeat' split)<;>omega),rfl⟩
 refine a7 (decide (k=6)||(decide (k=7)||(decide (k=8)||(decide (k=9)||(decide (k=10)||(decide (k=11)||(decide (k=12)||(decide (k=13)||(decide (k=14)||(decide (k=17)||(decide (k=18)||decide (k=19)))))))))))) 14 [(2,_)] ⟨rfl,trivial⟩ ?_ ?_
 · refine Ej ?_;refine Ej ?_;exact cg (aG rfl) rfl rfl ⟨rfl,trivial⟩ (cg (aG rfl) rfl rfl ⟨rfl,trivial⟩ (cg (aG rfl) rfl rfl ⟨rfl,trivial⟩ (ei (aG rfl) rfl rfl ⟨rfl,trivial⟩)))
 refine TC.cond rfl ?_ ?_<;>intro c14
 ·
  refine ki ?_
  exact aR (.inr rfl) (ad rfl (RVal.tmp rfl)) ⟨congrArg (Value.int .i64) (by simp only [Bool.or_eq_true,Bool.or_eq_false_iff,decide_eq_true_eq,decide_eq_false_iff_not] at *;unfold al;(repeat' split)<;>omega),rfl⟩
 refine rE ?_
 exact aR (.inr rfl) (ad rfl (RVal.tmp rfl)) ⟨congrArg (Value.int .i64) (by simp only [Bool.or_eq_true,Bool.or_eq_false_iff,decide_eq_true_eq,decide_eq_false_iff_not] at *;unfold al;(repeat' split)<;>omega),rfl⟩
theorem Gr {H:Hp}(t:Term)(hn:t.name.length≤9223372036854775807):
  FnS Tryz.prog 120 [.agg t.cells.toArray] H (.bool (cG t)):=by
 refine FnS.enter Tryz.func120 Tryz.ntmps120 rfl rfl (fun w0=>?_)
 refine zm2 ?_
 refine TL.box rfl rfl (fun b1=>?_)
 refine oQ ?_;refine xk ?_
 refine af rfl ?_ ?_<;>intro c5
 ·
  refine fC ?_;refine ar (ab rfl rfl rfl rfl) (IV t.name hn) rfl (zm0 ?_)
  refine ag (s:=10) rfl ?_ ?_<;>intro g10
  ·
   refine m6 ?_
   refine ag (s:=15) rfl ?_ ?_<;>intro g15
   ·
    have q15:=of_decide_eq_true g15
    refine qM ?_
    exact kF
   have q15:=of_decide_eq_false g15
   refine gn ?_
   exact kF
  refine im ?_;refine gn ?_
  exact kF
 refine eE ?_
 refine af rfl ?_ ?_<;>intro c20
 ·
  refine AP ?_
  refine ag (s:=25) rfl ?_ ?_<;>intro g25
  ·
   have q25:=of_decide_eq_true g25
   refine qM ?_
   exact kF
  have q25:=of_decide_eq_false g25
  refine gn ?_
  exact kF
 refine eE ?_
 refine af rfl ?_ ?_<;>intro c30
 ·
  refine AP ?_
  refine ag (s:=35) rfl ?_ ?_<;>intro g35
  ·
   have q35:=of_decide_eq_true g35
   refine kN ?_
   refine ag (s:=40) rfl ?_ ?_<;>intro g40
   ·
    have q40:=of_decide_eq_true g40
    refine lw ?_
    refine ag (s:=44) rfl ?_ ?_<;>intro g44
    ·
     have q44:=of_decide_eq_true g44
     refine gn ?_;refine cv ?_
     exact kF
    have q44:=of_decide_eq_false g44
    refine lw ?_
    exact kF
   have q40:=of_decide_eq_false g40
   refine AO ?_
   exact kF
  have q35:=of_decide_eq_false g35
  refine li ?_;refine AN ?_
  exact kF
 refine eE ?_
 refine af rfl ?_ ?_<;>intro c50
 ·
  refine AP ?_
  refine ag (s:=55) rfl ?_ ?_<;>intro g55
  ·
   have q55:=of_decide_eq_true g55
   refine m6 ?_
   refine ag (s:=60) rfl ?_ ?_<;>intro g60
   ·
    have q60:=of_decide_eq_true g60
    refine zm8 ?_;refine aw rfl rfl (dF rfl rfl) rfl (cv ?_)
    exact kF
   have q60:=of_decide_eq_false g60
   refine dE ?_
   exact kF
  have q55:=of_decide_eq_false g55
  refine li ?_
  exact kF
 refine TC.skip (bn (ai (AP ?_)))
 refine ag (s:=69) rfl ?_ ?_<;>intro g69
 ·
  have q69:=of_decide_eq_true g69
  refine m6 ?_
  refine ag (s:=74) rfl ?_ ?_<;>intro g74
  ·
   have q74:=of_decide_eq_true g74
   refine qM ?_;refine gm ?_
   exact aR (.inr rfl) (ad rfl (RVal.tmp rfl)) ⟨congrArg Value.bool (by simp_all [cG]),rfl⟩
  have q74:=of_decide_eq_false g74
  refine xj ?_
  exact aR (.inr rfl) (ad rfl (RVal.tmp rfl)) ⟨congrArg Value.bool (by simp_all [cG]),rfl⟩
 have q69:=of_decide_eq_false g69
 refine im ?_;refine xj ?_
 exact aR (.inr rfl) (ad rfl (RVal.tmp rfl)) ⟨congrArg Value.bool (by simp_all [cG]),rfl⟩
theorem walk_ok {H:Hp}{l:List Term}{v:Value}{bl bm bmv bw:Nat}(hT:RdSl H 6 Term.cells v l)(hnames:∀t∈l,t.name.length≤9223372036854775807)(hl:H bl 0=some v)(hm:H bmv 0=some (.slice (some ⟨bm,0,none⟩) l.length l.length))(hw:H bw 0=some (.func (.func 118) #[] #[.pointer (some ⟨bl,0,none⟩),.pointer (some ⟨bmv,0,none⟩),.pointer (some ⟨bw,0,none⟩)])):
  ∀(f:Nat) (at_ deep:Int) (met:List Bool),0≤at_→at_<l.length→at_.toNat<f→1≤deep∧deep≤25→met.length=l.length→
   FnM1 Tryz.prog 118 [.int .i64 at_,.int .i64 deep,.pointer (some ⟨bl,0,none⟩),.pointer (some ⟨bmv,0,none⟩),.pointer (some ⟨bw,0,none⟩)] H bm (met.map Value.bool)
    (fun v' H' cs'=>∃b m,db l f at_ deep met=(b,m)∧v'= .bool b∧cs'=m.map Value.bool∧m.length=l.length∧H'=H):=by
 intro f
 induction f with
 | zero=>intro at_ deep met _ _ h;omega
 | succ f ih=>
 intro at_ deep met h0 h1 hf hd hlen
 have hmax:=hT.max
 have hlt:at_.toNat<met.length:=by omega
 obtain⟨t,hx⟩:=aj h0 h1
 have hN:t.name.length≤9223372036854775807:=hnames t (List.mem_of_getElem? hx)
 refine FnM1.enter Tryz.func118 Tryz.ntmps118 rfl rfl (fun w0=>?_)
 refine AM ?_;refine TL.run (bG rfl hl) rfl (zm0 ?_);refine TL.run (ae rfl hT rfl om om) rfl (TL.run (aY hT hx rfl rfl) rfl (TL.alloc rfl (fun b8=>?_)))
 refine nt ?_;refine ar (ab rfl rfl rfl rfl) (Bt t.kind) rfl (oP ?_);refine TL.run (bG rfl hm) rfl (oz ?_);refine TL.run (aE rfl (.h1) (GA hlt)) rfl (zm0 ?_)
 refine ag (s:=23) rfl ?_ ?_<;>intro g23
 ·
  refine jL ?_;refine zm3 ?_;refine jL ?_;refine zm3 ?_
  exact G2
 refine rD ?_
 refine ag (s:=27) rfl ?_ ?_<;>intro g27
 ·
  have q27:=of_decide_eq_true g27
  refine jL ?_;refine zm3 ?_
  exact G2
 have q27:=of_decide_eq_false g27
 refine rD ?_
 refine ag (s:=31) rfl ?_ ?_<;>intro g31
 ·
  have q31:=of_decide_eq_true g31
  exact G2
 have q31:=of_decide_eq_false g31
 refine oO ?_;refine aH rfl rfl (ab rfl rfl rfl rfl) (Gr t hN) rfl (fP ?_)
 refine TC.cond rfl ?_ ?_<;>intro c35
 · exact zq136
 refine lu ?_
 have hg:CD deep met at_ t:=⟨by simp_all,by simp_all,by simp_all,by simp_all⟩
 refine TL.run (bG rfl hm) rfl (oz ?_);refine zO ?_;refine TL.nil ?_
 rw [yx]
 refine AL ?_;refine fj ?_
 refine aA rfl rfl rfl rfl (fun b43=>?_)
 refine lz ?_;refine zm9 ?_;refine TC.rounds 3 (fg (zm7 ?_));refine eC rfl (oN ?_);refine eD ?_;refine xi ?_;refine AK ?_;refine zm1 ?_
 refine af rfl ?_ ?_<;>intro c52_0
 ·
  refine nK ?_
  refine aV rfl ?_ ?_<;>intro c54_0
  · refine gq ?_;exact aF (GW)
  refine dn ?_;refine AJ ?_;refine nf ?_
  have o0:opW (al t.kind) at_ (fun to m=>db l f to (deep+1) m) 0 t.l (met.set at_.toNat true)=(true,(met.set at_.toNat true)):=by first | exact iQ c52_0 c54_0 | exact je c52_0 g57_0 g62_0 (e1.trans (by simp_all;done)) | exact je c52_0 g57_0 g62_0 (e2.trans (by simp_all;done))
  refine mj (fg (zm7 ?_));refine eC rfl (oN ?_);refine eD ?_;refine xi ?_;refine AK ?_;refine zm1 ?_
  refine af rfl ?_ ?_<;>intro c52_1
  ·
   refine nK ?_
   refine aV rfl ?_ ?_<;>intro c54_1
   · refine gq ?_;exact aF (GW)
   refine dn ?_;refine AJ ?_;refine nf ?_
   have o1:opW (al t.kind) at_ (fun to m=>db l f to (deep+1) m) 1 t.r (met.set at_.toNat true)=(true,(met.set at_.toNat true)):=by first | exact iQ c52_1 c54_1 | exact je c52_1 g57_1 g62_1 (e1.trans (by simp_all;done)) | exact je c52_1 g57_1 g62_1 (e2.trans (by simp_all;done))
   refine mj (fg (zm7 ?_));refine gK rfl (fD ?_)
   exact zq149
  refine AI ?_
  refine ag (s:=57) rfl ?_ ?_<;>intro g57_1
  ·
   have q57_1:=of_decide_eq_true g57_1
   refine im ?_
   exact DL
  have q57_1:=of_decide_eq_false g57_1
  refine AH ?_
  refine ag (s:=62) rfl ?_ ?_<;>intro g62_1
  ·
   have q62_1:=of_decide_eq_true g62_1
   exact DL
  have q62_1:=of_decide_eq_false g62_1
  refine aw rfl rfl (bG rfl hw) rfl (eG ?_);refine Ei ?_
  refine fB (.h2) (n9 rfl rfl (ab rfl rfl rfl rfl) (ih _ (deep+1) _ (by have q1:=of_decide_eq_false g57_1;have q2:=of_decide_eq_false g62_1;omega) (by have q1:=of_decide_eq_false g57_1;have q2:=of_decide_eq_false g62_1;omega) (by have q1:=of_decide_eq_false g57_1;have q2:=of_decide_eq_false g62_1;omega) ⟨by omega,by have:=hg.2.1;omega⟩ (by first | assumption | (simp;assumption))) rfl (fun v67 H67 cs67 hle67 hp67=>?_))
  obtain⟨r1,m1,e1,rfl,rfl,hl1,rfl⟩:=hp67
  refine fP ?_
  refine TC.cond rfl ?_ ?_<;>intro c69_1
  · exact zG
  refine TC.skip (bn (ai (TC.region ?_)));refine nf ?_
  have o1:opW (al t.kind) at_ (fun to m=>db l f to (deep+1) m) 1 t.r (met.set at_.toNat true)=(true,m1):=by first | exact iQ c52_1 c54_1 | exact je c52_1 g57_1 g62_1 (e1.trans (by simp_all;done)) | exact je c52_1 g57_1 g62_1 (e2.trans (by simp_all;done))
  exact G4
 refine AI ?_
 refine ag (s:=57) rfl ?_ ?_<;>intro g57_0
 ·
  have q57_0:=of_decide_eq_true g57_0
  refine im ?_
  exact DL
 have q57_0:=of_decide_eq_false g57_0
 refine AH ?_
 refine ag (s:=62) rfl ?_ ?_<;>intro g62_0
 ·
  have q62_0:=of_decide_eq_true g62_0
  exact DL
 have q62_0:=of_decide_eq_false g62_0
 refine aw rfl rfl (bG rfl hw) rfl (eG ?_);refine Ei ?_
 refine fB (.h2) (n9 rfl rfl (ab rfl rfl rfl rfl) (ih _ (deep+1) _ (by have q1:=of_decide_eq_false g57_0;have q2:=of_decide_eq_false g62_0;omega) (by have q1:=of_decide_eq_false g57_0;have q2:=of_decide_eq_false g62_0;omega) (by have q1:=of_decide_eq_false g57_0;have q2:=of_decide_eq_false g62_0;omega) ⟨by omega,by have:=hg.2.1;omega⟩ (by first | assumption | (simp;assumption))) rfl (fun v67 H67 cs67 hle67 hp67=>?_))
 obtain⟨r1,m1,e1,rfl,rfl,hl1,rfl⟩:=hp67
 refine fP ?_
 refine TC.cond rfl ?_ ?_<;>intro c69_0
 · exact zG
 refine TC.skip (bn (ai (TC.region ?_)));refine nf ?_
 have o0:opW (al t.kind) at_ (fun to m=>db l f to (deep+1) m) 0 t.l (met.set at_.toNat true)=(true,m1):=by first | exact iQ c52_0 c54_0 | exact je c52_0 g57_0 g62_0 (e1.trans (by simp_all;done)) | exact je c52_0 g57_0 g62_0 (e2.trans (by simp_all;done))
 refine mj (fg (zm7 ?_));refine eC rfl (oN ?_);refine eD ?_;refine TL.run (aE rfl (.h1) rfl) rfl (zm0 ?_);refine AK ?_;refine zm1 ?_
 refine af rfl ?_ ?_<;>intro c52_1
 ·
  refine nK ?_
  refine aV rfl ?_ ?_<;>intro c54_1
  · refine gq ?_;exact aF (zq172)
  refine dn ?_;refine AJ ?_;refine nf ?_
  have o1:opW (al t.kind) at_ (fun to m=>db l f to (deep+1) m) 1 t.r m1=(true,m1):=by first | exact iQ c52_1 c54_1 | exact je c52_1 g57_1 g62_1 (e1.trans (by simp_all;done)) | exact je c52_1 g57_1 g62_1 (e2.trans (by simp_all;done))
  exact G4
 refine AI ?_
 refine ag (s:=57) rfl ?_ ?_<;>intro g57_1
 ·
  have q57_1:=of_decide_eq_true g57_1
  refine li ?_;refine jL ?_;refine iG ?_
  exact zG
 have q57_1:=of_decide_eq_false g57_1
 refine AH ?_
 refine ag (s:=62) rfl ?_ ?_<;>intro g62_1
 ·
  have q62_1:=of_decide_eq_true g62_1
  refine dE ?_;refine jL ?_;refine iG ?_
  exact zG
 have q62_1:=of_decide_eq_false g62_1
 refine aw rfl rfl (bG rfl hw) rfl (eG ?_);refine Ei ?_
 refine n9 rfl rfl (ab rfl rfl rfl rfl) (ih _ (deep+1) _ (by have q1:=of_decide_eq_false g57_1;have q2:=of_decide_eq_false g62_1;omega) (by have q1:=of_decide_eq_false g57_1;have q2:=of_decide_eq_false g62_1;omega) (by have q1:=of_decide_eq_false g57_1;have q2:=of_decide_eq_false g62_1;omega) ⟨by omega,by have:=hg.2.1;omega⟩ (by first | assumption | (simp;assumption))) rfl (fun v67 H67 cs67 hle67 hp67=>?_)
 obtain⟨r2,m2,e2,rfl,rfl,hl2,rfl⟩:=hp67
 refine fP ?_
 refine TC.cond rfl ?_ ?_<;>intro c69_1
 · exact zG
 refine TC.skip (bn (ai (TC.region ?_)));refine nf ?_
 have o1:opW (al t.kind) at_ (fun to m=>db l f to (deep+1) m) 1 t.r m1=(true,m2):=by first | exact iQ c52_1 c54_1 | exact je c52_1 g57_1 g62_1 (e1.trans (by simp_all;done)) | exact je c52_1 g57_1 g62_1 (e2.trans (by simp_all;done))
 exact G4
theorem JD {H:Hp}{l:List Term}{v:Value}(root:Int)(hT:RdSl H 6 Term.cells v l)(hnames:∀t∈l,t.name.length≤9223372036854775807):
  FnS Tryz.prog 59 [v,.int .i64 root] H (.bool (cN l root)):=by
 have hmax:=hT.max
 have one1:=hT.isOne
 refine FnS.enter Tryz.func59 Tryz.ntmps59 rfl rfl (fun w0=>?_)
 refine zm2 ?_
 refine sN rfl rfl (fun b2=>?_)
 refine oP ?_;refine nJ ?_;refine TL.run (ah rfl rfl hT) rfl (zm3 ?_)
 refine ag (s:=10) rfl ?_ ?_<;>intro g10
 ·
  have q10:=of_decide_eq_true g10
  refine sS ?_;refine lr ?_
  exact ao (.inr rfl) (ad rfl (RVal.tmp rfl)) (congrArg Value.bool (by first | exact(pw g10).symm | exact(pu g14).symm | exact(pq c19).symm | (rw [qv h160,e])))
 have q10:=of_decide_eq_false g10
 refine rD ?_
 refine ag (s:=14) rfl ?_ ?_<;>intro g14
 ·
  have q14:=of_decide_eq_true g14
  refine dE ?_;refine lr ?_
  exact ao (.inr rfl) (ad rfl (RVal.tmp rfl)) (congrArg Value.bool (by first | exact(pw g10).symm | exact(pu g14).symm | exact(pq c19).symm | (rw [qv h160,e])))
 have q14:=of_decide_eq_false g14
 refine cv ?_;refine sV ?_;refine aw rfl rfl (ah rfl rfl hT) rfl (fP ?_)
 refine af rfl ?_ ?_<;>intro c19
 ·
  refine gq ?_
  exact ao (.inr rfl) (ad rfl (RVal.tmp rfl)) (congrArg Value.bool (by first | exact(pw g10).symm | exact(pu g14).symm | exact(pq c19).symm | (rw [qv h160,e])))
 refine lu ?_;refine nJ ?_;refine TL.run (ah rfl rfl hT) rfl (fh rfl rfl (by first | omega | decide) (by first | omega | decide) (by first | omega | decide) rfl (fun b22=>?_))
 refine TL.alloc rfl (fun b5=>?_)
 refine tO ?_
 refine TL.alloc rfl (fun b6=>?_)
 refine jo ?_;refine tO ?_
 refine dT sq (fun H_b6 le_b6 rd_b6=>?_)
 refine dT sq (fun H_b5 le_b5 rd_b5=>?_)
 refine fB (.h1) (dT sq (fun H_b2 le_b2 rd_b2=>?_))
 have hT2:=((hT.le le_b6).le le_b5).le le_b2
 have hl:H_b2 b2 0=some v:=rd_b2 0 _ rfl
 have hm:=le_b2 _ _ _ (rd_b5 0 _ rfl)
 have hw:=le_b2 _ _ _ (le_b5 _ _ _ (rd_b6 0 _ rfl))
 have h160:=EQ g10 g14 c19
 rw [uq]
 refine TL.run (bG rfl hw) rfl (zm0 ?_)
 refine GG (ab rfl rfl rfl rfl) (walk_ok hT2 hnames hl hm hw (root.toNat+1) root 1 _ om om om om sq) rfl (fun v26 H26 cs26 hle26 hp26=>?_)
 obtain⟨b,m,e,rfl,rfl,hl2,rfl⟩:=hp26
 refine em ?_
 exact ao (.inr rfl) (ad rfl (RVal.tmp rfl)) (congrArg Value.bool (by first | exact(pw g10).symm | exact(pu g14).symm | exact(pq c19).symm | (rw [qv h160,e])))
end Go.Sx
namespace Go.Sx
open Go Go.Proofs
theorem uQ {H:Hp}{l:List Str}{v:Value}(s:Str)(hL:RdSl H 1 Str.cells v l):
  FnS Tryz.prog 63 [v,gs s] H (.int .i64 (bS l s)):=by
 have hmax:=hL.max
 refine FnS.enter Tryz.func63 Tryz.ntmps63 rfl rfl (fun w0=>?_)
 refine ni ?_;refine TL.run (ah rfl rfl hL) rfl (zm9 ?_)
 refine TC.loop (V:=fun k=>[(8,.int .i64 k)]) (K:=[(0,_),(1,_),(4,_),(7,_)]) (L:=fun k=>_) (I:=fun k=>0≤k∧k≤l.length∧∀j:Nat,j<k.toNat→l[j]? ≠some s) (μ:=fun k=>(l.length - k).toNat) (i:=(0:Int)) ky ⟨by omega,by omega,fun j hj=>absurd hj sq⟩ (fun w hw=>hw) (fun k hI=>?_)
 refine zm7 ?_
 refine af rfl ?_ ?_<;>intro c9
 ·
  refine dv ?_
  obtain⟨x,hx⟩:=aj (l:=l) hI.1 c9
  refine kS ?_;refine dH ?_;refine ov ?_;refine TL.run (aL hL hx rfl rfl) rfl (tN ?_)
  refine af rfl ?_ ?_<;>intro c16
  ·
   refine rC ?_
   exact ao (.inr rfl) (ad rfl (RVal.tmp rfl)) (congrArg (Value.int .i64) (by first | exact(cS hI.1 (by rw [hx,c16]) hI.2.2).symm | exact(dU hI.2.2 c9).symm))
  refine oh ?_
  exact aD (k+1) ⟨by omega,by omega,jd hI.1 hI.2.2 hx c16⟩ ky (fun w hw=>hw) om
 refine fD ?_
 exact ao (.inr rfl) (ad rfl (RVal.tmp rfl)) (congrArg (Value.int .i64) (by first | exact(cS hI.1 (by rw [hx,c16]) hI.2.2).symm | exact(dU hI.2.2 c9).symm))
theorem j4 {H:Hp}{l:List Str}{v:Value}(s:Str)(hL:RdSl H 1 Str.cells v l):
  FnS Tryz.prog 24 [v,gs s] H (.bool (bI l s)):=by
 refine FnS.enter Tryz.func24 Tryz.ntmps24 rfl rfl (fun w0=>?_)
 refine rB ?_;refine ar (ab rfl rfl rfl rfl) (uQ s hL) rfl (gm ?_)
 exact ao (.inr rfl) (ad rfl (RVal.tmp rfl)) (congrArg Value.bool (by rw [← vp]))
theorem HM {H:Hp}{at_:Int}{bl bo bw:Nat}{u:Value}{xs:List Str}{ob:aq}(hneg:at_<0)(hO:OwnSl 1 Str.cells u xs ob):
  FnX Tryz.prog 60 [.int .i64 at_,.pointer (some ⟨bw,0,none⟩),.pointer (some ⟨bl,0,none⟩),.pointer (some ⟨bo,0,none⟩)] H ((bo,[u])::ob) (fun r H' L'=>r= .tuple #[]∧H'=H∧∃u' ob',L'=(bo,[u'])::ob'∧OwnSl 1 Str.cells u' xs ob'):=by
 refine FnX.enter Tryz.func60 Tryz.ntmps60 rfl rfl (fun w0=>?_)
 refine nK ?_
 refine af rfl ?_ ?_<;>intro c6
 · exact TC.ret (aF (aZ (.inr rfl) (cq rfl) (fun w hw=>hw) ⟨rfl,rfl,_,_,rfl,hO⟩))
 exact absurd hneg c6
theorem HK {H:Hp}{l:List Term}{v:Value}{bl bo bw:Nat}(hT:RdSl H 6 Term.cells v l)(hl:H bl 0=some v)(hw:H bw 0=some (.func (.func 60) #[] #[.pointer (some ⟨bw,0,none⟩),.pointer (some ⟨bl,0,none⟩),.pointer (some ⟨bo,0,none⟩)])):
  ∀(f:Nat) (at_:Int),(at_<0∨Tr l f at_)→∀(u:Value) (xs:List Str) (ob:aq),OwnSl 1 Str.cells u xs ob→xs.length+(fH l f at_).length≤100000000→
   FnX Tryz.prog 60 [.int .i64 at_,.pointer (some ⟨bw,0,none⟩),.pointer (some ⟨bl,0,none⟩),.pointer (some ⟨bo,0,none⟩)] H ((bo,[u])::ob) (fun r H' L'=>r= .tuple #[]∧H'=H∧∃u' ob',L'=(bo,[u'])::ob'∧OwnSl 1 Str.cells u' (xs++fH l f at_) ob'):=by
 intro f
 induction f with
 | zero=>
  intro at_ h u xs ob hO hlen
  have h0:at_<0:=h.resolve_right (fun h=>h)
  rw [jP h0,List.append_nil]
  exact HM h0 hO
 | succ f ih=>
 intro at_ h u xs ob hO hlen
 have one0:=hT.isOne
 obtain⟨ua,uc,rfl⟩:=hO.form
 refine FnX.enter Tryz.func60 Tryz.ntmps60 rfl rfl (fun w0=>?_)
 refine nK ?_
 refine af rfl ?_ ?_<;>intro c6
 · exact TC.ret (aF (aZ (.inr rfl) (cq rfl) (fun w hw=>hw) ⟨rfl,rfl,_,_,rfl,by rw [jP c6,List.append_nil];exact hO⟩))
 obtain⟨h0,t,hx,_,_,hTl0,hTl1,hTr0,hTr1⟩:=h.resolve_left c6
 have hlt:at_.toNat<l.length:=(List.getElem?_eq_some_iff.1 hx).1
 rw [lC c6 hx] at hlen
 simp only [List.length_append] at hlen
 have hTl:t.l<0∨Tr l f t.l:=by rcases Int.lt_or_le (al t.kind) 1 with h1 | h1;exact .inl (by have:=hTl1 h1;omega);exact .inr (hTl0 h1)
 have hTr:t.r<0∨Tr l f t.r:=by rcases Int.lt_or_le (al t.kind) 2 with h1 | h1;exact .inl (by have:=hTr1 h1;omega);exact .inr (hTr0 h1)
 refine gp ?_;refine dO ?_;refine Eh ?_;refine bg (bG rfl hw) rfl (AG ?_)
 refine bB (ii (L1:=(bo,[(.slice ua _ uc)])::ob) (ab rfl rfl rfl rfl) (ih t.l (hTl) _ _ _ hO om) rfl (fun v13 H13 L13 hle13 hp13=>?_))
 obtain⟨rfl,rfl,u13,ob13,rfl,hO13⟩:=hp13
 obtain⟨ua13,uc13,rfl⟩:=hO13.form
 refine kY ?_;refine rA ?_;refine Eh ?_;refine bg (bG rfl hw) rfl (AG ?_)
 refine bB (ii (L1:=(bo,[(.slice ua13 _ uc13)])::ob13) (ab rfl rfl rfl rfl) (ih t.r (hTr) _ _ _ hO13 (by simp only [List.length_append];omega)) rfl (fun v20 H20 L20 hle20 hp20=>?_))
 obtain⟨rfl,rfl,u20,ob20,rfl,hO20⟩:=hp20
 obtain⟨ua20,uc20,rfl⟩:=hO20.form
 refine kY ?_;refine zm2 ?_;refine TL.run (bG rfl hl) rfl (zm0 ?_);refine xh ?_;refine zm1 ?_
 refine af rfl ?_ ?_<;>intro c26
 ·
  rw [if_pos c26] at hlen
  simp only [List.length_cons,List.length_nil] at hlen
  refine dO ?_;refine cy [(0,2),(1,2),(2,1),(3,1),(4,1),(5,2),(6,3),(7,0),(8,0)] kr kr (qL ?_);refine AG ?_
  refine aJ rfl rfl rfl rfl (fun b33=>?_)
  refine bB (TL.append (enc:=Str.cells) rfl rfl rfl hO20 (Src.own [t.name] (.here _) rfl rfl) (by simp;omega) rfl (.skip _ (.skip _ .all)) rfl (fun a34 c34 ob34 hO34=>?_))
  refine TF.back (bB (mS rfl rfl rfl (.h1) rfl (TF.back ?_)))
  exact TF.nil (aZ (.inl rfl) (cq rfl) (fun w hw=>hw.drop) ⟨rfl,rfl,_,_,rfl,by rw [lC c6 hx,if_pos c26,← List.append_assoc,← List.append_assoc];exact hO34⟩)
 exact TC.skip (aZ (.inl rfl) (cq rfl) (fun w hw=>hw) ⟨rfl,rfl,_,_,rfl,by rw [lC c6 hx,if_neg c26,List.append_nil,← List.append_assoc];exact hO20⟩)
theorem Vars_ok {H:Hp}{l:List Term}{v:Value}(root:Int)(hT:RdSl H 6 Term.cells v l)(hnames:∀t∈l,t.name.length≤9223372036854775807):
  Fn Tryz.prog 23 [v,.int .i64 root] H (fun r H1=>RdSl H1 1 Str.cells r (iH l root)):=by
 have one1:=hT.isOne
 refine Fn.enter Tryz.func23 Tryz.ntmps23 rfl rfl (fun w0=>?_)
 refine zm2 ?_
 refine sN rfl rfl (fun b2=>?_)
 refine oP ?_;refine xi ?_;refine ar (ab rfl rfl rfl rfl) (JD root hT hnames) rfl (zm1 ?_)
 refine TC.cond rfl ?_ ?_<;>intro c10
 ·
  refine gq ?_
  exact aR (.inr rfl) (ad rfl (RVal.tmp rfl)) (by unfold iH;rw [if_neg (by simpa using c10)];exact RdSl.nil)
 refine lu ?_
 refine TL.alloc rfl (fun b5=>?_)
 refine gN ?_
 refine TL.alloc rfl (fun b6=>?_)
 refine jo ?_;refine tO ?_
 refine dT sq (fun H_b6 le_b6 rd_b6=>?_)
 refine fB (.h1) (dT sq (fun H_b2 le_b2 rd_b2=>?_))
 have hT2:=(hT.le le_b6).le le_b2
 have hl:H_b2 b2 0=some v:=rd_b2 0 _ rfl
 have hw:=le_b2 _ _ _ (rd_b6 0 _ rfl)
 have hm:cN l root=true:=by simpa using c10
 have hvl:=yg hm
 refine TL.run (bG rfl hw) rfl (zm0 ?_)
 refine ii (L1:=(b5,[.slice none 0 0])::[]) (ab rfl rfl rfl rfl) (HK hT2 hl hw (root.toNat+1) root (.inr (mJ hm)) _ [] [] OwnSl.nil (by simp;omega)) rfl (fun v14 H14 L14 hle14 hp14=>?_)
 obtain⟨rfl,rfl,u14,ob14,rfl,hO14⟩:=hp14
 rw [List.nil_append] at hO14
 obtain⟨ua14,uc14,rfl⟩:=hO14.form
 refine gN ?_;refine nJ ?_
 refine TL.sort (ab rfl rfl rfl rfl) sort_ok hO14 (.skip _ .all) om rfl (fun ob16 hO16=>?_)
 refine gN ?_;refine nJ ?_
 refine TL.compact (ab rfl rfl rfl rfl) DA hO16 (.skip _ .all) rfl (fun a18 c18 ob18 hO18=>?_)
 refine em ?_
 refine TX.pubO hO18 (.skip _ .all) sq (fun H1 hle hR=>?_)
 exact aR (.inr rfl) (ad rfl (RVal.tmp rfl)) (by unfold iH;rw [if_pos hm];exact hR)
end Go.Sx
