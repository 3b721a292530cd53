import Derived.Test.YtjnlogbbcceaoaaGreatKm
set_option linter.all false
namespace Go.Sx
variable {a b : Prop}
theorem zq5 (h : a := by
 exact TC.seq (zq6)) : a := h
theorem zq3 (h : a := by
 exact TL.nil (zq4)) : a := h
theorem zq0 (h : a := by
 exact TC.seq (zq1)) : a := h
theorem zq16 (h : a := by
 exact TL.nil (zq17)) : a := h
theorem zq4 (h : a := by
 exact TX.seqN (zq5)) : a := h
theorem zq38 (h : a := by
 exact TL.nil (zq39)) : a := h
theorem zq27 (h : a := by
 exact TC.seq (zq28)) : a := h
theorem zq25 (h : a := by
 exact TL.nil (zq26)) : a := h
theorem zq22 (h : a := by
 exact TC.seq (zq23)) : a := h
theorem zq61 (h : a := by
 exact TC.ret (zq62)) : a := h
theorem zq59 (h : a := by
 exact TL.nil (zq60)) : a := h
theorem zq56 (h : a := by
 exact TC.seq (zq57)) : a := h
theorem zq97 (h : a := by
 exact TC.ret (zq98)) : a := h
theorem zq95 (h : a := by
 exact TL.nil (zq96)) : a := h
theorem zq92 (h : a := by
 exact TC.seq (zq93)) : a := h
theorem zq89 (h : a := by
 exact TL.nil (zq90)) : a := h
theorem zq182 (h : a := by
 exact TC.ret (zq99)) : a := h
theorem zq17 (h : a := by
 exact TX.seqN (zq18)) : a := h
theorem zq39 (h : a := by
 exact TX.seqN (zq40)) : a := h
theorem zq26 (h : a := by
 exact TX.seqN (zq27)) : a := h
theorem zq62 (h : a := by
 exact TX.blkR (zq63)) : a := h
theorem zq60 (h : a := by
 exact TX.seqN (zq61)) : a := h
theorem zq96 (h : a := by
 exact TX.seqN (zq97)) : a := h
theorem zq90 (h : a := by
 exact TX.seqN (zq91)) : a := h
theorem zq153 (h : a := by
 exact TX.blkR (zq98)) : a := h
theorem zq149 (h : a := by
 exact TC.ret (zq150)) : a := h
theorem zq147 (h : a := by
 exact TL.nil (zq148)) : a := h
theorem zq144 (h : a := by
 exact TC.seq (zq145)) : a := h
theorem zq161 (h : a := by
 exact TL.nil (zq162)) : a := h
theorem zq141 (h : a := by
 exact TL.nil (zq142)) : a := h
theorem zq169 (h : a := by
 exact TL.nil (zq170)) : a := h
theorem zq125 (h : a := by
 exact TC.seq (zq126)) : a := h
theorem zq123 (h : a := by
 exact TC.seq (zq124)) : a := h
theorem zq180 (h : a := by
 exact TL.nil (zq181)) : a := h
theorem zq177 (h : a := by
 exact TC.seq (zq178)) : a := h
theorem zq118 (h : a := by
 exact TL.nil (zq119)) : a := h
theorem zq112 (h : a := by
 exact TC.seq (zq113)) : a := h
theorem zq111 (h : a := by
 exact TC.seq (zq112)) : a := h
theorem zq107 (h : a := by
 exact TL.nil (zq108)) : a := h
theorem zq104 (h : a := by
 exact TC.seq (zq105)) : a := h
theorem zq103 (h : a := by
 exact TC.seq (zq104)) : a := h
theorem zq183 (h : a := by
 exact TC.seq (zq184)) : a := h
theorem zq191 (h : a := by
 exact TC.ret (zq192)) : a := h
theorem zq189 (h : a := by
 exact TL.nil (zq190)) : a := h
theorem zq186 (h : a := by
 exact TC.seq (zq187)) : a := h
theorem zq205 (h : a := by
 exact TC.ret (zq206)) : a := h
theorem zq203 (h : a := by
 exact TL.nil (zq204)) : a := h
theorem zq222 (h : a := by
 exact TL.nil (zq223)) : a := h
theorem zq244 (h : a := by
 exact TC.ret (zq245)) : a := h
theorem zq242 (h : a := by
 exact TL.nil (zq243)) : a := h
theorem zq239 (h : a := by
 exact TC.seq (zq240)) : a := h
theorem zq236 (h : a := by
 exact TL.nil (zq237)) : a := h
theorem zq253 (h : a := by
 exact TC.ret (zq254)) : a := h
theorem zq251 (h : a := by
 exact TL.nil (zq252)) : a := h
theorem zq248 (h : a := by
 exact TC.seq (zq249)) : a := h
theorem zq282 (h : a := by
 exact TC.ret (zq256)) : a := h
theorem zq280 (h : a := by
 exact TL.nil (zq281)) : a := h
theorem zq277 (h : a := by
 exact TC.seq (zq278)) : a := h
theorem zq274 (h : a := by
 exact TL.nil (zq275)) : a := h
theorem zq288 (h : a := by
 exact TC.ret (zq289)) : a := h
theorem zq286 (h : a := by
 exact TL.nil (zq287)) : a := h
theorem zq283 (h : a := by
 exact TC.seq (zq284)) : a := h
theorem zq314 (h : a := by
 exact TC.ret (zq294)) : a := h
theorem zq312 (h : a := by
 exact TL.nil (zq313)) : a := h
theorem zq309 (h : a := by
 exact TC.seq (zq310)) : a := h
theorem zq302 (h : a := by
 exact TC.seq (zq303)) : a := h
theorem zq300 (h : a := by
 exact TL.nil (zq301)) : a := h
theorem zq297 (h : a := by
 exact TC.seq (zq298)) : a := h
theorem zq295 (h : a := by
 exact TX.rnd (zq296)) : a := h
theorem zq322 (h : a := by
 exact TL.nil (zq323)) : a := h
theorem zq338 (h : a := by
 exact TC.ret (zq339)) : a := h
theorem zq336 (h : a := by
 exact TL.nil (zq337)) : a := h
theorem zq333 (h : a := by
 exact TC.seq (zq334)) : a := h
theorem zq330 (h : a := by
 exact TL.nil (zq331)) : a := h
theorem zq348 (h : a := by
 exact TL.nil (zq349)) : a := h
theorem zq344 (h : a := by
 exact TC.seq (zq345)) : a := h
theorem zq343 (h : a := by
 exact TC.seq (zq344)) : a := h
theorem zq383 (h : a := by
 exact TC.ret (zq384)) : a := h
theorem zq381 (h : a := by
 exact TL.nil (zq382)) : a := h
theorem zq377 (h : a := by
 exact TC.seq (zq378)) : a := h
theorem zq375 (h : a := by
 exact TL.nil (zq376)) : a := h
theorem zq369 (h : a := by
 exact TL.nil (zq370)) : a := h
theorem zq364 (h : a := by
 exact TC.seq (zq365)) : a := h
theorem zq363 (h : a := by
 exact TC.seq (zq364)) : a := h
theorem zq360 (h : a := by
 exact TL.nil (zq361)) : a := h
theorem zq398 (h : a := by
 exact TC.ret (zq399)) : a := h
theorem zq396 (h : a := by
 exact TL.nil (zq397)) : a := h
theorem zq423 (h : a := by
 exact TC.seq (zq424)) : a := h
theorem zq478 (h : a := by
 exact TC.ret (zq479)) : a := h
theorem zq476 (h : a := by
 exact TL.nil (zq477)) : a := h
theorem zq473 (h : a := by
 exact TC.seq (zq474)) : a := h
theorem zq520 (h : a := by
 exact TC.ret (zq521)) : a := h
theorem zq518 (h : a := by
 exact TL.nil (zq519)) : a := h
theorem zq551 (h : a := by
 exact TC.ret (zq552)) : a := h
theorem zq549 (h : a := by
 exact TL.nil (zq550)) : a := h
theorem zq546 (h : a := by
 exact TC.seq (zq547)) : a := h
theorem zq543 (h : a := by
 exact TL.nil (zq544)) : a := h
theorem zq564 (h : a := by
 exact TC.ret (zq480)) : a := h
theorem zq562 (h : a := by
 exact TL.nil (zq563)) : a := h
theorem zq559 (h : a := by
 exact TC.seq (zq560)) : a := h
theorem zq601 (h : a := by
 exact TL.nil (zq602)) : a := h
theorem zq595 (h : a := by
 exact TL.nil (zq596)) : a := h
theorem zq587 (h : a := by
 exact TL.nil (zq588)) : a := h
theorem zq581 (h : a := by
 exact TC.seq (zq582)) : a := h
theorem zq579 (h : a := by
 exact TC.seq (zq580)) : a := h
theorem zq608 (h : a := by
 exact TC.seq (zq609)) : a := h
theorem zq572 (h : a := by
 exact TC.seq (zq573)) : a := h
theorem zq570 (h : a := by
 exact TL.nil (zq571)) : a := h
theorem zq567 (h : a := by
 exact TC.seq (zq568)) : a := h
theorem zq657 (h : a := by
 exact TL.nil (zq658)) : a := h
theorem zq651 (h : a := by
 exact TC.seq (zq652)) : a := h
theorem zq649 (h : a := by
 exact TC.seq (zq650)) : a := h
theorem zq669 (h : a := by
 exact TC.seq (zq670)) : a := h
theorem zq642 (h : a := by
 exact TC.seq (zq643)) : a := h
theorem zq640 (h : a := by
 exact TL.nil (zq641)) : a := h
theorem zq637 (h : a := by
 exact TC.seq (zq638)) : a := h
theorem zq631 (h : a := by
 exact TL.nil (zq632)) : a := h
theorem zq625 (h : a := by
 exact TC.seq (zq626)) : a := h
theorem zq624 (h : a := by
 exact TC.seq (zq625)) : a := h
theorem zq622 (h : a := by
 exact TL.nil (zq623)) : a := h
theorem zq615 (h : a := by
 exact TC.seq (zq616)) : a := h
theorem zq678 (h : a := by
 exact TC.ret (zq679)) : a := h
theorem zq676 (h : a := by
 exact TL.nil (zq677)) : a := h
theorem zq673 (h : a := by
 exact TC.seq (zq674)) : a := h
theorem zq683 (h : a := by
 exact TL.nil (zq684)) : a := h
theorem zq686 (h : a := by
 exact TC.seq (zq687)) : a := h
theorem zq705 (h : a := by
 exact TL.nil (zq706)) : a := h
theorem zq707 (h : a := by
 exact TC.seq (zq708)) : a := h
theorem zq723 (h : a := by
 exact TC.ret (zq724)) : a := h
theorem zq721 (h : a := by
 exact TL.nil (zq722)) : a := h
theorem zq718 (h : a := by
 exact TC.seq (zq719)) : a := h
theorem zq715 (h : a := by
 exact TL.nil (zq716)) : a := h
theorem zq738 (h : a := by
 exact TL.nil (zq739)) : a := h
theorem zq744 (h : a := by
 exact TC.ret (zq745)) : a := h
theorem zq742 (h : a := by
 exact TL.nil (zq743)) : a := h
theorem zq747 (h : a := by
 exact TL.nil (zq748)) : a := h
theorem zq764 (h : a := by
 exact TL.nil (zq765)) : a := h
theorem zq758 (h : a := by
 exact TL.nil (zq759)) : a := h
theorem zq771 (h : a := by
 exact TF.nil (zq772)) : a := h
theorem zq788 (h : a := by
 exact TL.nil (zq789)) : a := h
theorem zq782 (h : a := by
 exact TF.nil (zq783)) : a := h
theorem zq808 (h : a := by
 exact TL.nil (zq809)) : a := h
theorem zq802 (h : a := by
 exact TL.nil (zq803)) : a := h
theorem zq822 (h : a := by
 exact TL.nil (zq823)) : a := h
theorem zq816 (h : a := by
 exact TF.nil (zq817)) : a := h
theorem zq859 (h : a := by
 exact TL.nil (zq860)) : a := h
theorem zq853 (h : a := by
 exact TL.nil (zq854)) : a := h
theorem zq843 (h : a := by
 exact TL.nil (zq844)) : a := h
theorem zq836 (h : a := by
 exact TL.nil (zq837)) : a := h
theorem zq832 (h : a := by
 exact TC.seq (zq833)) : a := h
theorem zq829 (h : a := by
 exact TL.nil (zq830)) : a := h
theorem zq884 (h : a := by
 exact TC.ret (zq885)) : a := h
theorem zq882 (h : a := by
 exact TL.nil (zq883)) : a := h
theorem zq879 (h : a := by
 exact TC.seq (zq880)) : a := h
theorem zq897 (h : a := by
 exact TL.nil (zq898)) : a := h
theorem zq933 (h : a := by
 exact TC.ret (zq934)) : a := h
theorem zq931 (h : a := by
 exact TL.nil (zq932)) : a := h
theorem zq928 (h : a := by
 exact TC.seq (zq929)) : a := h
theorem zq946 (h : a := by
 exact TL.nil (zq947)) : a := h
theorem zq924 (h : a := by
 exact TL.nil (zq925)) : a := h
theorem zq918 (h : a := by
 exact TC.seq (zq919)) : a := h
theorem zq916 (h : a := by
 exact TL.nil (zq917)) : a := h
theorem zq911 (h : a := by
 exact TC.seq (zq912)) : a := h
theorem zq909 (h : a := by
 exact TC.seq (zq910)) : a := h
theorem zq969 (h : a := by
 exact TL.nil (zq970)) : a := h
theorem zq958 (h : a := by
 exact TL.nil (zq959)) : a := h
theorem zq953 (h : a := by
 exact TC.seq (zq954)) : a := h
theorem zq951 (h : a := by
 exact TC.seq (zq952)) : a := h
theorem zq985 (h : a := by
 exact TC.ret (zq938)) : a := h
theorem zq983 (h : a := by
 exact TL.nil (zq984)) : a := h
theorem zq980 (h : a := by
 exact TC.seq (zq981)) : a := h
theorem zq994 (h : a := by
 exact TL.nil (zq995)) : a := h
theorem zq1014 (h : a := by
 exact TC.ret (zq939)) : a := h
theorem zq6 (h : a := by
 exact TC.region (zq7)) : a := h
theorem zq1 (h : a := by
 exact TC.region (zq2)) : a := h
theorem zq98 (h : a := by
 exact TX.thenR (zq99)) : a := h
theorem zq150 (h : a := by
 exact TX.blkR (zq151)) : a := h
theorem zq148 (h : a := by
 exact TX.seqN (zq149)) : a := h
theorem zq156 (h : a := by
 exact TX.seqN (zq157)) : a := h
theorem zq155 (h : a := by
 exact TX.blkN (zq156)) : a := h
theorem zq154 (h : a := by
 exact TC.skip (zq155)) : a := h
theorem zq142 (h : a := by
 exact TX.seqN (zq143)) : a := h
theorem zq170 (h : a := by
 exact TX.seqN (zq171)) : a := h
theorem zq122 (h : a := by
 exact TX.seqN (zq123)) : a := h
theorem zq121 (h : a := by
 exact TC.skip (zq122)) : a := h
theorem zq181 (h : a := by
 exact TX.seqN (zq182)) : a := h
theorem zq176 (h : a := by
 exact TX.seqN (zq177)) : a := h
theorem zq172 (h : a := by
 exact TC.exit (zq173)) : a := h
theorem zq119 (h : a := by
 exact TX.seqN (zq120)) : a := h
theorem zq108 (h : a := by
 exact TX.seqN (zq109)) : a := h
theorem zq102 (h : a := by
 exact TX.seqN (zq103)) : a := h
theorem zq101 (h : a := by
 exact TC.skip (zq102)) : a := h
theorem zq192 (h : a := by
 exact TX.blkR (zq193)) : a := h
theorem zq190 (h : a := by
 exact TX.seqN (zq191)) : a := h
theorem zq206 (h : a := by
 exact TX.blkR (zq207)) : a := h
theorem zq204 (h : a := by
 exact TX.seqN (zq205)) : a := h
theorem zq223 (h : a := by
 exact TX.seqN (zq224)) : a := h
theorem zq243 (h : a := by
 exact TX.seqN (zq244)) : a := h
theorem zq237 (h : a := by
 exact TX.seqN (zq238)) : a := h
theorem zq259 (h : a := by
 exact TX.blkR (zq260)) : a := h
theorem zq256 (h : a := by
 exact TX.blkR (zq257)) : a := h
theorem zq252 (h : a := by
 exact TX.seqN (zq253)) : a := h
theorem zq281 (h : a := by
 exact TX.seqN (zq282)) : a := h
theorem zq275 (h : a := by
 exact TX.seqN (zq276)) : a := h
theorem zq292 (h : a := by
 exact TX.blkR (zq293)) : a := h
theorem zq289 (h : a := by
 exact TX.blkR (zq290)) : a := h
theorem zq287 (h : a := by
 exact TX.seqN (zq288)) : a := h
theorem zq313 (h : a := by
 exact TX.seqN (zq314)) : a := h
theorem zq308 (h : a := by
 exact TX.seqN (zq309)) : a := h
theorem zq304 (h : a := by
 exact TC.exit (zq305)) : a := h
theorem zq301 (h : a := by
 exact TX.seqN (zq302)) : a := h
theorem zq296 (h : a := by
 exact TR.succ (zq297)) : a := h
theorem zq323 (h : a := by
 exact TX.seqN (zq324)) : a := h
theorem zq337 (h : a := by
 exact TX.seqN (zq338)) : a := h
theorem zq331 (h : a := by
 exact TX.seqN (zq332)) : a := h
theorem zq349 (h : a := by
 exact TX.seqN (zq350)) : a := h
theorem zq382 (h : a := by
 exact TX.seqN (zq383)) : a := h
theorem zq376 (h : a := by
 exact TX.seqN (zq377)) : a := h
theorem zq385 (h : a := by
 exact TC.skip (zq376)) : a := h
theorem zq370 (h : a := by
 exact TX.seqN (zq371)) : a := h
theorem zq362 (h : a := by
 exact TX.seqN (zq363)) : a := h
theorem zq361 (h : a := by
 exact TX.blkN (zq362)) : a := h
theorem zq397 (h : a := by
 exact TX.seqN (zq398)) : a := h
theorem zq477 (h : a := by
 exact TX.seqN (zq478)) : a := h
theorem zq521 (h : a := by
 exact TX.blkR (zq479)) : a := h
theorem zq519 (h : a := by
 exact TX.seqN (zq520)) : a := h
theorem zq550 (h : a := by
 exact TX.seqN (zq551)) : a := h
theorem zq544 (h : a := by
 exact TX.seqN (zq545)) : a := h
theorem zq563 (h : a := by
 exact TX.seqN (zq564)) : a := h
theorem zq558 (h : a := by
 exact TX.seqN (zq559)) : a := h
theorem zq557 (h : a := by
 exact TX.blkN (zq558)) : a := h
theorem zq597 (h : a := by
 exact TX.seqN (zq598)) : a := h
theorem zq596 (h : a := by
 exact TX.blkN (zq597)) : a := h
theorem zq588 (h : a := by
 exact TX.seqN (zq589)) : a := h
theorem zq578 (h : a := by
 exact TX.seqN (zq579)) : a := h
theorem zq577 (h : a := by
 exact TC.skip (zq578)) : a := h
theorem zq607 (h : a := by
 exact TX.seqN (zq608)) : a := h
theorem zq603 (h : a := by
 exact TC.exit (zq604)) : a := h
theorem zq571 (h : a := by
 exact TX.seqN (zq572)) : a := h
theorem zq658 (h : a := by
 exact TX.seqN (zq659)) : a := h
theorem zq648 (h : a := by
 exact TX.seqN (zq649)) : a := h
theorem zq647 (h : a := by
 exact TC.skip (zq648)) : a := h
theorem zq668 (h : a := by
 exact TX.seqN (zq669)) : a := h
theorem zq664 (h : a := by
 exact TC.exit (zq665)) : a := h
theorem zq641 (h : a := by
 exact TX.seqN (zq642)) : a := h
theorem zq632 (h : a := by
 exact TX.seqN (zq633)) : a := h
theorem zq623 (h : a := by
 exact TX.seqN (zq624)) : a := h
theorem zq614 (h : a := by
 exact TX.seqN (zq615)) : a := h
theorem zq613 (h : a := by
 exact TX.blkN (zq614)) : a := h
theorem zq612 (h : a := by
 exact TC.skip (zq613)) : a := h
theorem zq677 (h : a := by
 exact TX.seqN (zq678)) : a := h
theorem zq684 (h : a := by
 exact TX.seqN (zq685)) : a := h
theorem zq728 (h : a := by
 exact TX.blkR (zq729)) : a := h
theorem zq725 (h : a := by
 exact TX.blkR (zq726)) : a := h
theorem zq724 (h : a := by
 exact TX.blkR (zq725)) : a := h
theorem zq722 (h : a := by
 exact TX.seqN (zq723)) : a := h
theorem zq716 (h : a := by
 exact TX.seqN (zq717)) : a := h
theorem zq734 (h : a := by
 exact TX.seqN (zq735)) : a := h
theorem zq733 (h : a := by
 exact TX.blkN (zq734)) : a := h
theorem zq732 (h : a := by
 exact TX.blkN (zq733)) : a := h
theorem zq731 (h : a := by
 exact TC.skip (zq732)) : a := h
theorem zq743 (h : a := by
 exact TX.seqN (zq744)) : a := h
theorem zq753 (h : a := by
 exact TX.blkR (zq754)) : a := h
theorem zq750 (h : a := by
 exact TX.blkR (zq751)) : a := h
theorem zq760 (h : a := by
 exact TX.seqN (zq761)) : a := h
theorem zq759 (h : a := by
 exact TX.blkN (zq760)) : a := h
theorem zq770 (h : a := by
 exact TF.back (zq771)) : a := h
theorem zq768 (h : a := by
 exact TF.loud (zq769)) : a := h
theorem zq773 (h : a := by
 exact TF.back (zq774)) : a := h
theorem zq775 (h : a := by
 exact TF.back (zq776)) : a := h
theorem zq784 (h : a := by
 exact TX.seqN (zq785)) : a := h
theorem zq783 (h : a := by
 exact TX.blkN (zq784)) : a := h
theorem zq781 (h : a := by
 exact TF.back (zq782)) : a := h
theorem zq779 (h : a := by
 exact TF.loud (zq780)) : a := h
theorem zq804 (h : a := by
 exact TX.seqN (zq805)) : a := h
theorem zq803 (h : a := by
 exact TX.blkN (zq804)) : a := h
theorem zq818 (h : a := by
 exact TX.seqN (zq819)) : a := h
theorem zq817 (h : a := by
 exact TX.blkN (zq818)) : a := h
theorem zq815 (h : a := by
 exact TF.back (zq816)) : a := h
theorem zq813 (h : a := by
 exact TF.loud (zq814)) : a := h
theorem zq855 (h : a := by
 exact TX.seqN (zq856)) : a := h
theorem zq854 (h : a := by
 exact TX.blkN (zq855)) : a := h
theorem zq844 (h : a := by
 exact TX.seqN (zq845)) : a := h
theorem zq837 (h : a := by
 exact TX.seqN (zq838)) : a := h
theorem zq830 (h : a := by
 exact TX.seqN (zq831)) : a := h
theorem zq888 (h : a := by
 exact TX.blkR (zq877)) : a := h
theorem zq885 (h : a := by
 exact TX.blkR (zq886)) : a := h
theorem zq883 (h : a := by
 exact TX.seqN (zq884)) : a := h
theorem zq893 (h : a := by
 exact TX.seqN (zq894)) : a := h
theorem zq937 (h : a := by
 exact TX.blkR (zq938)) : a := h
theorem zq934 (h : a := by
 exact TX.blkR (zq935)) : a := h
theorem zq932 (h : a := by
 exact TX.seqN (zq933)) : a := h
theorem zq942 (h : a := by
 exact TX.seqN (zq943)) : a := h
theorem zq941 (h : a := by
 exact TX.blkN (zq942)) : a := h
theorem zq940 (h : a := by
 exact TC.skip (zq941)) : a := h
theorem zq925 (h : a := by
 exact TX.seqN (zq926)) : a := h
theorem zq917 (h : a := by
 exact TX.seqN (zq918)) : a := h
theorem zq908 (h : a := by
 exact TX.seqN (zq909)) : a := h
theorem zq907 (h : a := by
 exact TC.skip (zq908)) : a := h
theorem zq965 (h : a := by
 exact TX.seqN (zq966)) : a := h
theorem zq964 (h : a := by
 exact TX.blkN (zq965)) : a := h
theorem zq963 (h : a := by
 exact TC.skip (zq964)) : a := h
theorem zq959 (h : a := by
 exact TX.seqN (zq960)) : a := h
theorem zq950 (h : a := by
 exact TX.seqN (zq951)) : a := h
theorem zq949 (h : a := by
 exact TC.skip (zq950)) : a := h
theorem zq984 (h : a := by
 exact TX.seqN (zq985)) : a := h
theorem zq1004 (h : a := by
 exact TL.nil (zq1005)) : a := h
theorem zq998 (h : a := by
 exact TC.skip (zq999)) : a := h
theorem zq995 (h : a := by
 exact TX.seqN (zq996)) : a := h
theorem zq1012 (h : a := by
 exact TL.nil (zq1013)) : a := h
theorem zq1009 (h : a := by
 exact TC.seq (zq1010)) : a := h
theorem zq1017 (h : a := by
 exact TL.nil (zq1018)) : a := h
theorem zq1037 (h : a := by
 exact TL.nil (zq1038)) : a := h
theorem zq1045 (h : a := by
 exact TC.ret (zq1046)) : a := h
theorem zq1043 (h : a := by
 exact TL.nil (zq1044)) : a := h
theorem zq1061 (h : a := by
 exact TC.ret (zq1062)) : a := h
theorem zq1059 (h : a := by
 exact TL.nil (zq1060)) : a := h
theorem zq1055 (h : a := by
 exact TC.seq (zq1056)) : a := h
theorem zq1069 (h : a := by
 exact TL.nil (zq1070)) : a := h
theorem zq1072 (h : a := by
 exact TL.nil (zq1073)) : a := h
theorem zq1079 (h : a := by
 exact TC.seq (zq1080)) : a := h
theorem zq1097 (h : a := by
 exact TL.nil (zq1098)) : a := h
theorem zq1091 (h : a := by
 exact TF.nil (zq1092)) : a := h
theorem zq1103 (h : a := by
 exact TC.ret (zq1104)) : a := h
theorem zq1101 (h : a := by
 exact TL.nil (zq1102)) : a := h
theorem zq1148 (h : a := by
 exact TL.nil (zq1149)) : a := h
theorem zq1138 (h : a := by
 exact TC.seq (zq1139)) : a := h
theorem zq1168 (h : a := by
 exact TC.seq (zq1169)) : a := h
theorem zq1178 (h : a := by
 exact TC.seq (zq1179)) : a := h
theorem zq1165 (h : a := by
 exact TL.nil (zq1166)) : a := h
theorem zq1161 (h : a := by
 exact TC.seq (zq1162)) : a := h
theorem zq1160 (h : a := by
 exact TC.seq (zq1161)) : a := h
theorem zq1131 (h : a := by
 exact TC.seq (zq1132)) : a := h
theorem zq1126 (h : a := by
 exact TC.seq (zq1127)) : a := h
theorem zq1124 (h : a := by
 exact TL.nil (zq1125)) : a := h
theorem zq1121 (h : a := by
 exact TC.seq (zq1122)) : a := h
theorem zq1188 (h : a := by
 exact TC.ret (zq1189)) : a := h
theorem zq1186 (h : a := by
 exact TL.nil (zq1187)) : a := h
theorem zq1183 (h : a := by
 exact TC.seq (zq1184)) : a := h
theorem zq1194 (h : a := by
 exact TC.ret (zq1195)) : a := h
theorem zq1192 (h : a := by
 exact TL.nil (zq1193)) : a := h
theorem zq1212 (h : a := by
 exact TC.ret (zq1213)) : a := h
theorem zq1210 (h : a := by
 exact TF.nil (zq1211)) : a := h
theorem zq1232 (h : a := by
 exact TC.ret (zq1233)) : a := h
theorem zq1230 (h : a := by
 exact TF.nil (zq1231)) : a := h
theorem zq1239 (h : a := by
 exact TL.nil (zq1240)) : a := h
theorem zq1261 (h : a := by
 exact TL.nil (zq1262)) : a := h
theorem zq1254 (h : a := by
 exact TF.nil (zq1255)) : a := h
theorem zq1299 (h : a := by
 exact TF.nil (zq1300)) : a := h
theorem zq1354 (h : a := by
 exact TL.nil (zq1355)) : a := h
theorem zq1344 (h : a := by
 exact TL.nil (zq1345)) : a := h
theorem zq1412 (h : a := by
 exact TC.ret (zq1413)) : a := h
theorem zq1410 (h : a := by
 exact TL.nil (zq1411)) : a := h
theorem zq1405 (h : a := by
 exact TC.seq (zq1406)) : a := h
theorem zq1427 (h : a := by
 exact TL.nil (zq1428)) : a := h
theorem zq1402 (h : a := by
 exact TL.nil (zq1403)) : a := h
theorem zq1391 (h : a := by
 exact TC.seq (zq1392)) : a := h
theorem zq1389 (h : a := by
 exact TC.seq (zq1390)) : a := h
theorem zq1452 (h : a := by
 exact TC.ret (zq1453)) : a := h
theorem zq1450 (h : a := by
 exact TL.nil (zq1451)) : a := h
theorem zq1446 (h : a := by
 exact TC.seq (zq1447)) : a := h
theorem zq1485 (h : a := by
 exact TC.ret (zq1486)) : a := h
theorem zq1483 (h : a := by
 exact TL.nil (zq1484)) : a := h
theorem zq1473 (h : a := by
 exact TC.seq (zq1474)) : a := h
theorem zq1471 (h : a := by
 exact TL.nil (zq1472)) : a := h
theorem zq1458 (h : a := by
 exact TC.seq (zq1459)) : a := h
theorem zq1443 (h : a := by
 exact TL.nil (zq1444)) : a := h
theorem zq1435 (h : a := by
 exact TC.seq (zq1436)) : a := h
theorem zq1434 (h : a := by
 exact TC.seq (zq1435)) : a := h
theorem zq1383 (h : a := by
 exact TL.nil (zq1384)) : a := h
theorem zq1374 (h : a := by
 exact TC.seq (zq1375)) : a := h
theorem zq1373 (h : a := by
 exact TC.seq (zq1374)) : a := h
theorem zq1368 (h : a := by
 exact TL.nil (zq1369)) : a := h
theorem zq1363 (h : a := by
 exact TC.seq (zq1364)) : a := h
theorem zq1362 (h : a := by
 exact TC.seq (zq1363)) : a := h
theorem zq1505 (h : a := by
 exact TC.ret (zq1506)) : a := h
theorem zq1503 (h : a := by
 exact TL.nil (zq1504)) : a := h
theorem zq1498 (h : a := by
 exact TC.seq (zq1499)) : a := h
theorem zq1495 (h : a := by
 exact TL.nil (zq1496)) : a := h
theorem zq1529 (h : a := by
 exact TC.ret (zq1530)) : a := h
theorem zq1527 (h : a := by
 exact TL.nil (zq1528)) : a := h
theorem zq1523 (h : a := by
 exact TC.seq (zq1524)) : a := h
theorem zq1561 (h : a := by
 exact TC.ret (zq1562)) : a := h
theorem zq1559 (h : a := by
 exact TL.nil (zq1560)) : a := h
theorem zq1551 (h : a := by
 exact TC.seq (zq1552)) : a := h
theorem zq1549 (h : a := by
 exact TL.nil (zq1550)) : a := h
theorem zq1542 (h : a := by
 exact TC.seq (zq1543)) : a := h
theorem zq1540 (h : a := by
 exact TL.nil (zq1541)) : a := h
theorem zq1533 (h : a := by
 exact TC.seq (zq1534)) : a := h
theorem zq1520 (h : a := by
 exact TL.nil (zq1521)) : a := h
theorem zq1572 (h : a := by
 exact TL.nil (zq1573)) : a := h
theorem zq1596 (h : a := by
 exact TC.ret (zq1597)) : a := h
theorem zq1594 (h : a := by
 exact TL.nil (zq1595)) : a := h
theorem zq1589 (h : a := by
 exact TC.seq (zq1590)) : a := h
theorem zq1661 (h : a := by
 exact TC.ret (zq1662)) : a := h
theorem zq1659 (h : a := by
 exact TL.nil (zq1660)) : a := h
theorem zq1654 (h : a := by
 exact TC.seq (zq1655)) : a := h
theorem zq1676 (h : a := by
 exact TL.nil (zq1677)) : a := h
theorem zq1651 (h : a := by
 exact TL.nil (zq1652)) : a := h
theorem zq1647 (h : a := by
 exact TC.seq (zq1648)) : a := h
theorem zq1645 (h : a := by
 exact TL.nil (zq1646)) : a := h
theorem zq1625 (h : a := by
 exact TC.seq (zq1626)) : a := h
theorem zq1623 (h : a := by
 exact TC.seq (zq1624)) : a := h
theorem zq1779 (h : a := by
 exact TC.ret (zq1780)) : a := h
theorem zq1777 (h : a := by
 exact TL.nil (zq1778)) : a := h
theorem zq1771 (h : a := by
 exact TC.seq (zq1772)) : a := h
theorem zq1818 (h : a := by
 exact TL.nil (zq1819)) : a := h
theorem zq1811 (h : a := by
 exact TF.nil (zq1812)) : a := h
theorem zq1768 (h : a := by
 exact TL.nil (zq1769)) : a := h
theorem zq1764 (h : a := by
 exact TC.seq (zq1765)) : a := h
theorem zq1763 (h : a := by
 exact TC.seq (zq1764)) : a := h
theorem zq1761 (h : a := by
 exact TL.nil (zq1762)) : a := h
theorem zq1750 (h : a := by
 exact TC.seq (zq1751)) : a := h
theorem zq1748 (h : a := by
 exact TL.nil (zq1749)) : a := h
theorem zq1721 (h : a := by
 exact TC.seq (zq1722)) : a := h
theorem zq1719 (h : a := by
 exact TC.seq (zq1720)) : a := h
theorem zq1834 (h : a := by
 exact TC.ret (zq1835)) : a := h
theorem zq1832 (h : a := by
 exact TL.nil (zq1833)) : a := h
theorem zq1825 (h : a := by
 exact TC.seq (zq1826)) : a := h
theorem zq1713 (h : a := by
 exact TL.nil (zq1714)) : a := h
theorem zq1707 (h : a := by
 exact TC.seq (zq1708)) : a := h
theorem zq1706 (h : a := by
 exact TC.seq (zq1707)) : a := h
theorem zq1698 (h : a := by
 exact TL.nil (zq1699)) : a := h
theorem zq1695 (h : a := by
 exact TC.seq (zq1696)) : a := h
theorem zq1694 (h : a := by
 exact TC.seq (zq1695)) : a := h
theorem zq1692 (h : a := by
 exact TL.nil (zq1693)) : a := h
theorem zq1683 (h : a := by
 exact TC.seq (zq1684)) : a := h
theorem zq1617 (h : a := by
 exact TL.nil (zq1618)) : a := h
theorem zq1611 (h : a := by
 exact TC.seq (zq1612)) : a := h
theorem zq1610 (h : a := by
 exact TC.seq (zq1611)) : a := h
theorem zq1605 (h : a := by
 exact TL.nil (zq1606)) : a := h
theorem zq1602 (h : a := by
 exact TC.seq (zq1603)) : a := h
theorem zq1601 (h : a := by
 exact TC.seq (zq1602)) : a := h
theorem zq1586 (h : a := by
 exact TL.nil (zq1587)) : a := h
theorem zq1580 (h : a := by
 exact TC.seq (zq1581)) : a := h
theorem zq1579 (h : a := by
 exact TC.seq (zq1580)) : a := h
theorem zq1842 (h : a := by
 exact TC.ret (zq1843)) : a := h
theorem zq1840 (h : a := by
 exact TL.nil (zq1841)) : a := h
theorem zq1854 (h : a := by
 exact TC.ret (zq1849)) : a := h
theorem zq1852 (h : a := by
 exact TL.nil (zq1853)) : a := h
theorem zq1874 (h : a := by
 exact TL.nil (zq1875)) : a := h
theorem zq1878 (h : a := by
 exact TL.nil (zq1879)) : a := h
theorem zq1904 (h : a := by
 exact TL.nil (zq1905)) : a := h
theorem zq1913 (h : a := by
 exact TC.ret (zq1914)) : a := h
theorem zq1911 (h : a := by
 exact TL.nil (zq1912)) : a := h
theorem zq1908 (h : a := by
 exact TC.seq (zq1909)) : a := h
theorem zq1919 (h : a := by
 exact TL.nil (zq1920)) : a := h
theorem zq1930 (h : a := by
 exact TL.nil (zq1931)) : a := h
theorem zq1948 (h : a := by
 exact TL.nil (zq1949)) : a := h
theorem zq1957 (h : a := by
 exact TC.ret (zq1958)) : a := h
theorem zq1955 (h : a := by
 exact TL.nil (zq1956)) : a := h
theorem zq1950 (h : a := by
 exact TC.seq (zq1951)) : a := h
theorem zq1983 (h : a := by
 exact TC.ret (zq1984)) : a := h
theorem zq1981 (h : a := by
 exact TL.nil (zq1982)) : a := h
theorem zq1974 (h : a := by
 exact TC.seq (zq1975)) : a := h
theorem zq2007 (h : a := by
 exact TL.nil (zq2008)) : a := h
theorem zq2000 (h : a := by
 exact TL.nil (zq2001)) : a := h
theorem zq1971 (h : a := by
 exact TL.nil (zq1972)) : a := h
theorem zq1967 (h : a := by
 exact TC.seq (zq1968)) : a := h
theorem zq1966 (h : a := by
 exact TC.seq (zq1967)) : a := h
theorem zq1964 (h : a := by
 exact TF.nil (zq1965)) : a := h
theorem zq2032 (h : a := by
 exact TL.nil (zq2033)) : a := h
theorem zq2023 (h : a := by
 exact TF.nil (zq2024)) : a := h
theorem zq2055 (h : a := by
 exact TL.nil (zq2056)) : a := h
theorem zq2048 (h : a := by
 exact TL.nil (zq2049)) : a := h
theorem zq2081 (h : a := by
 exact TL.nil (zq2082)) : a := h
theorem zq2268 (h : a := by
 exact TF.nil (zq2269)) : a := h
theorem zq2233 (h : a := by
 exact TL.nil (zq2234)) : a := h
theorem zq2223 (h : a := by
 exact TC.seq (zq2224)) : a := h
theorem zq2221 (h : a := by
 exact TF.nil (zq2222)) : a := h
theorem zq2187 (h : a := by
 exact TC.seq (zq2188)) : a := h
theorem zq2185 (h : a := by
 exact TL.nil (zq2186)) : a := h
theorem zq2175 (h : a := by
 exact TC.seq (zq2176)) : a := h
theorem zq2173 (h : a := by
 exact TF.nil (zq2174)) : a := h
theorem zq2145 (h : a := by
 exact TC.seq (zq2146)) : a := h
theorem zq2143 (h : a := by
 exact TL.nil (zq2144)) : a := h
theorem zq2135 (h : a := by
 exact TC.seq (zq2136)) : a := h
theorem zq2133 (h : a := by
 exact TL.nil (zq2134)) : a := h
theorem zq2110 (h : a := by
 exact TC.seq (zq2111)) : a := h
theorem zq2108 (h : a := by
 exact TL.nil (zq2109)) : a := h
theorem zq2103 (h : a := by
 exact TC.seq (zq2104)) : a := h
theorem zq2311 (h : a := by
 exact TF.nil (zq2312)) : a := h
theorem zq2100 (h : a := by
 exact TL.nil (zq2101)) : a := h
theorem zq2322 (h : a := by
 exact TL.nil (zq2323)) : a := h
theorem zq2084 (h : a := by
 exact TC.seq (zq2085)) : a := h
theorem zq2072 (h : a := by
 exact TL.nil (zq2073)) : a := h
theorem zq2066 (h : a := by
 exact TC.seq (zq2067)) : a := h
theorem zq2063 (h : a := by
 exact TL.nil (zq2064)) : a := h
theorem zq2034 (h : a := by
 exact TC.seq (zq2035)) : a := h
theorem zq2332 (h : a := by
 exact TL.nil (zq2333)) : a := h
theorem zq2376 (h : a := by
 exact TL.nil (zq2377)) : a := h
theorem zq2369 (h : a := by
 exact TL.nil (zq2370)) : a := h
theorem zq2360 (h : a := by
 exact TL.nil (zq2361)) : a := h
theorem zq2353 (h : a := by
 exact TC.seq (zq2354)) : a := h
theorem zq2351 (h : a := by
 exact TF.nil (zq2352)) : a := h
theorem zq2419 (h : a := by
 exact TL.nil (zq2420)) : a := h
theorem zq2412 (h : a := by
 exact TL.nil (zq2413)) : a := h
theorem zq2403 (h : a := by
 exact TL.nil (zq2404)) : a := h
theorem zq2396 (h : a := by
 exact TC.seq (zq2397)) : a := h
theorem zq2394 (h : a := by
 exact TF.nil (zq2395)) : a := h
theorem zq2429 (h : a := by
 exact TL.nil (zq2430)) : a := h
theorem zq2422 (h : a := by
 exact TL.nil (zq2423)) : a := h
theorem zq2432 (h : a := by
 exact TL.nil (zq2433)) : a := h
theorem zq2464 (h : a := by
 exact TL.nil (zq2465)) : a := h
theorem zq2447 (h : a := by
 exact TL.nil (zq2448)) : a := h
theorem zq2440 (h : a := by
 exact TC.seq (zq2441)) : a := h
theorem zq2439 (h : a := by
 exact TC.seq (zq2440)) : a := h
theorem zq2545 (h : a := by
 exact TL.nil (zq2546)) : a := h
theorem zq2535 (h : a := by
 exact TF.nil (zq2536)) : a := h
theorem zq2496 (h : a := by
 exact TL.nil (zq2497)) : a := h
theorem zq2486 (h : a := by
 exact TC.seq (zq2487)) : a := h
theorem zq2485 (h : a := by
 exact TC.seq (zq2486)) : a := h
theorem zq2610 (h : a := by
 exact TL.nil (zq2611)) : a := h
theorem zq2481 (h : a := by
 exact TL.nil (zq2482)) : a := h
theorem zq2472 (h : a := by
 exact TC.seq (zq2473)) : a := h
theorem zq2470 (h : a := by
 exact TF.nil (zq2471)) : a := h
theorem zq28 (h : a := by
 exact TC.region (zq29)) : a := h
theorem zq23 (h : a := by
 exact TC.region (zq24)) : a := h
theorem zq57 (h : a := by
 exact TC.region (zq58)) : a := h
theorem zq93 (h : a := by
 exact TC.region (zq94)) : a := h
theorem zq152 (h : a := by
 exact TX.thenR (zq153)) : a := h
theorem zq151 (h : a := by
 exact TX.thenR (zq152)) : a := h
theorem zq124 (h : a := by
 exact TC.block (zq125)) : a := h
theorem zq174 (h : a := by
 exact TX.thenE (zq175)) : a := h
theorem zq173 (h : a := by
 exact TX.thenE (zq174)) : a := h
theorem zq109 (h : a := by
 exact TC.block (zq110)) : a := h
theorem zq193 (h : a := by
 exact TX.thenR (zq194)) : a := h
theorem zq245 (h : a := by
 exact TX.thenR (zq246)) : a := h
theorem zq260 (h : a := by
 exact TX.thenR (zq261)) : a := h
theorem zq258 (h : a := by
 exact TX.thenR (zq259)) : a := h
theorem zq257 (h : a := by
 exact TX.thenR (zq258)) : a := h
theorem zq255 (h : a := by
 exact TX.thenR (zq256)) : a := h
theorem zq254 (h : a := by
 exact TX.thenR (zq255)) : a := h
theorem zq293 (h : a := by
 exact TX.thenR (zq294)) : a := h
theorem zq291 (h : a := by
 exact TX.thenR (zq292)) : a := h
theorem zq290 (h : a := by
 exact TX.thenR (zq291)) : a := h
theorem zq306 (h : a := by
 exact TX.thenE (zq307)) : a := h
theorem zq305 (h : a := by
 exact TX.thenE (zq306)) : a := h
theorem zq339 (h : a := by
 exact TX.thenR (zq340)) : a := h
theorem zq399 (h : a := by
 exact TX.thenR (zq400)) : a := h
theorem zq479 (h : a := by
 exact TX.thenR (zq480)) : a := h
theorem zq552 (h : a := by
 exact TX.thenR (zq521)) : a := h
theorem zq580 (h : a := by
 exact TC.block (zq581)) : a := h
theorem zq605 (h : a := by
 exact TX.thenE (zq606)) : a := h
theorem zq604 (h : a := by
 exact TX.thenE (zq605)) : a := h
theorem zq650 (h : a := by
 exact TC.block (zq651)) : a := h
theorem zq666 (h : a := by
 exact TX.thenE (zq667)) : a := h
theorem zq665 (h : a := by
 exact TX.thenE (zq666)) : a := h
theorem zq633 (h : a := by
 exact TC.block (zq634)) : a := h
theorem zq729 (h : a := by
 exact TX.thenR (zq730)) : a := h
theorem zq727 (h : a := by
 exact TX.thenR (zq728)) : a := h
theorem zq726 (h : a := by
 exact TX.thenR (zq727)) : a := h
theorem zq754 (h : a := by
 exact TX.thenR (zq755)) : a := h
theorem zq752 (h : a := by
 exact TX.thenR (zq753)) : a := h
theorem zq751 (h : a := by
 exact TX.thenR (zq752)) : a := h
theorem zq749 (h : a := by
 exact TX.thenR (zq750)) : a := h
theorem zq877 (h : a := by
 exact TX.thenR (zq878)) : a := h
theorem zq887 (h : a := by
 exact TX.thenR (zq888)) : a := h
theorem zq886 (h : a := by
 exact TX.thenR (zq887)) : a := h
theorem zq938 (h : a := by
 exact TX.thenR (zq939)) : a := h
theorem zq936 (h : a := by
 exact TX.thenR (zq937)) : a := h
theorem zq935 (h : a := by
 exact TX.thenR (zq936)) : a := h
theorem zq910 (h : a := by
 exact TC.block (zq911)) : a := h
theorem zq952 (h : a := by
 exact TC.block (zq953)) : a := h
theorem zq1000 (h : a := by
 exact TX.seqN (zq1001)) : a := h
theorem zq999 (h : a := by
 exact TX.blkN (zq1000)) : a := h
theorem zq1013 (h : a := by
 exact TX.seqN (zq1014)) : a := h
theorem zq1008 (h : a := by
 exact TX.seqN (zq1009)) : a := h
theorem zq1007 (h : a := by
 exact TC.skip (zq1008)) : a := h
theorem zq1046 (h : a := by
 exact TX.blkR (zq1047)) : a := h
theorem zq1044 (h : a := by
 exact TX.seqN (zq1045)) : a := h
theorem zq1065 (h : a := by
 exact TX.blkR (zq1066)) : a := h
theorem zq1062 (h : a := by
 exact TX.blkR (zq1063)) : a := h
theorem zq1060 (h : a := by
 exact TX.seqN (zq1061)) : a := h
theorem zq1078 (h : a := by
 exact TX.seqN (zq1079)) : a := h
theorem zq1074 (h : a := by
 exact TC.exit (zq1075)) : a := h
theorem zq1093 (h : a := by
 exact TX.seqN (zq1094)) : a := h
theorem zq1092 (h : a := by
 exact TX.blkN (zq1093)) : a := h
theorem zq1090 (h : a := by
 exact TF.back (zq1091)) : a := h
theorem zq1088 (h : a := by
 exact TF.loud (zq1089)) : a := h
theorem zq1086 (h : a := by
 exact TF.back (zq1087)) : a := h
theorem zq1084 (h : a := by
 exact TF.loud (zq1085)) : a := h
theorem zq1102 (h : a := by
 exact TX.seqN (zq1103)) : a := h
theorem zq1149 (h : a := by
 exact TX.seqN (zq1150)) : a := h
theorem zq1136 (h : a := by
 exact TX.seqN (zq1137)) : a := h
theorem zq1135 (h : a := by
 exact TC.skip (zq1136)) : a := h
theorem zq1177 (h : a := by
 exact TX.seqN (zq1178)) : a := h
theorem zq1176 (h : a := by
 exact TC.skip (zq1177)) : a := h
theorem zq1166 (h : a := by
 exact TX.seqN (zq1167)) : a := h
theorem zq1159 (h : a := by
 exact TX.seqN (zq1160)) : a := h
theorem zq1155 (h : a := by
 exact TC.exit (zq1156)) : a := h
theorem zq1125 (h : a := by
 exact TX.seqN (zq1126)) : a := h
theorem zq1120 (h : a := by
 exact TX.seqN (zq1121)) : a := h
theorem zq1187 (h : a := by
 exact TX.seqN (zq1188)) : a := h
theorem zq1193 (h : a := by
 exact TX.seqN (zq1194)) : a := h
theorem zq1213 (h : a := by
 exact TX.blkR (zq1214)) : a := h
theorem zq1211 (h : a := by
 exact TX.seqN (zq1212)) : a := h
theorem zq1233 (h : a := by
 exact TX.blkR (zq1234)) : a := h
theorem zq1231 (h : a := by
 exact TX.seqN (zq1232)) : a := h
theorem zq1256 (h : a := by
 exact TX.seqN (zq1257)) : a := h
theorem zq1255 (h : a := by
 exact TX.blkN (zq1256)) : a := h
theorem zq1349 (h : a := by
 exact TX.seqN (zq1350)) : a := h
theorem zq1348 (h : a := by
 exact TX.blkN (zq1349)) : a := h
theorem zq1347 (h : a := by
 exact TC.skip (zq1348)) : a := h
theorem zq1345 (h : a := by
 exact TX.seqN (zq1346)) : a := h
theorem zq1416 (h : a := by
 exact TX.blkR (zq1417)) : a := h
theorem zq1413 (h : a := by
 exact TX.blkR (zq1414)) : a := h
theorem zq1411 (h : a := by
 exact TX.seqN (zq1412)) : a := h
theorem zq1422 (h : a := by
 exact TX.seqN (zq1423)) : a := h
theorem zq1421 (h : a := by
 exact TX.blkN (zq1422)) : a := h
theorem zq1420 (h : a := by
 exact TC.skip (zq1421)) : a := h
theorem zq1403 (h : a := by
 exact TX.seqN (zq1404)) : a := h
theorem zq1388 (h : a := by
 exact TX.seqN (zq1389)) : a := h
theorem zq1387 (h : a := by
 exact TC.skip (zq1388)) : a := h
theorem zq1451 (h : a := by
 exact TX.seqN (zq1452)) : a := h
theorem zq1484 (h : a := by
 exact TX.seqN (zq1485)) : a := h
theorem zq1472 (h : a := by
 exact TX.seqN (zq1473)) : a := h
theorem zq1457 (h : a := by
 exact TX.seqN (zq1458)) : a := h
theorem zq1456 (h : a := by
 exact TC.skip (zq1457)) : a := h
theorem zq1444 (h : a := by
 exact TX.seqN (zq1445)) : a := h
theorem zq1433 (h : a := by
 exact TX.seqN (zq1434)) : a := h
theorem zq1429 (h : a := by
 exact TC.exit (zq1430)) : a := h
theorem zq1384 (h : a := by
 exact TX.seqN (zq1385)) : a := h
theorem zq1369 (h : a := by
 exact TX.seqN (zq1370)) : a := h
theorem zq1361 (h : a := by
 exact TX.seqN (zq1362)) : a := h
theorem zq1357 (h : a := by
 exact TC.exit (zq1358)) : a := h
theorem zq1510 (h : a := by
 exact TX.blkR (zq1511)) : a := h
theorem zq1507 (h : a := by
 exact TX.blkR (zq1508)) : a := h
theorem zq1504 (h : a := by
 exact TX.seqN (zq1505)) : a := h
theorem zq1496 (h : a := by
 exact TX.seqN (zq1497)) : a := h
theorem zq1528 (h : a := by
 exact TX.seqN (zq1529)) : a := h
theorem zq1560 (h : a := by
 exact TX.seqN (zq1561)) : a := h
theorem zq1550 (h : a := by
 exact TX.seqN (zq1551)) : a := h
theorem zq1541 (h : a := by
 exact TX.seqN (zq1542)) : a := h
theorem zq1532 (h : a := by
 exact TX.seqN (zq1533)) : a := h
theorem zq1531 (h : a := by
 exact TC.skip (zq1532)) : a := h
theorem zq1521 (h : a := by
 exact TX.seqN (zq1522)) : a := h
theorem zq1573 (h : a := by
 exact TX.seqN (zq1574)) : a := h
theorem zq1595 (h : a := by
 exact TX.seqN (zq1596)) : a := h
theorem zq1665 (h : a := by
 exact TX.blkR (zq1666)) : a := h
theorem zq1662 (h : a := by
 exact TX.blkR (zq1663)) : a := h
theorem zq1660 (h : a := by
 exact TX.seqN (zq1661)) : a := h
theorem zq1671 (h : a := by
 exact TX.seqN (zq1672)) : a := h
theorem zq1670 (h : a := by
 exact TX.blkN (zq1671)) : a := h
theorem zq1669 (h : a := by
 exact TC.skip (zq1670)) : a := h
theorem zq1652 (h : a := by
 exact TX.seqN (zq1653)) : a := h
theorem zq1646 (h : a := by
 exact TX.seqN (zq1647)) : a := h
theorem zq1622 (h : a := by
 exact TX.seqN (zq1623)) : a := h
theorem zq1621 (h : a := by
 exact TC.skip (zq1622)) : a := h
theorem zq1784 (h : a := by
 exact TX.blkR (zq1785)) : a := h
theorem zq1781 (h : a := by
 exact TX.blkR (zq1782)) : a := h
theorem zq1778 (h : a := by
 exact TX.seqN (zq1779)) : a := h
theorem zq1813 (h : a := by
 exact TX.seqN (zq1814)) : a := h
theorem zq1812 (h : a := by
 exact TX.blkN (zq1813)) : a := h
theorem zq1810 (h : a := by
 exact TF.back (zq1811)) : a := h
theorem zq1808 (h : a := by
 exact TF.loud (zq1809)) : a := h
theorem zq1790 (h : a := by
 exact TX.seqN (zq1791)) : a := h
theorem zq1789 (h : a := by
 exact TC.skip (zq1790)) : a := h
theorem zq1769 (h : a := by
 exact TX.seqN (zq1770)) : a := h
theorem zq1762 (h : a := by
 exact TX.seqN (zq1763)) : a := h
theorem zq1749 (h : a := by
 exact TX.seqN (zq1750)) : a := h
theorem zq1718 (h : a := by
 exact TX.seqN (zq1719)) : a := h
theorem zq1717 (h : a := by
 exact TC.skip (zq1718)) : a := h
theorem zq1833 (h : a := by
 exact TX.seqN (zq1834)) : a := h
theorem zq1824 (h : a := by
 exact TX.seqN (zq1825)) : a := h
theorem zq1820 (h : a := by
 exact TC.exit (zq1821)) : a := h
theorem zq1714 (h : a := by
 exact TX.seqN (zq1715)) : a := h
theorem zq1699 (h : a := by
 exact TX.seqN (zq1700)) : a := h
theorem zq1693 (h : a := by
 exact TX.seqN (zq1694)) : a := h
theorem zq1682 (h : a := by
 exact TX.seqN (zq1683)) : a := h
theorem zq1678 (h : a := by
 exact TC.exit (zq1679)) : a := h
theorem zq1618 (h : a := by
 exact TX.seqN (zq1619)) : a := h
theorem zq1606 (h : a := by
 exact TX.seqN (zq1607)) : a := h
theorem zq1600 (h : a := by
 exact TX.seqN (zq1601)) : a := h
theorem zq1599 (h : a := by
 exact TC.skip (zq1600)) : a := h
theorem zq1587 (h : a := by
 exact TX.seqN (zq1588)) : a := h
theorem zq1578 (h : a := by
 exact TX.seqN (zq1579)) : a := h
theorem zq1577 (h : a := by
 exact TC.skip (zq1578)) : a := h
theorem zq1846 (h : a := by
 exact TX.blkR (zq1847)) : a := h
theorem zq1843 (h : a := by
 exact TX.blkR (zq1844)) : a := h
theorem zq1841 (h : a := by
 exact TX.seqN (zq1842)) : a := h
theorem zq1853 (h : a := by
 exact TX.seqN (zq1854)) : a := h
theorem zq1917 (h : a := by
 exact TX.blkR (zq1906)) : a := h
theorem zq1914 (h : a := by
 exact TX.blkR (zq1915)) : a := h
theorem zq1912 (h : a := by
 exact TX.seqN (zq1913)) : a := h
theorem zq1925 (h : a := by
 exact TX.seqN (zq1926)) : a := h
theorem zq1956 (h : a := by
 exact TX.seqN (zq1957)) : a := h
theorem zq1988 (h : a := by
 exact TX.blkR (zq1989)) : a := h
theorem zq1985 (h : a := by
 exact TX.blkR (zq1986)) : a := h
theorem zq1982 (h : a := by
 exact TX.seqN (zq1983)) : a := h
theorem zq2002 (h : a := by
 exact TX.seqN (zq2003)) : a := h
theorem zq2001 (h : a := by
 exact TX.blkN (zq2002)) : a := h
theorem zq1993 (h : a := by
 exact TX.seqN (zq1994)) : a := h
theorem zq1992 (h : a := by
 exact TC.skip (zq1993)) : a := h
theorem zq1972 (h : a := by
 exact TX.seqN (zq1973)) : a := h
theorem zq1965 (h : a := by
 exact TX.seqN (zq1966)) : a := h
theorem zq1962 (h : a := by
 exact TF.back (zq1963)) : a := h
theorem zq1960 (h : a := by
 exact TF.loud (zq1961)) : a := h
theorem zq2024 (h : a := by
 exact TX.seqN (zq2025)) : a := h
theorem zq2022 (h : a := by
 exact TF.back (zq2023)) : a := h
theorem zq2020 (h : a := by
 exact TF.loud (zq2021)) : a := h
theorem zq2056 (h : a := by
 exact TX.blkN (zq2057)) : a := h
theorem zq2049 (h : a := by
 exact TX.seqN (zq2050)) : a := h
theorem zq2082 (h : a := by
 exact TX.blkN (zq2083)) : a := h
theorem zq2269 (h : a := by
 exact TX.blkN (zq2270)) : a := h
theorem zq2234 (h : a := by
 exact TX.seqN (zq2235)) : a := h
theorem zq2222 (h : a := by
 exact TX.seqN (zq2223)) : a := h
theorem zq2186 (h : a := by
 exact TX.seqN (zq2187)) : a := h
theorem zq2174 (h : a := by
 exact TX.seqN (zq2175)) : a := h
theorem zq2144 (h : a := by
 exact TX.seqN (zq2145)) : a := h
theorem zq2134 (h : a := by
 exact TX.seqN (zq2135)) : a := h
theorem zq2109 (h : a := by
 exact TX.seqN (zq2110)) : a := h
theorem zq2312 (h : a := by
 exact TX.blkN (zq2313)) : a := h
theorem zq2101 (h : a := by
 exact TX.seqN (zq2102)) : a := h
theorem zq2323 (h : a := by
 exact TX.seqN (zq2324)) : a := h
theorem zq2073 (h : a := by
 exact TX.seqN (zq2074)) : a := h
theorem zq2064 (h : a := by
 exact TX.seqN (zq2065)) : a := h
theorem zq2333 (h : a := by
 exact TX.seqN (zq2334)) : a := h
theorem zq2371 (h : a := by
 exact TX.seqN (zq2372)) : a := h
theorem zq2370 (h : a := by
 exact TX.blkN (zq2371)) : a := h
theorem zq2361 (h : a := by
 exact TX.seqN (zq2362)) : a := h
theorem zq2352 (h : a := by
 exact TX.seqN (zq2353)) : a := h
theorem zq2350 (h : a := by
 exact TF.back (zq2351)) : a := h
theorem zq2348 (h : a := by
 exact TF.loud (zq2349)) : a := h
theorem zq2414 (h : a := by
 exact TX.seqN (zq2415)) : a := h
theorem zq2413 (h : a := by
 exact TX.blkN (zq2414)) : a := h
theorem zq2404 (h : a := by
 exact TX.seqN (zq2405)) : a := h
theorem zq2395 (h : a := by
 exact TX.seqN (zq2396)) : a := h
theorem zq2393 (h : a := by
 exact TF.back (zq2394)) : a := h
theorem zq2391 (h : a := by
 exact TF.loud (zq2392)) : a := h
theorem zq2424 (h : a := by
 exact TX.seqN (zq2425)) : a := h
theorem zq2423 (h : a := by
 exact TX.blkN (zq2424)) : a := h
theorem zq2459 (h : a := by
 exact TX.seqN (zq2460)) : a := h
theorem zq2458 (h : a := by
 exact TX.blkN (zq2459)) : a := h
theorem zq2454 (h : a := by
 exact TC.exit (zq2455)) : a := h
theorem zq2448 (h : a := by
 exact TX.seqN (zq2449)) : a := h
theorem zq2537 (h : a := by
 exact TX.seqN (zq2538)) : a := h
theorem zq2536 (h : a := by
 exact TX.blkN (zq2537)) : a := h
theorem zq2534 (h : a := by
 exact TF.back (zq2535)) : a := h
theorem zq2532 (h : a := by
 exact TF.loud (zq2533)) : a := h
theorem zq2530 (h : a := by
 exact TF.back (zq2531)) : a := h
theorem zq2528 (h : a := by
 exact TF.loud (zq2529)) : a := h
theorem zq2572 (h : a := by
 exact TF.back (zq2573)) : a := h
theorem zq2570 (h : a := by
 exact TF.loud (zq2571)) : a := h
theorem zq2596 (h : a := by
 exact TF.back (zq2597)) : a := h
theorem zq2594 (h : a := by
 exact TF.loud (zq2595)) : a := h
theorem zq2500 (h : a := by
 exact TX.seqN (zq2501)) : a := h
theorem zq2499 (h : a := by
 exact TC.skip (zq2500)) : a := h
theorem zq2497 (h : a := by
 exact TX.seqN (zq2498)) : a := h
theorem zq2602 (h : a := by
 exact TX.seqN (zq2603)) : a := h
theorem zq2601 (h : a := by
 exact TX.blkN (zq2602)) : a := h
theorem zq2600 (h : a := by
 exact TC.skip (zq2601)) : a := h
theorem zq2482 (h : a := by
 exact TX.seqN (zq2483)) : a := h
theorem zq2471 (h : a := by
 exact TX.seqN (zq2472)) : a := h
theorem zq2469 (h : a := by
 exact TF.back (zq2470)) : a := h
theorem zq2467 (h : a := by
 exact TF.loud (zq2468)) : a := h
theorem zq8 (h : a := by
 refine zm0 ?_
 exact zq9) : a := h
theorem zq7 (h : a := by
 refine zm0 ?_
 exact zq8) : a := h
theorem zq2 (h : a := by
 refine zm0 ?_
 exact zq3) : a := h
theorem zq145 (h : a := by
 exact TC.region (zq146)) : a := h
theorem zq157 (h : a := by
 exact TC.region (zq158)) : a := h
theorem zq126 (h : a := by
 exact TC.region (zq127)) : a := h
theorem zq178 (h : a := by
 exact TC.region (zq179)) : a := h
theorem zq175 (h : a := by
 exact TX.blkHit (zq176)) : a := h
theorem zq113 (h : a := by
 exact TC.region (zq114)) : a := h
theorem zq105 (h : a := by
 exact TC.region (zq106)) : a := h
theorem zq184 (h : a := by
 exact TC.region (zq185)) : a := h
theorem zq187 (h : a := by
 exact TC.region (zq188)) : a := h
theorem zq240 (h : a := by
 exact TC.region (zq241)) : a := h
theorem zq249 (h : a := by
 exact TC.region (zq250)) : a := h
theorem zq278 (h : a := by
 exact TC.region (zq279)) : a := h
theorem zq284 (h : a := by
 exact TC.region (zq285)) : a := h
theorem zq310 (h : a := by
 exact TC.region (zq311)) : a := h
theorem zq307 (h : a := by
 exact TX.blkHit (zq308)) : a := h
theorem zq298 (h : a := by
 exact TC.region (zq299)) : a := h
theorem zq334 (h : a := by
 exact TC.region (zq335)) : a := h
theorem zq345 (h : a := by
 exact TC.region (zq346)) : a := h
theorem zq378 (h : a := by
 exact TC.region (zq379)) : a := h
theorem zq372 (h : a := by
 exact TC.region (zq373)) : a := h
theorem zq365 (h : a := by
 exact TC.region (zq366)) : a := h
theorem zq355 (h : a := by
 exact TC.region (zq356)) : a := h
theorem zq386 (h : a := by
 exact TC.region (zq358)) : a := h
theorem zq387 (h : a := by
 exact TC.region (zq388)) : a := h
theorem zq424 (h : a := by
 exact TC.region (zq395)) : a := h
theorem zq474 (h : a := by
 exact TC.region (zq475)) : a := h
theorem zq547 (h : a := by
 exact TC.region (zq548)) : a := h
theorem zq560 (h : a := by
 exact TC.region (zq561)) : a := h
theorem zq598 (h : a := by
 exact TC.region (zq599)) : a := h
theorem zq589 (h : a := by
 exact TC.region (zq590)) : a := h
theorem zq582 (h : a := by
 exact TC.region (zq583)) : a := h
theorem zq609 (h : a := by
 exact TC.region (zq610)) : a := h
theorem zq606 (h : a := by
 exact TX.blkHit (zq607)) : a := h
theorem zq568 (h : a := by
 exact TC.region (zq569)) : a := h
theorem zq659 (h : a := by
 exact TC.region (zq660)) : a := h
theorem zq652 (h : a := by
 exact TC.region (zq653)) : a := h
theorem zq670 (h : a := by
 exact TC.region (zq671)) : a := h
theorem zq667 (h : a := by
 exact TX.blkHit (zq668)) : a := h
theorem zq638 (h : a := by
 exact TC.region (zq639)) : a := h
theorem zq626 (h : a := by
 exact TC.region (zq627)) : a := h
theorem zq616 (h : a := by
 exact TC.region (zq617)) : a := h
theorem zq674 (h : a := by
 exact TC.region (zq675)) : a := h
theorem zq687 (h : a := by
 exact TC.region (zq688)) : a := h
theorem zq708 (h : a := by
 exact TC.region (zq709)) : a := h
theorem zq719 (h : a := by
 exact TC.region (zq720)) : a := h
theorem zq735 (h : a := by
 exact TC.region (zq736)) : a := h
theorem zq761 (h : a := by
 exact TC.region (zq762)) : a := h
theorem zq785 (h : a := by
 exact TC.region (zq786)) : a := h
theorem zq805 (h : a := by
 exact TC.region (zq806)) : a := h
theorem zq819 (h : a := by
 exact TC.region (zq820)) : a := h
theorem zq856 (h : a := by
 exact TC.region (zq857)) : a := h
theorem zq845 (h : a := by
 exact TC.region (zq846)) : a := h
theorem zq838 (h : a := by
 exact TC.region (zq839)) : a := h
theorem zq833 (h : a := by
 exact TC.region (zq834)) : a := h
theorem zq880 (h : a := by
 exact TC.region (zq881)) : a := h
theorem zq894 (h : a := by
 exact TC.region (zq895)) : a := h
theorem zq929 (h : a := by
 exact TC.region (zq930)) : a := h
theorem zq943 (h : a := by
 exact TC.region (zq944)) : a := h
theorem zq919 (h : a := by
 exact TC.region (zq920)) : a := h
theorem zq912 (h : a := by
 exact TC.region (zq913)) : a := h
theorem zq966 (h : a := by
 exact TC.region (zq967)) : a := h
theorem zq954 (h : a := by
 exact TC.region (zq955)) : a := h
theorem zq981 (h : a := by
 exact TC.region (zq982)) : a := h
theorem zq1047 (h : a := by
 exact TX.thenR (zq1048)) : a := h
theorem zq1066 (h : a := by
 exact TX.thenR (zq1067)) : a := h
theorem zq1064 (h : a := by
 exact TX.thenR (zq1065)) : a := h
theorem zq1063 (h : a := by
 exact TX.thenR (zq1064)) : a := h
theorem zq1076 (h : a := by
 exact TX.thenE (zq1077)) : a := h
theorem zq1075 (h : a := by
 exact TX.thenE (zq1076)) : a := h
theorem zq1137 (h : a := by
 exact TC.block (zq1138)) : a := h
theorem zq1157 (h : a := by
 exact TX.thenE (zq1158)) : a := h
theorem zq1156 (h : a := by
 exact TX.thenE (zq1157)) : a := h
theorem zq1127 (h : a := by
 exact TC.block (zq1128)) : a := h
theorem zq1214 (h : a := by
 exact TX.thenR (zq1215)) : a := h
theorem zq1234 (h : a := by
 exact TX.thenR (zq1235)) : a := h
theorem zq1332 (h : a := by
 exact TX.thenR (zq1333)) : a := h
theorem zq1417 (h : a := by
 exact TX.thenR (zq1418)) : a := h
theorem zq1415 (h : a := by
 exact TX.thenR (zq1416)) : a := h
theorem zq1414 (h : a := by
 exact TX.thenR (zq1415)) : a := h
theorem zq1390 (h : a := by
 exact TC.block (zq1391)) : a := h
theorem zq1453 (h : a := by
 exact TX.thenR (zq1454)) : a := h
theorem zq1431 (h : a := by
 exact TX.thenE (zq1432)) : a := h
theorem zq1430 (h : a := by
 exact TX.thenE (zq1431)) : a := h
theorem zq1370 (h : a := by
 exact TC.block (zq1371)) : a := h
theorem zq1359 (h : a := by
 exact TX.thenE (zq1360)) : a := h
theorem zq1358 (h : a := by
 exact TX.thenE (zq1359)) : a := h
theorem zq1511 (h : a := by
 exact TX.thenR (zq1512)) : a := h
theorem zq1509 (h : a := by
 exact TX.thenR (zq1510)) : a := h
theorem zq1508 (h : a := by
 exact TX.thenR (zq1509)) : a := h
theorem zq1506 (h : a := by
 exact TX.thenR (zq1507)) : a := h
theorem zq1597 (h : a := by
 exact TX.thenR (zq1598)) : a := h
theorem zq1666 (h : a := by
 exact TX.thenR (zq1667)) : a := h
theorem zq1664 (h : a := by
 exact TX.thenR (zq1665)) : a := h
theorem zq1663 (h : a := by
 exact TX.thenR (zq1664)) : a := h
theorem zq1636 (h : a := by
 subst eH67
 exact zq1637) : a := h
theorem zq1624 (h : a := by
 exact TC.block (zq1625)) : a := h
theorem zq1785 (h : a := by
 exact TX.thenR (zq1786)) : a := h
theorem zq1783 (h : a := by
 exact TX.thenR (zq1784)) : a := h
theorem zq1782 (h : a := by
 exact TX.thenR (zq1783)) : a := h
theorem zq1780 (h : a := by
 exact TX.thenR (zq1781)) : a := h
theorem zq1732 (h : a := by
 subst eH90
 exact zq1733) : a := h
theorem zq1720 (h : a := by
 exact TC.block (zq1721)) : a := h
theorem zq1822 (h : a := by
 exact TX.thenE (zq1823)) : a := h
theorem zq1821 (h : a := by
 exact TX.thenE (zq1822)) : a := h
theorem zq1700 (h : a := by
 exact TC.block (zq1701)) : a := h
theorem zq1680 (h : a := by
 exact TX.thenE (zq1681)) : a := h
theorem zq1679 (h : a := by
 exact TX.thenE (zq1680)) : a := h
theorem zq1607 (h : a := by
 exact TC.block (zq1608)) : a := h
theorem zq1847 (h : a := by
 exact TX.thenR (zq1848)) : a := h
theorem zq1845 (h : a := by
 exact TX.thenR (zq1846)) : a := h
theorem zq1844 (h : a := by
 exact TX.thenR (zq1845)) : a := h
theorem zq1906 (h : a := by
 exact TX.thenR (zq1907)) : a := h
theorem zq1916 (h : a := by
 exact TX.thenR (zq1917)) : a := h
theorem zq1915 (h : a := by
 exact TX.thenR (zq1916)) : a := h
theorem zq1958 (h : a := by
 exact TX.thenR (zq1959)) : a := h
theorem zq1989 (h : a := by
 exact TX.thenR (zq1990)) : a := h
theorem zq1987 (h : a := by
 exact TX.thenR (zq1988)) : a := h
theorem zq1986 (h : a := by
 exact TX.thenR (zq1987)) : a := h
theorem zq1984 (h : a := by
 exact TX.thenR (zq1985)) : a := h
theorem zq2456 (h : a := by
 exact TX.thenE (zq2457)) : a := h
theorem zq2455 (h : a := by
 exact TX.thenE (zq2456)) : a := h
theorem zq15 (h : a := by
 refine zm0 ?_
 exact zq16) : a := h
theorem zq14 (h : a := by
 refine zm0 ?_
 exact zq15) : a := h
theorem zq13 (h : a := by
 refine zm8 ?_
 exact zq14) : a := h
theorem zq12 (h : a := by
 refine zm8 ?_
 exact zq13) : a := h
theorem zq21 (h : a := by
 refine zm1 ?_
 exact zq14) : a := h
theorem zq20 (h : a := by
 refine zm1 ?_
 exact zq21) : a := h
theorem zq9 (h : a := by
 refine zm0 ?_
 exact zq10) : a := h
theorem zq37 (h : a := by
 refine zm0 ?_
 exact zq38) : a := h
theorem zq36 (h : a := by
 refine zm0 ?_
 exact zq37) : a := h
theorem zq35 (h : a := by
 refine zm8 ?_
 exact zq36) : a := h
theorem zq34 (h : a := by
 refine zm8 ?_
 exact zq35) : a := h
theorem zq43 (h : a := by
 refine zm1 ?_
 exact zq36) : a := h
theorem zq42 (h : a := by
 refine zm1 ?_
 exact zq43) : a := h
theorem zq31 (h : a := by
 refine zm0 ?_
 exact zq32) : a := h
theorem zq30 (h : a := by
 refine zm0 ?_
 exact zq31) : a := h
theorem zq29 (h : a := by
 refine zm0 ?_
 exact zq30) : a := h
theorem zq24 (h : a := by
 refine zm0 ?_
 exact zq25) : a := h
theorem zq58 (h : a := by
 refine zm0 ?_
 exact zq59) : a := h
theorem zq94 (h : a := by
 refine zm0 ?_
 exact zq95) : a := h
theorem zq88 (h : a := by
 refine zm0 ?_
 exact zq89) : a := h
theorem zq87 (h : a := by
 refine zm1 ?_
 exact zq88) : a := h
theorem zq86 (h : a := by
 refine zm1 ?_
 exact zq87) : a := h
theorem zq85 (h : a := by
 refine zm0 ?_
 exact zq86) : a := h
theorem zq84 (h : a := by
 refine zm0 ?_
 exact zq85) : a := h
theorem zq83 (h : a := by
 refine zm1 ?_
 exact zq84) : a := h
theorem zq82 (h : a := by
 refine zm1 ?_
 exact zq83) : a := h
theorem zq81 (h : a := by
 refine zm1 ?_
 exact zq82) : a := h
theorem zq80 (h : a := by
 refine zm1 ?_
 exact zq81) : a := h
theorem zq79 (h : a := by
 refine zm0 ?_
 exact zq80) : a := h
theorem zq78 (h : a := by
 refine zm0 ?_
 exact zq79) : a := h
theorem zq77 (h : a := by
 refine zm1 ?_
 exact zq78) : a := h
theorem zq76 (h : a := by
 refine zm1 ?_
 exact zq77) : a := h
theorem zq75 (h : a := by
 refine zm1 ?_
 exact zq76) : a := h
theorem zq1001 (h : a := by
 exact TC.region (zq1002)) : a := h
theorem zq1010 (h : a := by
 exact TC.region (zq1011)) : a := h
theorem zq1056 (h : a := by
 exact TC.region (zq1057)) : a := h
theorem zq1080 (h : a := by
 exact TC.region (zq1081)) : a := h
theorem zq1077 (h : a := by
 exact TX.blkHit (zq1078)) : a := h
theorem zq1094 (h : a := by
 exact TC.region (zq1095)) : a := h
theorem zq1150 (h : a := by
 exact TC.region (zq1151)) : a := h
theorem zq1139 (h : a := by
 exact TC.region (zq1140)) : a := h
theorem zq1169 (h : a := by
 exact TC.region (zq1170)) : a := h
theorem zq1179 (h : a := by
 exact TC.region (zq1180)) : a := h
theorem zq1162 (h : a := by
 exact TC.region (zq1163)) : a := h
theorem zq1158 (h : a := by
 exact TX.blkHit (zq1159)) : a := h
theorem zq1122 (h : a := by
 exact TC.region (zq1123)) : a := h
theorem zq1184 (h : a := by
 exact TC.region (zq1185)) : a := h
theorem zq1257 (h : a := by
 exact TC.region (zq1258)) : a := h
theorem zq1350 (h : a := by
 exact TC.region (zq1351)) : a := h
theorem zq1406 (h : a := by
 exact TC.region (zq1407)) : a := h
theorem zq1423 (h : a := by
 exact TC.region (zq1424)) : a := h
theorem zq1392 (h : a := by
 exact TC.region (zq1393)) : a := h
theorem zq1447 (h : a := by
 exact TC.region (zq1448)) : a := h
theorem zq1474 (h : a := by
 exact TC.region (zq1475)) : a := h
theorem zq1459 (h : a := by
 exact TC.region (zq1460)) : a := h
theorem zq1436 (h : a := by
 exact TC.region (zq1437)) : a := h
theorem zq1432 (h : a := by
 exact TX.blkHit (zq1433)) : a := h
theorem zq1375 (h : a := by
 exact TC.region (zq1376)) : a := h
theorem zq1364 (h : a := by
 exact TC.region (zq1365)) : a := h
theorem zq1360 (h : a := by
 exact TX.blkHit (zq1361)) : a := h
theorem zq1499 (h : a := by
 exact TC.region (zq1500)) : a := h
theorem zq1524 (h : a := by
 exact TC.region (zq1525)) : a := h
theorem zq1552 (h : a := by
 exact TC.region (zq1553)) : a := h
theorem zq1543 (h : a := by
 exact TC.region (zq1544)) : a := h
theorem zq1534 (h : a := by
 exact TC.region (zq1535)) : a := h
theorem zq1590 (h : a := by
 exact TC.region (zq1591)) : a := h
theorem zq1655 (h : a := by
 exact TC.region (zq1656)) : a := h
theorem zq1672 (h : a := by
 exact TC.region (zq1673)) : a := h
theorem zq1648 (h : a := by
 exact TC.region (zq1649)) : a := h
theorem zq1626 (h : a := by
 exact TC.region (zq1627)) : a := h
theorem zq1772 (h : a := by
 exact TC.region (zq1773)) : a := h
theorem zq1814 (h : a := by
 exact TC.region (zq1815)) : a := h
theorem zq1765 (h : a := by
 exact TC.region (zq1766)) : a := h
theorem zq1751 (h : a := by
 exact TC.region (zq1752)) : a := h
theorem zq1722 (h : a := by
 exact TC.region (zq1723)) : a := h
theorem zq1826 (h : a := by
 exact TC.region (zq1827)) : a := h
theorem zq1823 (h : a := by
 exact TX.blkHit (zq1824)) : a := h
theorem zq1708 (h : a := by
 exact TC.region (zq1709)) : a := h
theorem zq1696 (h : a := by
 exact TC.region (zq1697)) : a := h
theorem zq1684 (h : a := by
 exact TC.region (zq1685)) : a := h
theorem zq1681 (h : a := by
 exact TX.blkHit (zq1682)) : a := h
theorem zq1612 (h : a := by
 exact TC.region (zq1613)) : a := h
theorem zq1603 (h : a := by
 exact TC.region (zq1604)) : a := h
theorem zq1581 (h : a := by
 exact TC.region (zq1582)) : a := h
theorem zq1909 (h : a := by
 exact TC.region (zq1910)) : a := h
theorem zq1926 (h : a := by
 exact TC.region (zq1927)) : a := h
theorem zq1951 (h : a := by
 exact TC.region (zq1952)) : a := h
theorem zq1975 (h : a := by
 exact TC.region (zq1976)) : a := h
theorem zq2003 (h : a := by
 exact TC.region (zq2004)) : a := h
theorem zq1994 (h : a := by
 exact TC.region (zq1995)) : a := h
theorem zq1968 (h : a := by
 exact TC.region (zq1969)) : a := h
theorem zq2025 (h : a := by
 exact TC.region (zq2026)) : a := h
theorem zq2051 (h : a := by
 exact TC.region (zq2052)) : a := h
theorem zq2075 (h : a := by
 exact TC.region (zq2076)) : a := h
theorem zq2224 (h : a := by
 exact TC.region (zq2225)) : a := h
theorem zq2176 (h : a := by
 exact TC.region (zq2177)) : a := h
theorem zq2136 (h : a := by
 exact TC.region (zq2137)) : a := h
theorem zq2111 (h : a := by
 exact TC.region (zq2112)) : a := h
theorem zq2104 (h : a := by
 exact TC.region (zq2105)) : a := h
theorem zq2085 (h : a := by
 exact TC.region (zq2086)) : a := h
theorem zq2067 (h : a := by
 exact TC.region (zq2068)) : a := h
theorem zq2035 (h : a := by
 exact TC.region (zq2036)) : a := h
theorem zq2372 (h : a := by
 exact TC.region (zq2373)) : a := h
theorem zq2363 (h : a := by
 exact TC.region (zq2364)) : a := h
theorem zq2354 (h : a := by
 exact TC.region (zq2355)) : a := h
theorem zq2415 (h : a := by
 exact TC.region (zq2416)) : a := h
theorem zq2406 (h : a := by
 exact TC.region (zq2407)) : a := h
theorem zq2397 (h : a := by
 exact TC.region (zq2398)) : a := h
theorem zq2425 (h : a := by
 exact TC.region (zq2426)) : a := h
theorem zq2460 (h : a := by
 exact TC.region (zq2461)) : a := h
theorem zq2457 (h : a := by
 exact TX.blkHit (zq2458)) : a := h
theorem zq2441 (h : a := by
 exact TC.region (zq2442)) : a := h
theorem zq2538 (h : a := by
 exact TC.region (zq2539)) : a := h
theorem zq2487 (h : a := by
 exact TC.region (zq2488)) : a := h
theorem zq2603 (h : a := by
 exact TC.region (zq2604)) : a := h
theorem zq2473 (h : a := by
 exact TC.region (zq2474)) : a := h
theorem zq54 (h : a := by
 refine zm68 ?_
 exact zq55) : a := h
theorem zq53 (h : a := by
 refine zm68 ?_
 exact zq54) : a := h
theorem zq52 (h : a := by
 refine zm68 ?_
 exact zq53) : a := h
theorem zq51 (h : a := by
 refine zm68 ?_
 exact zq52) : a := h
theorem zq50 (h : a := by
 refine zm68 ?_
 exact zq51) : a := h
theorem zq49 (h : a := by
 refine zm68 ?_
 exact zq50) : a := h
theorem zq48 (h : a := by
 refine zm68 ?_
 exact zq49) : a := h
theorem zq47 (h : a := by
 refine zm68 ?_
 exact zq48) : a := h
theorem zq46 (h : a := by
 refine zm68 ?_
 exact zq47) : a := h
theorem zq45 (h : a := by
 refine zm68 ?_
 exact zq46) : a := h
theorem zq44 (h : a := by
 refine zm68 ?_
 exact zq45) : a := h
theorem zq72 (h : a := by
 refine zm96 ?_
 exact zq73) : a := h
theorem zq71 (h : a := by
 refine zm96 ?_
 exact zq72) : a := h
theorem zq70 (h : a := by
 refine zm96 ?_
 exact zq71) : a := h
theorem zq69 (h : a := by
 refine zm96 ?_
 exact zq70) : a := h
theorem zq68 (h : a := by
 refine zm96 ?_
 exact zq69) : a := h
theorem zq67 (h : a := by
 refine zm96 ?_
 exact zq68) : a := h
theorem zq66 (h : a := by
 refine zm96 ?_
 exact zq67) : a := h
theorem zq65 (h : a := by
 refine zm96 ?_
 exact zq66) : a := h
theorem zq64 (h : a := by
 refine zm96 ?_
 exact zq65) : a := h
theorem zq91 (h : a := by
 exact TC.condT rfl (zq92)) : a := h
theorem zq146 (h : a := by
 refine zm0 ?_
 exact zq147) : a := h
theorem zq160 (h : a := by
 refine zm0 ?_
 exact zq161) : a := h
theorem zq158 (h : a := by
 refine zm0 ?_
 exact zq159) : a := h
theorem zq140 (h : a := by
 refine zm0 ?_
 exact zq141) : a := h
theorem zq139 (h : a := by
 refine zm8 ?_
 exact zq140) : a := h
theorem zq136 (h : a := by
 refine zm8 ?_
 exact zq137) : a := h
theorem zq135 (h : a := by
 refine zm8 ?_
 exact zq136) : a := h
theorem zq168 (h : a := by
 refine zm0 ?_
 exact zq169) : a := h
theorem zq167 (h : a := by
 refine zm1 ?_
 exact zq168) : a := h
theorem zq166 (h : a := by
 refine zm1 ?_
 exact zq167) : a := h
theorem zq165 (h : a := by
 refine zm1 ?_
 exact zq166) : a := h
theorem zq164 (h : a := by
 refine zm1 ?_
 exact zq165) : a := h
theorem zq163 (h : a := by
 refine zm1 ?_
 exact zq164) : a := h
theorem zq133 (h : a := by
 refine zm0 ?_
 exact zq134) : a := h
theorem zq132 (h : a := by
 refine zm0 ?_
 exact zq133) : a := h
theorem zq129 (h : a := by
 refine zm0 ?_
 exact zq130) : a := h
theorem zq128 (h : a := by
 refine zm0 ?_
 exact zq129) : a := h
theorem zq179 (h : a := by
 refine zm0 ?_
 exact zq180) : a := h
theorem zq117 (h : a := by
 refine zm0 ?_
 exact zq118) : a := h
theorem zq115 (h : a := by
 refine zm0 ?_
 exact zq116) : a := h
theorem zq114 (h : a := by
 refine zm0 ?_
 exact zq115) : a := h
theorem zq106 (h : a := by
 refine zm0 ?_
 exact zq107) : a := h
theorem zq188 (h : a := by
 refine zm0 ?_
 exact zq189) : a := h
theorem zq202 (h : a := by
 refine zm0 ?_
 exact zq203) : a := h
theorem zq201 (h : a := by
 refine zm0 ?_
 exact zq202) : a := h
theorem zq210 (h : a := by
 refine zm1 ?_
 exact zq201) : a := h
theorem zq209 (h : a := by
 refine zm1 ?_
 exact zq210) : a := h
theorem zq208 (h : a := by
 refine zm1 ?_
 exact zq209) : a := h
theorem zq211 (h : a := by
 refine zm8 ?_
 exact zq201) : a := h
theorem zq215 (h : a := by
 refine zm1 ?_
 exact zq216) : a := h
theorem zq214 (h : a := by
 refine zm1 ?_
 exact zq215) : a := h
theorem zq213 (h : a := by
 refine zm1 ?_
 exact zq214) : a := h
theorem zq212 (h : a := by
 refine zm1 ?_
 exact zq213) : a := h
theorem zq219 (h : a := by
 refine zm1 ?_
 exact zq208) : a := h
theorem zq221 (h : a := by
 refine zm0 ?_
 exact zq222) : a := h
theorem zq220 (h : a := by
 refine zm0 ?_
 exact zq221) : a := h
theorem zq227 (h : a := by
 refine zm1 ?_
 exact zq220) : a := h
theorem zq226 (h : a := by
 refine zm1 ?_
 exact zq227) : a := h
theorem zq225 (h : a := by
 refine zm1 ?_
 exact zq226) : a := h
theorem zq241 (h : a := by
 refine zm0 ?_
 exact zq242) : a := h
theorem zq235 (h : a := by
 refine zm0 ?_
 exact zq236) : a := h
theorem zq234 (h : a := by
 refine zm1 ?_
 exact zq235) : a := h
theorem zq233 (h : a := by
 refine zm1 ?_
 exact zq234) : a := h
theorem zq232 (h : a := by
 refine zm1 ?_
 exact zq233) : a := h
theorem zq231 (h : a := by
 refine zm0 ?_
 exact zq232) : a := h
theorem zq230 (h : a := by
 refine zm0 ?_
 exact zq231) : a := h
theorem zq229 (h : a := by
 refine zm1 ?_
 exact zq230) : a := h
theorem zq228 (h : a := by
 refine zm1 ?_
 exact zq229) : a := h
theorem zq250 (h : a := by
 refine zm0 ?_
 exact zq251) : a := h
theorem zq279 (h : a := by
 refine zm0 ?_
 exact zq280) : a := h
theorem zq273 (h : a := by
 refine zm0 ?_
 exact zq274) : a := h
theorem zq272 (h : a := by
 refine zm1 ?_
 exact zq273) : a := h
theorem zq271 (h : a := by
 refine zm1 ?_
 exact zq272) : a := h
theorem zq270 (h : a := by
 refine zm1 ?_
 exact zq271) : a := h
theorem zq269 (h : a := by
 refine zm1 ?_
 exact zq270) : a := h
theorem zq268 (h : a := by
 refine zm1 ?_
 exact zq269) : a := h
theorem zq267 (h : a := by
 refine zm1 ?_
 exact zq268) : a := h
theorem zq266 (h : a := by
 refine zm0 ?_
 exact zq267) : a := h
theorem zq265 (h : a := by
 refine zm0 ?_
 exact zq266) : a := h
theorem zq264 (h : a := by
 refine zm1 ?_
 exact zq265) : a := h
theorem zq263 (h : a := by
 refine zm1 ?_
 exact zq264) : a := h
theorem zq262 (h : a := by
 refine zm1 ?_
 exact zq263) : a := h
theorem zq285 (h : a := by
 refine zm0 ?_
 exact zq286) : a := h
theorem zq311 (h : a := by
 refine zm0 ?_
 exact zq312) : a := h
theorem zq299 (h : a := by
 refine zm0 ?_
 exact zq300) : a := h
theorem zq321 (h : a := by
 refine zm0 ?_
 exact zq322) : a := h
theorem zq320 (h : a := by
 refine zm1 ?_
 exact zq321) : a := h
theorem zq319 (h : a := by
 refine zm1 ?_
 exact zq320) : a := h
theorem zq318 (h : a := by
 refine zm1 ?_
 exact zq319) : a := h
theorem zq317 (h : a := by
 refine zm1 ?_
 exact zq318) : a := h
theorem zq316 (h : a := by
 refine zm1 ?_
 exact zq317) : a := h
theorem zq315 (h : a := by
 refine zm1 ?_
 exact zq316) : a := h
theorem zq335 (h : a := by
 refine zm0 ?_
 exact zq336) : a := h
theorem zq329 (h : a := by
 refine zm0 ?_
 exact zq330) : a := h
theorem zq328 (h : a := by
 refine zm1 ?_
 exact zq329) : a := h
theorem zq327 (h : a := by
 refine zm1 ?_
 exact zq328) : a := h
theorem zq326 (h : a := by
 refine zm1 ?_
 exact zq327) : a := h
theorem zq325 (h : a := by
 refine zm1 ?_
 exact zq326) : a := h
theorem zq347 (h : a := by
 refine zm0 ?_
 exact zq348) : a := h
theorem zq346 (h : a := by
 refine zm0 ?_
 exact zq347) : a := h
theorem zq351 (h : a := by
 refine zm0 ?_
 exact zq352) : a := h
theorem zq373 (h : a := by
 refine zm6 ?_
 exact zq374) : a := h
theorem zq366 (h : a := by
 refine zm6 ?_
 exact zq367) : a := h
theorem zq358 (h : a := by
 refine zm6 ?_
 exact zq359) : a := h
theorem zq356 (h : a := by
 refine zm6 ?_
 exact zq357) : a := h
theorem zq390 (h : a := by
 refine zm6 ?_
 exact zq391) : a := h
theorem zq388 (h : a := by
 refine zm6 ?_
 exact zq389) : a := h
theorem zq395 (h : a := by
 refine zm0 ?_
 exact zq396) : a := h
theorem zq394 (h : a := by
 refine zm0 ?_
 exact zq395) : a := h
theorem zq406 (h : a := by
 refine zm1 ?_
 exact zq394) : a := h
theorem zq405 (h : a := by
 refine zm1 ?_
 exact zq406) : a := h
theorem zq404 (h : a := by
 refine zm1 ?_
 exact zq405) : a := h
theorem zq403 (h : a := by
 refine zm1 ?_
 exact zq404) : a := h
theorem zq402 (h : a := by
 refine zm1 ?_
 exact zq403) : a := h
theorem zq401 (h : a := by
 refine zm1 ?_
 exact zq402) : a := h
theorem zq414 (h : a := by
 refine zm0 ?_
 exact zq401) : a := h
theorem zq413 (h : a := by
 refine zm0 ?_
 exact zq414) : a := h
theorem zq412 (h : a := by
 refine zm1 ?_
 exact zq413) : a := h
theorem zq411 (h : a := by
 refine zm1 ?_
 exact zq412) : a := h
theorem zq410 (h : a := by
 refine zm1 ?_
 exact zq411) : a := h
theorem zq409 (h : a := by
 refine zm1 ?_
 exact zq410) : a := h
theorem zq408 (h : a := by
 refine zm1 ?_
 exact zq409) : a := h
theorem zq407 (h : a := by
 refine zm1 ?_
 exact zq408) : a := h
theorem zq422 (h : a := by
 refine zm0 ?_
 exact zq407) : a := h
theorem zq421 (h : a := by
 refine zm0 ?_
 exact zq422) : a := h
theorem zq420 (h : a := by
 refine zm1 ?_
 exact zq421) : a := h
theorem zq419 (h : a := by
 refine zm1 ?_
 exact zq420) : a := h
theorem zq418 (h : a := by
 refine zm1 ?_
 exact zq419) : a := h
theorem zq417 (h : a := by
 refine zm1 ?_
 exact zq418) : a := h
theorem zq416 (h : a := by
 refine zm1 ?_
 exact zq417) : a := h
theorem zq415 (h : a := by
 refine zm1 ?_
 exact zq416) : a := h
theorem zq433 (h : a := by
 refine zm1 ?_
 exact zq434) : a := h
theorem zq428 (h : a := by
 refine zm1 ?_
 exact zq429) : a := h
theorem zq427 (h : a := by
 refine zm1 ?_
 exact zq428) : a := h
theorem zq426 (h : a := by
 refine zm1 ?_
 exact zq427) : a := h
theorem zq425 (h : a := by
 refine zm1 ?_
 exact zq426) : a := h
theorem zq459 (h : a := by
 refine zm8 ?_
 exact zq434) : a := h
theorem zq458 (h : a := by
 refine zm8 ?_
 exact zq459) : a := h
theorem zq464 (h : a := by
 refine zm1 ?_
 exact zq459) : a := h
theorem zq463 (h : a := by
 refine zm1 ?_
 exact zq464) : a := h
theorem zq462 (h : a := by
 refine zm1 ?_
 exact zq463) : a := h
theorem zq461 (h : a := by
 refine zm1 ?_
 exact zq462) : a := h
theorem zq452 (h : a := by
 refine zm8 ?_
 exact zq453) : a := h
theorem zq447 (h : a := by
 refine zm0 ?_
 exact zq448) : a := h
theorem zq446 (h : a := by
 refine zm0 ?_
 exact zq447) : a := h
theorem zq445 (h : a := by
 refine zm8 ?_
 exact zq446) : a := h
theorem zq444 (h : a := by
 refine zm8 ?_
 exact zq445) : a := h
theorem zq472 (h : a := by
 refine zm0 ?_
 exact zq449) : a := h
theorem zq471 (h : a := by
 refine zm0 ?_
 exact zq472) : a := h
theorem zq470 (h : a := by
 refine zm8 ?_
 exact zq471) : a := h
theorem zq469 (h : a := by
 refine zm1 ?_
 exact zq470) : a := h
theorem zq468 (h : a := by
 refine zm1 ?_
 exact zq469) : a := h
theorem zq467 (h : a := by
 refine zm1 ?_
 exact zq468) : a := h
theorem zq466 (h : a := by
 refine zm1 ?_
 exact zq467) : a := h
theorem zq438 (h : a := by
 refine zm8 ?_
 exact zq439) : a := h
theorem zq475 (h : a := by
 refine zm0 ?_
 exact zq476) : a := h
theorem zq515 (h : a := by
 refine zm1 ?_
 exact zq516) : a := h
theorem zq514 (h : a := by
 refine zm1 ?_
 exact zq515) : a := h
theorem zq513 (h : a := by
 refine zm0 ?_
 exact zq514) : a := h
theorem zq512 (h : a := by
 refine zm0 ?_
 exact zq513) : a := h
theorem zq511 (h : a := by
 refine zm1 ?_
 exact zq512) : a := h
theorem zq510 (h : a := by
 refine zm1 ?_
 exact zq511) : a := h
theorem zq509 (h : a := by
 refine zm1 ?_
 exact zq510) : a := h
theorem zq508 (h : a := by
 refine zm1 ?_
 exact zq509) : a := h
theorem zq507 (h : a := by
 refine zm0 ?_
 exact zq508) : a := h
theorem zq506 (h : a := by
 refine zm0 ?_
 exact zq507) : a := h
theorem zq505 (h : a := by
 refine zm1 ?_
 exact zq506) : a := h
theorem zq504 (h : a := by
 refine zm1 ?_
 exact zq505) : a := h
theorem zq503 (h : a := by
 refine zm1 ?_
 exact zq504) : a := h
theorem zq502 (h : a := by
 refine zm1 ?_
 exact zq503) : a := h
theorem zq501 (h : a := by
 refine zm0 ?_
 exact zq502) : a := h
theorem zq500 (h : a := by
 refine zm0 ?_
 exact zq501) : a := h
theorem zq499 (h : a := by
 refine zm1 ?_
 exact zq500) : a := h
theorem zq498 (h : a := by
 refine zm1 ?_
 exact zq499) : a := h
theorem zq497 (h : a := by
 refine zm1 ?_
 exact zq498) : a := h
theorem zq496 (h : a := by
 refine zm1 ?_
 exact zq497) : a := h
theorem zq495 (h : a := by
 refine zm0 ?_
 exact zq496) : a := h
theorem zq494 (h : a := by
 refine zm0 ?_
 exact zq495) : a := h
theorem zq493 (h : a := by
 refine zm1 ?_
 exact zq494) : a := h
theorem zq492 (h : a := by
 refine zm1 ?_
 exact zq493) : a := h
theorem zq491 (h : a := by
 refine zm1 ?_
 exact zq492) : a := h
theorem zq490 (h : a := by
 refine zm0 ?_
 exact zq491) : a := h
theorem zq489 (h : a := by
 refine zm0 ?_
 exact zq490) : a := h
theorem zq488 (h : a := by
 refine zm1 ?_
 exact zq489) : a := h
theorem zq487 (h : a := by
 refine zm1 ?_
 exact zq488) : a := h
theorem zq486 (h : a := by
 refine zm1 ?_
 exact zq487) : a := h
theorem zq485 (h : a := by
 refine zm0 ?_
 exact zq486) : a := h
theorem zq484 (h : a := by
 refine zm0 ?_
 exact zq485) : a := h
theorem zq483 (h : a := by
 refine zm1 ?_
 exact zq484) : a := h
theorem zq482 (h : a := by
 refine zm1 ?_
 exact zq483) : a := h
theorem zq481 (h : a := by
 refine zm1 ?_
 exact zq482) : a := h
theorem zq517 (h : a := by
 refine zm0 ?_
 exact zq518) : a := h
theorem zq522 (h : a := by
 refine zm0 ?_
 exact zq517) : a := h
theorem zq525 (h : a := by
 refine zm1 ?_
 exact zq522) : a := h
theorem zq524 (h : a := by
 refine zm1 ?_
 exact zq525) : a := h
theorem zq523 (h : a := by
 refine zm1 ?_
 exact zq524) : a := h
theorem zq548 (h : a := by
 refine zm0 ?_
 exact zq549) : a := h
theorem zq542 (h : a := by
 refine zm0 ?_
 exact zq543) : a := h
theorem zq541 (h : a := by
 refine zm1 ?_
 exact zq542) : a := h
theorem zq540 (h : a := by
 refine zm1 ?_
 exact zq541) : a := h
theorem zq539 (h : a := by
 refine zm1 ?_
 exact zq540) : a := h
theorem zq538 (h : a := by
 refine zm1 ?_
 exact zq539) : a := h
theorem zq537 (h : a := by
 refine zm0 ?_
 exact zq538) : a := h
theorem zq536 (h : a := by
 refine zm0 ?_
 exact zq537) : a := h
theorem zq535 (h : a := by
 refine zm1 ?_
 exact zq536) : a := h
theorem zq534 (h : a := by
 refine zm1 ?_
 exact zq535) : a := h
theorem zq533 (h : a := by
 refine zm1 ?_
 exact zq534) : a := h
theorem zq532 (h : a := by
 refine zm1 ?_
 exact zq533) : a := h
theorem zq531 (h : a := by
 refine zm0 ?_
 exact zq532) : a := h
theorem zq530 (h : a := by
 refine zm0 ?_
 exact zq531) : a := h
theorem zq529 (h : a := by
 refine zm1 ?_
 exact zq530) : a := h
theorem zq528 (h : a := by
 refine zm1 ?_
 exact zq529) : a := h
theorem zq527 (h : a := by
 refine zm1 ?_
 exact zq528) : a := h
theorem zq526 (h : a := by
 refine zm1 ?_
 exact zq527) : a := h
theorem zq554 (h : a := by
 refine zm1 ?_
 exact zq555) : a := h
theorem zq553 (h : a := by
 refine zm1 ?_
 exact zq554) : a := h
theorem zq561 (h : a := by
 refine zm0 ?_
 exact zq562) : a := h
theorem zq600 (h : a := by
 refine zm0 ?_
 exact zq601) : a := h
theorem zq594 (h : a := by
 refine zm0 ?_
 exact zq595) : a := h
theorem zq591 (h : a := by
 refine zm6 ?_
 exact zq592) : a := h
theorem zq590 (h : a := by
 refine zm0 ?_
 exact zq591) : a := h
theorem zq610 (h : a := by
 refine zm0 ?_
 exact zq611) : a := h
theorem zq569 (h : a := by
 refine zm0 ?_
 exact zq570) : a := h
theorem zq661 (h : a := by
 refine zm6 ?_
 exact zq662) : a := h
theorem zq660 (h : a := by
 refine zm0 ?_
 exact zq661) : a := h
theorem zq671 (h : a := by
 refine zm0 ?_
 exact zq672) : a := h
theorem zq639 (h : a := by
 refine zm0 ?_
 exact zq640) : a := h
theorem zq630 (h : a := by
 refine zm0 ?_
 exact zq631) : a := h
theorem zq627 (h : a := by
 refine zm6 ?_
 exact zq628) : a := h
theorem zq621 (h : a := by
 refine zm0 ?_
 exact zq622) : a := h
theorem zq618 (h : a := by
 refine zm6 ?_
 exact zq619) : a := h
theorem zq617 (h : a := by
 refine zm0 ?_
 exact zq618) : a := h
theorem zq675 (h : a := by
 refine zm0 ?_
 exact zq676) : a := h
theorem zq682 (h : a := by
 refine zm0 ?_
 exact zq683) : a := h
theorem zq681 (h : a := by
 refine zm0 ?_
 exact zq682) : a := h
theorem zq680 (h : a := by
 refine zm8 ?_
 exact zq681) : a := h
theorem zq704 (h : a := by
 refine zm0 ?_
 exact zq705) : a := h
theorem zq703 (h : a := by
 refine zm1 ?_
 exact zq704) : a := h
theorem zq702 (h : a := by
 refine zm1 ?_
 exact zq703) : a := h
theorem zq701 (h : a := by
 refine zm1 ?_
 exact zq702) : a := h
theorem zq700 (h : a := by
 refine zm1 ?_
 exact zq701) : a := h
theorem zq699 (h : a := by
 refine zm0 ?_
 exact zq700) : a := h
theorem zq698 (h : a := by
 refine zm0 ?_
 exact zq699) : a := h
theorem zq697 (h : a := by
 refine zm1 ?_
 exact zq698) : a := h
theorem zq696 (h : a := by
 refine zm1 ?_
 exact zq697) : a := h
theorem zq695 (h : a := by
 refine zm1 ?_
 exact zq696) : a := h
theorem zq694 (h : a := by
 refine zm0 ?_
 exact zq695) : a := h
theorem zq693 (h : a := by
 refine zm0 ?_
 exact zq694) : a := h
theorem zq692 (h : a := by
 refine zm1 ?_
 exact zq693) : a := h
theorem zq691 (h : a := by
 refine zm1 ?_
 exact zq692) : a := h
theorem zq690 (h : a := by
 refine zm1 ?_
 exact zq691) : a := h
theorem zq689 (h : a := by
 refine zm1 ?_
 exact zq690) : a := h
theorem zq720 (h : a := by
 refine zm0 ?_
 exact zq721) : a := h
theorem zq714 (h : a := by
 refine zm0 ?_
 exact zq715) : a := h
theorem zq713 (h : a := by
 refine zm1 ?_
 exact zq714) : a := h
theorem zq712 (h : a := by
 refine zm1 ?_
 exact zq713) : a := h
theorem zq711 (h : a := by
 refine zm1 ?_
 exact zq712) : a := h
theorem zq710 (h : a := by
 refine zm1 ?_
 exact zq711) : a := h
theorem zq737 (h : a := by
 refine zm0 ?_
 exact zq738) : a := h
theorem zq741 (h : a := by
 refine zm0 ?_
 exact zq742) : a := h
theorem zq740 (h : a := by
 refine zm0 ?_
 exact zq741) : a := h
theorem zq746 (h : a := by
 refine zm0 ?_
 exact zq747) : a := h
theorem zq763 (h : a := by
 refine zm0 ?_
 exact zq764) : a := h
theorem zq756 (h : a := by
 refine zm6 ?_
 exact zq757) : a := h
theorem zq787 (h : a := by
 refine zm0 ?_
 exact zq788) : a := h
theorem zq778 (h : a := by
 refine zm3 ?_
 exact zq779) : a := h
theorem zq807 (h : a := by
 refine zm0 ?_
 exact zq808) : a := h
theorem zq800 (h : a := by
 refine zm6 ?_
 exact zq801) : a := h
theorem zq795 (h : a := by
 refine zm6 ?_
 exact zq796) : a := h
theorem zq821 (h : a := by
 refine zm0 ?_
 exact zq822) : a := h
theorem zq812 (h : a := by
 refine zm3 ?_
 exact zq813) : a := h
theorem zq858 (h : a := by
 refine zm0 ?_
 exact zq859) : a := h
theorem zq851 (h : a := by
 refine zm6 ?_
 exact zq852) : a := h
theorem zq846 (h : a := by
 refine zm6 ?_
 exact zq847) : a := h
theorem zq841 (h : a := by
 refine zm6 ?_
 exact zq842) : a := h
theorem zq839 (h : a := by
 refine zm6 ?_
 exact zq840) : a := h
theorem zq834 (h : a := by
 refine zm6 ?_
 exact zq835) : a := h
theorem zq828 (h : a := by
 refine zm0 ?_
 exact zq829) : a := h
theorem zq827 (h : a := by
 refine zm1 ?_
 exact zq828) : a := h
theorem zq826 (h : a := by
 refine zm1 ?_
 exact zq827) : a := h
theorem zq825 (h : a := by
 refine zm1 ?_
 exact zq826) : a := h
theorem zq824 (h : a := by
 refine zm1 ?_
 exact zq825) : a := h
theorem zq875 (h : a := by
 refine zm1 ?_
 exact zq876) : a := h
theorem zq874 (h : a := by
 refine zm1 ?_
 exact zq875) : a := h
theorem zq873 (h : a := by
 refine zm1 ?_
 exact zq874) : a := h
theorem zq872 (h : a := by
 refine zm0 ?_
 exact zq873) : a := h
theorem zq871 (h : a := by
 refine zm0 ?_
 exact zq872) : a := h
theorem zq870 (h : a := by
 refine zm1 ?_
 exact zq871) : a := h
theorem zq869 (h : a := by
 refine zm1 ?_
 exact zq870) : a := h
theorem zq868 (h : a := by
 refine zm1 ?_
 exact zq869) : a := h
theorem zq867 (h : a := by
 refine zm1 ?_
 exact zq868) : a := h
theorem zq866 (h : a := by
 refine zm0 ?_
 exact zq867) : a := h
theorem zq865 (h : a := by
 refine zm0 ?_
 exact zq866) : a := h
theorem zq864 (h : a := by
 refine zm1 ?_
 exact zq865) : a := h
theorem zq863 (h : a := by
 refine zm1 ?_
 exact zq864) : a := h
theorem zq862 (h : a := by
 refine zm1 ?_
 exact zq863) : a := h
theorem zq861 (h : a := by
 refine zm1 ?_
 exact zq862) : a := h
theorem zq881 (h : a := by
 refine zm0 ?_
 exact zq882) : a := h
theorem zq891 (h : a := by
 refine zm1 ?_
 exact zq892) : a := h
theorem zq890 (h : a := by
 refine zm1 ?_
 exact zq891) : a := h
theorem zq896 (h : a := by
 refine zm0 ?_
 exact zq897) : a := h
theorem zq903 (h : a := by
 refine zm0 ?_
 exact zq904) : a := h
theorem zq901 (h : a := by
 refine zm1 ?_
 exact zq902) : a := h
theorem zq900 (h : a := by
 refine zm1 ?_
 exact zq901) : a := h
theorem zq899 (h : a := by
 refine zm1 ?_
 exact zq900) : a := h
theorem zq930 (h : a := by
 refine zm0 ?_
 exact zq931) : a := h
theorem zq945 (h : a := by
 refine zm0 ?_
 exact zq946) : a := h
theorem zq923 (h : a := by
 refine zm0 ?_
 exact zq924) : a := h
theorem zq921 (h : a := by
 refine zm0 ?_
 exact zq922) : a := h
theorem zq920 (h : a := by
 refine zm0 ?_
 exact zq921) : a := h
theorem zq915 (h : a := by
 refine zm0 ?_
 exact zq916) : a := h
theorem zq968 (h : a := by
 refine zm0 ?_
 exact zq969) : a := h
theorem zq957 (h : a := by
 refine zm0 ?_
 exact zq958) : a := h
theorem zq978 (h : a := by
 refine zm1 ?_
 exact zq979) : a := h
theorem zq977 (h : a := by
 refine zm1 ?_
 exact zq978) : a := h
theorem zq976 (h : a := by
 refine zm1 ?_
 exact zq977) : a := h
theorem zq975 (h : a := by
 refine zm1 ?_
 exact zq976) : a := h
theorem zq974 (h : a := by
 refine zm1 ?_
 exact zq975) : a := h
theorem zq982 (h : a := by
 refine zm0 ?_
 exact zq983) : a := h
theorem zq993 (h : a := by
 refine zm0 ?_
 exact zq994) : a := h
theorem zq988 (h : a := by
 refine zm6 ?_
 exact zq989) : a := h
theorem zq986 (h : a := by
 refine zm6 ?_
 exact zq987) : a := h
theorem zq159 (h : a := by
 refine zm16 ?_
 exact zq160) : a := h
theorem zq171 (h : a := by
 exact TC.condF rfl (zq154)) : a := h
theorem zq200 (h : a := by
 refine zm75 ?_
 exact zq201) : a := h
theorem zq198 (h : a := by
 refine zm43 ?_
 exact zq199) : a := h
theorem zq238 (h : a := by
 exact TC.condT rfl (zq239)) : a := h
theorem zq276 (h : a := by
 exact TC.condT rfl (zq277)) : a := h
theorem zq303 (h : a := by
 exact TC.condF rfl (zq304)) : a := h
theorem zq324 (h : a := by
 exact TC.condT rfl (zq283)) : a := h
theorem zq332 (h : a := by
 exact TC.condT rfl (zq333)) : a := h
theorem zq352 (h : a := by
 refine zm14 ?_
 exact zq353) : a := h
theorem zq380 (h : a := by
 refine zm39 ?_
 exact zq381) : a := h
theorem zq379 (h : a := by
 refine zm70 ?_
 exact zq380) : a := h
theorem zq374 (h : a := by
 refine zm74 ?_
 exact zq375) : a := h
theorem zq359 (h : a := by
 refine zm74 ?_
 exact zq360) : a := h
theorem zq357 (h : a := by
 refine zm74 ?_
 exact zq358) : a := h
theorem zq391 (h : a := by
 refine zm74 ?_
 exact zq356) : a := h
theorem zq389 (h : a := by
 refine zm74 ?_
 exact zq390) : a := h
theorem zq455 (h : a := by
 refine zm43 ?_
 exact zq456) : a := h
theorem zq451 (h : a := by
 refine zm75 ?_
 exact zq452) : a := h
theorem zq449 (h : a := by
 refine zm43 ?_
 exact zq450) : a := h
theorem zq441 (h : a := by
 refine zm43 ?_
 exact zq442) : a := h
theorem zq437 (h : a := by
 refine zm75 ?_
 exact zq438) : a := h
theorem zq435 (h : a := by
 refine zm43 ?_
 exact zq436) : a := h
theorem zq545 (h : a := by
 exact TC.condT rfl (zq546)) : a := h
theorem zq599 (h : a := by
 refine zm16 ?_
 exact zq600) : a := h
theorem zq592 (h : a := by
 refine zm29 ?_
 exact zq593) : a := h
theorem zq586 (h : a := by
 refine zm39 ?_
 exact zq587) : a := h
theorem zq662 (h : a := by
 refine zm29 ?_
 exact zq663) : a := h
theorem zq656 (h : a := by
 refine zm39 ?_
 exact zq657) : a := h
theorem zq628 (h : a := by
 refine zm29 ?_
 exact zq629) : a := h
theorem zq619 (h : a := by
 refine zm29 ?_
 exact zq620) : a := h
theorem zq717 (h : a := by
 exact TC.condT rfl (zq718)) : a := h
theorem zq736 (h : a := by
 refine zm16 ?_
 exact zq737) : a := h
theorem zq762 (h : a := by
 refine zm16 ?_
 exact zq763) : a := h
theorem zq769 (h : a := by
 refine zm39 ?_
 exact zq770) : a := h
theorem zq766 (h : a := by
 refine zm18 ?_
 exact zq767) : a := h
theorem zq774 (h : a := by
 refine zm18 ?_
 exact zq768) : a := h
theorem zq786 (h : a := by
 refine zm16 ?_
 exact zq787) : a := h
theorem zq806 (h : a := by
 refine zm16 ?_
 exact zq807) : a := h
theorem zq797 (h : a := by
 refine zm19 ?_
 exact zq798) : a := h
theorem zq820 (h : a := by
 refine zm16 ?_
 exact zq821) : a := h
theorem zq857 (h : a := by
 refine zm16 ?_
 exact zq858) : a := h
theorem zq848 (h : a := by
 refine zm19 ?_
 exact zq849) : a := h
theorem zq831 (h : a := by
 exact TC.condT rfl (zq832)) : a := h
theorem zq895 (h : a := by
 refine zm16 ?_
 exact zq896) : a := h
theorem zq944 (h : a := by
 refine zm16 ?_
 exact zq945) : a := h
theorem zq967 (h : a := by
 refine zm16 ?_
 exact zq968) : a := h
theorem zq1003 (h : a := by
 refine zm0 ?_
 exact zq1004) : a := h
theorem zq991 (h : a := by
 refine zm16 ?_
 exact zq992) : a := h
theorem zq989 (h : a := by
 refine zm29 ?_
 exact zq990) : a := h
theorem zq987 (h : a := by
 refine zm29 ?_
 exact zq988) : a := h
theorem zq1011 (h : a := by
 refine zm0 ?_
 exact zq1012) : a := h
theorem zq1016 (h : a := by
 refine zm0 ?_
 exact zq1017) : a := h
theorem zq1015 (h : a := by
 refine zm0 ?_
 exact zq1016) : a := h
theorem zq1022 (h : a := by
 refine zm1 ?_
 exact zq1015) : a := h
theorem zq1021 (h : a := by
 refine zm1 ?_
 exact zq1022) : a := h
theorem zq1020 (h : a := by
 refine zm1 ?_
 exact zq1021) : a := h
theorem zq1019 (h : a := by
 refine zm1 ?_
 exact zq1020) : a := h
theorem zq1028 (h : a := by
 refine zm0 ?_
 exact zq1019) : a := h
theorem zq1027 (h : a := by
 refine zm0 ?_
 exact zq1028) : a := h
theorem zq1026 (h : a := by
 refine zm1 ?_
 exact zq1027) : a := h
theorem zq1025 (h : a := by
 refine zm1 ?_
 exact zq1026) : a := h
theorem zq1024 (h : a := by
 refine zm1 ?_
 exact zq1025) : a := h
theorem zq1023 (h : a := by
 refine zm1 ?_
 exact zq1024) : a := h
theorem zq1034 (h : a := by
 refine zm0 ?_
 exact zq1023) : a := h
theorem zq1033 (h : a := by
 refine zm0 ?_
 exact zq1034) : a := h
theorem zq1032 (h : a := by
 refine zm1 ?_
 exact zq1033) : a := h
theorem zq1031 (h : a := by
 refine zm1 ?_
 exact zq1032) : a := h
theorem zq1030 (h : a := by
 refine zm1 ?_
 exact zq1031) : a := h
theorem zq1029 (h : a := by
 refine zm1 ?_
 exact zq1030) : a := h
theorem zq1036 (h : a := by
 refine zm0 ?_
 exact zq1037) : a := h
theorem zq1035 (h : a := by
 refine zm0 ?_
 exact zq1036) : a := h
theorem zq1041 (h : a := by
 refine zm1 ?_
 exact zq1035) : a := h
theorem zq1040 (h : a := by
 refine zm1 ?_
 exact zq1041) : a := h
theorem zq1039 (h : a := by
 refine zm1 ?_
 exact zq1040) : a := h
theorem zq1052 (h : a := by
 refine zm0 ?_
 exact zq1053) : a := h
theorem zq1050 (h : a := by
 refine zm1 ?_
 exact zq1051) : a := h
theorem zq1049 (h : a := by
 refine zm1 ?_
 exact zq1050) : a := h
theorem zq1068 (h : a := by
 refine zm0 ?_
 exact zq1069) : a := h
theorem zq1071 (h : a := by
 refine zm0 ?_
 exact zq1072) : a := h
theorem zq1096 (h : a := by
 refine zm0 ?_
 exact zq1097) : a := h
theorem zq1087 (h : a := by
 refine zm3 ?_
 exact zq1088) : a := h
theorem zq1100 (h : a := by
 refine zm0 ?_
 exact zq1101) : a := h
theorem zq1099 (h : a := by
 refine zm0 ?_
 exact zq1100) : a := h
theorem zq1109 (h : a := by
 refine zm1 ?_
 exact zq1099) : a := h
theorem zq1108 (h : a := by
 refine zm1 ?_
 exact zq1109) : a := h
theorem zq1107 (h : a := by
 refine zm1 ?_
 exact zq1108) : a := h
theorem zq1106 (h : a := by
 refine zm1 ?_
 exact zq1107) : a := h
theorem zq1105 (h : a := by
 refine zm1 ?_
 exact zq1106) : a := h
theorem zq1114 (h : a := by
 refine zm0 ?_
 exact zq1105) : a := h
theorem zq1113 (h : a := by
 refine zm0 ?_
 exact zq1114) : a := h
theorem zq1112 (h : a := by
 refine zm1 ?_
 exact zq1113) : a := h
theorem zq1111 (h : a := by
 refine zm1 ?_
 exact zq1112) : a := h
theorem zq1110 (h : a := by
 refine zm1 ?_
 exact zq1111) : a := h
theorem zq1119 (h : a := by
 refine zm0 ?_
 exact zq1110) : a := h
theorem zq1118 (h : a := by
 refine zm0 ?_
 exact zq1119) : a := h
theorem zq1117 (h : a := by
 refine zm1 ?_
 exact zq1118) : a := h
theorem zq1116 (h : a := by
 refine zm1 ?_
 exact zq1117) : a := h
theorem zq1115 (h : a := by
 refine zm1 ?_
 exact zq1116) : a := h
theorem zq1151 (h : a := by
 refine zm0 ?_
 exact zq1152) : a := h
theorem zq1147 (h : a := by
 refine zm0 ?_
 exact zq1148) : a := h
theorem zq1145 (h : a := by
 refine zm0 ?_
 exact zq1146) : a := h
theorem zq1142 (h : a := by
 refine zm0 ?_
 exact zq1143) : a := h
theorem zq1140 (h : a := by
 refine zm0 ?_
 exact zq1141) : a := h
theorem zq1173 (h : a := by
 refine zm0 ?_
 exact zq1174) : a := h
theorem zq1170 (h : a := by
 refine zm0 ?_
 exact zq1171) : a := h
theorem zq1180 (h : a := by
 refine zm0 ?_
 exact zq1181) : a := h
theorem zq1164 (h : a := by
 refine zm0 ?_
 exact zq1165) : a := h
theorem zq1163 (h : a := by
 refine zm0 ?_
 exact zq1164) : a := h
theorem zq1123 (h : a := by
 refine zm0 ?_
 exact zq1124) : a := h
theorem zq1185 (h : a := by
 refine zm0 ?_
 exact zq1186) : a := h
theorem zq1191 (h : a := by
 refine zm0 ?_
 exact zq1192) : a := h
theorem zq1209 (h : a := by
 refine zm5 ?_
 exact zq1210) : a := h
theorem zq1205 (h : a := by
 refine zm7 ?_
 exact zq1206) : a := h
theorem zq1200 (h : a := by
 refine zm7 ?_
 exact zq1201) : a := h
theorem zq1196 (h : a := by
 refine zm7 ?_
 exact zq1197) : a := h
theorem zq1229 (h : a := by
 refine zm5 ?_
 exact zq1230) : a := h
theorem zq1225 (h : a := by
 refine zm7 ?_
 exact zq1226) : a := h
theorem zq1220 (h : a := by
 refine zm7 ?_
 exact zq1221) : a := h
theorem zq1216 (h : a := by
 refine zm7 ?_
 exact zq1217) : a := h
theorem zq1260 (h : a := by
 refine zm0 ?_
 exact zq1261) : a := h
theorem zq1258 (h : a := by
 refine zm0 ?_
 exact zq1259) : a := h
theorem zq1253 (h : a := by
 refine zm5 ?_
 exact zq1254) : a := h
theorem zq1250 (h : a := by
 refine zm7 ?_
 exact zq1251) : a := h
theorem zq1241 (h : a := by
 refine zm7 ?_
 exact zq1242) : a := h
theorem zq1298 (h : a := by
 refine zm5 ?_
 exact zq1299) : a := h
theorem zq1297 (h : a := by
 refine zm5 ?_
 exact zq1298) : a := h
theorem zq1285 (h : a := by
 refine zm7 ?_
 exact zq1286) : a := h
theorem zq1271 (h : a := by
 refine zm7 ?_
 exact zq1272) : a := h
theorem zq1267 (h : a := by
 refine zm5 ?_
 exact zq1268) : a := h
theorem zq1266 (h : a := by
 refine zm5 ?_
 exact zq1267) : a := h
theorem zq1321 (h : a := by
 refine zm7 ?_
 exact zq1322) : a := h
theorem zq1307 (h : a := by
 refine zm7 ?_
 exact zq1308) : a := h
theorem zq1303 (h : a := by
 refine zm5 ?_
 exact zq1304) : a := h
theorem zq1302 (h : a := by
 refine zm5 ?_
 exact zq1303) : a := h
theorem zq1353 (h : a := by
 refine zm0 ?_
 exact zq1354) : a := h
theorem zq1351 (h : a := by
 refine zm0 ?_
 exact zq1352) : a := h
theorem zq1343 (h : a := by
 refine zm0 ?_
 exact zq1344) : a := h
theorem zq1342 (h : a := by
 refine zm1 ?_
 exact zq1343) : a := h
theorem zq1341 (h : a := by
 refine zm1 ?_
 exact zq1342) : a := h
theorem zq1340 (h : a := by
 refine zm1 ?_
 exact zq1341) : a := h
theorem zq1339 (h : a := by
 refine zm1 ?_
 exact zq1340) : a := h
theorem zq1338 (h : a := by
 refine zm1 ?_
 exact zq1339) : a := h
theorem zq1337 (h : a := by
 refine zm1 ?_
 exact zq1338) : a := h
theorem zq1336 (h : a := by
 refine zm1 ?_
 exact zq1337) : a := h
theorem zq1335 (h : a := by
 refine zm1 ?_
 exact zq1336) : a := h
theorem zq1409 (h : a := by
 refine zm0 ?_
 exact zq1410) : a := h
theorem zq1408 (h : a := by
 refine zm0 ?_
 exact zq1409) : a := h
theorem zq1407 (h : a := by
 refine zm0 ?_
 exact zq1408) : a := h
theorem zq1426 (h : a := by
 refine zm0 ?_
 exact zq1427) : a := h
theorem zq1424 (h : a := by
 refine zm0 ?_
 exact zq1425) : a := h
theorem zq1400 (h : a := by
 refine zm0 ?_
 exact zq1401) : a := h
theorem zq1397 (h : a := by
 refine zm0 ?_
 exact zq1398) : a := h
theorem zq1395 (h : a := by
 refine zm6 ?_
 exact zq1396) : a := h
theorem zq1393 (h : a := by
 refine zm0 ?_
 exact zq1394) : a := h
theorem zq1449 (h : a := by
 refine zm0 ?_
 exact zq1450) : a := h
theorem zq1448 (h : a := by
 refine zm0 ?_
 exact zq1449) : a := h
theorem zq1482 (h : a := by
 refine zm0 ?_
 exact zq1483) : a := h
theorem zq1481 (h : a := by
 refine zm0 ?_
 exact zq1482) : a := h
theorem zq1477 (h : a := by
 refine zm6 ?_
 exact zq1478) : a := h
theorem zq1475 (h : a := by
 refine zm0 ?_
 exact zq1476) : a := h
theorem zq1469 (h : a := by
 refine zm6 ?_
 exact zq1470) : a := h
theorem zq1465 (h : a := by
 refine zm0 ?_
 exact zq1466) : a := h
theorem zq1463 (h : a := by
 refine zm6 ?_
 exact zq1464) : a := h
theorem zq1461 (h : a := by
 refine zm0 ?_
 exact zq1462) : a := h
theorem zq1460 (h : a := by
 refine zm0 ?_
 exact zq1461) : a := h
theorem zq1442 (h : a := by
 refine zm0 ?_
 exact zq1443) : a := h
theorem zq1439 (h : a := by
 refine zm6 ?_
 exact zq1440) : a := h
theorem zq1437 (h : a := by
 refine zm0 ?_
 exact zq1438) : a := h
theorem zq1382 (h : a := by
 refine zm0 ?_
 exact zq1383) : a := h
theorem zq1379 (h : a := by
 refine zm6 ?_
 exact zq1380) : a := h
theorem zq1377 (h : a := by
 refine zm0 ?_
 exact zq1378) : a := h
theorem zq1376 (h : a := by
 refine zm0 ?_
 exact zq1377) : a := h
theorem zq1367 (h : a := by
 refine zm0 ?_
 exact zq1368) : a := h
theorem zq1502 (h : a := by
 refine zm0 ?_
 exact zq1503) : a := h
theorem zq1501 (h : a := by
 refine zm0 ?_
 exact zq1502) : a := h
theorem zq1500 (h : a := by
 refine zm0 ?_
 exact zq1501) : a := h
theorem zq1494 (h : a := by
 refine zm0 ?_
 exact zq1495) : a := h
theorem zq1493 (h : a := by
 refine zm8 ?_
 exact zq1494) : a := h
theorem zq1492 (h : a := by
 refine zm1 ?_
 exact zq1493) : a := h
theorem zq1491 (h : a := by
 refine zm1 ?_
 exact zq1492) : a := h
theorem zq1490 (h : a := by
 refine zm1 ?_
 exact zq1491) : a := h
theorem zq1526 (h : a := by
 refine zm0 ?_
 exact zq1527) : a := h
theorem zq1525 (h : a := by
 refine zm0 ?_
 exact zq1526) : a := h
theorem zq1558 (h : a := by
 refine zm0 ?_
 exact zq1559) : a := h
theorem zq1555 (h : a := by
 refine zm0 ?_
 exact zq1556) : a := h
theorem zq1554 (h : a := by
 refine zm0 ?_
 exact zq1555) : a := h
theorem zq1553 (h : a := by
 refine zm0 ?_
 exact zq1554) : a := h
theorem zq1548 (h : a := by
 refine zm0 ?_
 exact zq1549) : a := h
theorem zq1545 (h : a := by
 refine zm0 ?_
 exact zq1546) : a := h
theorem zq1544 (h : a := by
 refine zm0 ?_
 exact zq1545) : a := h
theorem zq1539 (h : a := by
 refine zm0 ?_
 exact zq1540) : a := h
theorem zq1536 (h : a := by
 refine zm0 ?_
 exact zq1537) : a := h
theorem zq1535 (h : a := by
 refine zm0 ?_
 exact zq1536) : a := h
theorem zq1519 (h : a := by
 refine zm0 ?_
 exact zq1520) : a := h
theorem zq1517 (h : a := by
 refine zm8 ?_
 exact zq1518) : a := h
theorem zq1514 (h : a := by
 refine zm8 ?_
 exact zq1515) : a := h
theorem zq1513 (h : a := by
 refine zm8 ?_
 exact zq1514) : a := h
theorem zq1571 (h : a := by
 refine zm0 ?_
 exact zq1572) : a := h
theorem zq1570 (h : a := by
 refine zm1 ?_
 exact zq1571) : a := h
theorem zq1569 (h : a := by
 refine zm1 ?_
 exact zq1570) : a := h
theorem zq1568 (h : a := by
 refine zm1 ?_
 exact zq1569) : a := h
theorem zq1567 (h : a := by
 refine zm1 ?_
 exact zq1568) : a := h
theorem zq1566 (h : a := by
 refine zm1 ?_
 exact zq1567) : a := h
theorem zq1565 (h : a := by
 refine zm1 ?_
 exact zq1566) : a := h
theorem zq1593 (h : a := by
 refine zm0 ?_
 exact zq1594) : a := h
theorem zq1658 (h : a := by
 refine zm0 ?_
 exact zq1659) : a := h
theorem zq1675 (h : a := by
 refine zm0 ?_
 exact zq1676) : a := h
theorem zq1673 (h : a := by
 refine zm0 ?_
 exact zq1674) : a := h
theorem zq1650 (h : a := by
 refine zm0 ?_
 exact zq1651) : a := h
theorem zq1649 (h : a := by
 refine zm0 ?_
 exact zq1650) : a := h
theorem zq1644 (h : a := by
 refine zm0 ?_
 exact zq1645) : a := h
theorem zq1643 (h : a := by
 refine zm0 ?_
 exact zq1644) : a := h
theorem zq1640 (h : a := by
 refine zm0 ?_
 exact zq1641) : a := h
theorem zq1639 (h : a := by
 refine zm0 ?_
 exact zq1640) : a := h
theorem zq1638 (h : a := by
 refine zm0 ?_
 exact zq1639) : a := h
theorem zq1637 (h : a := by
 refine zm0 ?_
 exact zq1638) : a := h
theorem zq1630 (h : a := by
 refine zm0 ?_
 exact zq1631) : a := h
theorem zq1629 (h : a := by
 refine zm0 ?_
 exact zq1630) : a := h
theorem zq1628 (h : a := by
 refine zm0 ?_
 exact zq1629) : a := h
theorem zq1627 (h : a := by
 refine zm0 ?_
 exact zq1628) : a := h
theorem zq1776 (h : a := by
 refine zm0 ?_
 exact zq1777) : a := h
theorem zq1774 (h : a := by
 refine zm0 ?_
 exact zq1775) : a := h
theorem zq1817 (h : a := by
 refine zm0 ?_
 exact zq1818) : a := h
theorem zq1815 (h : a := by
 refine zm0 ?_
 exact zq1816) : a := h
theorem zq1807 (h : a := by
 refine zm3 ?_
 exact zq1808) : a := h
theorem zq1804 (h : a := by
 refine zm7 ?_
 exact zq1805) : a := h
theorem zq1801 (h : a := by
 refine zm5 ?_
 exact zq1802) : a := h
theorem zq1797 (h : a := by
 refine zm5 ?_
 exact zq1798) : a := h
theorem zq1796 (h : a := by
 refine zm5 ?_
 exact zq1797) : a := h
theorem zq1794 (h : a := by
 refine zm3 ?_
 exact zq1795) : a := h
theorem zq1767 (h : a := by
 refine zm0 ?_
 exact zq1768) : a := h
theorem zq1766 (h : a := by
 refine zm0 ?_
 exact zq1767) : a := h
theorem zq1760 (h : a := by
 refine zm0 ?_
 exact zq1761) : a := h
theorem zq1759 (h : a := by
 refine zm0 ?_
 exact zq1760) : a := h
theorem zq1758 (h : a := by
 refine zm0 ?_
 exact zq1759) : a := h
theorem zq1757 (h : a := by
 refine zm0 ?_
 exact zq1758) : a := h
theorem zq1756 (h : a := by
 refine zm0 ?_
 exact zq1757) : a := h
theorem zq1753 (h : a := by
 refine zm0 ?_
 exact zq1754) : a := h
theorem zq1752 (h : a := by
 refine zm0 ?_
 exact zq1753) : a := h
theorem zq1747 (h : a := by
 refine zm0 ?_
 exact zq1748) : a := h
theorem zq1746 (h : a := by
 refine zm0 ?_
 exact zq1747) : a := h
theorem zq1743 (h : a := by
 refine zm0 ?_
 exact zq1744) : a := h
theorem zq1742 (h : a := by
 refine zm0 ?_
 exact zq1743) : a := h
theorem zq1741 (h : a := by
 refine zm0 ?_
 exact zq1742) : a := h
theorem zq1740 (h : a := by
 refine zm0 ?_
 exact zq1741) : a := h
theorem zq1726 (h : a := by
 refine zm0 ?_
 exact zq1727) : a := h
theorem zq1725 (h : a := by
 refine zm0 ?_
 exact zq1726) : a := h
theorem zq1724 (h : a := by
 refine zm0 ?_
 exact zq1725) : a := h
theorem zq1723 (h : a := by
 refine zm0 ?_
 exact zq1724) : a := h
theorem zq1831 (h : a := by
 refine zm0 ?_
 exact zq1832) : a := h
theorem zq1712 (h : a := by
 refine zm0 ?_
 exact zq1713) : a := h
theorem zq1710 (h : a := by
 refine zm0 ?_
 exact zq1711) : a := h
theorem zq1709 (h : a := by
 refine zm0 ?_
 exact zq1710) : a := h
theorem zq1697 (h : a := by
 refine zm0 ?_
 exact zq1698) : a := h
theorem zq1688 (h : a := by
 refine zm0 ?_
 exact zq1689) : a := h
theorem zq1687 (h : a := by
 refine zm0 ?_
 exact zq1688) : a := h
theorem zq1616 (h : a := by
 refine zm0 ?_
 exact zq1617) : a := h
theorem zq1614 (h : a := by
 refine zm0 ?_
 exact zq1615) : a := h
theorem zq1613 (h : a := by
 refine zm0 ?_
 exact zq1614) : a := h
theorem zq1604 (h : a := by
 refine zm0 ?_
 exact zq1605) : a := h
theorem zq1585 (h : a := by
 refine zm0 ?_
 exact zq1586) : a := h
theorem zq1583 (h : a := by
 refine zm0 ?_
 exact zq1584) : a := h
theorem zq1839 (h : a := by
 refine zm0 ?_
 exact zq1840) : a := h
theorem zq1838 (h : a := by
 refine zm0 ?_
 exact zq1839) : a := h
theorem zq1851 (h : a := by
 refine zm0 ?_
 exact zq1852) : a := h
theorem zq1850 (h : a := by
 refine zm0 ?_
 exact zq1851) : a := h
theorem zq1857 (h : a := by
 refine zm1 ?_
 exact zq1850) : a := h
theorem zq1856 (h : a := by
 refine zm1 ?_
 exact zq1857) : a := h
theorem zq1855 (h : a := by
 refine zm1 ?_
 exact zq1856) : a := h
theorem zq1873 (h : a := by
 refine zm0 ?_
 exact zq1874) : a := h
theorem zq1872 (h : a := by
 refine zm1 ?_
 exact zq1873) : a := h
theorem zq1871 (h : a := by
 refine zm1 ?_
 exact zq1872) : a := h
theorem zq1870 (h : a := by
 refine zm1 ?_
 exact zq1871) : a := h
theorem zq1869 (h : a := by
 refine zm1 ?_
 exact zq1870) : a := h
theorem zq1868 (h : a := by
 refine zm1 ?_
 exact zq1869) : a := h
theorem zq1867 (h : a := by
 refine zm1 ?_
 exact zq1868) : a := h
theorem zq1866 (h : a := by
 refine zm1 ?_
 exact zq1867) : a := h
theorem zq1865 (h : a := by
 refine zm0 ?_
 exact zq1866) : a := h
theorem zq1864 (h : a := by
 refine zm0 ?_
 exact zq1865) : a := h
theorem zq1863 (h : a := by
 refine zm1 ?_
 exact zq1864) : a := h
theorem zq1862 (h : a := by
 refine zm1 ?_
 exact zq1863) : a := h
theorem zq1861 (h : a := by
 refine zm1 ?_
 exact zq1862) : a := h
theorem zq1860 (h : a := by
 refine zm1 ?_
 exact zq1861) : a := h
theorem zq1859 (h : a := by
 refine zm1 ?_
 exact zq1860) : a := h
theorem zq1858 (h : a := by
 refine zm1 ?_
 exact zq1859) : a := h
theorem zq1877 (h : a := by
 refine zm0 ?_
 exact zq1878) : a := h
theorem zq1876 (h : a := by
 refine zm0 ?_
 exact zq1877) : a := h
theorem zq1903 (h : a := by
 refine zm0 ?_
 exact zq1904) : a := h
theorem zq1902 (h : a := by
 refine zm1 ?_
 exact zq1903) : a := h
theorem zq1901 (h : a := by
 refine zm1 ?_
 exact zq1902) : a := h
theorem zq1900 (h : a := by
 refine zm1 ?_
 exact zq1901) : a := h
theorem zq1899 (h : a := by
 refine zm1 ?_
 exact zq1900) : a := h
theorem zq1898 (h : a := by
 refine zm0 ?_
 exact zq1899) : a := h
theorem zq1897 (h : a := by
 refine zm0 ?_
 exact zq1898) : a := h
theorem zq1896 (h : a := by
 refine zm1 ?_
 exact zq1897) : a := h
theorem zq1895 (h : a := by
 refine zm1 ?_
 exact zq1896) : a := h
theorem zq1894 (h : a := by
 refine zm1 ?_
 exact zq1895) : a := h
theorem zq1893 (h : a := by
 refine zm1 ?_
 exact zq1894) : a := h
theorem zq1892 (h : a := by
 refine zm0 ?_
 exact zq1893) : a := h
theorem zq1891 (h : a := by
 refine zm0 ?_
 exact zq1892) : a := h
theorem zq1890 (h : a := by
 refine zm1 ?_
 exact zq1891) : a := h
theorem zq1889 (h : a := by
 refine zm1 ?_
 exact zq1890) : a := h
theorem zq1888 (h : a := by
 refine zm1 ?_
 exact zq1889) : a := h
theorem zq1887 (h : a := by
 refine zm1 ?_
 exact zq1888) : a := h
theorem zq1886 (h : a := by
 refine zm0 ?_
 exact zq1887) : a := h
theorem zq1885 (h : a := by
 refine zm0 ?_
 exact zq1886) : a := h
theorem zq1884 (h : a := by
 refine zm1 ?_
 exact zq1885) : a := h
theorem zq1883 (h : a := by
 refine zm1 ?_
 exact zq1884) : a := h
theorem zq1882 (h : a := by
 refine zm1 ?_
 exact zq1883) : a := h
theorem zq1881 (h : a := by
 refine zm1 ?_
 exact zq1882) : a := h
theorem zq1910 (h : a := by
 refine zm0 ?_
 exact zq1911) : a := h
theorem zq1918 (h : a := by
 refine zm0 ?_
 exact zq1919) : a := h
theorem zq1924 (h : a := by
 refine zm1 ?_
 exact zq1918) : a := h
theorem zq1923 (h : a := by
 refine zm1 ?_
 exact zq1924) : a := h
theorem zq1922 (h : a := by
 refine zm1 ?_
 exact zq1923) : a := h
theorem zq1921 (h : a := by
 refine zm1 ?_
 exact zq1922) : a := h
theorem zq1929 (h : a := by
 refine zm0 ?_
 exact zq1930) : a := h
theorem zq1927 (h : a := by
 refine zm0 ?_
 exact zq1928) : a := h
theorem zq1947 (h : a := by
 refine zm0 ?_
 exact zq1948) : a := h
theorem zq1946 (h : a := by
 refine zm1 ?_
 exact zq1947) : a := h
theorem zq1945 (h : a := by
 refine zm1 ?_
 exact zq1946) : a := h
theorem zq1944 (h : a := by
 refine zm1 ?_
 exact zq1945) : a := h
theorem zq1943 (h : a := by
 refine zm1 ?_
 exact zq1944) : a := h
theorem zq1942 (h : a := by
 refine zm1 ?_
 exact zq1943) : a := h
theorem zq1941 (h : a := by
 refine zm1 ?_
 exact zq1942) : a := h
theorem zq1940 (h : a := by
 refine zm1 ?_
 exact zq1941) : a := h
theorem zq1939 (h : a := by
 refine zm0 ?_
 exact zq1940) : a := h
theorem zq1938 (h : a := by
 refine zm0 ?_
 exact zq1939) : a := h
theorem zq1937 (h : a := by
 refine zm1 ?_
 exact zq1938) : a := h
theorem zq1936 (h : a := by
 refine zm1 ?_
 exact zq1937) : a := h
theorem zq1935 (h : a := by
 refine zm1 ?_
 exact zq1936) : a := h
theorem zq1934 (h : a := by
 refine zm1 ?_
 exact zq1935) : a := h
theorem zq1933 (h : a := by
 refine zm1 ?_
 exact zq1934) : a := h
theorem zq1932 (h : a := by
 refine zm1 ?_
 exact zq1933) : a := h
theorem zq1954 (h : a := by
 refine zm0 ?_
 exact zq1955) : a := h
theorem zq1980 (h : a := by
 refine zm0 ?_
 exact zq1981) : a := h
theorem zq1979 (h : a := by
 refine zm0 ?_
 exact zq1980) : a := h
theorem zq1978 (h : a := by
 refine zm0 ?_
 exact zq1979) : a := h
theorem zq1977 (h : a := by
 refine zm0 ?_
 exact zq1978) : a := h
theorem zq1976 (h : a := by
 refine zm0 ?_
 exact zq1977) : a := h
theorem zq2006 (h : a := by
 refine zm0 ?_
 exact zq2007) : a := h
theorem zq2004 (h : a := by
 refine zm0 ?_
 exact zq2005) : a := h
theorem zq1999 (h : a := by
 refine zm0 ?_
 exact zq2000) : a := h
theorem zq1995 (h : a := by
 refine zm0 ?_
 exact zq1996) : a := h
theorem zq1970 (h : a := by
 refine zm0 ?_
 exact zq1971) : a := h
theorem zq1969 (h : a := by
 refine zm0 ?_
 exact zq1970) : a := h
theorem zq1963 (h : a := by
 refine zm5 ?_
 exact zq1964) : a := h
theorem zq2027 (h : a := by
 refine zm0 ?_
 exact zq2028) : a := h
theorem zq2019 (h : a := by
 refine zm3 ?_
 exact zq2020) : a := h
theorem zq2013 (h : a := by
 refine zm7 ?_
 exact zq2014) : a := h
theorem zq2009 (h : a := by
 refine zm7 ?_
 exact zq2010) : a := h
theorem zq2052 (h : a := by
 refine zm0 ?_
 exact zq2053) : a := h
theorem zq2047 (h : a := by
 refine zm0 ?_
 exact zq2048) : a := h
theorem zq2046 (h : a := by
 refine zm0 ?_
 exact zq2047) : a := h
theorem zq2045 (h : a := by
 refine zm1 ?_
 exact zq2046) : a := h
theorem zq2044 (h : a := by
 refine zm1 ?_
 exact zq2045) : a := h
theorem zq2078 (h : a := by
 refine zm0 ?_
 exact zq2079) : a := h
theorem zq2077 (h : a := by
 refine zm0 ?_
 exact zq2078) : a := h
theorem zq2076 (h : a := by
 refine zm0 ?_
 exact zq2077) : a := h
theorem zq2265 (h : a := by
 refine zm7 ?_
 exact zq2266) : a := h
theorem zq2264 (h : a := by
 refine zm3 ?_
 exact zq2265) : a := h
theorem zq2259 (h : a := by
 refine zm7 ?_
 exact zq2260) : a := h
theorem zq2256 (h : a := by
 refine zm5 ?_
 exact zq2257) : a := h
theorem zq2254 (h : a := by
 refine zm3 ?_
 exact zq2255) : a := h
theorem zq2252 (h : a := by
 refine zm5 ?_
 exact zq2253) : a := h
theorem zq2250 (h : a := by
 refine zm3 ?_
 exact zq2251) : a := h
theorem zq2249 (h : a := by
 refine zm3 ?_
 exact zq2250) : a := h
theorem zq2247 (h : a := by
 refine zm5 ?_
 exact zq2248) : a := h
theorem zq2246 (h : a := by
 refine zm5 ?_
 exact zq2247) : a := h
theorem zq2244 (h : a := by
 refine zm3 ?_
 exact zq2245) : a := h
theorem zq2243 (h : a := by
 refine zm3 ?_
 exact zq2244) : a := h
theorem zq2241 (h : a := by
 refine zm5 ?_
 exact zq2242) : a := h
theorem zq2232 (h : a := by
 refine zm0 ?_
 exact zq2233) : a := h
theorem zq2228 (h : a := by
 refine zm0 ?_
 exact zq2229) : a := h
theorem zq2227 (h : a := by
 refine zm0 ?_
 exact zq2228) : a := h
theorem zq2226 (h : a := by
 refine zm0 ?_
 exact zq2227) : a := h
theorem zq2225 (h : a := by
 refine zm0 ?_
 exact zq2226) : a := h
theorem zq2218 (h : a := by
 refine zm7 ?_
 exact zq2219) : a := h
theorem zq2217 (h : a := by
 refine zm3 ?_
 exact zq2218) : a := h
theorem zq2212 (h : a := by
 refine zm7 ?_
 exact zq2213) : a := h
theorem zq2209 (h : a := by
 refine zm5 ?_
 exact zq2210) : a := h
theorem zq2207 (h : a := by
 refine zm3 ?_
 exact zq2208) : a := h
theorem zq2205 (h : a := by
 refine zm5 ?_
 exact zq2206) : a := h
theorem zq2203 (h : a := by
 refine zm3 ?_
 exact zq2204) : a := h
theorem zq2202 (h : a := by
 refine zm3 ?_
 exact zq2203) : a := h
theorem zq2200 (h : a := by
 refine zm5 ?_
 exact zq2201) : a := h
theorem zq2199 (h : a := by
 refine zm5 ?_
 exact zq2200) : a := h
theorem zq2197 (h : a := by
 refine zm3 ?_
 exact zq2198) : a := h
theorem zq2196 (h : a := by
 refine zm3 ?_
 exact zq2197) : a := h
theorem zq2194 (h : a := by
 refine zm5 ?_
 exact zq2195) : a := h
theorem zq2184 (h : a := by
 refine zm0 ?_
 exact zq2185) : a := h
theorem zq2180 (h : a := by
 refine zm0 ?_
 exact zq2181) : a := h
theorem zq2179 (h : a := by
 refine zm0 ?_
 exact zq2180) : a := h
theorem zq2178 (h : a := by
 refine zm0 ?_
 exact zq2179) : a := h
theorem zq2177 (h : a := by
 refine zm0 ?_
 exact zq2178) : a := h
theorem zq2172 (h : a := by
 refine zm5 ?_
 exact zq2173) : a := h
theorem zq2171 (h : a := by
 refine zm5 ?_
 exact zq2172) : a := h
theorem zq2167 (h : a := by
 refine zm7 ?_
 exact zq2168) : a := h
theorem zq2163 (h : a := by
 refine zm7 ?_
 exact zq2164) : a := h
theorem zq2160 (h : a := by
 refine zm3 ?_
 exact zq2161) : a := h
theorem zq2158 (h : a := by
 refine zm3 ?_
 exact zq2159) : a := h
theorem zq2156 (h : a := by
 refine zm5 ?_
 exact zq2157) : a := h
theorem zq2153 (h : a := by
 refine zm3 ?_
 exact zq2154) : a := h
theorem zq2151 (h : a := by
 refine zm3 ?_
 exact zq2152) : a := h
theorem zq2149 (h : a := by
 refine zm5 ?_
 exact zq2150) : a := h
theorem zq2285 (h : a := by
 refine zm7 ?_
 exact zq2286) : a := h
theorem zq2282 (h : a := by
 refine zm3 ?_
 exact zq2283) : a := h
theorem zq2281 (h : a := by
 refine zm3 ?_
 exact zq2282) : a := h
theorem zq2279 (h : a := by
 refine zm5 ?_
 exact zq2280) : a := h
theorem zq2276 (h : a := by
 refine zm3 ?_
 exact zq2277) : a := h
theorem zq2274 (h : a := by
 refine zm3 ?_
 exact zq2275) : a := h
theorem zq2272 (h : a := by
 refine zm5 ?_
 exact zq2273) : a := h
theorem zq2142 (h : a := by
 refine zm0 ?_
 exact zq2143) : a := h
theorem zq2137 (h : a := by
 refine zm0 ?_
 exact zq2138) : a := h
theorem zq2131 (h : a := by
 refine zm6 ?_
 exact zq2132) : a := h
theorem zq2124 (h : a := by
 refine zm0 ?_
 exact zq2125) : a := h
theorem zq2116 (h : a := by
 refine zm6 ?_
 exact zq2117) : a := h
theorem zq2114 (h : a := by
 refine zm0 ?_
 exact zq2115) : a := h
theorem zq2113 (h : a := by
 refine zm0 ?_
 exact zq2114) : a := h
theorem zq2112 (h : a := by
 refine zm0 ?_
 exact zq2113) : a := h
theorem zq2306 (h : a := by
 refine zm7 ?_
 exact zq2307) : a := h
theorem zq2302 (h : a := by
 refine zm7 ?_
 exact zq2303) : a := h
theorem zq2301 (h : a := by
 refine zm5 ?_
 exact zq2302) : a := h
theorem zq2298 (h : a := by
 refine zm3 ?_
 exact zq2299) : a := h
theorem zq2296 (h : a := by
 refine zm3 ?_
 exact zq2297) : a := h
theorem zq2294 (h : a := by
 refine zm5 ?_
 exact zq2295) : a := h
theorem zq2293 (h : a := by
 refine zm5 ?_
 exact zq2294) : a := h
theorem zq2292 (h : a := by
 refine zm5 ?_
 exact zq2293) : a := h
theorem zq2099 (h : a := by
 refine zm0 ?_
 exact zq2100) : a := h
theorem zq2098 (h : a := by
 refine zm0 ?_
 exact zq2099) : a := h
theorem zq2097 (h : a := by
 refine zm8 ?_
 exact zq2098) : a := h
theorem zq2093 (h : a := by
 refine zm8 ?_
 exact zq2094) : a := h
theorem zq2321 (h : a := by
 refine zm0 ?_
 exact zq2322) : a := h
theorem zq2320 (h : a := by
 refine zm0 ?_
 exact zq2321) : a := h
theorem zq2319 (h : a := by
 refine zm1 ?_
 exact zq2320) : a := h
theorem zq2318 (h : a := by
 refine zm1 ?_
 exact zq2319) : a := h
theorem zq2317 (h : a := by
 refine zm1 ?_
 exact zq2318) : a := h
theorem zq2316 (h : a := by
 refine zm1 ?_
 exact zq2317) : a := h
theorem zq2315 (h : a := by
 refine zm1 ?_
 exact zq2316) : a := h
theorem zq2090 (h : a := by
 refine zm0 ?_
 exact zq2091) : a := h
theorem zq2089 (h : a := by
 refine zm0 ?_
 exact zq2090) : a := h
theorem zq2086 (h : a := by
 refine zm6 ?_
 exact zq2087) : a := h
theorem zq2071 (h : a := by
 refine zm0 ?_
 exact zq2072) : a := h
theorem zq2070 (h : a := by
 refine zm0 ?_
 exact zq2071) : a := h
theorem zq2068 (h : a := by
 refine zm6 ?_
 exact zq2069) : a := h
theorem zq2062 (h : a := by
 refine zm0 ?_
 exact zq2063) : a := h
theorem zq2061 (h : a := by
 refine zm0 ?_
 exact zq2062) : a := h
theorem zq2060 (h : a := by
 refine zm8 ?_
 exact zq2061) : a := h
theorem zq2059 (h : a := by
 refine zm8 ?_
 exact zq2060) : a := h
theorem zq2041 (h : a := by
 refine zm0 ?_
 exact zq2042) : a := h
theorem zq2040 (h : a := by
 refine zm0 ?_
 exact zq2041) : a := h
theorem zq2038 (h : a := by
 refine zm6 ?_
 exact zq2039) : a := h
theorem zq2036 (h : a := by
 refine zm0 ?_
 exact zq2037) : a := h
theorem zq2331 (h : a := by
 refine zm0 ?_
 exact zq2332) : a := h
theorem zq2330 (h : a := by
 refine zm0 ?_
 exact zq2331) : a := h
theorem zq2329 (h : a := by
 refine zm1 ?_
 exact zq2330) : a := h
theorem zq2328 (h : a := by
 refine zm1 ?_
 exact zq2329) : a := h
theorem zq2327 (h : a := by
 refine zm1 ?_
 exact zq2328) : a := h
theorem zq2326 (h : a := by
 refine zm1 ?_
 exact zq2327) : a := h
theorem zq2325 (h : a := by
 refine zm1 ?_
 exact zq2326) : a := h
theorem zq2375 (h : a := by
 refine zm0 ?_
 exact zq2376) : a := h
theorem zq2373 (h : a := by
 refine zm0 ?_
 exact zq2374) : a := h
theorem zq2364 (h : a := by
 refine zm0 ?_
 exact zq2365) : a := h
theorem zq2359 (h : a := by
 refine zm0 ?_
 exact zq2360) : a := h
theorem zq2357 (h : a := by
 refine zm0 ?_
 exact zq2358) : a := h
theorem zq2356 (h : a := by
 refine zm0 ?_
 exact zq2357) : a := h
theorem zq2347 (h : a := by
 refine zm3 ?_
 exact zq2348) : a := h
theorem zq2341 (h : a := by
 refine zm7 ?_
 exact zq2342) : a := h
theorem zq2335 (h : a := by
 refine zm7 ?_
 exact zq2336) : a := h
theorem zq2418 (h : a := by
 refine zm0 ?_
 exact zq2419) : a := h
theorem zq2416 (h : a := by
 refine zm0 ?_
 exact zq2417) : a := h
theorem zq2407 (h : a := by
 refine zm0 ?_
 exact zq2408) : a := h
theorem zq2402 (h : a := by
 refine zm0 ?_
 exact zq2403) : a := h
theorem zq2400 (h : a := by
 refine zm0 ?_
 exact zq2401) : a := h
theorem zq2399 (h : a := by
 refine zm0 ?_
 exact zq2400) : a := h
theorem zq2390 (h : a := by
 refine zm3 ?_
 exact zq2391) : a := h
theorem zq2384 (h : a := by
 refine zm7 ?_
 exact zq2385) : a := h
theorem zq2378 (h : a := by
 refine zm7 ?_
 exact zq2379) : a := h
theorem zq2428 (h : a := by
 refine zm0 ?_
 exact zq2429) : a := h
theorem zq2426 (h : a := by
 refine zm0 ?_
 exact zq2427) : a := h
theorem zq2421 (h : a := by
 refine zm0 ?_
 exact zq2422) : a := h
theorem zq2431 (h : a := by
 refine zm0 ?_
 exact zq2432) : a := h
theorem zq2463 (h : a := by
 refine zm0 ?_
 exact zq2464) : a := h
theorem zq2461 (h : a := by
 refine zm0 ?_
 exact zq2462) : a := h
theorem zq2446 (h : a := by
 refine zm0 ?_
 exact zq2447) : a := h
theorem zq2443 (h : a := by
 refine zm6 ?_
 exact zq2444) : a := h
theorem zq2442 (h : a := by
 refine zm0 ?_
 exact zq2443) : a := h
theorem zq2544 (h : a := by
 refine zm0 ?_
 exact zq2545) : a := h
theorem zq2542 (h : a := by
 refine zm0 ?_
 exact zq2543) : a := h
theorem zq2525 (h : a := by
 refine zm3 ?_
 exact zq2526) : a := h
theorem zq2523 (h : a := by
 refine zm5 ?_
 exact zq2524) : a := h
theorem zq2521 (h : a := by
 refine zm3 ?_
 exact zq2522) : a := h
theorem zq2517 (h : a := by
 refine zm3 ?_
 exact zq2518) : a := h
theorem zq2515 (h : a := by
 refine zm5 ?_
 exact zq2516) : a := h
theorem zq2513 (h : a := by
 refine zm3 ?_
 exact zq2514) : a := h
theorem zq2512 (h : a := by
 refine zm5 ?_
 exact zq2513) : a := h
theorem zq2510 (h : a := by
 refine zm3 ?_
 exact zq2511) : a := h
theorem zq2508 (h : a := by
 refine zm5 ?_
 exact zq2509) : a := h
theorem zq2506 (h : a := by
 refine zm3 ?_
 exact zq2507) : a := h
theorem zq2505 (h : a := by
 refine zm5 ?_
 exact zq2506) : a := h
theorem zq2567 (h : a := by
 refine zm3 ?_
 exact zq2568) : a := h
theorem zq2565 (h : a := by
 refine zm5 ?_
 exact zq2566) : a := h
theorem zq2563 (h : a := by
 refine zm3 ?_
 exact zq2564) : a := h
theorem zq2559 (h : a := by
 refine zm3 ?_
 exact zq2560) : a := h
theorem zq2557 (h : a := by
 refine zm5 ?_
 exact zq2558) : a := h
theorem zq2555 (h : a := by
 refine zm3 ?_
 exact zq2556) : a := h
theorem zq2554 (h : a := by
 refine zm5 ?_
 exact zq2555) : a := h
theorem zq2553 (h : a := by
 refine zm3 ?_
 exact zq2554) : a := h
theorem zq2551 (h : a := by
 refine zm5 ?_
 exact zq2552) : a := h
theorem zq2549 (h : a := by
 refine zm3 ?_
 exact zq2550) : a := h
theorem zq2548 (h : a := by
 refine zm5 ?_
 exact zq2549) : a := h
theorem zq2599 (h : a := by
 refine zm3 ?_
 exact zq2573) : a := h
theorem zq2591 (h : a := by
 refine zm3 ?_
 exact zq2592) : a := h
theorem zq2589 (h : a := by
 refine zm5 ?_
 exact zq2590) : a := h
theorem zq2587 (h : a := by
 refine zm3 ?_
 exact zq2588) : a := h
theorem zq2583 (h : a := by
 refine zm3 ?_
 exact zq2584) : a := h
theorem zq2581 (h : a := by
 refine zm5 ?_
 exact zq2582) : a := h
theorem zq2579 (h : a := by
 refine zm3 ?_
 exact zq2580) : a := h
theorem zq2578 (h : a := by
 refine zm5 ?_
 exact zq2579) : a := h
theorem zq2577 (h : a := by
 refine zm5 ?_
 exact zq2578) : a := h
theorem zq2576 (h : a := by
 refine zm3 ?_
 exact zq2577) : a := h
theorem zq2575 (h : a := by
 refine zm5 ?_
 exact zq2576) : a := h
theorem zq2493 (h : a := by
 refine zm6 ?_
 exact zq2494) : a := h
theorem zq2491 (h : a := by
 refine zm0 ?_
 exact zq2492) : a := h
theorem zq2489 (h : a := by
 refine zm6 ?_
 exact zq2490) : a := h
theorem zq2488 (h : a := by
 refine zm0 ?_
 exact zq2489) : a := h
theorem zq2609 (h : a := by
 refine zm0 ?_
 exact zq2610) : a := h
theorem zq2607 (h : a := by
 refine zm0 ?_
 exact zq2608) : a := h
theorem zq2478 (h : a := by
 refine zm6 ?_
 exact zq2479) : a := h
theorem zq2476 (h : a := by
 refine zm0 ?_
 exact zq2477) : a := h
theorem zq2474 (h : a := by
 refine zm6 ?_
 exact zq2475) : a := h
theorem zq116 (h : a := by
 refine zm166 ?_
 exact zq117) : a := h
theorem zq199 (h : a := by
 refine zm172 ?_
 exact zq200) : a := h
theorem zq368 (h : a := by
 refine zm274 ?_
 exact zq369) : a := h
theorem zq367 (h : a := by
 refine zm170 ?_
 exact zq368) : a := h
theorem zq456 (h : a := by
 refine zm172 ?_
 exact zq457) : a := h
theorem zq450 (h : a := by
 refine zm172 ?_
 exact zq451) : a := h
theorem zq442 (h : a := by
 refine zm172 ?_
 exact zq443) : a := h
theorem zq436 (h : a := by
 refine zm172 ?_
 exact zq437) : a := h
theorem zq555 (h : a := by
 refine zm140 ?_
 exact zq556) : a := h
theorem zq583 (h : a := by
 refine zm177 ?_
 exact zq584) : a := h
theorem zq653 (h : a := by
 refine zm177 ?_
 exact zq654) : a := h
theorem zq629 (h : a := by
 refine zm137 ?_
 exact zq630) : a := h
theorem zq757 (h : a := by
 refine zm125 ?_
 exact zq758) : a := h
theorem zq776 (h : a := by
 refine zm165 ?_
 exact zq774) : a := h
theorem zq777 (h : a := by
 refine zm181 ?_
 exact zq778) : a := h
theorem zq809 (h : a := by
 refine zm482 ?_
 exact zq810) : a := h
theorem zq801 (h : a := by
 refine zm125 ?_
 exact zq802) : a := h
theorem zq796 (h : a := by
 refine zm233 ?_
 exact zq797) : a := h
theorem zq792 (h : a := by
 rw [hC2] at hz4
 exact zq793) : a := h
theorem zq811 (h : a := by
 refine zm181 ?_
 exact zq812) : a := h
theorem zq852 (h : a := by
 refine zm125 ?_
 exact zq853) : a := h
theorem zq847 (h : a := by
 refine zm233 ?_
 exact zq848) : a := h
theorem zq842 (h : a := by
 refine zm204 ?_
 exact zq843) : a := h
theorem zq840 (h : a := by
 refine zm170 ?_
 exact zq841) : a := h
theorem zq835 (h : a := by
 refine zm204 ?_
 exact zq836) : a := h
theorem zq892 (h : a := by
 refine zm140 ?_
 exact zq889) : a := h
theorem zq902 (h : a := by
 refine zm140 ?_
 exact zq903) : a := h
theorem zq1002 (h : a := by
 refine zm16 ?_
 exact zq1003) : a := h
theorem zq1081 (h : a := by
 refine zm14 ?_
 exact zq1082) : a := h
theorem zq1095 (h : a := by
 refine zm16 ?_
 exact zq1096) : a := h
theorem zq1182 (h : a := by
 refine zm22 ?_
 exact zq1175) : a := h
theorem zq1238 (h : a := by
 refine zm39 ?_
 exact zq1239) : a := h
theorem zq1259 (h : a := by
 refine zm16 ?_
 exact zq1260) : a := h
theorem zq1248 (h : a := by
 refine zm18 ?_
 exact zq1249) : a := h
theorem zq1263 (h : a := by
 refine zm25 ?_
 exact zq1264) : a := h
theorem zq1352 (h : a := by
 refine zm16 ?_
 exact zq1353) : a := h
theorem zq1346 (h : a := by
 exact TC.condF rfl (zq1347)) : a := h
theorem zq1425 (h : a := by
 refine zm16 ?_
 exact zq1426) : a := h
theorem zq1396 (h : a := by
 refine zm29 ?_
 exact zq1397) : a := h
theorem zq1394 (h : a := by
 refine zm54 ?_
 exact zq1395) : a := h
theorem zq1476 (h : a := by
 refine zm54 ?_
 exact zq1477) : a := h
theorem zq1470 (h : a := by
 refine zm74 ?_
 exact zq1471) : a := h
theorem zq1468 (h : a := by
 refine zm54 ?_
 exact zq1469) : a := h
theorem zq1464 (h : a := by
 refine zm29 ?_
 exact zq1465) : a := h
theorem zq1462 (h : a := by
 refine zm54 ?_
 exact zq1463) : a := h
theorem zq1440 (h : a := by
 refine zm29 ?_
 exact zq1441) : a := h
theorem zq1438 (h : a := by
 refine zm54 ?_
 exact zq1439) : a := h
theorem zq1380 (h : a := by
 refine zm29 ?_
 exact zq1381) : a := h
theorem zq1378 (h : a := by
 refine zm54 ?_
 exact zq1379) : a := h
theorem zq1497 (h : a := by
 exact TC.condT rfl (zq1498)) : a := h
theorem zq1518 (h : a := by
 refine zm75 ?_
 exact zq1519) : a := h
theorem zq1574 (h : a := by
 exact TC.condF rfl (zq1531)) : a := h
theorem zq1592 (h : a := by
 refine zm39 ?_
 exact zq1593) : a := h
theorem zq1591 (h : a := by
 refine zm14 ?_
 exact zq1592) : a := h
theorem zq1656 (h : a := by
 refine zm14 ?_
 exact zq1657) : a := h
theorem zq1674 (h : a := by
 refine zm16 ?_
 exact zq1675) : a := h
theorem zq1642 (h : a := by
 refine zm39 ?_
 exact zq1643) : a := h
theorem zq1773 (h : a := by
 refine zm14 ?_
 exact zq1774) : a := h
theorem zq1816 (h : a := by
 refine zm16 ?_
 exact zq1817) : a := h
theorem zq1802 (h : a := by
 refine zm18 ?_
 exact zq1803) : a := h
theorem zq1791 (h : a := by
 refine zm25 ?_
 exact zq1792) : a := h
theorem zq1745 (h : a := by
 refine zm39 ?_
 exact zq1746) : a := h
theorem zq1829 (h : a := by
 refine zm19 ?_
 exact zq1830) : a := h
theorem zq1691 (h : a := by
 refine zm39 ?_
 exact zq1692) : a := h
theorem zq1689 (h : a := by
 refine zm14 ?_
 exact zq1690) : a := h
theorem zq1928 (h : a := by
 refine zm16 ?_
 exact zq1929) : a := h
theorem zq1953 (h : a := by
 refine zm39 ?_
 exact zq1954) : a := h
theorem zq1952 (h : a := by
 refine zm14 ?_
 exact zq1953) : a := h
theorem zq2005 (h : a := by
 refine zm16 ?_
 exact zq2006) : a := h
theorem zq1996 (h : a := by
 refine zm19 ?_
 exact zq1997) : a := h
theorem zq1961 (h : a := by
 refine zm39 ?_
 exact zq1962) : a := h
theorem zq2028 (h : a := by
 refine zm19 ?_
 exact zq2029) : a := h
theorem zq2021 (h : a := by
 refine zm74 ?_
 exact zq2022) : a := h
theorem zq2050 (h : a := by
 exact TC.condT rfl (zq2051)) : a := h
theorem zq2257 (h : a := by
 refine zm18 ?_
 exact zq2258) : a := h
theorem zq2235 (h : a := by
 refine zm25 ?_
 exact zq2236) : a := h
theorem zq2210 (h : a := by
 refine zm18 ?_
 exact zq2211) : a := h
theorem zq2188 (h : a := by
 refine zm25 ?_
 exact zq2189) : a := h
theorem zq2146 (h : a := by
 refine zm25 ?_
 exact zq2147) : a := h
theorem zq2138 (h : a := by
 refine zm19 ?_
 exact zq2139) : a := h
theorem zq2115 (h : a := by
 refine zm54 ?_
 exact zq2116) : a := h
theorem zq2107 (h : a := by
 refine zm39 ?_
 exact zq2108) : a := h
theorem zq2290 (h : a := by
 refine zm25 ?_
 exact zq2291) : a := h
theorem zq2095 (h : a := by
 refine zm43 ?_
 exact zq2096) : a := h
theorem zq2324 (h : a := by
 exact TC.condF rfl (zq2290)) : a := h
theorem zq2087 (h : a := by
 refine zm29 ?_
 exact zq2088) : a := h
theorem zq2069 (h : a := by
 refine zm29 ?_
 exact zq2070) : a := h
theorem zq2037 (h : a := by
 refine zm54 ?_
 exact zq2038) : a := h
theorem zq2334 (h : a := by
 exact TC.condF rfl (zq2034)) : a := h
theorem zq2374 (h : a := by
 refine zm16 ?_
 exact zq2375) : a := h
theorem zq2365 (h : a := by
 refine zm19 ?_
 exact zq2366) : a := h
theorem zq2349 (h : a := by
 refine zm74 ?_
 exact zq2350) : a := h
theorem zq2417 (h : a := by
 refine zm16 ?_
 exact zq2418) : a := h
theorem zq2408 (h : a := by
 refine zm19 ?_
 exact zq2409) : a := h
theorem zq2392 (h : a := by
 refine zm74 ?_
 exact zq2393) : a := h
theorem zq2427 (h : a := by
 refine zm16 ?_
 exact zq2428) : a := h
theorem zq2462 (h : a := by
 refine zm16 ?_
 exact zq2463) : a := h
theorem zq2444 (h : a := by
 refine zm29 ?_
 exact zq2445) : a := h
theorem zq2543 (h : a := by
 refine zm16 ?_
 exact zq2544) : a := h
theorem zq2531 (h : a := by
 refine zm71 ?_
 exact zq2532) : a := h
theorem zq2526 (h : a := by
 refine zm95 ?_
 exact zq2527) : a := h
theorem zq2524 (h : a := by
 refine zm80 ?_
 exact zq2525) : a := h
theorem zq2522 (h : a := by
 refine zm42 ?_
 exact zq2523) : a := h
theorem zq2519 (h : a := by
 refine zm71 ?_
 exact zq2520) : a := h
theorem zq2518 (h : a := by
 refine zm95 ?_
 exact zq2519) : a := h
theorem zq2516 (h : a := by
 refine zm80 ?_
 exact zq2517) : a := h
theorem zq2514 (h : a := by
 refine zm42 ?_
 exact zq2515) : a := h
theorem zq2511 (h : a := by
 refine zm95 ?_
 exact zq2512) : a := h
theorem zq2509 (h : a := by
 refine zm80 ?_
 exact zq2510) : a := h
theorem zq2507 (h : a := by
 refine zm42 ?_
 exact zq2508) : a := h
theorem zq2573 (h : a := by
 refine zm95 ?_
 exact zq2531) : a := h
theorem zq2568 (h : a := by
 refine zm95 ?_
 exact zq2569) : a := h
theorem zq2566 (h : a := by
 refine zm80 ?_
 exact zq2567) : a := h
theorem zq2564 (h : a := by
 refine zm42 ?_
 exact zq2565) : a := h
theorem zq2561 (h : a := by
 refine zm71 ?_
 exact zq2562) : a := h
theorem zq2560 (h : a := by
 refine zm95 ?_
 exact zq2561) : a := h
theorem zq2558 (h : a := by
 refine zm80 ?_
 exact zq2559) : a := h
theorem zq2556 (h : a := by
 refine zm42 ?_
 exact zq2557) : a := h
theorem zq2552 (h : a := by
 refine zm80 ?_
 exact zq2553) : a := h
theorem zq2550 (h : a := by
 refine zm42 ?_
 exact zq2551) : a := h
theorem zq2598 (h : a := by
 refine zm80 ?_
 exact zq2599) : a := h
theorem zq2592 (h : a := by
 refine zm95 ?_
 exact zq2593) : a := h
theorem zq2590 (h : a := by
 refine zm80 ?_
 exact zq2591) : a := h
theorem zq2588 (h : a := by
 refine zm42 ?_
 exact zq2589) : a := h
theorem zq2585 (h : a := by
 refine zm71 ?_
 exact zq2586) : a := h
theorem zq2584 (h : a := by
 refine zm95 ?_
 exact zq2585) : a := h
theorem zq2582 (h : a := by
 refine zm80 ?_
 exact zq2583) : a := h
theorem zq2580 (h : a := by
 refine zm42 ?_
 exact zq2581) : a := h
theorem zq2501 (h : a := by
 refine zm25 ?_
 exact zq2502) : a := h
theorem zq2490 (h : a := by
 refine zm29 ?_
 exact zq2491) : a := h
theorem zq2608 (h : a := by
 refine zm16 ?_
 exact zq2609) : a := h
theorem zq2475 (h : a := by
 refine zm29 ?_
 exact zq2476) : a := h
theorem zq2466 (h : a := by
 refine zm71 ?_
 exact zq2467) : a := h
theorem zq2612 (h : a := by
 refine zm95 ?_
 exact zq2466) : a := h
theorem zq1042 (h : a := by
 refine zm128 ?_
 exact zq1043) : a := h
theorem zq1051 (h : a := by
 refine zm140 ?_
 exact zq1052) : a := h
theorem zq1058 (h : a := by
 refine zm128 ?_
 exact zq1059) : a := h
theorem zq1089 (h : a := by
 refine zm243 ?_
 exact zq1090) : a := h
theorem zq1174 (h : a := by
 refine zm237 ?_
 exact zq1175) : a := h
theorem zq1294 (h : a := by
 refine zm246 ?_
 exact zq1295) : a := h
theorem zq1265 (h : a := by
 refine zm483 ?_
 exact zq1266) : a := h
theorem zq1301 (h : a := by
 refine zm484 ?_
 exact zq1302) : a := h
theorem zq1480 (h : a := by
 refine zm485 ?_
 exact zq1481) : a := h
theorem zq1478 (h : a := by
 refine zm170 ?_
 exact zq1479) : a := h
theorem zq1441 (h : a := by
 refine zm143 ?_
 exact zq1442) : a := h
theorem zq1381 (h : a := by
 refine zm143 ?_
 exact zq1382) : a := h
theorem zq1366 (h : a := by
 have hN1 := hB2
 exact zq1367) : a := h
theorem zq1537 (h : a := by
 refine zm247 ?_
 exact zq1538) : a := h
theorem zq1657 (h : a := by
 refine zm128 ?_
 exact zq1658) : a := h
theorem zq1775 (h : a := by
 refine zm321 ?_
 exact zq1776) : a := h
theorem zq1809 (h : a := by
 refine zm243 ?_
 exact zq1810) : a := h
theorem zq1806 (h : a := by
 refine zm208 ?_
 exact zq1807) : a := h
theorem zq1800 (h : a := by
 refine zm292 ?_
 exact zq1801) : a := h
theorem zq1792 (h : a := by
 refine zm486 ?_
 exact zq1793) : a := h
theorem zq1830 (h : a := by
 refine zm128 ?_
 exact zq1831) : a := h
theorem zq2267 (h : a := by
 refine zm129 ?_
 exact zq2268) : a := h
theorem zq2263 (h : a := by
 refine zm409 ?_
 exact zq2264) : a := h
theorem zq2262 (h : a := by
 refine zm129 ?_
 exact zq2263) : a := h
theorem zq2253 (h : a := by
 refine zm409 ?_
 exact zq2254) : a := h
theorem zq2251 (h : a := by
 refine zm293 ?_
 exact zq2252) : a := h
theorem zq2248 (h : a := by
 refine zm111 ?_
 exact zq2249) : a := h
theorem zq2245 (h : a := by
 refine zm293 ?_
 exact zq2246) : a := h
theorem zq2242 (h : a := by
 refine zm111 ?_
 exact zq2243) : a := h
theorem zq2236 (h : a := by
 refine zm402 ?_
 exact zq2237) : a := h
theorem zq2220 (h : a := by
 refine zm208 ?_
 exact zq2221) : a := h
theorem zq2216 (h : a := by
 refine zm410 ?_
 exact zq2217) : a := h
theorem zq2215 (h : a := by
 refine zm208 ?_
 exact zq2216) : a := h
theorem zq2206 (h : a := by
 refine zm410 ?_
 exact zq2207) : a := h
theorem zq2204 (h : a := by
 refine zm353 ?_
 exact zq2205) : a := h
theorem zq2201 (h : a := by
 refine zm111 ?_
 exact zq2202) : a := h
theorem zq2198 (h : a := by
 refine zm353 ?_
 exact zq2199) : a := h
theorem zq2195 (h : a := by
 refine zm111 ?_
 exact zq2196) : a := h
theorem zq2189 (h : a := by
 refine zm487 ?_
 exact zq2190) : a := h
theorem zq2170 (h : a := by
 refine zm262 ?_
 exact zq2171) : a := h
theorem zq2166 (h : a := by
 refine zm262 ?_
 exact zq2167) : a := h
theorem zq2162 (h : a := by
 refine zm263 ?_
 exact zq2163) : a := h
theorem zq2161 (h : a := by
 refine zm205 ?_
 exact zq2162) : a := h
theorem zq2159 (h : a := by
 refine zm165 ?_
 exact zq2160) : a := h
theorem zq2157 (h : a := by
 refine zm111 ?_
 exact zq2158) : a := h
theorem zq2155 (h : a := by
 refine zm263 ?_
 exact zq2156) : a := h
theorem zq2154 (h : a := by
 refine zm205 ?_
 exact zq2155) : a := h
theorem zq2152 (h : a := by
 refine zm165 ?_
 exact zq2153) : a := h
theorem zq2150 (h : a := by
 refine zm111 ?_
 exact zq2151) : a := h
theorem zq2148 (h : a := by
 refine zm488 ?_
 exact zq2149) : a := h
theorem zq2289 (h : a := by
 refine zm165 ?_
 exact zq2167) : a := h
theorem zq2288 (h : a := by
 refine zm262 ?_
 exact zq2289) : a := h
theorem zq2284 (h : a := by
 refine zm263 ?_
 exact zq2285) : a := h
theorem zq2283 (h : a := by
 refine zm205 ?_
 exact zq2284) : a := h
theorem zq2280 (h : a := by
 refine zm111 ?_
 exact zq2281) : a := h
theorem zq2278 (h : a := by
 refine zm263 ?_
 exact zq2279) : a := h
theorem zq2277 (h : a := by
 refine zm205 ?_
 exact zq2278) : a := h
theorem zq2275 (h : a := by
 refine zm165 ?_
 exact zq2276) : a := h
theorem zq2273 (h : a := by
 refine zm111 ?_
 exact zq2274) : a := h
theorem zq2271 (h : a := by
 refine zm489 ?_
 exact zq2272) : a := h
theorem zq2132 (h : a := by
 refine zm204 ?_
 exact zq2133) : a := h
theorem zq2117 (h : a := by
 refine zm233 ?_
 exact zq2118) : a := h
theorem zq2300 (h : a := by
 refine zm263 ?_
 exact zq2301) : a := h
theorem zq2299 (h : a := by
 refine zm256 ?_
 exact zq2300) : a := h
theorem zq2297 (h : a := by
 refine zm278 ?_
 exact zq2298) : a := h
theorem zq2295 (h : a := by
 refine zm111 ?_
 exact zq2296) : a := h
theorem zq2291 (h : a := by
 refine zm490 ?_
 exact zq2292) : a := h
theorem zq2039 (h : a := by
 refine zm170 ?_
 exact zq2040) : a := h
theorem zq2358 (h : a := by
 refine zm154 ?_
 exact zq2359) : a := h
theorem zq2340 (h : a := by
 refine zm209 ?_
 exact zq2341) : a := h
theorem zq2401 (h : a := by
 refine zm154 ?_
 exact zq2402) : a := h
theorem zq2383 (h : a := by
 refine zm209 ?_
 exact zq2384) : a := h
theorem zq2533 (h : a := by
 refine zm183 ?_
 exact zq2534) : a := h
theorem zq2520 (h : a := by
 refine zm288 ?_
 exact zq2521) : a := h
theorem zq2504 (h : a := by
 refine zm491 ?_
 exact zq2505) : a := h
theorem zq2562 (h : a := by
 refine zm288 ?_
 exact zq2563) : a := h
theorem zq2547 (h : a := by
 refine zm492 ?_
 exact zq2548) : a := h
theorem zq2597 (h : a := by
 refine zm278 ?_
 exact zq2598) : a := h
theorem zq2586 (h : a := by
 refine zm288 ?_
 exact zq2587) : a := h
theorem zq2574 (h : a := by
 refine zm493 ?_
 exact zq2575) : a := h
theorem zq2468 (h : a := by
 refine zm266 ?_
 exact zq2469) : a := h
theorem zq1828 (h : a := by
 rw [hv] at hq6 ⊢
 exact zq1829) : a := h
theorem zq2436 (h : a := by
 have hbkm := hBk3
 exact zq2437) : a := h
theorem zq1284 (h : a := by
 have hlb29 := hp29
 exact zq1285) : a := h
theorem zq1270 (h : a := by
 have hla24 := hp24
 exact zq1271) : a := h
theorem zq1320 (h : a := by
 have hlb29 := hp29
 exact zq1321) : a := h
theorem zq1306 (h : a := by
 have hla24 := hp24
 exact zq1307) : a := h
theorem zq2435 (h : a := by
 have hvlW := hBW.1
 exact zq2436) : a := h
theorem zq218 (h : a := by
 exact TL.gdU rfl rfl rfl (zq210)) : a := h
theorem zq217 (h : a := by
 exact TL.gdU rfl rfl rfl (zq218)) : a := h
theorem zq216 (h : a := by
 exact TL.gdU rfl rfl rfl (zq217)) : a := h
theorem zq432 (h : a := by
 exact TL.gdU rfl rfl rfl (zq433)) : a := h
theorem zq431 (h : a := by
 exact TL.gdU rfl rfl rfl (zq432)) : a := h
theorem zq430 (h : a := by
 exact TL.gdU rfl rfl rfl (zq431)) : a := h
theorem zq429 (h : a := by
 exact TL.gdU rfl rfl rfl (zq430)) : a := h
theorem zq1199 (h : a := by
 exact TF.back5 SN hle34 (zq1200)) : a := h
theorem zq1219 (h : a := by
 exact TF.back5 SN hle47 (zq1220)) : a := h
theorem zq1252 (h : a := by
 exact TF.back5 SN hle22 (zq1253)) : a := h
theorem zq1247 (h : a := by
 exact TF.back5 SN hle22 (zq1248)) : a := h
theorem zq1245 (h : a := by
 have hra34 := hr34.1
 exact zq1246) : a := h
theorem zq1289 (h : a := by
 have hra31 := hr31.1
 exact zq1290) : a := h
theorem zq1275 (h : a := by
 have hra26 := hr26.1
 exact zq1276) : a := h
theorem zq1325 (h : a := by
 have hra31 := hr31.1
 exact zq1326) : a := h
theorem zq1311 (h : a := by
 have hra26 := hr26.1
 exact zq1312) : a := h
theorem zq1736 (h : a := by
 rw [List.append_nil]
 exact zq1737) : a := h
theorem zq2338 (h : a := by
 have hra66 := hr66.1
 exact zq2339) : a := h
theorem zq2381 (h : a := by
 have hra66 := hr66.1
 exact zq2382) : a := h
theorem zq1134 (h : a := by
 have hgo := dgo_T c17
 exact zq1135) : a := h
theorem zq1704 (h : a := by
 have hf2 := hf.le hq2
 exact zq1705) : a := h
theorem zq1703 (h : a := by
 have hp2 := hp.le hq2
 exact zq1704) : a := h
theorem zq794 (h : a := by
 rw [hC2, ← hs2b] at hT2
 exact zq795) : a := h
theorem zq1154 (h : a := by
 have hend := dgo_F c17
 exact zq1155) : a := h
theorem zq1190 (h : a := by
 obtain ⟨i8, rfl⟩ := hp8
 exact zq1191) : a := h
theorem zq2240 (h : a := by
 have hnbw18 := hW154.nb
 exact zq2241) : a := h
theorem zq2193 (h : a := by
 have hnbw16 := hW128.nb
 exact zq2194) : a := h
theorem zq2451 (h : a := by
 have hbkW := hbkW0 c137
 exact zq2452) : a := h
theorem zq1129 (h : a := by
 obtain ⟨o, hO, hD⟩ := hI
 exact zq1130) : a := h
theorem zq2310 (h : a := by
 exact TF.back5 (S1 SN) hle37 (zq2311)) : a := h
theorem zq2438 (h : a := by
 replace hs := hs.le hleW
 exact zq2439) : a := h
theorem zq1207 (h : a := by
 obtain ⟨i42, rfl⟩ := hp42
 exact zq1208) : a := h
theorem zq1203 (h : a := by
 obtain ⟨i41, rfl⟩ := hp41
 exact zq1204) : a := h
theorem zq1227 (h : a := by
 obtain ⟨i55, rfl⟩ := hp55
 exact zq1228) : a := h
theorem zq1223 (h : a := by
 obtain ⟨i54, rfl⟩ := hp54
 exact zq1224) : a := h
theorem zq1269 (h : a := by
 replace hd := hd.le hle24
 exact zq1270) : a := h
theorem zq1305 (h : a := by
 replace hd := hd.le hle24
 exact zq1306) : a := h
theorem zq1635 (h : a := by
 replace eH67 := eH67.symm
 exact zq1636) : a := h
theorem zq1731 (h : a := by
 replace eH90 := eH90.symm
 exact zq1732) : a := h
theorem zq1705 (h : a := by
 have hlab2 := hlab.le hq2
 exact zq1706) : a := h
theorem zq2016 (h : a := by
 obtain ⟨i61, rfl⟩ := hp61
 exact zq2017) : a := h
theorem zq2261 (h : a := by
 change _ = _ + 1 at hN173
 exact zq2262) : a := h
theorem zq2214 (h : a := by
 change _ = _ + 1 at hN147
 exact zq2215) : a := h
theorem zq2344 (h : a := by
 obtain ⟨i67, rfl⟩ := hp67
 exact zq2345) : a := h
theorem zq2387 (h : a := by
 obtain ⟨i67, rfl⟩ := hp67
 exact zq2388) : a := h
theorem zq2031 (h : a := by
 obtain ⟨rfl, hn66⟩ := hp66
 exact zq2032) : a := h
theorem zq2054 (h : a := by
 obtain ⟨rfl, hn71⟩ := hp71
 exact zq2055) : a := h
theorem zq2080 (h : a := by
 obtain ⟨rfl, hn79⟩ := hp79
 exact zq2081) : a := h
theorem zq2309 (h : a := by
 obtain ⟨rfl, hn37⟩ := hp37
 exact zq2310) : a := h
theorem zq2368 (h : a := by
 obtain ⟨rfl, hn76⟩ := hp76
 exact zq2369) : a := h
theorem zq2411 (h : a := by
 obtain ⟨rfl, hn79⟩ := hp79
 exact zq2412) : a := h
theorem zq2541 (h : a := by
 replace hBW := hBW.le lePw
 exact zq2542) : a := h
theorem zq2606 (h : a := by
 replace hBW := hBW.le lePw
 exact zq2607) : a := h
theorem zq454 (h : a := by
 have q85 := of_ndec_true g85
 exact zq455) : a := h
theorem zq440 (h : a := by
 have q74 := of_ndec_true g74
 exact zq441) : a := h
theorem zq1739 (h : a := by
 replace hq4 := hq4.le leP90
 exact zq1740) : a := h
theorem zq1737 (h : a := by
 replace hp2 := hp2.le leP90
 exact zq1738) : a := h
theorem zq2130 (h : a := by
 obtain ⟨i103, rfl⟩ := hp103
 exact zq2131) : a := h
theorem zq2127 (h : a := by
 obtain ⟨i102, rfl⟩ := hp102
 exact zq2128) : a := h
theorem zq2123 (h : a := by
 obtain ⟨i100, rfl⟩ := hp100
 exact zq2124) : a := h
theorem zq460 (h : a := by
 have q85 := of_ndec_false g85
 exact zq461) : a := h
theorem zq465 (h : a := by
 have q74 := of_ndec_false g74
 exact zq466) : a := h
theorem zq973 (h : a := by
 have q79 := of_ndec_false g79
 exact zq974) : a := h
theorem zq1372 (h : a := by
 obtain ⟨⟨m0, m1⟩, hI2⟩ := hI
 exact zq1373) : a := h
theorem zq1489 (h : a := by
 have q47 := of_ndec_true g47
 exact zq1490) : a := h
theorem zq1793 (h : a := by
 have hlab3 := hlab2.le hle97
 exact zq1794) : a := h
theorem zq1609 (h : a := by
 obtain ⟨⟨k0, k1⟩, hal⟩ := hI
 exact zq1610) : a := h
theorem zq2231 (h : a := by
 obtain ⟨rfl, hn154⟩ := hp154
 exact zq2232) : a := h
theorem zq2183 (h : a := by
 obtain ⟨rfl, hn128⟩ := hp128
 exact zq2184) : a := h
theorem zq2141 (h : a := by
 obtain ⟨rfl, hn107⟩ := hp107
 exact zq2142) : a := h
theorem zq2140 (h : a := by
 replace hta := hta.le hle107
 exact zq2141) : a := h
theorem zq2129 (h : a := by
 replace hta := hta.le hle103
 exact zq2130) : a := h
theorem zq2126 (h : a := by
 replace hta := hta.le hle102
 exact zq2127) : a := h
theorem zq2122 (h : a := by
 replace hta := hta.le hle100
 exact zq2123) : a := h
theorem zq11 (h : a := by
 have q5 := of_decide_eq_true g5
 exact zq12) : a := h
theorem zq33 (h : a := by
 have q5 := of_decide_eq_true g5
 exact zq34) : a := h
theorem zq74 (h : a := by
 have q7 := of_decide_eq_true g7
 exact zq75) : a := h
theorem zq1283 (h : a := by
 replace hd26 := hd26.le hle29
 exact zq1284) : a := h
theorem zq1279 (h : a := by
 exact TF.back5 (S1 (S1 SN)) hle24 (zq1280)) : a := h
theorem zq1319 (h : a := by
 replace hd26 := hd26.le hle29
 exact zq1320) : a := h
theorem zq1315 (h : a := by
 exact TF.back5 (S1 (S1 SN)) hle24 (zq1316)) : a := h
theorem zq2437 (h : a := by
 replace hle := hle.trans hleW
 exact zq2438) : a := h
theorem zq19 (h : a := by
 have q5 := of_decide_eq_false g5
 exact zq20) : a := h
theorem zq41 (h : a := by
 have q5 := of_decide_eq_false g5
 exact zq42) : a := h
theorem zq566 (h : a := by
 obtain ⟨va, vc, rfl⟩ := hO.form
 exact zq567) : a := h
theorem zq636 (h : a := by
 obtain ⟨va, vc, rfl⟩ := hO.form
 exact zq637) : a := h
theorem zq793 (h : a := by
 have hT2 := st_next k0 hk hs hT
 exact zq794) : a := h
theorem zq100 (h : a := by
 have q12 := of_decide_eq_true g12
 exact zq80) : a := h
theorem zq565 (h : a := by
 obtain ⟨⟨k0, k1⟩, hO, hfl⟩ := hI
 exact zq566) : a := h
theorem zq635 (h : a := by
 obtain ⟨⟨k0, k1⟩, hO, hfl⟩ := hI
 exact zq636) : a := h
theorem zq1130 (h : a := by
 obtain ⟨va, vc, rfl⟩ := hO.form
 exact zq1131) : a := h
theorem zq1318 (h : a := by
 replace hla24 := hla24.le hle29
 exact zq1319) : a := h
theorem zq1738 (h : a := by
 replace hlab2 := hlab2.le leP90
 exact zq1739) : a := h
theorem zq1827 (h : a := by
 obtain ⟨va, vc, hv⟩ := hq6.form
 exact zq1828) : a := h
theorem zq2540 (h : a := by
 replace hleW := hleW.trans lePw
 exact zq2541) : a := h
theorem zq2605 (h : a := by
 replace hleW := hleW.trans lePw
 exact zq2606) : a := h
theorem zq585 (h : a := by
 refine TL.alloc rfl (fun b5 => ?_)
 exact zq586) : a := h
theorem zq655 (h : a := by
 refine TL.alloc rfl (fun b5 => ?_)
 exact zq656) : a := h
theorem zq767 (h : a := by
 refine TF.alloc rfl (fun b3 => ?_)
 exact zq768) : a := h
theorem zq1246 (h : a := by
 have hrb34 := hr34.2.1 (by omega)
 exact zq1247) : a := h
theorem zq1290 (h : a := by
 have hrb31 := hr31.2.1 (by omega)
 exact zq1291) : a := h
theorem zq1276 (h : a := by
 have hrb26 := hr26.2.1 (by omega)
 exact zq1277) : a := h
theorem zq1326 (h : a := by
 have hrb31 := hr31.2.1 (by omega)
 exact zq1327) : a := h
theorem zq1312 (h : a := by
 have hrb26 := hr26.2.1 (by omega)
 exact zq1313) : a := h
theorem zq2043 (h : a := by
 have q66 := of_decide_eq_true g66
 exact zq2044) : a := h
theorem zq2305 (h : a := by
 exact TF.back5 (S1 SN) (Hp.le.refl _) (zq2306)) : a := h
theorem zq2094 (h : a := by
 exact TL.gdY rfl rfl (pr_nil rfl) rfl (zq2095)) : a := h
theorem zq2092 (h : a := by
 have q85 := of_decide_eq_true g85
 exact zq2093) : a := h
theorem zq2339 (h : a := by
 have hrb66 := hr66.2.1 (by omega)
 exact zq2340) : a := h
theorem zq2382 (h : a := by
 have hrb66 := hr66.2.1 (by omega)
 exact zq2383) : a := h
theorem zq2480 (h : a := by
 exact TL.run (pr_str rfl rfl rfl) rfl (zq2481)) : a := h
theorem zq584 (h : a := by
 exact TL.run (pr_elA hc hx rfl rfl) rfl (zq585)) : a := h
theorem zq654 (h : a := by
 exact TL.run (pr_elA hc hx rfl rfl) rfl (zq655)) : a := h
theorem zq1564 (h : a := by
 have q25 := of_decide_eq_false g25
 exact zq1565) : a := h
theorem zq2012 (h : a := by
 exact TF.back5 (S1 (S1 (S1 SN))) hle54 (zq2013)) : a := h
theorem zq2106 (h : a := by
 refine TL.alloc rfl (fun b7 => ?_)
 exact zq2107) : a := h
theorem zq2314 (h : a := by
 have q85 := of_decide_eq_false g85
 exact zq2315) : a := h
theorem zq2058 (h : a := by
 have q66 := of_decide_eq_false g66
 exact zq2059) : a := h
theorem zq1171 (h : a := by
 exact TL.run (pr_bytes rfl hO .all) rfl (zq1172)) : a := h
theorem zq1181 (h : a := by
 exact TL.run (pr_bytes rfl hO .all) rfl (zq1182)) : a := h
theorem zq1204 (h : a := by
 exact TF.back5 SN (hle34.trans (hle41)) (zq1205)) : a := h
theorem zq1224 (h : a := by
 exact TF.back5 SN (hle47.trans (hle54)) (zq1225)) : a := h
theorem zq1479 (h : a := by
 exact TL.run (pr_lenO rfl rfl hO86) rfl (zq1480)) : a := h
theorem zq1641 (h : a := by
 refine TL.alloc rfl (fun b12 => ?_)
 exact zq1642) : a := h
theorem zq1744 (h : a := by
 refine TL.alloc rfl (fun b17 => ?_)
 exact zq1745) : a := h
theorem zq1734 (h : a := by
 obtain ⟨a90, c90, rfl⟩ := hO90.form
 exact zq1735) : a := h
theorem zq1690 (h : a := by
 refine TL.alloc rfl (fun b15 => ?_)
 exact zq1691) : a := h
theorem zq2088 (h : a := by
 exact TL.run (pr_lenSl rfl rfl hta) rfl (zq2089)) : a := h
theorem zq914 (h : a := by
 exact TL.run (pr_el0 hA2 hxA rfl rfl) rfl (zq915)) : a := h
theorem zq1198 (h : a := by
 obtain ⟨rfl, r40, rfl, hr40⟩ := hp40
 exact zq1199) : a := h
theorem zq1218 (h : a := by
 obtain ⟨rfl, r53, rfl, hr53⟩ := hp53
 exact zq1219) : a := h
theorem zq1292 (h : a := by
 have hl4 : labelsL.length = 4 := rfl
 exact zq1293) : a := h
theorem zq1278 (h : a := by
 have hl4 : labelsL.length = 4 := rfl
 exact zq1279) : a := h
theorem zq1328 (h : a := by
 have hl4 : labelsL.length = 4 := rfl
 exact zq1329) : a := h
theorem zq1314 (h : a := by
 have hl4 : labelsL.length = 4 := rfl
 exact zq1315) : a := h
theorem zq1615 (h : a := by
 exact TL.run (pr_lenSl rfl rfl hlab) rfl (zq1616)) : a := h
theorem zq1584 (h : a := by
 exact TL.run (pr_lenSl rfl rfl hlab) rfl (zq1585)) : a := h
theorem zq1991 (h : a := by
 have hR2 := hRo (by simpa using c30)
 exact zq1992) : a := h
theorem zq2011 (h : a := by
 obtain ⟨rfl, r60, rfl, hr60⟩ := hp60
 exact zq2012) : a := h
theorem zq2119 (h : a := by
 obtain ⟨rfl, r99, rfl, hr99⟩ := hp99
 exact zq2120) : a := h
theorem zq2304 (h : a := by
 obtain ⟨rfl, r35, rfl, hr35⟩ := hp35
 exact zq2305) : a := h
theorem zq2337 (h : a := by
 obtain ⟨rfl, r66, rfl, hr66⟩ := hp66
 exact zq2338) : a := h
theorem zq2380 (h : a := by
 obtain ⟨rfl, r66, rfl, hr66⟩ := hp66
 exact zq2381) : a := h
theorem zq2445 (h : a := by
 exact TL.run (pr_lenSl rfl rfl hs.w) rfl (zq2446)) : a := h
theorem zq956 (h : a := by
 exact TL.run (pr_el0 hR62 hxB rfl rfl) rfl (zq957)) : a := h
theorem zq1237 (h : a := by
 replace eH22 := eH22.symm; subst eH22
 exact zq1238) : a := h
theorem zq1236 (h : a := by
 obtain ⟨eH22, k22, rfl, hk22⟩ := hp22
 exact zq1237) : a := h
theorem zq1244 (h : a := by
 replace eH34 := eH34.symm; subst eH34
 exact zq1245) : a := h
theorem zq1243 (h : a := by
 obtain ⟨eH34, r34, rfl, hr34⟩ := hp34
 exact zq1244) : a := h
theorem zq1288 (h : a := by
 replace eH31 := eH31.symm; subst eH31
 exact zq1289) : a := h
theorem zq1287 (h : a := by
 obtain ⟨eH31, r31, rfl, hr31⟩ := hp31
 exact zq1288) : a := h
theorem zq1274 (h : a := by
 replace eH26 := eH26.symm; subst eH26
 exact zq1275) : a := h
theorem zq1273 (h : a := by
 obtain ⟨eH26, r26, rfl, hr26⟩ := hp26
 exact zq1274) : a := h
theorem zq1324 (h : a := by
 replace eH31 := eH31.symm; subst eH31
 exact zq1325) : a := h
theorem zq1323 (h : a := by
 obtain ⟨eH31, r31, rfl, hr31⟩ := hp31
 exact zq1324) : a := h
theorem zq1310 (h : a := by
 replace eH26 := eH26.symm; subst eH26
 exact zq1311) : a := h
theorem zq1309 (h : a := by
 obtain ⟨eH26, r26, rfl, hr26⟩ := hp26
 exact zq1310) : a := h
theorem zq1711 (h : a := by
 exact TL.run (pr_lenSl rfl rfl hlab2) rfl (zq1712)) : a := h
theorem zq2494 (h : a := by
 exact TL.run (pr_el1 hs.w hw rfl rfl) rfl (zq2495)) : a := h
theorem zq2479 (h : a := by
 exact TL.run (pr_el1 hs.w hw rfl rfl) rfl (zq2480)) : a := h
theorem zq1634 (h : a := by
 obtain ⟨eH67, tv67, rfl, hO67⟩ := hp67
 exact zq1635) : a := h
theorem zq1632 (h : a := by
 exact TL.run (pr_el0 hlab hlx rfl rfl) rfl (zq1633)) : a := h
theorem zq1730 (h : a := by
 obtain ⟨eH90, tv90, rfl, hO90⟩ := hp90
 exact zq1731) : a := h
theorem zq1202 (h : a := by
 dsimp only at hle41 hS41 hs41 ht41 hp41
 exact zq1203) : a := h
theorem zq1222 (h : a := by
 dsimp only at hle54 hS54 hs54 ht54 hp54
 exact zq1223) : a := h
theorem zq1728 (h : a := by
 exact TL.run (pr_el0 hlab2 hlx rfl rfl) rfl (zq1729)) : a := h
theorem zq2030 (h : a := by
 dsimp only at hle66 hS66 hs66 ht66 hp66
 exact zq2031) : a := h
theorem zq2015 (h : a := by
 dsimp only at hle61 hS61 hs61 ht61 hp61
 exact zq2016) : a := h
theorem zq2169 (h : a := by
 obtain ⟨rfl, r123, rfl, hr123⟩ := hp123
 exact zq2170) : a := h
theorem zq2165 (h : a := by
 obtain ⟨rfl, r115, rfl, hr115⟩ := hp115
 exact zq2166) : a := h
theorem zq2287 (h : a := by
 obtain ⟨rfl, r115, rfl, hr115⟩ := hp115
 exact zq2288) : a := h
theorem zq2308 (h : a := by
 dsimp only at hle37 hS37 hs37 ht37 hp37
 exact zq2309) : a := h
theorem zq2367 (h : a := by
 dsimp only at hle76 hS76 hs76 ht76 hp76
 exact zq2368) : a := h
theorem zq2343 (h : a := by
 dsimp only at hle67 hS67 hs67 ht67 hp67
 exact zq2344) : a := h
theorem zq2410 (h : a := by
 dsimp only at hle79 hS79 hs79 ht79 hp79
 exact zq2411) : a := h
theorem zq2386 (h : a := by
 dsimp only at hle67 hS67 hs67 ht67 hp67
 exact zq2387) : a := h
theorem zq2484 (h : a := by
 have hnw := st_way he0 hm0 hgo2 hw c156
 exact zq2485) : a := h
theorem zq1141 (h : a := by
 exact TL.run (pr_rem rfl rfl (by decide)) rfl (zq1142)) : a := h
theorem zq1296 (h : a := by
 exact TF.still (pr_el0 hlb29 hl2 rfl rfl) rfl (zq1297)) : a := h
theorem zq1281 (h : a := by
 exact TF.still (pr_el0 hla24 hl1 rfl rfl) rfl (zq1282)) : a := h
theorem zq1330 (h : a := by
 exact TF.still (pr_el0 hla24 hl1 rfl rfl) rfl (zq1294)) : a := h
theorem zq576 (h : a := by
 have hx6 := hl3 x (List.mem_of_getElem? hx)
 exact zq577) : a := h
theorem zq646 (h : a := by
 have hx6 := hl3 x (List.mem_of_getElem? hx)
 exact zq647) : a := h
theorem zq971 (h : a := by
 exact TL.gdY rfl rfl (pr_lenSl rfl rfl hs.a) rfl (zq972)) : a := h
theorem zq1516 (h : a := by
 exact TL.gdY rfl rfl (pr_el0 hL hx rfl rfl) rfl (zq1517)) : a := h
theorem zq130 (h : a := by
 exact TL.run (pr_strIx rfl rfl (by omega) hc) rfl (zq131)) : a := h
theorem zq196 (h : a := by
 exact TC.swG (pr_pure rfl) rfl rfl ⟨rfl, trivial⟩ (zq197)) : a := h
theorem zq195 (h : a := by
 exact TC.swG (pr_pure rfl) rfl rfl ⟨rfl, trivial⟩ (zq196)) : a := h
theorem zq575 (h : a := by
 have hxa := hs.cs x (List.mem_of_getElem? hx)
 exact zq576) : a := h
theorem zq645 (h : a := by
 have hxa := hs.cs x (List.mem_of_getElem? hx)
 exact zq646) : a := h
theorem zq2230 (h : a := by
 dsimp only at hle154 hS154 hs154 ht154 hp154
 exact zq2231) : a := h
theorem zq2182 (h : a := by
 dsimp only at hle128 hS128 hs128 ht128 hp128
 exact zq2183) : a := h
theorem zq2121 (h : a := by
 dsimp only at hle100 hS100 hs100 ht100 hp100
 exact zq2122) : a := h
theorem zq1293 (h : a := by
 exact TF.back5 (S1 (S1 SN)) (hle24.trans (hle29)) (zq1294)) : a := h
theorem zq1277 (h : a := by
 obtain ⟨l1, hl1⟩ := label_ex hra26 (by omega)
 exact zq1278) : a := h
theorem zq1329 (h : a := by
 exact TF.back5 (S1 (S1 SN)) (hle24.trans (hle29)) (zq1330)) : a := h
theorem zq1313 (h : a := by
 obtain ⟨l1, hl1⟩ := label_ex hra26 (by omega)
 exact zq1314) : a := h
theorem zq1386 (h : a := by
 obtain ⟨r, hrx⟩ := getSome (l := rows) m0 c60
 exact zq1387) : a := h
theorem zq574 (h : a := by
 obtain ⟨x, hx⟩ := getSome (l := s.casts) k0 c35
 exact zq575) : a := h
theorem zq644 (h : a := by
 obtain ⟨x, hx⟩ := getSome (l := s.casts) k0 c35
 exact zq645) : a := h
theorem zq1455 (h : a := by
 rw [List.length_map, if_pos (by omega)] at hEq
 exact zq1356) : a := h
theorem zq1487 (h : a := by
 rw [List.length_map, if_neg (by omega)] at hEq
 exact zq1488) : a := h
theorem zq849 (h : a := by
 refine TL.bslice rfl rfl rfl rfl (fun b38 => ?_)
 exact zq850) : a := h
theorem zq2450 (h : a := by
 obtain ⟨w, hw⟩ := getSome (l := s.ways) e0 c137
 exact zq2451) : a := h
theorem zq2453 (h : a := by
 have hGe := bg_end e0 (by simpa using c137) hGW
 exact zq2454) : a := h
theorem zq798 (h : a := by
 refine TL.bslice rfl rfl rfl rfl (fun b136 => ?_)
 exact zq799) : a := h
theorem zq1144 (h : a := by
 refine TL.bslice rfl rfl rfl rfl (fun b22 => ?_)
 exact zq1145) : a := h
theorem zq1249 (h : a := by
 refine TF.bslice rfl rfl rfl rfl (fun b36 => ?_)
 exact zq1250) : a := h
theorem zq1466 (h : a := by
 refine TL.bslice rfl rfl rfl rfl (fun b85 => ?_)
 exact zq1467) : a := h
theorem zq1546 (h : a := by
 refine TL.bslice rfl rfl rfl rfl (fun b40 => ?_)
 exact zq1547) : a := h
theorem zq1997 (h : a := by
 refine TL.bslice rfl rfl rfl rfl (fun b35 => ?_)
 exact zq1998) : a := h
theorem zq2018 (h : a := by
 refine TF.bslice rfl rfl rfl rfl (fun b62 => ?_)
 exact zq2019) : a := h
theorem zq2346 (h : a := by
 refine TF.bslice rfl rfl rfl rfl (fun b68 => ?_)
 exact zq2347) : a := h
theorem zq2389 (h : a := by
 refine TF.bslice rfl rfl rfl rfl (fun b68 => ?_)
 exact zq2390) : a := h
theorem zq948 (h : a := by
 obtain ⟨xB, hxB⟩ := getSome (l := bindsS s) k0 c65
 exact zq949) : a := h
theorem zq1083 (h : a := by
 refine TF.bslice rfl rfl rfl rfl (fun b105 => ?_)
 exact zq1084) : a := h
theorem zq1208 (h : a := by
 exact TF.back5 SN (hle34.trans (hle41.trans (hle42))) (zq1209)) : a := h
theorem zq1228 (h : a := by
 exact TF.back5 SN (hle47.trans (hle54.trans (hle55))) (zq1229)) : a := h
theorem zq1803 (h : a := by
 refine TF.bslice rfl rfl rfl rfl (fun b113 => ?_)
 exact zq1804) : a := h
theorem zq2258 (h : a := by
 refine TF.bslice rfl rfl rfl rfl (fun b172 => ?_)
 exact zq2259) : a := h
theorem zq2211 (h : a := by
 refine TF.bslice rfl rfl rfl rfl (fun b146 => ?_)
 exact zq2212) : a := h
theorem zq2527 (h : a := by
 refine TF.bslice rfl rfl rfl rfl (fun b187 => ?_)
 exact zq2528) : a := h
theorem zq2569 (h : a := by
 refine TF.bslice rfl rfl rfl rfl (fun b187 => ?_)
 exact zq2570) : a := h
theorem zq2593 (h : a := by
 refine TF.bslice rfl rfl rfl rfl (fun b187 => ?_)
 exact zq2594) : a := h
theorem zq2017 (h : a := by
 exact TF.back5 (S1 (S1 (S1 SN))) (hle54.trans (hle61)) (zq2018)) : a := h
theorem zq2345 (h : a := by
 exact TF.back5 (S1 (S1 (S1 SN))) (hle60.trans (hle67)) (zq2346)) : a := h
theorem zq2388 (h : a := by
 exact TF.back5 (S1 (S1 (S1 SN))) (hle60.trans (hle67)) (zq2389)) : a := h
theorem zq137 (h : a := by
 exact TL.gdY rfl rfl (pr_strIx rfl rfl (by omega) hc) rfl (zq138)) : a := h
theorem zq2105 (h : a := by
 exact TL.callS (enters rfl rfl rfl rfl) (mBare_ok 3) rfl (zq2106)) : a := h
theorem zq2434 (h : a := by
 obtain ⟨⟨e0, e1⟩, hleW, hBW, hblW, hGW, hbkW0⟩ := hI
 exact zq2435) : a := h
theorem zq1264 (h : a := by
 refine TD.part 4 7 rfl rfl rfl ?_ ?_
 · exact zq1265
 · exact zq1301) : a := h
theorem zq1419 (h : a := by
 rw [show ((m.toNat : Nat) : Int) = m by omega] at hEq
 exact zq1356) : a := h
theorem zq131 (h : a := by
 exact TL.callS (enters rfl rfl rfl rfl) (n_letter_ok c) rfl (zq132)) : a := h
theorem zq1556 (h : a := by
 exact TL.run (pr_sliceL rfl rfl (by omega) (by omega)) rfl (zq1557)) : a := h
theorem zq1620 (h : a := by
 obtain ⟨lb, hlx⟩ := getSome (l := (labS p set)) k0 c57
 exact zq1621) : a := h
theorem zq1716 (h : a := by
 obtain ⟨lb, hlx⟩ := getSome (l := (labS p set)) k0 c80
 exact zq1717) : a := h
theorem zq2147 (h : a := by
 refine TD.part 11 7 rfl rfl rfl ?_ ?_
 · exact zq2148
 · exact zq2271) : a := h
theorem zq2503 (h : a := by
 refine TD.part 6 23 rfl rfl rfl ?_ ?_
 · exact zq2504
 · exact zq2547) : a := h
theorem zq2502 (h : a := by
 refine TD.part 2 23 rfl rfl rfl ?_ ?_
 · exact zq2503
 · exact zq2574) : a := h
theorem zq922 (h : a := by
 exact TL.callS (enters rfl rfl rfl rfl) (n_Has_ok xA hB) rfl (zq923)) : a := h
theorem zq127 (h : a := by
 obtain ⟨c, hc⟩ := getSome (l := s) (i := k) (by omega) c25
 exact zq128) : a := h
theorem zq906 (h : a := by
 obtain ⟨xA, hxA⟩ := getSome (l := askedS q.terms s) k0 c53
 exact zq907) : a := h
theorem zq979 (h : a := by
 refine zm234 ?_
 exact TX.sw rfl (by simp_all) ⟨rfl, rfl, rfl, trivial⟩) : a := h
theorem zq1398 (h : a := by
 exact TL.run (pr_indexO rfl rfl hO (by omega) (by omega)) rfl (zq1399)) : a := h
theorem zq2239 (h : a := by
 obtain ⟨waw18, wnw18, wcw18, rfl, hww18, hwnw18⟩ := huw18
 exact zq2240) : a := h
theorem zq2192 (h : a := by
 obtain ⟨waw16, wnw16, wcw16, rfl, hww16, hwnw16⟩ := huw16
 exact zq2193) : a := h
theorem zq913 (h : a := by
 exact TL.run (pr_indexSl rfl hA2 rfl (by omega) (by omega)) rfl (zq914)) : a := h
theorem zq1702 (h : a := by
 obtain ⟨⟨k0, k1⟩, hq2, hq3, hq4, hq5, hq6, hq7, hq8⟩ := hI
 exact zq1703) : a := h
theorem zq791 (h : a := by
 have hz4 := (stepC_size (q := q) (st := (m, o)) hma hTm).2.2
 exact zq792) : a := h
theorem zq955 (h : a := by
 exact TL.run (pr_indexSl rfl hR62 rfl (by omega) (by omega)) rfl (zq956)) : a := h
theorem zq2096 (h : a := by
 exact TL.gdY rfl rfl (pr_own1 rfl (.there _ (.here _)) rfl) rfl (zq2097)) : a := h
theorem zq1631 (h : a := by
 exact TL.run (pr_indexSl rfl hlab rfl (by omega) (by omega)) rfl (zq1632)) : a := h
theorem zq2492 (h : a := by
 exact TL.run (pr_indexSl rfl hs.w rfl (by omega) (by omega)) rfl (zq2493)) : a := h
theorem zq2477 (h : a := by
 exact TL.run (pr_indexSl rfl hs.w rfl (by omega) (by omega)) rfl (zq2478)) : a := h
theorem zq1399 (h : a := by
 exact TL.run (pr_ldO1 (j := 0) rfl hO (.skip _ .all) hrx rfl) rfl (zq1400)) : a := h
theorem zq1727 (h : a := by
 exact TL.run (pr_indexSl rfl hlab2 rfl (by omega) (by omega)) rfl (zq1728)) : a := h
theorem zq2495 (h : a := by
 exact TL.callS (enters rfl rfl rfl rfl) (n_Has_ok w.name hPb) rfl (zq2496)) : a := h
theorem zq138 (h : a := by
 exact TL.callSY rfl rfl (enters rfl rfl rfl rfl) (n_digit_ok c) rfl (zq139)) : a := h
theorem zq790 (h : a := by
 have hC2 : (stepC q.terms s (m, o)).2 = (m2, o2) := by rw [hCE]
 exact zq791) : a := h
theorem zq1295 (h : a := by
 exact TF.pure (pr_indexSl rfl hlb29 rfl (by omega) (by omega)) rfl (zq1296)) : a := h
theorem zq1280 (h : a := by
 exact TF.pure (pr_indexSl rfl hla24 rfl (by omega) (by omega)) rfl (zq1281)) : a := h
theorem zq1316 (h : a := by
 exact TF.pure (pr_indexSl rfl hla24 rfl (by omega) (by omega)) rfl (zq1317)) : a := h
theorem zq1798 (h : a := by
 exact TF.pure (pr_indexSl rfl hlab3 rfl (by omega) (by omega)) rfl (zq1799)) : a := h
theorem zq55 (h : a := by
 refine zm68 ?_
 exact TC.swE (pr_str rfl rfl rfl) rfl rfl ⟨rfl, rfl, trivial⟩) : a := h
theorem zq143 (h : a := by
 refine TC.cond rfl (fun c39 => ?_) (fun c39 => ?_)
 · exact zq144
 · exact zq154) : a := h
theorem zq371 (h : a := by
 refine TC.cond rfl (fun c43 => ?_) (fun c43 => ?_)
 · exact zq372
 · exact zq385) : a := h
theorem zq926 (h : a := by
 refine TC.cond rfl (fun c59 => ?_) (fun c59 => ?_)
 · exact zq927
 · exact zq940) : a := h
theorem zq961 (h : a := by
 refine TC.cond rfl (fun c74 => ?_) (fun c74 => ?_)
 · exact zq962
 · exact zq963) : a := h
theorem zq1057 (h : a := by
 exact TL.callS (enters rfl rfl rfl rfl) (fault_ok 1500 (-1) (-1)) rfl (zq1058)) : a := h
theorem zq1172 (h : a := by
 exact TL.run (pr_concat rfl rfl (by have := hD.len; simp; omega)) rfl (zq1173)) : a := h
theorem zq1291 (h : a := by
 obtain ⟨l2, hl2⟩ := label_ex (i := 2 + r31) (by omega) (by omega)
 exact zq1292) : a := h
theorem zq1327 (h : a := by
 obtain ⟨l2, hl2⟩ := label_ex (i := 2 + r31) (by omega) (by omega)
 exact zq1328) : a := h
theorem zq120 (h : a := by
 refine TC.condD rfl (fun c25 => ?_) (fun c25 => ?_)
 · exact zq121
 · exact zq172) : a := h
theorem zq457 (h : a := by
 exact TL.callSY rfl rfl (enters rfl rfl rfl rfl) (n_MayU_ok x.name) rfl (zq458)) : a := h
theorem zq573 (h : a := by
 refine TC.condD rfl (fun c35 => ?_) (fun c35 => ?_)
 · exact zq574
 · exact zq603) : a := h
theorem zq643 (h : a := by
 refine TC.condD rfl (fun c35 => ?_) (fun c35 => ?_)
 · exact zq644
 · exact zq664) : a := h
theorem zq1562 (h : a := by
 refine TX.pubO hO46 (.skip _ .all) (by simp) (fun H1 hle hR => ?_)
 exact zq1563) : a := h
theorem zq1515 (h : a := by
 exact TL.gdY rfl rfl (pr_indexSl rfl hL rfl (by omega) (by omega)) rfl (zq1516)) : a := h
theorem zq443 (h : a := by
 exact TL.callSY rfl rfl (enters rfl rfl rfl rfl) (n_MayU_ok x.label) rfl (zq444)) : a := h
theorem zq905 (h : a := by
 refine zm234 ?_
 exact TX.sw rfl (by simp_all) ⟨rfl, rfl, rfl, rfl, rfl, trivial⟩) : a := h
theorem zq996 (h : a := by
 refine TC.cond rfl (fun c104 => ?_) (fun c104 => ?_)
 · exact zq997
 · exact zq998) : a := h
theorem zq1133 (h : a := by
 refine TC.cond rfl (fun c17 => ?_) (fun c17 => ?_)
 · exact zq1134
 · exact zq1154) : a := h
theorem zq1404 (h : a := by
 refine TC.cond rfl (fun c71 => ?_) (fun c71 => ?_)
 · exact zq1405
 · exact zq1420) : a := h
theorem zq1653 (h : a := by
 refine TC.cond rfl (fun c72 => ?_) (fun c72 => ?_)
 · exact zq1654
 · exact zq1669) : a := h
theorem zq990 (h : a := by
 exact TL.run (pr_lenSl rfl rfl (hs.cs xC (List.mem_of_getElem? hxC))) rfl (zq991)) : a := h
theorem zq1006 (h : a := by
 refine TC.cond rfl (fun c114 => ?_) (fun c114 => ?_)
 · exact zq980
 · exact zq1007) : a := h
theorem zq1167 (h : a := by
 refine TC.condD rfl (fun c28 => ?_) (fun c28 => ?_)
 · exact zq1168
 · exact zq1176) : a := h
theorem zq1445 (h : a := by
 refine TC.condD rfl (fun c78 => ?_) (fun c78 => ?_)
 · exact zq1446
 · exact zq1456) : a := h
theorem zq1385 (h : a := by
 refine TC.condD rfl (fun c60 => ?_) (fun c60 => ?_)
 · exact zq1386
 · exact zq1429) : a := h
theorem zq1522 (h : a := by
 refine TC.condD rfl (fun c32 => ?_) (fun c32 => ?_)
 · exact zq1523
 · exact zq1531) : a := h
theorem zq1715 (h : a := by
 refine TC.condD rfl (fun c80 => ?_) (fun c80 => ?_)
 · exact zq1716
 · exact zq1820) : a := h
theorem zq1619 (h : a := by
 refine TC.condD rfl (fun c57 => ?_) (fun c57 => ?_)
 · exact zq1620
 · exact zq1678) : a := h
theorem zq1588 (h : a := by
 refine TC.condD rfl (fun c52 => ?_) (fun c52 => ?_)
 · exact zq1589
 · exact zq1599) : a := h
theorem zq2102 (h : a := by
 refine TC.condD rfl (fun c80 => ?_) (fun c80 => ?_)
 · exact zq2103
 · exact zq2290) : a := h
theorem zq2074 (h : a := by
 refine TC.condD rfl (fun c72 => ?_) (fun c72 => ?_)
 · exact zq2075
 · exact zq2084) : a := h
theorem zq2065 (h : a := by
 refine TC.condD rfl (fun c60 => ?_) (fun c60 => ?_)
 · exact zq2051
 · exact zq2066) : a := h
theorem zq1973 (h : a := by
 refine TC.condND rfl (fun c30 => ?_) (fun c30 => ?_)
 · exact zq1974
 · exact zq1991) : a := h
theorem zq2449 (h : a := by
 refine TC.condD rfl (fun c137 => ?_) (fun c137 => ?_)
 · exact zq2450
 · exact zq2453) : a := h
theorem zq10 (h : a := by
 refine TL.split (s := 5) rfl (fun g5 => ?_) (fun g5 => ?_)
 · exact zq11
 · exact zq19) : a := h
theorem zq32 (h : a := by
 refine TL.split (s := 5) rfl (fun g5 => ?_) (fun g5 => ?_)
 · exact zq33
 · exact zq41) : a := h
theorem zq1770 (h : a := by
 refine TC.condND rfl (fun c101 => ?_) (fun c101 => ?_)
 · exact zq1771
 · exact zq1789) : a := h
theorem zq1755 (h : a := by
 obtain ⟨sv97, ob97, rows97, rfl, hO97, hrw97, hrl97, hm97, rfl⟩ := hp97
 exact zq1756) : a := h
theorem zq2237 (h : a := by
 obtain ⟨bw18, jw18, qw18, haw18, hbw18, hjw18⟩ := hW154.s.at (by omega)
 exact zq2238) : a := h
theorem zq2190 (h : a := by
 obtain ⟨bw16, jw16, qw16, haw16, hbw16, hjw16⟩ := hW128.s.at (by omega)
 exact zq2191) : a := h
theorem zq2483 (h : a := by
 refine TC.condND rfl (fun c156 => ?_) (fun c156 => ?_)
 · exact zq2484
 · exact zq2600) : a := h
theorem zq73 (h : a := by
 refine zm264 ?_; refine zm96 ?_
 exact TC.swE (pr_str rfl rfl rfl) rfl rfl ⟨rfl, trivial⟩) : a := h
theorem zq134 (h : a := by
 refine TL.split (s := 33) rfl (fun g33 => ?_) (fun g33 => ?_)
 · exact zq135
 · exact zq163) : a := h
theorem zq353 (h : a := by
 refine zm67 ?_
 exact TX.finS (.inr rfl) (results1 rfl (RVal.cellA rfl (.here _) rfl)) rfl) : a := h
theorem zq453 (h : a := by
 refine TL.split (s := 85) rfl (fun g85 => ?_) (fun g85 => ?_)
 · exact zq454
 · exact zq460) : a := h
theorem zq448 (h : a := by
 refine TL.split (s := 81) rfl (fun g81 => ?_) (fun g81 => ?_)
 · exact zq425
 · exact zq449) : a := h
theorem zq439 (h : a := by
 refine TL.split (s := 74) rfl (fun g74 => ?_) (fun g74 => ?_)
 · exact zq440
 · exact zq465) : a := h
theorem zq1143 (h : a := by
 exact TL.run (PR.to (pr_conv rfl) (congrArg (Value.int .u8) (dig_byte p.1))) rfl (zq1144)) : a := h
theorem zq2362 (h : a := by
 refine TC.condD rfl (fun c73 => ?_) (fun c73 => ?_)
 · exact zq2363
 · exact absurd c52 c73) : a := h
theorem zq2405 (h : a := by
 refine TC.condD rfl (fun c73 => ?_) (fun c73 => ?_)
 · exact absurd c73 c52
 · exact zq2406) : a := h
theorem zq2208 (h : a := by
 exact TF.still (pr_bag rfl hcw16 (.skip _ (.skip _ (.skip _ (.skip _ .all))))) rfl (zq2209)) : a := h
theorem zq2091 (h : a := by
 refine TL.split (s := 85) rfl (fun g85 => ?_) (fun g85 => ?_)
 · exact zq2092
 · exact zq2314) : a := h
theorem zq2042 (h : a := by
 refine TL.split (s := 66) rfl (fun g66 => ?_) (fun g66 => ?_)
 · exact zq2043
 · exact zq2058) : a := h
theorem zq516 (h : a := by
 refine zm1 ?_; refine zm37 ?_
 exact TX.sw rfl (by unfold badX; simp_all) ⟨rfl, rfl, trivial⟩) : a := h
theorem zq927 (h : a := by
 have h1 := all_bad (p := (fun n => hasS bound n)) k0 hxA (by simpa using c59) hal
 exact zq928) : a := h
theorem zq992 (h : a := by
 exact TL.callS (enters rfl rfl rfl rfl) (calls_ok xC.proc (xC.args.length + 1) hP) rfl (zq993)) : a := h
theorem zq876 (h : a := by
 refine zm1 ?_; refine zm37 ?_
 exact TX.sw rfl (by unfold protoHead; simp_all) ⟨rfl, rfl, trivial⟩) : a := h
theorem zq1733 (h : a := by
 have hO90 := hO90 (show carB p set lb = true from hall lb (List.mem_of_getElem? hlx))
 exact zq1734) : a := h
theorem zq1282 (h : a := by
 refine TF.call (enters rfl rfl rfl rfl) (m_labels_ok) rfl (fun v29 H29 hle29 hp29 => ?_)
 exact zq1283) : a := h
theorem zq1268 (h : a := by
 refine TF.call (enters rfl rfl rfl rfl) (m_labels_ok) rfl (fun v24 H24 hle24 hp24 => ?_)
 exact zq1269) : a := h
theorem zq1317 (h : a := by
 refine TF.call (enters rfl rfl rfl rfl) (m_labels_ok) rfl (fun v29 H29 hle29 hp29 => ?_)
 exact zq1318) : a := h
theorem zq1304 (h : a := by
 refine TF.call (enters rfl rfl rfl rfl) (m_labels_ok) rfl (fun v24 H24 hle24 hp24 => ?_)
 exact zq1305) : a := h
theorem zq2255 (h : a := by
 exact TF.still (pr_bag rfl hcw18 (.skip _ (.skip _ (.skip _ (.skip _ (.skip _ .all)))))) rfl (zq2256)) : a := h
theorem zq1799 (h : a := by
 exact TF.read (S1 (S1 (S1 (S1 SN)))) (Hp.le.refl _) (fun _ _ => pr_el0 hlab3 hlx rfl rfl) rfl (zq1800)) : a := h
theorem zq1152 (h : a := by
 exact TL.run (PR.to (pr_quo rfl rfl (by decide)) (congrArg (Value.int .u64) (dig_quo hD.lt))) rfl (zq1153)) : a := h
theorem zq1401 (h : a := by
 exact TL.callS (enters rfl rfl rfl rfl) (r6_sameInts_ok (hrw1 r (List.mem_of_getElem? hrx)) hN1) rfl (zq1402)) : a := h
theorem zq556 (h : a := by
 refine zm37 ?_
 exact TX.sw rfl (by unfold castBad; simp_all) ⟨rfl, rfl, rfl, rfl, rfl, rfl, rfl, rfl, trivial⟩) : a := h
theorem zq197 (h : a := by
 refine zm265 ?_; exact TC.swG (pr_pure rfl) rfl rfl ⟨rfl, trivial⟩ (TC.swE (pr_pure rfl) rfl rfl ⟨rfl, trivial⟩)) : a := h
theorem zq40 (h : a := by
 exact TC.ret (TX.fin0 (.inr rfl) (results1 rfl (RVal.tmp rfl)) ⟨congrArg Value.bool (by simp [digitB, g5]), rfl⟩)) : a := h
theorem zq688 (h : a := by
 refine zm83 ?_
 exact TX.finS (.inr rfl) (results1 rfl (RVal.tmp rfl)) (congrArg Value.bool (arms_len (by omega)))) : a := h
theorem zq904 (h : a := by
 exact TL.nil (TX.sw rfl (by unfold pointM; simp_all) ⟨rfl, rfl, rfl, rfl, rfl, rfl, rfl, rfl, rfl, rfl, trivial⟩)) : a := h
theorem zq1053 (h : a := by
 exact TL.nil (TX.sw rfl (by first | (simp [*]; done) | (simp_all; done) | (simp_all; omega)) ⟨rfl, rfl, trivial⟩)) : a := h
theorem zq2604 (h : a := by
 refine TL.pubO hO148 (.skip _ (.skip _ (.skip _ (.skip _ .all)))) (by simp) (fun HPw lePw hPw => ?_)
 exact zq2605) : a := h
theorem zq18 (h : a := by
 exact TC.ret (TX.fin0 (.inr rfl) (results1 rfl (RVal.tmp rfl)) ⟨congrArg Value.bool (by simp [letterB, g5]), rfl⟩)) : a := h
theorem zq224 (h : a := by
 exact TC.ret (TX.fin0 (.inr rfl) (results1 rfl (RVal.tmp rfl)) ⟨congrArg Value.bool (by simp_all [fieldsB]), rfl⟩)) : a := h
theorem zq434 (h : a := by
 refine zm37 ?_
 exact TX.sw rfl (by unfold wayBad; simp_all) ⟨rfl, rfl, rfl, rfl, rfl, rfl, rfl, rfl, rfl, trivial⟩) : a := h
theorem zq709 (h : a := by
 refine zm83 ?_
 exact TX.finS (.inr rfl) (results1 rfl (RVal.tmp rfl)) (congrArg Value.bool (local_len (by omega)))) : a := h
theorem zq889 (h : a := by
 refine zm37 ?_
 exact TX.sw rfl (by unfold emptyP; simp_all) ⟨rfl, rfl, rfl, rfl, rfl, rfl, rfl, rfl, rfl, trivial⟩) : a := h
theorem zq962 (h : a := by
 have h2 := all_bad (p := (fun n => !(!decide (n = []) && hasS bound n))) k0 hxB (by rw [c74]; rfl) hal
 exact zq928) : a := h
theorem zq1038 (h : a := by
 exact TX.sw rfl (by unfold paramB; simp_all) ⟨rfl, rfl, rfl, rfl, rfl, rfl, rfl, rfl, rfl, rfl, rfl, rfl, trivial⟩) : a := h
theorem zq1795 (h : a := by
 exact TF.read (S1 (S1 (S1 (S1 SN)))) (Hp.le.refl _) (fun _ _ => pr_own1 rfl (.there _ (.here _)) rfl) rfl (zq1796)) : a := h
theorem zq392 (h : a := by
 exact TC.swG (pr_pure rfl) rfl rfl ⟨rfl, rfl, rfl, trivial⟩ (TC.swE (pr_pure rfl) rfl rfl ⟨rfl, rfl, rfl, trivial⟩)) : a := h
theorem zq207 (h : a := by
 exact TX.thenR (TX.fin0 (.inr rfl) (results1 rfl (RVal.tmp rfl)) ⟨congrArg Value.bool (by simp_all [fieldsB]), rfl⟩)) : a := h
theorem zq685 (h : a := by
 exact TC.ret (TX.finS (.inr rfl) (results1 rfl (RVal.tmp rfl)) (congrArg Value.bool (by unfold carriesB; simp_all)))) : a := h
theorem zq63 (h : a := by
 exact TX.thenR (TX.fin0 (.inr rfl) (results1 rfl (RVal.tmp rfl)) ⟨congrArg Value.bool (by simp_all [keywordB]), rfl⟩)) : a := h
theorem zq679 (h : a := by
 exact TX.thenR (TX.finS (.inr rfl) (results1 rfl (RVal.tmp rfl)) (congrArg Value.bool (by unfold carriesB; simp_all)))) : a := h
theorem zq1082 (h : a := by
 refine zm67 ?_
 exact TX.finS (.inr rfl) (results1 rfl (RVal.cellA rfl (.here _) rfl)) (by rw [each_end k0 c11 hE]; rfl)) : a := h
theorem zq1685 (h : a := by
 have h72 : ¬ (labS p set).all (carB p set) = false := by rw [all_end (p := carB p set) k0 c57 hal]; decide
 exact zq1686) : a := h
theorem zq1300 (h : a := by
 exact TX.mid ⟨l1, l2, at31, H29⟩ ⟨hd31, hle24.trans hle29⟩ ⟨rfl, rfl, rfl, rfl, rfl, rfl, rfl, trivial⟩ (fun w hw => hw)) : a := h
theorem zq185 (h : a := by
 refine zm225 ?_
 exact TX.fin0 (.inr rfl) (results1 rfl (RVal.tmp rfl)) ⟨congrArg Value.bool (by simp_all [← rkw_eq]), rfl⟩) : a := h
theorem zq772 (h : a := by
 refine zm481 ?_
 exact TX.mid (b3, a22, c22, ob22) (hO22.cast (List.nil_append _)) ⟨rfl, rfl, rfl, trivial⟩ (fun w hw => hw)) : a := h
theorem zq2539 (h : a := by
 refine TL.pubO hO188 (.skip _ (.skip _ (.skip _ (.skip _ (.skip _ .all))))) (by simp) (fun HPw lePw hPw => ?_)
 exact zq2540) : a := h
theorem zq997 (h : a := by
 have h4 := all_bad (p := (fun c => callsB pg.procs c.proc (c.args.length + 1))) k0 hxC (by simpa using c104) hal
 exact zq928) : a := h
theorem zq1920 (h : a := by
 exact TX.sw rfl (by unfold emptyP; simp_all) ⟨rfl, rfl, rfl, rfl, rfl, rfl, rfl, rfl, rfl, rfl, rfl, rfl, rfl, rfl, trivial⟩) : a := h
theorem zq1454 (h : a := by
 have hEq := look_none (sets := rows.map (·.l)) hno (by rw [List.length_map]; exact fun j hj => hI2 j (by omega))
 exact zq1455) : a := h
theorem zq1486 (h : a := by
 have hEq := look_none (sets := rows.map (·.l)) hno (by rw [List.length_map]; exact fun j hj => hI2 j (by omega))
 exact zq1487) : a := h
theorem zq1686 (h : a := by
 have hall : ∀ s ∈ (labS p set), carB p set s = true := List.all_eq_true.1 (all_end (p := carB p set) k0 c57 hal)
 exact zq1687) : a := h
theorem zq730 (h : a := by
 exact TX.finS (.inr rfl) (results1 rfl (RVal.tmp rfl)) (congrArg Value.bool (local_bad k0 hx (by unfold turnB; simp_all) hal))) : a := h
theorem zq2498 (h : a := by
 refine TC.cond rfl (fun c164 => ?_) (fun c164 => ?_)
 · exact absurd c164 (by rw [List.nil_append, hnw]; decide)
 · exact zq2499) : a := h
theorem zq1875 (h : a := by
 exact TX.sw rfl (by unfold armB; first | (simp_all; done) | (simp_all; omega)) ⟨rfl, rfl, rfl, rfl, rfl, rfl, rfl, rfl, trivial⟩) : a := h
theorem zq342 (h : a := by
 refine zm0 ?_; refine zm22 ?_
 exact TX.finS (.inr rfl) (results1 rfl (RVal.tmp rfl)) (congrArg Value.bool (by rw [← hasS_place]))) : a := h
theorem zq1018 (h : a := by
 exact TX.sw rfl (by unfold headGood; first | (simp_all; done) | (simp [*]; done) | (simp_all; omega)) ⟨rfl, rfl, rfl, rfl, trivial⟩) : a := h
theorem zq1418 (h : a := by
 have hEq := look_some (sets := rows.map (·.l)) hno (k := m.toNat) (by rw [List.getElem?_map, hrx]; simpa using c71) hI2
 exact zq1419) : a := h
theorem zq1949 (h : a := by
 exact TX.sw rfl (by unfold rPtM pointM; simp_all) ⟨rfl, rfl, rfl, rfl, rfl, rfl, rfl, rfl, rfl, rfl, rfl, rfl, rfl, rfl, rfl, trivial⟩) : a := h
theorem zq672 (h : a := by
 refine zm22 ?_
 exact TX.finO (.inr rfl) (results1 rfl (RVal.tmp rfl)) (.skip _ .all) ⟨rfl, hO.cast (by rw [take_all c35 k0, termsS_eq])⟩) : a := h
theorem zq1331 (h : a := by
 refine zm0 ?_; refine zm22 ?_
 exact TX.finS (.inr rfl) (results1 rfl (RVal.tmp rfl)) (congrArg Value.bool (by unfold withinB; simp_all))) : a := h
theorem zq2238 (h : a := by
 obtain ⟨uw18, huw18, hcw18⟩ := hW154.bag.get (k := 10) (i := (V103.sn : Int).toNat) (f := 8) hbw18 rfl hjw18 (by omega) rfl
 exact zq2239) : a := h
theorem zq2191 (h : a := by
 obtain ⟨uw16, huw16, hcw16⟩ := hW128.bag.get (k := 10) (i := (V103.sn : Int).toNat) (f := 8) hbw16 rfl hjw16 (by omega) rfl
 exact zq2192) : a := h
theorem zq1175 (h : a := by
 exact TX.finS (.inr rfl) (results1 rfl (RVal.tmp rfl)) (congrArg gs (by first | exact digN_neg hD hend c28 | exact digN_pos hD hend c28))) : a := h
theorem zq706 (h : a := by
 exact TX.sw rfl (by unfold armB; first | (simp_all; done) | (simp_all; omega)) ⟨rfl, rfl, rfl, rfl, rfl, rfl, rfl, rfl, rfl, rfl, trivial⟩) : a := h
theorem zq1356 (h : a := by
 exact TX.finX (.inr rfl) (results2 rfl (RVal.tmp rfl) (RVal.tmp rfl)) (fun w hw => hw) ⟨_, _, rows, rfl, hO, hrw1, hrl, by rw [hEq], by rw [hEq]⟩) : a := h
theorem zq611 (h : a := by
 refine zm22 ?_
 exact TX.finO (.inr rfl) (results1 rfl (RVal.tmp rfl)) (.skip _ (.skip _ .all)) ⟨rfl, hO.cast (by rw [take_all c35 k0, termsS_eq])⟩) : a := h
theorem zq1365 (h : a := by
 have hno : ¬ (0 < (nearS p role (spanS p role frm)).length ∧ (spanS p role frm).any (lostB p role) = true) := no_lost k0 hI2 (by omega)
 exact zq1366) : a := h
theorem zq1582 (h : a := by
 have h48 : ¬ ((wHeadS p role set).1 = 1 ∧ alikeS p set = false) := by first | (rintro ⟨e1, e2⟩; simp_all; done) | (rintro ⟨e1, e2⟩; omega)
 exact zq1583) : a := h
theorem zq1153 (h : a := by
 refine zm37 ?_; exact TX.blkN (TX.round4 (p.1 / 10, 0) _ ob24 H1 ⟨_, hO24, hD.next hgo⟩ ⟨rfl, rfl, rfl, rfl, trivial⟩ (fun w hw => hw.dropN) (hD.down hgo))) : a := h
theorem zq1242 (h : a := by
 refine TL.callD0 (X := []) (bd := bd) rfl (enters rfl rfl rfl rfl) (Pick_ok places (by omega) hd31) rfl (fun v34 H34 at34 hle34 hd34 hp34 => ?_)
 exact zq1243) : a := h
theorem zq1835 (h : a := by
 have hT : turnA p role set (labS p set) (rows.map (·.l)) [] = (q.arms, 0, q.rows.map (·.l)) := by rw [← hq7, List.drop_eq_nil_of_le (by omega)]; rfl
 exact zq1836) : a := h
theorem zq972 (h : a := by
 refine TL.callSY rfl rfl (enters rfl rfl rfl rfl) (calls_ok s.proc s.args.length hP) rfl ?_; refine zm85 ?_
 exact TX.sw rfl (by simp_all) ⟨rfl, rfl, rfl, trivial⟩) : a := h
theorem zq480 (h : a := by
 exact TX.finS (.inr rfl) (results1 rfl (RVal.tmp rfl)) (congrArg Value.bool (by unfold mayS; first | (rw [hall]; clear hall; simp_all; done) | (simp_all <;> omega)))) : a := h
theorem zq1197 (h : a := by
 refine TL.callD0 (X := [(F.bw, _)]) (bd := F.bd) rfl (enters rfl rfl rfl rfl) (Pick_ok 5 (by omega) hW34.d) rfl (fun v40 H40 at40 hle40 hd40 hp40 => ?_)
 exact zq1198) : a := h
theorem zq1217 (h : a := by
 refine TL.callD0 (X := [(F.bw, _)]) (bd := F.bd) rfl (enters rfl rfl rfl rfl) (Pick_ok 4 (by omega) hW47.d) rfl (fun v53 H53 at53 hle53 hd53 hp53 => ?_)
 exact zq1218) : a := h
theorem zq1633 (h : a := by
 refine TL.callK (X := [(b4, _)]) (b := bw) rfl (enters rfl rfl rfl rfl) (wkCarried_ok role hp hf hr lb hfl) rfl (fun v67 H67 ob67 hle67 hf67 hp67 => ?_)
 exact zq1634) : a := h
theorem zq294 (h : a := by
 refine TX.fin1 (.inr rfl) (results1 rfl (RVal.tmp rfl)) (.here _) ⟨_, _, ?_, rfl, rfl, ?_, rfl⟩
 · exact zq247
 · first | assumption | (simp; done) | (simp; assumption)) : a := h
theorem zq1272 (h : a := by
 refine TL.callD0 (X := [(b9, _), (b8, _)]) (bd := bd) rfl (enters rfl rfl rfl rfl) (Pick_ok 2 (by omega) hd) rfl (fun v26 H26 at26 hle26 hd26 hp26 => ?_)
 exact zq1273) : a := h
theorem zq1308 (h : a := by
 refine TL.callD0 (X := [(b9, _), (b8, _)]) (bd := bd) rfl (enters rfl rfl rfl rfl) (Pick_ok 2 (by omega) hd) rfl (fun v26 H26 at26 hle26 hd26 hp26 => ?_)
 exact zq1309) : a := h
theorem zq1735 (h : a := by
 refine TL.pubO hO90 (.skip _ (.skip _ (.skip _ (.past _ .all)))) (fun p hp hm => absurd (hM _ hm) (Nat.not_lt.2 (hf90 p hp))) (fun HP90 leP90 hT90 => ?_)
 exact zq1736) : a := h
theorem zq1547 (h : a := by
 refine TL.append (enc := Str.cells) rfl rfl rfl hO37 (Src.own [s] (.here _) rfl rfl) (by simp; omega) rfl (.skip _ .all) rfl (fun a41 c41 ob41 hO41 => ?_)
 exact zq1548) : a := h
theorem zq1286 (h : a := by
 refine TL.callD0 (X := [(b9, _), (b8, _)]) (bd := bd) rfl (enters rfl rfl rfl rfl) (Pick_ok 2 (by omega) hd26) rfl (fun v31 H31 at31 hle31 hd31 hp31 => ?_)
 exact zq1287) : a := h
theorem zq1322 (h : a := by
 refine TL.callD0 (X := [(b9, _), (b8, _)]) (bd := bd) rfl (enters rfl rfl rfl rfl) (Pick_ok 2 (by omega) hd26) rfl (fun v31 H31 at31 hle31 hd31 hp31 => ?_)
 exact zq1323) : a := h
theorem zq620 (h : a := by
 refine TL.append (enc := I64.cells) rfl rfl rfl (OwnSl.nil (enc := I64.cells)) (Src.sl ha) (by simp; omega) rfl (.new _ rfl) rfl (fun a30 c30 ob30 hO30 => ?_)
 exact zq621) : a := h
theorem zq1879 (h : a := by
 exact TX.seqN (TC.ret (TX.finS (.inr rfl) (results1 rfl (RVal.tmp rfl)) (congrArg Value.bool (rarms_end k0 c10 hal hnd (by first | (simp_all; done) | (simp_all; omega))))))) : a := h
theorem zq745 (h : a := by
 exact TX.finS (.inr rfl) (results1 rfl (RVal.tmp rfl)) (congrArg Value.bool (by unfold callsB getP; first | (rw [hx]; simp_all; done) | (simp_all; done) | (simp_all; omega)))) : a := h
theorem zq878 (h : a := by
 exact TX.finS (.inr rfl) (results1 rfl (RVal.tmp rfl)) (congrArg Value.bool (by first | exact proto_1 c34 | exact proto_2 hr1 | exact proto_3 hp1 | exact proto_4 hh hr1 hp1))) : a := h
theorem zq1530 (h : a := by
 exact TX.thenR (TX.fin0 (.inr rfl) (results1 rfl (RVal.tmp rfl)) (by first | exact absurd q25 q11 | (rw [put_have hI.2.2 hx (by simp [c18]) (by simpa using c32)]; exact hL)))) : a := h
theorem zq162 (h : a := by
 exact TX.round (k + 1) ⟨by omega, by omega, nameMay_step hI.2.2 (by omega) hc (by first | exact .inl g33 | exact .inr c39)⟩ ⟨rfl, rfl, rfl, trivial⟩ (fun w hw => hw) (by omega)) : a := h
theorem zq1195 (h : a := by
 exact TX.finW (V' := V8) (X := []) (.inr rfl) (results1 rfl (RVal.tmp rfl)) rfl rfl (hW8.more (by omega)) hS8 (by (try dsimp only); omega) (by (try dsimp only); omega) ⟨_, rfl⟩) : a := h
theorem zq246 (h : a := by
 refine TX.fin1 (.inr rfl) (results1 rfl (RVal.tmp rfl)) (.there _ (.here _)) ⟨_, _, ?_, rfl, rfl, ?_, rfl⟩
 · exact zq247
 · first | assumption | (simp; done) | (simp; assumption)) : a := h
theorem zq350 (h : a := by
 refine TC.condD rfl (fun c6 => ?_) (fun c6 => ?_)
 · exact TC.ret (TX.thenR (TX.finX (.inr rfl) (results0 rfl) (fun w hw => hw) ⟨rfl, rfl, _, _, rfl, hO⟩))
 · exact absurd hneg c6) : a := h
theorem zq1189 (h : a := by
 exact TX.thenR (TX.finX (.inr rfl) (results1 rfl (RVal.tmp rfl)) (fun w hw => hw) ⟨_, [], rfl, ⟨l, hl, ha0, ha1⟩, rfl, rfl, _, rfl, ⟨by omega, fun h => by omega, fun _ => rfl⟩⟩)) : a := h
theorem zq1729 (h : a := by
 refine TL.callK (X := [(b15, _), (b4, _)]) (b := bw) rfl (enters rfl rfl rfl rfl) (wkCarried_ok role hp2 hf2 hr lb hfl) rfl (fun v90 H90 ob90 hle90 hf90 hp90 => ?_)
 exact zq1730) : a := h
theorem zq1907 (h : a := by
 exact TX.finS (.inr rfl) (results1 rfl (RVal.tmp rfl)) (congrArg Value.bool (by first | exact rproto_1 c39 | exact rproto_2 hr1 | exact rproto_3 hp1 | exact rproto_4 hh hr1 hp1))) : a := h
theorem zq1240 (h : a := by
 exact TX.seqN (TC.ret (TX.finX (.inr rfl) (results1 rfl (RVal.cellA rfl (.here _) rfl)) (fun w hw => hw.drop) ⟨_, [], rfl, hd22, rfl, rfl, _, _, rfl, .inl ⟨hk22.1, hk22.2, rfl⟩⟩))) : a := h
theorem zq1598 (h : a := by
 have hE : turnS p role (rows.map (·.l)) set = ((0, [], []), 805, rows.map (·.l)) := by unfold turnS; rw [if_neg (by omega), if_neg h34, if_neg h48, if_pos (by omega)]
 exact zq1576) : a := h
theorem zq393 (h : a := by
 exact TX.finS (.inr rfl) (results1 rfl (RVal.tmp rfl)) (congrArg Value.bool (by first | exact (once_end c7 hI.1 hI.2.2).symm | exact (once_place hI.1 hx (by simpa using c16)).symm))) : a := h
theorem zq2118 (h : a := by
 refine TL.callD0 (X := [(b7, _), (b6, _), (F.bw, _)]) (bd := F.bd) rfl (enters rfl rfl rfl rfl) (Pick_ok 3 (by omega) hW.d) rfl (fun v99 H99 at99 hle99 hd99 hp99 => ?_)
 exact zq2119) : a := h
theorem zq341 (h : a := by
 exact TX.finS (.inr rfl) (results1 rfl (RVal.tmp rfl)) (congrArg (Value.int .i64) (by first | exact (placeS_hit hI.1 (by rw [hx, c16]) hI.2.2).symm | exact (place_end hI.2.2 c9).symm))) : a := h
theorem zq1070 (h : a := by
 exact TX.sw rfl (by first | (simp_all; done) | (simp [*]; done) | (simp_all; omega)) ⟨rfl, rfl, rfl, rfl, rfl, rfl, rfl, rfl, rfl, rfl, rfl, rfl, rfl, rfl, rfl, rfl, rfl, rfl, trivial⟩) : a := h
theorem zq1880 (h : a := by
 exact TX.finS (.inr rfl) (results1 rfl (RVal.tmp rfl)) (congrArg (Value.int .i64) (by first | exact (placeS_hit hI.1 (by rw [hx, c17]) hI.2.2).symm | exact (place_end hI.2.2 c9).symm))) : a := h
theorem zq2053 (h : a := by
 refine TL.callW (F := F) (V := V) (m := m) [(b6, _)] rfl rfl (enters rfl rfl rfl rfl) (wClose_ok false) hW (by omega) rfl (fun v71 V71 hle71 hW71 hS71 hs71 ht71 hp71 => ?_)
 exact zq2054) : a := h
theorem zq261 (h : a := by
 refine TX.fin1 (.inr rfl) (results1 rfl (RVal.tmp rfl)) (.there _ (.there _ (.here _))) ⟨_, _, ?_, rfl, rfl, ?_, rfl⟩
 · exact zq247
 · first | assumption | (simp; done) | (simp; assumption)) : a := h
theorem zq384 (h : a := by
 exact TX.finS (.inr rfl) (results1 rfl (RVal.cellA rfl (.here _) rfl)) (congrArg Value.agg (congrArg List.toArray (by unfold bareS SStep.cells; first | (simp_all; rfl) | (simp_all; done))))) : a := h
theorem zq1333 (h : a := by
 exact TX.finS (.inr rfl) (results1 rfl (RVal.tmp rfl)) (congrArg Value.bool (by first | exact (sameI_len c10).symm | exact (sameI_at hx hy c25).symm | exact (sameI_end hl k0 c14 hI2).symm))) : a := h
theorem zq748 (h : a := by
 exact TX.sw rfl (by first | (simp_all; done) | (simp_all; omega)) ⟨rfl, rfl, rfl, rfl, rfl, rfl, rfl, rfl, rfl, rfl, rfl, rfl, rfl, rfl, rfl, rfl, rfl, rfl, rfl, rfl, rfl, rfl, rfl, trivial⟩) : a := h
theorem zq1848 (h : a := by
 exact TX.finS (.inr rfl) (results1 rfl (RVal.tmp rfl)) (congrArg Value.bool (by first | (rw [tyName_hit k0 hcd hn]; simp_all; done) | exact (tyName_none (fun j hj => hn j (by omega))).symm))) : a := h
theorem zq2336 (h : a := by
 refine TL.callD0 (X := [(b11, _), (b8, _), (b4, _), (b15, _)]) (bd := bd) rfl (enters rfl rfl rfl rfl) (Pick_ok 4 (by omega) hW60.d) rfl (fun v66 H66 at66 hle66 hd66 hp66 => ?_)
 exact zq2337) : a := h
theorem zq2379 (h : a := by
 refine TL.callD0 (X := [(b11, _), (b8, _), (b4, _), (b15, _)]) (bd := bd) rfl (enters rfl rfl rfl rfl) (Pick_ok 4 (by omega) hW60.d) rfl (fun v66 H66 at66 hle66 hd66 hp66 => ?_)
 exact zq2380) : a := h
theorem zq739 (h : a := by
 exact TX.round (k + 1) ⟨⟨by omega, by omega⟩, all_next (p := (turnB l.turns.length)) k0 hx (by unfold turnB; simp_all) hal⟩ ⟨rfl, rfl, rfl, rfl, rfl, trivial⟩ (fun w hw => hw.drop) (by omega)) : a := h
theorem zq947 (h : a := by
 exact TX.round (k + 1) ⟨⟨by omega, by omega⟩, all_next (p := (fun n => hasS bound n)) k0 hxA (by simpa using c59) hal⟩ ⟨rfl, rfl, rfl, rfl, rfl, rfl, rfl, trivial⟩ (fun w hw => hw) (by omega)) : a := h
theorem zq340 (h : a := by
 exact TX.finS (.inr rfl) (results1 rfl (RVal.tmp rfl)) (congrArg Value.bool (by first | exact (mayB_F1 g10).symm | exact (mayB_F2 g14).symm | exact (mayB_F3 c19).symm | (rw [mayB_T h160, e])))) : a := h
theorem zq1849 (h : a := by
 exact TX.finS (.inr rfl) (results1 rfl (RVal.tmp rfl)) (congrArg Value.bool (by first | exact (carries_5 c5).symm | (rw [carries_n c5]; simp_all; done) | (rw [carries_n c5]; simp_all; omega)))) : a := h
theorem zq2303 (h : a := by
 refine TL.callD0 (X := [(b6, _), (F.bw, _)]) (bd := F.bd) rfl (enters rfl rfl rfl rfl) (Pick_ok (t.arms.length : Int) (by omega) hW.d) rfl (fun v35 H35 at35 hle35 hd35 hp35 => ?_)
 exact zq2304) : a := h
theorem zq1206 (h : a := by
 refine TL.callW (F := F) (V := V41) (m := m + 1 + 1) [] rfl rfl (enters rfl rfl rfl rfl) (wBoth_ok 6 i34 i41) hW41 (by omega) rfl (fun v42 V42 hle42 hW42 hS42 hs42 ht42 hp42 => ?_)
 exact zq1207) : a := h
theorem zq2010 (h : a := by
 refine TL.callD0 (X := [(b10, _), (b8, _), (b5, _), (F.bw, _)]) (bd := F.bd) rfl (enters rfl rfl rfl rfl) (Pick_ok 3 (by omega) hW54.d) rfl (fun v60 H60 at60 hle60 hd60 hp60 => ?_)
 exact zq2011) : a := h
theorem zq1226 (h : a := by
 refine TL.callW (F := F) (V := V54) (m := m + 1 + 1) [] rfl rfl (enters rfl rfl rfl rfl) (wBoth_ok 12 i47 i54) hW54 (by omega) rfl (fun v55 V55 hle55 hW55 hS55 hs55 ht55 hp55 => ?_)
 exact zq1227) : a := h
theorem zq2057 (h : a := by
 exact TX.finW (V' := V71) (X := [(b6, _)]) (.inl rfl) (results0 rfl) rfl rfl (hW71.more (by omega)) hS71 (by (try dsimp only); omega) (by (try dsimp only); omega) ⟨rfl, by (try dsimp only); omega⟩) : a := h
theorem zq2083 (h : a := by
 exact TX.finW (V' := V79) (X := [(b6, _)]) (.inl rfl) (results0 rfl) rfl rfl (hW79.more (by omega)) hS79 (by (try dsimp only); omega) (by (try dsimp only); omega) ⟨rfl, by (try dsimp only); omega⟩) : a := h
theorem zq2313 (h : a := by
 exact TX.finW (V' := V37) (X := [(b6, _)]) (.inl rfl) (results0 rfl) rfl rfl (hW37.more (by omega)) hS37 (by (try dsimp only); omega) (by (try dsimp only); omega) ⟨rfl, by (try dsimp only); omega⟩) : a := h
theorem zq1054 (h : a := by
 exact TX.finS (.inr rfl) (results1 rfl (RVal.cellA rfl (.here _) rfl)) (by first | (rw [all_1 c22]; rfl) | (rw [all_2 c22 hr1]; rfl) | (rw [all_3 c22 hr1 hl1]; rfl) | (rw [all_4 c22 hr1 hl1]; rfl))) : a := h
theorem zq1557 (h : a := by
 refine TL.append (enc := Str.cells) rfl rfl rfl hO41 (Src.sl (hL.sliced (j := l.length) (by omega) (Nat.le_refl _))) (by simp; omega) rfl (.skip _ .all) rfl (fun a46 c46 ob46 hO46 => ?_)
 exact zq1558) : a := h
theorem zq898 (h : a := by
 exact TX.round (k + 1) ⟨⟨by omega, by omega⟩, all_next (p := (pointB p.roles)) k0 hx (by first | exact pt_1 c66 | exact pt_2 c87) hal⟩ ⟨rfl, rfl, rfl, rfl, rfl, trivial⟩ (fun w hw => hw.drop) (by omega)) : a := h
theorem zq663 (h : a := by
 refine TL.append (enc := I64.cells) rfl rfl rfl hO (Src.sl hxa) (by have hh := tHead_len s; simp only [List.length_append]; omega) rfl (.skip _ (.skip _ .all)) rfl (fun a41 c41 ob41 hO41 => ?_)
 exact zq594) : a := h
theorem zq1085 (h : a := by
 refine TL.append (enc := SProc.cells) rfl rfl rfl hO3 (Src.own [q104] (.here _) rfl rfl) (by simp; omega) rfl (.skip _ (.skip _ (.skip _ (.skip _ .all)))) rfl (fun a106 c106 ob106 hO106 => ?_)
 exact zq1086) : a := h
theorem zq1215 (h : a := by
 exact TX.finW (V' := V42) (X := []) (.inr rfl) (results1 rfl (RVal.tmp rfl)) rfl rfl (hW42.more (by omega)) (hS34.trans (hS41.trans (hS42))) (by (try dsimp only); omega) (by (try dsimp only); omega) ⟨_, rfl⟩) : a := h
theorem zq1235 (h : a := by
 exact TX.finW (V' := V55) (X := []) (.inr rfl) (results1 rfl (RVal.tmp rfl)) rfl rfl (hW55.more (by omega)) (hS47.trans (hS54.trans (hS55))) (by (try dsimp only); omega) (by (try dsimp only); omega) ⟨_, rfl⟩) : a := h
theorem zq1563 (h : a := by
 exact TX.fin0 (.inr rfl) (results1 rfl (RVal.tmp rfl)) (by first | exact absurd q25 q11 | (rw [put_mid hI.2.2 hx (by simp [c18]) (by simpa using c32)]; exact hR) | (rw [put_end hI.2.2 (by omega)]; exact hR))) : a := h
theorem zq1067 (h : a := by
 exact TX.finS (.inr rfl) (results1 rfl (RVal.cellA rfl (.there _ (.here _)) rfl)) (by first | (rw [all_1 c22]; rfl) | (rw [all_2 c22 hr1]; rfl) | (rw [all_3 c22 hr1 hl1]; rfl) | (rw [all_4 c22 hr1 hl1]; rfl))) : a := h
theorem zq755 (h : a := by
 exact TX.finS (.inr rfl) (results1 rfl (RVal.tmp rfl)) (congrArg Value.bool (by first | exact (opens_end k0 c16 hop).symm | exact (opens_1 hk0 hx c23 hop c50).symm | exact (opens_2 hk0 hx c23 hop c50 h1).symm))) : a := h
theorem zq2164 (h : a := by
 refine TL.callD0 (X := [(b7, _), (b6, _), (F.bw, _)]) (bd := F.bd) rfl (enters rfl rfl rfl rfl) (Pick_ok (t.arms.length : Int) (by omega) hW107.d) rfl (fun v115 H115 at115 hle115 hd115 hp115 => ?_)
 exact zq2165) : a := h
theorem zq2286 (h : a := by
 refine TL.callD0 (X := [(b7, _), (b6, _), (F.bw, _)]) (bd := F.bd) rfl (enters rfl rfl rfl rfl) (Pick_ok (t.arms.length : Int) (by omega) hW107.d) rfl (fun v115 H115 at115 hle115 hd115 hp115 => ?_)
 exact zq2287) : a := h
theorem zq970 (h : a := by
 exact TX.round (k + 1) ⟨⟨by omega, by omega⟩, all_next (p := (fun n => !(!decide (n = []) && hasS bound n))) k0 hxB (by rw [c74]; rfl) hal⟩ ⟨rfl, rfl, rfl, rfl, rfl, rfl, rfl, trivial⟩ (fun w hw => hw) (by omega)) : a := h
theorem zq1931 (h : a := by
 exact TX.round (k + 1) ⟨⟨by omega, by omega⟩, all_next (p := (rPointB p.roles p.points.length)) k0 hx (by first | exact rpt_1 c79 | exact rpt_2 c109) hal⟩ ⟨rfl, rfl, rfl, trivial⟩ (fun w hw => hw.drop) (by omega)) : a := h
theorem zq593 (h : a := by
 refine TL.append (enc := I64.cells) rfl rfl rfl hO (Src.sl hxa) (by have hh := tHead_len s; simp only [List.length_append]; omega) rfl (.skip _ (.skip _ (.skip _ .all))) rfl (fun a41 c41 ob41 hO41 => ?_)
 exact zq594) : a := h
theorem zq1905 (h : a := by
 exact TX.sw rfl (by unfold rHead; by_cases h24 : (24 : Int) < p.points.length <;> by_cases h24b : (p.points.length : Int) ≤ 24 <;> first | (exfalso; omega) | (simp_all; done) | (simp_all; omega)) ⟨rfl, rfl, trivial⟩) : a := h
theorem zq1538 (h : a := by
 refine TL.append (enc := Str.cells) rfl rfl rfl (OwnSl.nil (enc := Str.cells)) (Src.sl (hL.sliced (i := 0) (Nat.zero_le _) (by omega))) (by simp; omega) rfl (.new _ rfl) rfl (fun a37 c37 ob37 hO37 => ?_)
 exact zq1539) : a := h
theorem zq2529 (h : a := by
 refine TL.append (enc := Str.cells) rfl rfl rfl hO148 (Src.own [w.name] (.here _) rfl rfl) (by simp; omega) rfl (.skip _ (.skip _ (.skip _ (.skip _ (.skip _ .all))))) rfl (fun a188 c188 ob188 hO188 => ?_)
 exact zq2530) : a := h
theorem zq2571 (h : a := by
 refine TL.append (enc := Str.cells) rfl rfl rfl hO148 (Src.own [w.name] (.here _) rfl rfl) (by simp; omega) rfl (.skip _ (.skip _ (.skip _ (.skip _ (.skip _ .all))))) rfl (fun a188 c188 ob188 hO188 => ?_)
 exact zq2572) : a := h
theorem zq2595 (h : a := by
 refine TL.append (enc := Str.cells) rfl rfl rfl hO148 (Src.own [w.name] (.here _) rfl rfl) (by simp; omega) rfl (.skip _ (.skip _ (.skip _ (.skip _ (.skip _ .all))))) rfl (fun a188 c188 ob188 hO188 => ?_)
 exact zq2596) : a := h
theorem zq1005 (h : a := by
 exact TX.round (k + 1) ⟨⟨by omega, by omega⟩, all_next (p := (fun c => callsB pg.procs c.proc (c.args.length + 1))) k0 hxC (by simpa using c104) hal⟩ ⟨rfl, rfl, rfl, rfl, rfl, rfl, trivial⟩ (fun w hw => hw.drop) (by omega)) : a := h
theorem zq1837 (h : a := by
 exact TX.finX (.inr rfl) (results2 rfl (RVal.cellA rfl (.there _ (.here _)) rfl) (RVal.tmp rfl)) (fun w hw => hw.drop.drop) ⟨_, q.ob, q.rows, _, q.oa, rfl, hq3, hq4, hq5, by rw [hE], by rw [hE]; exact hq6, by rw [hE]; rfl⟩) : a := h
theorem zq2128 (h : a := by
 refine TL.callW (F := F) (V := V102) (m := m + 1 + 1) [(b7, _), (b6, _)] rfl rfl (enters rfl rfl rfl rfl) (wBoth_ok 12 i100 i102) hW102 (by omega) rfl (fun v103 V103 hle103 hW103 hS103 hs103 ht103 hp103 => ?_)
 exact zq2129) : a := h
theorem zq1201 (h : a := by
 refine TL.callW (F := F) (V := { V34 with at_ := at40 }) (m := m + 1) [] rfl rfl (enters rfl rfl rfl rfl) (wNum_ok _) (hW34.dice (.refl _) hd40) (by omega) rfl (fun v41 V41 hle41 hW41 hS41 hs41 ht41 hp41 => ?_)
 exact zq1202) : a := h
theorem zq1221 (h : a := by
 refine TL.callW (F := F) (V := { V47 with at_ := at53 }) (m := m + 1) [] rfl rfl (enters rfl rfl rfl rfl) (wNum_ok _) (hW47.dice (.refl _) hd53) (by omega) rfl (fun v54 V54 hle54 hW54 hS54 hs54 ht54 hp54 => ?_)
 exact zq1222) : a := h
theorem zq1334 (h : a := by
 exact TX.finS (.inr rfl) (results1 rfl (RVal.tmp rfl)) (congrArg (Value.int .i64) (by first | exact (placeS_hit hI.1 (by rw [map_at hx, c18]) hI.2.2).symm | exact (place_end hI.2.2 (by rw [List.length_map]; exact c9)).symm))) : a := h
theorem zq2377 (h : a := by
 exact TX.roundW (k + 1) V76 r (⟨hW76.more (by omega), ⟨by omega, by omega⟩, ((((hI3.trans hle47).trans hle60).trans hle67).trans hle76), by omega⟩) ⟨rfl, rfl, rfl, rfl, rfl, rfl, trivial⟩ (fun w hw => hw.drop.drop) (by omega)) : a := h
theorem zq2420 (h : a := by
 exact TX.roundW (k + 1) V79 r (⟨hW79.more (by omega), ⟨by omega, by omega⟩, ((((hI3.trans hle47).trans hle60).trans hle67).trans hle79), by omega⟩) ⟨rfl, rfl, rfl, rfl, rfl, rfl, trivial⟩ (fun w hw => hw.drop.drop) (by omega)) : a := h
theorem zq1512 (h : a := by
 refine TX.finX (.inr rfl) (results3 rfl (RVal.tmp rfl) (RVal.tmp rfl) (RVal.tmp rfl)) (fun w hw => hw.drop) ⟨[], rfl, rfl, rfl, by rw [← hI3, wHeadF_bad (role := role) hx hxp (by refine ⟨by omega, fun h => ?_⟩; simp_all)]; rfl⟩) : a := h
theorem zq2079 (h : a := by
 refine TL.callW (F := F) (V := V) (m := m) [(b6, _)] rfl rfl (enters rfl rfl rfl rfl) (wHears_ok hG turn deep h0 h1 (ih hdp.1 (by omega)) hK hdp) hW (by omega) rfl (fun v79 V79 hle79 hW79 hS79 hs79 ht79 hp79 => ?_)
 exact zq2080) : a := h
theorem zq1073 (h : a := by
 exact TX.sw rfl (by first | (simp_all; done) | (simp [*]; done) | (simp_all; omega)) ⟨rfl, rfl, rfl, rfl, rfl, rfl, rfl, rfl, rfl, rfl, rfl, rfl, rfl, rfl, rfl, rfl, rfl, rfl, rfl, rfl, rfl, rfl, rfl, rfl, rfl, rfl, rfl, trivial⟩) : a := h
theorem zq1575 (h : a := by
 exact TX.finX (.inr rfl) (results3 rfl (RVal.cellA rfl (.there _ (.here _)) rfl) (RVal.tmp rfl) (RVal.tmp rfl)) (fun w hw => hw.drop.drop) ⟨ob, rfl, rfl, _, by rw [hE]; rfl, fun h => by rw [hE] at h ⊢; first | exact hO | cases h⟩) : a := h
theorem zq2168 (h : a := by
 refine TL.callD0 (X := [(b7, _), (b6, _), (F.bw, _)]) (bd := F.bd) rfl (enters rfl rfl rfl rfl) (Pick_ok (t.arms.length : Int) (by omega) (hW107.dice (.refl _) hd115).d) rfl (fun v123 H123 at123 hle123 hd123 hp123 => ?_)
 exact zq2169) : a := h
theorem zq194 (h : a := by
 exact TX.fin0 (.inr rfl) (results1 rfl (RVal.tmp rfl)) ⟨congrArg (Value.int .i64) (by simp only [Bool.or_eq_true, Bool.or_eq_false_iff, decide_eq_true_eq, decide_eq_false_iff_not] at *; unfold operandsI; (repeat' split) <;> omega), rfl⟩) : a := h
theorem zq1677 (h : a := by
 exact TX.round (k + 1) ⟨⟨by omega, by omega⟩, all_next (p := carB p set) k0 hlx (by simpa [carB] using c72) hal⟩ ⟨rfl, rfl, rfl, rfl, rfl, rfl, rfl, rfl, trivial⟩ (fun w hw => St.dropT (A := (b4, _) :: (bw, _) :: ob) hw.drop) (by omega)) : a := h
theorem zq2125 (h : a := by
 refine TL.callW (F := F) (V := V100) (m := m + 1) [(b7, _), (b6, _)] rfl rfl (enters rfl rfl rfl rfl) (wName_ok [110] (.inr (.inr (.inl rfl)))) hW100 (by omega) rfl (fun v102 V102 hle102 hW102 hS102 hs102 ht102 hp102 => ?_)
 exact zq2126) : a := h
theorem zq850 (h : a := by
 refine TL.append (enc := STurn.cells) rfl rfl rfl hO (Src.own [⟨1, x.to, x.arms, x.ap⟩] (.here _) rfl rfl) (by simp; omega) rfl (.skip _ (.skip _ (.skip _ (.skip _ (.skip _ (.skip _ .all)))))) rfl (fun a39 c39 ob39 hO39 => ?_)
 exact zq851) : a := h
theorem zq354 (h : a := by
 exact TX.finS (.inr rfl) (results1 rfl (RVal.tmp rfl)) (congrArg (Value.int .i64) (by unfold findS; first | exact (placeS_hit hI.1 (by rw [map_at hx, c19]) hI.2.2).symm | exact (place_end hI.2.2 (by rw [List.length_map]; exact c10)).symm))) : a := h
theorem zq2120 (h : a := by
 refine TL.callW (F := F) (V := { V with at_ := at99 }) (m := m) [(b7, _), (b6, _)] rfl rfl (enters rfl rfl rfl rfl) (wNum_ok _) (hW.dice (.refl _) hd99) (by omega) rfl (fun v100 V100 hle100 hW100 hS100 hs100 ht100 hp100 => ?_)
 exact zq2121) : a := h
theorem zq2033 (h : a := by
 exact TX.finW (V' := V66) (X := [(b10, _), (b8, _), (b5, _)]) (.inl rfl) (results0 rfl) rfl rfl (hW66.more (by omega)) (hS44.trans (hS54.trans (hS61.trans (hSb62.trans (hS66))))) (by (try dsimp only); omega) (by (try dsimp only); omega) rfl) : a := h
theorem zq1104 (h : a := by
 exact TX.fin0 (.inr rfl) (results1 rfl (RVal.tmp rfl)) (congrArg Value.bool (by first | rfl | (rw [hN23]; rfl) | exact absurd (stop_find _ _) q16 | exact absurd (stop_no _ _) q21 | exact absurd g11 (by decide) | exact absurd g5 (by decide)))) : a := h
theorem zq2355 (h : a := by
 refine TL.absorb (enc := I64.cells) (t := 4) (X := []) (Y := [(b11, _), (b8, _), (b4, _), (b15, _), (bd, _)]) [_, _] rfl hW67.bag rfl rfl rfl (by intro y hy; exact ⟨⟨_, rfl⟩, trivial⟩) (fun Sb68 Bb68 hSb68 hNb68 hbb68 hBb68 => ?_)
 exact zq2356) : a := h
theorem zq2398 (h : a := by
 refine TL.absorb (enc := I64.cells) (t := 4) (X := []) (Y := [(b11, _), (b8, _), (b4, _), (b15, _), (bd, _)]) [_, _] rfl hW67.bag rfl rfl rfl (by intro y hy; exact ⟨⟨_, rfl⟩, trivial⟩) (fun Sb68 Bb68 hSb68 hNb68 hbb68 hBb68 => ?_)
 exact zq2399) : a := h
theorem zq780 (h : a := by
 refine TL.storeO (a' := { c with args := (takesGo q.terms c.args [] (m2, o2)).1, ap := (aa94, ac94) }) rfl rfl hOc (.skip _ (.skip _ (.skip _ (.skip _ (.skip _ (.past _ (.past _ .all))))))) hcC rfl rfl rfl rfl (fun obd ed hOd => ?_)
 exact zq781) : a := h
theorem zq814 (h : a := by
 refine TL.storeO (a' := { c with args := (takesGo q.terms c.args [] (m2, o2)).1, ap := (aa94, ac94) }) rfl rfl hOc (.skip _ (.skip _ (.skip _ (.skip _ (.skip _ (.past _ (.past _ .all))))))) hcC rfl rfl rfl rfl (fun obd ed hOd => ?_)
 exact zq815) : a := h
theorem zq1786 (h : a := by
 have hT : turnA p role set (labS p set) (rows.map (·.l)) [] = ([], (lookS p role (q.rows.map (·.l)) (carS p set lb).2.2.1).2.1, (lookS p role (q.rows.map (·.l)) (carS p set lb).2.2.1).2.2) := by rw [← hq7]; exact turnA_bad hlx c101
 exact zq1787) : a := h
theorem zq2026 (h : a := by
 refine TL.absorb (enc := I64.cells) (t := 4) (X := []) (Y := [(b10, _), (b8, _), (b5, _), (F.bw, _), (F.bd, _)]) [_, _] rfl hW61.bag rfl rfl rfl (by intro y hy; exact ⟨⟨_, rfl⟩, trivial⟩) (fun Sb62 Bb62 hSb62 hNb62 hbb62 hBb62 => ?_)
 exact zq2027) : a := h
theorem zq1251 (h : a := by
 refine TL.append (enc := SArm.cells) rfl rfl rfl hO (Src.own [⟨lb, k31, nm31, r34⟩] (.here _) rfl rfl) (by have := hI5; simp only [List.length_cons, List.length_nil]; omega) rfl (.skip _ (.skip _ .all)) rfl (fun a37 c37 ob37 hO37 => ?_)
 exact zq1252) : a := h
theorem zq1576 (h : a := by
 exact TX.finX (.inr rfl) (results2 rfl (RVal.cellA rfl (.here _) rfl) (RVal.tmp rfl)) (fun w hw => by rw [List.append_nil]; exact hw.drop) ⟨_, ob, rows, .slice none 0 0, [], rfl, hO, hrw, hrl, by rw [hE], by rw [hE]; exact OwnSl.nil, by rw [hE]; rfl⟩) : a := h
theorem zq1754 (h : a := by
 refine TL.callXM (X := [(b17, _), (b15, _), (b4, _)]) (A := (bw, _) :: q.ob) rfl (enters rfl rfl rfl rfl) (look_ok role hp2 hN hn hq3 hq4 hq5 hT90 (by have := carS_len (p := p) (s := lb) set; omega)) rfl (fun v97 H97 A97 hle97 hp97 => ?_)
 exact zq1755) : a := h
theorem zq2014 (h : a := by
 refine TL.callW (F := F) (V := { V54 with at_ := at60 }) (m := m + 0 + 1) [(b10, _), (b8, _), (b5, _)] rfl rfl (enters rfl rfl rfl rfl) (wNum_ok _) (hW54.dice (.refl _) hd60) (by omega) rfl (fun v61 V61 hle61 hW61 hS61 hs61 ht61 hp61 => ?_)
 exact zq2015) : a := h
theorem zq1667 (h : a := by
 have hE : turnS p role (rows.map (·.l)) set = ((0, [], []), 804, rows.map (·.l)) := by unfold turnS; rw [if_neg (by omega), if_neg h34, if_neg h48, if_neg (by omega), if_pos (all_bad (p := carB p set) k0 hlx (by simpa [carB] using c72) hal)]
 exact zq1668) : a := h
theorem zq1998 (h : a := by
 refine TL.append (enc := SLocal.cells) rfl rfl rfl hO (Src.own [⟨nm, ts, tp⟩] (.here _) rfl rfl) (by have := hLs.len; simp only [List.length_cons, List.length_nil]; omega) rfl (.skip _ (.skip _ (.skip _ .all))) rfl (fun a36 c36 ob36 hO36 => ?_)
 exact zq1999) : a := h
theorem zq1146 (h : a := by
 refine TL.append (enc := U8.cells) rfl rfl rfl (OwnSl.blk (enc := U8.cells) [UInt8.ofNat (48 + p.1 % 10)] rfl rfl (by decide)) (Src.og hO (.skip _ .all)) (by have := hD.len; simp; omega) rfl (.take (.here _) rfl) rfl (fun a24 c24 ob24 hO24 => ?_)
 exact zq1147) : a := h
theorem zq1048 (h : a := by
 exact TX.finS (.inr rfl) (results1 rfl (RVal.cellA rfl (.there _ (.here _)) rfl)) (by first | (rw [head_1 (by rw [← hg2]; simpa using c66)]; rfl) | (rw [head_2 (by rw [← hg2]; simpa using c66) c71]; rfl) | (rw [head_3 (by rw [← hg2]; simpa using c66) c71]; rfl))) : a := h
theorem zq1467 (h : a := by
 refine TL.append (enc := GRow.cells) rfl rfl rfl hO (Src.own [⟨(nearS p role (spanS p role frm)), (a29, c29)⟩] (.here _) rfl rfl) (by simp only [List.length_cons, List.length_nil]; omega) rfl (.skip _ (.skip _ .all)) rfl (fun a86 c86 ob86 hO86 => ?_)
 exact zq1468) : a := h
theorem zq860 (h : a := by
 exact TX.round4 (k + 1) _ ob39 H ⟨⟨by omega, by omega⟩, hO39.cast (by rw [map_take_snoc k0 hx]; congr 2; first | exact (graph_T (by simp_all)).symm | exact (graph_F (by simp_all)).symm)⟩ ⟨rfl, rfl, rfl, rfl, rfl, trivial⟩ (fun w hw => hw.drop.drop.drop) (by omega)) : a := h
theorem zq1836 (h : a := by
 have hE : turnS p role (rows.map (·.l)) set = (((wHeadS p role set).1, (wHeadS p role set).2.1, q.arms), 0, q.rows.map (·.l)) := by unfold turnS; rw [if_neg (by omega), if_neg h34, if_neg h48, if_neg (by omega), if_neg h72, if_neg (by rw [hT]; simp), hT]
 exact zq1837) : a := h
theorem zq1959 (h : a := by
 have hE : (roleS p role).1 = 800 := by unfold roleS; rw [if_pos (by first | exact c22 | simp_all)]
 exact TX.fin0 (.inr rfl) (results2 rfl (RVal.cellA rfl (.here _) rfl) (RVal.tmp rfl)) ⟨[], [], (none, 0), by rw [hE]; rfl, fun h => absurd (hE.symm.trans h) (by decide)⟩) : a := h
theorem zq1805 (h : a := by
 refine TL.append (enc := SArm.cells) rfl rfl rfl hq6 (Src.own [⟨lb, _, _, _⟩] (.here _) rfl rfl) (by simp only [List.length_cons, List.length_nil]; omega) rfl (.skip _ (.skip _ (.skip _ (.skip _ (.skip _ (.past _ .all)))))) rfl (fun a114 c114 ob114 hO114 => ?_)
 exact zq1806) : a := h
theorem zq400 (h : a := by
 exact TX.finS (.inr rfl) (results1 rfl (RVal.tmp rfl)) (congrArg Value.bool (by first | exact ways_3 c8 h0 h1 (by simp_all [bare2]) | exact ways_3n c8 g13 | exact (ways_n c8 (by omega)).symm | exact (ways_bad c8 k0 hx c91 hal).symm | exact (ways_end c8 hn7 k0 c59 hal).symm))) : a := h
theorem zq1428 (h : a := by
 exact TX.round (m + 1) ⟨⟨by omega, by omega⟩, fun j2 h2 => by by_cases e : j2 < m.toNat; exact hI2 j2 e; rw [show j2 = m.toNat by omega, List.getElem?_map, hrx]; intro e2; exact absurd (by simpa using e2) (by simpa using c71)⟩ ⟨rfl, rfl, rfl, rfl, rfl, trivial⟩ (fun w hw => hw) (by omega)) : a := h
theorem zq939 (h : a := by
 exact TX.finS (.inr rfl) (results1 rfl (RVal.tmp rfl)) (congrArg (Value.int .i64) (by first | exact (step_1 h1).symm | exact (step_2 h1 h2).symm | exact (step_3 h1 h2 c88).symm | exact (step_4 h1 h2 c88 h4).symm | exact (step_5 h1 h2 c88 h4 c114).symm | exact (step_6 h1 h2 c88 h4 c114).symm))) : a := h
theorem zq2433 (h : a := by
 exact TX.sw rfl (by simp_all) ⟨rfl, rfl, rfl, rfl, rfl, rfl, rfl, rfl, rfl, rfl, rfl, rfl, rfl, rfl, rfl, rfl, rfl, rfl, rfl, rfl, rfl, rfl, rfl, rfl, rfl, rfl, rfl, rfl, rfl, rfl, rfl, rfl, rfl, rfl, rfl, rfl, rfl, rfl, rfl, rfl, rfl, rfl, rfl, rfl, rfl, rfl, rfl, rfl, rfl, rfl, rfl, trivial⟩) : a := h
theorem zq1262 (h : a := by
 exact TX.round4 (p.1 + 1, at34) _ ob37 H22 ⟨⟨by omega, by omega⟩, hd34, hI3.trans hle22, _, hO37, by simp only [List.length_append, List.length_cons, List.length_nil]; omega, hI6.snoc hI5 hc31 ⟨hra34, hrb34⟩ hlb⟩ ⟨rfl, rfl, rfl, rfl, rfl, rfl, rfl, rfl, trivial⟩ (fun w hw => hw.drop) (by omega)) : a := h
theorem zq2452 (h : a := by
 have hgo2 : goesB s.kind = false := by cases hg : goesB s.kind with | false => rfl | true => have := goes_ways hm0 hg; rw [this] at hw; simp at hw
 have hwb := hin w.next (by rw [ngoes_nexts hgo2]; exact List.mem_map.2 ⟨w, List.mem_of_getElem? hw, rfl⟩)
 exact absurd c137 (by rw [hwn]; simp; omega)) : a := h
theorem zq1668 (h : a := by
 exact TX.finX (.inr rfl) (results2 rfl (RVal.cellA rfl (.there _ (.here _)) rfl) (RVal.tmp rfl)) (fun w hw => by rw [List.append_nil]; exact (St.dropT (A := (bw, _) :: ob) hw.drop.drop)) ⟨_, ob, rows, .slice none 0 0, [], rfl, hO, hrw, hrl, by rw [hE], by rw [hE]; exact OwnSl.nil, by rw [hE]; rfl⟩) : a := h
theorem zq1098 (h : a := by
 exact TX.round4 (i := (k3, P3)) (k3 + 1, P3 ++ [q104]) _ ob106 H104 ⟨⟨by omega, by omega⟩, hle3, hO106, by simp only [List.length_append, List.length_cons, List.length_nil]; omega, all_snocR hPA3 hq104, map_snoc k03 hk3 hPm3 hb104⟩ ⟨rfl, rfl, rfl, rfl, rfl, trivial⟩ (fun w hw => hw.drop.drop) (by omega)) : a := h
theorem zq2008 (h : a := by
 exact TX.round4 (k + 1) _ ob36 H26 ⟨⟨by omega, by omega⟩, hI2.trans hle26, by rw [show (k + 1).toNat = k.toNat + 1 by omega, ← rAllF_next hrx (by simpa using c30)]; exact hI3, _, hO36, (hLs.le hle26).snoc hrx hR2.1 hR2.2.1 hR2.2.2⟩ ⟨rfl, rfl, rfl, rfl, rfl, rfl, trivial⟩ (fun w hw => hw.drop.drop) (by omega)) : a := h
theorem zq2219 (h : a := by
 refine TL.stR (t := 3) (f := 8) (ct := .sl 1) rfl rfl (hW128.bagT hS147 hN147 hB147).bag (.skip _ (.skip _ (.skip _ (.skip _ (.skip _ .all))))) (hS147.1 _ _ hbw16) rfl hjw16 (by omega) rfl (⟨_, _, _, rfl, hT147, by simp only [List.length_cons, List.length_nil]; omega⟩) rfl rfl (fun Bst1 hBst1 => ?_)
 exact zq2220) : a := h
theorem zq2465 (h : a := by
 exact TX.round4 (i := (k, vs, b)) (k + 1, e.2.1, e.2.2) .nilFunc [] HW ⟨⟨by omega, by omega⟩, hle, hBW, hblW, hGe ▸ sn_next k0 hx hbk he0 hS⟩ ⟨rfl, rfl, rfl, rfl, rfl, rfl, rfl, rfl, rfl, rfl, rfl, rfl, rfl, rfl, rfl, rfl, rfl, rfl, rfl, rfl, rfl, rfl, rfl, rfl, rfl, rfl, trivial⟩ (fun w hw => hw.drop) (by omega)) : a := h
theorem zq2430 (h : a := by
 exact TX.round4 (k + 1) _ ob31 H ⟨⟨by omega, by omega⟩, hO31.cast (by rw [take_snoc k0 hx, List.flatMap_append]; simp), by rw [take_snoc k0 hx, List.flatMap_append, List.length_append]; simp only [List.flatMap_cons, List.flatMap_nil, List.append_nil]; omega⟩ ⟨rfl, rfl, rfl, rfl, trivial⟩ (fun w hw => hw) (by omega)) : a := h
theorem zq1355 (h : a := by
 refine TX.round4 (q.1 + 1, q.2) _ ob H ⟨⟨by omega, by omega⟩, _, hO, hM, by rw [show (q.1 + 1).toNat = q.1.toNat + 1 by omega, ← spanF_no hx (by rintro ⟨e0, e⟩; have := (List.getElem?_eq_some_iff.1 e).1; rw [hM.len] at this; omega)]; exact hI3⟩ ⟨rfl, rfl, rfl, rfl, rfl, rfl, rfl, trivial⟩ (fun w hw => hw) (by omega)) : a := h
theorem zq1990 (h : a := by
 have hE : allE p = ((roleS p rr).1, k) := by unfold allE; rw [if_neg (by rw [hRB]; decide), ← hI3, rAllF_bad hrx c30, show ((k.toNat : Nat) : Int) = k by omega]
 exact TX.fin0 (.inr rfl) (results3 rfl (RVal.tmp rfl) (RVal.tmp rfl) (RVal.tmp rfl)) ⟨_, by rw [hE], fun h => absurd h (by rw [hE]; exact c30), fun _ => rfl⟩) : a := h
theorem zq2266 (h : a := by
 refine TL.stR (t := 3) (f := 8) (ct := .sl 1) rfl rfl (hW154.bagT hS173 hN173 hB173).bag (.skip _ (.skip _ (.skip _ (.skip _ (.skip _ (.skip _ .all)))))) (hS173.1 _ _ hbw18) rfl hjw18 (by omega) rfl (⟨_, _, _, rfl, hT173, by simp only [List.length_cons, List.length_nil]; omega⟩) rfl rfl (fun Bst2 hBst2 => ?_)
 exact zq2267) : a := h
theorem zq602 (h : a := by
 exact TX.round4 (k + 1) _ ob41 H ⟨⟨by omega, by omega⟩, hO41.cast (by rw [take_snoc k0 hx, List.flatMap_append]; simp), by rw [take_snoc k0 hx, List.flatMap_append, List.length_append]; simp only [List.flatMap_cons, List.flatMap_nil, List.append_nil]; omega⟩ ⟨rfl, rfl, rfl, rfl, rfl, trivial⟩ (fun w hw => hw.drop) (by omega)) : a := h
theorem zq1787 (h : a := by
 have hE : turnS p role (rows.map (·.l)) set = ((0, [], []), (lookS p role (q.rows.map (·.l)) (carS p set lb).2.2.1).2.1, (lookS p role (q.rows.map (·.l)) (carS p set lb).2.2.1).2.2) := by unfold turnS; rw [if_neg (by omega), if_neg h34, if_neg h48, if_neg (by omega), if_neg h72, if_pos (by rw [hT]; exact c101), hT]
 exact zq1788) : a := h
theorem zq110 (h : a := by
 refine TC.loop (V := fun k => [(3, .int .i64 k)]) (K := [(0, _), (2, _)]) (L := fun k => _) (I := fun k => 1 ≤ k ∧ k ≤ s.length ∧ (s.drop 1).all nameC = (s.drop k.toNat).all nameC) (μ := fun k => (s.length - k).toNat) (i := (1 : Int)) ⟨rfl, rfl, rfl, trivial⟩ ⟨by omega, by omega, rfl⟩ (fun w hw => hw) (fun k hI => ?_)
 exact zq111) : a := h
theorem zq1788 (h : a := by
 exact TX.finX (.inr rfl) (results2 rfl (RVal.cellA rfl (.there _ (.there _ (.here _))) rfl) (RVal.tmp rfl)) (fun w hw => by rw [List.append_nil]; exact (St.dropT (A := (bw, _) :: ob97) hw.drop.drop.drop)) ⟨_, ob97, rows97, .slice none 0 0, [], rfl, hO97, hrw97, hrl97, by rw [hE]; exact hm97, by rw [hE]; exact OwnSl.nil, by rw [hE]; rfl⟩) : a := h
theorem zq99 (h : a := by
 exact TX.fin0 (.inr rfl) (results1 rfl (RVal.tmp rfl)) ⟨congrArg Value.bool (by first | exact (nameMay_F (by first | exact .inl g7 | exact .inr (.inl g12) | exact .inr (.inr (.inl ⟨c0, hc0, g18⟩)) | exact .inr (.inr (.inr c21)))).symm | exact (nameMay_end hn hI.2.2 c25).symm | exact (nameMay_bad hn hI.2.2 (by omega) hc g33 c39).symm), rfl⟩) : a := h
theorem zq799 (h : a := by
 refine TL.append (enc := SStep.cells) rfl rfl rfl hOS (Src.own [s2] (.here _) rfl (by subst hs2e; show _ = SStep.cells _ ++ []; rw [List.append_nil]; unfold SStep.cells; simp only [hCn, hWn]; rfl)) (by simp; omega) rfl (.skip _ (.skip _ (.skip _ (.skip _ (.skip _ (.skip _ (.past _ .all))))))) rfl (fun a137 c137 ob137 hO137 => ?_)
 exact zq800) : a := h
theorem zq2342 (h : a := by
 refine TL.callW (F := ⟨b15, bd, .slice psa ps.length psc, ps, sMain, .slice none 0 0, [], .slice none 0 0, [], 0, dl⟩) (V := { V60 with at_ := at66 }) (m := 20 * k.toNat + 12 + 1) [(b11, _), (b8, _), (b4, _)] rfl rfl (enters rfl rfl rfl rfl) (wNum_ok _) (hW60.dice (.refl _) hd66) (by omega) rfl (fun v67 V67 hle67 hW67 hS67 hs67 ht67 hp67 => ?_)
 exact zq2343) : a := h
theorem zq2385 (h : a := by
 refine TL.callW (F := ⟨b15, bd, .slice psa ps.length psc, ps, sMain, .slice none 0 0, [], .slice none 0 0, [], 0, dl⟩) (V := { V60 with at_ := at66 }) (m := 20 * k.toNat + 12 + 1) [(b11, _), (b8, _), (b4, _)] rfl rfl (enters rfl rfl rfl rfl) (wNum_ok _) (hW60.dice (.refl _) hd66) (by omega) rfl (fun v67 V67 hle67 hW67 hS67 hs67 ht67 hp67 => ?_)
 exact zq2386) : a := h
theorem zq2139 (h : a := by
 refine TL.callW (F := F) (V := V103) (m := m + 1 + 1 + 1) [(b7, _), (b6, _)] rfl rfl (enters rfl rfl rfl rfl) (wStep_ok ⟨3, [], [], [], [], i103, none, 0, 0, none, 0, 0, none, 0, 0, -1⟩ ⟨.nil, .nil, .nil, .nil, .nil, .nil, .nil, Nat.zero_le _, Nat.zero_le _, Nat.zero_le _⟩) hW103 (by omega) rfl (fun v107 V107 hle107 hW107 hS107 hs107 ht107 hp107 => ?_)
 exact zq2140) : a := h
theorem zq1488 (h : a := by
 exact TX.finX (.inr rfl) (results2 rfl (RVal.tmp rfl) (RVal.tmp rfl)) (fun w hw => hw.drop) ⟨_, _, rows ++ [⟨(nearS p role (spanS p role frm)), (a29, c29)⟩], rfl, hO86, fun r hr => by rcases List.mem_append.1 hr with hr | hr; exact hrw1 r hr; rw [List.mem_singleton.1 hr]; exact hN1, by simp only [List.length_append, List.length_cons, List.length_nil]; omega, by rw [hEq]; simp, by rw [hEq]⟩) : a := h
theorem zq2213 (h : a := by
 refine TL.apT (enc := SWay.cells) (t := 1) rfl rfl rfl hW128.bag hww16 (Src.own [⟨[], [], _⟩] (.here _) rfl rfl) rfl (by intro y hy; rw [List.mem_singleton.1 hy]; exact SWay.all (s := ⟨[], [], _⟩) .nil .nil) zt1 (by simp only [List.length_cons, List.length_nil]; omega) rfl (.skip _ (.skip _ (.skip _ (.skip _ (.skip _ .all))))) rfl (fun S147 a147 c147 B147 hS147 hN147 hT147 hB147 => ?_)
 exact zq2214) : a := h
theorem zq2307 (h : a := by
 refine TL.callW (F := F) (V := { V with at_ := at35 }) (m := m) [(b6, _)] rfl rfl (enters rfl rfl rfl rfl) (wSays_ok hG turn r35 deep h0 h1 (fun t2 h2 => by rw [htx] at h2; cases h2; have := hTt.a1 (by omega) (by omega); have := hr35.1; have := hr35.2.1 (by omega); omega) (ih hdp.1 (by omega)) hK hdp) (hW.dice (.refl _) hd35) (by omega) rfl (fun v37 V37 hle37 hW37 hS37 hs37 ht37 hp37 => ?_)
 exact zq2308) : a := h
theorem zq2260 (h : a := by
 refine TL.apT (enc := SWay.cells) (t := 1) rfl rfl rfl hW154.bag hww18 (Src.own [⟨[], [], _⟩] (.here _) rfl rfl) rfl (by intro y hy; rw [List.mem_singleton.1 hy]; exact SWay.all (s := ⟨[], [], _⟩) .nil .nil) zt1 (by simp only [List.length_cons, List.length_nil]; omega) rfl (.skip _ (.skip _ (.skip _ (.skip _ (.skip _ (.skip _ .all)))))) rfl (fun S173 a173 c173 B173 hS173 hN173 hT173 hB173 => ?_)
 exact zq2261) : a := h
theorem zq2270 (h : a := by
 exact TX.finW (V' := { { V154 with S := S173, B := B173 } with B := Bst2 }) (X := [(b172, _), (b146, _), (b7, _), (b6, _)]) (.inl rfl) (results0 rfl) rfl rfl (((hW154.bagT hS173 hN173 hB173).bagB hBst2).more (by omega)) (hS100.trans (hS102.trans (hS103.trans (hS107.trans (hS128.trans (hS147.trans (hS154.trans (hS173)))))))) (by (try dsimp only); omega) (by (try dsimp only); omega) ⟨rfl, by (try dsimp only); omega⟩) : a := h
theorem zq1371 (h : a := by
 refine TC.loop (V := fun m => [(9, .int .i64 m)]) (K := [(0, _), (4, _), (5, _), (7, _)]) (L := fun m => _) (I := fun m => (0 ≤ m ∧ m ≤ rows.length) ∧ ∀ j : Nat, j < m.toNat → (rows.map (·.l))[j]? ≠ some (nearS p role (spanS p role frm))) (μ := fun m => (rows.length - m).toNat) (i := (0 : Int)) ⟨rfl, rfl, rfl, rfl, rfl, trivial⟩ ⟨⟨by omega, by omega⟩, fun j h => absurd h (by omega)⟩ (fun w hw => hw) (fun m hI => ?_)
 exact zq1372) : a := h
theorem zq810 (h : a := by
 exact TX.round4 (i := (k, (m, o), u1, ob1, S)) (k + 1, (m2, o2), u2, ob2, S ++ [s2]) _ ob137 HPow ⟨⟨by omega, by omega⟩, hle, ⟨hm2, by simp only at hz4; show o2.length ≤ 3355443200 * (k + 1).toNat; omega⟩, hO2, hO137, by simp only [List.length_append, List.length_cons, List.length_nil]; omega, hSt.snoc hs2, by rw [List.map_append]; exact hT2⟩ ⟨rfl, rfl, rfl, rfl, rfl, rfl, rfl, rfl, rfl, trivial⟩ (fun w hw => hw.drop.drop) (by omega)) : a := h
theorem zq765 (h : a := by
 exact TX.round4 (i := (k, m, o)) (k + 1, m.set x.toNat (o.length : Int), o ++ [mvT m t]) _ ob51 H1 ⟨⟨by omega, by omega⟩, hle, by rw [List.length_set]; exact hml, hO51.cast (by unfold mvT; simp [*]), by simp only [List.length_append, List.length_cons, List.length_nil]; omega, tg_next k0 hk ht hT⟩ ⟨rfl, rfl, rfl, rfl, rfl, rfl, rfl, rfl, trivial⟩ (fun w hw => by have hw2 := hw.drop.drop; simp only [is_set] at hw2; exact hw2) (by omega)) : a := h
theorem zq1128 (h : a := by
 refine TC.loop4 (V := fun (p : Nat × Nat) v ob H1 => [(3, .int .u64 (p.1 : Int)), (4, v)]) (K := [(0, _), (2, _)]) (L := fun (p : Nat × Nat) v ob H1 => St [] w0 H H ob) (I := fun (p : Nat × Nat) v ob H1 => ∃ o : Str, OwnSl 1 U8.cells v o ob ∧ DigI n.natAbs p.1 p.2 o) (μ := fun (p : Nat × Nat) => p.1 + p.2) (n.natAbs, 1) (.slice none 0 0) [] H ⟨rfl, rfl, rfl, rfl, trivial⟩ ⟨[], OwnSl.nil, DigI.zero h0 h1⟩ (fun w hw => hw) (fun p v ob H1 hI => ?_)
 exact zq1129) : a := h
theorem zq2181 (h : a := by
 refine TL.callW (F := F) (V := { { V107 with at_ := at115 } with at_ := at123 }) (m := m + 1 + 1 + 1 + 1) [(b7, _), (b6, _)] rfl rfl (enters rfl rfl rfl rfl) (wSays_ok hG turn r115 deep h0 h1 (fun t2 h2 => by rw [htx] at h2; cases h2; have := hTt.a1 (by omega) (by omega); have := hr115.1; have := hr115.2.1 (by omega); omega) (ih hdp.1 (by omega)) hK hdp) ((hW107.dice (.refl _) hd115).dice (.refl _) hd123) (by omega) rfl (fun v128 V128 hle128 hW128 hS128 hs128 ht128 hp128 => ?_)
 exact zq2182) : a := h
theorem zq2029 (h : a := by
 refine TL.callW (F := F) (V := { V61 with S := Sb62, B := Bb62 }) (m := m + 0 + 1 + 1) [(b10, _), (b8, _), (b5, _)] rfl rfl (enters rfl rfl rfl rfl) (wThen_ok ⟨7, [], [], [], (p.name ++ rr), -1, some ⟨b62, 0, none⟩, 2, 2, none, 0, 0, none, 0, 0, -1⟩ ⟨.nil, .nil, .nil, (hG.proc hrr), (SlT.blk hbb62 le2), .nil, .nil, (by have := hW61.n10; dsimp only at *; omega), Nat.zero_le _, Nat.zero_le _⟩) (hW61.bagA hSb62 hNb62 hBb62) (by omega) rfl (fun v66 V66 hle66 hW66 hS66 hs66 ht66 hp66 => ?_)
 exact zq2030) : a := h
theorem zq2229 (h : a := by
 refine TL.callW (F := F) (V := { { V128 with S := S147, B := B147 } with B := Bst1 }) (m := m + 1 + 1 + 1 + 1 + (K + 20) + 1) [(b146, _), (b7, _), (b6, _)] rfl rfl (enters rfl rfl rfl rfl) (wSays_ok hG turn r123 deep h0 h1 (fun t2 h2 => by rw [htx] at h2; cases h2; have := hTt.a1 (by omega) (by omega); have := hr123.1; have := hr123.2.1 (by omega); omega) (ih hdp.1 (by omega)) hK hdp) ((hW128.bagT hS147 hN147 hB147).bagB hBst1) (by omega) rfl (fun v154 V154 hle154 hW154 hS154 hs154 ht154 hp154 => ?_)
 exact zq2230) : a := h
theorem zq1608 (h : a := by
 refine TC.loop (V := fun k => [(11, .int .i64 k)]) (K := [(0, _), (1, _), (4, _), (5, _), (6, _), (7, _), (9, _)]) (L := fun k => St M w0 H H40 ((b4, [.int .i64 0, gs [], .slice none 0 0]) :: (bw, WK p role _) :: ob)) (I := fun k => (0 ≤ k ∧ k ≤ (labS p set).length) ∧ (labS p set).all (carB p set) = ((labS p set).drop k.toNat).all (carB p set)) (μ := fun k => ((labS p set).length - k).toNat) (i := (0 : Int)) ⟨rfl, rfl, rfl, rfl, rfl, rfl, rfl, rfl, trivial⟩ ⟨⟨by omega, by omega⟩, rfl⟩ (fun w hw => hw) (fun k hI => ?_)
 exact zq1609) : a := h
theorem zq1132 (h : a := by
 refine TC.sw (decide (0 < p.1) || decide (o.length = 0)) 17 [(0, _), (2, _), (3, _), (4, _)] ⟨rfl, rfl, rfl, rfl, trivial⟩ ?_ ?_
 ·
  refine zm104 ?_
  refine TL.split (s := 13) rfl (fun g13 => ?_) (fun g13 => ?_)
  ·
   have q13 := of_decide_eq_true g13
   refine zm234 ?_
   exact TX.sw rfl (by first | exact dgo_1 g13 | exact dgo_2 g13) ⟨rfl, rfl, rfl, rfl, trivial⟩
  ·
   have q13 := of_decide_eq_false g13
   refine zm8 ?_; refine TL.gdY rfl rfl (pr_lenO rfl rfl hO) rfl ?_; refine zm85 ?_
   exact TX.sw rfl (by first | exact dgo_1 g13 | exact dgo_2 g13) ⟨rfl, rfl, rfl, rfl, trivial⟩
 exact zq1133) : a := h
theorem zq2366 (h : a := by
 refine TL.callW (F := ⟨b15, bd, .slice psa ps.length psc, ps, sMain, .slice none 0 0, [], .slice none 0 0, [], 0, dl⟩) (V := { V67 with S := Sb68, B := Bb68 }) (m := 20 * k.toNat + 12 + 1 + 1) [(b11, _), (b8, _), (b4, _)] rfl rfl (enters rfl rfl rfl rfl) (wStep_ok ⟨6, [], [], [], (p.name ++ rr), -1, some ⟨b68, 0, none⟩, 2, 2, none, 0, 0, none, 0, 0, -1⟩ ⟨.nil, .nil, .nil, (hG.proc hrr), (SlT.blk hbb68 le2), .nil, .nil, (by have := hW67.n10; dsimp only at *; omega), Nat.zero_le _, Nat.zero_le _⟩) (hW67.bagA hSb68 hNb68 hBb68) (by omega) rfl (fun v76 V76 hle76 hW76 hS76 hs76 ht76 hp76 => ?_)
 exact zq2367) : a := h
theorem zq2409 (h : a := by
 refine TL.callW (F := ⟨b15, bd, .slice psa ps.length psc, ps, sMain, .slice none 0 0, [], .slice none 0 0, [], 0, dl⟩) (V := { V67 with S := Sb68, B := Bb68 }) (m := 20 * k.toNat + 12 + 1 + 1) [(b11, _), (b8, _), (b4, _)] rfl rfl (enters rfl rfl rfl rfl) (wThen_ok ⟨7, [], [], [], (p.name ++ rr), -1, some ⟨b68, 0, none⟩, 2, 2, none, 0, 0, none, 0, 0, -1⟩ ⟨.nil, .nil, .nil, (hG.proc hrr), (SlT.blk hbb68 le2), .nil, .nil, (by have := hW67.n10; dsimp only at *; omega), Nat.zero_le _, Nat.zero_le _⟩) (hW67.bagA hSb68 hNb68 hBb68) (by omega) rfl (fun v79 V79 hle79 hW79 hS79 hs79 ht79 hp79 => ?_)
 exact zq2410) : a := h
theorem zq823 (h : a := by
 exact TX.round4 (i := (j, (m2, o2), u2, ob2, C, oc)) (j + 1, (takesGo q.terms c.args [] (m2, o2)).2, u94, ob94, C.set j.toNat { c with args := (takesGo q.terms c.args [] (m2, o2)).1, ap := (aa94, ac94) }, obd) .nilFunc [] HPoc94 ⟨⟨by omega, by omega⟩, hle2, ⟨by rw [takesGo_len]; exact hm2, by have h7 := takesGo_size (acc := []) (s := (m2, o2)) hcm; simp only at h7 ⊢; omega⟩, hO94, hOd, hC.put j0 hRC, by rw [cast_set j0 hcC]; exact ca_next j0 hc hK⟩ ⟨rfl, rfl, rfl, rfl, rfl, rfl, rfl, rfl, rfl, rfl, rfl, rfl, rfl, rfl, rfl, rfl, rfl, rfl, rfl, rfl, rfl, rfl, rfl, rfl, rfl, rfl, rfl, rfl, rfl, rfl, rfl, rfl, rfl, rfl, rfl, rfl, trivial⟩ (fun w hw => hw) (by omega)) : a := h
theorem zq247 (h : a := by
 first
  | exact mayW_F hx (by simp_all)
  | exact mayW_1 hx hg o0 o1
  | exact mayW_1 hx hg o0 (by first | exact opW_leF c52_1 c54_1 | exact opW_leT c52_1 c54_1 | exact opW_b1 c52_1 g57_1 | exact opW_b2 c52_1 g62_1 | exact opW_r c52_1 g57_1 g62_1 (e1.trans (by simp_all)))
  | exact mayW_1 hx hg o0 (by first | exact opW_leF c52_1 c54_1 | exact opW_leT c52_1 c54_1 | exact opW_b1 c52_1 g57_1 | exact opW_b2 c52_1 g62_1 | exact opW_r c52_1 g57_1 g62_1 (e2.trans (by simp_all)))
  | exact mayW_0 hx hg (by first | exact opW_leF c52_0 c54_0 | exact opW_leT c52_0 c54_0 | exact opW_b1 c52_0 g57_0 | exact opW_b2 c52_0 g62_0 | exact opW_r c52_0 g57_0 g62_0 (e1.trans (by simp_all)))) : a := h
theorem zq634 (h : a := by
 refine TC.loop4 (V := fun k v ob H1 => [(3, v), (34, .int .i64 k)]) (K := [(2, _), (32, _), (33, _)]) (L := fun k v ob H1 => St [] w0 H H ((b1, _) :: ob)) (I := fun k v ob H1 => (0 ≤ k ∧ k ≤ s.casts.length) ∧ OwnSl 1 I64.cells v (tHead s ++ (s.casts.take k.toNat).flatMap (·.args)) ob ∧ ((s.casts.take k.toNat).flatMap (·.args)).length ≤ 6 * k.toNat) (μ := fun k => (s.casts.length - k).toNat) 0 _ ob30 H ⟨rfl, rfl, rfl, rfl, rfl, trivial⟩ ⟨⟨by omega, by omega⟩, hO30.cast (by first | (rw [tHead_T h8]; simp) | (rw [tHead_4 c17 c21]; simp) | (rw [tHead_F h8 (.inr c21)]; simp) | (rw [tHead_F h8 (.inl c17)]; simp)), by simp⟩ (fun w hw => hw) (fun k v ob H1 hI => ?_)
 exact zq635) : a := h
theorem zq1819 (h : a := by
 exact TX.round (⟨q.k + 1, H97, sv97, ob97, rows97, _, ob114, q.arms ++ [⟨lb, (carS p set lb).1, (carS p set lb).2.1, (lookS p role (q.rows.map (·.l)) (carS p set lb).2.2.1).1⟩]⟩ : TQ1) ⟨⟨by show 0 ≤ q.k + 1; omega, by show q.k + 1 ≤ _; omega⟩, hq2.trans (leP90.trans hle97), hO97, hrw97, hrl97, hO114, by show turnA p role set ((labS p set).drop (q.k + 1).toNat) (rows97.map (·.l)) _ = _; rw [hm97, show (q.k + 1).toNat = q.k.toNat + 1 by omega, ← turnA_next hlx (by simpa using c101)]; exact hq7, by simp only [List.length_append, List.length_cons, List.length_nil]; omega⟩ ⟨rfl, rfl, rfl, rfl, rfl, rfl, rfl, trivial⟩ (fun w hw => hw.drop.drop) (by show (_ - (q.k + 1)).toNat < _; omega)) : a := h
theorem zq789 (h : a := by
 exact TX.round4 (i := (j, (m2, o2), u2, ob2, C, oc)) (j + 1, (takesGo q.terms c.args [] (m2, o2)).2, u94, ob94, C.set j.toNat { c with args := (takesGo q.terms c.args [] (m2, o2)).1, ap := (aa94, ac94) }, obd) .nilFunc [] HPoc94 ⟨⟨by omega, by omega⟩, hle2, ⟨by rw [takesGo_len]; exact hm2, by have h7 := takesGo_size (acc := []) (s := (m2, o2)) hcm; simp only at h7 ⊢; omega⟩, hO94, hOd, hC.put j0 hRC, by rw [cast_set j0 hcC]; exact ca_next j0 hc hK⟩ ⟨rfl, rfl, rfl, rfl, rfl, rfl, rfl, rfl, rfl, rfl, rfl, rfl, rfl, rfl, rfl, rfl, rfl, rfl, rfl, rfl, rfl, rfl, rfl, rfl, rfl, rfl, rfl, rfl, rfl, rfl, rfl, rfl, rfl, rfl, rfl, rfl, rfl, rfl, rfl, rfl, rfl, trivial⟩ (fun w hw => hw) (by omega)) : a := h
theorem zq960 (h : a := by
 refine TC.sw (!decide (xB = []) && hasS bound xB) 74 [(3, _), (4, _), (6, _), (8, _), (15, _), (62, _), (63, _), (64, _), (65, _), (66, _), (67, _)] ⟨rfl, rfl, rfl, rfl, rfl, rfl, rfl, rfl, rfl, rfl, rfl, trivial⟩ ?_ ?_
 ·
  refine zm66 ?_; refine zm232 ?_
  refine TL.split (s := 70) rfl (fun g70 => ?_) (fun g70 => ?_)
  ·
   have q70 := of_ndec_true g70
   refine zm23 ?_; refine TL.callSY rfl rfl (enters rfl rfl rfl rfl) (n_Has_ok xB hB) rfl ?_; refine zm37 ?_
   exact TX.sw rfl (by simp_all) ⟨rfl, rfl, rfl, rfl, rfl, rfl, rfl, rfl, rfl, rfl, rfl, trivial⟩
  ·
   have q70 := of_ndec_false g70
   refine zm234 ?_
   exact TX.sw rfl (by simp_all) ⟨rfl, rfl, rfl, rfl, rfl, rfl, rfl, rfl, rfl, rfl, rfl, trivial⟩
 exact zq961) : a := h
theorem zq2611 (h : a := by
 refine TX.round4 (e.1 + 1, e.2.1.set w.next.toNat _, e.2.2.set w.next.toNat bk) .nilFunc [] HPw ⟨⟨by omega, by omega⟩, hleW, hBW.set hPw (by first | omega | (simp; omega)), by rw [List.length_set]; exact hblW, by rw [← putAt_F hbkW (by simpa using c156)]; exact bg_next e0 (get_map hw) (get_map hw) hGW, fun _ => by rw [List.getElem?_set, if_neg (by omega)]; exact hbkW⟩ ⟨rfl, rfl, rfl, rfl, rfl, rfl, rfl, rfl, rfl, rfl, rfl, rfl, rfl, rfl, rfl, rfl, rfl, rfl, rfl, rfl, rfl, rfl, rfl, rfl, rfl, rfl, rfl, rfl, rfl, rfl, rfl, rfl, rfl, rfl, rfl, rfl, rfl, rfl, rfl, rfl, rfl, rfl, rfl, rfl, rfl, rfl, rfl, rfl, rfl, rfl, rfl, rfl, rfl, rfl, rfl, rfl, trivial⟩ (fun w hw => by have hw2 := hw; simp only [set_k, List.set_set] at hw2; exact hw2) (by omega)) : a := h
theorem zq2546 (h : a := by
 refine TX.round4 (e.1 + 1, e.2.1.set w.next.toNat _, e.2.2.set w.next.toNat (bk ++ [w.name])) .nilFunc [] HPw ⟨⟨by omega, by omega⟩, hleW, hBW.set hPw (by first | omega | (simp; omega)), by rw [List.length_set]; exact hblW, by rw [← putAt_T hbkW c156]; exact bg_next e0 (get_map hw) (get_map hw) hGW, fun _ => by rw [List.getElem?_set, if_neg (by omega)]; exact hbkW⟩ ⟨rfl, rfl, rfl, rfl, rfl, rfl, rfl, rfl, rfl, rfl, rfl, rfl, rfl, rfl, rfl, rfl, rfl, rfl, rfl, rfl, rfl, rfl, rfl, rfl, rfl, rfl, rfl, rfl, rfl, rfl, rfl, rfl, rfl, rfl, rfl, rfl, rfl, rfl, rfl, rfl, rfl, rfl, rfl, rfl, rfl, rfl, rfl, rfl, rfl, rfl, rfl, rfl, rfl, rfl, rfl, rfl, trivial⟩ (fun w hw => by have hw2 := hw.drop; simp only [set_k, List.set_set] at hw2; exact hw2) (by omega)) : a := h
theorem zq1701 (h : a := by
 refine TC.loop (ι := TQ1) (V := fun q => [(16, .int .i64 q.k)]) (K := [(0, _), (1, _), (4, _), (5, _), (9, _), (15, _)]) (L := fun q => St M w0 H q.h ((b15, [.int .i64 (wHeadS p role set).1, gs (wHeadS p role set).2.1, q.v]) :: (b4, [.int .i64 0, gs [], .slice none 0 0]) :: (bw, WK p role q.sv) :: (q.ob ++ q.oa))) (I := fun q => (0 ≤ q.k ∧ q.k ≤ (labS p set).length) ∧ H40.le q.h ∧ OwnSl 1 GRow.cells q.sv q.rows q.ob ∧ GRowsOk q.h q.rows ∧ q.rows.length ≤ 40 ∧ OwnSl 4 SArm.cells q.v q.arms q.oa ∧ turnA p role set ((labS p set).drop q.k.toNat) (q.rows.map (·.l)) q.arms = turnA p role set (labS p set) (rows.map (·.l)) [] ∧ (q.arms.length : Int) = q.k) (μ := fun q => ((labS p set).length - q.k).toNat) (i := ⟨0, H40, _, ob, rows, .slice none 0 0, [], []⟩) ⟨rfl, rfl, rfl, rfl, rfl, rfl, rfl, trivial⟩ ⟨⟨by show (0 : Int) ≤ 0; omega, by show (0 : Int) ≤ _; omega⟩, .refl _, hO, hrw, hrl, OwnSl.nil, rfl, rfl⟩ (fun w hw => by rw [List.append_nil]; exact hw) (fun q hI => ?_)
 exact zq1702) : a := h
end Go.Sx
