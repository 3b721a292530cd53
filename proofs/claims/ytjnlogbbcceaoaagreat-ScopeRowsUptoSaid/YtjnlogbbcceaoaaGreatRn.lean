import Derived.Test.YtjnlogbbcceaoaaGreatRm
set_option linter.all false
namespace Go.Sx
variable {a b : Prop}
theorem zq6 (h:a:=by exact TL.nil (zq7)):a:=h
theorem zq3 (h:a:=by exact TC.seq (zq4)):a:=h
theorem zq2 (h:a:=by exact TC.seq (zq3)):a:=h
theorem zq38 (h:a:=by exact TL.nil (zq39)):a:=h
theorem zq25 (h:a:=by exact TC.seq (zq26)):a:=h
theorem zq23 (h:a:=by exact TC.seq (zq24)):a:=h
theorem zq17 (h:a:=by exact TL.nil (zq18)):a:=h
theorem zq11 (h:a:=by exact TC.seq (zq12)):a:=h
theorem zq10 (h:a:=by exact TC.seq (zq11)):a:=h
theorem zq7 (h:a:=by exact af (zq8)):a:=h
theorem zq1 (h:a:=by exact af (zq2)):a:=h
theorem zq0 (h:a:=by exact TC.skip (zq1)):a:=h
theorem zq61 (h:a:=by exact TC.ret (zq41)):a:=h
theorem zq59 (h:a:=by exact TL.nil (zq60)):a:=h
theorem zq56 (h:a:=by exact TC.seq (zq57)):a:=h
theorem zq53 (h:a:=by exact TL.nil (zq54)):a:=h
theorem zq80 (h:a:=by exact TL.nil (zq81)):a:=h
theorem zq77 (h:a:=by exact TC.seq (zq78)):a:=h
theorem zq70 (h:a:=by exact TC.seq (zq71)):a:=h
theorem zq68 (h:a:=by exact TL.nil (zq69)):a:=h
theorem zq65 (h:a:=by exact TC.seq (zq66)):a:=h
theorem zq63 (h:a:=by exact oE (zq64)):a:=h
theorem zq96 (h:a:=by exact TC.ret (zq97)):a:=h
theorem zq94 (h:a:=by exact TL.nil (zq95)):a:=h
theorem zq91 (h:a:=by exact TC.seq (zq92)):a:=h
theorem zq88 (h:a:=by exact TL.nil (zq89)):a:=h
theorem zq120 (h:a:=by exact TC.ret (zq99)):a:=h
theorem zq39 (h:a:=by exact af (zq40)):a:=h
theorem zq22 (h:a:=by exact af (zq23)):a:=h
theorem zq21 (h:a:=by exact TC.skip (zq22)):a:=h
theorem zq18 (h:a:=by exact af (zq19)):a:=h
theorem zq8 (h:a:=by exact TC.block (zq9)):a:=h
theorem zq60 (h:a:=by exact af (zq61)):a:=h
theorem zq54 (h:a:=by exact af (zq55)):a:=h
theorem zq76 (h:a:=by exact af (zq77)):a:=h
theorem zq72 (h:a:=by exact TC.exit (zq73)):a:=h
theorem zq69 (h:a:=by exact af (zq70)):a:=h
theorem zq64 (h:a:=by exact fS (zq65)):a:=h
theorem zq95 (h:a:=by exact af (zq96)):a:=h
theorem zq89 (h:a:=by exact af (zq90)):a:=h
theorem zq118 (h:a:=by exact TL.nil (zq119)):a:=h
theorem zq115 (h:a:=by exact TC.seq (zq116)):a:=h
theorem zq112 (h:a:=by exact TL.nil (zq113)):a:=h
theorem zq126 (h:a:=by exact TC.ret (zq127)):a:=h
theorem zq124 (h:a:=by exact TL.nil (zq125)):a:=h
theorem w3 (h:a:=by exact TC.seq (zq122)):a:=h
theorem zq151 (h:a:=by exact TC.ret (zq152)):a:=h
theorem zq149 (h:a:=by exact TL.nil (zq150)):a:=h
theorem zq145 (h:a:=by exact TC.seq (zq146)):a:=h
theorem zq156 (h:a:=by exact TL.nil (zq144)):a:=h
theorem zq140 (h:a:=by exact TL.nil (zq141)):a:=h
theorem zq135 (h:a:=by exact TC.seq (zq136)):a:=h
theorem zq134 (h:a:=by exact TC.seq (zq135)):a:=h
theorem zq162 (h:a:=by exact TL.nil (zq132)):a:=h
theorem zq238 (h:a:=by exact TC.seq (zq239)):a:=h
theorem zq236 (h:a:=by exact TL.nil (zq237)):a:=h
theorem zq233 (h:a:=by exact TC.seq (zq234)):a:=h
theorem zq227 (h:a:=by exact TL.nil (zq228)):a:=h
theorem zq221 (h:a:=by exact TC.seq (zq222)):a:=h
theorem zq220 (h:a:=by exact TC.seq (zq221)):a:=h
theorem zq218 (h:a:=by exact TL.nil (zq219)):a:=h
theorem zq211 (h:a:=by exact TC.seq (zq212)):a:=h
theorem zq247 (h:a:=by exact TC.seq (zq248)):a:=h
theorem zq245 (h:a:=by exact TL.nil (zq246)):a:=h
theorem zq242 (h:a:=by exact TC.seq (zq243)):a:=h
theorem zq353 (h:a:=by exact TC.seq (zq354)):a:=h
theorem zq338 (h:a:=by exact TL.nil (zq339)):a:=h
theorem zq329 (h:a:=by exact TC.seq (zq330)):a:=h
theorem zq328 (h:a:=by exact TC.seq (zq329)):a:=h
theorem zq320 (h:a:=by exact TL.nil (zq321)):a:=h
theorem zq316 (h:a:=by exact TC.seq (zq317)):a:=h
theorem zq314 (h:a:=by exact TL.nil (zq315)):a:=h
theorem zq302 (h:a:=by exact TC.seq (zq303)):a:=h
theorem zq448 (h:a:=by exact TC.seq (zq449)):a:=h
theorem zq433 (h:a:=by exact TL.nil (zq434)):a:=h
theorem zq424 (h:a:=by exact TC.seq (zq425)):a:=h
theorem zq423 (h:a:=by exact TC.seq (zq424)):a:=h
theorem zq415 (h:a:=by exact TL.nil (zq416)):a:=h
theorem zq411 (h:a:=by exact TC.seq (zq412)):a:=h
theorem zq409 (h:a:=by exact TL.nil (zq410)):a:=h
theorem zq397 (h:a:=by exact TC.seq (zq398)):a:=h
theorem zq395 (h:a:=by exact TL.nil (zq396)):a:=h
theorem zq296 (h:a:=by exact TC.seq (zq297)):a:=h
theorem zq294 (h:a:=by exact TL.nil (zq295)):a:=h
theorem zq287 (h:a:=by exact TC.seq (zq288)):a:=h
theorem zq285 (h:a:=by exact TC.seq (zq286)):a:=h
theorem zq275 (h:a:=by exact TL.nil (zq276)):a:=h
theorem zq270 (h:a:=by exact TC.seq (zq271)):a:=h
theorem zq269 (h:a:=by exact TC.seq (zq270)):a:=h
theorem zq260 (h:a:=by exact TL.nil (zq261)):a:=h
theorem zq257 (h:a:=by exact TC.seq (zq258)):a:=h
theorem zq256 (h:a:=by exact TC.seq (zq257)):a:=h
theorem zq253 (h:a:=by exact TF.nil (zq254)):a:=h
theorem zq486 (h:a:=by exact TC.seq (zq487)):a:=h
theorem zq481 (h:a:=by exact TC.seq (zq482)):a:=h
theorem zq479 (h:a:=by exact TL.nil (zq480)):a:=h
theorem zq476 (h:a:=by exact TC.seq (zq477)):a:=h
theorem zq585 (h:a:=by exact TC.seq (zq586)):a:=h
theorem zq580 (h:a:=by exact TL.nil (zq581)):a:=h
theorem zq572 (h:a:=by exact TC.seq (zq573)):a:=h
theorem zq571 (h:a:=by exact TC.seq (zq572)):a:=h
theorem zq563 (h:a:=by exact TL.nil (zq564)):a:=h
theorem zq554 (h:a:=by exact TC.seq (zq555)):a:=h
theorem zq553 (h:a:=by exact TC.seq (zq554)):a:=h
theorem zq548 (h:a:=by exact TL.nil (zq549)):a:=h
theorem zq543 (h:a:=by exact TC.seq (zq544)):a:=h
theorem zq542 (h:a:=by exact TC.seq (zq543)):a:=h
theorem zq618 (h:a:=by exact TC.seq (zq619)):a:=h
theorem zq616 (h:a:=by exact TL.nil (zq617)):a:=h
theorem zq609 (h:a:=by exact TC.seq (zq610)):a:=h
theorem zq607 (h:a:=by exact TL.nil (zq608)):a:=h
theorem zq600 (h:a:=by exact TC.seq (zq601)):a:=h
theorem zq630 (h:a:=by exact TL.nil (zq631)):a:=h
theorem zq756 (h:a:=by exact TL.nil (zq757)):a:=h
theorem zq752 (h:a:=by exact TC.seq (zq753)):a:=h
theorem zq751 (h:a:=by exact TC.seq (zq752)):a:=h
theorem zq749 (h:a:=by exact TL.nil (zq750)):a:=h
theorem zq738 (h:a:=by exact TC.seq (zq739)):a:=h
theorem zq736 (h:a:=by exact TL.nil (zq737)):a:=h
theorem zq709 (h:a:=by exact TC.seq (zq710)):a:=h
theorem zq707 (h:a:=by exact TC.seq (zq708)):a:=h
theorem zq701 (h:a:=by exact TL.nil (zq702)):a:=h
theorem zq695 (h:a:=by exact TC.seq (zq696)):a:=h
theorem zq694 (h:a:=by exact TC.seq (zq695)):a:=h
theorem zq686 (h:a:=by exact TL.nil (zq687)):a:=h
theorem zq683 (h:a:=by exact TC.seq (zq684)):a:=h
theorem zq682 (h:a:=by exact TC.seq (zq683)):a:=h
theorem zq680 (h:a:=by exact TL.nil (zq681)):a:=h
theorem zq671 (h:a:=by exact TC.seq (zq672)):a:=h
theorem zq775 (h:a:=by exact TC.seq (zq776)):a:=h
theorem zq773 (h:a:=by exact TC.seq (zq774)):a:=h
theorem zq663 (h:a:=by exact TL.nil (zq664)):a:=h
theorem zq657 (h:a:=by exact TC.seq (zq658)):a:=h
theorem zq656 (h:a:=by exact TC.seq (zq657)):a:=h
theorem zq651 (h:a:=by exact TL.nil (zq652)):a:=h
theorem zq648 (h:a:=by exact TC.seq (zq649)):a:=h
theorem zq647 (h:a:=by exact TC.seq (zq648)):a:=h
theorem zq642 (h:a:=by exact TL.nil (zq643)):a:=h
theorem zq636 (h:a:=by exact TC.seq (zq637)):a:=h
theorem zq635 (h:a:=by exact TC.seq (zq636)):a:=h
theorem zq801 (h:a:=by exact TL.nil (zq802)):a:=h
theorem zq797 (h:a:=by exact TC.seq (zq798)):a:=h
theorem zq796 (h:a:=by exact TC.seq (zq797)):a:=h
theorem zq794 (h:a:=by exact TF.nil (zq795)):a:=h
theorem zq809 (h:a:=by exact TF.nil (zq810)):a:=h
theorem zq834 (h:a:=by exact TF.nil (zq835)):a:=h
theorem zq846 (h:a:=by exact TF.nil (zq847)):a:=h
theorem zq865 (h:a:=by exact TL.nil (zq866)):a:=h
theorem zq855 (h:a:=by exact TF.nil (zq856)):a:=h
theorem zq888 (h:a:=by exact TF.nil (zq889)):a:=h
theorem zq969 (h:a:=by exact TL.nil (zq970)):a:=h
theorem zq958 (h:a:=by exact TC.seq (zq959)):a:=h
theorem zq953 (h:a:=by exact TF.nil (zq954)):a:=h
theorem zq918 (h:a:=by exact TC.seq (zq919)):a:=h
theorem zq916 (h:a:=by exact TL.nil (zq917)):a:=h
theorem zq905 (h:a:=by exact TC.seq (zq906)):a:=h
theorem zq903 (h:a:=by exact TF.nil (zq904)):a:=h
theorem zq41 (h:a:=by exact aI (zq20)):a:=h
theorem zq24 (h:a:=by exact TC.block (zq25)):a:=h
theorem zq4 (h:a:=by exact TC.region (zq5)):a:=h
theorem zq74 (h:a:=by exact bM (zq75)):a:=h
theorem zq73 (h:a:=by exact bM (zq74)):a:=h
theorem zq97 (h:a:=by exact aI (zq98)):a:=h
theorem zq102 (h:a:=by exact bv (zq103)):a:=h
theorem zq99 (h:a:=by exact bv (zq100)):a:=h
theorem zq119 (h:a:=by exact af (zq120)):a:=h
theorem zq113 (h:a:=by exact af (zq114)):a:=h
theorem zq131 (h:a:=by exact aI (zq82)):a:=h
theorem zq130 (h:a:=by exact bv (zq131)):a:=h
theorem zq127 (h:a:=by exact bv (zq128)):a:=h
theorem zq125 (h:a:=by exact af (zq126)):a:=h
theorem zq150 (h:a:=by exact af (zq151)):a:=h
theorem zq144 (h:a:=by exact af (zq145)):a:=h
theorem zq143 (h:a:=by exact TC.skip (zq144)):a:=h
theorem zq141 (h:a:=by exact af (zq142)):a:=h
theorem zq133 (h:a:=by exact af (zq134)):a:=h
theorem zq132 (h:a:=by exact bu (zq133)):a:=h
theorem qh (h:a:=by exact bv (AG)):a:=h
theorem zq237 (h:a:=by exact af (zq238)):a:=h
theorem zq228 (h:a:=by exact af (zq229)):a:=h
theorem zq219 (h:a:=by exact af (zq220)):a:=h
theorem zq210 (h:a:=by exact af (zq211)):a:=h
theorem zq209 (h:a:=by exact bu (zq210)):a:=h
theorem zq208 (h:a:=by exact TC.skip (zq209)):a:=h
theorem zq246 (h:a:=by exact af (zq247)):a:=h
theorem zq341 (h:a:=by exact TC.exit (zq342)):a:=h
theorem zq352 (h:a:=by exact af (zq353)):a:=h
theorem zq351 (h:a:=by exact TC.skip (zq352)):a:=h
theorem zq339 (h:a:=by exact af (zq340)):a:=h
theorem zq321 (h:a:=by exact af (zq322)):a:=h
theorem zq315 (h:a:=by exact af (zq316)):a:=h
theorem zq301 (h:a:=by exact af (zq302)):a:=h
theorem zq300 (h:a:=by exact TC.skip (zq301)):a:=h
theorem zq441 (h:a:=by exact af (zq442)):a:=h
theorem zq440 (h:a:=by exact bu (zq441)):a:=h
theorem zq436 (h:a:=by exact TC.exit (zq437)):a:=h
theorem zq447 (h:a:=by exact af (zq448)):a:=h
theorem zq446 (h:a:=by exact TC.skip (zq447)):a:=h
theorem zq434 (h:a:=by exact af (zq435)):a:=h
theorem zq416 (h:a:=by exact af (zq417)):a:=h
theorem zq410 (h:a:=by exact af (zq411)):a:=h
theorem zq396 (h:a:=by exact af (zq397)):a:=h
theorem zq295 (h:a:=by exact af (zq296)):a:=h
theorem zq284 (h:a:=by exact af (zq285)):a:=h
theorem zq283 (h:a:=by exact TC.skip (zq284)):a:=h
theorem zq276 (h:a:=by exact af (zq277)):a:=h
theorem zq261 (h:a:=by exact af (zq262)):a:=h
theorem zq255 (h:a:=by exact af (zq256)):a:=h
theorem zq252 (h:a:=by exact bj (zq253)):a:=h
theorem zq250 (h:a:=by exact bf (zq251)):a:=h
theorem zq480 (h:a:=by exact af (zq481)):a:=h
theorem zq475 (h:a:=by exact af (zq476)):a:=h
theorem zq584 (h:a:=by exact af (zq585)):a:=h
theorem zq583 (h:a:=by exact TC.skip (zq584)):a:=h
theorem zq581 (h:a:=by exact af (zq582)):a:=h
theorem zq570 (h:a:=by exact af (zq571)):a:=h
theorem zq566 (h:a:=by exact TC.exit (zq567)):a:=h
theorem zq564 (h:a:=by exact af (zq565)):a:=h
theorem zq549 (h:a:=by exact af (zq550)):a:=h
theorem zq541 (h:a:=by exact af (zq542)):a:=h
theorem zq537 (h:a:=by exact TC.exit (zq538)):a:=h
theorem zq617 (h:a:=by exact af (zq618)):a:=h
theorem zq608 (h:a:=by exact af (zq609)):a:=h
theorem zq599 (h:a:=by exact af (zq600)):a:=h
theorem zq598 (h:a:=by exact TC.skip (zq599)):a:=h
theorem zq631 (h:a:=by exact af (zq632)):a:=h
theorem zq760 (h:a:=by exact af (zq761)):a:=h
theorem zq759 (h:a:=by exact TC.skip (zq760)):a:=h
theorem zq757 (h:a:=by exact af (zq758)):a:=h
theorem zq750 (h:a:=by exact af (zq751)):a:=h
theorem zq737 (h:a:=by exact af (zq738)):a:=h
theorem zq706 (h:a:=by exact af (zq707)):a:=h
theorem zq705 (h:a:=by exact TC.skip (zq706)):a:=h
theorem zq702 (h:a:=by exact af (zq703)):a:=h
theorem zq687 (h:a:=by exact af (zq688)):a:=h
theorem zq681 (h:a:=by exact af (zq682)):a:=h
theorem zq670 (h:a:=by exact af (zq671)):a:=h
theorem zq666 (h:a:=by exact TC.exit (zq667)):a:=h
theorem zq772 (h:a:=by exact af (zq773)):a:=h
theorem zq771 (h:a:=by exact TC.skip (zq772)):a:=h
theorem zq664 (h:a:=by exact af (zq665)):a:=h
theorem zq652 (h:a:=by exact af (zq653)):a:=h
theorem zq646 (h:a:=by exact af (zq647)):a:=h
theorem zq645 (h:a:=by exact TC.skip (zq646)):a:=h
theorem zq643 (h:a:=by exact af (zq644)):a:=h
theorem zq634 (h:a:=by exact af (zq635)):a:=h
theorem zq633 (h:a:=by exact TC.skip (zq634)):a:=h
theorem zq802 (h:a:=by exact af (zq803)):a:=h
theorem zq795 (h:a:=by exact af (zq796)):a:=h
theorem zq792 (h:a:=by exact bj (zq793)):a:=h
theorem zq790 (h:a:=by exact bf (zq791)):a:=h
theorem zq835 (h:a:=by exact af (zq836)):a:=h
theorem zq833 (h:a:=by exact bj (zq834)):a:=h
theorem zq831 (h:a:=by exact bf (zq832)):a:=h
theorem zq860 (h:a:=by exact af (zq861)):a:=h
theorem zq859 (h:a:=by exact bu (zq860)):a:=h
theorem zq1005 (h:a:=by exact TF.nil (zq1006)):a:=h
theorem zq970 (h:a:=by exact af (zq971)):a:=h
theorem zq957 (h:a:=by exact af (zq958)):a:=h
theorem zq917 (h:a:=by exact af (zq918)):a:=h
theorem zq904 (h:a:=by exact af (zq905)):a:=h
theorem zq1102 (h:a:=by exact TL.nil (zq1103)):a:=h
theorem zq1090 (h:a:=by exact TL.nil (zq1091)):a:=h
theorem zq1083 (h:a:=by exact TC.seq (zq1084)):a:=h
theorem zq1081 (h:a:=by exact TF.nil (zq1082)):a:=h
theorem zq1134 (h:a:=by exact TL.nil (zq1135)):a:=h
theorem zq1127 (h:a:=by exact TC.seq (zq1128)):a:=h
theorem zq1125 (h:a:=by exact TF.nil (zq1126)):a:=h
theorem zq1148 (h:a:=by exact TL.nil (zq1149)):a:=h
theorem zq1170 (h:a:=by exact TL.nil (zq1171)):a:=h
theorem zq1164 (h:a:=by exact TL.nil (zq1165)):a:=h
theorem zq1183 (h:a:=by exact TL.nil (zq1184)):a:=h
theorem zq1176 (h:a:=by exact TL.nil (zq1177)):a:=h
theorem zK (h:a:=by exact TC.seq (zq1173)):a:=h
theorem zq1193 (h:a:=by exact TL.nil (zq1194)):a:=h
theorem qk (h:a:=by exact TC.seq (zq1191)):a:=h
theorem zq1206 (h:a:=by exact TL.nil (zq1207)):a:=h
theorem zq1201 (h:a:=by exact TC.seq (zq1202)):a:=h
theorem zq1199 (h:a:=by exact TC.seq (zq1200)):a:=h
theorem zq26 (h:a:=by exact TC.region (zq27)):a:=h
theorem zq12 (h:a:=by exact TC.region (zq13)):a:=h
theorem zq57 (h:a:=by exact TC.region (zq58)):a:=h
theorem zq78 (h:a:=by exact TC.region (zq79)):a:=h
theorem zq75 (h:a:=by exact cG (zq76)):a:=h
theorem zq66 (h:a:=by exact TC.region (zq67)):a:=h
theorem zq92 (h:a:=by exact TC.region (zq93)):a:=h
theorem zq103 (h:a:=by exact aI (zq104)):a:=h
theorem zq101 (h:a:=by exact aI (zq102)):a:=h
theorem zq100 (h:a:=by exact aI (zq101)):a:=h
theorem zq129 (h:a:=by exact aI (zq130)):a:=h
theorem zq128 (h:a:=by exact aI (zq129)):a:=h
theorem zq168 (h:a:=by exact aI (zq165)):a:=h
theorem AG (h:a:=by exact aI (C5)):a:=h
theorem zq229 (h:a:=by exact TC.block (zq230)):a:=h
theorem zq343 (h:a:=by exact bM (zq344)):a:=h
theorem zq342 (h:a:=by exact bM (zq343)):a:=h
theorem zq354 (h:a:=by exact TC.block (zq355)):a:=h
theorem zq322 (h:a:=by exact TC.block (zq323)):a:=h
theorem zq438 (h:a:=by exact bM (zq439)):a:=h
theorem zq437 (h:a:=by exact bM (zq438)):a:=h
theorem zq449 (h:a:=by exact TC.block (zq450)):a:=h
theorem zq417 (h:a:=by exact TC.block (zq418)):a:=h
theorem zq286 (h:a:=by exact TC.block (zq287)):a:=h
theorem zq262 (h:a:=by exact TC.block (zq263)):a:=h
theorem zq482 (h:a:=by exact TC.block (zq483)):a:=h
theorem zq568 (h:a:=by exact bM (zq569)):a:=h
theorem zq567 (h:a:=by exact bM (zq568)):a:=h
theorem zq550 (h:a:=by exact TC.block (zq551)):a:=h
theorem zq539 (h:a:=by exact bM (zq540)):a:=h
theorem zq538 (h:a:=by exact bM (zq539)):a:=h
theorem zq720 (h:a:=by
 subst eH90
 exact zq721):a:=h
theorem zq708 (h:a:=by exact TC.block (zq709)):a:=h
theorem zq688 (h:a:=by exact TC.block (zq689)):a:=h
theorem zq668 (h:a:=by exact bM (zq669)):a:=h
theorem zq667 (h:a:=by exact bM (zq668)):a:=h
theorem zq786 (h:a:=by
 subst eH67
 exact zq787):a:=h
theorem zq774 (h:a:=by exact TC.block (zq775)):a:=h
theorem zq653 (h:a:=by exact TC.block (zq654)):a:=h
theorem zq1009 (h:a:=by exact bu (zq1010)):a:=h
theorem zq1104 (h:a:=by exact af (zq1105)):a:=h
theorem zq1103 (h:a:=by exact bu (zq1104)):a:=h
theorem zq1091 (h:a:=by exact af (zq1092)):a:=h
theorem zq1082 (h:a:=by exact af (zq1083)):a:=h
theorem zq1080 (h:a:=by exact bj (zq1081)):a:=h
theorem zq1078 (h:a:=by exact bf (zq1079)):a:=h
theorem zq1135 (h:a:=by exact af (zq1136)):a:=h
theorem zq1126 (h:a:=by exact af (zq1127)):a:=h
theorem zq1124 (h:a:=by exact bj (zq1125)):a:=h
theorem zq1122 (h:a:=by exact bf (zq1123)):a:=h
theorem zq1150 (h:a:=by exact af (zq1151)):a:=h
theorem zq1149 (h:a:=by exact bu (zq1150)):a:=h
theorem zq1166 (h:a:=by exact af (zq1167)):a:=h
theorem zq1165 (h:a:=by exact bu (zq1166)):a:=h
theorem zq1184 (h:a:=by exact af (zq1185)):a:=h
theorem zq1177 (h:a:=by exact af (zq1178)):a:=h
theorem zq1207 (h:a:=by exact af (zq1208)):a:=h
theorem zq1198 (h:a:=by exact af (zq1199)):a:=h
theorem zq1197 (h:a:=by exact TC.skip (zq1198)):a:=h
theorem zq1211 (h:a:=by exact af (zq1212)):a:=h
theorem zq1210 (h:a:=by exact bu (zq1211)):a:=h
theorem f2 (h:a:=by exact TC.skip (zq1210)):a:=h
theorem zq5 (h:a:=by
 refine zm0 ?_
 exact zq6):a:=h
theorem zq116 (h:a:=by exact TC.region (zq117)):a:=h
theorem zq122 (h:a:=by exact TC.region (zq123)):a:=h
theorem zq146 (h:a:=by exact TC.region (zq147)):a:=h
theorem zq153 (h:a:=by exact TC.region (zq154)):a:=h
theorem zq136 (h:a:=by exact TC.region (zq137)):a:=h
theorem C8 (h:a:=by exact TC.region (zq158)):a:=h
theorem zq234 (h:a:=by exact TC.region (zq235)):a:=h
theorem zq222 (h:a:=by exact TC.region (zq223)):a:=h
theorem zq212 (h:a:=by exact TC.region (zq213)):a:=h
theorem zq243 (h:a:=by exact TC.region (zq244)):a:=h
theorem zq344 (h:a:=by exact cG (zq345)):a:=h
theorem zq367 (h:a:=by exact TC.region (zq368)):a:=h
theorem zq330 (h:a:=by exact TC.region (zq331)):a:=h
theorem zq317 (h:a:=by exact TC.region (zq318)):a:=h
theorem zq303 (h:a:=by exact TC.region (zq304)):a:=h
theorem zq442 (h:a:=by exact TC.region (zq443)):a:=h
theorem zq439 (h:a:=by exact cG (zq440)):a:=h
theorem zq462 (h:a:=by exact TC.region (zq463)):a:=h
theorem zq425 (h:a:=by exact TC.region (zq426)):a:=h
theorem zq412 (h:a:=by exact TC.region (zq413)):a:=h
theorem zq398 (h:a:=by exact TC.region (zq399)):a:=h
theorem zq381 (h:a:=by exact TC.region (zq382)):a:=h
theorem zq288 (h:a:=by exact TC.region (zq289)):a:=h
theorem zq271 (h:a:=by exact TC.region (zq272)):a:=h
theorem zq258 (h:a:=by exact TC.region (zq259)):a:=h
theorem zq477 (h:a:=by exact TC.region (zq478)):a:=h
theorem zq586 (h:a:=by exact TC.region (zq587)):a:=h
theorem zq573 (h:a:=by exact TC.region (zq574)):a:=h
theorem zq569 (h:a:=by exact cG (zq570)):a:=h
theorem zq555 (h:a:=by exact TC.region (zq556)):a:=h
theorem zq544 (h:a:=by exact TC.region (zq545)):a:=h
theorem zq540 (h:a:=by exact cG (zq541)):a:=h
theorem zq619 (h:a:=by exact TC.region (zq620)):a:=h
theorem zq610 (h:a:=by exact TC.region (zq611)):a:=h
theorem zq601 (h:a:=by exact TC.region (zq602)):a:=h
theorem zq753 (h:a:=by exact TC.region (zq754)):a:=h
theorem zq739 (h:a:=by exact TC.region (zq740)):a:=h
theorem zq710 (h:a:=by exact TC.region (zq711)):a:=h
theorem zq696 (h:a:=by exact TC.region (zq697)):a:=h
theorem zq684 (h:a:=by exact TC.region (zq685)):a:=h
theorem zq672 (h:a:=by exact TC.region (zq673)):a:=h
theorem zq669 (h:a:=by exact cG (zq670)):a:=h
theorem zq776 (h:a:=by exact TC.region (zq777)):a:=h
theorem zq658 (h:a:=by exact TC.region (zq659)):a:=h
theorem zq649 (h:a:=by exact TC.region (zq650)):a:=h
theorem zq637 (h:a:=by exact TC.region (zq638)):a:=h
theorem zq798 (h:a:=by exact TC.region (zq799)):a:=h
theorem zq836 (h:a:=by exact TC.region (zq837)):a:=h
theorem zq861 (h:a:=by exact TC.region (zq862)):a:=h
theorem zq959 (h:a:=by exact TC.region (zq960)):a:=h
theorem zq906 (h:a:=by exact TC.region (zq907)):a:=h
theorem qj (h:a:=by exact aI (zJ)):a:=h
theorem zq1200 (h:a:=by exact TC.block (zq1201)):a:=h
theorem zq37 (h:a:=by
 refine zm0 ?_
 exact zq38):a:=h
theorem zq33 (h:a:=by
 refine zm0 ?_
 exact zq34):a:=h
theorem zq32 (h:a:=by
 refine zm0 ?_
 exact zq33):a:=h
theorem zq29 (h:a:=by
 refine zm0 ?_
 exact zq30):a:=h
theorem zq28 (h:a:=by
 refine zm0 ?_
 exact zq29):a:=h
theorem zq16 (h:a:=by
 refine zm0 ?_
 exact zq17):a:=h
theorem zq14 (h:a:=by
 refine zm0 ?_
 exact zq15):a:=h
theorem zq13 (h:a:=by
 refine zm0 ?_
 exact zq14):a:=h
theorem zq58 (h:a:=by
 refine zm0 ?_
 exact zq59):a:=h
theorem zq52 (h:a:=by
 refine zm0 ?_
 exact zq53):a:=h
theorem zq49 (h:a:=by
 refine zm0 ?_
 exact zq50):a:=h
theorem zq48 (h:a:=by
 refine zm0 ?_
 exact zq49):a:=h
theorem zq79 (h:a:=by
 refine zm0 ?_
 exact zq80):a:=h
theorem zq67 (h:a:=by
 refine zm0 ?_
 exact zq68):a:=h
theorem zq93 (h:a:=by
 refine zm0 ?_
 exact zq94):a:=h
theorem zq87 (h:a:=by
 refine zm0 ?_
 exact zq88):a:=h
theorem zq1093 (h:a:=by exact TC.region (zq1094)):a:=h
theorem zq1084 (h:a:=by exact TC.region (zq1085)):a:=h
theorem zq1137 (h:a:=by exact TC.region (zq1138)):a:=h
theorem zq1128 (h:a:=by exact TC.region (zq1129)):a:=h
theorem zq1167 (h:a:=by exact TC.region (zq1168)):a:=h
theorem zq1185 (h:a:=by exact TC.region (zq1186)):a:=h
theorem zq1178 (h:a:=by exact TC.region (zq1179)):a:=h
theorem zq1173 (h:a:=by exact TC.region (zq1174)):a:=h
theorem zq1191 (h:a:=by exact TC.region (zq1192)):a:=h
theorem zq1202 (h:a:=by exact TC.region (zq1203)):a:=h
theorem zq1212 (h:a:=by exact TC.region (zq1213)):a:=h
theorem zq36 (h:a:=by
 refine cK ?_
 exact zq37):a:=h
theorem zq55 (h:a:=by exact dt rfl (zq56)):a:=h
theorem zq51 (h:a:=by
 refine dh ?_
 exact zq52):a:=h
theorem zq50 (h:a:=by
 refine dh ?_
 exact zq51):a:=h
theorem zq47 (h:a:=by
 refine dh ?_
 exact zq48):a:=h
theorem zq46 (h:a:=by
 refine dh ?_
 exact zq47):a:=h
theorem zq45 (h:a:=by
 refine dh ?_
 exact zq46):a:=h
theorem zq44 (h:a:=by
 refine dh ?_
 exact zq45):a:=h
theorem zq43 (h:a:=by
 refine jr ?_
 exact zq44):a:=h
theorem zq71 (h:a:=by exact fU rfl (zq72)):a:=h
theorem zq90 (h:a:=by exact dt rfl (zq91)):a:=h
theorem zq86 (h:a:=by
 refine dh ?_
 exact zq87):a:=h
theorem zq85 (h:a:=by
 refine dh ?_
 exact zq86):a:=h
theorem zq84 (h:a:=by
 refine dh ?_
 exact zq85):a:=h
theorem zq117 (h:a:=by
 refine zm0 ?_
 exact zq118):a:=h
theorem zq111 (h:a:=by
 refine zm0 ?_
 exact zq112):a:=h
theorem zq123 (h:a:=by
 refine zm0 ?_
 exact zq124):a:=h
theorem zq154 (h:a:=by
 refine zm6 ?_
 exact zq155):a:=h
theorem zq137 (h:a:=by
 refine zm6 ?_
 exact zq138):a:=h
theorem C7 (h:a:=by
 refine zm6 ?_
 exact zq161):a:=h
theorem zq158 (h:a:=by
 refine zm6 ?_
 exact zq159):a:=h
theorem C6 (h:a:=by
 refine zm6 ?_
 exact zq164):a:=h
theorem qi (h:a:=by
 refine zm0 ?_
 exact zq167):a:=h
theorem zq204 (h:a:=by
 refine zm0 ?_
 exact zq205):a:=h
theorem zq203 (h:a:=by
 refine zm0 ?_
 exact zq204):a:=h
theorem zq198 (h:a:=by
 refine zm0 ?_
 exact zq199):a:=h
theorem zq197 (h:a:=by
 refine zm0 ?_
 exact zq198):a:=h
theorem zq192 (h:a:=by
 refine zm0 ?_
 exact zq193):a:=h
theorem zq191 (h:a:=by
 refine zm0 ?_
 exact zq192):a:=h
theorem zq187 (h:a:=by
 refine zm0 ?_
 exact zq188):a:=h
theorem zq186 (h:a:=by
 refine zm0 ?_
 exact zq187):a:=h
theorem zq235 (h:a:=by
 refine zm0 ?_
 exact zq236):a:=h
theorem zq226 (h:a:=by
 refine zm0 ?_
 exact zq227):a:=h
theorem zq223 (h:a:=by
 refine zm6 ?_
 exact zq224):a:=h
theorem zq217 (h:a:=by
 refine zm0 ?_
 exact zq218):a:=h
theorem zq214 (h:a:=by
 refine zm6 ?_
 exact zq215):a:=h
theorem zq213 (h:a:=by
 refine zm0 ?_
 exact zq214):a:=h
theorem zq244 (h:a:=by
 refine zm0 ?_
 exact zq245):a:=h
theorem zq365 (h:a:=by
 refine zm5 ?_
 exact zq366):a:=h
theorem zq364 (h:a:=by
 refine zm5 ?_
 exact zq365):a:=h
theorem zq362 (h:a:=by
 refine zm4 ?_
 exact zq363):a:=h
theorem zq360 (h:a:=by
 refine zm5 ?_
 exact zq361):a:=h
theorem zq378 (h:a:=by
 refine zm0 ?_
 exact zq379):a:=h
theorem zq377 (h:a:=by
 refine zm0 ?_
 exact zq378):a:=h
theorem zq376 (h:a:=by
 refine zm0 ?_
 exact zq377):a:=h
theorem zq374 (h:a:=by
 refine zm6 ?_
 exact zq375):a:=h
theorem zq372 (h:a:=by
 refine zm0 ?_
 exact zq373):a:=h
theorem zq370 (h:a:=by
 refine zm6 ?_
 exact zq371):a:=h
theorem zq368 (h:a:=by
 refine zm0 ?_
 exact zq369):a:=h
theorem zq337 (h:a:=by
 refine zm0 ?_
 exact zq338):a:=h
theorem zq334 (h:a:=by
 refine zm6 ?_
 exact zq335):a:=h
theorem zq332 (h:a:=by
 refine zm0 ?_
 exact zq333):a:=h
theorem zq331 (h:a:=by
 refine zm0 ?_
 exact zq332):a:=h
theorem zq319 (h:a:=by
 refine zm0 ?_
 exact zq320):a:=h
theorem zq311 (h:a:=by
 refine zm6 ?_
 exact zq312):a:=h
theorem zq307 (h:a:=by
 refine zm6 ?_
 exact zq308):a:=h
theorem zq305 (h:a:=by
 refine zm0 ?_
 exact zq306):a:=h
theorem zq304 (h:a:=by
 refine zm0 ?_
 exact zq305):a:=h
theorem zq460 (h:a:=by
 refine zm5 ?_
 exact zq461):a:=h
theorem zq459 (h:a:=by
 refine zm5 ?_
 exact zq460):a:=h
theorem zq457 (h:a:=by
 refine zm4 ?_
 exact zq458):a:=h
theorem zq455 (h:a:=by
 refine zm5 ?_
 exact zq456):a:=h
theorem zq473 (h:a:=by
 refine zm0 ?_
 exact zq474):a:=h
theorem zq472 (h:a:=by
 refine zm0 ?_
 exact zq473):a:=h
theorem zq471 (h:a:=by
 refine zm0 ?_
 exact zq472):a:=h
theorem zq469 (h:a:=by
 refine zm6 ?_
 exact zq470):a:=h
theorem zq467 (h:a:=by
 refine zm0 ?_
 exact zq468):a:=h
theorem zq465 (h:a:=by
 refine zm6 ?_
 exact zq466):a:=h
theorem zq463 (h:a:=by
 refine zm0 ?_
 exact zq464):a:=h
theorem zq432 (h:a:=by
 refine zm0 ?_
 exact zq433):a:=h
theorem zq429 (h:a:=by
 refine zm6 ?_
 exact zq430):a:=h
theorem zq427 (h:a:=by
 refine zm0 ?_
 exact zq428):a:=h
theorem zq426 (h:a:=by
 refine zm0 ?_
 exact zq427):a:=h
theorem zq414 (h:a:=by
 refine zm0 ?_
 exact zq415):a:=h
theorem zq406 (h:a:=by
 refine zm6 ?_
 exact zq407):a:=h
theorem zq402 (h:a:=by
 refine zm6 ?_
 exact zq403):a:=h
theorem zq400 (h:a:=by
 refine zm0 ?_
 exact zq401):a:=h
theorem zq399 (h:a:=by
 refine zm0 ?_
 exact zq400):a:=h
theorem zq392 (h:a:=by
 refine zm6 ?_
 exact zq393):a:=h
theorem zq388 (h:a:=by
 refine zm6 ?_
 exact zq389):a:=h
theorem zq386 (h:a:=by
 refine zm0 ?_
 exact zq387):a:=h
theorem zq383 (h:a:=by
 refine zm0 ?_
 exact zq384):a:=h
theorem zq382 (h:a:=by
 refine zm0 ?_
 exact zq383):a:=h
theorem zq293 (h:a:=by
 refine zm0 ?_
 exact zq294):a:=h
theorem zq291 (h:a:=by
 refine zm0 ?_
 exact zq292):a:=h
theorem zq289 (h:a:=by
 refine zm6 ?_
 exact zq290):a:=h
theorem zq274 (h:a:=by
 refine zm0 ?_
 exact zq275):a:=h
theorem zq273 (h:a:=by
 refine zm0 ?_
 exact zq274):a:=h
theorem zq272 (h:a:=by
 refine zm0 ?_
 exact zq273):a:=h
theorem zq259 (h:a:=by
 refine zm0 ?_
 exact zq260):a:=h
theorem zq478 (h:a:=by
 refine zm0 ?_
 exact zq479):a:=h
theorem zq495 (h:a:=by
 refine zm5 ?_
 exact zq496):a:=h
theorem zq494 (h:a:=by
 refine zm5 ?_
 exact zq495):a:=h
theorem zq518 (h:a:=by
 refine zm5 ?_
 exact zq519):a:=h
theorem zq517 (h:a:=by
 refine zm5 ?_
 exact zq518):a:=h
theorem zq592 (h:a:=by
 refine zm0 ?_
 exact zq593):a:=h
theorem zq590 (h:a:=by
 refine zm6 ?_
 exact zq591):a:=h
theorem zq588 (h:a:=by
 refine zm0 ?_
 exact zq589):a:=h
theorem zq587 (h:a:=by
 refine zm0 ?_
 exact zq588):a:=h
theorem zq579 (h:a:=by
 refine zm0 ?_
 exact zq580):a:=h
theorem zq576 (h:a:=by
 refine zm6 ?_
 exact zq577):a:=h
theorem zq574 (h:a:=by
 refine zm0 ?_
 exact zq575):a:=h
theorem zq562 (h:a:=by
 refine zm0 ?_
 exact zq563):a:=h
theorem zq559 (h:a:=by
 refine zm6 ?_
 exact zq560):a:=h
theorem zq557 (h:a:=by
 refine zm0 ?_
 exact zq558):a:=h
theorem zq556 (h:a:=by
 refine zm0 ?_
 exact zq557):a:=h
theorem zq547 (h:a:=by
 refine zm0 ?_
 exact zq548):a:=h
theorem zq621 (h:a:=by
 refine zm0 ?_
 exact zq622):a:=h
theorem zq620 (h:a:=by
 refine zm0 ?_
 exact zq621):a:=h
theorem zq615 (h:a:=by
 refine zm0 ?_
 exact zq616):a:=h
theorem zq612 (h:a:=by
 refine zm0 ?_
 exact zq613):a:=h
theorem zq611 (h:a:=by
 refine zm0 ?_
 exact zq612):a:=h
theorem zq606 (h:a:=by
 refine zm0 ?_
 exact zq607):a:=h
theorem zq603 (h:a:=by
 refine zm0 ?_
 exact zq604):a:=h
theorem zq602 (h:a:=by
 refine zm0 ?_
 exact zq603):a:=h
theorem zq629 (h:a:=by
 refine zm0 ?_
 exact zq630):a:=h
theorem zq767 (h:a:=by
 refine zm5 ?_
 exact zq768):a:=h
theorem zq766 (h:a:=by
 refine zm5 ?_
 exact zq767):a:=h
theorem zq764 (h:a:=by
 refine zm4 ?_
 exact zq765):a:=h
theorem zq755 (h:a:=by
 refine zm0 ?_
 exact zq756):a:=h
theorem zq754 (h:a:=by
 refine zm0 ?_
 exact zq755):a:=h
theorem zq748 (h:a:=by
 refine zm0 ?_
 exact zq749):a:=h
theorem zq747 (h:a:=by
 refine zm0 ?_
 exact zq748):a:=h
theorem zq746 (h:a:=by
 refine zm0 ?_
 exact zq747):a:=h
theorem zq745 (h:a:=by
 refine zm0 ?_
 exact zq746):a:=h
theorem zq744 (h:a:=by
 refine zm0 ?_
 exact zq745):a:=h
theorem zq741 (h:a:=by
 refine zm0 ?_
 exact zq742):a:=h
theorem zq740 (h:a:=by
 refine zm0 ?_
 exact zq741):a:=h
theorem zq735 (h:a:=by
 refine zm0 ?_
 exact zq736):a:=h
theorem zq734 (h:a:=by
 refine zm0 ?_
 exact zq735):a:=h
theorem zq731 (h:a:=by
 refine zm0 ?_
 exact zq732):a:=h
theorem zq730 (h:a:=by
 refine zm0 ?_
 exact zq731):a:=h
theorem zq729 (h:a:=by
 refine zm0 ?_
 exact zq730):a:=h
theorem zq728 (h:a:=by
 refine zm0 ?_
 exact zq729):a:=h
theorem zq714 (h:a:=by
 refine zm0 ?_
 exact zq715):a:=h
theorem zq713 (h:a:=by
 refine zm0 ?_
 exact zq714):a:=h
theorem zq712 (h:a:=by
 refine zm0 ?_
 exact zq713):a:=h
theorem zq711 (h:a:=by
 refine zm0 ?_
 exact zq712):a:=h
theorem zq700 (h:a:=by
 refine zm0 ?_
 exact zq701):a:=h
theorem zq698 (h:a:=by
 refine zm0 ?_
 exact zq699):a:=h
theorem zq697 (h:a:=by
 refine zm0 ?_
 exact zq698):a:=h
theorem zq685 (h:a:=by
 refine zm0 ?_
 exact zq686):a:=h
theorem zq676 (h:a:=by
 refine zm0 ?_
 exact zq677):a:=h
theorem zq675 (h:a:=by
 refine zm0 ?_
 exact zq676):a:=h
theorem zq788 (h:a:=by
 refine zm0 ?_
 exact zq789):a:=h
theorem zq787 (h:a:=by
 refine zm0 ?_
 exact zq788):a:=h
theorem zq780 (h:a:=by
 refine zm0 ?_
 exact zq781):a:=h
theorem zq779 (h:a:=by
 refine zm0 ?_
 exact zq780):a:=h
theorem zq778 (h:a:=by
 refine zm0 ?_
 exact zq779):a:=h
theorem zq777 (h:a:=by
 refine zm0 ?_
 exact zq778):a:=h
theorem zq662 (h:a:=by
 refine zm0 ?_
 exact zq663):a:=h
theorem zq660 (h:a:=by
 refine zm0 ?_
 exact zq661):a:=h
theorem zq659 (h:a:=by
 refine zm0 ?_
 exact zq660):a:=h
theorem zq650 (h:a:=by
 refine zm0 ?_
 exact zq651):a:=h
theorem zq641 (h:a:=by
 refine zm0 ?_
 exact zq642):a:=h
theorem zq639 (h:a:=by
 refine zm0 ?_
 exact zq640):a:=h
theorem zq800 (h:a:=by
 refine zm0 ?_
 exact zq801):a:=h
theorem zq799 (h:a:=by
 refine zm0 ?_
 exact zq800):a:=h
theorem zq793 (h:a:=by
 refine zm5 ?_
 exact zq794):a:=h
theorem zq805 (h:a:=by
 refine zm4 ?_
 exact zq806):a:=h
theorem zq838 (h:a:=by
 refine zm0 ?_
 exact zq839):a:=h
theorem zq830 (h:a:=by
 refine zm4 ?_
 exact zq831):a:=h
theorem zq842 (h:a:=by
 refine zm4 ?_
 exact zq843):a:=h
theorem zq864 (h:a:=by
 refine zm0 ?_
 exact zq865):a:=h
theorem zq862 (h:a:=by
 refine zm0 ?_
 exact zq863):a:=h
theorem zq851 (h:a:=by
 refine zm4 ?_
 exact zq852):a:=h
theorem zq884 (h:a:=by
 refine zm4 ?_
 exact zq885):a:=h
theorem zq993 (h:a:=by
 refine zm5 ?_
 exact zq994):a:=h
theorem zq991 (h:a:=by
 refine zm4 ?_
 exact zq992):a:=h
theorem zq989 (h:a:=by
 refine zm5 ?_
 exact zq990):a:=h
theorem zq987 (h:a:=by
 refine zm4 ?_
 exact zq988):a:=h
theorem zq986 (h:a:=by
 refine zm4 ?_
 exact zq987):a:=h
theorem zq984 (h:a:=by
 refine zm5 ?_
 exact zq985):a:=h
theorem zq983 (h:a:=by
 refine zm5 ?_
 exact zq984):a:=h
theorem zq982 (h:a:=by
 refine zm4 ?_
 exact zq983):a:=h
theorem zq981 (h:a:=by
 refine zm4 ?_
 exact zq982):a:=h
theorem zq979 (h:a:=by
 refine zm5 ?_
 exact zq980):a:=h
theorem zq968 (h:a:=by
 refine zm0 ?_
 exact zq969):a:=h
theorem zq963 (h:a:=by
 refine zm0 ?_
 exact zq964):a:=h
theorem zq962 (h:a:=by
 refine zm0 ?_
 exact zq963):a:=h
theorem zq961 (h:a:=by
 refine zm0 ?_
 exact zq962):a:=h
theorem zq960 (h:a:=by
 refine zm0 ?_
 exact zq961):a:=h
theorem zq949 (h:a:=by
 refine zm4 ?_
 exact zq950):a:=h
theorem zq941 (h:a:=by
 refine zm5 ?_
 exact zq942):a:=h
theorem zq939 (h:a:=by
 refine zm4 ?_
 exact zq940):a:=h
theorem zq937 (h:a:=by
 refine zm5 ?_
 exact zq938):a:=h
theorem zq935 (h:a:=by
 refine zm4 ?_
 exact zq936):a:=h
theorem zq934 (h:a:=by
 refine zm4 ?_
 exact zq935):a:=h
theorem zq932 (h:a:=by
 refine zm5 ?_
 exact zq933):a:=h
theorem zq931 (h:a:=by
 refine zm5 ?_
 exact zq932):a:=h
theorem zq929 (h:a:=by
 refine zm4 ?_
 exact zq930):a:=h
theorem zq928 (h:a:=by
 refine zm4 ?_
 exact zq929):a:=h
theorem zq926 (h:a:=by
 refine zm5 ?_
 exact zq927):a:=h
theorem zq915 (h:a:=by
 refine zm0 ?_
 exact zq916):a:=h
theorem zq910 (h:a:=by
 refine zm0 ?_
 exact zq911):a:=h
theorem zq909 (h:a:=by
 refine zm0 ?_
 exact zq910):a:=h
theorem zq908 (h:a:=by
 refine zm0 ?_
 exact zq909):a:=h
theorem zq907 (h:a:=by
 refine zm0 ?_
 exact zq908):a:=h
theorem zq902 (h:a:=by
 refine zm5 ?_
 exact zq903):a:=h
theorem zq901 (h:a:=by
 refine zm5 ?_
 exact zq902):a:=h
theorem zq114 (h:a:=by exact dt rfl (zq115)):a:=h
theorem zq110 (h:a:=by
 refine dh ?_
 exact zq111):a:=h
theorem zq109 (h:a:=by
 refine dh ?_
 exact zq110):a:=h
theorem zq108 (h:a:=by
 refine dh ?_
 exact zq109):a:=h
theorem zq107 (h:a:=by
 refine dh ?_
 exact zq108):a:=h
theorem zq106 (h:a:=by
 refine dh ?_
 exact zq107):a:=h
theorem AH (h:a:=by
 refine dh ?_
 exact zq106):a:=h
theorem zq155 (h:a:=by
 refine jY ?_
 exact zq156):a:=h
theorem zq161 (h:a:=by
 refine jY ?_
 exact zq162):a:=h
theorem zq159 (h:a:=by
 refine jY ?_
 exact C7):a:=h
theorem zq164 (h:a:=by
 refine jY ?_
 exact zq158):a:=h
theorem zq177 (h:a:=by
 refine cK ?_
 exact zq178):a:=h
theorem zq176 (h:a:=by
 refine nz ?_
 exact zq177):a:=h
theorem zq174 (h:a:=by
 refine it ?_
 exact zq175):a:=h
theorem zq172 (h:a:=by
 refine cK ?_
 exact zq173):a:=h
theorem zq171 (h:a:=by
 refine nz ?_
 exact zq172):a:=h
theorem zq169 (h:a:=by
 refine it ?_
 exact zq170):a:=h
theorem zq202 (h:a:=by
 refine dh ?_
 exact zq203):a:=h
theorem zq201 (h:a:=by
 refine dh ?_
 exact zq202):a:=h
theorem zq200 (h:a:=by
 refine dh ?_
 exact zq201):a:=h
theorem zq199 (h:a:=by
 refine dh ?_
 exact zq200):a:=h
theorem zq196 (h:a:=by
 refine dh ?_
 exact zq197):a:=h
theorem zq195 (h:a:=by
 refine dh ?_
 exact zq196):a:=h
theorem zq194 (h:a:=by
 refine dh ?_
 exact zq195):a:=h
theorem zq193 (h:a:=by
 refine dh ?_
 exact zq194):a:=h
theorem zq190 (h:a:=by
 refine dh ?_
 exact zq191):a:=h
theorem zq189 (h:a:=by
 refine dh ?_
 exact zq190):a:=h
theorem zq188 (h:a:=by
 refine dh ?_
 exact zq189):a:=h
theorem zq185 (h:a:=by
 refine dh ?_
 exact zq186):a:=h
theorem zq184 (h:a:=by
 refine dh ?_
 exact zq185):a:=h
theorem C4 (h:a:=by
 refine dh ?_
 exact zq184):a:=h
theorem lf (h:a:=by
 refine ei ?_
 exact qh):a:=h
theorem zq224 (h:a:=by
 refine lD ?_
 exact zq225):a:=h
theorem zq215 (h:a:=by
 refine lD ?_
 exact zq216):a:=h
theorem zq358 (h:a:=by
 refine eH ?_
 exact zq359):a:=h
theorem zq453 (h:a:=by
 refine eH ?_
 exact zq454):a:=h
theorem zq385 (h:a:=by
 refine jX ?_
 exact zq386):a:=h
theorem zq290 (h:a:=by
 refine lD ?_
 exact zq291):a:=h
theorem C3 (h:a:=by
 refine dZ ?_
 exact zq490):a:=h
theorem zq513 (h:a:=by exact aw rfl (zq514)):a:=h
theorem zq499 (h:a:=by exact aw rfl (zq500)):a:=h
theorem zq522 (h:a:=by exact aw rfl (zq523)):a:=h
theorem C2 (h:a:=by
 refine eH ?_
 exact zq492):a:=h
theorem zq591 (h:a:=by
 refine lD ?_
 exact zq592):a:=h
theorem zq577 (h:a:=by
 refine lD ?_
 exact zq578):a:=h
theorem zq560 (h:a:=by
 refine lD ?_
 exact zq561):a:=h
theorem zq596 (h:a:=by
 refine dh ?_
 exact zq597):a:=h
theorem zq628 (h:a:=by
 refine nz ?_
 exact zq629):a:=h
theorem zq627 (h:a:=by
 refine cK ?_
 exact zq628):a:=h
theorem zq624 (h:a:=by
 refine cK ?_
 exact zq625):a:=h
theorem zq623 (h:a:=by
 refine cK ?_
 exact zq624):a:=h
theorem zq761 (h:a:=by
 refine eH ?_
 exact zq762):a:=h
theorem zq677 (h:a:=by
 refine dw ?_
 exact zq678):a:=h
theorem zq808 (h:a:=by
 refine l7 ?_
 exact zq809):a:=h
theorem zq806 (h:a:=by exact aw rfl (zq807)):a:=h
theorem zq839 (h:a:=by
 refine fo ?_
 exact zq840):a:=h
theorem zq832 (h:a:=by
 refine jY ?_
 exact zq833):a:=h
theorem zq821 (h:a:=by exact aw rfl (zq822)):a:=h
theorem zq817 (h:a:=by exact aw rfl (zq818)):a:=h
theorem zq845 (h:a:=by
 refine l7 ?_
 exact zq846):a:=h
theorem zq843 (h:a:=by exact aw rfl (zq844)):a:=h
theorem zq863 (h:a:=by
 refine jX ?_
 exact zq864):a:=h
theorem zq854 (h:a:=by
 refine l7 ?_
 exact zq855):a:=h
theorem zq852 (h:a:=by exact aw rfl (zq853)):a:=h
theorem zq885 (h:a:=by exact aw rfl (zq886)):a:=h
theorem zq1001 (h:a:=by
 refine zm4 ?_
 exact zq1002):a:=h
theorem zq998 (h:a:=by
 refine l7 ?_
 exact zq999):a:=h
theorem zq996 (h:a:=by exact aw rfl (zq997)):a:=h
theorem zq994 (h:a:=by
 refine dZ ?_
 exact zq995):a:=h
theorem zq1056 (h:a:=by
 refine zm5 ?_
 exact zq1057):a:=h
theorem zq1054 (h:a:=by
 refine zm4 ?_
 exact zq1055):a:=h
theorem zq1052 (h:a:=by
 refine zm5 ?_
 exact zq1053):a:=h
theorem zq1050 (h:a:=by
 refine zm4 ?_
 exact zq1051):a:=h
theorem zq1049 (h:a:=by
 refine zm4 ?_
 exact zq1050):a:=h
theorem zq1047 (h:a:=by
 refine zm5 ?_
 exact zq1048):a:=h
theorem zq1046 (h:a:=by
 refine zm5 ?_
 exact zq1047):a:=h
theorem zq1044 (h:a:=by
 refine zm4 ?_
 exact zq1045):a:=h
theorem zq1043 (h:a:=by
 refine zm4 ?_
 exact zq1044):a:=h
theorem zq1041 (h:a:=by
 refine zm5 ?_
 exact zq1042):a:=h
theorem zq971 (h:a:=by
 refine eH ?_
 exact zq972):a:=h
theorem zq950 (h:a:=by exact aw rfl (zq951)):a:=h
theorem zq944 (h:a:=by exact aw rfl (zq945)):a:=h
theorem zq942 (h:a:=by
 refine dZ ?_
 exact zq943):a:=h
theorem zq919 (h:a:=by
 refine eH ?_
 exact zq920):a:=h
theorem zq897 (h:a:=by exact aw rfl (zq898)):a:=h
theorem zq1094 (h:a:=by
 refine zm0 ?_
 exact zq1095):a:=h
theorem zq1089 (h:a:=by
 refine zm0 ?_
 exact zq1090):a:=h
theorem zq1087 (h:a:=by
 refine zm0 ?_
 exact zq1088):a:=h
theorem zq1086 (h:a:=by
 refine zm0 ?_
 exact zq1087):a:=h
theorem zq1077 (h:a:=by
 refine zm4 ?_
 exact zq1078):a:=h
theorem zq1138 (h:a:=by
 refine zm0 ?_
 exact zq1139):a:=h
theorem zq1133 (h:a:=by
 refine zm0 ?_
 exact zq1134):a:=h
theorem zq1131 (h:a:=by
 refine zm0 ?_
 exact zq1132):a:=h
theorem zq1130 (h:a:=by
 refine zm0 ?_
 exact zq1131):a:=h
theorem zq1121 (h:a:=by
 refine zm4 ?_
 exact zq1122):a:=h
theorem wd (h:a:=by
 refine zm6 ?_
 exact zq1147):a:=h
theorem zq1169 (h:a:=by
 refine zm0 ?_
 exact zq1170):a:=h
theorem zq1162 (h:a:=by
 refine zm6 ?_
 exact zq1163):a:=h
theorem zq1157 (h:a:=by
 refine zm6 ?_
 exact zq1158):a:=h
theorem zq1186 (h:a:=by
 refine zm6 ?_
 exact zq1187):a:=h
theorem zq1181 (h:a:=by
 refine zm6 ?_
 exact zq1182):a:=h
theorem zq1179 (h:a:=by
 refine zm6 ?_
 exact zq1180):a:=h
theorem zq1174 (h:a:=by
 refine zm6 ?_
 exact zq1175):a:=h
theorem zq1192 (h:a:=by
 refine zm0 ?_
 exact zq1193):a:=h
theorem zq1205 (h:a:=by
 refine zm0 ?_
 exact zq1206):a:=h
theorem zq1213 (h:a:=by
 refine zm0 ?_
 exact zq1214):a:=h
theorem zq148 (h:a:=by
 refine gY ?_
 exact zq149):a:=h
theorem zq363 (h:a:=by
 refine zm376 ?_
 exact zq364):a:=h
theorem zq359 (h:a:=by
 refine zm377 ?_
 exact zq360):a:=h
theorem zq371 (h:a:=by
 refine zm379 ?_
 exact zq372):a:=h
theorem zq335 (h:a:=by
 refine zm379 ?_
 exact zq336):a:=h
theorem zq326 (h:a:=by
 dsimp only at *
 exact zq327):a:=h
theorem zq458 (h:a:=by
 refine zm380 ?_
 exact zq459):a:=h
theorem zq454 (h:a:=by
 refine zm377 ?_
 exact zq455):a:=h
theorem zq466 (h:a:=by
 refine zm381 ?_
 exact zq467):a:=h
theorem zq430 (h:a:=by
 refine zm381 ?_
 exact zq431):a:=h
theorem zq421 (h:a:=by
 dsimp only at *
 exact zq422):a:=h
theorem zq390 (h:a:=by
 refine q6 ?_
 exact zq391):a:=h
theorem zq266 (h:a:=by
 dsimp only at *
 exact zq267):a:=h
theorem zq546 (h:a:=by
 have hN1:=hB2
 exact zq547):a:=h
theorem zq604 (h:a:=by
 refine xF ?_
 exact zq605):a:=h
theorem zq733 (h:a:=by
 refine gY ?_
 exact zq734):a:=h
theorem zq679 (h:a:=by
 refine gY ?_
 exact zq680):a:=h
theorem zq791 (h:a:=by
 refine gY ?_
 exact zq792):a:=h
theorem zq810 (h:a:=by
 refine zm409 ?_
 exact zq811):a:=h
theorem zq847 (h:a:=by
 refine zm410 ?_
 exact zq848):a:=h
theorem zq841 (h:a:=by
 refine tX ?_
 exact zq842):a:=h
theorem zq856 (h:a:=by
 refine zm411 ?_
 exact zq857):a:=h
theorem zq850 (h:a:=by
 refine tX ?_
 exact zq851):a:=h
theorem zq889 (h:a:=by
 refine zm412 ?_
 exact zq890):a:=h
theorem zq887 (h:a:=by
 refine t6 ?_
 exact zq888):a:=h
theorem zq1004 (h:a:=by
 refine l7 ?_
 exact zq1005):a:=h
theorem zq1002 (h:a:=by exact aw rfl (zq1003)):a:=h
theorem zq992 (h:a:=by
 refine zm382 ?_
 exact zq993):a:=h
theorem zq988 (h:a:=by
 refine Dk ?_
 exact zq989):a:=h
theorem zq973 (h:a:=by
 refine zm362 ?_
 exact zq974):a:=h
theorem zq1061 (h:a:=by
 refine l7 ?_
 exact Dc):a:=h
theorem zq1059 (h:a:=by exact aw rfl (zq1060)):a:=h
theorem zq1057 (h:a:=by
 refine dZ ?_
 exact zq1058):a:=h
theorem zq954 (h:a:=by
 refine zm414 ?_
 exact zq955):a:=h
theorem zq920 (h:a:=by
 refine zm415 ?_
 exact zq921):a:=h
theorem zq1095 (h:a:=by
 refine fo ?_
 exact zq1096):a:=h
theorem zq1079 (h:a:=by
 refine jY ?_
 exact zq1080):a:=h
theorem zq1068 (h:a:=by exact aw rfl (zq1069)):a:=h
theorem Db (h:a:=by exact aw rfl (zq1063)):a:=h
theorem zq1139 (h:a:=by
 refine fo ?_
 exact zq1140):a:=h
theorem zq1123 (h:a:=by
 refine jY ?_
 exact zq1124):a:=h
theorem zq1112 (h:a:=by exact aw rfl (zq1113)):a:=h
theorem Da (h:a:=by exact aw rfl (zq1107)):a:=h
theorem zq1168 (h:a:=by
 refine jX ?_
 exact zq1169):a:=h
theorem zq1159 (h:a:=by
 refine fo ?_
 exact zq1160):a:=h
theorem zq1006 (h:a:=by
 refine zm413 ?_
 exact zq1007):a:=h
theorem zq1055 (h:a:=by
 refine zm382 ?_
 exact zq1056):a:=h
theorem zq1051 (h:a:=by
 refine Dk ?_
 exact zq1052):a:=h
theorem zq1045 (h:a:=by
 refine Dk ?_
 exact zq1046):a:=h
theorem zq1035 (h:a:=by
 refine zm360 ?_
 exact zq1036):a:=h
theorem zq1088 (h:a:=by
 refine q6 ?_
 exact zq1089):a:=h
theorem zq1132 (h:a:=by
 refine q6 ?_
 exact zq1133):a:=h
theorem zq1147 (h:a:=by
 refine mn ?_
 exact zq1148):a:=h
theorem zq1163 (h:a:=by
 refine mn ?_
 exact zq1164):a:=h
theorem zq1158 (h:a:=by
 refine qA ?_
 exact zq1159):a:=h
theorem zq1154 (h:a:=by
 rw [hC2] at hz4
 exact zq1155):a:=h
theorem zq1187 (h:a:=by
 refine qA ?_
 exact zq1188):a:=h
theorem zq1182 (h:a:=by
 refine li ?_
 exact zq1183):a:=h
theorem zq1175 (h:a:=by
 refine li ?_
 exact zq1176):a:=h
theorem zq81 (h:a:=by exact af (TC.ret (zq82))):a:=h
theorem zq869 (h:a:=by
 have i4:=hI4.rm
 exact zq870):a:=h
theorem zq868 (h:a:=by
 have i3:=hI4.nm
 exact zq869):a:=h
theorem zq867 (h:a:=by
 have i2:=hI4.sl
 exact zq868):a:=h
theorem zq866 (h:a:=by
 have i1:=hI4.tl
 exact zq867):a:=h
theorem zq894 (h:a:=by
 have i2:=hI4.sl
 exact zq895):a:=h
theorem zq893 (h:a:=by
 have i1:=hI4.tl
 exact zq894):a:=h
theorem zq265 (h:a:=by
 obtain⟨i,S⟩:=p
 exact zq266):a:=h
theorem zq512 (h:a:=by
 have hlb29:=hp29
 exact zq513):a:=h
theorem zq498 (h:a:=by
 have hla24:=hp24
 exact zq499):a:=h
theorem zq535 (h:a:=by
 have hlb29:=hp29
 exact zq536):a:=h
theorem zq521 (h:a:=by
 have hla24:=hp24
 exact zq522):a:=h
theorem zq879 (h:a:=by
 have l4:=hA75.rm
 exact zq880):a:=h
theorem zq878 (h:a:=by
 have l3:=hA75.nm
 exact zq879):a:=h
theorem zq877 (h:a:=by
 have l2:=hA75.sl
 exact zq878):a:=h
theorem zq876 (h:a:=by
 have l1:=hA75.tl
 exact zq877):a:=h
theorem zq875 (h:a:=by
 have j4:=hA64.rm
 exact zq876):a:=h
theorem zq874 (h:a:=by
 have j3:=hA64.nm
 exact zq875):a:=h
theorem zq873 (h:a:=by
 have j2:=hA64.sl
 exact zq874):a:=h
theorem zq872 (h:a:=by
 have j1:=hA64.tl
 exact zq873):a:=h
theorem zq870 (h:a:=by
 have i5:=hI7.len
 exact zq871):a:=h
theorem zq895 (h:a:=by
 have i5:=hI7.len
 exact zq896):a:=h
theorem zq325 (h:a:=by
 obtain⟨j,Wy⟩:=p
 exact zq326):a:=h
theorem zq420 (h:a:=by
 obtain⟨j,Wy⟩:=p
 exact zq421):a:=h
theorem zq880 (h:a:=by
 have l5:=hM75.len
 exact zq881):a:=h
theorem zq1100 (h:a:=by
 dsimp only at hN79
 exact zq1101):a:=h
theorem zq1144 (h:a:=by
 dsimp only at hN76
 exact zq1145):a:=h
theorem zq503 (h:a:=by
 have hra26:=hr26.1
 exact zq504):a:=h
theorem zq526 (h:a:=by
 have hra26:=hr26.1
 exact zq527):a:=h
theorem zq724 (h:a:=by
 rw [List.append_nil]
 exact zq725):a:=h
theorem zq826 (h:a:=by
 have hL61:=hA61.tl
 exact zq827):a:=h
theorem zq692 (h:a:=by
 have hf2:=hf.le hq2
 exact zq693):a:=h
theorem zq691 (h:a:=by
 have hp2:=hp.le hq2
 exact zq692):a:=h
theorem zq1099 (h:a:=by
 have hN79:=hA79.nn
 exact zq1100):a:=h
theorem zq1073 (h:a:=by
 have hL67:=hA67.tl
 exact zq1074):a:=h
theorem zq1065 (h:a:=by
 have hra66:=hr66.1
 exact zq1066):a:=h
theorem zq1143 (h:a:=by
 have hN76:=hA76.nn
 exact zq1144):a:=h
theorem zq1117 (h:a:=by
 have hL67:=hA67.tl
 exact zq1118):a:=h
theorem zq1109 (h:a:=by
 have hra66:=hr66.1
 exact zq1110):a:=h
theorem zq1030 (h:a:=by
 have n128:=hA128.nm
 exact zq1031):a:=h
theorem zq1029 (h:a:=by
 have k128:=hA128.rm
 exact zq1030):a:=h
theorem zq1028 (h:a:=by
 have j128:=hA128.tl
 exact zq1029):a:=h
theorem zq1027 (h:a:=by
 have i128:=hA128.sl
 exact zq1028):a:=h
theorem zq1026 (h:a:=by
 have n107:=hA107.nm
 exact zq1027):a:=h
theorem zq1025 (h:a:=by
 have k107:=hA107.rm
 exact zq1026):a:=h
theorem zq1024 (h:a:=by
 have j107:=hA107.tl
 exact zq1025):a:=h
theorem zq1023 (h:a:=by
 have i107:=hA107.sl
 exact zq1024):a:=h
theorem zq1022 (h:a:=by
 have n103:=hA103.nm
 exact zq1023):a:=h
theorem zq1021 (h:a:=by
 have k103:=hA103.rm
 exact zq1022):a:=h
theorem zq1020 (h:a:=by
 have j103:=hA103.tl
 exact zq1021):a:=h
theorem zq1019 (h:a:=by
 have i103:=hA103.sl
 exact zq1020):a:=h
theorem zq1018 (h:a:=by
 have n102:=hA102.nm
 exact zq1019):a:=h
theorem zq1017 (h:a:=by
 have k102:=hA102.rm
 exact zq1018):a:=h
theorem zq1016 (h:a:=by
 have j102:=hA102.tl
 exact zq1017):a:=h
theorem zq1015 (h:a:=by
 have i102:=hA102.sl
 exact zq1016):a:=h
theorem zq1014 (h:a:=by
 have n100:=hA100.nm
 exact zq1015):a:=h
theorem zq1013 (h:a:=by
 have k100:=hA100.rm
 exact zq1014):a:=h
theorem zq1012 (h:a:=by
 have j100:=hA100.tl
 exact zq1013):a:=h
theorem zq1011 (h:a:=by
 have i100:=hA100.sl
 exact zq1012):a:=h
theorem zq976 (h:a:=by
 have hslw18:=hw18.sl
 exact zq977):a:=h
theorem zq975 (h:a:=by
 have hatw18:=hw18.at
 exact zq976):a:=h
theorem zq923 (h:a:=by
 have hslw16:=hw16.sl
 exact zq924):a:=h
theorem zq922 (h:a:=by
 have hatw16:=hw16.at
 exact zq923):a:=h
theorem zq350 (h:a:=by
 have hwW:=hW2.at_ hwy
 exact zq351):a:=h
theorem zq445 (h:a:=by
 have hwW:=hW2.at_ hwy
 exact zq446):a:=h
theorem zq268 (h:a:=by
 replace hQ:=hQ.le hle
 exact zq269):a:=h
theorem zq1032 (h:a:=by
 have l128:=hM128.len
 exact zq1033):a:=h
theorem zq1038 (h:a:=by
 have hslw18:=hw18.sl
 exact zq1039):a:=h
theorem zq1037 (h:a:=by
 have hatw18:=hw18.at
 exact zq1038):a:=h
theorem zq484 (h:a:=by
 obtain⟨o,hO,hD⟩:=hI
 exact zq485):a:=h
theorem zq823 (h:a:=by
 dsimp only at hle61 hp61
 exact zq824):a:=h
theorem zq1156 (h:a:=by
 rw [hC2,← hs2b] at hT2
 exact zq1157):a:=h
theorem zq369 (h:a:=by exact TL.run (bH rfl) rfl (zq370)):a:=h
theorem zq333 (h:a:=by exact TL.run (bH rfl) rfl (zq334)):a:=h
theorem zq310 (h:a:=by exact TL.run (bH rfl) rfl (zq311)):a:=h
theorem zq306 (h:a:=by exact TL.run (bH rfl) rfl (zq307)):a:=h
theorem zq464 (h:a:=by exact TL.run (bH rfl) rfl (zq465)):a:=h
theorem zq428 (h:a:=by exact TL.run (bH rfl) rfl (zq429)):a:=h
theorem zq405 (h:a:=by exact TL.run (bH rfl) rfl (zq406)):a:=h
theorem zq401 (h:a:=by exact TL.run (bH rfl) rfl (zq402)):a:=h
theorem zq391 (h:a:=by exact TL.run (bH rfl) rfl (zq392)):a:=h
theorem zq387 (h:a:=by exact TL.run (bH rfl) rfl (zq388)):a:=h
theorem zq497 (h:a:=by
 replace hd:=hd.le hle24
 exact zq498):a:=h
theorem zq520 (h:a:=by
 replace hd:=hd.le hle24
 exact zq521):a:=h
theorem zq589 (h:a:=by exact TL.run (bH rfl) rfl (zq590)):a:=h
theorem zq575 (h:a:=by exact TL.run (bH rfl) rfl (zq576)):a:=h
theorem zq558 (h:a:=by exact TL.run (bH rfl) rfl (zq559)):a:=h
theorem zq719 (h:a:=by
 replace eH90:=eH90.symm
 exact zq720):a:=h
theorem zq693 (h:a:=by
 have hlab2:=hlab.le hq2
 exact zq694):a:=h
theorem zq785 (h:a:=by
 replace eH67:=eH67.symm
 exact zq786):a:=h
theorem zq1097 (h:a:=by
 dsimp only at hle79 hp79
 exact zq1098):a:=h
theorem zq1070 (h:a:=by
 dsimp only at hle67 hp67
 exact zq1071):a:=h
theorem zq1141 (h:a:=by
 dsimp only at hle76 hp76
 exact zq1142):a:=h
theorem zq1114 (h:a:=by
 dsimp only at hle67 hp67
 exact zq1115):a:=h
theorem zq361 (h:a:=by exact aq (bH rfl) rfl (zq362)):a:=h
theorem zq456 (h:a:=by exact aq (bH rfl) rfl (zq457)):a:=h
theorem zq824 (h:a:=by
 obtain⟨rfl,hA61⟩:=hp61
 exact zq825):a:=h
theorem zq985 (h:a:=by exact aq (bH rfl) rfl (zq986)):a:=h
theorem zq980 (h:a:=by exact aq (bH rfl) rfl (zq981)):a:=h
theorem zq978 (h:a:=by
 have hsmw18:=hW154.s.max
 exact zq979):a:=h
theorem zq965 (h:a:=by
 dsimp only at hle154 hp154
 exact zq966):a:=h
theorem zq933 (h:a:=by exact aq (bH rfl) rfl (zq934)):a:=h
theorem zq927 (h:a:=by exact aq (bH rfl) rfl (zq928)):a:=h
theorem zq925 (h:a:=by
 have hsmw16:=hW128.s.max
 exact zq926):a:=h
theorem zq912 (h:a:=by
 dsimp only at hle128 hp128
 exact zq913):a:=h
theorem zq167 (h:a:=by exact TL.nil (af (TC.ret (zq168)))):a:=h
theorem zq727 (h:a:=by
 replace hq4:=hq4.le leP90
 exact zq728):a:=h
theorem zq725 (h:a:=by
 replace hp2:=hp2.le leP90
 exact zq726):a:=h
theorem zq1048 (h:a:=by exact aq (bH rfl) rfl (zq1049)):a:=h
theorem zq1042 (h:a:=by exact aq (bH rfl) rfl (zq1043)):a:=h
theorem zq1040 (h:a:=by
 have hsmw18:=hW154.s.max
 exact zq1041):a:=h
theorem zq1098 (h:a:=by
 obtain⟨rfl,hA79⟩:=hp79
 exact zq1099):a:=h
theorem zq1071 (h:a:=by
 obtain⟨rfl,hA67⟩:=hp67
 exact zq1072):a:=h
theorem zq1142 (h:a:=by
 obtain⟨rfl,hA76⟩:=hp76
 exact zq1143):a:=h
theorem zq1115 (h:a:=by
 obtain⟨rfl,hA67⟩:=hp67
 exact zq1116):a:=h
theorem zq179 (h:a:=by
 have q74:=aU g74
 exact zq180):a:=h
theorem zq552 (h:a:=by
 obtain⟨⟨m0,m1⟩,hI2⟩:=hI
 exact zq553):a:=h
theorem zq763 (h:a:=by
 have hlab3:=hlab2.le hle97
 exact zq764):a:=h
theorem zq655 (h:a:=by
 obtain⟨⟨k0,k1⟩,hal⟩:=hI
 exact zq656):a:=h
theorem zq511 (h:a:=by
 replace hd26:=hd26.le hle29
 exact zq512):a:=h
theorem zq507 (h:a:=by exact az (S1 (S1 SN)) hle24 (zq508)):a:=h
theorem zq534 (h:a:=by
 replace hd26:=hd26.le hle29
 exact zq535):a:=h
theorem zq530 (h:a:=by exact az (S1 (S1 SN)) hle24 (zq531)):a:=h
theorem zq42 (h:a:=by
 have q7:=of_decide_eq_true g7
 exact zq43):a:=h
theorem zq597 (h:a:=by
 refine pQ ?_;refine pP ?_
 exact zq598):a:=h
theorem zq15 (h:a:=by exact TL.run (eq rfl rfl) rfl (zq16)):a:=h
theorem zq232 (h:a:=by
 obtain⟨va,vc,rfl⟩:=hO.form
 exact zq233):a:=h
theorem zq241 (h:a:=by
 obtain⟨va,vc,rfl⟩:=hO.form
 exact zq242):a:=h
theorem zq485 (h:a:=by
 obtain⟨va,vc,rfl⟩:=hO.form
 exact zq486):a:=h
theorem zq510 (h:a:=by
 replace hla24:=hla24.le hle29
 exact zq511):a:=h
theorem zq726 (h:a:=by
 replace hlab2:=hlab2.le leP90
 exact zq727):a:=h
theorem zq231 (h:a:=by
 obtain⟨⟨k0,k1⟩,hO,hfl⟩:=hI
 exact zq232):a:=h
theorem zq240 (h:a:=by
 obtain⟨⟨k0,k1⟩,hO,hfl⟩:=hI
 exact zq241):a:=h
theorem zq1155 (h:a:=by
 have hT2:=st_next k0 hk hs hT
 exact zq1156):a:=h
theorem zq324 (h:a:=by
 obtain⟨⟨j0,j1⟩,hOw,hW2⟩:=hI
 exact zq325):a:=h
theorem zq419 (h:a:=by
 obtain⟨⟨j0,j1⟩,hOw,hW2⟩:=hI
 exact zq420):a:=h
theorem zq504 (h:a:=by
 have hrb26:=hr26.2.1 om
 exact zq505):a:=h
theorem zq527 (h:a:=by
 have hrb26:=hr26.2.1 om
 exact zq528):a:=h
theorem zq578 (h:a:=by exact TL.run (bE rfl rfl hO) rfl (zq579)):a:=h
theorem zq561 (h:a:=by exact TL.run (bE rfl rfl hO) rfl (zq562)):a:=h
theorem zq225 (h:a:=by exact TL.run (ah rfl rfl hc) rfl (zq226)):a:=h
theorem zq336 (h:a:=by exact TL.run (bE rfl rfl hOw) rfl (zq337)):a:=h
theorem zq431 (h:a:=by exact TL.run (bE rfl rfl hOw) rfl (zq432)):a:=h
theorem zq595 (h:a:=by
 have q25:=of_decide_eq_false g25
 exact zq596):a:=h
theorem zq820 (h:a:=by exact az (S1 (S1 (S1 SN))) hle54 (zq821)):a:=h
theorem zq1066 (h:a:=by
 have hrb66:=hr66.2.1 om
 exact zq1067):a:=h
theorem zq1110 (h:a:=by
 have hrb66:=hr66.2.1 om
 exact zq1111):a:=h
theorem zq732 (h:a:=by
 refine TL.alloc rfl (fun b17=>?_)
 exact zq733):a:=h
theorem zq722 (h:a:=by
 obtain⟨a90,c90,rfl⟩:=hO90.form
 exact zq723):a:=h
theorem zq678 (h:a:=by
 refine TL.alloc rfl (fun b15=>?_)
 exact zq679):a:=h
theorem zq1067 (h:a:=by exact az (S1 (S1 (S1 SN))) hle60 (zq1068)):a:=h
theorem zq1111 (h:a:=by exact az (S1 (S1 (S1 SN))) hle60 (zq1112)):a:=h
theorem zq506 (h:a:=by
 have hl4:labelsL.length=4:=rfl
 exact zq507):a:=h
theorem zq529 (h:a:=by
 have hl4:labelsL.length=4:=rfl
 exact zq530):a:=h
theorem zq661 (h:a:=by exact TL.run (ah rfl rfl hlab) rfl (zq662)):a:=h
theorem zq640 (h:a:=by exact TL.run (ah rfl rfl hlab) rfl (zq641)):a:=h
theorem zq819 (h:a:=by
 obtain⟨rfl,r60,rfl,hr60⟩:=hp60
 exact zq820):a:=h
theorem zq264 (h:a:=by
 obtain⟨⟨i0,i1⟩,hle,hOS,hT⟩:=hI
 exact zq265):a:=h
theorem zq502 (h:a:=by
 replace eH26:=eH26.symm;subst eH26
 exact zq503):a:=h
theorem zq501 (h:a:=by
 obtain⟨eH26,r26,rfl,hr26⟩:=hp26
 exact zq502):a:=h
theorem zq525 (h:a:=by
 replace eH26:=eH26.symm;subst eH26
 exact zq526):a:=h
theorem zq524 (h:a:=by
 obtain⟨eH26,r26,rfl,hr26⟩:=hp26
 exact zq525):a:=h
theorem zq699 (h:a:=by exact TL.run (ah rfl rfl hlab2) rfl (zq700)):a:=h
theorem zq871 (h:a:=by
 simp only [List.length_cons] at i2 i4
 exact zq872):a:=h
theorem zq1064 (h:a:=by
 obtain⟨rfl,r66,rfl,hr66⟩:=hp66
 exact zq1065):a:=h
theorem zq1108 (h:a:=by
 obtain⟨rfl,r66,rfl,hr66⟩:=hp66
 exact zq1109):a:=h
theorem zq281 (h:a:=by
 have hso:StepOk H1 s:=hQ.ss s hmem
 exact zq282):a:=h
theorem zq718 (h:a:=by
 obtain⟨eH90,tv90,rfl,hO90⟩:=hp90
 exact zq719):a:=h
theorem zq784 (h:a:=by
 obtain⟨eH67,tv67,rfl,hO67⟩:=hp67
 exact zq785):a:=h
theorem zq782 (h:a:=by exact TL.run (aQ hlab hlx rfl rfl) rfl (zq783)):a:=h
theorem zq900 (h:a:=by exact az (S1 (S1 SN)) (Hp.le.refl _) (zq901)):a:=h
theorem zq716 (h:a:=by exact TL.run (aQ hlab2 hlx rfl rfl) rfl (zq717)):a:=h
theorem zq881 (h:a:=by
 simp only [List.length_nil] at j1 j2 j4
 exact zq882):a:=h
theorem zq899 (h:a:=by
 obtain⟨rfl,r123,rfl,hr123⟩:=hp123
 exact zq900):a:=h
theorem zq1204 (h:a:=by exact TL.run (aQ hR62 hxB rfl rfl) rfl (zq1205)):a:=h
theorem zq966 (h:a:=by
 try simp only [List.length_set] at hp154
 exact zq967):a:=h
theorem zq532 (h:a:=by exact aK (aQ hla24 hl1 rfl rfl) rfl (zq533)):a:=h
theorem zq626 (h:a:=by exact aC rfl rfl (aQ hL hx rfl rfl) rfl (zq627)):a:=h
theorem zq30 (h:a:=by exact TL.run (gn rfl rfl om hc) rfl (zq31)):a:=h
theorem zq505 (h:a:=by
 obtain⟨l1,hl1⟩:=m8 hra26 om
 exact zq506):a:=h
theorem zq528 (h:a:=by
 obtain⟨l1,hl1⟩:=m8 hra26 om
 exact zq529):a:=h
theorem zq327 (h:a:=by
 have hWl:Wy.length=s.ways.length:=hW2.len
 exact zq328):a:=h
theorem zq318 (h:a:=by
 replace hO112:=hO112.cast (List.nil_append _)
 exact zq319):a:=h
theorem zq422 (h:a:=by
 have hWl:Wy.length=s.ways.length:=hW2.len
 exact zq423):a:=h
theorem zq413 (h:a:=by
 replace hO112:=hO112.cast (List.nil_append _)
 exact zq414):a:=h
theorem zq175 (h:a:=by exact aC rfl rfl (aB rfl (.here _) rfl) rfl (zq176)):a:=h
theorem zq170 (h:a:=by exact aC rfl rfl (aB rfl (.here _) rfl) rfl (zq171)):a:=h
theorem zq613 (h:a:=by
 refine aD rfl rfl rfl rfl (fun b40=>?_)
 exact zq614):a:=h
theorem zq829 (h:a:=by
 refine aF rfl rfl rfl rfl (fun b62=>?_)
 exact zq830):a:=h
theorem zq995 (h:a:=by
 refine aF rfl rfl rfl rfl (fun b172=>?_)
 exact zq996):a:=h
theorem zq943 (h:a:=by
 refine aF rfl rfl rfl rfl (fun b146=>?_)
 exact zq944):a:=h
theorem zq1076 (h:a:=by
 refine aF rfl rfl rfl rfl (fun b68=>?_)
 exact zq1077):a:=h
theorem zq1120 (h:a:=by
 refine aF rfl rfl rfl rfl (fun b68=>?_)
 exact zq1121):a:=h
theorem zq492 (h:a:=by
 refine TD.part 4 7 rfl rfl rfl ?_ ?_
 · exact zq516
 exact zq493):a:=h
theorem zq828 (h:a:=by exact az (S1 (S1 (S1 SN))) (hle54.trans (hle61)) (zq829)):a:=h
theorem zq1058 (h:a:=by
 refine aF rfl rfl rfl rfl (fun b172=>?_)
 exact zq1059):a:=h
theorem zq1160 (h:a:=by
 refine aD rfl rfl rfl rfl (fun b136=>?_)
 exact zq1161):a:=h
theorem zq147 (h:a:=by exact TL.run (a7 rfl (.there _ (.here _)) rfl) rfl (zq148)):a:=h
theorem zq138 (h:a:=by exact TL.run (aB rfl (.there _ (.here _)) rfl) rfl (zq139)):a:=h
theorem zq1075 (h:a:=by exact az (S1 (S1 (S1 SN))) (hle60.trans (hle67)) (zq1076)):a:=h
theorem zq1119 (h:a:=by exact az (S1 (S1 (S1 SN))) (hle60.trans (hle67)) (zq1120)):a:=h
theorem C9 (h:a:=by
 obtain⟨xB,hxB⟩:=ao (l:=bz s) k0 c65
 exact zq1197):a:=h
theorem zq972 (h:a:=by
 refine TD.part 4 18 rfl rfl rfl ?_ ?_
 · exact zq1035
 exact zq973):a:=h
theorem zq1180 (h:a:=by exact TL.run (aB rfl (.there _ (.here _)) rfl) rfl (zq1181)):a:=h
theorem zq380 (h:a:=by
 simp only [Bool.or_eq_true,decide_eq_true_eq] at c95
 exact zq381):a:=h
theorem zq827 (h:a:=by
 simp only [List.length_cons,List.length_nil] at hL61
 exact zq828):a:=h
theorem zq31 (h:a:=by exact ay (ab rfl rfl rfl rfl) (kt c) rfl (zq32)):a:=h
theorem zq357 (h:a:=by
 simp only [Bool.or_eq_true,decide_eq_true_eq] at c146
 exact zq358):a:=h
theorem zq349 (h:a:=by
 obtain⟨w,hwy⟩:=ao (l:=s.ways) j0 om
 exact zq350):a:=h
theorem zq452 (h:a:=by
 simp only [Bool.or_eq_true,decide_eq_true_eq] at c146
 exact zq453):a:=h
theorem zq444 (h:a:=by
 obtain⟨w,hwy⟩:=ao (l:=s.ways) j0 om
 exact zq445):a:=h
theorem zq704 (h:a:=by
 obtain⟨lb,hlx⟩:=ao (l:=(cY p set)) k0 c80
 exact zq705):a:=h
theorem zq770 (h:a:=by
 obtain⟨lb,hlx⟩:=ao (l:=(cY p set)) k0 c57
 exact zq771):a:=h
theorem zq1074 (h:a:=by
 simp only [List.length_cons,List.length_nil] at hL67
 exact zq1075):a:=h
theorem zq1118 (h:a:=by
 simp only [List.length_cons,List.length_nil] at hL67
 exact zq1119):a:=h
theorem zq139 (h:a:=by exact ay (ab rfl rfl rfl rfl) (qd s.kind) rfl (zq140)):a:=h
theorem zq27 (h:a:=by
 obtain⟨c,hc⟩:=ao (l:=s) (i:=k) om c25
 exact zq28):a:=h
theorem zq373 (h:a:=by exact TL.run (aY rfl rfl hOw om om) rfl (zq374)):a:=h
theorem zq468 (h:a:=by exact TL.run (aY rfl rfl hOw om om) rfl (zq469)):a:=h
theorem zq292 (h:a:=by exact TL.run (aY rfl rfl hOS om om) rfl (zq293)):a:=h
theorem zq690 (h:a:=by
 obtain⟨⟨k0,k1⟩,hq2,hq3,hq4,hq5,hq6,hq7,hq8⟩:=hI
 exact zq691):a:=h
theorem zq781 (h:a:=by exact TL.run (ae rfl hlab rfl om om) rfl (zq782)):a:=h
theorem zq715 (h:a:=by exact TL.run (ae rfl hlab2 rfl om om) rfl (zq716)):a:=h
theorem zq1153 (h:a:=by
 have hz4:=(hY (q:=q) (st:=(m,o)) hma hTm).2.2
 exact zq1154):a:=h
theorem zq1203 (h:a:=by exact TL.run (ae rfl hR62 rfl om om) rfl (zq1204)):a:=h
theorem zq508 (h:a:=by exact aq (ae rfl hla24 rfl om om) rfl (zq509)):a:=h
theorem zq531 (h:a:=by exact aq (ae rfl hla24 rfl om om) rfl (zq532)):a:=h
theorem zq768 (h:a:=by exact aq (ae rfl hlab3 rfl om om) rfl (zq769)):a:=h
theorem zq804 (h:a:=by exact aq (aY rfl rfl hW59.s om om) rfl (zq805)):a:=h
theorem zq279 (h:a:=by
 have hsS:S[i.toNat]? =some s:=(hT.r _ om).trans hW
 exact zq280):a:=h
theorem zq883 (h:a:=by exact aq (aY rfl rfl hW129.s om om) rfl (zq884)):a:=h
theorem zq990 (h:a:=by exact aq (aY rfl rfl hW154.s om om) rfl (zq991)):a:=h
theorem zq948 (h:a:=by exact aq (aY rfl rfl hW128.s om om) rfl (zq949)):a:=h
theorem zq938 (h:a:=by exact aq (aY rfl rfl hW128.s om om) rfl (zq939)):a:=h
theorem zq142 (h:a:=by
 refine TC.cond rfl ?_ ?_<;>intro c43
 · exact zq153
 exact zq143):a:=h
theorem zq299 (h:a:=by
 simp only [Bool.or_eq_false_iff,decide_eq_false_iff_not] at c95
 exact zq300):a:=h
theorem zq298 (h:a:=by
 refine TC.cond rfl ?_ ?_<;>intro c95
 · exact zq380
 exact zq299):a:=h
theorem zq267 (h:a:=by
 have hSl:S.length=q.steps.length:=by rw [hT.ln,nO]
 exact zq268):a:=h
theorem Dc (h:a:=by exact aq (aY rfl rfl hW154.s om om) rfl (zq1001)):a:=h
theorem zq1053 (h:a:=by exact aq (aY rfl rfl hW154.s om om) rfl (zq1054)):a:=h
theorem vZ (h:a:=by
 have hC2:(gB q.terms s (m,o)).2=(m2,o2):=by rw [hCE]
 exact zq1153):a:=h
theorem zq565 (h:a:=by
 refine ag rfl ?_ ?_<;>intro c60
 · exact zq594
 exact zq566):a:=h
theorem zq665 (h:a:=by
 refine ag rfl ?_ ?_<;>intro c57
 · exact zq770
 exact zq666):a:=h
theorem zq625 (h:a:=by exact aC rfl rfl (ae rfl hL rfl om om) rfl (zq626)):a:=h
theorem zq340 (h:a:=by
 refine ag rfl ?_ ?_<;>intro c121
 · exact zq349
 exact zq341):a:=h
theorem zq435 (h:a:=by
 refine ag rfl ?_ ?_<;>intro c121
 · exact zq444
 exact zq436):a:=h
theorem zq1194 (h:a:=by refine af (TC.ret (bv (aI ?_)));exact aI (bv (qj))):a:=h
theorem zq743 (h:a:=by
 obtain⟨sv97,ob97,rows97,rfl,hO97,hrw97,hrl97,hm97,rfl⟩:=hp97
 exact zq744):a:=h
theorem zq952 (h:a:=by exact az (S0 (S1 (S1 (SA (A:=ob147) (S1 (S1 SN)))))) (Hp.le.refl _) (zq953)):a:=h
theorem zq947 (h:a:=by exact az (S0 (S1 (S1 (SA (A:=ob147) (S1 (S1 SN)))))) (Hp.le.refl _) (zq948)):a:=h
theorem zq946 (h:a:=by exact aM (vr [(b146,_),(b7,_),(b6,_)] (Fx.X F V128) ob147) (zq947)):a:=h
theorem zq254 (h:a:=by
 replace hobB:OwnSl 10 SStep.cells _ (mA q.steps k sa sb) obB:=hobB
 exact zq255):a:=h
theorem zq977 (h:a:=by
 simp only [List.length_cons,List.length_nil,List.length_append] at hslw18
 exact zq978):a:=h
theorem zq924 (h:a:=by
 simp only [List.length_cons,List.length_nil,List.length_append] at hslw16
 exact zq925):a:=h
theorem zq1092 (h:a:=by
 refine ag rfl ?_ ?_<;>intro c73
 · exact absurd c73 c52
 exact zq1093):a:=h
theorem zq1136 (h:a:=by
 refine ag rfl ?_ ?_<;>intro c73
 · exact zq1137
 exact absurd c52 c73):a:=h
theorem zq1039 (h:a:=by
 simp only [List.length_cons,List.length_nil,List.length_append] at hslw18
 exact zq1040):a:=h
theorem zq19 (h:a:=by
 refine ag rfl ?_ ?_<;>intro c25
 · exact zq21
 refine gv ?_
 exact zq20):a:=h
theorem zq967 (h:a:=by
 obtain⟨us154,ss154,xs154,nm154,rfl,hnm154,hA154,hM154,hS154⟩:=hp154
 exact zq968):a:=h
theorem zq913 (h:a:=by
 obtain⟨us128,ss128,xs128,nm128,rfl,hnm128,hA128,hM128,hS128⟩:=hp128
 exact zq914):a:=h
theorem zq825 (h:a:=by
 replace hA61:XA V54 V61 _ _ _:=⟨hA61.tm,hA61.st,hA61.nm,hA61.rm,hA61.nn⟩
 exact zq826):a:=h
theorem zq1072 (h:a:=by
 replace hA67:XA V60 V67 _ _ _:=⟨hA67.tm,hA67.st,hA67.nm,hA67.rm,hA67.nn⟩
 exact zq1073):a:=h
theorem zq1116 (h:a:=by
 replace hA67:XA V60 V67 _ _ _:=⟨hA67.tm,hA67.st,hA67.nm,hA67.rm,hA67.nn⟩
 exact zq1117):a:=h
theorem zq1085 (h:a:=by exact aM (oe [] [(b11,_),(b8,_),(b4,_),(b15,_),(bd,_)] _ _ _ _) (zq1086)):a:=h
theorem zq1129 (h:a:=by exact aM (oe [] [(b11,_),(b8,_),(b4,_),(b15,_),(bd,_)] _ _ _ _) (zq1130)):a:=h
theorem zq837 (h:a:=by exact aM (oe [] [(b10,_),(b8,_),(b5,_),(F.bw,_),(F.bd,_)] _ _ _ _) (zq838)):a:=h
theorem zq721 (h:a:=by
 have hO90:=hO90 (show k8 p set lb=true from hall lb (List.mem_of_getElem? hlx))
 exact zq722):a:=h
theorem zq278 (h:a:=by
 obtain⟨s,hW⟩:=ao (l:=(mA q.steps k sa sb)) i0 (by rw [nO];omega)
 exact zq279):a:=h
theorem zq509 (h:a:=by
 refine TF.call (ab rfl rfl rfl rfl) (eO) rfl (fun v29 H29 hle29 hp29=>?_)
 exact zq510):a:=h
theorem zq496 (h:a:=by
 refine TF.call (ab rfl rfl rfl rfl) (eO) rfl (fun v24 H24 hle24 hp24=>?_)
 exact zq497):a:=h
theorem zq533 (h:a:=by
 refine TF.call (ab rfl rfl rfl rfl) (eO) rfl (fun v29 H29 hle29 hp29=>?_)
 exact zq534):a:=h
theorem zq519 (h:a:=by
 refine TF.call (ab rfl rfl rfl rfl) (eO) rfl (fun v24 H24 hle24 hp24=>?_)
 exact zq520):a:=h
theorem zq914 (h:a:=by
 replace hA128:XA V107 V128 _ _ _:=⟨hA128.tm,hA128.st,hA128.nm,hA128.rm,hA128.nn⟩
 exact zq915):a:=h
theorem zq384 (h:a:=by exact TL.run ((by first | exact Ab rfl rfl om om | exact aJ rfl)) rfl (zq385)):a:=h
theorem zq205 (h:a:=by
 refine eg ?_;refine zm3 ?_;refine ny ?_
 exact aV rfl (by unfold gA;simp_all) ⟨rfl,rfl,trivial⟩):a:=h
theorem zq813 (h:a:=by exact dE (ig [(b77,_),(b4,_),(b39,_),(b2,_)] [(F.bw,_),(F.bd,_)] _ _ _ ob78) (zq814)):a:=h
theorem zq308 (h:a:=by exact TL.run (bG (i:=i.toNat) (j:=8) rfl hOS (.skip _ (.skip _ (.skip _ .all))) hsS rfl) rfl (zq309)):a:=h
theorem zq389 (h:a:=by exact TL.run (bG (i:=i.toNat) (j:=9) rfl hOS (.skip _ (.skip _ (.skip _ .all))) hsS rfl) rfl (zq390)):a:=h
theorem zq40 (h:a:=by
 refine TC.cond rfl ?_ ?_<;>intro c39
 · refine nE ?_;exact aI (bv (zq41))
 exact zq35):a:=h
theorem zq249 (h:a:=by exact aq (aY rfl rfl hobA om (by first | omega | (rw [List.length_set];omega))) rfl (zq250)):a:=h
theorem zq1010 (h:a:=by exact dE (ig [(b172,_),(b146,_),(b7,_),(b6,_)] [(F.bw,_),(F.bd,_)] _ _ _ ob173) (zq1011)):a:=h
theorem zq765 (h:a:=by exact aN (S1 (S1 (S1 (S1 SN)))) (Hp.le.refl _) (fun _ _=>aB rfl (.there _ (.here _)) rfl) rfl (zq766)):a:=h
theorem zq999 (h:a:=by exact aK (aB rfl (.there _ (.there _ (.there _ (.there _ (.past ob173 (.here _)))))) rfl) rfl (Dc)):a:=h
theorem zq1214 (h:a:=by
 refine nv ?_
 exact aS (k+1) o2q ky (fun w hw=>hw) om):a:=h
theorem zq673 (h:a:=by
 have h72:¬(cY p set).all (k8 p set)=false:=by rw [cU (p:=k8 p set) k0 c57 hal];decide
 exact zq674):a:=h
theorem zq375 (h:a:=by exact TL.run (bG (i:=j.toNat) (j:=2) rfl hOw (.skip _ (.skip _ (.skip _ (.past _ .all)))) hwW rfl) rfl (zq376)):a:=h
theorem zq470 (h:a:=by exact TL.run (bG (i:=j.toNat) (j:=2) rfl hOw (.skip _ (.skip _ (.skip _ (.past _ .all)))) hwW rfl) rfl (zq471)):a:=h
theorem zq815 (h:a:=by
 have t16:V16.tm.length=V.tm.length+3:=by have h:=hA16.tl;simp only [List.length_nil] at h;omega
 exact zq816):a:=h
theorem zq892 (h:a:=by exact dE (ig [(b146,_),(b12,_),(b11,_),(b7,_),(b6,_)] [(F.bw,_),(F.bd,_)] _ _ _ ob147) (zq893)):a:=h
theorem zq1031 (h:a:=by
 simp only [List.length_cons,List.length_nil] at i100 i102 i103 i107 j100 j102 j103 j107 k100 k102 k103 k107
 exact zq1032):a:=h
theorem zq403 (h:a:=by exact TL.run (bG (i:=i.toNat) (j:=8) (by rw [eN];rfl) hON (.skip _ (.skip _ (.skip _ .all))) hsN rfl) rfl (zq404)):a:=h
theorem zq674 (h:a:=by
 have hall:∀s∈(cY p set),k8 p set s=true:=List.all_eq_true.1 (cU (p:=k8 p set) k0 c57 hal)
 exact zq675):a:=h
theorem zq936 (h:a:=by exact aN (S1 (S1 (S1 (S1 SN)))) (Hp.le.refl _) (fun _ _=>aB rfl (.there _ (.there _ (.here _))) rfl) rfl (zq937)):a:=h
theorem zq930 (h:a:=by exact aN (S1 (S1 (S1 (S1 SN)))) (Hp.le.refl _) (fun _ _=>aB rfl (.there _ (.there _ (.here _))) rfl) rfl (zq931)):a:=h
theorem zq280 (h:a:=by
 have hmem:s∈q.steps:=by have h:=hW;rw [yE om k2 hsa hsb] at h;exact List.mem_of_getElem? h
 exact zq281):a:=h
theorem zq347 (h:a:=by
 have hStT:StepT k s ({s with next:=sig k s.next,ways:=Wy,wp:=(a112,c112)}:SStep):=⟨(a112,c112),by rw [hWE]⟩
 exact zq348):a:=h
theorem pM (h:a:=by refine fq ?_;exact bv (aI (aR (.inr rfl) (ad rfl (RVal.tmp rfl)) ⟨congrArg Value.bool (by simp_all [bF]),rfl⟩))):a:=h
theorem zq282 (h:a:=by
 have hsz9:s.ways.length≤1000000:=by obtain⟨x9,hx9⟩:=List.getElem?_of_mem hmem;have h:=fH (hS _ _ hx9).1;omega
 exact zq283):a:=h
theorem zq545 (h:a:=by
 have hno:¬(0<(dS p role (cQ p role frm)).length∧(cQ p role frm).any (jg p role)=true):=no_lost k0 hI2 om
 exact zq546):a:=h
theorem zq173 (h:a:=by
 refine ai (s:=74) rfl ?_ ?_<;>intro g74
 · exact zq179
 have q74:=aP g74
 refine eg ?_;refine db ?_
 exact zq174):a:=h
theorem zq638 (h:a:=by
 have h48:¬((cL p role set).1=1∧jO p set=false):=by first | (rintro⟨e1,e2⟩;simp_all;done) | (rintro⟨e1,e2⟩;omega)
 exact zq639):a:=h
theorem zq82 (h:a:=by
 refine wX (.inr rfl) (ad rfl (RVal.tmp rfl)) (.here _) ⟨_,_,?_,rfl,rfl,?_,rfl⟩
 · exact zq83
 first | assumption | (simp;done) | (simp;assumption)):a:=h
theorem zq783 (h:a:=by
 refine nt (X:=[(b4,_)]) (b:=bw) rfl (ab rfl rfl rfl rfl) (mw role hp hf hr lb hfl) rfl (fun v67 H67 ob67 hle67 hf67 hp67=>?_)
 exact zq784):a:=h
theorem C5 (h:a:=by exact ax (.inr rfl) (ad rfl (RVal.tmp rfl)) (congrArg Value.bool (by unfold dg;first | (rw [hall];clear hall;simp_all;done) | (simp_all<;>omega)))):a:=h
theorem zq500 (h:a:=by
 refine aE (X:=[(b9,_),(b8,_)]) (bd:=bd) rfl (ab rfl rfl rfl rfl) (bq 2 om hd) rfl (fun v26 H26 at26 hle26 hd26 hp26=>?_)
 exact zq501):a:=h
theorem zq523 (h:a:=by
 refine aE (X:=[(b9,_),(b8,_)]) (bd:=bd) rfl (ab rfl rfl rfl rfl) (bq 2 om hd) rfl (fun v26 H26 at26 hle26 hd26 hp26=>?_)
 exact zq524):a:=h
theorem zq723 (h:a:=by
 refine TL.pubO hO90 (.skip _ (.skip _ (.skip _ (.past _ .all)))) (fun p hp hm=>absurd (hM _ hm) (Nat.not_lt.2 (hf90 p hp))) (fun HP90 leP90 hT90=>?_)
 exact zq724):a:=h
theorem zq614 (h:a:=by
 refine TL.append (enc:=Str.cells) rfl rfl rfl hO37 (Src.own [s] (.here _) rfl rfl) (by simp;omega) rfl (.skip _ .all) rfl (fun a41 c41 ob41 hO41=>?_)
 exact zq615):a:=h
theorem zq940 (h:a:=by exact aK (bG (i:=((V.st.length:Nat):Int).toNat) (j:=8) rfl hW128.s (.skip _ (.skip _ (.skip _ (.skip _ (.past _ (.app _)))))) hatw16 rfl) rfl (zq941)):a:=h
theorem zq216 (h:a:=by
 refine TL.append (enc:=I64.cells) rfl rfl rfl (OwnSl.nil (enc:=I64.cells)) (Src.sl ha) (by simp;omega) rfl (.new _ rfl) rfl (fun a30 c30 ob30 hO30=>?_)
 exact zq217):a:=h
theorem zq98 (h:a:=by
 refine wX (.inr rfl) (ad rfl (RVal.tmp rfl)) (.there _ (.here _)) ⟨_,_,?_,rfl,rfl,?_,rfl⟩
 · exact zq83
 first | assumption | (simp;done) | (simp;assumption)):a:=h
theorem zq717 (h:a:=by
 refine nt (X:=[(b15,_),(b4,_)]) (b:=bw) rfl (ab rfl rfl rfl rfl) (mw role hp2 hf2 hr lb hfl) rfl (fun v90 H90 ob90 hle90 hf90 hp90=>?_)
 exact zq718):a:=h
theorem zq493 (h:a:=by exact aT [true,true,false] [(1,1),(6,1),(0,3),(2,5),(3,1),(5,3),(7,5),(4,2),(8,1),(9,1),(10,2),(11,1),(12,1)] kr kr (zq494)):a:=h
theorem zq516 (h:a:=by exact aT [true,true,false] [(1,1),(6,1),(0,3),(2,5),(3,1),(4,2),(5,3),(7,5),(8,1),(9,1),(10,2),(11,1),(12,1)] kr kr (zq517)):a:=h
theorem zq104 (h:a:=by
 refine wX (.inr rfl) (ad rfl (RVal.tmp rfl)) (.there _ (.there _ (.here _))) ⟨_,_,?_,rfl,rfl,?_,rfl⟩
 · exact zq83
 first | assumption | (simp;done) | (simp;assumption)):a:=h
theorem zq1101 (h:a:=by
 replace hA79:XA V67 V79 _ _ _:=⟨hA79.tm,hA79.st,hA79.nm,hA79.rm,(fun p hp=>hN79 p (by first | exact List.mem_append_right _ hp | exact List.mem_cons_of_mem _ hp))⟩
 exact zq1102):a:=h
theorem zq762 (h:a:=by exact aT [true,true,true,true] [(0,1),(1,4),(2,1),(3,1),(4,1),(5,4),(6,4),(7,1),(8,1),(9,3),(10,5),(11,1),(12,0)] kr kr (zq763)):a:=h
theorem zq152 (h:a:=by exact ax (.inr rfl) (ad rfl (RVal.cellA rfl (.here _) rfl)) (congrArg Value.agg (congrArg List.toArray (by unfold dD SStep.cells;first | (simp_all;rfl) | (simp_all;done))))):a:=h
theorem zq1063 (h:a:=by
 refine aE (X:=[(b11,_),(b8,_),(b4,_),(b15,_)]) (bd:=bd) rfl (ab rfl rfl rfl rfl) (bq 4 om hW60.d) rfl (fun v66 H66 at66 hle66 hd66 hp66=>?_)
 exact zq1064):a:=h
theorem zq1107 (h:a:=by
 refine aE (X:=[(b11,_),(b8,_),(b4,_),(b15,_)]) (bd:=bd) rfl (ab rfl rfl rfl rfl) (bq 4 om hW60.d) rfl (fun v66 H66 at66 hle66 hd66 hp66=>?_)
 exact zq1108):a:=h
theorem zq35 (h:a:=by
 refine gG ?_
 exact aS (k+1) ⟨by omega,by omega,wJ hI.2.2 om hc (by first | exact .inl g33 | exact .inr c39)⟩ ky (fun w hw=>hw) om):a:=h
theorem zq818 (h:a:=by
 refine aE (X:=[(b10,_),(b8,_),(b5,_),(F.bw,_)]) (bd:=F.bd) rfl (ab rfl rfl rfl rfl) (bq 3 om hW54.d) rfl (fun v60 H60 at60 hle60 hd60 hp60=>?_)
 exact zq819):a:=h
theorem zq393 (h:a:=by
 refine bX (i:=i.toNat) (j:=9) (a:=s) (a':={s with next:=2 * k+1 - s.next}) rfl rfl hOS (.skip _ (.skip _ (.skip _ .all))) hsS rfl rfl rfl rfl (fun obN eN hON=>?_)
 exact zq394):a:=h
theorem zq309 (h:a:=by
 refine TL.append (enc:=SWay.cells) rfl rfl rfl (OwnSl.nil (enc:=SWay.cells)) (Src.sl hso.w) (by have:=hso.w.max;simp;omega) rfl (.new _ rfl) rfl (fun a112 c112 ob112 hO112=>?_)
 exact zq310):a:=h
theorem zq404 (h:a:=by
 refine TL.append (enc:=SWay.cells) rfl rfl rfl (OwnSl.nil (enc:=SWay.cells)) (Src.sl hso.w) (by have:=hso.w.max;simp;omega) rfl (.new _ rfl) rfl (fun a112 c112 ob112 hO112=>?_)
 exact zq405):a:=h
theorem zq312 (h:a:=by
 refine bX (i:=i.toNat) (j:=8) (a:=s) (a':={s with ways:=s.ways,wp:=(a112,c112)}) rfl rfl hOS (.skip _ (.skip _ (.skip _ (.app _)))) hsS rfl rfl rfl rfl (fun obM eM hOM=>?_)
 exact zq313):a:=h
theorem zq251 (h:a:=by
 refine iq (i:=(k+1).toNat) (a':=sa) (by first | rfl | (rw [eobA];rfl)) rfl rfl rfl hobA (.skip _ (.skip _ (.skip _ .all))) (by rw [List.length_set];omega) rfl (fun obB eobB hobB=>?_)
 exact zq252):a:=h
theorem zq605 (h:a:=by
 refine TL.append (enc:=Str.cells) rfl rfl rfl (OwnSl.nil (enc:=Str.cells)) (Src.sl (hL.sliced (i:=0) (Nat.zero_le _) om)) (by simp;omega) rfl (.new _ rfl) rfl (fun a37 c37 ob37 hO37=>?_)
 exact zq606):a:=h
theorem zq394 (h:a:=by
 have hsN:(S.set i.toNat {s with next:=2 * k+1 - s.next})[i.toNat]? =some {s with next:=2 * k+1 - s.next}:=by rw [List.getElem?_set,if_pos rfl,if_pos (by first | omega | (rw [List.length_set];omega))]
 exact zq395):a:=h
theorem zq898 (h:a:=by
 refine aE (X:=[(b7,_),(b6,_),(F.bw,_)]) (bd:=F.bd) rfl (ab rfl rfl rfl rfl) (bq (t.arms.length:Int) om (hW107.dice (.refl _) hd115).d) rfl (fun v123 H123 at123 hle123 hd123 hp123=>?_)
 exact zq899):a:=h
theorem zq346 (h:a:=by
 have hOF:OwnSl 10 SStep.cells (.slice a19 q.steps.length c19) (S.set i.toNat ({s with next:=sig k s.next,ways:=Wy,wp:=(a112,c112)}:SStep)) obM:=hOM.recellL (by simp only [List.map_set,List.set_set,hce])
 exact zq347):a:=h
theorem zq822 (h:a:=by
 refine aA (F:=F) (V:={V54 with at_:=at60}) (m:=m+0+1) [(b10,_),(b8,_),(b5,_)] rfl rfl (ab rfl rfl rfl rfl) (eS _) (hW54.dice (.refl _) hd60) om rfl (fun v61 V61 hle61 hW61 hp61=>?_)
 exact zq823):a:=h
theorem zq313 (h:a:=by
 have hsM:(S.set i.toNat {s with ways:=s.ways,wp:=(a112,c112)})[i.toNat]? =some {s with ways:=s.ways,wp:=(a112,c112)}:=by rw [List.getElem?_set,if_pos rfl,if_pos (by first | omega | (rw [List.length_set];omega))]
 exact zq314):a:=h
theorem zq34 (h:a:=by
 refine ai (s:=33) rfl ?_ ?_<;>intro g33
 · refine fc ?_;exact aC rfl rfl (gn rfl rfl om hc) rfl (aO rfl rfl (ab rfl rfl rfl rfl) (Al c) rfl (zq36))
 refine pQ ?_;refine pP ?_
 exact zq35):a:=h
theorem zq742 (h:a:=by
 refine oF (X:=[(b17,_),(b15,_),(b4,_)]) (A:=(bw,_)::q.ob) rfl (ab rfl rfl rfl rfl) (BB role hp2 hN hn hq3 hq4 hq5 hT90 (by have:=Fe (p:=p) (s:=lb) set;omega)) rfl (fun v97 H97 A97 hle97 hp97=>?_)
 exact zq743):a:=h
theorem zq632 (h:a:=by
 refine ag rfl ?_ ?_<;>intro c32
 · refine l9 ?_;exact aI (aR (.inr rfl) (ad rfl (RVal.tmp rfl)) (by first | exact absurd q25 q11 | (rw [Es hI.2.2 hx (by simp [c18]) (by simpa using c32)];exact hL)))
 exact zq598):a:=h
theorem zq515 (h:a:=by
 refine qq ?_;refine aq (ae rfl hlb29 rfl om om) rfl (aK (aQ hlb29 hl2 rfl rfl) rfl (gg ?_))
 exact TF.nil (jP ⟨l1,l2,at31,H29⟩ ⟨hd31,hle24.trans hle29⟩ ky (fun w hw=>hw))):a:=h
theorem zq814 (h:a:=by
 have e57:V57.st.length=V.st.length+1+1:=by have h0:=hA50.sl;have h1:=hA52.sl;dsimp only at h0;rw [List.length_set] at h0;simp only [List.length_nil] at h0 h1;have h2:=hA57.sl;simp only [List.length_cons,List.length_nil] at h2;omega
 exact zq815):a:=h
theorem zq165 (h:a:=by exact ax (.inr rfl) (ad rfl (RVal.tmp rfl)) (congrArg Value.bool (by first | exact ways_3 c8 h0 h1 (by simp_all [sV]) | exact ways_3n c8 g13 | exact(ways_n c8 om).symm | exact(DH c8 k0 hx c91 hal).symm | exact(DG c8 hn7 k0 c59 hal).symm))):a:=h
theorem zq945 (h:a:=by
 refine TL.append (enc:=SWay.cells) rfl rfl rfl (OwnSl.nil (enc:=SWay.cells)) (Src.own [(⟨[],[],((V107.st.length:Nat):Int)⟩:SWay)] (.here _) rfl rfl) (by simp only [List.length_cons,List.length_nil];omega) rfl (.new _ rfl) rfl (fun a147 c147 ob147 hO147=>?_)
 exact zq946):a:=h
theorem zq407 (h:a:=by
 refine bX (i:=i.toNat) (j:=8) (a:={s with next:=2 * k+1 - s.next}) (a':={s with next:=2 * k+1 - s.next,ways:=s.ways,wp:=(a112,c112)}) (by rw [eN];rfl) rfl hON (.skip _ (.skip _ (.skip _ (.app _)))) hsN rfl rfl rfl rfl (fun obM eM hOM=>?_)
 exact zq408):a:=h
theorem zq956 (h:a:=by
 have hXw16:XI F ({V128 with st:=(V128).st.set ((V.st.length:Nat):Int).toNat ⟨3,[],[],[],[],(V102.tm.length:Int),none,0,0,none,0,0,a147,([(⟨[],[],((V107.st.length:Nat):Int)⟩:SWay)]:List SWay).length,c147, -1⟩,oS:=obSw16}) _:=hW128.set hOSw16
 exact zq957):a:=h
theorem zJ (h:a:=by exact ax (.inr rfl) (ad rfl (RVal.tmp rfl)) (congrArg (Value.int .i64) (by first | exact(step_1 h1).symm | exact(step_2 h1 h2).symm | exact(step_3 h1 h2 c88).symm | exact(step_4 h1 h2 c88 h4).symm | exact(step_5 h1 h2 c88 h4 c114).symm | exact(DV h1 h2 c88 h4 c114).symm))):a:=h
theorem zq891 (h:a:=by
 have hXw19:XI F ({V129 with st:=(V129).st.set ((V.st.length:Nat):Int).toNat ⟨5,[99],t.peer,[],[], -1,none,0,0,none,0,0,a147,(r.ws++[((⟨[],[],((V1.st.length:Nat):Int)⟩:SWay):SWay)]:List SWay).length,c147, -1⟩,oS:=obSw19}) _:=hW129.set hOSw19
 exact zq892):a:=h
theorem zq858 (h:a:=by
 have hXw12:XI F ({V85 with st:=(V85).st.set ((V.st.length:Nat):Int).toNat ⟨5,[99],t.peer,[],[], -1,none,0,0,none,0,0,a103,(r.ws++[((⟨x.label,vnm (V1.names+1),((V1.st.length:Nat):Int)⟩:SWay):SWay)]:List SWay).length,c103, -1⟩,oS:=obSw12}) _:=hW85.set hOSw12
 exact zq859):a:=h
theorem zq812 (h:a:=by
 have hXw9:XI F ({V59 with st:=(V59).st.set ((V.st.length:Nat):Int).toNat ⟨3,[],[],[],[],(V11.tm.length:Int),none,0,0,none,0,0,a78,([⟨[],[],((V16.st.length:Nat):Int)⟩,⟨[],[],((V57.st.length:Nat):Int)⟩]:List SWay).length,c78, -1⟩,oS:=obSw9}) _:=hW59.set hOSw9
 exact zq813):a:=h
theorem zq997 (h:a:=by
 refine TL.append (enc:=SWay.cells) rfl rfl rfl hO147 (Src.own [(⟨[],[],((V128.st.length:Nat):Int)⟩:SWay)] (.here _) rfl rfl) (by simp only [List.length_append,List.length_cons,List.length_nil];omega) rfl (.skip _ (.skip _ (.skip _ (.skip _ (.app _))))) rfl (fun a173 c173 ob173 hO173=>?_)
 exact zq998):a:=h
theorem zq1060 (h:a:=by
 refine TL.append (enc:=SWay.cells) rfl rfl rfl hO147 (Src.own [(⟨[],[],((V128.st.length:Nat):Int)⟩:SWay)] (.here _) rfl rfl) (by simp only [List.length_append,List.length_cons,List.length_nil];omega) rfl (.skip _ (.skip _ (.skip _ (.skip _ (.app _))))) rfl (fun a173 c173 ob173 hO173=>?_)
 exact zq1061):a:=h
theorem zq9 (h:a:=by
 refine TC.loop (V:=fun k=>[(3,.int .i64 k)]) (K:=[(0,_),(2,_)]) (L:=fun k=>_) (I:=fun k=>1≤k∧k≤s.length∧(s.drop 1).all eW=(s.drop k.toNat).all eW) (μ:=fun k=>(s.length - k).toNat) (i:=(1:Int)) ky ⟨by omega,by omega,rfl⟩ (fun w hw=>hw) (fun k hI=>?_)
 exact zq10):a:=h
theorem zq20 (h:a:=by exact aR (.inr rfl) (ad rfl (RVal.tmp rfl)) ⟨congrArg Value.bool (by first | exact(Cs (by first | exact .inl g7 | exact .inr (.inl g12) | exact .inr (.inr (.inl ⟨c0,hc0,g18⟩)) | exact .inr (.inr (.inr c21)))).symm | exact(y8 hn hI.2.2 c25).symm | exact(y9 hn hI.2.2 om hc g33 c39).symm),rfl⟩):a:=h
theorem zq1008 (h:a:=by
 have hXw18:XI F ({V154 with st:=(V154).st.set ((V.st.length:Nat):Int).toNat ⟨3,[],[],[],[],(V102.tm.length:Int),none,0,0,none,0,0,a173,([(⟨[],[],((V107.st.length:Nat):Int)⟩:SWay),(⟨[],[],((V128.st.length:Nat):Int)⟩:SWay)]:List SWay).length,c173, -1⟩,oS:=obSw18}) _:=hW154.set hOSw18
 exact zq1009):a:=h
theorem zq1069 (h:a:=by
 refine aA (F:=⟨b15,bd,.slice psa ps.length psc,ps,cy,.slice none 0 0,[],.slice none 0 0,[],0,dl⟩) (V:={V60 with at_:=at66}) (m:=20 * k.toNat+12+1) [(b11,_),(b8,_),(b4,_)] rfl rfl (ab rfl rfl rfl rfl) (eS _) (hW60.dice (.refl _) hd66) om rfl (fun v67 V67 hle67 hW67 hp67=>?_)
 exact zq1070):a:=h
theorem zq1113 (h:a:=by
 refine aA (F:=⟨b15,bd,.slice psa ps.length psc,ps,cy,.slice none 0 0,[],.slice none 0 0,[],0,dl⟩) (V:={V60 with at_:=at66}) (m:=20 * k.toNat+12+1) [(b11,_),(b8,_),(b4,_)] rfl rfl (ab rfl rfl rfl rfl) (eS _) (hW60.dice (.refl _) hd66) om rfl (fun v67 V67 hle67 hW67 hp67=>?_)
 exact zq1114):a:=h
theorem zq1161 (h:a:=by
 refine TL.append (enc:=SStep.cells) rfl rfl rfl hOS (Src.own [s2] (.here _) rfl (by subst hs2e;show _=SStep.cells _++[];rw [List.append_nil];unfold SStep.cells;simp only [hCn,hWn];rfl)) (by simp;omega) rfl (.skip _ (.skip _ (.skip _ (.skip _ (.skip _ (.skip _ (.past ob2 .all))))))) rfl (fun a137 c137 ob137 hO137=>?_)
 exact zq1162):a:=h
theorem zq408 (h:a:=by
 have hsM:((S.set i.toNat {s with next:=2 * k+1 - s.next}).set i.toNat {s with next:=2 * k+1 - s.next,ways:=s.ways,wp:=(a112,c112)})[i.toNat]? =some {s with next:=2 * k+1 - s.next,ways:=s.ways,wp:=(a112,c112)}:=by rw [List.getElem?_set,if_pos rfl,if_pos (by first | omega | (rw [List.length_set];omega))]
 exact zq409):a:=h
theorem zq921 (h:a:=by
 have hw16:XA V V128 ([⟨1,[],r99,[], -1, -1⟩,⟨0,[110],0,[], -1, -1⟩,⟨12,[],0,[],(V.tm.length:Int),(V100.tm.length:Int)⟩]++us128) (⟨3,[],[],[],[],(V102.tm.length:Int),none,0,0,none,0,0,none,0,0, -1⟩::ss128) nm128:=((hA100.trans (hA102.trans (hA103.trans (hA107.trans (hA128)))))).cast sq sq om
 exact zq922):a:=h
theorem zq180 (h:a:=by
 refine zm9 ?_;refine aO rfl rfl (ab rfl rfl rfl rfl) (bL x.label) rfl (uA ?_)
 refine ai (s:=81) rfl ?_ ?_<;>intro g81
 ·
  refine yg ?_;refine eC rfl rfl rfl (eC rfl rfl rfl (dh ?_));refine dN ?_
  exact aV rfl (by unfold dQ;simp_all) ky
 exact zq174):a:=h
theorem zq582 (h:a:=by
 refine ag rfl ?_ ?_<;>intro c78
 ·
  refine l9 ?_;refine aI ?_
  have hEq:=vA (sets:=rows.map (·.l)) hno (by rw [List.length_map];exact fun j hj=>hI2 j om)
  rw [List.length_map,if_pos om] at hEq
  exact aZ (.inr rfl) (cq rfl (RVal.tmp rfl) (RVal.tmp rfl)) (fun w hw=>hw) ⟨_,_,rows,rfl,hO,hrw1,hrl,by rw [hEq],by rw [hEq]⟩
 exact zq583):a:=h
theorem zq356 (h:a:=by
 refine TC.cond rfl ?_ ?_<;>intro c146
 · exact zq357
 simp only [Bool.or_eq_false_iff,decide_eq_false_iff_not] at c146
 refine gG ?_
 exact aH (i:=(j,Wy)) (j+1,Wy) .nilFunc ow H1 ⟨o2q,hOw,hW2.skip j0 hwy om om⟩ ky (fun w hw=>hw) om):a:=h
theorem zq974 (h:a:=by
 have hw18:XA V V154 ([⟨1,[],r99,[], -1, -1⟩,⟨0,[110],0,[], -1, -1⟩,⟨12,[],0,[],(V.tm.length:Int),(V100.tm.length:Int)⟩]++(us128++us154)) (⟨3,[],[],[],[],(V102.tm.length:Int),none,0,0,none,0,0,a147,([(⟨[],[],((V107.st.length:Nat):Int)⟩:SWay)]:List SWay).length,c147, -1⟩::(ss128++ss154)) (nm128+nm154):=((hSw16.trans (hA154))).cast sq sq om
 exact zq975):a:=h
theorem zq551 (h:a:=by
 refine TC.loop (V:=fun m=>[(9,.int .i64 m)]) (K:=[(0,_),(4,_),(5,_),(7,_)]) (L:=fun m=>_) (I:=fun m=>(0≤m∧m≤rows.length)∧∀j:Nat,j<m.toNat→(rows.map (·.l))[j]? ≠some (dS p role (cQ p role frm))) (μ:=fun m=>(rows.length - m).toNat) (i:=(0:Int)) ky ⟨o2q,fun j h=>absurd h om⟩ (fun w hw=>hw) (fun m hI=>?_)
 exact zq552):a:=h
theorem zq1036 (h:a:=by
 have hw18:XA V V154 ([⟨1,[],r99,[], -1, -1⟩,⟨0,[110],0,[], -1, -1⟩,⟨12,[],0,[],(V.tm.length:Int),(V100.tm.length:Int)⟩]++(us128++us154)) (⟨3,[],[],[],[],(V102.tm.length:Int),none,0,0,none,0,0,a147,([(⟨[],[],((V107.st.length:Nat):Int)⟩:SWay)]:List SWay).length,c147, -1⟩::(ss128++ss154)) (nm128+nm154):=((hSw16.trans (hA154))).cast sq sq om
 exact zq1037):a:=h
theorem zq951 (h:a:=by
 refine bX (a:=⟨3,[],[],[],[],(V102.tm.length:Int),none,0,0,none,0,0,none,0,0, -1⟩) (a':=⟨3,[],[],[],[],(V102.tm.length:Int),none,0,0,none,0,0,a147,([(⟨[],[],((V107.st.length:Nat):Int)⟩:SWay)]:List SWay).length,c147, -1⟩) rfl rfl hW128.s (.skip _ (.skip _ (.skip _ (.past ob147 (.skip _ (.skip _ (.past _ (.app _)))))))) hatw16 rfl rfl rfl rfl (fun obSw16 hogbw16 hOSw16=>?_)
 exact zq952):a:=h
theorem zq1033 (h:a:=by
 have hB9:=two_blk (r:=V.room) (names:=V.names) (n:=V.st.length) (t:=V.tm.length) (a:=((V107.st.length:Nat):Int)) (b:=((V128.st.length:Nat):Int)) (tm:=(V102.tm.length:Int)) (rb:=(V100.tm.length:Int)) (x:=r99) (wp:=(a173,c173)) hS128 hS154 om om om om om om om om om om om om ⟨hdp.1,by omega⟩ om
 exact zq1034):a:=h
theorem zq844 (h:a:=by
 refine bX (a:=⟨5,[99],t.peer,[],[], -1,none,0,0,none,0,0,r.a,r.ws.length,r.c, -1⟩) (a':=⟨5,[99],t.peer,[],[], -1,none,0,0,none,0,0,a103,(r.ws++[((⟨x.label,[],((V1.st.length:Nat):Int)⟩:SWay):SWay)]:List SWay).length,c103, -1⟩) rfl rfl hW85.s (.skip _ (.skip _ (.skip _ (.skip _ (.past ob103 (.skip _ (.skip _ (.past _ (.app _))))))))) hatw12 rfl rfl rfl rfl (fun obSw12 hogbw12 hOSw12=>?_)
 exact zq845):a:=h
theorem zq1171 (h:a:=by
 refine zm416 ?_
 exact aH (i:=(k,(m,o),u1,ob1,S)) (k+1,(m2,o2),u2,ob2,S++[s2]) _ ob137 HPow ⟨o2q,hle,⟨hm2,by simp only at hz4;show o2.length≤3355443200 * (k+1).toNat;omega⟩,hO2,hO137,by simp only [List.length_append,List.length_cons,List.length_nil];omega,hSt.snoc hs2,by rw [List.map_append];exact hT2⟩ ky (fun w hw=>hw.drop.drop) om):a:=h
theorem zq886 (h:a:=by
 refine bX (a:=⟨5,[99],t.peer,[],[], -1,none,0,0,none,0,0,r.a,r.ws.length,r.c, -1⟩) (a':=⟨5,[99],t.peer,[],[], -1,none,0,0,none,0,0,a147,(r.ws++[((⟨[],[],((V1.st.length:Nat):Int)⟩:SWay):SWay)]:List SWay).length,c147, -1⟩) rfl rfl hW129.s (.skip _ (.skip _ (.skip _ (.skip _ (.skip _ (.past ob147 (.skip _ (.skip _ (.past _ (.app _)))))))))) hatw19 rfl rfl rfl rfl (fun obSw19 hogbw19 hOSw19=>?_)
 exact zq887):a:=h
theorem zq483 (h:a:=by
 refine aW (V:=fun(p:Nat×Nat) v ob H1=>[(3,.int .u64 (p.1:Int)),(4,v)]) (K:=[(0,_),(2,_)]) (L:=fun(p:Nat×Nat) v ob H1=>St [] w0 H H ob) (I:=fun(p:Nat×Nat) v ob H1=>∃o:Str,OwnSl 1 U8.cells v o ob∧DigI n.natAbs p.1 p.2 o) (μ:=fun(p:Nat×Nat)=>p.1+p.2) (n.natAbs,1) (.slice none 0 0) [] H ky ⟨[],OwnSl.nil,DigI.zero h0 h1⟩ (fun w hw=>hw) (fun p v ob H1 hI=>?_)
 exact zq484):a:=h
theorem zq536 (h:a:=by
 refine aw rfl (aE (X:=[(b9,_),(b8,_)]) (bd:=bd) rfl (ab rfl rfl rfl rfl) (bq 2 om hd26) rfl (fun v31 H31 at31 hle31 hd31 hp31=>?_))
 obtain⟨eH31,r31,rfl,hr31⟩:=hp31
 replace eH31:=eH31.symm;subst eH31
 have hra31:=hr31.1
 have hrb31:=hr31.2.1 om
 obtain⟨l2,hl2⟩:=m8 (i:=2+r31) om om
 have hl4:labelsL.length=4:=rfl
 exact az (S1 (S1 SN)) (hle24.trans (hle29)) (zq515)):a:=h
theorem zq1151 (h:a:=by
 refine TC.region (nv ?_)
 exact aH (i:=(k,m,o)) (k+1,m.set x.toNat (o.length:Int),o++[mvT m t]) _ ob51 H1 ⟨o2q,hle,by rw [List.length_set];exact hml,hO51.cast (by unfold mvT;simp [*]),by simp only [List.length_append,List.length_cons,List.length_nil];omega,tg_next k0 hk ht hT⟩ ky (fun w hw=>by have hw2:=hw.drop.drop;simp only [wO] at hw2;exact hw2) om):a:=h
theorem zq853 (h:a:=by
 refine bX (a:=⟨5,[99],t.peer,[],[], -1,none,0,0,none,0,0,r.a,r.ws.length,r.c, -1⟩) (a':=⟨5,[99],t.peer,[],[], -1,none,0,0,none,0,0,a103,(r.ws++[((⟨x.label,vnm (V1.names+1),((V1.st.length:Nat):Int)⟩:SWay):SWay)]:List SWay).length,c103, -1⟩) rfl rfl hW85.s (.skip _ (.skip _ (.skip _ (.skip _ (.past ob103 (.skip _ (.skip _ (.past _ (.app _))))))))) hatw12 rfl rfl rfl rfl (fun obSw12 hogbw12 hOSw12=>?_)
 exact zq854):a:=h
theorem zq178 (h:a:=by
 refine ai (s:=85) rfl ?_ ?_<;>intro g85
 ·
  have q85:=aU g85
  refine zm9 ?_;refine aO rfl rfl (ab rfl rfl rfl rfl) (bL x.name) rfl (fc ?_);refine dN ?_
  exact aV rfl (by unfold dQ;simp_all) ky
 have q85:=aP g85
 refine eg ?_;refine gH ?_
 exact aV rfl (by unfold dQ;simp_all) ky):a:=h
theorem zq451 (h:a:=by
 refine TC.cond rfl ?_ ?_<;>intro c146
 · exact zq452
 simp only [Bool.or_eq_false_iff,decide_eq_false_iff_not] at c146
 refine gG ?_
 exact aH (i:=(j,Wy)) (j+1,Wy) .nilFunc ow H1 ⟨o2q,hOw,hW2.skip j0 hwy om om⟩ ky (fun w hw=>hw) om):a:=h
theorem zq514 (h:a:=by
 refine aE (X:=[(b9,_),(b8,_)]) (bd:=bd) rfl (ab rfl rfl rfl rfl) (bq 2 om hd26) rfl (fun v31 H31 at31 hle31 hd31 hp31=>?_)
 obtain⟨eH31,r31,rfl,hr31⟩:=hp31
 replace eH31:=eH31.symm;subst eH31
 have hra31:=hr31.1
 have hrb31:=hr31.2.1 om
 obtain⟨l2,hl2⟩:=m8 (i:=2+r31) om om
 have hl4:labelsL.length=4:=rfl
 exact az (S1 (S1 SN)) (hle24.trans (hle29)) (aK (aQ hla24 hl1 rfl rfl) rfl (zq515))):a:=h
theorem zq348 (h:a:=by
 have hSk:StepOk HPow ({s with next:=sig k s.next,ways:=Wy,wp:=(a112,c112)}:SStep):=⟨hso.a,hso.c,hso.cs,by show RdSl _ 3 SWay.cells (.slice a112 Wy.length c112) Wy;rw [hWl];exact hRW⟩
 refine zm0 ?_;refine nv ?_
 exact aH (i:=(i,S)) (i+1,S.set i.toNat ({s with next:=sig k s.next,ways:=Wy,wp:=(a112,c112)}:SStep)) .nilFunc obM HPow ⟨o2q,hle,hOF,hT.put i0 hW hStT hSk⟩ ky (fun w hw=>hw) om):a:=h
theorem zq644 (h:a:=by
 refine ag rfl ?_ ?_<;>intro c52
 ·
  refine xn ?_
  have hE:bD p role (rows.map (·.l)) set=((0,[],[]),805,rows.map (·.l)):=by unfold bD;rw [if_neg om,if_neg h34,if_neg h48,if_pos om]
  exact aZ (.inr rfl) (cq rfl (RVal.cellA rfl (.here _) rfl) (RVal.tmp rfl)) (fun w hw=>by rw [List.append_nil];exact hw.drop) ⟨_,ob,rows,.slice none 0 0,[],rfl,hO,hrw,hrl,by rw [hE],by rw [hE];exact OwnSl.nil,by rw [hE];rfl⟩
 exact zq645):a:=h
theorem zq1096 (h:a:=by
 refine aA (F:=⟨b15,bd,.slice psa ps.length psc,ps,cy,.slice none 0 0,[],.slice none 0 0,[],0,dl⟩) (V:={V67 with oN:=(b68,[.int .i64 (V47.tm.length:Int),.int .i64 (V60.tm.length:Int)])::(V67).oN}) (m:=20 * k.toNat+12+1+1) [(b11,_),(b8,_),(b4,_)] rfl rfl (ab rfl rfl rfl rfl) (fe ⟨7,[],[],[],(p.name++rr), -1,some ⟨b68,0,none⟩,2,2,none,0,0,none,0,0, -1⟩) hW67.pile om rfl (fun v79 V79 hle79 hW79 hp79=>?_)
 exact zq1097):a:=h
theorem zq1140 (h:a:=by
 refine aA (F:=⟨b15,bd,.slice psa ps.length psc,ps,cy,.slice none 0 0,[],.slice none 0 0,[],0,dl⟩) (V:={V67 with oN:=(b68,[.int .i64 (V47.tm.length:Int),.int .i64 (V60.tm.length:Int)])::(V67).oN}) (m:=20 * k.toNat+12+1+1) [(b11,_),(b8,_),(b4,_)] rfl rfl (ab rfl rfl rfl rfl) (fN ⟨6,[],[],[],(p.name++rr), -1,some ⟨b68,0,none⟩,2,2,none,0,0,none,0,0, -1⟩) hW67.pile om rfl (fun v76 V76 hle76 hW76 hp76=>?_)
 exact zq1141):a:=h
theorem zq911 (h:a:=by
 refine aA (F:=F) (V:={{V107 with at_:=at115} with at_:=at123}) (m:=m+1+1+1+1) [(b7,_),(b6,_)] rfl rfl (ab rfl rfl rfl rfl) (re hG hF hTx turn r115 deep h0 h1 (fun t2 h2=>by rw [htx] at h2;cases h2;have h9:=hr115.1;have h8:=hr115.2.1 (by have:=hTxt.a1 om;omega);exact⟨by omega,by omega,by omega⟩) (ih hdp.1 om) hK ⟨hdp.1,by omega⟩) ((hW107.dice (.refl _) hd115).dice (.refl _) hd123) om rfl (fun v128 V128 hle128 hW128 hp128=>?_)
 exact zq912):a:=h
theorem zq807 (h:a:=by
 refine bX (a:=⟨3,[],[],[],[],(V11.tm.length:Int),none,0,0,none,0,0,a40,([⟨[],[],((V16.st.length:Nat):Int)⟩]:List SWay).length,c40, -1⟩) (a':=⟨3,[],[],[],[],(V11.tm.length:Int),none,0,0,none,0,0,a78,([⟨[],[],((V16.st.length:Nat):Int)⟩,⟨[],[],((V57.st.length:Nat):Int)⟩]:List SWay).length,c78, -1⟩) rfl rfl hW59.s (.skip _ (.skip _ (.skip _ (.skip _ (.past ob78 (.skip _ (.skip _ (.past _ (.app _))))))))) hatw9 rfl rfl rfl rfl (fun obSw9 hogbw9 hOSw9=>?_)
 exact zq808):a:=h
theorem zq654 (h:a:=by
 refine TC.loop (V:=fun k=>[(11,.int .i64 k)]) (K:=[(0,_),(1,_),(4,_),(5,_),(6,_),(7,_),(9,_)]) (L:=fun k=>St M w0 H H40 ((b4,[.int .i64 0,gs [],.slice none 0 0])::(bw,WK p role _)::ob)) (I:=fun k=>(0≤k∧k≤(cY p set).length)∧(cY p set).all (k8 p set)=((cY p set).drop k.toNat).all (k8 p set)) (μ:=fun k=>((cY p set).length - k).toNat) (i:=(0:Int)) ky ⟨o2q,rfl⟩ (fun w hw=>hw) (fun k hI=>?_)
 exact zq655):a:=h
theorem zq355 (h:a:=by
 refine bO (decide (w.next=k)||decide (w.next=k+1)) 146 [(4,_),(5,_),(6,_),(7,_),(10,_),(11,_),(12,_),(72,_),(73,_),(74,_),(77,_),(78,_),(79,_),(80,_),(95,_),(107,_),(108,_),(109,_),(110,_),(111,_),(112,_),(113,_),(114,_),(115,_),(116,_),(117,_),(118,_),(119,_),(120,_),(121,_)] ky ?_ ?_
 · exact zq367
 exact zq356):a:=h
theorem zq622 (h:a:=by
 refine zm0 ?_
 refine TL.run (Ch rfl rfl om om) rfl (TL.append (enc:=Str.cells) rfl rfl rfl hO41 (Src.sl (hL.sliced (j:=l.length) om (Nat.le_refl _))) (by simp;omega) rfl (.skip _ .all) rfl (fun a46 c46 ob46 hO46=>?_))
 refine ei ?_
 refine TX.pubO hO46 (.skip _ .all) sq (fun H1 hle hR=>?_)
 exact aR (.inr rfl) (ad rfl (RVal.tmp rfl)) (by first | exact absurd q25 q11 | (rw [put_mid hI.2.2 hx (by simp [c18]) (by simpa using c32)];exact hR) | (rw [put_end hI.2.2 om];exact hR))):a:=h
theorem zq487 (h:a:=by
 refine bO (decide (0<p.1)||decide (o.length=0)) 17 [(0,_),(2,_),(3,_),(4,_)] ky ?_ ?_
 ·
  refine pO ?_
  refine ai (s:=13) rfl ?_ ?_<;>intro g13
  ·
   have q13:=of_decide_eq_true g13
   refine ny ?_
   exact aV rfl (by first | exact dgo_1 g13 | exact dgo_2 g13) ky
  have q13:=of_decide_eq_false g13
  refine cK ?_;refine aC rfl rfl (bE rfl rfl hO) rfl (gH ?_)
  exact aV rfl (by first | exact dgo_1 g13 | exact dgo_2 g13) ky
 exact zq488):a:=h
theorem zq1003 (h:a:=by
 refine bX (a:=⟨3,[],[],[],[],(V102.tm.length:Int),none,0,0,none,0,0,a147,([(⟨[],[],((V107.st.length:Nat):Int)⟩:SWay)]:List SWay).length,c147, -1⟩) (a':=⟨3,[],[],[],[],(V102.tm.length:Int),none,0,0,none,0,0,a173,([(⟨[],[],((V107.st.length:Nat):Int)⟩:SWay),(⟨[],[],((V128.st.length:Nat):Int)⟩:SWay)]:List SWay).length,c173, -1⟩) rfl rfl hW154.s (.skip _ (.skip _ (.skip _ (.skip _ (.past ob173 (.skip _ (.skip _ (.past _ (.app _))))))))) hatw18 rfl rfl rfl rfl (fun obSw18 hogbw18 hOSw18=>?_)
 exact zq1004):a:=h
theorem zq1188 (h:a:=by
 refine fo ?_
 refine aD rfl rfl rfl rfl (fun b38=>?_)
 refine TL.append (enc:=STurn.cells) rfl rfl rfl hO (Src.own [⟨1,x.to,x.arms,x.ap⟩] (.here _) rfl rfl) (by simp;omega) rfl (.skip _ (.skip _ (.skip _ (.skip _ (.skip _ (.skip _ .all)))))) rfl (fun a39 c39 ob39 hO39=>?_)
 refine zm6 ?_;refine mn ?_;refine qr ?_
 exact aH (k+1) _ ob39 H ⟨o2q,hO39.cast (by rw [bQ k0 hx];congr 2;first | exact(BE (by simp_all)).symm | exact(BF (by simp_all)).symm)⟩ ky (fun w hw=>hw.drop.drop.drop) om):a:=h
theorem zq955 (h:a:=by
 have hSw16:XA V ({V128 with st:=(V128).st.set ((V.st.length:Nat):Int).toNat ⟨3,[],[],[],[],(V102.tm.length:Int),none,0,0,none,0,0,a147,([(⟨[],[],((V107.st.length:Nat):Int)⟩:SWay)]:List SWay).length,c147, -1⟩,oS:=obSw16}) _ (⟨3,[],[],[],[],(V102.tm.length:Int),none,0,0,none,0,0,a147,([(⟨[],[],((V107.st.length:Nat):Int)⟩:SWay)]:List SWay).length,c147, -1⟩::_) _:=hw16.set (b:=⟨3,[],[],[],[],(V102.tm.length:Int),none,0,0,none,0,0,a147,([(⟨[],[],((V107.st.length:Nat):Int)⟩:SWay)]:List SWay).length,c147, -1⟩) (o:=obSw16)
 exact zq956):a:=h
theorem zq890 (h:a:=by
 have hSw19:XA V ({V129 with st:=(V129).st.set ((V.st.length:Nat):Int).toNat ⟨5,[99],t.peer,[],[], -1,none,0,0,none,0,0,a147,(r.ws++[((⟨[],[],((V1.st.length:Nat):Int)⟩:SWay):SWay)]:List SWay).length,c147, -1⟩,oS:=obSw19}) _ (⟨5,[99],t.peer,[],[], -1,none,0,0,none,0,0,a147,(r.ws++[((⟨[],[],((V1.st.length:Nat):Int)⟩:SWay):SWay)]:List SWay).length,c147, -1⟩::_) _:=hw19.set (b:=⟨5,[99],t.peer,[],[], -1,none,0,0,none,0,0,a147,(r.ws++[((⟨[],[],((V1.st.length:Nat):Int)⟩:SWay):SWay)]:List SWay).length,c147, -1⟩) (o:=obSw19)
 exact zq891):a:=h
theorem zq848 (h:a:=by
 have hSw12:XA V ({V85 with st:=(V85).st.set ((V.st.length:Nat):Int).toNat ⟨5,[99],t.peer,[],[], -1,none,0,0,none,0,0,a103,(r.ws++[((⟨x.label,[],((V1.st.length:Nat):Int)⟩:SWay):SWay)]:List SWay).length,c103, -1⟩,oS:=obSw12}) _ (⟨5,[99],t.peer,[],[], -1,none,0,0,none,0,0,a103,(r.ws++[((⟨x.label,[],((V1.st.length:Nat):Int)⟩:SWay):SWay)]:List SWay).length,c103, -1⟩::_) _:=hw12.set (b:=⟨5,[99],t.peer,[],[], -1,none,0,0,none,0,0,a103,(r.ws++[((⟨x.label,[],((V1.st.length:Nat):Int)⟩:SWay):SWay)]:List SWay).length,c103, -1⟩) (o:=obSw12)
 exact zq849):a:=h
theorem zq490 (h:a:=by
 refine aF rfl rfl rfl rfl (fun b36=>?_)
 refine aw rfl (TL.append (enc:=SArm.cells) rfl rfl rfl hO (Src.own [⟨lb,k31,nm31,r34⟩] (.here _) rfl rfl) (by have:=hI5;simp only [List.length_cons,List.length_nil];omega) rfl (.skip _ (.skip _ .all)) rfl (fun a37 c37 ob37 hO37=>?_))
 refine az SN hle22 (zm5 ?_);refine TF.nil (iY ?_)
 exact aH (p.1+1,at34) _ ob37 H22 ⟨o2q,hd34,hI3.trans hle22,_,hO37,by simp only [List.length_append,List.length_cons,List.length_nil];omega,hI6.snoc hI5 hc31 ⟨hra34,hrb34⟩ hlb⟩ ky (fun w hw=>hw.drop) om):a:=h
theorem zq345 (h:a:=by
 refine bu (af (TC.region (TL.pubO hOw (.skip _ (.skip _ (.skip _ (.past _ .all)))) sq (fun HPow lePow hRW=>?_))))
 replace hle:=hle.trans lePow
 replace hT:=hT.le lePow
 replace hso:=hso.le lePow
 refine aM (L':=(b6,_)::((b4,_)::((b2,_)::(obM)))) (fE [(b6,_),(b4,_),(b2,_)] (A:=obM)) ?_
 have hWE:=hW2.end_ j0 om
 have hsg:sig k s.next=s.next:=eY om om
 have hce:SStep.cells ({s with next:=sig k s.next,ways:=Wy,wp:=(a112,c112)}:SStep)=SStep.cells {s with ways:=s.ways,wp:=(a112,c112)}:=by unfold SStep.cells;dsimp only;rw [hWl,hsg]
 exact zq346):a:=h
theorem zq83 (h:a:=by
 first
  | exact su hx (by simp_all)
  | exact ku hx hg o0 o1
  | exact ku hx hg o0 (by first | exact wG c52_1 c54_1 | exact gN c52_1 c54_1 | exact Ai c52_1 g57_1 | exact Ah c52_1 g62_1 | exact ij c52_1 g57_1 g62_1 (e1.trans (by simp_all)))
  | exact ku hx hg o0 (by first | exact wG c52_1 c54_1 | exact gN c52_1 c54_1 | exact Ai c52_1 g57_1 | exact Ah c52_1 g62_1 | exact ij c52_1 g57_1 g62_1 (e2.trans (by simp_all)))
  | exact sx hx hg (by first | exact wG c52_0 c54_0 | exact gN c52_0 c54_0 | exact Ai c52_0 g57_0 | exact Ah c52_0 g62_0 | exact ij c52_0 g57_0 g62_0 (e1.trans (by simp_all)))):a:=h
theorem zq230 (h:a:=by
 refine aW (V:=fun k v ob H1=>[(3,v),(34,.int .i64 k)]) (K:=[(2,_),(32,_),(33,_)]) (L:=fun k v ob H1=>St [] w0 H H ((b1,_)::ob)) (I:=fun k v ob H1=>(0≤k∧k≤s.casts.length)∧OwnSl 1 I64.cells v (jT s++(s.casts.take k.toNat).flatMap (·.args)) ob∧((s.casts.take k.toNat).flatMap (·.args)).length≤6 * k.toNat) (μ:=fun k=>(s.casts.length - k).toNat) 0 _ ob30 H ky ⟨o2q,hO30.cast (by first | (rw [wo h8];simp) | (rw [wq c17 c21];simp) | (rw [kK h8 (.inr c21)];simp) | (rw [kK h8 (.inl c17)];simp)),by simp⟩ (fun w hw=>hw) (fun k v ob H1 hI=>?_)
 exact zq231):a:=h
theorem zq443 (h:a:=by
 refine TL.pubO hOw (.skip _ (.skip _ (.skip _ (.past _ .all)))) sq (fun HPow lePow hRW=>?_)
 replace hle:=hle.trans lePow
 replace hT:=hT.le lePow
 replace hso:=hso.le lePow
 refine aM (L':=(b6,_)::((b4,_)::((b2,_)::(obM)))) (fE [(b6,_),(b4,_),(b2,_)] (A:=obM)) ?_
 have hWE:=hW2.end_ j0 om
 have hsg:sig k s.next=(2 * k+1 - s.next):=by unfold sig;rw [if_pos om]
 have hce:SStep.cells ({s with next:=sig k s.next,ways:=Wy,wp:=(a112,c112)}:SStep)=SStep.cells {s with next:=2 * k+1 - s.next,ways:=s.ways,wp:=(a112,c112)}:=by unfold SStep.cells;dsimp only;rw [hWl,hsg]
 exact zq346):a:=h
theorem zq857 (h:a:=by
 have hSw12:XA V ({V85 with st:=(V85).st.set ((V.st.length:Nat):Int).toNat ⟨5,[99],t.peer,[],[], -1,none,0,0,none,0,0,a103,(r.ws++[((⟨x.label,vnm (V1.names+1),((V1.st.length:Nat):Int)⟩:SWay):SWay)]:List SWay).length,c103, -1⟩,oS:=obSw12}) _ (⟨5,[99],t.peer,[],[], -1,none,0,0,none,0,0,a103,(r.ws++[((⟨x.label,vnm (V1.names+1),((V1.st.length:Nat):Int)⟩:SWay):SWay)]:List SWay).length,c103, -1⟩::_) _:=hw12.set (b:=⟨5,[99],t.peer,[],[], -1,none,0,0,none,0,0,a103,(r.ws++[((⟨x.label,vnm (V1.names+1),((V1.st.length:Nat):Int)⟩:SWay):SWay)]:List SWay).length,c103, -1⟩) (o:=obSw12)
 exact zq858):a:=h
theorem zq450 (h:a:=by
 refine bO (decide (w.next=k)||decide (w.next=k+1)) 146 [(4,_),(5,_),(6,_),(7,_),(10,_),(11,_),(12,_),(72,_),(73,_),(74,_),(77,_),(78,_),(79,_),(80,_),(95,_),(96,_),(97,_),(98,_),(99,_),(100,_),(101,_),(102,_),(103,_),(104,_),(105,_),(106,_),(107,_),(108,_),(109,_),(110,_),(111,_),(112,_),(113,_),(114,_),(115,_),(116,_),(117,_),(118,_),(119,_),(120,_),(121,_)] ky ?_ ?_
 · exact zq462
 exact zq451):a:=h
theorem zq964 (h:a:=by
 refine cI (F:=F) (V:={V128 with st:=(V128).st.set ((V.st.length:Nat):Int).toNat ⟨3,[],[],[],[],(V102.tm.length:Int),none,0,0,none,0,0,a147,([(⟨[],[],((V107.st.length:Nat):Int)⟩:SWay)]:List SWay).length,c147, -1⟩,oS:=obSw16}) (m:=m+1+1+1+1+((K+20))) [(b146,_),(b7,_),(b6,_)] ob147 rfl rfl (ab rfl rfl rfl rfl) (re hG hF hTx turn r123 deep h0 h1 (fun t2 h2=>by rw [htx] at h2;cases h2;have h9:=hr123.1;have h8:=hr123.2.1 (by have:=hTxt.a1 om;omega);exact⟨by omega,by omega,by omega⟩) (ih hdp.1 om) hK ⟨hdp.1,by omega⟩) hXw16 om rfl (fun v154 V154 hle154 hW154 hp154=>?_)
 exact zq965):a:=h
theorem zq811 (h:a:=by
 have hSw9:XA V ({V59 with st:=(V59).st.set ((V.st.length:Nat):Int).toNat ⟨3,[],[],[],[],(V11.tm.length:Int),none,0,0,none,0,0,a78,([⟨[],[],((V16.st.length:Nat):Int)⟩,⟨[],[],((V57.st.length:Nat):Int)⟩]:List SWay).length,c78, -1⟩,oS:=obSw9}) _ (⟨3,[],[],[],[],(V11.tm.length:Int),none,0,0,none,0,0,a78,([⟨[],[],((V16.st.length:Nat):Int)⟩,⟨[],[],((V57.st.length:Nat):Int)⟩]:List SWay).length,c78, -1⟩::_) _:=hw9.set (b:=⟨3,[],[],[],[],(V11.tm.length:Int),none,0,0,none,0,0,a78,([⟨[],[],((V16.st.length:Nat):Int)⟩,⟨[],[],((V57.st.length:Nat):Int)⟩]:List SWay).length,c78, -1⟩) (o:=obSw9)
 exact zq812):a:=h
theorem zq277 (h:a:=by
 refine ag rfl ?_ ?_<;>intro c74
 · exact zq278
 refine ir ?_;refine qP ?_
 refine TX.pubO hOS (.skip _ (.skip _ (.skip _ .all))) sq (fun H9 le9 hR9=>?_)
 obtain⟨hF,hFs⟩:=(hT.le le9).fin (sp:=(a19,c19)) om k2 hsa hsb c74
 have hPO:ProcOk H9 (⟨q.name,q.params,q.pp,q.terms,q.tp,S,(a19,c19)⟩:SProc):=by have h:=hQ.le le9;exact⟨h.pa,h.pz,h.pl,h.t,h.tn,by show RdSl H9 10 SStep.cells (.slice a19 S.length c19) S;rw [hSl];exact hR9,hFs⟩
 exact aR (.inr rfl) (ad rfl (RVal.cellA rfl (.there _ (.here _)) rfl)) ⟨(⟨q.name,q.params,q.pp,q.terms,q.tp,S,(a19,c19)⟩:SProc),by unfold SProc.cells;dsimp only;rw [hSl];rfl,hPO,.turn k hF k1 k2 (fun s hs=>by rw [hsa] at hs;cases hs;exact hno)⟩):a:=h
theorem zq1007 (h:a:=by
 have hSw18:XA V ({V154 with st:=(V154).st.set ((V.st.length:Nat):Int).toNat ⟨3,[],[],[],[],(V102.tm.length:Int),none,0,0,none,0,0,a173,([(⟨[],[],((V107.st.length:Nat):Int)⟩:SWay),(⟨[],[],((V128.st.length:Nat):Int)⟩:SWay)]:List SWay).length,c173, -1⟩,oS:=obSw18}) _ (⟨3,[],[],[],[],(V102.tm.length:Int),none,0,0,none,0,0,a173,([(⟨[],[],((V107.st.length:Nat):Int)⟩:SWay),(⟨[],[],((V128.st.length:Nat):Int)⟩:SWay)]:List SWay).length,c173, -1⟩::_) _:=hw18.set (b:=⟨3,[],[],[],[],(V102.tm.length:Int),none,0,0,none,0,0,a173,([(⟨[],[],((V107.st.length:Nat):Int)⟩:SWay),(⟨[],[],((V128.st.length:Nat):Int)⟩:SWay)]:List SWay).length,c173, -1⟩) (o:=obSw18)
 exact zq1008):a:=h
theorem zq703 (h:a:=by
 refine ag rfl ?_ ?_<;>intro c80
 · exact zq704
 refine qE ?_
 obtain⟨va,vc,hv⟩:=hq6.form
 rw [hv] at hq6 ⊢
 refine fo ?_;refine tN ?_;refine ei ?_
 have hT:turnA p role set (cY p set) (rows.map (·.l)) []=(q.arms,0,q.rows.map (·.l)):=by rw [← hq7,List.drop_eq_nil_of_le om];rfl
 have hE:bD p role (rows.map (·.l)) set=(((cL p role set).1,(cL p role set).2.1,q.arms),0,q.rows.map (·.l)):=by unfold bD;rw [if_neg om,if_neg h34,if_neg h48,if_neg om,if_neg h72,if_neg (by rw [hT];simp),hT]
 exact aZ (.inr rfl) (cq rfl (RVal.cellA rfl (.there _ (.here _)) rfl) (RVal.tmp rfl)) (fun w hw=>hw.drop.drop) ⟨_,q.ob,q.rows,_,q.oa,rfl,hq3,hq4,hq5,by rw [hE],by rw [hE];exact hq6,by rw [hE];rfl⟩):a:=h
theorem zq263 (h:a:=by
 refine aW (V:=fun(p:Int×List SStep) v ob H1=>[(10,.int .i64 p.1)]) (K:=[(4,_),(5,_),(6,_),(7,_)]) (L:=fun(p:Int×List SStep) v ob H1=>St [] w0 H H1 ((b6,[gs q.name,.slice q.pp.1 q.params.length q.pp.2,.slice q.tp.1 q.terms.length q.tp.2,.slice a19 q.steps.length c19])::(b4,[gs [],.slice none 0 0,.slice none 0 0,.slice none 0 0])::(b2,q.cells)::ob)) (I:=fun(p:Int×List SStep) v ob H1=>(0≤p.1∧p.1≤q.steps.length)∧HP37.le H1∧OwnSl 10 SStep.cells (.slice a19 q.steps.length c19) p.2 ob∧TwI H1 k (mA q.steps k sa sb) p.2 p.1) (μ:=fun(p:Int×List SStep)=>(q.steps.length - p.1).toNat) ((0:Int),(mA q.steps k sa sb)) .nilFunc obB HP37 ky ⟨o2q,Hp.le.refl _,hobB,.zero⟩ (fun w hw=>hw) (fun p v ob H1 hI=>?_)
 exact zq264):a:=h
theorem zq379 (h:a:=by
 refine ai (s:=134) rfl ?_ ?_<;>intro g134
 ·
  have q134:=of_decide_eq_true g134
  refine eg ?_;refine xN ?_
  exact aV rfl (by first | (simp_all;done) | (simp_all;omega) | (simp;omega)) ky
 have q134:=of_decide_eq_false g134
 refine xe ?_;refine it ?_;refine aC rfl rfl (bG (i:=i.toNat) (j:=8) (by rw [eM];rfl) hOM (.skip _ (.skip _ (.skip _ (.app _)))) hsM rfl) rfl (cK ?_)
 refine aC rfl rfl (aY rfl rfl hOw om om) rfl (it ?_);refine zm378 ?_;refine cK ?_;refine qX ?_;refine gH ?_
 exact aV rfl (by first | (simp_all;done) | (simp_all;omega) | (simp;omega)) ky):a:=h
theorem zq593 (h:a:=by
 refine aD rfl rfl rfl rfl (fun b85=>?_)
 refine TL.append (enc:=GRow.cells) rfl rfl rfl hO (Src.own [⟨(dS p role (cQ p role frm)),(a29,c29)⟩] (.here _) rfl rfl) (by simp only [List.length_cons,List.length_nil];omega) rfl (.skip _ (.skip _ .all)) rfl (fun a86 c86 ob86 hO86=>?_)
 refine lG ?_;refine jY ?_;refine iu ?_;refine ue ?_;refine TL.run (bE rfl rfl hO86) rfl (zm408 ?_);refine fq ?_
 have hEq:=vA (sets:=rows.map (·.l)) hno (by rw [List.length_map];exact fun j hj=>hI2 j om)
 rw [List.length_map,if_neg om] at hEq
 exact aZ (.inr rfl) (cq rfl (RVal.tmp rfl) (RVal.tmp rfl)) (fun w hw=>hw.drop) ⟨_,_,rows++[⟨(dS p role (cQ p role frm)),(a29,c29)⟩],rfl,hO86,fun r hr=>by rcases List.mem_append.1 hr with hr | hr;exact hrw1 r hr;rw [List.mem_singleton.1 hr];exact hN1,by simp only [List.length_append,List.length_cons,List.length_nil];omega,by rw [hEq];simp,by rw [hEq]⟩):a:=h
theorem zq689 (h:a:=by
 refine TC.loop (ι:=TQ1) (V:=fun q=>[(16,.int .i64 q.k)]) (K:=[(0,_),(1,_),(4,_),(5,_),(9,_),(15,_)]) (L:=fun q=>St M w0 H q.h ((b15,[.int .i64 (cL p role set).1,gs (cL p role set).2.1,q.v])::(b4,[.int .i64 0,gs [],.slice none 0 0])::(bw,WK p role q.sv)::(q.ob++q.oa))) (I:=fun q=>(0≤q.k∧q.k≤(cY p set).length)∧H40.le q.h∧OwnSl 1 GRow.cells q.sv q.rows q.ob∧GRowsOk q.h q.rows∧q.rows.length≤40∧OwnSl 4 SArm.cells q.v q.arms q.oa∧turnA p role set ((cY p set).drop q.k.toNat) (q.rows.map (·.l)) q.arms=turnA p role set (cY p set) (rows.map (·.l)) []∧(q.arms.length:Int)=q.k) (μ:=fun q=>((cY p set).length - q.k).toNat) (i:=⟨0,H40,_,ob,rows,.slice none 0 0,[],[]⟩) ky ⟨⟨by show(0:Int)≤0;omega,by show(0:Int)≤_;omega⟩,.refl _,hO,hrw,hrl,OwnSl.nil,rfl,rfl⟩ (fun w hw=>by rw [List.append_nil];exact hw) (fun q hI=>?_)
 exact zq690):a:=h
theorem zq789 (h:a:=by
 refine zm3 ?_
 refine TL.alloc rfl (fun b12=>?_)
 refine gY ?_;refine lW ?_;refine f4 ?_
 refine TC.cond rfl ?_ ?_<;>intro c72
 ·
  refine lh ?_;refine tN ?_;refine ei ?_;refine iM ?_
  have hE:bD p role (rows.map (·.l)) set=((0,[],[]),804,rows.map (·.l)):=by unfold bD;rw [if_neg om,if_neg h34,if_neg h48,if_neg om,if_pos (du (p:=k8 p set) k0 hlx (by simpa [k8] using c72) hal)]
  exact aZ (.inr rfl) (cq rfl (RVal.cellA rfl (.there _ (.here _)) rfl) (RVal.tmp rfl)) (fun w hw=>by rw [List.append_nil];exact(St.dropT (A:=(bw,_)::ob) hw.drop.drop)) ⟨_,ob,rows,.slice none 0 0,[],rfl,hO,hrw,hrl,by rw [hE],by rw [hE];exact OwnSl.nil,by rw [hE];rfl⟩
 refine gG ?_
 exact aS (k+1) ⟨o2q,cg (p:=k8 p set) k0 hlx (by simpa [k8] using c72) hal⟩ ky (fun w hw=>St.dropT (A:=(b4,_)::(bw,_)::ob) hw.drop) om):a:=h
theorem zq366 (h:a:=by
 refine aq ((by first | exact Ab rfl rfl om om | exact aJ rfl)) rfl (qq ?_);refine jV ?_;refine zm376 ?_;refine zm5 ?_;refine oQ ?_;refine zm4 ?_
 refine aK (bG (i:=j.toNat) (j:=2) rfl hOw (.skip _ (.skip _ (.skip _ (.past _ .all)))) hwW rfl) rfl (aq ((by first | exact fw rfl rfl om om | exact aJ rfl)) rfl (oQ ?_))
 refine fu ?_
 refine bX (i:=j.toNat) (j:=2) (a:=w) (a':={w with next:=2 * k+1 - w.next}) rfl rfl hOw (.skip _ (.skip _ (.skip _ (.past _ .all)))) hwW rfl rfl rfl rfl (fun obe ee hOe=>?_)
 refine qI ?_
 exact aH (i:=(j,Wy)) (j+1,Wy.set j.toNat (jv k w)) .nilFunc obe H1 ⟨o2q,by rw [show jv k w={w with next:=2 * k+1 - w.next} by unfold jv sig;rw [if_pos om]];exact hOe,hW2.put j0 hwy⟩ ky (fun w hw=>hw) om):a:=h
theorem zq239 (h:a:=by
 refine ag rfl ?_ ?_<;>intro c35
 ·
  obtain⟨x,hx⟩:=ao (l:=s.casts) k0 c35
  have hxa:=hs.cs x (List.mem_of_getElem? hx)
  have hx6:=hl3 x (List.mem_of_getElem? hx)
  refine dz ?_;refine TL.run (ae rfl hc rfl om om) rfl (TL.run (bg hc hx rfl rfl) rfl (TL.alloc rfl (fun b5=>?_)))
  refine xT ?_
  refine TL.append (enc:=I64.cells) rfl rfl rfl hO (Src.sl hxa) (by have hh:=nN s;simp only [List.length_append];omega) rfl (.skip _ (.skip _ .all)) rfl (fun a41 c41 ob41 hO41=>?_)
  refine mq ?_
  exact aH (k+1) _ ob41 H ⟨o2q,hO41.cast (by rw [bT k0 hx,List.flatMap_append];simp),by rw [bT k0 hx,List.flatMap_append,List.length_append];simp only [List.flatMap_cons,List.flatMap_nil,List.append_nil];omega⟩ ky (fun w hw=>hw.drop) om
 refine tw ?_
 exact ef (.inr rfl) (ad rfl (RVal.tmp rfl)) (.skip _ .all) ⟨rfl,hO.cast (by rw [bC c35 k0,nJ])⟩):a:=h
theorem zq248 (h:a:=by
 refine ag rfl ?_ ?_<;>intro c35
 ·
  obtain⟨x,hx⟩:=ao (l:=s.casts) k0 c35
  have hxa:=hs.cs x (List.mem_of_getElem? hx)
  have hx6:=hl3 x (List.mem_of_getElem? hx)
  refine dz ?_;refine TL.run (ae rfl hc rfl om om) rfl (TL.run (bg hc hx rfl rfl) rfl (TL.alloc rfl (fun b5=>?_)))
  refine xT ?_
  refine TL.append (enc:=I64.cells) rfl rfl rfl hO (Src.sl hxa) (by have hh:=nN s;simp only [List.length_append];omega) rfl (.skip _ (.skip _ (.skip _ .all))) rfl (fun a41 c41 ob41 hO41=>?_)
  refine mq ?_
  exact aH (k+1) _ ob41 H ⟨o2q,hO41.cast (by rw [bT k0 hx,List.flatMap_append];simp),by rw [bT k0 hx,List.flatMap_append,List.length_append];simp only [List.flatMap_cons,List.flatMap_nil,List.append_nil];omega⟩ ky (fun w hw=>hw.drop) om
 refine tw ?_
 exact ef (.inr rfl) (ad rfl (RVal.tmp rfl)) (.skip _ (.skip _ .all)) ⟨rfl,hO.cast (by rw [bC c35 k0,nJ])⟩):a:=h
theorem zq323 (h:a:=by
 refine aW (V:=fun(p:Int×List SWay) v4 ow H4=>[(12,.int .i64 p.1)]) (K:=[(4,_),(5,_),(6,_),(7,_),(10,_),(11,_),(72,_),(73,_),(74,_),(77,_),(78,_),(79,_),(80,_),(95,_),(107,_),(108,_),(109,_),(110,_),(111,_),(112,_),(113,_),(114,_)]) (L:=fun(p:Int×List SWay) v4 ow H4=>St [] w0 H H1 ((b6,[gs q.name,.slice q.pp.1 q.params.length q.pp.2,.slice q.tp.1 q.terms.length q.tp.2,.slice a19 q.steps.length c19])::(b4,[gs [],.slice none 0 0,.slice none 0 0,.slice none 0 0])::(b2,q.cells)::(obM++ow))) (I:=fun(p:Int×List SWay) v4 ow H4=>(0≤p.1∧p.1≤s.ways.length)∧OwnSl 3 SWay.cells (.slice a112 s.ways.length c112) p.2 ow∧WaT k s.ways p.2 p.1) (μ:=fun(p:Int×List SWay)=>(s.ways.length - p.1).toNat) ((0:Int),s.ways) .nilFunc ob112 H1 ky ⟨o2q,hO112,rfl⟩ (fun w hw=>hw) (fun p v4 ow H4 hI=>?_)
 exact zq324):a:=h
theorem zq594 (h:a:=by
 obtain⟨r,hrx⟩:=ao (l:=rows) m0 c60
 refine mt ?_;refine qO ?_;refine zm0 ?_;refine TL.run (aY rfl rfl hO om om) rfl (TL.run (bG (j:=0) rfl hO (.skip _ .all) hrx rfl) rfl (zm0 ?_))
 refine ay (ab rfl rfl rfl rfl) (rR (hrw1 r (List.mem_of_getElem? hrx)) hN1) rfl (TL.nil (af (TC.cond rfl (fun c71=>?_) (fun c71=>?_))))
 ·
  refine qG ?_;refine iM ?_
  have hEq:=Cy (sets:=rows.map (·.l)) hno (k:=m.toNat) (by rw [List.getElem?_map,hrx];simpa using c71) hI2
  rw [show((m.toNat:Nat):Int)=m by omega] at hEq
  exact aZ (.inr rfl) (cq rfl (RVal.tmp rfl) (RVal.tmp rfl)) (fun w hw=>hw) ⟨_,_,rows,rfl,hO,hrw1,hrl,by rw [hEq],by rw [hEq]⟩
 refine gG ?_
 exact aS (m+1) ⟨o2q,fun j2 h2=>by by_cases e:j2<m.toNat;exact hI2 j2 e;rw [show j2=m.toNat by omega,List.getElem?_map,hrx];intro e2;exact absurd (by simpa using e2) (by simpa using c71)⟩ ky (fun w hw=>hw) om):a:=h
theorem zq461 (h:a:=by
 refine aq ((by first | exact Ab rfl rfl om om | exact aJ rfl)) rfl (qq ?_);refine jV ?_;refine zm380 ?_;refine zm5 ?_;refine oQ ?_;refine zm4 ?_
 refine aK (bG (i:=j.toNat) (j:=2) rfl hOw (.skip _ (.skip _ (.skip _ (.past _ .all)))) hwW rfl) rfl (aq ((by first | exact fw rfl rfl om om | exact aJ rfl)) rfl (oQ ?_))
 refine fu ?_
 refine bX (i:=j.toNat) (j:=2) (a:=w) (a':={w with next:=2 * k+1 - w.next}) rfl rfl hOw (.skip _ (.skip _ (.skip _ (.past _ .all)))) hwW rfl rfl rfl rfl (fun obe ee hOe=>?_)
 refine qI ?_
 exact aH (i:=(j,Wy)) (j+1,Wy.set j.toNat (jv k w)) .nilFunc obe H1 ⟨o2q,by rw [show jv k w={w with next:=2 * k+1 - w.next} by unfold jv sig;rw [if_pos om]];exact hOe,hW2.put j0 hwy⟩ ky (fun w hw=>hw) om):a:=h
theorem zq297 (h:a:=by
 refine bO (decide (s.next=k)||decide (s.next=k+1)) 95 [(4,_),(5,_),(6,_),(7,_),(10,_),(11,_),(72,_),(73,_),(74,_),(77,_),(78,_),(79,_),(80,_)] ky ?_ ?_
 ·
  refine iX ?_;refine lG ?_;refine TL.run (bG (i:=i.toNat) (j:=9) rfl hOS (.skip _ (.skip _ (.skip _ .all))) hsS rfl) rfl (xm ?_)
  refine ai (s:=87) rfl ?_ ?_<;>intro g87
  ·
   have q87:=of_decide_eq_true g87
   refine xN ?_
   exact aV rfl (by first | (simp_all;done) | (simp_all;omega) | (simp;omega)) ky
  have q87:=of_decide_eq_false g87
  refine xe ?_;refine it ?_;refine aC rfl rfl (bG (i:=i.toNat) (j:=9) rfl hOS (.skip _ (.skip _ (.skip _ .all))) hsS rfl) rfl (cK ?_);refine qX ?_;refine gH ?_
  exact aV rfl (by first | (simp_all;done) | (simp_all;omega) | (simp;omega)) ky
 exact zq298):a:=h
theorem zq1208 (h:a:=by
 refine bO (!decide (xB=[])&&cj bound xB) 74 [(3,_),(4,_),(6,_),(8,_),(15,_),(62,_),(63,_),(64,_),(65,_),(66,_),(67,_)] ky ?_ ?_
 ·
  refine iX ?_;refine ma ?_
  refine ai (s:=70) rfl ?_ ?_<;>intro g70
  ·
   have q70:=aU g70
   refine fc ?_;refine aO rfl rfl (ab rfl rfl rfl rfl) (je xB hB) rfl (dN ?_)
   exact aV rfl (by simp_all) ky
  have q70:=aP g70
  refine ny ?_
  exact aV rfl (by simp_all) ky
 refine TC.cond rfl ?_ ?_<;>intro c74
 ·
  have h2:=du (p:=(fun n=>!(!decide (n=[])&&cj bound n))) k0 hxB (by rw [c74];rfl) hal
  exact qk
 refine l6 ?_
 exact aS (k+1) ⟨o2q,cg (p:=(fun n=>!(!decide (n=[])&&cj bound n))) k0 hxB (by rw [c74];rfl) hal⟩ ky (fun w hw=>hw) om):a:=h
theorem zq474 (h:a:=by
 refine ai (s:=134) rfl ?_ ?_<;>intro g134
 ·
  have q134:=of_decide_eq_true g134
  refine eg ?_;refine xN ?_
  exact aV rfl (by first | (simp_all;done) | (simp_all;omega) | (simp;omega)) ky
 have q134:=of_decide_eq_false g134
 refine xe ?_;refine it ?_;refine aC rfl rfl (bG (i:=i.toNat) (j:=8) (by rw [eM,eN];rfl) hOM (.skip _ (.skip _ (.skip _ (.app _)))) hsM rfl) rfl (cK ?_)
 refine aC rfl rfl (aY rfl rfl hOw om om) rfl (it ?_);refine zm378 ?_;refine cK ?_;refine qX ?_;refine gH ?_
 exact aV rfl (by first | (simp_all;done) | (simp_all;omega) | (simp;omega)) ky):a:=h
theorem zq758 (h:a:=by
 refine aX rfl ?_ ?_<;>intro c101
 ·
  refine lh ?_;refine zm0 ?_;refine cH rfl rfl rfl rfl rfl (.there _ (.there _ (.here _))) rfl rfl (ei ?_);refine k5 ?_
  have hT:turnA p role set (cY p set) (rows.map (·.l)) []=([],(bR p role (q.rows.map (·.l)) (dW p set lb).2.2.1).2.1,(bR p role (q.rows.map (·.l)) (dW p set lb).2.2.1).2.2):=by rw [← hq7];exact BZ hlx c101
  have hE:bD p role (rows.map (·.l)) set=((0,[],[]),(bR p role (q.rows.map (·.l)) (dW p set lb).2.2.1).2.1,(bR p role (q.rows.map (·.l)) (dW p set lb).2.2.1).2.2):=by unfold bD;rw [if_neg om,if_neg h34,if_neg h48,if_neg om,if_neg h72,if_pos (by rw [hT];exact c101),hT]
  exact aZ (.inr rfl) (cq rfl (RVal.cellA rfl (.there _ (.there _ (.here _))) rfl) (RVal.tmp rfl)) (fun w hw=>by rw [List.append_nil];exact(St.dropT (A:=(bw,_)::ob97) hw.drop.drop.drop)) ⟨_,ob97,rows97,.slice none 0 0,[],rfl,hO97,hrw97,hrl97,by rw [hE];exact hm97,by rw [hE];exact OwnSl.nil,by rw [hE];rfl⟩
 exact zq759):a:=h
theorem zq803 (h:a:=by
 refine aX rfl ?_ ?_<;>intro c30
 ·
  refine eh ?_;refine zm3 ?_;refine ei ?_;refine k5 ?_
  have hE:jk p=((cN p rr).1,k):=by unfold jk;rw [if_neg (by rw [hRB];decide),← hI3,Cg hrx c30,show((k.toNat:Nat):Int)=k by omega]
  exact aR (.inr rfl) (fi rfl (RVal.tmp rfl) (RVal.tmp rfl) (RVal.tmp rfl)) ⟨_,by rw [hE],fun h=>absurd h (by rw [hE];exact c30),fun _=>rfl⟩
 have hR2:=hRo (by simpa using c30)
 refine cV ?_;refine iX ?_;refine fo ?_
 refine aD rfl rfl rfl rfl (fun b35=>?_)
 refine TL.append (enc:=SLocal.cells) rfl rfl rfl hO (Src.own [⟨nm,ts,tp⟩] (.here _) rfl rfl) (by have:=hLs.len;simp only [List.length_cons,List.length_nil];omega) rfl (.skip _ (.skip _ (.skip _ .all))) rfl (fun a36 c36 ob36 hO36=>?_)
 refine lr ?_
 exact aH (k+1) _ ob36 H26 ⟨o2q,hI2.trans hle26,by rw [show(k+1).toNat=k.toNat+1 by omega,← z8 hrx (by simpa using c30)];exact hI3,_,hO36,(hLs.le hle26).snoc hrx hR2.1 hR2.2.1 hR2.2.2⟩ ky (fun w hw=>hw.drop.drop) om):a:=h
theorem zq769 (h:a:=by
 refine aN (S1 (S1 (S1 (S1 SN)))) (Hp.le.refl _) (fun _ _=>aQ hlab3 hlx rfl rfl) rfl (A8 ?_);refine uq ?_
 refine aF rfl rfl rfl rfl (fun b113=>?_)
 refine aw rfl (TL.append (enc:=SArm.cells) rfl rfl rfl hq6 (Src.own [⟨lb,_,_,_⟩] (.here _) rfl rfl) (by simp only [List.length_cons,List.length_nil];omega) rfl (.skip _ (.skip _ (.skip _ (.skip _ (.skip _ (.past ob97 .all)))))) rfl (fun a114 c114 ob114 hO114=>?_))
 refine t6 ?_;refine Bd ?_;refine qI ?_
 exact aS (⟨q.k+1,H97,sv97,ob97,rows97,_,ob114,q.arms++[⟨lb,(dW p set lb).1,(dW p set lb).2.1,(bR p role (q.rows.map (·.l)) (dW p set lb).2.2.1).1⟩]⟩:TQ1) ⟨⟨by show 0≤q.k+1;omega,by show q.k+1≤_;omega⟩,hq2.trans (leP90.trans hle97),hO97,hrw97,hrl97,hO114,by show turnA p role set ((cY p set).drop (q.k+1).toNat) (rows97.map (·.l)) _=_;rw [hm97,show(q.k+1).toNat=q.k.toNat+1 by omega,← zO hlx (by simpa using c101)];exact hq7,by simp only [List.length_append,List.length_cons,List.length_nil];omega⟩ ky (fun w hw=>hw.drop.drop) (by show(_ - (q.k+1)).toNat<_;omega)):a:=h
theorem zq1034 (h:a:=by exact bn (V':={{V154 with st:=(V154).st.set ((V.st.length:Nat):Int).toNat ⟨3,[],[],[],[],(V102.tm.length:Int),none,0,0,none,0,0,a173,([(⟨[],[],((V107.st.length:Nat):Int)⟩:SWay),(⟨[],[],((V128.st.length:Nat):Int)⟩:SWay)]:List SWay).length,c173, -1⟩,oS:=obSw18} with oN:=ob173++({V154 with st:=(V154).st.set ((V.st.length:Nat):Int).toNat ⟨3,[],[],[],[],(V102.tm.length:Int),none,0,0,none,0,0,a173,([(⟨[],[],((V107.st.length:Nat):Int)⟩:SWay),(⟨[],[],((V128.st.length:Nat):Int)⟩:SWay)]:List SWay).length,c173, -1⟩,oS:=obSw18}).oN}) (X:=[(b172,_),(b146,_),(b7,_),(b6,_)]) (.inl rfl) (ce rfl) rfl rfl (hXw18.pile.more om) ⟨rfl,_,_,ifX (V102.tm.length:Int) [(⟨[],[],((V107.st.length:Nat):Int)⟩:SWay),(⟨[],[],((V128.st.length:Nat):Int)⟩:SWay)] (a173,c173)::(xs128++xs154),nm128+nm154,by omega,hSw18.pile (fun p hp=>List.mem_append_right _ hp),(Mir.one rfl ⟨.nil,.nil,(fun c hc=>by cases hc),.own hO173 (fun x hx=>List.mem_append_left _ hx)⟩).app (((hM128.le (fun q hq=>hA154.nn q hq)).app hM154).le (fun p hp=>List.mem_append_right _ hp)),hB9⟩):a:=h
theorem zq418 (h:a:=by
 refine aW (V:=fun(p:Int×List SWay) v4 ow H4=>[(12,.int .i64 p.1)]) (K:=[(4,_),(5,_),(6,_),(7,_),(10,_),(11,_),(72,_),(73,_),(74,_),(77,_),(78,_),(79,_),(80,_),(95,_),(96,_),(97,_),(98,_),(99,_),(100,_),(101,_),(102,_),(103,_),(104,_),(105,_),(106,_),(107,_),(108,_),(109,_),(110,_),(111,_),(112,_),(113,_),(114,_)]) (L:=fun(p:Int×List SWay) v4 ow H4=>St [] w0 H H1 ((b6,[gs q.name,.slice q.pp.1 q.params.length q.pp.2,.slice q.tp.1 q.terms.length q.tp.2,.slice a19 q.steps.length c19])::(b4,[gs [],.slice none 0 0,.slice none 0 0,.slice none 0 0])::(b2,q.cells)::(obM++ow))) (I:=fun(p:Int×List SWay) v4 ow H4=>(0≤p.1∧p.1≤s.ways.length)∧OwnSl 3 SWay.cells (.slice a112 s.ways.length c112) p.2 ow∧WaT k s.ways p.2 p.1) (μ:=fun(p:Int×List SWay)=>(s.ways.length - p.1).toNat) ((0:Int),s.ways) .nilFunc ob112 H1 ky ⟨o2q,hO112,rfl⟩ (fun w hw=>hw) (fun p v4 ow H4 hI=>?_)
 exact zq419):a:=h
theorem zq488 (h:a:=by
 refine TC.cond rfl ?_ ?_<;>intro c17
 ·
  have hgo:=dgo_T c17
  refine cV ?_;refine TC.block (dM ?_);refine TL.run (km rfl rfl dq) rfl (zm0 ?_);refine TL.run (PR.to (fk rfl) (congrArg (Value.int .u8) (E8 p.1))) rfl (aD rfl rfl rfl rfl (fun b22=>?_))
  refine zm0 ?_
  refine TL.append (enc:=U8.cells) rfl rfl rfl (OwnSl.blk (enc:=U8.cells) [UInt8.ofNat (48+p.1 % 10)] rfl rfl dq) (Src.og hO (.skip _ .all)) (by have:=hD.len;simp;omega) rfl (.take (.here _) rfl) rfl (fun a24 c24 ob24 hO24=>?_)
  refine zm1 ?_;refine iX ?_;refine TL.run (PR.to (pr_quo rfl rfl dq) (congrArg (Value.int .u64) (dig_quo hD.lt))) rfl (dN ?_)
  exact bu (aH (p.1 / 10,0) _ ob24 H1 ⟨_,hO24,hD.next hgo⟩ ky (fun w hw=>hw.dropN) (hD.down hgo))
 have hend:=dgo_F c17
 refine ir ?_;refine lm ?_
 refine ag rfl ?_ ?_<;>intro c28
 ·
  refine dM ?_;refine TL.run (yY rfl hO .all) rfl (TL.run (eu rfl rfl (by have:=hD.len;simp;omega)) rfl (tO ?_))
  exact ax (.inr rfl) (ad rfl (RVal.tmp rfl)) (congrArg gs (by first | exact zr hD hend c28 | exact zq hD hend c28))
 refine lq ?_;refine TL.run (yY rfl hO .all) rfl (ei ?_)
 exact ax (.inr rfl) (ad rfl (RVal.tmp rfl)) (congrArg gs (by first | exact zr hD hend c28 | exact zq hD hend c28))):a:=h
theorem zq1105 (h:a:=by
 refine iX ?_;refine nv ?_
 have hx2:=hA47.tl
 have hx3:=hA47.sl
 have hx4:=hA60.tl
 have hx5:=hA60.sl
 have hx6:=hA67.sl
 have hx7:=hA67.tl
 simp only [List.length_cons,List.length_nil] at hx2 hx3 hx4 hx5 hx6 hx7
 have hMI:=hI6.step (kd:=7) (nx:=((V67.st.length:Int)+1)) (z:=r66) (r1:=(V47.tm.length:Int)) (r2:=(V60.tm.length:Int)) (ap:=(some ⟨b68,0,none⟩,2)) k0 c25 om hO47 (hX.pm hrm) (PrX.call hpm_ hrm) om om (.inr ⟨rfl,by omega,by omega⟩)
 exact gc (k+1) V79 ⟨r.ts++(ts47++[⟨0,vnm (k+1),0,[], -1, -1⟩,kv r66]),r.ss++[s47,{(⟨7,[],[],[],(p.name++rr), -1,some ⟨b68,0,none⟩,2,2,none,0,0,none,0,0, -1⟩:TStep) with next:=((V67.st.length:Int)+1)}],r.xs++[x47,callX 7 (p.name++rr) [(V47.tm.length:Int),(V60.tm.length:Int)] (some ⟨b68,0,none⟩,2) ((V67.st.length:Int)+1)]⟩ (⟨hW79.more om,o2q,((((hI3.trans hle47).trans hle60).trans hle67).trans hle79),(hI4.trans (hA47.trans (hA60.trans (hA67.trans hA79)))).cast (by simp [kv]) sq om,(hI5.le (fun z hz=>hA79.nn z (hA67.nn z (hA60.nn z (hA47.nn z hz))))).app ((hM47.le (fun z hz=>hA79.nn z (hA67.nn z (hA60.nn z hz)))).app (Mir.one rfl ⟨.blk [(V47.tm.length:Int),(V60.tm.length:Int)] rfl rfl le2 (hN79 _ (List.mem_cons_self ..)),.nil,(fun c hc=>by cases hc),.nil⟩)),hMI⟩) ky (fun w hw=>hw.drop.drop) om):a:=h
theorem zq1145 (h:a:=by
 replace hA76:XA V67 V76 _ _ _:=⟨hA76.tm,hA76.st,hA76.nm,hA76.rm,(fun p hp=>hN76 p (by first | exact List.mem_append_right _ hp | exact List.mem_cons_of_mem _ hp))⟩
 refine TL.nil (iY ?_)
 have hx2:=hA47.tl
 have hx3:=hA47.sl
 have hx4:=hA60.tl
 have hx5:=hA60.sl
 have hx6:=hA67.sl
 have hx7:=hA67.tl
 simp only [List.length_cons,List.length_nil] at hx2 hx3 hx4 hx5 hx6 hx7
 have hMI:=hI6.step (kd:=6) (nx:=(-1)) (z:=r66) (r1:=(V47.tm.length:Int)) (r2:=(V60.tm.length:Int)) (ap:=(some ⟨b68,0,none⟩,2)) k0 c25 om hO47 (hX.pm hrm) (PrX.call hpm_ hrm) om om (.inl ⟨rfl,rfl,by omega⟩)
 exact gc (k+1) V76 ⟨r.ts++(ts47++[⟨0,vnm (k+1),0,[], -1, -1⟩,kv r66]),r.ss++[s47,{(⟨6,[],[],[],(p.name++rr), -1,some ⟨b68,0,none⟩,2,2,none,0,0,none,0,0, -1⟩:TStep) with next:=(-1)}],r.xs++[x47,callX 6 (p.name++rr) [(V47.tm.length:Int),(V60.tm.length:Int)] (some ⟨b68,0,none⟩,2) (-1)]⟩ (⟨hW76.more om,o2q,((((hI3.trans hle47).trans hle60).trans hle67).trans hle76),(hI4.trans (hA47.trans (hA60.trans (hA67.trans hA76)))).cast (by simp [kv]) sq om,(hI5.le (fun z hz=>hA76.nn z (hA67.nn z (hA60.nn z (hA47.nn z hz))))).app ((hM47.le (fun z hz=>hA76.nn z (hA67.nn z (hA60.nn z hz)))).app (Mir.one rfl ⟨.blk [(V47.tm.length:Int),(V60.tm.length:Int)] rfl rfl le2 (hN76 _ (List.mem_cons_self ..)),.nil,(fun c hc=>by cases hc),.nil⟩)),hMI⟩) ky (fun w hw=>hw.drop.drop) om):a:=h
theorem zq849 (h:a:=by
 have hXw12:XI F ({V85 with st:=(V85).st.set ((V.st.length:Nat):Int).toNat ⟨5,[99],t.peer,[],[], -1,none,0,0,none,0,0,a103,(r.ws++[((⟨x.label,[],((V1.st.length:Nat):Int)⟩:SWay):SWay)]:List SWay).length,c103, -1⟩,oS:=obSw12}) _:=hW85.set hOSw12
 refine iY ?_
 have i1:=hI4.tl
 have i2:=hI4.sl
 have i3:=hI4.nm
 have i4:=hI4.rm
 have i5:=hI7.len
 simp only [List.length_cons] at i2 i4
 have hH9:=hI8.step (w:=(⟨x.label,[],((V1.st.length:Nat):Int)⟩:SWay)) k0 hax rfl (by show(V1.st.length:Int)=_;omega) hdp hrm1 hB85 (ys:=[]) (us:=[]) (nm2:=r.nm+nm85) (by simp only [List.length_nil];omega) (by simp only [List.length_nil];omega) (by simp only [List.length_nil];omega) sq sq om (.inl rfl) (fun Γ hΓ=>by
   have ew:Γ++wnm (⟨x.label,[],((V1.st.length:Nat):Int)⟩:SWay)=Γ:=by unfold wnm;rw [if_pos rfl,List.append_nil]
   rw [ew];exact⟨hΓ.more om,.nil⟩)
 exact gc (k+1) ({V85 with st:=(V85).st.set ((V.st.length:Nat):Int).toNat ⟨5,[99],t.peer,[],[], -1,none,0,0,none,0,0,a103,(r.ws++[((⟨x.label,[],((V1.st.length:Nat):Int)⟩:SWay):SWay)]:List SWay).length,c103, -1⟩,oS:=obSw12}) ⟨r.ws++[(⟨x.label,[],((V1.st.length:Nat):Int)⟩:SWay)],a103,c103,ob103,r.ts++us85,r.ss++ss85,r.xs++xs85,(r.nm+nm85)⟩ (⟨hXw12.more om,o2q,(hI3.trans hle85),hSw12,by dsimp only;omega,hO103,(hI7.le (fun q hq=>hA85.nn q hq)).app hM85,hH9⟩) ky (fun w hw=>hw.drop.drop) om):a:=h
theorem zq896 (h:a:=by
 simp only [List.length_cons] at i2
 have j2:=hA122.sl
 simp only [List.length_nil] at j2
 have hE9:=(hI8.lost (w:=(⟨[],[],((V1.st.length:Nat):Int)⟩:SWay)) (tm:=(V1.tm.length:Int)) (nx:=(V122.st.length:Int)+1) hTxt hknd k0 c39 k1 hdp hrm1 hnm0 om (congrArg (SWay.mk [] []) om) om om).blk (wp:=(a147,c147)) (hTxt.peer hknd) hdp hrm1 hnm0
 exact bn (V':={{V129 with st:=(V129).st.set ((V.st.length:Nat):Int).toNat ⟨5,[99],t.peer,[],[], -1,none,0,0,none,0,0,a147,(r.ws++[((⟨[],[],((V1.st.length:Nat):Int)⟩:SWay):SWay)]:List SWay).length,c147, -1⟩,oS:=obSw19} with oN:=ob147++({V129 with st:=(V129).st.set ((V.st.length:Nat):Int).toNat ⟨5,[99],t.peer,[],[], -1,none,0,0,none,0,0,a147,(r.ws++[((⟨[],[],((V1.st.length:Nat):Int)⟩:SWay):SWay)]:List SWay).length,c147, -1⟩,oS:=obSw19}).oN}) (X:=[(b146,_),(b12,_),(b11,_),(b7,_),(b6,_)]) (.inl rfl) (ce rfl) rfl rfl (hXw19.pile.more om) ⟨rfl,_,_,pD t.peer (r.ws++[(⟨[],[],((V1.st.length:Nat):Int)⟩:SWay)]) (a147,c147)::(r.xs++[iP (V1.tm.length:Int) ((V122.st.length:Int)+1),rD]),r.nm,hI5,hSw19.pile (fun p hp=>List.mem_append_right _ hp),(Mir.one rfl ⟨.nil,.nil,(fun c hc=>by cases hc),.own hO147 (fun x hx=>List.mem_append_left _ hx)⟩).app (((hI7.le (fun q hq=>hA129.nn q (hA126.nn q (hA122.nn q hq)))).app ((Mir.one rfl ⟨.nil,.nil,(fun c hc=>by cases hc),.nil⟩).app (Mir.one rfl ⟨.nil,.nil,(fun c hc=>by cases hc),.nil⟩))).le (fun p hp=>List.mem_append_right _ hp)),hE9⟩):a:=h
theorem zq882 (h:a:=by
 have hH9:=hI8.step (w:=(⟨x.label,vnm (V1.names+1),((V1.st.length:Nat):Int)⟩:SWay)) k0 hax rfl (by show(V1.st.length:Int)=_;omega) hdp hrm1 hB85 (ys:=ys75) (us:=us75) (nm2:=r.nm+(1+nm85)) om om om hy75 hu75 om (.inr ⟨V1.names+1,by omega,by omega,rfl⟩) (fun Γ hΓ=>by
   have ew:Γ++wnm (⟨x.label,vnm (V1.names+1),((V1.st.length:Nat):Int)⟩:SWay)=Γ++[vnm (V1.names+1)]:=by unfold wnm;rw [if_neg (by exact vnm_ne)]
   rw [ew]
   have e9:V75.names=V1.names+1:=by omega
   have g9:GI (V1.names+1) (Γ++[vnm (V1.names+1)]):=(GI.more (m:=V1.names) hΓ om).add om om
   refine⟨by rw [e9];exact g9,?_⟩
   have h9:=hg75 (Γ++[vnm (V1.names+1)]) (List.mem_append_right _ (List.mem_singleton.2 rfl))
   rw [show V.st.length+1+r.xs.length=V64.st.length by omega,show V.tm.length+r.ts.length=V64.tm.length by omega];exact h9)
 exact gc (k+1) ({V85 with st:=(V85).st.set ((V.st.length:Nat):Int).toNat ⟨5,[99],t.peer,[],[], -1,none,0,0,none,0,0,a103,(r.ws++[((⟨x.label,vnm (V1.names+1),((V1.st.length:Nat):Int)⟩:SWay):SWay)]:List SWay).length,c103, -1⟩,oS:=obSw12}) ⟨r.ws++[(⟨x.label,vnm (V1.names+1),((V1.st.length:Nat):Int)⟩:SWay)],a103,c103,ob103,r.ts++(us75++us85),r.ss++(ss75++ss85),r.xs++(ys75++xs85),(r.nm+(1+nm85))⟩ (⟨hXw12.more om,o2q,(((hI3.trans hle64).trans hle75).trans hle85),hSw12,by dsimp only;omega,hO103,(hI7.le (fun q hq=>hA85.nn q (hA75.nn q (hA64.nn q hq)))).app ((hM75.le (fun q hq=>hA85.nn q hq)).app hM85),hH9⟩) ky (fun w hw=>hw.drop.drop) om):a:=h
theorem zq840 (h:a:=by
 refine aA (F:=F) (V:={V61 with oN:=(b62,[.int .i64 (V44.tm.length:Int),.int .i64 (V54.tm.length:Int)])::(V61).oN}) (m:=m+0+1+1) [(b10,_),(b8,_),(b5,_)] rfl rfl (ab rfl rfl rfl rfl) (fe ⟨7,[],[],[],(p.name++rr), -1,some ⟨b62,0,none⟩,2,2,none,0,0,none,0,0, -1⟩) hW61.pile om rfl (fun v66 V66 hle66 hW66 hp66=>?_)
 dsimp only at hle66 hp66
 obtain⟨rfl,hA66⟩:=hp66
 have hN66:=hA66.nn
 dsimp only at hN66
 replace hA66:XA V61 V66 _ _ _:=⟨hA66.tm,hA66.st,hA66.nm,hA66.rm,(fun p hp=>hN66 p (by first | exact List.mem_append_right _ hp | exact List.mem_cons_of_mem _ hp))⟩
 have hL66:=hA66.sl
 simp only [List.length_cons,List.length_nil] at hL66
 exact TL.nil (bn (V':=V66) (X:=[(b10,_),(b8,_),(b5,_)]) (.inl rfl) (ce rfl) rfl rfl (hW66.more om) ⟨[⟨0,s,0,[], -1, -1⟩,kv r60],_,[callX 7 (p.name++rr) [(V44.tm.length:Int),(V54.tm.length:Int)] (some ⟨b62,0,none⟩,2) ((V61.st.length:Int)+1)],rfl,by have h:=(hA44.trans (hA54.trans (hA61.trans (hA66))));exact h,Mir.one rfl ⟨.blk [(V44.tm.length:Int),(V54.tm.length:Int)] rfl rfl le2 (hN66 _ (List.mem_cons_self ..)),.nil,(fun c hc=>by cases hc),.nil⟩,Nat.le_refl _,by simp,fun Γ hΓ=>Pre.one 7 (nT (k:=7) (ts:=[⟨0,s,0,[], -1, -1⟩]) (us:=[kv r60]) (by have:=hA44.tl;simp only [List.length_nil] at this;show(V44.tm.length:Int)=((V.tm.length:Nat):Int);omega) (by have:=hA44.tl;simp only [List.length_nil] at this;show(V54.tm.length:Int)=((V.tm.length+1:Nat):Int);omega) (.inr rfl) (hX.pm hr44) (PrX.call hp44 hr44) ((dC hs hΓ).ts _) dq ((eo _ _).ts _) dq) rfl dq dq (by have h1:=hA44.sl;have h2:=hA54.sl;have h3:=hA61.sl;simp only [List.length_nil] at h1 h2 h3;show(V61.st.length:Int)+1=_;omega)⟩)):a:=h
theorem zq816 (h:a:=by
 have hbl:∀dp:Int,0≤dp→dp≤5→1≤V.room→BlkR F.ps dp V.room V.names V.st.length V.tm.length (ifX (V11.tm.length:Int) [⟨[],[],((V16.st.length:Nat):Int)⟩,⟨[],[],((V57.st.length:Nat):Int)⟩] (a78,c78)::([callX 6 F.self [(V16.tm.length:Int),i52] (some ⟨b53,0,none⟩,2) (-1)]++xs59)) ([⟨1,[],0,[], -1, -1⟩,⟨0,[110],0,[], -1, -1⟩,⟨12,[],0,[],(V.tm.length:Int),(V9.tm.length:Int)⟩,⟨0,[99],0,[], -1, -1⟩,⟨0,[110],0,[], -1, -1⟩,⟨1,[],1,[], -1, -1⟩,⟨7,[],0,[],V50.tm.length,V50.tm.length+1⟩]):=by
  intro dp h0 h5 hr
  have hx9:=hM59.len
  refine⟨by simp,by unfold stB;rw [if_neg om];simp;omega,by simp;omega,by unfold tmB;rw [if_neg om];simp;omega,fun Γ hG=>?_⟩
  rw [show(6 - dp).toNat=(5 - dp).toNat+1 by omega]
  exact yJ (Bl om (wj (eo _ _) (dC mY hG.m) rfl rfl dq rfl om) dq) rfl rfl om (by show(V57.st.length:Int)=((V.st.length+1+1:Nat):Int);omega) (SG.fin (nT (k:=6) (by show(V16.tm.length:Int)=((V.tm.length+3:Nat):Int);omega) (by show i52=((V.tm.length+3+1+2:Nat):Int);omega) (.inl ⟨rfl,rfl⟩) (CallOk.may hF.pr hF.sf) hF.sf ((dC zb hG.c).ts _) dq (wj (dC mY hG.m) (eo _ 1) rfl rfl dq (by show(V50.tm.length:Int)=((V.tm.length+3+1:Nat):Int);omega) (by show(V50.tm.length:Int)+1=((V.tm.length+3+1:Nat):Int)+1;omega)) dq) rfl ⟨by show(6:Int)≠3;decide,by show(6:Int)≠5;decide⟩) (by have h:=hg59 (5 - dp).toNat Γ (V.tm.length+3+4) (fun _=>hG.c);rw [e57] at h;exact h)
 exact bn (V':={{V59 with st:=(V59).st.set ((V.st.length:Nat):Int).toNat ⟨3,[],[],[],[],(V11.tm.length:Int),none,0,0,none,0,0,a78,([⟨[],[],((V16.st.length:Nat):Int)⟩,⟨[],[],((V57.st.length:Nat):Int)⟩]:List SWay).length,c78, -1⟩,oS:=obSw9} with oN:=ob78++({V59 with st:=(V59).st.set ((V.st.length:Nat):Int).toNat ⟨3,[],[],[],[],(V11.tm.length:Int),none,0,0,none,0,0,a78,([⟨[],[],((V16.st.length:Nat):Int)⟩,⟨[],[],((V57.st.length:Nat):Int)⟩]:List SWay).length,c78, -1⟩,oS:=obSw9}).oN}) (X:=[(b77,_),(b4,_),(b39,_),(b2,_)]) (.inl rfl) (ce rfl) rfl rfl (hXw9.pile.more om) ⟨_,_,ifX (V11.tm.length:Int) [⟨[],[],((V16.st.length:Nat):Int)⟩,⟨[],[],((V57.st.length:Nat):Int)⟩] (a78,c78)::([callX 6 F.self [(V16.tm.length:Int),i52] (some ⟨b53,0,none⟩,2) (-1)]++xs59),rfl,hSw9.pile (fun p hp=>List.mem_append_right _ hp),(Mir.one rfl ⟨.nil,.nil,(fun c hc=>by cases hc),.own hO78 (fun x hx=>List.mem_append_left _ hx)⟩).app ((Mir.one rfl ⟨.blk [(V16.tm.length:Int),i52] rfl rfl le2 (List.mem_append_right _ (hA59.nn _ (hN57 _ (List.mem_cons_self ..)))),.nil,(fun c hc=>by cases hc),.nil⟩).app (hM59.le (fun p hp=>List.mem_append_right _ hp))),hbl⟩):a:=h
end Go.Sx
