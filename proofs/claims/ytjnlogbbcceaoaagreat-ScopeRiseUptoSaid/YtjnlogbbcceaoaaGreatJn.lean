import Derived.Test.YtjnlogbbcceaoaaGreatJm
set_option linter.all false
namespace Go.Sx
variable {a b : Prop}
theorem zq6 (h:a:=by exact TL.nil (zq7)):a:=h
theorem zq3 (h:a:=by exact TC.seq (zq4)):a:=h
theorem zq2 (h:a:=by exact TC.seq (zq3)):a:=h
theorem zq38 (h:a:=by exact TL.nil (zq39)):a:=h
theorem zq25 (h:a:=by exact TC.seq (zq26)):a:=h
theorem zq23 (h:a:=by exact TC.seq (zq24)):a:=h
theorem zq17 (h:a:=by exact TL.nil (zq18)):a:=h
theorem zq11 (h:a:=by exact TC.seq (zq12)):a:=h
theorem zq10 (h:a:=by exact TC.seq (zq11)):a:=h
theorem zq7 (h:a:=by exact ag (zq8)):a:=h
theorem zq1 (h:a:=by exact ag (zq2)):a:=h
theorem zq0 (h:a:=by exact TC.skip (zq1)):a:=h
theorem zq61 (h:a:=by exact TC.ret (zq41)):a:=h
theorem zq59 (h:a:=by exact TL.nil (zq60)):a:=h
theorem zq56 (h:a:=by exact TC.seq (zq57)):a:=h
theorem zq53 (h:a:=by exact TL.nil (zq54)):a:=h
theorem zq80 (h:a:=by exact TL.nil (zq81)):a:=h
theorem zq77 (h:a:=by exact TC.seq (zq78)):a:=h
theorem zq70 (h:a:=by exact TC.seq (zq71)):a:=h
theorem zq68 (h:a:=by exact TL.nil (zq69)):a:=h
theorem zq65 (h:a:=by exact TC.seq (zq66)):a:=h
theorem zq63 (h:a:=by exact nW (zq64)):a:=h
theorem zq96 (h:a:=by exact TC.ret (zq97)):a:=h
theorem zq94 (h:a:=by exact TL.nil (zq95)):a:=h
theorem zq91 (h:a:=by exact TC.seq (zq92)):a:=h
theorem zq88 (h:a:=by exact TL.nil (zq89)):a:=h
theorem zq120 (h:a:=by exact TC.ret (zq99)):a:=h
theorem zq39 (h:a:=by exact ag (zq40)):a:=h
theorem zq22 (h:a:=by exact ag (zq23)):a:=h
theorem zq21 (h:a:=by exact TC.skip (zq22)):a:=h
theorem zq18 (h:a:=by exact ag (zq19)):a:=h
theorem zq8 (h:a:=by exact TC.block (zq9)):a:=h
theorem zq60 (h:a:=by exact ag (zq61)):a:=h
theorem zq54 (h:a:=by exact ag (zq55)):a:=h
theorem zq76 (h:a:=by exact ag (zq77)):a:=h
theorem zq72 (h:a:=by exact TC.exit (zq73)):a:=h
theorem zq69 (h:a:=by exact ag (zq70)):a:=h
theorem zq64 (h:a:=by exact fO (zq65)):a:=h
theorem zq95 (h:a:=by exact ag (zq96)):a:=h
theorem zq89 (h:a:=by exact ag (zq90)):a:=h
theorem zq118 (h:a:=by exact TL.nil (zq119)):a:=h
theorem zq115 (h:a:=by exact TC.seq (zq116)):a:=h
theorem zq112 (h:a:=by exact TL.nil (zq113)):a:=h
theorem zq126 (h:a:=by exact TC.ret (zq127)):a:=h
theorem zq124 (h:a:=by exact TL.nil (zq125)):a:=h
theorem vQ (h:a:=by exact TC.seq (zq122)):a:=h
theorem zq151 (h:a:=by exact TC.ret (zq152)):a:=h
theorem zq149 (h:a:=by exact TL.nil (zq150)):a:=h
theorem zq145 (h:a:=by exact TC.seq (zq146)):a:=h
theorem zq156 (h:a:=by exact TL.nil (zq144)):a:=h
theorem zq140 (h:a:=by exact TL.nil (zq141)):a:=h
theorem zq135 (h:a:=by exact TC.seq (zq136)):a:=h
theorem zq134 (h:a:=by exact TC.seq (zq135)):a:=h
theorem zq162 (h:a:=by exact TL.nil (zq132)):a:=h
theorem zq238 (h:a:=by exact TC.seq (zq239)):a:=h
theorem zq236 (h:a:=by exact TL.nil (zq237)):a:=h
theorem zq233 (h:a:=by exact TC.seq (zq234)):a:=h
theorem zq227 (h:a:=by exact TL.nil (zq228)):a:=h
theorem zq221 (h:a:=by exact TC.seq (zq222)):a:=h
theorem zq220 (h:a:=by exact TC.seq (zq221)):a:=h
theorem zq218 (h:a:=by exact TL.nil (zq219)):a:=h
theorem zq211 (h:a:=by exact TC.seq (zq212)):a:=h
theorem zq247 (h:a:=by exact TC.seq (zq248)):a:=h
theorem zq245 (h:a:=by exact TL.nil (zq246)):a:=h
theorem zq242 (h:a:=by exact TC.seq (zq243)):a:=h
theorem zq251 (h:a:=by exact TL.nil (zq252)):a:=h
theorem zq273 (h:a:=by exact TL.nil (zq274)):a:=h
theorem zq267 (h:a:=by exact TL.nil (zq268)):a:=h
theorem zq286 (h:a:=by exact TL.nil (zq287)):a:=h
theorem zq279 (h:a:=by exact TL.nil (zq280)):a:=h
theorem CM (h:a:=by exact TC.seq (zq276)):a:=h
theorem zq296 (h:a:=by exact TL.nil (zq297)):a:=h
theorem vP (h:a:=by exact TC.seq (zq294)):a:=h
theorem zq309 (h:a:=by exact TL.nil (zq310)):a:=h
theorem zq304 (h:a:=by exact TC.seq (zq305)):a:=h
theorem zq302 (h:a:=by exact TC.seq (zq303)):a:=h
theorem zq323 (h:a:=by exact TC.seq (zq324)):a:=h
theorem zq318 (h:a:=by exact TC.seq (zq319)):a:=h
theorem zq316 (h:a:=by exact TL.nil (zq317)):a:=h
theorem zq313 (h:a:=by exact TC.seq (zq314)):a:=h
theorem zq422 (h:a:=by exact TC.seq (zq423)):a:=h
theorem zq417 (h:a:=by exact TL.nil (zq418)):a:=h
theorem zq409 (h:a:=by exact TC.seq (zq410)):a:=h
theorem zq408 (h:a:=by exact TC.seq (zq409)):a:=h
theorem zq400 (h:a:=by exact TL.nil (zq401)):a:=h
theorem zq391 (h:a:=by exact TC.seq (zq392)):a:=h
theorem zq390 (h:a:=by exact TC.seq (zq391)):a:=h
theorem zq385 (h:a:=by exact TL.nil (zq386)):a:=h
theorem zq380 (h:a:=by exact TC.seq (zq381)):a:=h
theorem zq379 (h:a:=by exact TC.seq (zq380)):a:=h
theorem zq455 (h:a:=by exact TC.seq (zq456)):a:=h
theorem zq453 (h:a:=by exact TL.nil (zq454)):a:=h
theorem zq446 (h:a:=by exact TC.seq (zq447)):a:=h
theorem zq444 (h:a:=by exact TL.nil (zq445)):a:=h
theorem zq437 (h:a:=by exact TC.seq (zq438)):a:=h
theorem zq467 (h:a:=by exact TL.nil (zq468)):a:=h
theorem zq593 (h:a:=by exact TL.nil (zq594)):a:=h
theorem zq589 (h:a:=by exact TC.seq (zq590)):a:=h
theorem zq588 (h:a:=by exact TC.seq (zq589)):a:=h
theorem zq586 (h:a:=by exact TL.nil (zq587)):a:=h
theorem zq575 (h:a:=by exact TC.seq (zq576)):a:=h
theorem zq573 (h:a:=by exact TL.nil (zq574)):a:=h
theorem zq546 (h:a:=by exact TC.seq (zq547)):a:=h
theorem zq544 (h:a:=by exact TC.seq (zq545)):a:=h
theorem zq538 (h:a:=by exact TL.nil (zq539)):a:=h
theorem zq532 (h:a:=by exact TC.seq (zq533)):a:=h
theorem zq531 (h:a:=by exact TC.seq (zq532)):a:=h
theorem zq523 (h:a:=by exact TL.nil (zq524)):a:=h
theorem zq520 (h:a:=by exact TC.seq (zq521)):a:=h
theorem zq519 (h:a:=by exact TC.seq (zq520)):a:=h
theorem zq517 (h:a:=by exact TL.nil (zq518)):a:=h
theorem zq508 (h:a:=by exact TC.seq (zq509)):a:=h
theorem zq612 (h:a:=by exact TC.seq (zq613)):a:=h
theorem zq610 (h:a:=by exact TC.seq (zq611)):a:=h
theorem zq500 (h:a:=by exact TL.nil (zq501)):a:=h
theorem zq494 (h:a:=by exact TC.seq (zq495)):a:=h
theorem zq493 (h:a:=by exact TC.seq (zq494)):a:=h
theorem zq488 (h:a:=by exact TL.nil (zq489)):a:=h
theorem zq485 (h:a:=by exact TC.seq (zq486)):a:=h
theorem zq484 (h:a:=by exact TC.seq (zq485)):a:=h
theorem zq479 (h:a:=by exact TL.nil (zq480)):a:=h
theorem zq473 (h:a:=by exact TC.seq (zq474)):a:=h
theorem zq472 (h:a:=by exact TC.seq (zq473)):a:=h
theorem zq638 (h:a:=by exact TL.nil (zq639)):a:=h
theorem zq634 (h:a:=by exact TC.seq (zq635)):a:=h
theorem zq633 (h:a:=by exact TC.seq (zq634)):a:=h
theorem zq631 (h:a:=by exact TF.nil (zq632)):a:=h
theorem zq699 (h:a:=by exact TL.nil (zq700)):a:=h
theorem zq896 (h:a:=by exact TF.nil (zq897)):a:=h
theorem zq861 (h:a:=by exact TL.nil (zq862)):a:=h
theorem zq851 (h:a:=by exact TC.seq (zq852)):a:=h
theorem zq849 (h:a:=by exact TF.nil (zq850)):a:=h
theorem zq815 (h:a:=by exact TC.seq (zq816)):a:=h
theorem zq813 (h:a:=by exact TL.nil (zq814)):a:=h
theorem zq803 (h:a:=by exact TC.seq (zq804)):a:=h
theorem zq801 (h:a:=by exact TF.nil (zq802)):a:=h
theorem zq773 (h:a:=by exact TC.seq (zq774)):a:=h
theorem zq771 (h:a:=by exact TL.nil (zq772)):a:=h
theorem zq763 (h:a:=by exact TC.seq (zq764)):a:=h
theorem zq761 (h:a:=by exact TL.nil (zq762)):a:=h
theorem zq738 (h:a:=by exact TC.seq (zq739)):a:=h
theorem zq736 (h:a:=by exact TL.nil (zq737)):a:=h
theorem zq731 (h:a:=by exact TC.seq (zq732)):a:=h
theorem zq728 (h:a:=by exact TL.nil (zq729)):a:=h
theorem zq683 (h:a:=by exact TC.seq (zq684)):a:=h
theorem zq680 (h:a:=by exact TL.nil (zq681)):a:=h
theorem zq674 (h:a:=by exact TC.seq (zq675)):a:=h
theorem zq671 (h:a:=by exact TL.nil (zq672)):a:=h
theorem zq657 (h:a:=by exact TC.seq (zq658)):a:=h
theorem zq654 (h:a:=by exact TL.nil (zq655)):a:=h
theorem zq939 (h:a:=by exact TC.seq (zq940)):a:=h
theorem zq937 (h:a:=by exact TF.nil (zq938)):a:=h
theorem zq960 (h:a:=by exact TC.seq (zq961)):a:=h
theorem zq958 (h:a:=by exact TF.nil (zq959)):a:=h
theorem zq994 (h:a:=by exact TL.nil (zq995)):a:=h
theorem zq991 (h:a:=by exact TC.seq (zq992)):a:=h
theorem zq990 (h:a:=by exact TC.seq (zq991)):a:=h
theorem zq985 (h:a:=by exact TF.nil (zq986)):a:=h
theorem zq41 (h:a:=by exact aD (zq20)):a:=h
theorem zq24 (h:a:=by exact TC.block (zq25)):a:=h
theorem zq4 (h:a:=by exact TC.region (zq5)):a:=h
theorem zq74 (h:a:=by exact bQ (zq75)):a:=h
theorem zq73 (h:a:=by exact bQ (zq74)):a:=h
theorem zq97 (h:a:=by exact aD (zq98)):a:=h
theorem zq102 (h:a:=by exact bp (zq103)):a:=h
theorem zq99 (h:a:=by exact bp (zq100)):a:=h
theorem zq119 (h:a:=by exact ag (zq120)):a:=h
theorem zq113 (h:a:=by exact ag (zq114)):a:=h
theorem zq131 (h:a:=by exact aD (zq82)):a:=h
theorem zq130 (h:a:=by exact bp (zq131)):a:=h
theorem zq127 (h:a:=by exact bp (zq128)):a:=h
theorem zq125 (h:a:=by exact ag (zq126)):a:=h
theorem zq150 (h:a:=by exact ag (zq151)):a:=h
theorem zq144 (h:a:=by exact ag (zq145)):a:=h
theorem zq143 (h:a:=by exact TC.skip (zq144)):a:=h
theorem zq141 (h:a:=by exact ag (zq142)):a:=h
theorem zq133 (h:a:=by exact ag (zq134)):a:=h
theorem zq132 (h:a:=by exact bq (zq133)):a:=h
theorem pM (h:a:=by exact bp (zL)):a:=h
theorem zq237 (h:a:=by exact ag (zq238)):a:=h
theorem zq228 (h:a:=by exact ag (zq229)):a:=h
theorem zq219 (h:a:=by exact ag (zq220)):a:=h
theorem zq210 (h:a:=by exact ag (zq211)):a:=h
theorem zq209 (h:a:=by exact bq (zq210)):a:=h
theorem zq208 (h:a:=by exact TC.skip (zq209)):a:=h
theorem zq246 (h:a:=by exact ag (zq247)):a:=h
theorem zq253 (h:a:=by exact ag (zq254)):a:=h
theorem zq252 (h:a:=by exact bq (zq253)):a:=h
theorem zq269 (h:a:=by exact ag (zq270)):a:=h
theorem zq268 (h:a:=by exact bq (zq269)):a:=h
theorem zq287 (h:a:=by exact ag (zq288)):a:=h
theorem zq280 (h:a:=by exact ag (zq281)):a:=h
theorem zq310 (h:a:=by exact ag (zq311)):a:=h
theorem zq301 (h:a:=by exact ag (zq302)):a:=h
theorem zq300 (h:a:=by exact TC.skip (zq301)):a:=h
theorem zq317 (h:a:=by exact ag (zq318)):a:=h
theorem zq312 (h:a:=by exact ag (zq313)):a:=h
theorem zq421 (h:a:=by exact ag (zq422)):a:=h
theorem zq420 (h:a:=by exact TC.skip (zq421)):a:=h
theorem zq418 (h:a:=by exact ag (zq419)):a:=h
theorem zq407 (h:a:=by exact ag (zq408)):a:=h
theorem zq403 (h:a:=by exact TC.exit (zq404)):a:=h
theorem zq401 (h:a:=by exact ag (zq402)):a:=h
theorem zq386 (h:a:=by exact ag (zq387)):a:=h
theorem zq378 (h:a:=by exact ag (zq379)):a:=h
theorem zq374 (h:a:=by exact TC.exit (zq375)):a:=h
theorem zq454 (h:a:=by exact ag (zq455)):a:=h
theorem zq445 (h:a:=by exact ag (zq446)):a:=h
theorem zq436 (h:a:=by exact ag (zq437)):a:=h
theorem zq435 (h:a:=by exact TC.skip (zq436)):a:=h
theorem zq468 (h:a:=by exact ag (zq469)):a:=h
theorem zq597 (h:a:=by exact ag (zq598)):a:=h
theorem zq596 (h:a:=by exact TC.skip (zq597)):a:=h
theorem zq594 (h:a:=by exact ag (zq595)):a:=h
theorem zq587 (h:a:=by exact ag (zq588)):a:=h
theorem zq574 (h:a:=by exact ag (zq575)):a:=h
theorem zq543 (h:a:=by exact ag (zq544)):a:=h
theorem zq542 (h:a:=by exact TC.skip (zq543)):a:=h
theorem zq539 (h:a:=by exact ag (zq540)):a:=h
theorem zq524 (h:a:=by exact ag (zq525)):a:=h
theorem zq518 (h:a:=by exact ag (zq519)):a:=h
theorem zq507 (h:a:=by exact ag (zq508)):a:=h
theorem zq503 (h:a:=by exact TC.exit (zq504)):a:=h
theorem zq609 (h:a:=by exact ag (zq610)):a:=h
theorem zq608 (h:a:=by exact TC.skip (zq609)):a:=h
theorem zq501 (h:a:=by exact ag (zq502)):a:=h
theorem zq489 (h:a:=by exact ag (zq490)):a:=h
theorem zq483 (h:a:=by exact ag (zq484)):a:=h
theorem zq482 (h:a:=by exact TC.skip (zq483)):a:=h
theorem zq480 (h:a:=by exact ag (zq481)):a:=h
theorem zq471 (h:a:=by exact ag (zq472)):a:=h
theorem zq470 (h:a:=by exact TC.skip (zq471)):a:=h
theorem zq639 (h:a:=by exact ag (zq640)):a:=h
theorem zq632 (h:a:=by exact ag (zq633)):a:=h
theorem zq629 (h:a:=by exact TF.back (zq630)):a:=h
theorem zq627 (h:a:=by exact bz (zq628)):a:=h
theorem zq700 (h:a:=by exact ag (zq701)):a:=h
theorem zq897 (h:a:=by exact bq (zq898)):a:=h
theorem zq862 (h:a:=by exact ag (zq863)):a:=h
theorem zq850 (h:a:=by exact ag (zq851)):a:=h
theorem zq814 (h:a:=by exact ag (zq815)):a:=h
theorem zq802 (h:a:=by exact ag (zq803)):a:=h
theorem zq772 (h:a:=by exact ag (zq773)):a:=h
theorem zq762 (h:a:=by exact ag (zq763)):a:=h
theorem zq737 (h:a:=by exact ag (zq738)):a:=h
theorem zq729 (h:a:=by exact ag (zq730)):a:=h
theorem zq681 (h:a:=by exact ag (zq682)):a:=h
theorem zq672 (h:a:=by exact ag (zq673)):a:=h
theorem zq655 (h:a:=by exact ag (zq656)):a:=h
theorem zq938 (h:a:=by exact ag (zq939)):a:=h
theorem zq936 (h:a:=by exact TF.back (zq937)):a:=h
theorem zq934 (h:a:=by exact bz (zq935)):a:=h
theorem zq959 (h:a:=by exact ag (zq960)):a:=h
theorem zq957 (h:a:=by exact TF.back (zq958)):a:=h
theorem zq955 (h:a:=by exact bz (zq956)):a:=h
theorem zq966 (h:a:=by exact ag (zq967)):a:=h
theorem zq965 (h:a:=by exact bq (zq966)):a:=h
theorem io (h:a:=by exact TC.skip (zq965)):a:=h
theorem zq1020 (h:a:=by exact TC.seq (zq1021)):a:=h
theorem zq1018 (h:a:=by exact TC.seq (zq1019)):a:=h
theorem zq1007 (h:a:=by exact TL.nil (zq1008)):a:=h
theorem zq1000 (h:a:=by exact TC.seq (zq1001)):a:=h
theorem zq999 (h:a:=by exact TC.seq (zq1000)):a:=h
theorem zq995 (h:a:=by exact ag (zq996)):a:=h
theorem zq989 (h:a:=by exact ag (zq990)):a:=h
theorem zq988 (h:a:=by exact TC.skip (zq989)):a:=h
theorem zq986 (h:a:=by exact ag (zq987)):a:=h
theorem zq972 (h:a:=by exact TF.back (zq973)):a:=h
theorem zq970 (h:a:=by exact bz (zq971)):a:=h
theorem zq26 (h:a:=by exact TC.region (zq27)):a:=h
theorem zq12 (h:a:=by exact TC.region (zq13)):a:=h
theorem zq57 (h:a:=by exact TC.region (zq58)):a:=h
theorem zq78 (h:a:=by exact TC.region (zq79)):a:=h
theorem zq75 (h:a:=by exact dc (zq76)):a:=h
theorem zq66 (h:a:=by exact TC.region (zq67)):a:=h
theorem zq92 (h:a:=by exact TC.region (zq93)):a:=h
theorem zq103 (h:a:=by exact aD (zq104)):a:=h
theorem zq101 (h:a:=by exact aD (zq102)):a:=h
theorem zq100 (h:a:=by exact aD (zq101)):a:=h
theorem zq129 (h:a:=by exact aD (zq130)):a:=h
theorem zq128 (h:a:=by exact aD (zq129)):a:=h
theorem zq168 (h:a:=by exact aD (zq165)):a:=h
theorem zL (h:a:=by exact aD (CO)):a:=h
theorem zq229 (h:a:=by exact TC.block (zq230)):a:=h
theorem vO (h:a:=by exact aD (CL)):a:=h
theorem zq303 (h:a:=by exact TC.block (zq304)):a:=h
theorem zq319 (h:a:=by exact TC.block (zq320)):a:=h
theorem zq405 (h:a:=by exact bQ (zq406)):a:=h
theorem zq404 (h:a:=by exact bQ (zq405)):a:=h
theorem zq387 (h:a:=by exact TC.block (zq388)):a:=h
theorem zq376 (h:a:=by exact bQ (zq377)):a:=h
theorem zq375 (h:a:=by exact bQ (zq376)):a:=h
theorem zq557 (h:a:=by
 subst eH90
 exact zq558):a:=h
theorem zq545 (h:a:=by exact TC.block (zq546)):a:=h
theorem zq525 (h:a:=by exact TC.block (zq526)):a:=h
theorem zq505 (h:a:=by exact bQ (zq506)):a:=h
theorem zq504 (h:a:=by exact bQ (zq505)):a:=h
theorem zq623 (h:a:=by
 subst eH67
 exact zq624):a:=h
theorem zq611 (h:a:=by exact TC.block (zq612)):a:=h
theorem zq490 (h:a:=by exact TC.block (zq491)):a:=h
theorem zq1017 (h:a:=by exact ag (zq1018)):a:=h
theorem zq1016 (h:a:=by exact TC.skip (zq1017)):a:=h
theorem zq1008 (h:a:=by exact ag (zq1009)):a:=h
theorem zq996 (h:a:=by exact TC.block (zq997)):a:=h
theorem zq5 (h:a:=by
 refine zm0 ?_
 exact zq6):a:=h
theorem zq116 (h:a:=by exact TC.region (zq117)):a:=h
theorem zq122 (h:a:=by exact TC.region (zq123)):a:=h
theorem zq146 (h:a:=by exact TC.region (zq147)):a:=h
theorem zq153 (h:a:=by exact TC.region (zq154)):a:=h
theorem zq136 (h:a:=by exact TC.region (zq137)):a:=h
theorem CR (h:a:=by exact TC.region (zq158)):a:=h
theorem zq234 (h:a:=by exact TC.region (zq235)):a:=h
theorem zq222 (h:a:=by exact TC.region (zq223)):a:=h
theorem zq212 (h:a:=by exact TC.region (zq213)):a:=h
theorem zq243 (h:a:=by exact TC.region (zq244)):a:=h
theorem zq270 (h:a:=by exact TC.region (zq271)):a:=h
theorem zq288 (h:a:=by exact TC.region (zq289)):a:=h
theorem zq281 (h:a:=by exact TC.region (zq282)):a:=h
theorem zq276 (h:a:=by exact TC.region (zq277)):a:=h
theorem zq294 (h:a:=by exact TC.region (zq295)):a:=h
theorem zq305 (h:a:=by exact TC.region (zq306)):a:=h
theorem zq314 (h:a:=by exact TC.region (zq315)):a:=h
theorem zq423 (h:a:=by exact TC.region (zq424)):a:=h
theorem zq410 (h:a:=by exact TC.region (zq411)):a:=h
theorem zq406 (h:a:=by exact dc (zq407)):a:=h
theorem zq392 (h:a:=by exact TC.region (zq393)):a:=h
theorem zq381 (h:a:=by exact TC.region (zq382)):a:=h
theorem zq377 (h:a:=by exact dc (zq378)):a:=h
theorem zq456 (h:a:=by exact TC.region (zq457)):a:=h
theorem zq447 (h:a:=by exact TC.region (zq448)):a:=h
theorem zq438 (h:a:=by exact TC.region (zq439)):a:=h
theorem zq590 (h:a:=by exact TC.region (zq591)):a:=h
theorem zq576 (h:a:=by exact TC.region (zq577)):a:=h
theorem zq547 (h:a:=by exact TC.region (zq548)):a:=h
theorem zq533 (h:a:=by exact TC.region (zq534)):a:=h
theorem zq521 (h:a:=by exact TC.region (zq522)):a:=h
theorem zq509 (h:a:=by exact TC.region (zq510)):a:=h
theorem zq506 (h:a:=by exact dc (zq507)):a:=h
theorem zq613 (h:a:=by exact TC.region (zq614)):a:=h
theorem zq495 (h:a:=by exact TC.region (zq496)):a:=h
theorem zq486 (h:a:=by exact TC.region (zq487)):a:=h
theorem zq474 (h:a:=by exact TC.region (zq475)):a:=h
theorem zq635 (h:a:=by exact TC.region (zq636)):a:=h
theorem zq852 (h:a:=by exact TC.region (zq853)):a:=h
theorem zq804 (h:a:=by exact TC.region (zq805)):a:=h
theorem zq764 (h:a:=by exact TC.region (zq765)):a:=h
theorem zq739 (h:a:=by exact TC.region (zq740)):a:=h
theorem zq732 (h:a:=by exact TC.region (zq733)):a:=h
theorem zq684 (h:a:=by exact TC.region (zq685)):a:=h
theorem zq675 (h:a:=by exact TC.region (zq676)):a:=h
theorem zq918 (h:a:=by exact TC.region (zq919)):a:=h
theorem zq658 (h:a:=by exact TC.region (zq659)):a:=h
theorem zq940 (h:a:=by exact TC.region (zq941)):a:=h
theorem zq961 (h:a:=by exact TC.region (zq962)):a:=h
theorem zq967 (h:a:=by exact TC.region (zq968)):a:=h
theorem zq1019 (h:a:=by exact TC.block (zq1020)):a:=h
theorem zq992 (h:a:=by exact TC.region (zq993)):a:=h
theorem zq37 (h:a:=by
 refine zm0 ?_
 exact zq38):a:=h
theorem zq33 (h:a:=by
 refine zm0 ?_
 exact zq34):a:=h
theorem zq32 (h:a:=by
 refine zm0 ?_
 exact zq33):a:=h
theorem zq29 (h:a:=by
 refine zm0 ?_
 exact zq30):a:=h
theorem zq28 (h:a:=by
 refine zm0 ?_
 exact zq29):a:=h
theorem zq16 (h:a:=by
 refine zm0 ?_
 exact zq17):a:=h
theorem zq14 (h:a:=by
 refine zm0 ?_
 exact zq15):a:=h
theorem zq13 (h:a:=by
 refine zm0 ?_
 exact zq14):a:=h
theorem zq58 (h:a:=by
 refine zm0 ?_
 exact zq59):a:=h
theorem zq52 (h:a:=by
 refine zm0 ?_
 exact zq53):a:=h
theorem zq49 (h:a:=by
 refine zm0 ?_
 exact zq50):a:=h
theorem zq48 (h:a:=by
 refine zm0 ?_
 exact zq49):a:=h
theorem zq79 (h:a:=by
 refine zm0 ?_
 exact zq80):a:=h
theorem zq67 (h:a:=by
 refine zm0 ?_
 exact zq68):a:=h
theorem zq93 (h:a:=by
 refine zm0 ?_
 exact zq94):a:=h
theorem zq87 (h:a:=by
 refine zm0 ?_
 exact zq88):a:=h
theorem zq1001 (h:a:=by exact TC.region (zq1002)):a:=h
theorem zq36 (h:a:=by
 refine cQ ?_
 exact zq37):a:=h
theorem zq55 (h:a:=by exact cW rfl (zq56)):a:=h
theorem zq51 (h:a:=by
 refine cE ?_
 exact zq52):a:=h
theorem zq50 (h:a:=by
 refine cE ?_
 exact zq51):a:=h
theorem zq47 (h:a:=by
 refine cE ?_
 exact zq48):a:=h
theorem zq46 (h:a:=by
 refine cE ?_
 exact zq47):a:=h
theorem zq45 (h:a:=by
 refine cE ?_
 exact zq46):a:=h
theorem zq44 (h:a:=by
 refine cE ?_
 exact zq45):a:=h
theorem zq43 (h:a:=by
 refine jn ?_
 exact zq44):a:=h
theorem zq71 (h:a:=by exact eM rfl (zq72)):a:=h
theorem zq90 (h:a:=by exact cW rfl (zq91)):a:=h
theorem zq86 (h:a:=by
 refine cE ?_
 exact zq87):a:=h
theorem zq85 (h:a:=by
 refine cE ?_
 exact zq86):a:=h
theorem zq84 (h:a:=by
 refine cE ?_
 exact zq85):a:=h
theorem zq117 (h:a:=by
 refine zm0 ?_
 exact zq118):a:=h
theorem zq111 (h:a:=by
 refine zm0 ?_
 exact zq112):a:=h
theorem zq123 (h:a:=by
 refine zm0 ?_
 exact zq124):a:=h
theorem zq154 (h:a:=by
 refine zm5 ?_
 exact zq155):a:=h
theorem zq137 (h:a:=by
 refine zm5 ?_
 exact zq138):a:=h
theorem CQ (h:a:=by
 refine zm5 ?_
 exact zq161):a:=h
theorem zq158 (h:a:=by
 refine zm5 ?_
 exact zq159):a:=h
theorem CP (h:a:=by
 refine zm5 ?_
 exact zq164):a:=h
theorem pN (h:a:=by
 refine zm0 ?_
 exact zq167):a:=h
theorem zq204 (h:a:=by
 refine zm0 ?_
 exact zq205):a:=h
theorem zq203 (h:a:=by
 refine zm0 ?_
 exact zq204):a:=h
theorem zq198 (h:a:=by
 refine zm0 ?_
 exact zq199):a:=h
theorem zq197 (h:a:=by
 refine zm0 ?_
 exact zq198):a:=h
theorem zq192 (h:a:=by
 refine zm0 ?_
 exact zq193):a:=h
theorem zq191 (h:a:=by
 refine zm0 ?_
 exact zq192):a:=h
theorem zq187 (h:a:=by
 refine zm0 ?_
 exact zq188):a:=h
theorem zq186 (h:a:=by
 refine zm0 ?_
 exact zq187):a:=h
theorem zq235 (h:a:=by
 refine zm0 ?_
 exact zq236):a:=h
theorem zq226 (h:a:=by
 refine zm0 ?_
 exact zq227):a:=h
theorem zq223 (h:a:=by
 refine zm5 ?_
 exact zq224):a:=h
theorem zq217 (h:a:=by
 refine zm0 ?_
 exact zq218):a:=h
theorem zq214 (h:a:=by
 refine zm5 ?_
 exact zq215):a:=h
theorem zq213 (h:a:=by
 refine zm0 ?_
 exact zq214):a:=h
theorem zq244 (h:a:=by
 refine zm0 ?_
 exact zq245):a:=h
theorem zK (h:a:=by
 refine zm5 ?_
 exact zq250):a:=h
theorem zq272 (h:a:=by
 refine zm0 ?_
 exact zq273):a:=h
theorem zq265 (h:a:=by
 refine zm5 ?_
 exact zq266):a:=h
theorem zq260 (h:a:=by
 refine zm5 ?_
 exact zq261):a:=h
theorem zq289 (h:a:=by
 refine zm5 ?_
 exact zq290):a:=h
theorem zq284 (h:a:=by
 refine zm5 ?_
 exact zq285):a:=h
theorem zq282 (h:a:=by
 refine zm5 ?_
 exact zq283):a:=h
theorem zq277 (h:a:=by
 refine zm5 ?_
 exact zq278):a:=h
theorem zq295 (h:a:=by
 refine zm0 ?_
 exact zq296):a:=h
theorem zq308 (h:a:=by
 refine zm0 ?_
 exact zq309):a:=h
theorem zq315 (h:a:=by
 refine zm0 ?_
 exact zq316):a:=h
theorem zq332 (h:a:=by
 refine zm7 ?_
 exact zq333):a:=h
theorem zq331 (h:a:=by
 refine zm7 ?_
 exact zq332):a:=h
theorem zq355 (h:a:=by
 refine zm7 ?_
 exact zq356):a:=h
theorem zq354 (h:a:=by
 refine zm7 ?_
 exact zq355):a:=h
theorem zq429 (h:a:=by
 refine zm0 ?_
 exact zq430):a:=h
theorem zq427 (h:a:=by
 refine zm5 ?_
 exact zq428):a:=h
theorem zq425 (h:a:=by
 refine zm0 ?_
 exact zq426):a:=h
theorem zq424 (h:a:=by
 refine zm0 ?_
 exact zq425):a:=h
theorem zq416 (h:a:=by
 refine zm0 ?_
 exact zq417):a:=h
theorem zq413 (h:a:=by
 refine zm5 ?_
 exact zq414):a:=h
theorem zq411 (h:a:=by
 refine zm0 ?_
 exact zq412):a:=h
theorem zq399 (h:a:=by
 refine zm0 ?_
 exact zq400):a:=h
theorem zq396 (h:a:=by
 refine zm5 ?_
 exact zq397):a:=h
theorem zq394 (h:a:=by
 refine zm0 ?_
 exact zq395):a:=h
theorem zq393 (h:a:=by
 refine zm0 ?_
 exact zq394):a:=h
theorem zq384 (h:a:=by
 refine zm0 ?_
 exact zq385):a:=h
theorem zq458 (h:a:=by
 refine zm0 ?_
 exact zq459):a:=h
theorem zq457 (h:a:=by
 refine zm0 ?_
 exact zq458):a:=h
theorem zq452 (h:a:=by
 refine zm0 ?_
 exact zq453):a:=h
theorem zq449 (h:a:=by
 refine zm0 ?_
 exact zq450):a:=h
theorem zq448 (h:a:=by
 refine zm0 ?_
 exact zq449):a:=h
theorem zq443 (h:a:=by
 refine zm0 ?_
 exact zq444):a:=h
theorem zq440 (h:a:=by
 refine zm0 ?_
 exact zq441):a:=h
theorem zq439 (h:a:=by
 refine zm0 ?_
 exact zq440):a:=h
theorem zq466 (h:a:=by
 refine zm0 ?_
 exact zq467):a:=h
theorem zq604 (h:a:=by
 refine zm7 ?_
 exact zq605):a:=h
theorem zq603 (h:a:=by
 refine zm7 ?_
 exact zq604):a:=h
theorem zq601 (h:a:=by
 refine zm4 ?_
 exact zq602):a:=h
theorem zq592 (h:a:=by
 refine zm0 ?_
 exact zq593):a:=h
theorem zq591 (h:a:=by
 refine zm0 ?_
 exact zq592):a:=h
theorem zq585 (h:a:=by
 refine zm0 ?_
 exact zq586):a:=h
theorem zq584 (h:a:=by
 refine zm0 ?_
 exact zq585):a:=h
theorem zq583 (h:a:=by
 refine zm0 ?_
 exact zq584):a:=h
theorem zq582 (h:a:=by
 refine zm0 ?_
 exact zq583):a:=h
theorem zq581 (h:a:=by
 refine zm0 ?_
 exact zq582):a:=h
theorem zq578 (h:a:=by
 refine zm0 ?_
 exact zq579):a:=h
theorem zq577 (h:a:=by
 refine zm0 ?_
 exact zq578):a:=h
theorem zq572 (h:a:=by
 refine zm0 ?_
 exact zq573):a:=h
theorem zq571 (h:a:=by
 refine zm0 ?_
 exact zq572):a:=h
theorem zq568 (h:a:=by
 refine zm0 ?_
 exact zq569):a:=h
theorem zq567 (h:a:=by
 refine zm0 ?_
 exact zq568):a:=h
theorem zq566 (h:a:=by
 refine zm0 ?_
 exact zq567):a:=h
theorem zq565 (h:a:=by
 refine zm0 ?_
 exact zq566):a:=h
theorem zq551 (h:a:=by
 refine zm0 ?_
 exact zq552):a:=h
theorem zq550 (h:a:=by
 refine zm0 ?_
 exact zq551):a:=h
theorem zq549 (h:a:=by
 refine zm0 ?_
 exact zq550):a:=h
theorem zq548 (h:a:=by
 refine zm0 ?_
 exact zq549):a:=h
theorem zq537 (h:a:=by
 refine zm0 ?_
 exact zq538):a:=h
theorem zq535 (h:a:=by
 refine zm0 ?_
 exact zq536):a:=h
theorem zq534 (h:a:=by
 refine zm0 ?_
 exact zq535):a:=h
theorem zq522 (h:a:=by
 refine zm0 ?_
 exact zq523):a:=h
theorem zq513 (h:a:=by
 refine zm0 ?_
 exact zq514):a:=h
theorem zq512 (h:a:=by
 refine zm0 ?_
 exact zq513):a:=h
theorem zq625 (h:a:=by
 refine zm0 ?_
 exact zq626):a:=h
theorem zq624 (h:a:=by
 refine zm0 ?_
 exact zq625):a:=h
theorem zq617 (h:a:=by
 refine zm0 ?_
 exact zq618):a:=h
theorem zq616 (h:a:=by
 refine zm0 ?_
 exact zq617):a:=h
theorem zq615 (h:a:=by
 refine zm0 ?_
 exact zq616):a:=h
theorem zq614 (h:a:=by
 refine zm0 ?_
 exact zq615):a:=h
theorem zq499 (h:a:=by
 refine zm0 ?_
 exact zq500):a:=h
theorem zq497 (h:a:=by
 refine zm0 ?_
 exact zq498):a:=h
theorem zq496 (h:a:=by
 refine zm0 ?_
 exact zq497):a:=h
theorem zq487 (h:a:=by
 refine zm0 ?_
 exact zq488):a:=h
theorem zq478 (h:a:=by
 refine zm0 ?_
 exact zq479):a:=h
theorem zq476 (h:a:=by
 refine zm0 ?_
 exact zq477):a:=h
theorem zq637 (h:a:=by
 refine zm0 ?_
 exact zq638):a:=h
theorem zq636 (h:a:=by
 refine zm0 ?_
 exact zq637):a:=h
theorem zq630 (h:a:=by
 refine zm7 ?_
 exact zq631):a:=h
theorem zq713 (h:a:=by
 refine zm7 ?_
 exact zq714):a:=h
theorem zq710 (h:a:=by
 refine zm4 ?_
 exact zq711):a:=h
theorem zq708 (h:a:=by
 refine zm4 ?_
 exact zq709):a:=h
theorem zq706 (h:a:=by
 refine zm7 ?_
 exact zq707):a:=h
theorem zq705 (h:a:=by
 refine zm7 ?_
 exact zq706):a:=h
theorem zq704 (h:a:=by
 refine zm7 ?_
 exact zq705):a:=h
theorem zq698 (h:a:=by
 refine zm0 ?_
 exact zq699):a:=h
theorem zq697 (h:a:=by
 refine zm0 ?_
 exact zq698):a:=h
theorem zq892 (h:a:=by
 refine zm4 ?_
 exact zq893):a:=h
theorem zq884 (h:a:=by
 refine zm7 ?_
 exact zq885):a:=h
theorem zq882 (h:a:=by
 refine zm4 ?_
 exact zq883):a:=h
theorem zq880 (h:a:=by
 refine zm7 ?_
 exact zq881):a:=h
theorem zq878 (h:a:=by
 refine zm4 ?_
 exact zq879):a:=h
theorem zq877 (h:a:=by
 refine zm4 ?_
 exact zq878):a:=h
theorem zq875 (h:a:=by
 refine zm7 ?_
 exact zq876):a:=h
theorem zq874 (h:a:=by
 refine zm7 ?_
 exact zq875):a:=h
theorem zq872 (h:a:=by
 refine zm4 ?_
 exact zq873):a:=h
theorem zq871 (h:a:=by
 refine zm4 ?_
 exact zq872):a:=h
theorem zq869 (h:a:=by
 refine zm7 ?_
 exact zq870):a:=h
theorem zq860 (h:a:=by
 refine zm0 ?_
 exact zq861):a:=h
theorem zq856 (h:a:=by
 refine zm0 ?_
 exact zq857):a:=h
theorem zq855 (h:a:=by
 refine zm0 ?_
 exact zq856):a:=h
theorem zq854 (h:a:=by
 refine zm0 ?_
 exact zq855):a:=h
theorem zq853 (h:a:=by
 refine zm0 ?_
 exact zq854):a:=h
theorem zq845 (h:a:=by
 refine zm4 ?_
 exact zq846):a:=h
theorem zq837 (h:a:=by
 refine zm7 ?_
 exact zq838):a:=h
theorem zq835 (h:a:=by
 refine zm4 ?_
 exact zq836):a:=h
theorem zq833 (h:a:=by
 refine zm7 ?_
 exact zq834):a:=h
theorem zq831 (h:a:=by
 refine zm4 ?_
 exact zq832):a:=h
theorem zq830 (h:a:=by
 refine zm4 ?_
 exact zq831):a:=h
theorem zq828 (h:a:=by
 refine zm7 ?_
 exact zq829):a:=h
theorem zq827 (h:a:=by
 refine zm7 ?_
 exact zq828):a:=h
theorem zq825 (h:a:=by
 refine zm4 ?_
 exact zq826):a:=h
theorem zq824 (h:a:=by
 refine zm4 ?_
 exact zq825):a:=h
theorem zq822 (h:a:=by
 refine zm7 ?_
 exact zq823):a:=h
theorem zq812 (h:a:=by
 refine zm0 ?_
 exact zq813):a:=h
theorem zq808 (h:a:=by
 refine zm0 ?_
 exact zq809):a:=h
theorem zq807 (h:a:=by
 refine zm0 ?_
 exact zq808):a:=h
theorem zq806 (h:a:=by
 refine zm0 ?_
 exact zq807):a:=h
theorem zq805 (h:a:=by
 refine zm0 ?_
 exact zq806):a:=h
theorem zq800 (h:a:=by
 refine zm7 ?_
 exact zq801):a:=h
theorem zq799 (h:a:=by
 refine zm7 ?_
 exact zq800):a:=h
theorem zq787 (h:a:=by
 refine zm4 ?_
 exact zq788):a:=h
theorem zq786 (h:a:=by
 refine zm4 ?_
 exact zq787):a:=h
theorem zq784 (h:a:=by
 refine zm7 ?_
 exact zq785):a:=h
theorem zq781 (h:a:=by
 refine zm4 ?_
 exact zq782):a:=h
theorem zq779 (h:a:=by
 refine zm4 ?_
 exact zq780):a:=h
theorem zq777 (h:a:=by
 refine zm7 ?_
 exact zq778):a:=h
theorem zq911 (h:a:=by
 refine zm4 ?_
 exact zq912):a:=h
theorem zq909 (h:a:=by
 refine zm4 ?_
 exact zq910):a:=h
theorem zq907 (h:a:=by
 refine zm7 ?_
 exact zq908):a:=h
theorem zq904 (h:a:=by
 refine zm4 ?_
 exact zq905):a:=h
theorem zq902 (h:a:=by
 refine zm4 ?_
 exact zq903):a:=h
theorem zq900 (h:a:=by
 refine zm7 ?_
 exact zq901):a:=h
theorem zq770 (h:a:=by
 refine zm0 ?_
 exact zq771):a:=h
theorem zq765 (h:a:=by
 refine zm0 ?_
 exact zq766):a:=h
theorem zq759 (h:a:=by
 refine zm5 ?_
 exact zq760):a:=h
theorem zq752 (h:a:=by
 refine zm0 ?_
 exact zq753):a:=h
theorem zq744 (h:a:=by
 refine zm5 ?_
 exact zq745):a:=h
theorem zq742 (h:a:=by
 refine zm0 ?_
 exact zq743):a:=h
theorem zq741 (h:a:=by
 refine zm0 ?_
 exact zq742):a:=h
theorem zq740 (h:a:=by
 refine zm0 ?_
 exact zq741):a:=h
theorem zq727 (h:a:=by
 refine zm0 ?_
 exact zq728):a:=h
theorem zq726 (h:a:=by
 refine zm0 ?_
 exact zq727):a:=h
theorem zq689 (h:a:=by
 refine zm0 ?_
 exact zq690):a:=h
theorem zq688 (h:a:=by
 refine zm0 ?_
 exact zq689):a:=h
theorem zq685 (h:a:=by
 refine zm5 ?_
 exact zq686):a:=h
theorem zq679 (h:a:=by
 refine zm0 ?_
 exact zq680):a:=h
theorem zq678 (h:a:=by
 refine zm0 ?_
 exact zq679):a:=h
theorem zq676 (h:a:=by
 refine zm5 ?_
 exact zq677):a:=h
theorem zq919 (h:a:=by
 refine zm0 ?_
 exact zq920):a:=h
theorem zq670 (h:a:=by
 refine zm0 ?_
 exact zq671):a:=h
theorem zq669 (h:a:=by
 refine zm0 ?_
 exact zq670):a:=h
theorem zq664 (h:a:=by
 refine zm0 ?_
 exact zq665):a:=h
theorem zq663 (h:a:=by
 refine zm0 ?_
 exact zq664):a:=h
theorem zq661 (h:a:=by
 refine zm5 ?_
 exact zq662):a:=h
theorem zq659 (h:a:=by
 refine zm0 ?_
 exact zq660):a:=h
theorem zq653 (h:a:=by
 refine zm0 ?_
 exact zq654):a:=h
theorem zq652 (h:a:=by
 refine zm0 ?_
 exact zq653):a:=h
theorem zq933 (h:a:=by
 refine zm4 ?_
 exact zq934):a:=h
theorem zq954 (h:a:=by
 refine zm4 ?_
 exact zq955):a:=h
theorem zq968 (h:a:=by
 refine zm0 ?_
 exact zq969):a:=h
theorem zq993 (h:a:=by
 refine zm0 ?_
 exact zq994):a:=h
theorem zq984 (h:a:=by
 refine zm7 ?_
 exact zq985):a:=h
theorem zq975 (h:a:=by
 refine zm7 ?_
 exact zq976):a:=h
theorem zq974 (h:a:=by
 refine zm7 ?_
 exact zq975):a:=h
theorem zq114 (h:a:=by exact cW rfl (zq115)):a:=h
theorem zq110 (h:a:=by
 refine cE ?_
 exact zq111):a:=h
theorem zq109 (h:a:=by
 refine cE ?_
 exact zq110):a:=h
theorem zq108 (h:a:=by
 refine cE ?_
 exact zq109):a:=h
theorem zq107 (h:a:=by
 refine cE ?_
 exact zq108):a:=h
theorem zq106 (h:a:=by
 refine cE ?_
 exact zq107):a:=h
theorem zM (h:a:=by
 refine cE ?_
 exact zq106):a:=h
theorem zq155 (h:a:=by
 refine m6 ?_
 exact zq156):a:=h
theorem zq138 (h:a:=by
 refine m7 ?_
 exact zq139):a:=h
theorem zq161 (h:a:=by
 refine m6 ?_
 exact zq162):a:=h
theorem zq159 (h:a:=by
 refine m6 ?_
 exact CQ):a:=h
theorem zq164 (h:a:=by
 refine m6 ?_
 exact zq158):a:=h
theorem zq177 (h:a:=by
 refine cQ ?_
 exact zq178):a:=h
theorem zq176 (h:a:=by
 refine m8 ?_
 exact zq177):a:=h
theorem zq174 (h:a:=by
 refine jN ?_
 exact zq175):a:=h
theorem zq172 (h:a:=by
 refine cQ ?_
 exact zq173):a:=h
theorem zq171 (h:a:=by
 refine m8 ?_
 exact zq172):a:=h
theorem zq169 (h:a:=by
 refine jN ?_
 exact zq170):a:=h
theorem zq202 (h:a:=by
 refine cE ?_
 exact zq203):a:=h
theorem zq201 (h:a:=by
 refine cE ?_
 exact zq202):a:=h
theorem zq200 (h:a:=by
 refine cE ?_
 exact zq201):a:=h
theorem zq199 (h:a:=by
 refine cE ?_
 exact zq200):a:=h
theorem zq196 (h:a:=by
 refine cE ?_
 exact zq197):a:=h
theorem zq195 (h:a:=by
 refine cE ?_
 exact zq196):a:=h
theorem zq194 (h:a:=by
 refine cE ?_
 exact zq195):a:=h
theorem zq193 (h:a:=by
 refine cE ?_
 exact zq194):a:=h
theorem zq190 (h:a:=by
 refine cE ?_
 exact zq191):a:=h
theorem zq189 (h:a:=by
 refine cE ?_
 exact zq190):a:=h
theorem zq188 (h:a:=by
 refine cE ?_
 exact zq189):a:=h
theorem zq185 (h:a:=by
 refine cE ?_
 exact zq186):a:=h
theorem zq184 (h:a:=by
 refine cE ?_
 exact zq185):a:=h
theorem CN (h:a:=by
 refine cE ?_
 exact zq184):a:=h
theorem kZ (h:a:=by
 refine eh ?_
 exact pM):a:=h
theorem zq224 (h:a:=by
 refine kU ?_
 exact zq225):a:=h
theorem zq215 (h:a:=by
 refine kU ?_
 exact zq216):a:=h
theorem zq271 (h:a:=by
 refine lw ?_
 exact zq272):a:=h
theorem zq262 (h:a:=by
 refine gP ?_
 exact zq263):a:=h
theorem zq261 (h:a:=by
 refine sh ?_
 exact zq262):a:=h
theorem zq290 (h:a:=by
 refine sh ?_
 exact zq291):a:=h
theorem zq283 (h:a:=by
 refine m7 ?_
 exact zq284):a:=h
theorem CK (h:a:=by
 refine dQ ?_
 exact zq327):a:=h
theorem zq350 (h:a:=by exact ao rfl (zq351)):a:=h
theorem zq336 (h:a:=by exact ao rfl (zq337)):a:=h
theorem zq359 (h:a:=by exact ao rfl (zq360)):a:=h
theorem CJ (h:a:=by
 refine eY ?_
 exact zq329):a:=h
theorem zq428 (h:a:=by
 refine kU ?_
 exact zq429):a:=h
theorem zq414 (h:a:=by
 refine kU ?_
 exact zq415):a:=h
theorem zq397 (h:a:=by
 refine kU ?_
 exact zq398):a:=h
theorem zq433 (h:a:=by
 refine cE ?_
 exact zq434):a:=h
theorem zq465 (h:a:=by
 refine m8 ?_
 exact zq466):a:=h
theorem zq464 (h:a:=by
 refine cQ ?_
 exact zq465):a:=h
theorem zq461 (h:a:=by
 refine cQ ?_
 exact zq462):a:=h
theorem zq460 (h:a:=by
 refine cQ ?_
 exact zq461):a:=h
theorem zq598 (h:a:=by
 refine eY ?_
 exact zq599):a:=h
theorem zq514 (h:a:=by
 refine dt ?_
 exact zq515):a:=h
theorem zq645 (h:a:=by exact ao rfl (zq646)):a:=h
theorem zq641 (h:a:=by exact ao rfl (zq642)):a:=h
theorem zq718 (h:a:=by exact ao rfl (zq719)):a:=h
theorem zq714 (h:a:=by exact ao rfl (zq715)):a:=h
theorem zq702 (h:a:=by
 refine eY ?_
 exact zq703):a:=h
theorem zq701 (h:a:=by exact eM rfl (zq702)):a:=h
theorem zq696 (h:a:=by
 refine cE ?_
 exact zq697):a:=h
theorem zq695 (h:a:=by
 refine cE ?_
 exact zq696):a:=h
theorem zq694 (h:a:=by
 refine cE ?_
 exact zq695):a:=h
theorem zq693 (h:a:=by
 refine cE ?_
 exact zq694):a:=h
theorem zq692 (h:a:=by
 refine cE ?_
 exact zq693):a:=h
theorem zq893 (h:a:=by exact ao rfl (zq894)):a:=h
theorem zq887 (h:a:=by exact ao rfl (zq888)):a:=h
theorem zq885 (h:a:=by
 refine dQ ?_
 exact zq886):a:=h
theorem zq863 (h:a:=by
 refine eY ?_
 exact zq864):a:=h
theorem zq846 (h:a:=by exact ao rfl (zq847)):a:=h
theorem zq840 (h:a:=by exact ao rfl (zq841)):a:=h
theorem zq838 (h:a:=by
 refine dQ ?_
 exact zq839):a:=h
theorem zq816 (h:a:=by
 refine eY ?_
 exact zq817):a:=h
theorem zq795 (h:a:=by exact ao rfl (zq796)):a:=h
theorem zq790 (h:a:=by exact ao rfl (zq791)):a:=h
theorem zq914 (h:a:=by exact ao rfl (zq915)):a:=h
theorem zq774 (h:a:=by
 refine eY ?_
 exact zq775):a:=h
theorem zq766 (h:a:=by
 refine gP ?_
 exact zq767):a:=h
theorem zq745 (h:a:=by
 refine sh ?_
 exact zq746):a:=h
theorem zq725 (h:a:=by
 refine cQ ?_
 exact zq726):a:=h
theorem zq723 (h:a:=by
 refine jN ?_
 exact zq724):a:=h
theorem zq721 (h:a:=by
 refine cQ ?_
 exact zq722):a:=h
theorem zq686 (h:a:=by
 refine kU ?_
 exact zq687):a:=h
theorem zq677 (h:a:=by
 refine kU ?_
 exact zq678):a:=h
theorem zq668 (h:a:=by
 refine cQ ?_
 exact zq669):a:=h
theorem zq667 (h:a:=by
 refine cQ ?_
 exact zq668):a:=h
theorem zq662 (h:a:=by
 refine m7 ?_
 exact zq663):a:=h
theorem zq656 (h:a:=by exact eM rfl (zq657)):a:=h
theorem zq651 (h:a:=by
 refine cE ?_
 exact zq652):a:=h
theorem zq650 (h:a:=by
 refine cE ?_
 exact zq651):a:=h
theorem zq649 (h:a:=by
 refine cE ?_
 exact zq650):a:=h
theorem zq648 (h:a:=by
 refine cE ?_
 exact zq649):a:=h
theorem zq647 (h:a:=by
 refine cE ?_
 exact zq648):a:=h
theorem zq935 (h:a:=by
 refine m6 ?_
 exact zq936):a:=h
theorem zq927 (h:a:=by exact ao rfl (zq928)):a:=h
theorem zq921 (h:a:=by exact ao rfl (zq922)):a:=h
theorem zq956 (h:a:=by
 refine m6 ?_
 exact zq957):a:=h
theorem zq948 (h:a:=by exact ao rfl (zq949)):a:=h
theorem zq942 (h:a:=by exact ao rfl (zq943)):a:=h
theorem zq1006 (h:a:=by
 refine zm0 ?_
 exact zq1007):a:=h
theorem zq1003 (h:a:=by
 refine zm5 ?_
 exact zq1004):a:=h
theorem zq1002 (h:a:=by
 refine zm0 ?_
 exact zq1003):a:=h
theorem zq148 (h:a:=by
 refine gc ?_
 exact zq149):a:=h
theorem zq250 (h:a:=by
 refine md ?_
 exact zq251):a:=h
theorem zq266 (h:a:=by
 refine md ?_
 exact zq267):a:=h
theorem zq257 (h:a:=by
 rw [hC2] at hz4
 exact zq258):a:=h
theorem zq383 (h:a:=by
 have hN1:=hB2
 exact zq384):a:=h
theorem zq441 (h:a:=by
 refine wz ?_
 exact zq442):a:=h
theorem zq570 (h:a:=by
 refine gc ?_
 exact zq571):a:=h
theorem zq516 (h:a:=by
 refine gc ?_
 exact zq517):a:=h
theorem zq628 (h:a:=by
 refine gc ?_
 exact zq629):a:=h
theorem zq711 (h:a:=by
 refine wj ?_
 exact zq712):a:=h
theorem zq895 (h:a:=by
 refine od ?_
 exact zq896):a:=h
theorem zq890 (h:a:=by
 refine od ?_
 exact zq891):a:=h
theorem zq879 (h:a:=by
 refine CU ?_
 exact zq880):a:=h
theorem zq873 (h:a:=by
 refine CU ?_
 exact zq874):a:=h
theorem zq864 (h:a:=by
 refine zm358 ?_
 exact zq865):a:=h
theorem zq848 (h:a:=by
 refine sO ?_
 exact zq849):a:=h
theorem zq843 (h:a:=by
 refine sO ?_
 exact zq844):a:=h
theorem zq832 (h:a:=by
 refine C1 ?_
 exact zq833):a:=h
theorem zq826 (h:a:=by
 refine C1 ?_
 exact zq827):a:=h
theorem zq817 (h:a:=by
 refine zm383 ?_
 exact zq818):a:=h
theorem zq794 (h:a:=by
 refine qh ?_
 exact zq795):a:=h
theorem zq788 (h:a:=by
 refine sR ?_
 exact zq789):a:=h
theorem zq782 (h:a:=by
 refine sR ?_
 exact zq783):a:=h
theorem zq780 (h:a:=by
 refine qh ?_
 exact zq781):a:=h
theorem zq776 (h:a:=by
 refine zm384 ?_
 exact zq777):a:=h
theorem zq912 (h:a:=by
 refine sR ?_
 exact zq913):a:=h
theorem zq910 (h:a:=by
 refine qh ?_
 exact zq911):a:=h
theorem zq905 (h:a:=by
 refine sR ?_
 exact zq906):a:=h
theorem zq903 (h:a:=by
 refine qh ?_
 exact zq904):a:=h
theorem zq899 (h:a:=by
 refine zm385 ?_
 exact zq900):a:=h
theorem zq735 (h:a:=by
 refine gc ?_
 exact zq736):a:=h
theorem zq1044 (h:a:=by
 refine iC ?_
 exact zq1045):a:=h
theorem zq1040 (h:a:=by
 refine iC ?_
 exact zq1041):a:=h
theorem zq1033 (h:a:=by
 refine fP ?_
 exact zq1034):a:=h
theorem zq1029 (h:a:=by
 refine fP ?_
 exact zq1030):a:=h
theorem zq1026 (h:a:=by
 refine fP ?_
 exact zq1027):a:=h
theorem zq1022 (h:a:=by
 refine fP ?_
 exact zq1023):a:=h
theorem zq1004 (h:a:=by
 refine m7 ?_
 exact zq1005):a:=h
theorem zq81 (h:a:=by exact ag (TC.ret (zq82))):a:=h
theorem zq349 (h:a:=by
 have hlb29:=hp29
 exact zq350):a:=h
theorem zq335 (h:a:=by
 have hla24:=hp24
 exact zq336):a:=h
theorem zq372 (h:a:=by
 have hlb29:=hp29
 exact zq373):a:=h
theorem zq358 (h:a:=by
 have hla24:=hp24
 exact zq359):a:=h
theorem zq340 (h:a:=by
 have hra26:=hr26.1
 exact zq341):a:=h
theorem zq363 (h:a:=by
 have hra26:=hr26.1
 exact zq364):a:=h
theorem zq561 (h:a:=by
 rw [List.append_nil]
 exact zq562):a:=h
theorem zq924 (h:a:=by
 have hra66:=hr66.1
 exact zq925):a:=h
theorem zq945 (h:a:=by
 have hra66:=hr66.1
 exact zq946):a:=h
theorem zq529 (h:a:=by
 have hf2:=hf.le hq2
 exact zq530):a:=h
theorem zq528 (h:a:=by
 have hp2:=hp.le hq2
 exact zq529):a:=h
theorem zq998 (h:a:=by
 obtain⟨k0,k1⟩:=hI
 exact zq999):a:=h
theorem zq259 (h:a:=by
 rw [hC2,← hs2b] at hT2
 exact zq260):a:=h
theorem zq868 (h:a:=by
 have hnbw18:=hW154.nb
 exact zq869):a:=h
theorem zq821 (h:a:=by
 have hnbw16:=hW128.nb
 exact zq822):a:=h
theorem zq321 (h:a:=by
 obtain⟨o,hO,hD⟩:=hI
 exact zq322):a:=h
theorem zq1010 (h:a:=by
 have hmxq:=hP15.q.max
 exact zq1011):a:=h
theorem zq334 (h:a:=by
 replace hd:=hd.le hle24
 exact zq335):a:=h
theorem zq357 (h:a:=by
 replace hd:=hd.le hle24
 exact zq358):a:=h
theorem zq426 (h:a:=by exact TL.run (cg rfl) rfl (zq427)):a:=h
theorem zq412 (h:a:=by exact TL.run (cg rfl) rfl (zq413)):a:=h
theorem zq395 (h:a:=by exact TL.run (cg rfl) rfl (zq396)):a:=h
theorem zq556 (h:a:=by
 replace eH90:=eH90.symm
 exact zq557):a:=h
theorem zq530 (h:a:=by
 have hlab2:=hlab.le hq2
 exact zq531):a:=h
theorem zq622 (h:a:=by
 replace eH67:=eH67.symm
 exact zq623):a:=h
theorem zq889 (h:a:=by
 change _=_+1 at hN173
 exact zq890):a:=h
theorem zq842 (h:a:=by
 change _=_+1 at hN147
 exact zq843):a:=h
theorem zq743 (h:a:=by exact TL.run (cg rfl) rfl (zq744)):a:=h
theorem zq660 (h:a:=by exact TL.run (cg rfl) rfl (zq661)):a:=h
theorem zq930 (h:a:=by
 obtain⟨i67,rfl⟩:=hp67
 exact zq931):a:=h
theorem zq951 (h:a:=by
 obtain⟨i67,rfl⟩:=hp67
 exact zq952):a:=h
theorem zq707 (h:a:=by exact aw (cg rfl) rfl (zq708)):a:=h
theorem zq876 (h:a:=by exact aw (cg rfl) rfl (zq877)):a:=h
theorem zq870 (h:a:=by exact aw (cg rfl) rfl (zq871)):a:=h
theorem zq829 (h:a:=by exact aw (cg rfl) rfl (zq830)):a:=h
theorem zq823 (h:a:=by exact aw (cg rfl) rfl (zq824)):a:=h
theorem zq785 (h:a:=by exact aw (cg rfl) rfl (zq786)):a:=h
theorem zq778 (h:a:=by exact aw (cg rfl) rfl (zq779)):a:=h
theorem zq908 (h:a:=by exact aw (cg rfl) rfl (zq909)):a:=h
theorem zq901 (h:a:=by exact aw (cg rfl) rfl (zq902)):a:=h
theorem zq167 (h:a:=by exact TL.nil (ag (TC.ret (zq168)))):a:=h
theorem zq564 (h:a:=by
 replace hq4:=hq4.le leP90
 exact zq565):a:=h
theorem zq562 (h:a:=by
 replace hp2:=hp2.le leP90
 exact zq563):a:=h
theorem zq758 (h:a:=by
 obtain⟨i103,rfl⟩:=hp103
 exact zq759):a:=h
theorem zq755 (h:a:=by
 obtain⟨i102,rfl⟩:=hp102
 exact zq756):a:=h
theorem zq751 (h:a:=by
 obtain⟨i100,rfl⟩:=hp100
 exact zq752):a:=h
theorem zq1037 (h:a:=by exact TQ.run (aF rfl) rfl (zq1038)):a:=h
theorem zq1036 (h:a:=by exact TQ.run (aF rfl) rfl (zq1037)):a:=h
theorem zq1031 (h:a:=by exact TQ.run (aF rfl) rfl (zq1032)):a:=h
theorem zq1024 (h:a:=by exact TQ.run (aF rfl) rfl (zq1025)):a:=h
theorem zq179 (h:a:=by
 have q74:=aO g74
 exact zq180):a:=h
theorem zq389 (h:a:=by
 obtain⟨⟨m0,m1⟩,hI2⟩:=hI
 exact zq390):a:=h
theorem zq600 (h:a:=by
 have hlab3:=hlab2.le hle97
 exact zq601):a:=h
theorem zq492 (h:a:=by
 obtain⟨⟨k0,k1⟩,hal⟩:=hI
 exact zq493):a:=h
theorem zq859 (h:a:=by
 obtain⟨rfl,hn154⟩:=hp154
 exact zq860):a:=h
theorem zq811 (h:a:=by
 obtain⟨rfl,hn128⟩:=hp128
 exact zq812):a:=h
theorem zq769 (h:a:=by
 obtain⟨rfl,hn107⟩:=hp107
 exact zq770):a:=h
theorem zq768 (h:a:=by
 replace hta:=hta.le hle107
 exact zq769):a:=h
theorem zq757 (h:a:=by
 replace hta:=hta.le hle103
 exact zq758):a:=h
theorem zq754 (h:a:=by
 replace hta:=hta.le hle102
 exact zq755):a:=h
theorem zq750 (h:a:=by
 replace hta:=hta.le hle100
 exact zq751):a:=h
theorem zq348 (h:a:=by
 replace hd26:=hd26.le hle29
 exact zq349):a:=h
theorem zq344 (h:a:=by exact aq (S1 (S1 SN)) hle24 (zq345)):a:=h
theorem zq371 (h:a:=by
 replace hd26:=hd26.le hle29
 exact zq372):a:=h
theorem zq367 (h:a:=by exact aq (S1 (S1 SN)) hle24 (zq368)):a:=h
theorem zq42 (h:a:=by
 have q7:=of_decide_eq_true g7
 exact zq43):a:=h
theorem zq434 (h:a:=by
 refine si ?_;refine o9 ?_
 exact zq435):a:=h
theorem zq1039 (h:a:=by
 have q74:=aK g74
 exact zq1040):a:=h
theorem zq15 (h:a:=by exact TL.run (em rfl rfl) rfl (zq16)):a:=h
theorem zq232 (h:a:=by
 obtain⟨va,vc,rfl⟩:=hO.form
 exact zq233):a:=h
theorem zq241 (h:a:=by
 obtain⟨va,vc,rfl⟩:=hO.form
 exact zq242):a:=h
theorem zq258 (h:a:=by
 have hT2:=st_next k0 hk hs hT
 exact zq259):a:=h
theorem zq322 (h:a:=by
 obtain⟨va,vc,rfl⟩:=hO.form
 exact zq323):a:=h
theorem zq347 (h:a:=by
 replace hla24:=hla24.le hle29
 exact zq348):a:=h
theorem zq563 (h:a:=by
 replace hlab2:=hlab2.le leP90
 exact zq564):a:=h
theorem zq231 (h:a:=by
 obtain⟨⟨k0,k1⟩,hO,hfl⟩:=hI
 exact zq232):a:=h
theorem zq240 (h:a:=by
 obtain⟨⟨k0,k1⟩,hO,hfl⟩:=hI
 exact zq241):a:=h
theorem zq341 (h:a:=by
 have hrb26:=hr26.2.1 omq
 exact zq342):a:=h
theorem zq364 (h:a:=by
 have hrb26:=hr26.2.1 omq
 exact zq365):a:=h
theorem zq415 (h:a:=by exact TL.run (bC rfl rfl hO) rfl (zq416)):a:=h
theorem zq398 (h:a:=by exact TL.run (bC rfl rfl hO) rfl (zq399)):a:=h
theorem zq717 (h:a:=by exact aq (S1 SN) (Hp.le.refl _) (zq718)):a:=h
theorem zq722 (h:a:=by exact az rfl rfl (cg rfl) rfl (zq723)):a:=h
theorem zq720 (h:a:=by
 have q85:=of_decide_eq_true g85
 exact zq721):a:=h
theorem zq925 (h:a:=by
 have hrb66:=hr66.2.1 omq
 exact zq926):a:=h
theorem zq946 (h:a:=by
 have hrb66:=hr66.2.1 omq
 exact zq947):a:=h
theorem zq225 (h:a:=by exact TL.run (ai rfl rfl hc) rfl (zq226)):a:=h
theorem zq432 (h:a:=by
 have q25:=of_decide_eq_false g25
 exact zq433):a:=h
theorem zq644 (h:a:=by exact aq (S1 (S1 (S1 SN))) hle54 (zq645)):a:=h
theorem zq691 (h:a:=by
 have q85:=of_decide_eq_false g85
 exact zq692):a:=h
theorem zq734 (h:a:=by
 refine TL.alloc rfl (fun b7=>?_)
 exact zq735):a:=h
theorem zq666 (h:a:=by
 have q66:=of_decide_eq_false g66
 exact zq667):a:=h
theorem zq926 (h:a:=by exact aq (S1 (S1 (S1 SN))) hle60 (zq927)):a:=h
theorem zq947 (h:a:=by exact aq (S1 (S1 (S1 SN))) hle60 (zq948)):a:=h
theorem zq569 (h:a:=by
 refine TL.alloc rfl (fun b17=>?_)
 exact zq570):a:=h
theorem zq559 (h:a:=by
 obtain⟨a90,c90,rfl⟩:=hO90.form
 exact zq560):a:=h
theorem zq515 (h:a:=by
 refine TL.alloc rfl (fun b15=>?_)
 exact zq516):a:=h
theorem zq687 (h:a:=by exact TL.run (ai rfl rfl hta) rfl (zq688)):a:=h
theorem zq1042 (h:a:=by exact bi rfl rfl (aF rfl) rfl (zq1043)):a:=h
theorem zq343 (h:a:=by
 have hl4:labelsL.length=4:=rfl
 exact zq344):a:=h
theorem zq366 (h:a:=by
 have hl4:labelsL.length=4:=rfl
 exact zq367):a:=h
theorem zq498 (h:a:=by exact TL.run (ai rfl rfl hlab) rfl (zq499)):a:=h
theorem zq477 (h:a:=by exact TL.run (ai rfl rfl hlab) rfl (zq478)):a:=h
theorem zq643 (h:a:=by
 obtain⟨rfl,r60,rfl,hr60⟩:=hp60
 exact zq644):a:=h
theorem zq716 (h:a:=by
 obtain⟨rfl,r35,rfl,hr35⟩:=hp35
 exact zq717):a:=h
theorem zq712 (h:a:=by exact aw (ai rfl rfl hta) rfl (zq713)):a:=h
theorem zq789 (h:a:=by exact aw (ai rfl rfl hta) rfl (zq790)):a:=h
theorem zq783 (h:a:=by exact aw (ai rfl rfl hta) rfl (zq784)):a:=h
theorem zq913 (h:a:=by exact aw (ai rfl rfl hta) rfl (zq914)):a:=h
theorem zq906 (h:a:=by exact aw (ai rfl rfl hta) rfl (zq907)):a:=h
theorem zq747 (h:a:=by
 obtain⟨rfl,r99,rfl,hr99⟩:=hp99
 exact zq748):a:=h
theorem zq923 (h:a:=by
 obtain⟨rfl,r66,rfl,hr66⟩:=hp66
 exact zq924):a:=h
theorem zq944 (h:a:=by
 obtain⟨rfl,r66,rfl,hr66⟩:=hp66
 exact zq945):a:=h
theorem zq983 (h:a:=by exact jh rfl rfl (aF rfl) rfl (zq984)):a:=h
theorem zq973 (h:a:=by exact jh rfl rfl (aF rfl) rfl (zq974)):a:=h
theorem zq339 (h:a:=by
 replace eH26:=eH26.symm;subst eH26
 exact zq340):a:=h
theorem zq338 (h:a:=by
 obtain⟨eH26,r26,rfl,hr26⟩:=hp26
 exact zq339):a:=h
theorem zq362 (h:a:=by
 replace eH26:=eH26.symm;subst eH26
 exact zq363):a:=h
theorem zq361 (h:a:=by
 obtain⟨eH26,r26,rfl,hr26⟩:=hp26
 exact zq362):a:=h
theorem zq536 (h:a:=by exact TL.run (ai rfl rfl hlab2) rfl (zq537)):a:=h
theorem zq980 (h:a:=by exact jh rfl rfl (cT rfl) rfl (zq981)):a:=h
theorem zq977 (h:a:=by exact jh rfl rfl (cT rfl) rfl (zq978)):a:=h
theorem zq307 (h:a:=by exact TL.run (aN hR62 hxB rfl rfl) rfl (zq308)):a:=h
theorem zq555 (h:a:=by
 obtain⟨eH90,tv90,rfl,hO90⟩:=hp90
 exact zq556):a:=h
theorem zq621 (h:a:=by
 obtain⟨eH67,tv67,rfl,hO67⟩:=hp67
 exact zq622):a:=h
theorem zq619 (h:a:=by exact TL.run (aN hlab hlx rfl rfl) rfl (zq620)):a:=h
theorem zq798 (h:a:=by exact aq (S1 (S1 SN)) (Hp.le.refl _) (zq799)):a:=h
theorem zq793 (h:a:=by exact aq (S1 (S1 SN)) (Hp.le.refl _) (zq794)):a:=h
theorem zq917 (h:a:=by exact aq (S1 (S1 SN)) (Hp.le.refl _) (zq795)):a:=h
theorem zq1035 (h:a:=by exact TQ.run (ai rfl rfl hqo.s) rfl (zq1036)):a:=h
theorem zq553 (h:a:=by exact TL.run (aN hlab2 hlx rfl rfl) rfl (zq554)):a:=h
theorem zq797 (h:a:=by
 obtain⟨rfl,r123,rfl,hr123⟩:=hp123
 exact zq798):a:=h
theorem zq792 (h:a:=by
 obtain⟨rfl,r115,rfl,hr115⟩:=hp115
 exact zq793):a:=h
theorem zq916 (h:a:=by
 obtain⟨rfl,r115,rfl,hr115⟩:=hp115
 exact zq917):a:=h
theorem zq929 (h:a:=by
 dsimp only at hle67 hS67 hs67 ht67 hp67
 exact zq930):a:=h
theorem zq950 (h:a:=by
 dsimp only at hle67 hS67 hs67 ht67 hp67
 exact zq951):a:=h
theorem zq1028 (h:a:=by exact TQ.run (ai rfl rfl hqo2.s) rfl (zq1029)):a:=h
theorem zq1005 (h:a:=by exact TL.run (ai rfl rfl hP15.q) rfl (zq1006)):a:=h
theorem zq1034 (h:a:=by exact TQ.run (bh hP15.q hq rfl rfl) rfl (zq1035)):a:=h
theorem zq285 (h:a:=by exact aX rfl rfl rfl (.here _) rfl rfl (zq286)):a:=h
theorem zq278 (h:a:=by exact aX rfl rfl rfl (.here _) rfl rfl (zq279)):a:=h
theorem zq369 (h:a:=by exact aW (aN hla24 hl1 rfl rfl) rfl (zq370)):a:=h
theorem zq760 (h:a:=by exact aX rfl rfl rfl (.here _) rfl rfl (zq761)):a:=h
theorem zq1027 (h:a:=by exact TQ.run (bh hP17.q hq2 rfl rfl) rfl (zq1028)):a:=h
theorem zq1023 (h:a:=by exact TQ.run (aE rfl (.here _) rfl) rfl (zq1024)):a:=h
theorem zq463 (h:a:=by exact az rfl rfl (aN hL hx rfl rfl) rfl (zq464)):a:=h
theorem zq1021 (h:a:=by exact rX kr kr (zq1022)):a:=h
theorem zq30 (h:a:=by exact TL.run (gg rfl rfl omq hc) rfl (zq31)):a:=h
theorem zq858 (h:a:=by
 dsimp only at hle154 hS154 hs154 ht154 hp154
 exact zq859):a:=h
theorem zq810 (h:a:=by
 dsimp only at hle128 hS128 hs128 ht128 hp128
 exact zq811):a:=h
theorem zq749 (h:a:=by
 dsimp only at hle100 hS100 hs100 ht100 hp100
 exact zq750):a:=h
theorem zq342 (h:a:=by
 obtain⟨l1,hl1⟩:=mO hra26 omq
 exact zq343):a:=h
theorem zq365 (h:a:=by
 obtain⟨l1,hl1⟩:=mO hra26 omq
 exact zq366):a:=h
theorem zq175 (h:a:=by exact az rfl rfl (aE rfl (.here _) rfl) rfl (zq176)):a:=h
theorem zq170 (h:a:=by exact az rfl rfl (aE rfl (.here _) rfl) rfl (zq171)):a:=h
theorem zq450 (h:a:=by
 refine aB rfl rfl rfl rfl (fun b40=>?_)
 exact zq451):a:=h
theorem zq932 (h:a:=by
 refine aC rfl rfl rfl rfl (fun b68=>?_)
 exact zq933):a:=h
theorem zq953 (h:a:=by
 refine aC rfl rfl rfl rfl (fun b68=>?_)
 exact zq954):a:=h
theorem zq1013 (h:a:=by
 have hqo:=hP15.qs q (List.mem_of_getElem? hq)
 exact zq1014):a:=h
theorem zq982 (h:a:=by exact jh rfl rfl (ai rfl rfl hP15.q) rfl (zq983)):a:=h
theorem zq979 (h:a:=by exact jh rfl rfl (ai rfl rfl hP17.q) rfl (zq980)):a:=h
theorem zq263 (h:a:=by
 refine aB rfl rfl rfl rfl (fun b136=>?_)
 exact zq264):a:=h
theorem zq886 (h:a:=by
 refine aC rfl rfl rfl rfl (fun b172=>?_)
 exact zq887):a:=h
theorem zq839 (h:a:=by
 refine aC rfl rfl rfl rfl (fun b146=>?_)
 exact zq840):a:=h
theorem zq1041 (h:a:=by exact bi rfl rfl (aE rfl (.here _) rfl) rfl (zq1042)):a:=h
theorem zq299 (h:a:=by
 obtain⟨xB,hxB⟩:=al (l:=bK s) k0 c65
 exact zq300):a:=h
theorem zq329 (h:a:=by
 refine TD.part 4 7 rfl rfl rfl ?_ ?_
 · exact zq353
 exact zq330):a:=h
theorem zq931 (h:a:=by exact aq (S1 (S1 (S1 SN))) (hle60.trans (hle67)) (zq932)):a:=h
theorem zq952 (h:a:=by exact aq (S1 (S1 (S1 SN))) (hle60.trans (hle67)) (zq953)):a:=h
theorem zq1015 (h:a:=by
 obtain⟨z1,z2,z3⟩:=rise_at hB17 hck k0 hq hq2
 exact zq1016):a:=h
theorem zq147 (h:a:=by exact TL.run (a7 rfl (.there _ (.here _)) rfl) rfl (zq148)):a:=h
theorem zq775 (h:a:=by
 refine TD.part 11 7 rfl rfl rfl ?_ ?_
 · exact zq899
 exact zq776):a:=h
theorem zq1014 (h:a:=by
 have hqo2:=hP17.qs q2 (List.mem_of_getElem? hq2)
 exact zq1015):a:=h
theorem zq1011 (h:a:=by
 obtain⟨q,hq⟩:=al (l:=pg15.procs) k0 c56
 exact zq1012):a:=h
theorem zq978 (h:a:=by exact gO rfl rfl (aE rfl (.here _) rfl) rfl (zq979)):a:=h
theorem zq733 (h:a:=by exact au (ab rfl rfl rfl rfl) (cU 3) rfl (zq734)):a:=h
theorem zq1030 (h:a:=by exact TQ.run (aE rfl (.there _ (.here _)) rfl) rfl (zq1031)):a:=h
theorem zq709 (h:a:=by exact aW (aE rfl (.there _ (.here _)) rfl) rfl (zq710)):a:=h
theorem zq31 (h:a:=by exact au (ab rfl rfl rfl rfl) (ki c) rfl (zq32)):a:=h
theorem zq541 (h:a:=by
 obtain⟨lb,hlx⟩:=al (l:=(eG p set)) k0 c80
 exact zq542):a:=h
theorem zq607 (h:a:=by
 obtain⟨lb,hlx⟩:=al (l:=(eG p set)) k0 c57
 exact zq608):a:=h
theorem zq139 (h:a:=by exact au (ab rfl rfl rfl rfl) (pI s.kind) rfl (zq140)):a:=h
theorem zq27 (h:a:=by
 obtain⟨c,hc⟩:=al (l:=s) (i:=k) omq c25
 exact zq28):a:=h
theorem zq867 (h:a:=by
 obtain⟨waw18,wnw18,wcw18,rfl,hww18,hwnw18⟩:=huw18
 exact zq868):a:=h
theorem zq820 (h:a:=by
 obtain⟨waw16,wnw16,wcw16,rfl,hww16,hwnw16⟩:=huw16
 exact zq821):a:=h
theorem zq527 (h:a:=by
 obtain⟨⟨k0,k1⟩,hq2,hq3,hq4,hq5,hq6,hq7,hq8⟩:=hI
 exact zq528):a:=h
theorem zq724 (h:a:=by exact az rfl rfl (aE rfl (.there _ (.here _)) rfl) rfl (zq725)):a:=h
theorem zq256 (h:a:=by
 have hz4:=(gW (q:=q) (st:=(m,o)) hma hTm).2.2
 exact zq257):a:=h
theorem zq306 (h:a:=by exact TL.run (ae rfl hR62 rfl omq omq) rfl (zq307)):a:=h
theorem zq618 (h:a:=by exact TL.run (ae rfl hlab rfl omq omq) rfl (zq619)):a:=h
theorem zq1012 (h:a:=by
 obtain⟨q2,hq2⟩:=al (l:=pg17.procs) k0 omq
 exact zq1013):a:=h
theorem zq552 (h:a:=by exact TL.run (ae rfl hlab2 rfl omq omq) rfl (zq553)):a:=h
theorem zq345 (h:a:=by exact aw (ae rfl hla24 rfl omq omq) rfl (zq346)):a:=h
theorem zq368 (h:a:=by exact aw (ae rfl hla24 rfl omq omq) rfl (zq369)):a:=h
theorem zq605 (h:a:=by exact aw (ae rfl hlab3 rfl omq omq) rfl (zq606)):a:=h
theorem zq981 (h:a:=by exact gO rfl rfl (aE rfl (.there _ (.here _)) rfl) rfl (zq982)):a:=h
theorem zJ (h:a:=by
 have hC2:(gx q.terms s (m,o)).2=(m2,o2):=by rw [hCE]
 exact zq256):a:=h
theorem zq1032 (h:a:=by exact TQ.run (ae rfl hP15.q rfl omq omq) rfl (zq1033)):a:=h
theorem zq1025 (h:a:=by exact TQ.run (ae rfl hP17.q rfl omq omq) rfl (zq1026)):a:=h
theorem zq142 (h:a:=by
 refine TC.cond rfl ?_ ?_<;>intro c43
 · exact zq153
 exact zq143):a:=h
theorem zq402 (h:a:=by
 refine af rfl ?_ ?_<;>intro c60
 · exact zq431
 exact zq403):a:=h
theorem zq502 (h:a:=by
 refine af rfl ?_ ?_<;>intro c57
 · exact zq607
 exact zq503):a:=h
theorem zq730 (h:a:=by
 refine af rfl ?_ ?_<;>intro c80
 · exact zq731
 exact zq702):a:=h
theorem zq673 (h:a:=by
 refine af rfl ?_ ?_<;>intro c60
 · exact zq918
 exact zq674):a:=h
theorem zq462 (h:a:=by exact az rfl rfl (ae rfl hL rfl omq omq) rfl (zq463)):a:=h
theorem zq297 (h:a:=by refine ag (TC.ret (bp (aD ?_)));exact aD (bp (vO))):a:=h
theorem zq580 (h:a:=by
 obtain⟨sv97,ob97,rows97,rfl,hO97,hrw97,hrl97,hm97,rfl⟩:=hp97
 exact zq581):a:=h
theorem zq891 (h:a:=by exact aw (cM (tb:=3) rfl rfl haw18 omq omq) rfl (zq892)):a:=h
theorem zq881 (h:a:=by exact aw (cM (tb:=3) rfl rfl haw18 omq omq) rfl (zq882)):a:=h
theorem zq865 (h:a:=by
 obtain⟨bw18,jw18,qw18,haw18,hbw18,hjw18⟩:=hW154.s.at omq
 exact zq866):a:=h
theorem zq844 (h:a:=by exact aw (cM (tb:=3) rfl rfl haw16 omq omq) rfl (zq845)):a:=h
theorem zq834 (h:a:=by exact aw (cM (tb:=3) rfl rfl haw16 omq omq) rfl (zq835)):a:=h
theorem zq818 (h:a:=by
 obtain⟨bw16,jw16,qw16,haw16,hbw16,hjw16⟩:=hW128.s.at omq
 exact zq819):a:=h
theorem zq1043 (h:a:=by exact bi rfl rfl (ae rfl hP17.q rfl omq omq) rfl (zq1044)):a:=h
theorem zq690 (h:a:=by
 refine aj (s:=85) rfl ?_ ?_<;>intro g85
 · exact zq720
 exact zq691):a:=h
theorem zq19 (h:a:=by
 refine af rfl ?_ ?_<;>intro c25
 · exact zq21
 refine ga ?_
 exact zq20):a:=h
theorem zq836 (h:a:=by exact aW (j9 rfl hcw16 (.skip _ (.skip _ (.skip _ (.skip _ .all))))) rfl (zq837)):a:=h
theorem zq971 (h:a:=by exact aM rfl rfl (ab rfl rfl rfl rfl) (nK hP38 hP17 hown) rfl (zq972)):a:=h
theorem zq558 (h:a:=by
 have hO90:=hO90 (show nP p set lb=true from hall lb (List.mem_of_getElem? hlx))
 exact zq559):a:=h
theorem zq987 (h:a:=by
 refine aP rfl ?_ ?_<;>intro c51
 · exact(show False by omega).elim
 exact zq988):a:=h
theorem zq346 (h:a:=by
 refine TF.call (ab rfl rfl rfl rfl) (dY) rfl (fun v29 H29 hle29 hp29=>?_)
 exact zq347):a:=h
theorem zq333 (h:a:=by
 refine TF.call (ab rfl rfl rfl rfl) (dY) rfl (fun v24 H24 hle24 hp24=>?_)
 exact zq334):a:=h
theorem zq370 (h:a:=by
 refine TF.call (ab rfl rfl rfl rfl) (dY) rfl (fun v29 H29 hle29 hp29=>?_)
 exact zq371):a:=h
theorem zq356 (h:a:=by
 refine TF.call (ab rfl rfl rfl rfl) (dY) rfl (fun v24 H24 hle24 hp24=>?_)
 exact zq357):a:=h
theorem zq883 (h:a:=by exact aW (j9 rfl hcw18 (.skip _ (.skip _ (.skip _ (.skip _ (.skip _ .all)))))) rfl (zq884)):a:=h
theorem zq976 (h:a:=by
 refine rW (s:=43) rfl ?_ ?_<;>intro g43
 · exact absurd g43 dq
 exact zq977):a:=h
theorem zq205 (h:a:=by
 refine eq ?_;refine zm3 ?_;refine lX ?_
 exact aZ rfl (by unfold je;simp_all) ⟨rfl,rfl,trivial⟩):a:=h
theorem zq40 (h:a:=by
 refine TC.cond rfl ?_ ?_<;>intro c39
 · refine pd ?_;exact aD (bp (zq41))
 exact zq35):a:=h
theorem zq602 (h:a:=by exact aJ (S1 (S1 (S1 (S1 SN)))) (Hp.le.refl _) (fun _ _=>aE rfl (.there _ (.here _)) rfl) rfl (zq603)):a:=h
theorem zq969 (h:a:=by
 refine k7 ?_
 exact aQ (k+1) o2q ky (fun w hw=>hw) omq):a:=h
theorem zq510 (h:a:=by
 have h72:¬(eG p set).all (nP p set)=false:=by rw [cP (p:=nP p set) k0 c57 hal];decide
 exact zq511):a:=h
theorem zq511 (h:a:=by
 have hall:∀s∈(eG p set),nP p set s=true:=List.all_eq_true.1 (cP (p:=nP p set) k0 c57 hal)
 exact zq512):a:=h
theorem zq866 (h:a:=by
 obtain⟨uw18,huw18,hcw18⟩:=hW154.bag.get (k:=10) (i:=(V103.sn:Int).toNat) (f:=8) hbw18 rfl hjw18 omq rfl
 exact zq867):a:=h
theorem zq819 (h:a:=by
 obtain⟨uw16,huw16,hcw16⟩:=hW128.bag.get (k:=10) (i:=(V103.sn:Int).toNat) (f:=8) hbw16 rfl hjw16 omq rfl
 exact zq820):a:=h
theorem zq1038 (h:a:=by
 refine eK (s:=74) rfl ?_ ?_<;>intro g74
 ·
  have q74:=aO g74
  exact(show False by omega).elim
 exact zq1039):a:=h
theorem zq1009 (h:a:=by
 refine af rfl ?_ ?_<;>intro c56
 · exact zq1010
 refine ga ?_
 exact aR (.inr rfl) (ad rfl (RVal.tmp rfl)) rfl):a:=h
theorem o6 (h:a:=by refine fQ ?_;exact bp (aD (aR (.inr rfl) (ad rfl (RVal.tmp rfl)) ⟨congrArg Value.bool (by simp_all [ce]),rfl⟩))):a:=h
theorem zq382 (h:a:=by
 have hno:¬(0<(ej p role (cZ p role frm)).length∧(cZ p role frm).any (lo p role)=true):=no_lost k0 hI2 omq
 exact zq383):a:=h
theorem zq173 (h:a:=by
 refine aj (s:=74) rfl ?_ ?_<;>intro g74
 · exact zq179
 have q74:=aK g74
 refine eq ?_;refine dg ?_
 exact zq174):a:=h
theorem zq475 (h:a:=by
 have h48:¬((du p role set).1=1∧nV p set=false):=by first | (rintro⟨e1,e2⟩;simp_all;done) | (rintro⟨e1,e2⟩;omega)
 exact zq476):a:=h
theorem zq82 (h:a:=by
 refine vK (.inr rfl) (ad rfl (RVal.tmp rfl)) (.here _) ⟨_,_,?_,rfl,rfl,?_,rfl⟩
 · exact zq83
 first | assumption | (simp;done) | (simp;assumption)):a:=h
theorem zq620 (h:a:=by
 refine m5 (X:=[(b4,_)]) (b:=bw) rfl (ab rfl rfl rfl rfl) (mn role hp hf hr lb hfl) rfl (fun v67 H67 ob67 hle67 hf67 hp67=>?_)
 exact zq621):a:=h
theorem CO (h:a:=by exact ar (.inr rfl) (ad rfl (RVal.tmp rfl)) (congrArg Value.bool (by unfold dO;first | (rw [hall];clear hall;simp_all;done) | (simp_all<;>omega)))):a:=h
theorem zq337 (h:a:=by
 refine aA (X:=[(b9,_),(b8,_)]) (bd:=bd) rfl (ab rfl rfl rfl rfl) (bn 2 omq hd) rfl (fun v26 H26 at26 hle26 hd26 hp26=>?_)
 exact zq338):a:=h
theorem zq360 (h:a:=by
 refine aA (X:=[(b9,_),(b8,_)]) (bd:=bd) rfl (ab rfl rfl rfl rfl) (bn 2 omq hd) rfl (fun v26 H26 at26 hle26 hd26 hp26=>?_)
 exact zq361):a:=h
theorem zq560 (h:a:=by
 refine TL.pubO hO90 (.skip _ (.skip _ (.skip _ (.past _ .all)))) (fun p hp hm=>absurd (hM _ hm) (Nat.not_lt.2 (hf90 p hp))) (fun HP90 leP90 hT90=>?_)
 exact zq561):a:=h
theorem zq451 (h:a:=by
 refine TL.append (enc:=Str.cells) rfl rfl rfl hO37 (Src.own [s] (.here _) rfl rfl) (by simp;omega) rfl (.skip _ .all) rfl (fun a41 c41 ob41 hO41=>?_)
 exact zq452):a:=h
theorem zq216 (h:a:=by
 refine TL.append (enc:=I64.cells) rfl rfl rfl (OwnSl.nil (enc:=I64.cells)) (Src.sl ha) (by simp;omega) rfl (.new _ rfl) rfl (fun a30 c30 ob30 hO30=>?_)
 exact zq217):a:=h
theorem zq665 (h:a:=by
 refine aj (s:=66) rfl ?_ ?_<;>intro g66
 ·
  have q66:=of_decide_eq_true g66
  refine ji ?_;refine ly ?_;exact cW rfl (zq918)
 exact zq666):a:=h
theorem zq98 (h:a:=by
 refine vK (.inr rfl) (ad rfl (RVal.tmp rfl)) (.there _ (.here _)) ⟨_,_,?_,rfl,rfl,?_,rfl⟩
 · exact zq83
 first | assumption | (simp;done) | (simp;assumption)):a:=h
theorem zq703 (h:a:=by exact aT [true,false,false] [(0,1),(1,1),(2,1),(3,1),(4,1),(5,2),(6,1),(7,4),(8,1),(10,1),(9,5),(11,5)] kr kr (zq704)):a:=h
theorem zq554 (h:a:=by
 refine m5 (X:=[(b15,_),(b4,_)]) (b:=bw) rfl (ab rfl rfl rfl rfl) (mn role hp2 hf2 hr lb hfl) rfl (fun v90 H90 ob90 hle90 hf90 hp90=>?_)
 exact zq555):a:=h
theorem zq746 (h:a:=by
 refine aA (X:=[(b7,_),(b6,_),(F.bw,_)]) (bd:=F.bd) rfl (ab rfl rfl rfl rfl) (bn 3 omq hW.d) rfl (fun v99 H99 at99 hle99 hd99 hp99=>?_)
 exact zq747):a:=h
theorem zq330 (h:a:=by exact aT [true,true,false] [(1,1),(6,1),(0,3),(2,5),(3,1),(5,3),(7,5),(4,2),(8,1),(9,1),(10,2),(11,1),(12,1)] kr kr (zq331)):a:=h
theorem zq353 (h:a:=by exact aT [true,true,false] [(1,1),(6,1),(0,3),(2,5),(3,1),(4,2),(5,3),(7,5),(8,1),(9,1),(10,2),(11,1),(12,1)] kr kr (zq354)):a:=h
theorem zq104 (h:a:=by
 refine vK (.inr rfl) (ad rfl (RVal.tmp rfl)) (.there _ (.there _ (.here _))) ⟨_,_,?_,rfl,rfl,?_,rfl⟩
 · exact zq83
 first | assumption | (simp;done) | (simp;assumption)):a:=h
theorem zq599 (h:a:=by exact aT [true,true,true,true] [(0,1),(1,4),(2,1),(3,1),(4,1),(5,4),(6,4),(7,1),(8,1),(9,3),(10,5),(11,1),(12,0)] kr kr (zq600)):a:=h
theorem zq152 (h:a:=by exact ar (.inr rfl) (ad rfl (RVal.cellA rfl (.here _) rfl)) (congrArg Value.agg (congrArg List.toArray (by unfold dr SStep.cells;first | (simp_all;rfl) | (simp_all;done))))):a:=h
theorem zq922 (h:a:=by
 refine aA (X:=[(b11,_),(b8,_),(b4,_),(b15,_)]) (bd:=bd) rfl (ab rfl rfl rfl rfl) (bn 4 omq hW60.d) rfl (fun v66 H66 at66 hle66 hd66 hp66=>?_)
 exact zq923):a:=h
theorem zq943 (h:a:=by
 refine aA (X:=[(b11,_),(b8,_),(b4,_),(b15,_)]) (bd:=bd) rfl (ab rfl rfl rfl rfl) (bn 4 omq hW60.d) rfl (fun v66 H66 at66 hle66 hd66 hp66=>?_)
 exact zq944):a:=h
theorem zq35 (h:a:=by
 refine iE ?_
 exact aQ (k+1) ⟨by omega,by omega,vq hI.2.2 omq hc (by first | exact .inl g33 | exact .inr c39)⟩ ky (fun w hw=>hw) omq):a:=h
theorem zq715 (h:a:=by
 refine aA (X:=[(b6,_),(F.bw,_)]) (bd:=F.bd) rfl (ab rfl rfl rfl rfl) (bn (t.arms.length:Int) omq hW.d) rfl (fun v35 H35 at35 hle35 hd35 hp35=>?_)
 exact zq716):a:=h
theorem zq642 (h:a:=by
 refine aA (X:=[(b10,_),(b8,_),(b5,_),(F.bw,_)]) (bd:=F.bd) rfl (ab rfl rfl rfl rfl) (bn 3 omq hW54.d) rfl (fun v60 H60 at60 hle60 hd60 hp60=>?_)
 exact zq643):a:=h
theorem zq791 (h:a:=by
 refine aA (X:=[(b7,_),(b6,_),(F.bw,_)]) (bd:=F.bd) rfl (ab rfl rfl rfl rfl) (bn (t.arms.length:Int) omq hW107.d) rfl (fun v115 H115 at115 hle115 hd115 hp115=>?_)
 exact zq792):a:=h
theorem zq915 (h:a:=by
 refine aA (X:=[(b7,_),(b6,_),(F.bw,_)]) (bd:=F.bd) rfl (ab rfl rfl rfl rfl) (bn (t.arms.length:Int) omq hW107.d) rfl (fun v115 H115 at115 hle115 hd115 hp115=>?_)
 exact zq916):a:=h
theorem zq442 (h:a:=by
 refine TL.append (enc:=Str.cells) rfl rfl rfl (OwnSl.nil (enc:=Str.cells)) (Src.sl (hL.sliced (i:=0) (Nat.zero_le _) omq)) (by simp;omega) rfl (.new _ rfl) rfl (fun a37 c37 ob37 hO37=>?_)
 exact zq443):a:=h
theorem zq756 (h:a:=by
 refine ay (F:=F) (V:=V102) (m:=m+1+1) [(b7,_),(b6,_)] rfl rfl (ab rfl rfl rfl rfl) (fb 12 i100 i102) hW102 omq rfl (fun v103 V103 hle103 hW103 hS103 hs103 ht103 hp103=>?_)
 exact zq757):a:=h
theorem zq796 (h:a:=by
 refine aA (X:=[(b7,_),(b6,_),(F.bw,_)]) (bd:=F.bd) rfl (ab rfl rfl rfl rfl) (bn (t.arms.length:Int) omq (hW107.dice (.refl _) hd115).d) rfl (fun v123 H123 at123 hle123 hd123 hp123=>?_)
 exact zq797):a:=h
theorem zq753 (h:a:=by
 refine ay (F:=F) (V:=V100) (m:=m+1) [(b7,_),(b6,_)] rfl rfl (ab rfl rfl rfl rfl) (cF [110] (.inr (.inr (.inl rfl)))) hW100 omq rfl (fun v102 V102 hle102 hW102 hS102 hs102 ht102 hp102=>?_)
 exact zq754):a:=h
theorem zq748 (h:a:=by
 refine ay (F:=F) (V:={V with at_:=at99}) (m:=m) [(b7,_),(b6,_)] rfl rfl (ab rfl rfl rfl rfl) (eO _) (hW.dice (.refl _) hd99) omq rfl (fun v100 V100 hle100 hW100 hS100 hs100 ht100 hp100=>?_)
 exact zq749):a:=h
theorem zq34 (h:a:=by
 refine aj (s:=33) rfl ?_ ?_<;>intro g33
 · refine fj ?_;exact az rfl rfl (gg rfl rfl omq hc) rfl (aM rfl rfl (ab rfl rfl rfl rfl) (zn c) rfl (zq36))
 refine si ?_;refine o9 ?_
 exact zq35):a:=h
theorem zq579 (h:a:=by
 refine nX (X:=[(b17,_),(b15,_),(b4,_)]) (A:=(bw,_)::q.ob) rfl (ab rfl rfl rfl rfl) (AT role hp2 hN hn hq3 hq4 hq5 hT90 (by have:=EO (p:=p) (s:=lb) set;omega)) rfl (fun v97 H97 A97 hle97 hp97=>?_)
 exact zq580):a:=h
theorem zq469 (h:a:=by
 refine af rfl ?_ ?_<;>intro c32
 · refine pX ?_;exact aD (aR (.inr rfl) (ad rfl (RVal.tmp rfl)) (by first | exact absurd q25 q11 | (rw [DW hI.2.2 hx (by simp [c18]) (by simpa using c32)];exact hL)))
 exact zq435):a:=h
theorem zq352 (h:a:=by
 refine wA ?_;refine aw (ae rfl hlb29 rfl omq omq) rfl (aW (aN hlb29 hl2 rfl rfl) rfl (gQ ?_))
 exact TF.nil (jG ⟨l1,l2,at31,H29⟩ ⟨hd31,hle24.trans hle29⟩ ky (fun w hw=>hw))):a:=h
theorem zq165 (h:a:=by exact ar (.inr rfl) (ad rfl (RVal.tmp rfl)) (congrArg Value.bool (by first | exact ways_3 c8 h0 h1 (by simp_all [lu]) | exact ways_3n c8 g13 | exact(ways_n c8 omq).symm | exact(Dj c8 k0 hx c91 hal).symm | exact(Di c8 hn7 k0 c59 hal).symm))):a:=h
theorem CL (h:a:=by exact ar (.inr rfl) (ad rfl (RVal.tmp rfl)) (congrArg (Value.int .i64) (by first | exact(step_1 h1).symm | exact(step_2 h1 h2).symm | exact(step_3 h1 h2 c88).symm | exact(step_4 h1 h2 c88 h4).symm | exact(step_5 h1 h2 c88 h4 c114).symm | exact(step_6 h1 h2 c88 h4 c114).symm))):a:=h
theorem zq997 (h:a:=by
 refine TC.loop (V:=fun k=>[(9,.int .i64 k)]) (K:=[(6,_),(7,_),(8,_)]) (L:=fun k=>_) (I:=fun k=>0≤k∧k≤pg15.procs.length) (μ:=fun k=>(pg15.procs.length - k).toNat) (i:=(0:Int)) ky o2q (fun w hw=>hw) (fun k hI=>?_)
 exact zq998):a:=h
theorem zq847 (h:a:=by
 refine dw (t:=3) (f:=8) (ct:=.sl 1) rfl rfl (hW128.bagT hS147 hN147 hB147).bag (.skip _ (.skip _ (.skip _ (.skip _ (.skip _ .all))))) (hS147.1 _ _ hbw16) rfl hjw16 omq rfl (⟨_,_,_,rfl,hT147,by simp only [List.length_cons,List.length_nil];omega⟩) rfl rfl (fun Bst1 hBst1=>?_)
 exact zq848):a:=h
theorem zq894 (h:a:=by
 refine dw (t:=3) (f:=8) (ct:=.sl 1) rfl rfl (hW154.bagT hS173 hN173 hB173).bag (.skip _ (.skip _ (.skip _ (.skip _ (.skip _ (.skip _ .all)))))) (hS173.1 _ _ hbw18) rfl hjw18 omq rfl (⟨_,_,_,rfl,hT173,by simp only [List.length_cons,List.length_nil];omega⟩) rfl rfl (fun Bst2 hBst2=>?_)
 exact zq895):a:=h
theorem zq9 (h:a:=by
 refine TC.loop (V:=fun k=>[(3,.int .i64 k)]) (K:=[(0,_),(2,_)]) (L:=fun k=>_) (I:=fun k=>1≤k∧k≤s.length∧(s.drop 1).all fw=(s.drop k.toNat).all fw) (μ:=fun k=>(s.length - k).toNat) (i:=(1:Int)) ky ⟨by omega,by omega,rfl⟩ (fun w hw=>hw) (fun k hI=>?_)
 exact zq10):a:=h
theorem zq20 (h:a:=by exact aR (.inr rfl) (ad rfl (RVal.tmp rfl)) ⟨congrArg Value.bool (by first | exact(BX (by first | exact .inl g7 | exact .inr (.inl g12) | exact .inr (.inr (.inl ⟨c0,hc0,g18⟩)) | exact .inr (.inr (.inr c21)))).symm | exact(xY hn hI.2.2 c25).symm | exact(xZ hn hI.2.2 omq hc g33 c39).symm),rfl⟩):a:=h
theorem zq264 (h:a:=by
 refine TL.append (enc:=SStep.cells) rfl rfl rfl hOS (Src.own [s2] (.here _) rfl (by subst hs2e;show _=SStep.cells _++[];rw [List.append_nil];unfold SStep.cells;simp only [hCn,hWn];rfl)) (by simp;omega) rfl (.skip _ (.skip _ (.skip _ (.skip _ (.skip _ (.skip _ (.past _ .all))))))) rfl (fun a137 c137 ob137 hO137=>?_)
 exact zq265):a:=h
theorem iN (h:a:=by
 obtain⟨pg,hv,hpo,hgp,_,_⟩:=yt hBH (hR.le hle3) (fun x hx=>(hq x hx).le (hle2.trans hle3) (.refl _)) (hps.le (hle2.trans hle3)) ((hPs.le (hle2.trans hle3)).pk) hN (by first | omega | (simp;omega)) (by first | omega | (simp;omega))
 exact aR (.inr rfl) (ad rfl (RVal.cellA rfl (.there _ (.here _)) rfl)) ⟨pg,hv,hpo,hgp⟩):a:=h
theorem zq928 (h:a:=by
 refine ay (F:=⟨b15,bd,.slice psa ps.length psc,ps,da,.slice none 0 0,[],.slice none 0 0,[],0,dl⟩) (V:={V60 with at_:=at66}) (m:=20 * k.toNat+12+1) [(b11,_),(b8,_),(b4,_)] rfl rfl (ab rfl rfl rfl rfl) (eO _) (hW60.dice (.refl _) hd66) omq rfl (fun v67 V67 hle67 hW67 hS67 hs67 ht67 hp67=>?_)
 exact zq929):a:=h
theorem zq949 (h:a:=by
 refine ay (F:=⟨b15,bd,.slice psa ps.length psc,ps,da,.slice none 0 0,[],.slice none 0 0,[],0,dl⟩) (V:={V60 with at_:=at66}) (m:=20 * k.toNat+12+1) [(b11,_),(b8,_),(b4,_)] rfl rfl (ab rfl rfl rfl rfl) (eO _) (hW60.dice (.refl _) hd66) omq rfl (fun v67 V67 hle67 hW67 hS67 hs67 ht67 hp67=>?_)
 exact zq950):a:=h
theorem zq767 (h:a:=by
 refine ay (F:=F) (V:=V103) (m:=m+1+1+1) [(b7,_),(b6,_)] rfl rfl (ab rfl rfl rfl rfl) (fF ⟨3,[],[],[],[],i103,none,0,0,none,0,0,none,0,0, -1⟩ ⟨.nil,.nil,.nil,.nil,.nil,.nil,.nil,Nat.zero_le _,Nat.zero_le _,Nat.zero_le _⟩) hW103 omq rfl (fun v107 V107 hle107 hW107 hS107 hs107 ht107 hp107=>?_)
 exact zq768):a:=h
theorem zq180 (h:a:=by
 refine zm9 ?_;refine aM rfl rfl (ab rfl rfl rfl rfl) (bF x.label) rfl (xc ?_)
 refine aj (s:=81) rfl ?_ ?_<;>intro g81
 ·
  refine xf ?_;refine et rfl rfl rfl (et rfl rfl rfl (cE ?_));refine dP ?_
  exact aZ rfl (by unfold eS;simp_all) ky
 exact zq174):a:=h
theorem zq841 (h:a:=by
 refine iM (enc:=SWay.cells) (t:=1) rfl rfl rfl hW128.bag hww16 (Src.own [⟨[],[],_⟩] (.here _) rfl rfl) rfl (by intro y hy;rw [List.mem_singleton.1 hy];exact SWay.all (s:=⟨[],[],_⟩) .nil .nil) zt1 (by simp only [List.length_cons,List.length_nil];omega) rfl (.skip _ (.skip _ (.skip _ (.skip _ (.skip _ .all))))) rfl (fun S147 a147 c147 B147 hS147 hN147 hT147 hB147=>?_)
 exact zq842):a:=h
theorem zq888 (h:a:=by
 refine iM (enc:=SWay.cells) (t:=1) rfl rfl rfl hW154.bag hww18 (Src.own [⟨[],[],_⟩] (.here _) rfl rfl) rfl (by intro y hy;rw [List.mem_singleton.1 hy];exact SWay.all (s:=⟨[],[],_⟩) .nil .nil) zt1 (by simp only [List.length_cons,List.length_nil];omega) rfl (.skip _ (.skip _ (.skip _ (.skip _ (.skip _ (.skip _ .all)))))) rfl (fun S173 a173 c173 B173 hS173 hN173 hT173 hB173=>?_)
 exact zq889):a:=h
theorem zq419 (h:a:=by
 refine af rfl ?_ ?_<;>intro c78
 ·
  refine pX ?_;refine aD ?_
  have hEq:=uw (sets:=rows.map (·.l)) hno (by rw [List.length_map];exact fun j hj=>hI2 j omq)
  rw [List.length_map,if_pos omq] at hEq
  exact aU (.inr rfl) (co rfl (RVal.tmp rfl) (RVal.tmp rfl)) (fun w hw=>hw) ⟨_,_,rows,rfl,hO,hrw1,hrl,by rw [hEq],by rw [hEq]⟩
 exact zq420):a:=h
theorem zq920 (h:a:=by
 refine ay (F:=F) (V:=V) (m:=m) [(b6,_)] rfl rfl (ab rfl rfl rfl rfl) (nc false) hW omq rfl (fun v71 V71 hle71 hW71 hS71 hs71 ht71 hp71=>?_)
 obtain⟨rfl,hn71⟩:=hp71
 exact TL.nil (bq (bv (V':=V71) (X:=[(b6,_)]) (.inl rfl) (bZ rfl) rfl rfl (hW71.more omq) hS71 (by(try dsimp only);omega) (by(try dsimp only);omega) ⟨rfl,by(try dsimp only);omega⟩))):a:=h
theorem zq898 (h:a:=by exact bv (V':={{V154 with S:=S173,B:=B173} with B:=Bst2}) (X:=[(b172,_),(b146,_),(b7,_),(b6,_)]) (.inl rfl) (bZ rfl) rfl rfl (((hW154.bagT hS173 hN173 hB173).bagB hBst2).more omq) (hS100.trans (hS102.trans (hS103.trans (hS107.trans (hS128.trans (hS147.trans (hS154.trans (hS173)))))))) (by(try dsimp only);omega) (by(try dsimp only);omega) ⟨rfl,by(try dsimp only);omega⟩):a:=h
theorem zq388 (h:a:=by
 refine TC.loop (V:=fun m=>[(9,.int .i64 m)]) (K:=[(0,_),(4,_),(5,_),(7,_)]) (L:=fun m=>_) (I:=fun m=>(0≤m∧m≤rows.length)∧∀j:Nat,j<m.toNat→(rows.map (·.l))[j]? ≠some (ej p role (cZ p role frm))) (μ:=fun m=>(rows.length - m).toNat) (i:=(0:Int)) ky ⟨o2q,fun j h=>absurd h omq⟩ (fun w hw=>hw) (fun m hI=>?_)
 exact zq389):a:=h
theorem zq274 (h:a:=by
 refine zm381 ?_
 exact aI (i:=(k,(m,o),u1,ob1,S)) (k+1,(m2,o2),u2,ob2,S++[s2]) _ ob137 HPow ⟨o2q,hle,⟨hm2,by simp only at hz4;show o2.length≤3355443200 * (k+1).toNat;omega⟩,hO2,hO137,by simp only [List.length_append,List.length_cons,List.length_nil];omega,hSt.snoc hs2,by rw [List.map_append];exact hT2⟩ ky (fun w hw=>hw.drop.drop) omq):a:=h
theorem zq320 (h:a:=by
 refine aY (V:=fun(p:Nat×Nat) v ob H1=>[(3,.int .u64 (p.1:Int)),(4,v)]) (K:=[(0,_),(2,_)]) (L:=fun(p:Nat×Nat) v ob H1=>St [] w0 H H ob) (I:=fun(p:Nat×Nat) v ob H1=>∃o:Str,OwnSl 1 U8.cells v o ob∧DigI n.natAbs p.1 p.2 o) (μ:=fun(p:Nat×Nat)=>p.1+p.2) (n.natAbs,1) (.slice none 0 0) [] H ky ⟨[],OwnSl.nil,DigI.zero h0 h1⟩ (fun w hw=>hw) (fun p v ob H1 hI=>?_)
 exact zq321):a:=h
theorem zq373 (h:a:=by
 refine ao rfl (aA (X:=[(b9,_),(b8,_)]) (bd:=bd) rfl (ab rfl rfl rfl rfl) (bn 2 omq hd26) rfl (fun v31 H31 at31 hle31 hd31 hp31=>?_))
 obtain⟨eH31,r31,rfl,hr31⟩:=hp31
 replace eH31:=eH31.symm;subst eH31
 have hra31:=hr31.1
 have hrb31:=hr31.2.1 omq
 obtain⟨l2,hl2⟩:=mO (i:=2+r31) omq omq
 have hl4:labelsL.length=4:=rfl
 exact aq (S1 (S1 SN)) (hle24.trans (hle29)) (zq352)):a:=h
theorem zq254 (h:a:=by
 refine TC.region (k7 ?_)
 exact aI (i:=(k,m,o)) (k+1,m.set x.toNat (o.length:Int),o++[mvT m t]) _ ob51 H1 ⟨o2q,hle,by rw [List.length_set];exact hml,hO51.cast (by unfold mvT;simp [*]),by simp only [List.length_append,List.length_cons,List.length_nil];omega,tg_next k0 hk ht hT⟩ ky (fun w hw=>by have hw2:=hw.drop.drop;simp only [vz] at hw2;exact hw2) omq):a:=h
theorem zq178 (h:a:=by
 refine aj (s:=85) rfl ?_ ?_<;>intro g85
 ·
  have q85:=aO g85
  refine zm9 ?_;refine aM rfl rfl (ab rfl rfl rfl rfl) (bF x.name) rfl (fj ?_);refine dP ?_
  exact aZ rfl (by unfold eS;simp_all) ky
 have q85:=aK g85
 refine eq ?_;refine iF ?_
 exact aZ rfl (by unfold eS;simp_all) ky):a:=h
theorem zq351 (h:a:=by
 refine aA (X:=[(b9,_),(b8,_)]) (bd:=bd) rfl (ab rfl rfl rfl rfl) (bn 2 omq hd26) rfl (fun v31 H31 at31 hle31 hd31 hp31=>?_)
 obtain⟨eH31,r31,rfl,hr31⟩:=hp31
 replace eH31:=eH31.symm;subst eH31
 have hra31:=hr31.1
 have hrb31:=hr31.2.1 omq
 obtain⟨l2,hl2⟩:=mO (i:=2+r31) omq omq
 have hl4:labelsL.length=4:=rfl
 exact aq (S1 (S1 SN)) (hle24.trans (hle29)) (aW (aN hla24 hl1 rfl rfl) rfl (zq352))):a:=h
theorem zq809 (h:a:=by
 refine ay (F:=F) (V:={{V107 with at_:=at115} with at_:=at123}) (m:=m+1+1+1+1) [(b7,_),(b6,_)] rfl rfl (ab rfl rfl rfl rfl) (qx hG turn r115 deep h0 h1 (fun t2 h2=>by rw [htx] at h2;cases h2;have:=hTt.a1 omq omq;have:=hr115.1;have:=hr115.2.1 omq;omega) (ih hdp.1 omq) hK hdp) ((hW107.dice (.refl _) hd115).dice (.refl _) hd123) omq rfl (fun v128 V128 hle128 hW128 hS128 hs128 ht128 hp128=>?_)
 exact zq810):a:=h
theorem zq481 (h:a:=by
 refine af rfl ?_ ?_<;>intro c52
 ·
  refine wi ?_
  have hE:bH p role (rows.map (·.l)) set=((0,[],[]),805,rows.map (·.l)):=by unfold bH;rw [if_neg omq,if_neg h34,if_neg h48,if_pos omq]
  exact aU (.inr rfl) (co rfl (RVal.cellA rfl (.here _) rfl) (RVal.tmp rfl)) (fun w hw=>by rw [List.append_nil];exact hw.drop) ⟨_,ob,rows,.slice none 0 0,[],rfl,hO,hrw,hrl,by rw [hE],by rw [hE];exact OwnSl.nil,by rw [hE];rfl⟩
 exact zq482):a:=h
theorem zq857 (h:a:=by
 refine ay (F:=F) (V:={{V128 with S:=S147,B:=B147} with B:=Bst1}) (m:=m+1+1+1+1+(K+20)+1) [(b146,_),(b7,_),(b6,_)] rfl rfl (ab rfl rfl rfl rfl) (qx hG turn r123 deep h0 h1 (fun t2 h2=>by rw [htx] at h2;cases h2;have:=hTt.a1 omq omq;have:=hr123.1;have:=hr123.2.1 omq;omega) (ih hdp.1 omq) hK hdp) ((hW128.bagT hS147 hN147 hB147).bagB hBst1) omq rfl (fun v154 V154 hle154 hW154 hS154 hs154 ht154 hp154=>?_)
 exact zq858):a:=h
theorem zq491 (h:a:=by
 refine TC.loop (V:=fun k=>[(11,.int .i64 k)]) (K:=[(0,_),(1,_),(4,_),(5,_),(6,_),(7,_),(9,_)]) (L:=fun k=>St M w0 H H40 ((b4,[.int .i64 0,gs [],.slice none 0 0])::(bw,WK p role _)::ob)) (I:=fun k=>(0≤k∧k≤(eG p set).length)∧(eG p set).all (nP p set)=((eG p set).drop k.toNat).all (nP p set)) (μ:=fun k=>((eG p set).length - k).toNat) (i:=(0:Int)) ky ⟨o2q,rfl⟩ (fun w hw=>hw) (fun k hI=>?_)
 exact zq492):a:=h
theorem zq682 (h:a:=by
 refine af rfl ?_ ?_<;>intro c72
 ·
  refine pQ ?_
  refine ay (F:=F) (V:=V) (m:=m) [(b6,_)] rfl rfl (ab rfl rfl rfl rfl) (Bi hG turn deep h0 h1 (ih hdp.1 omq) hK hdp) hW omq rfl (fun v79 V79 hle79 hW79 hS79 hs79 ht79 hp79=>?_)
  obtain⟨rfl,hn79⟩:=hp79
  exact TL.nil (bq (bv (V':=V79) (X:=[(b6,_)]) (.inl rfl) (bZ rfl) rfl rfl (hW79.more omq) hS79 (by(try dsimp only);omega) (by(try dsimp only);omega) ⟨rfl,by(try dsimp only);omega⟩))
 exact zq683):a:=h
theorem zq459 (h:a:=by
 refine zm0 ?_
 refine TL.run (uj rfl rfl omq omq) rfl (TL.append (enc:=Str.cells) rfl rfl rfl hO41 (Src.sl (hL.sliced (j:=l.length) omq (Nat.le_refl _))) (by simp;omega) rfl (.skip _ .all) rfl (fun a46 c46 ob46 hO46=>?_))
 refine eh ?_
 refine TX.pubO hO46 (.skip _ .all) sq (fun H1 hle hR=>?_)
 exact aR (.inr rfl) (ad rfl (RVal.tmp rfl)) (by first | exact absurd q25 q11 | (rw [put_mid hI.2.2 hx (by simp [c18]) (by simpa using c32)];exact hR) | (rw [put_end hI.2.2 omq];exact hR))):a:=h
theorem zq324 (h:a:=by
 refine bY (decide (0<p.1)||decide (o.length=0)) 17 [(0,_),(2,_),(3,_),(4,_)] ky ?_ ?_
 ·
  refine pQ ?_
  refine aj (s:=13) rfl ?_ ?_<;>intro g13
  ·
   have q13:=of_decide_eq_true g13
   refine lX ?_
   exact aZ rfl (by first | exact dgo_1 g13 | exact dgo_2 g13) ky
  have q13:=of_decide_eq_false g13
  refine cQ ?_;refine az rfl rfl (bC rfl rfl hO) rfl (iF ?_)
  exact aZ rfl (by first | exact dgo_1 g13 | exact dgo_2 g13) ky
 exact zq325):a:=h
theorem zq291 (h:a:=by
 refine gP ?_
 refine aB rfl rfl rfl rfl (fun b38=>?_)
 refine TL.append (enc:=STurn.cells) rfl rfl rfl hO (Src.own [⟨1,x.to,x.arms,x.ap⟩] (.here _) rfl rfl) (by simp;omega) rfl (.skip _ (.skip _ (.skip _ (.skip _ (.skip _ (.skip _ .all)))))) rfl (fun a39 c39 ob39 hO39=>?_)
 refine zm5 ?_;refine md ?_;refine pS ?_
 exact aI (k+1) _ ob39 H ⟨o2q,hO39.cast (by rw [bR k0 hx];congr 2;first | exact(AX (by simp_all)).symm | exact(AY (by simp_all)).symm)⟩ ky (fun w hw=>hw.drop.drop.drop) omq):a:=h
theorem zq327 (h:a:=by
 refine aC rfl rfl rfl rfl (fun b36=>?_)
 refine ao rfl (TL.append (enc:=SArm.cells) rfl rfl rfl hO (Src.own [⟨lb,k31,nm31,r34⟩] (.here _) rfl rfl) (by have:=hI5;simp only [List.length_cons,List.length_nil];omega) rfl (.skip _ (.skip _ .all)) rfl (fun a37 c37 ob37 hO37=>?_))
 refine aq SN hle22 (zm7 ?_);refine TF.nil (jP ?_)
 exact aI (p.1+1,at34) _ ob37 H22 ⟨o2q,hd34,hI3.trans hle22,_,hO37,by simp only [List.length_append,List.length_cons,List.length_nil];omega,hI6.snoc hI5 hc31 ⟨hra34,hrb34⟩ hlb⟩ ky (fun w hw=>hw.drop) omq):a:=h
theorem zq83 (h:a:=by
 first
  | exact rk hx (by simp_all)
  | exact km hx hg o0 o1
  | exact km hx hg o0 (by first | exact vj c52_1 c54_1 | exact gG c52_1 c54_1 | exact zl c52_1 g57_1 | exact zk c52_1 g62_1 | exact hY c52_1 g57_1 g62_1 (e1.trans (by simp_all)))
  | exact km hx hg o0 (by first | exact vj c52_1 c54_1 | exact gG c52_1 c54_1 | exact zl c52_1 g57_1 | exact zk c52_1 g62_1 | exact hY c52_1 g57_1 g62_1 (e2.trans (by simp_all)))
  | exact rm hx hg (by first | exact vj c52_0 c54_0 | exact gG c52_0 c54_0 | exact zl c52_0 g57_0 | exact zk c52_0 g62_0 | exact hY c52_0 g57_0 g62_0 (e1.trans (by simp_all)))):a:=h
theorem zq230 (h:a:=by
 refine aY (V:=fun k v ob H1=>[(3,v),(34,.int .i64 k)]) (K:=[(2,_),(32,_),(33,_)]) (L:=fun k v ob H1=>St [] w0 H H ((b1,_)::ob)) (I:=fun k v ob H1=>(0≤k∧k≤s.casts.length)∧OwnSl 1 I64.cells v (jJ s++(s.casts.take k.toNat).flatMap (·.args)) ob∧((s.casts.take k.toNat).flatMap (·.args)).length≤6 * k.toNat) (μ:=fun k=>(s.casts.length - k).toNat) 0 _ ob30 H ky ⟨o2q,hO30.cast (by first | (rw [uS h8];simp) | (rw [uT c17 c21];simp) | (rw [kB h8 (.inr c21)];simp) | (rw [kB h8 (.inl c17)];simp)),by simp⟩ (fun w hw=>hw) (fun k v ob H1 hI=>?_)
 exact zq231):a:=h
theorem zq719 (h:a:=by
 refine ay (F:=F) (V:={V with at_:=at35}) (m:=m) [(b6,_)] rfl rfl (ab rfl rfl rfl rfl) (qx hG turn r35 deep h0 h1 (fun t2 h2=>by rw [htx] at h2;cases h2;have:=hTt.a1 omq omq;have:=hr35.1;have:=hr35.2.1 omq;omega) (ih hdp.1 omq) hK hdp) (hW.dice (.refl _) hd35) omq rfl (fun v37 V37 hle37 hW37 hS37 hs37 ht37 hp37=>?_)
 dsimp only at hle37 hS37 hs37 ht37 hp37
 obtain⟨rfl,hn37⟩:=hp37
 exact aq (S1 SN) hle37 (TF.nil (bq (bv (V':=V37) (X:=[(b6,_)]) (.inl rfl) (bZ rfl) rfl rfl (hW37.more omq) hS37 (by(try dsimp only);omega) (by(try dsimp only);omega) ⟨rfl,by(try dsimp only);omega⟩)))):a:=h
theorem zq540 (h:a:=by
 refine af rfl ?_ ?_<;>intro c80
 · exact zq541
 refine qi ?_
 obtain⟨va,vc,hv⟩:=hq6.form
 rw [hv] at hq6 ⊢
 refine gP ?_;refine sJ ?_;refine eh ?_
 have hT:dh p role set (eG p set) (rows.map (·.l)) []=(q.arms,0,q.rows.map (·.l)):=by rw [← hq7,List.drop_eq_nil_of_le omq];rfl
 have hE:bH p role (rows.map (·.l)) set=(((du p role set).1,(du p role set).2.1,q.arms),0,q.rows.map (·.l)):=by unfold bH;rw [if_neg omq,if_neg h34,if_neg h48,if_neg omq,if_neg h72,if_neg (by rw [hT];simp),hT]
 exact aU (.inr rfl) (co rfl (RVal.cellA rfl (.there _ (.here _)) rfl) (RVal.tmp rfl)) (fun w hw=>hw.drop.drop) ⟨_,q.ob,q.rows,_,q.oa,rfl,hq3,hq4,hq5,by rw [hE],by rw [hE];exact hq6,by rw [hE];rfl⟩):a:=h
theorem zq1045 (h:a:=by
 refine bi rfl rfl (bh hP17.q hq2 rfl rfl) rfl (bi rfl rfl (ai rfl rfl hqo2.t) rfl (vW ?_));refine bi rfl rfl (ae rfl hP15.q rfl omq omq) rfl (iC ?_)
 refine bi rfl rfl (bh hP15.q hq rfl rfl) rfl (bi rfl rfl (ai rfl rfl hqo.t) rfl (bi rfl rfl (aF rfl) rfl (lV ?_)))
 refine eK (s:=91) rfl ?_ ?_<;>intro g91
 ·
  have q91:=of_decide_eq_true g91
  exact(show False by omega).elim
 have q91:=of_decide_eq_false g91
 refine bi rfl rfl (a7 rfl (.here _) rfl) rfl (vW ?_);refine bi rfl rfl (ae rfl hP15.q rfl omq omq) rfl (iC ?_)
 refine bi rfl rfl (bh hP15.q hq rfl rfl) rfl (jf rfl rfl (ab rfl rfl rfl rfl) (iX q.name hP17) rfl (lg ?_));refine kV ?_
 refine aP rfl ?_ ?_<;>intro c102
 · exact absurd z3 c102
 exact io):a:=h
theorem zq526 (h:a:=by
 refine TC.loop (ι:=TQ1) (V:=fun q=>[(16,.int .i64 q.k)]) (K:=[(0,_),(1,_),(4,_),(5,_),(9,_),(15,_)]) (L:=fun q=>St M w0 H q.h ((b15,[.int .i64 (du p role set).1,gs (du p role set).2.1,q.v])::(b4,[.int .i64 0,gs [],.slice none 0 0])::(bw,WK p role q.sv)::(q.ob++q.oa))) (I:=fun q=>(0≤q.k∧q.k≤(eG p set).length)∧H40.le q.h∧OwnSl 1 GRow.cells q.sv q.rows q.ob∧GRowsOk q.h q.rows∧q.rows.length≤40∧OwnSl 4 SArm.cells q.v q.arms q.oa∧dh p role set ((eG p set).drop q.k.toNat) (q.rows.map (·.l)) q.arms=dh p role set (eG p set) (rows.map (·.l)) []∧(q.arms.length:Int)=q.k) (μ:=fun q=>((eG p set).length - q.k).toNat) (i:=⟨0,H40,_,ob,rows,.slice none 0 0,[],[]⟩) ky ⟨⟨by show(0:Int)≤0;omega,by show(0:Int)≤_;omega⟩,.refl _,hO,hrw,hrl,OwnSl.nil,rfl,rfl⟩ (fun w hw=>by rw [List.append_nil];exact hw) (fun q hI=>?_)
 exact zq527):a:=h
theorem zq430 (h:a:=by
 refine aB rfl rfl rfl rfl (fun b85=>?_)
 refine TL.append (enc:=GRow.cells) rfl rfl rfl hO (Src.own [⟨(ej p role (cZ p role frm)),(a29,c29)⟩] (.here _) rfl rfl) (by simp only [List.length_cons,List.length_nil];omega) rfl (.skip _ (.skip _ .all)) rfl (fun a86 c86 ob86 hO86=>?_)
 refine eZ ?_;refine m6 ?_;refine gE ?_;refine eZ ?_;refine m7 ?_;refine TL.run (bC rfl rfl hO86) rfl (zm382 ?_);refine fQ ?_
 have hEq:=uw (sets:=rows.map (·.l)) hno (by rw [List.length_map];exact fun j hj=>hI2 j omq)
 rw [List.length_map,if_neg omq] at hEq
 exact aU (.inr rfl) (co rfl (RVal.tmp rfl) (RVal.tmp rfl)) (fun w hw=>hw.drop) ⟨_,_,rows++[⟨(ej p role (cZ p role frm)),(a29,c29)⟩],rfl,hO86,fun r hr=>by rcases List.mem_append.1 hr with hr | hr;exact hrw1 r hr;rw [List.mem_singleton.1 hr];exact hN1,by simp only [List.length_append,List.length_cons,List.length_nil];omega,by rw [hEq];simp,by rw [hEq]⟩):a:=h
theorem zq626 (h:a:=by
 refine zm3 ?_
 refine TL.alloc rfl (fun b12=>?_)
 refine gc ?_;refine ly ?_;refine dN ?_
 refine TC.cond rfl ?_ ?_<;>intro c72
 ·
  refine k6 ?_;refine sJ ?_;refine eh ?_;refine iO ?_
  have hE:bH p role (rows.map (·.l)) set=((0,[],[]),804,rows.map (·.l)):=by unfold bH;rw [if_neg omq,if_neg h34,if_neg h48,if_neg omq,if_pos (dm (p:=nP p set) k0 hlx (by simpa [nP] using c72) hal)]
  exact aU (.inr rfl) (co rfl (RVal.cellA rfl (.there _ (.here _)) rfl) (RVal.tmp rfl)) (fun w hw=>by rw [List.append_nil];exact(St.dropT (A:=(bw,_)::ob) hw.drop.drop)) ⟨_,ob,rows,.slice none 0 0,[],rfl,hO,hrw,hrl,by rw [hE],by rw [hE];exact OwnSl.nil,by rw [hE];rfl⟩
 refine iE ?_
 exact aQ (k+1) ⟨o2q,cd (p:=nP p set) k0 hlx (by simpa [nP] using c72) hal⟩ ky (fun w hw=>St.dropT (A:=(b4,_)::(bw,_)::ob) hw.drop) omq):a:=h
theorem zq239 (h:a:=by
 refine af rfl ?_ ?_<;>intro c35
 ·
  obtain⟨x,hx⟩:=al (l:=s.casts) k0 c35
  have hxa:=hs.cs x (List.mem_of_getElem? hx)
  have hx6:=hl3 x (List.mem_of_getElem? hx)
  refine dx ?_;refine TL.run (ae rfl hc rfl omq omq) rfl (TL.run (bg hc hx rfl rfl) rfl (TL.alloc rfl (fun b5=>?_)))
  refine wW ?_
  refine TL.append (enc:=I64.cells) rfl rfl rfl hO (Src.sl hxa) (by have hh:=nk s;simp only [List.length_append];omega) rfl (.skip _ (.skip _ .all)) rfl (fun a41 c41 ob41 hO41=>?_)
  refine mh ?_
  exact aI (k+1) _ ob41 H ⟨o2q,hO41.cast (by rw [bM k0 hx,List.flatMap_append];simp),by rw [bM k0 hx,List.flatMap_append,List.length_append];simp only [List.flatMap_cons,List.flatMap_nil,List.append_nil];omega⟩ ky (fun w hw=>hw.drop) omq
 refine sj ?_
 exact ez (.inr rfl) (ad rfl (RVal.tmp rfl)) (.skip _ .all) ⟨rfl,hO.cast (by rw [bA c35 k0,ng])⟩):a:=h
theorem zq248 (h:a:=by
 refine af rfl ?_ ?_<;>intro c35
 ·
  obtain⟨x,hx⟩:=al (l:=s.casts) k0 c35
  have hxa:=hs.cs x (List.mem_of_getElem? hx)
  have hx6:=hl3 x (List.mem_of_getElem? hx)
  refine dx ?_;refine TL.run (ae rfl hc rfl omq omq) rfl (TL.run (bg hc hx rfl rfl) rfl (TL.alloc rfl (fun b5=>?_)))
  refine wW ?_
  refine TL.append (enc:=I64.cells) rfl rfl rfl hO (Src.sl hxa) (by have hh:=nk s;simp only [List.length_append];omega) rfl (.skip _ (.skip _ (.skip _ .all))) rfl (fun a41 c41 ob41 hO41=>?_)
  refine mh ?_
  exact aI (k+1) _ ob41 H ⟨o2q,hO41.cast (by rw [bM k0 hx,List.flatMap_append];simp),by rw [bM k0 hx,List.flatMap_append,List.length_append];simp only [List.flatMap_cons,List.flatMap_nil,List.append_nil];omega⟩ ky (fun w hw=>hw.drop) omq
 refine sj ?_
 exact ez (.inr rfl) (ad rfl (RVal.tmp rfl)) (.skip _ (.skip _ .all)) ⟨rfl,hO.cast (by rw [bA c35 k0,ng])⟩):a:=h
theorem zq431 (h:a:=by
 obtain⟨r,hrx⟩:=al (l:=rows) m0 c60
 refine mm ?_;refine qd ?_;refine zm0 ?_;refine TL.run (bN rfl rfl hO omq omq) rfl (TL.run (ef (j:=0) rfl hO (.skip _ .all) hrx rfl) rfl (zm0 ?_))
 refine au (ab rfl rfl rfl rfl) (qW (hrw1 r (List.mem_of_getElem? hrx)) hN1) rfl (TL.nil (ag (TC.cond rfl (fun c71=>?_) (fun c71=>?_))))
 ·
  refine p7 ?_;refine iO ?_
  have hEq:=Cd (sets:=rows.map (·.l)) hno (k:=m.toNat) (by rw [List.getElem?_map,hrx];simpa using c71) hI2
  rw [show((m.toNat:Nat):Int)=m by omega] at hEq
  exact aU (.inr rfl) (co rfl (RVal.tmp rfl) (RVal.tmp rfl)) (fun w hw=>hw) ⟨_,_,rows,rfl,hO,hrw1,hrl,by rw [hEq],by rw [hEq]⟩
 refine iE ?_
 exact aQ (m+1) ⟨o2q,fun j2 h2=>by by_cases e:j2<m.toNat;exact hI2 j2 e;rw [show j2=m.toNat by omega,List.getElem?_map,hrx];intro e2;exact absurd (by simpa using e2) (by simpa using c71)⟩ ky (fun w hw=>hw) omq):a:=h
theorem zq311 (h:a:=by
 refine bY (!decide (xB=[])&&cj bound xB) 74 [(3,_),(4,_),(6,_),(8,_),(15,_),(62,_),(63,_),(64,_),(65,_),(66,_),(67,_)] ky ?_ ?_
 ·
  refine jk ?_;refine l3 ?_
  refine aj (s:=70) rfl ?_ ?_<;>intro g70
  ·
   have q70:=aO g70
   refine fj ?_;refine aM rfl rfl (ab rfl rfl rfl rfl) (i4 xB hB) rfl (dP ?_)
   exact aZ rfl (by simp_all) ky
  have q70:=aK g70
  refine lX ?_
  exact aZ rfl (by simp_all) ky
 refine TC.cond rfl ?_ ?_<;>intro c74
 ·
  have h2:=dm (p:=(fun n=>!(!decide (n=[])&&cj bound n))) k0 hxB (by rw [c74];rfl) hal
  exact vP
 refine lY ?_
 exact aQ (k+1) ⟨o2q,cd (p:=(fun n=>!(!decide (n=[])&&cj bound n))) k0 hxB (by rw [c74];rfl) hal⟩ ky (fun w hw=>hw) omq):a:=h
theorem zq595 (h:a:=by
 refine aP rfl ?_ ?_<;>intro c101
 ·
  refine k6 ?_;refine zm0 ?_;refine cH rfl rfl rfl rfl rfl (.there _ (.there _ (.here _))) rfl rfl (eh ?_);refine kW ?_
  have hT:dh p role set (eG p set) (rows.map (·.l)) []=([],(bS p role (q.rows.map (·.l)) (el p set lb).2.2.1).2.1,(bS p role (q.rows.map (·.l)) (el p set lb).2.2.1).2.2):=by rw [← hq7];exact Bl hlx c101
  have hE:bH p role (rows.map (·.l)) set=((0,[],[]),(bS p role (q.rows.map (·.l)) (el p set lb).2.2.1).2.1,(bS p role (q.rows.map (·.l)) (el p set lb).2.2.1).2.2):=by unfold bH;rw [if_neg omq,if_neg h34,if_neg h48,if_neg omq,if_neg h72,if_pos (by rw [hT];exact c101),hT]
  exact aU (.inr rfl) (co rfl (RVal.cellA rfl (.there _ (.there _ (.here _))) rfl) (RVal.tmp rfl)) (fun w hw=>by rw [List.append_nil];exact(St.dropT (A:=(bw,_)::ob97) hw.drop.drop.drop)) ⟨_,ob97,rows97,.slice none 0 0,[],rfl,hO97,hrw97,hrl97,by rw [hE];exact hm97,by rw [hE];exact OwnSl.nil,by rw [hE];rfl⟩
 exact zq596):a:=h
theorem zq640 (h:a:=by
 refine aP rfl ?_ ?_<;>intro c30
 ·
  refine eN ?_;refine zm3 ?_;refine eh ?_;refine kW ?_
  have hE:kY p=((dL p rr).1,k):=by unfold kY;rw [if_neg (by rw [hRB];decide),← hI3,BK hrx c30,show((k.toNat:Nat):Int)=k by omega]
  exact aR (.inr rfl) (fc rfl (RVal.tmp rfl) (RVal.tmp rfl) (RVal.tmp rfl)) ⟨_,by rw [hE],fun h=>absurd h (by rw [hE];exact c30),fun _=>rfl⟩
 have hR2:=hRo (by simpa using c30)
 refine de ?_;refine wg ?_
 refine aB rfl rfl rfl rfl (fun b35=>?_)
 refine TL.append (enc:=SLocal.cells) rfl rfl rfl hO (Src.own [⟨nm,ts,tp⟩] (.here _) rfl rfl) (by have:=hLs.len;simp only [List.length_cons,List.length_nil];omega) rfl (.skip _ (.skip _ (.skip _ .all))) rfl (fun a36 c36 ob36 hO36=>?_)
 refine l5 ?_
 exact aI (k+1) _ ob36 H26 ⟨o2q,hI2.trans hle26,by rw [show(k+1).toNat=k.toNat+1 by omega,← zb hrx (by simpa using c30)];exact hI3,_,hO36,(hLs.le hle26).snoc hrx hR2.1 hR2.2.1 hR2.2.2⟩ ky (fun w hw=>hw.drop.drop) omq):a:=h
theorem zq606 (h:a:=by
 refine aJ (S1 (S1 (S1 (S1 SN)))) (Hp.le.refl _) (fun _ _=>aN hlab3 hlx rfl rfl) rfl (Ae ?_);refine wu ?_
 refine aC rfl rfl rfl rfl (fun b113=>?_)
 refine ao rfl (TL.append (enc:=SArm.cells) rfl rfl rfl hq6 (Src.own [⟨lb,_,_,_⟩] (.here _) rfl rfl) (by simp only [List.length_cons,List.length_nil];omega) rfl (.skip _ (.skip _ (.skip _ (.skip _ (.skip _ (.past _ .all)))))) rfl (fun a114 c114 ob114 hO114=>?_))
 refine sO ?_;refine Ap ?_;refine TF.back (TF.nil (jP ?_))
 exact aQ (⟨q.k+1,H97,sv97,ob97,rows97,_,ob114,q.arms++[⟨lb,(el p set lb).1,(el p set lb).2.1,(bS p role (q.rows.map (·.l)) (el p set lb).2.2.1).1⟩]⟩:TQ1) ⟨⟨by show 0≤q.k+1;omega,by show q.k+1≤_;omega⟩,hq2.trans (leP90.trans hle97),hO97,hrw97,hrl97,hO114,by show dh p role set ((eG p set).drop (q.k+1).toNat) (rows97.map (·.l)) _=_;rw [hm97,show(q.k+1).toNat=q.k.toNat+1 by omega,← yW hlx (by simpa using c101)];exact hq7,by simp only [List.length_append,List.length_cons,List.length_nil];omega⟩ ky (fun w hw=>hw.drop.drop) (by show(_ - (q.k+1)).toNat<_;omega)):a:=h
theorem zq941 (h:a:=by
 refine jg (enc:=I64.cells) (t:=4) (X:=[]) (Y:=[(b11,_),(b8,_),(b4,_),(b15,_),(bd,_)]) [_,_] rfl hW67.bag rfl rfl rfl (by intro y hy;exact⟨⟨_,rfl⟩,trivial⟩) (fun Sb68 Bb68 hSb68 hNb68 hbb68 hBb68=>?_)
 refine zm3 ?_;refine qt ?_;refine zm1 ?_
 refine af rfl ?_ ?_<;>intro c73
 · exact absurd c73 c52
 refine wg ?_
 refine ay (F:=⟨b15,bd,.slice psa ps.length psc,ps,da,.slice none 0 0,[],.slice none 0 0,[],0,dl⟩) (V:={V67 with S:=Sb68,B:=Bb68}) (m:=20 * k.toNat+12+1+1) [(b11,_),(b8,_),(b4,_)] rfl rfl (ab rfl rfl rfl rfl) (fa ⟨7,[],[],[],(p.name++rr), -1,some ⟨b68,0,none⟩,2,2,none,0,0,none,0,0, -1⟩ ⟨.nil,.nil,.nil,(hG.proc hrr),(SlT.blk hbb68 le2),.nil,.nil,(by have:=hW67.n10;dsimp only at *;omega),Nat.zero_le _,Nat.zero_le _⟩) (hW67.bagA hSb68 hNb68 hBb68) omq rfl (fun v79 V79 hle79 hW79 hS79 hs79 ht79 hp79=>?_)
 dsimp only at hle79 hS79 hs79 ht79 hp79
 obtain⟨rfl,hn79⟩:=hp79
 refine TL.nil (jP ?_)
 exact gN (k+1) V79 r (⟨hW79.more omq,o2q,((((hI3.trans hle47).trans hle60).trans hle67).trans hle79),by omega⟩) ky (fun w hw=>hw.drop.drop) omq):a:=h
theorem zq962 (h:a:=by
 refine jg (enc:=I64.cells) (t:=4) (X:=[]) (Y:=[(b11,_),(b8,_),(b4,_),(b15,_),(bd,_)]) [_,_] rfl hW67.bag rfl rfl rfl (by intro y hy;exact⟨⟨_,rfl⟩,trivial⟩) (fun Sb68 Bb68 hSb68 hNb68 hbb68 hBb68=>?_)
 refine zm3 ?_;refine qt ?_;refine zm1 ?_
 refine af rfl ?_ ?_<;>intro c73
 ·
  refine wg ?_
  refine ay (F:=⟨b15,bd,.slice psa ps.length psc,ps,da,.slice none 0 0,[],.slice none 0 0,[],0,dl⟩) (V:={V67 with S:=Sb68,B:=Bb68}) (m:=20 * k.toNat+12+1+1) [(b11,_),(b8,_),(b4,_)] rfl rfl (ab rfl rfl rfl rfl) (fF ⟨6,[],[],[],(p.name++rr), -1,some ⟨b68,0,none⟩,2,2,none,0,0,none,0,0, -1⟩ ⟨.nil,.nil,.nil,(hG.proc hrr),(SlT.blk hbb68 le2),.nil,.nil,(by have:=hW67.n10;dsimp only at *;omega),Nat.zero_le _,Nat.zero_le _⟩) (hW67.bagA hSb68 hNb68 hBb68) omq rfl (fun v76 V76 hle76 hW76 hS76 hs76 ht76 hp76=>?_)
  dsimp only at hle76 hS76 hs76 ht76 hp76
  obtain⟨rfl,hn76⟩:=hp76
  refine TL.nil (jP ?_)
  exact gN (k+1) V76 r (⟨hW76.more omq,o2q,((((hI3.trans hle47).trans hle60).trans hle67).trans hle76),by omega⟩) ky (fun w hw=>hw.drop.drop) omq
 exact absurd c52 c73):a:=h
theorem zq325 (h:a:=by
 refine TC.cond rfl ?_ ?_<;>intro c17
 ·
  have hgo:=dgo_T c17
  refine de ?_;refine TC.block (d5 ?_);refine TL.run (fX rfl rfl dq) rfl (zm0 ?_);refine TL.run (PR.to (dC rfl) (congrArg (Value.int .u8) (EK p.1))) rfl (aB rfl rfl rfl rfl (fun b22=>?_))
  refine zm0 ?_
  refine TL.append (enc:=U8.cells) rfl rfl rfl (OwnSl.blk (enc:=U8.cells) [UInt8.ofNat (48+p.1 % 10)] rfl rfl dq) (Src.og hO (.skip _ .all)) (by have:=hD.len;simp;omega) rfl (.take (.here _) rfl) rfl (fun a24 c24 ob24 hO24=>?_)
  refine zm1 ?_;refine jk ?_;refine TL.run (PR.to (D2 rfl rfl dq) (congrArg (Value.int .u64) (dig_quo hD.lt))) rfl (dP ?_)
  exact bq (aI (p.1 / 10,0) _ ob24 H1 ⟨_,hO24,hD.next hgo⟩ ky (fun w hw=>hw.dropN) (hD.down hgo))
 have hend:=dgo_F c17
 refine gC ?_;refine dN ?_
 refine af rfl ?_ ?_<;>intro c28
 ·
  refine d5 ?_;refine TL.run (xR rfl hO .all) rfl (TL.run (eo rfl rfl (by have:=hD.len;simp;omega)) rfl (sL ?_))
  exact ar (.inr rfl) (ad rfl (RVal.tmp rfl)) (congrArg gs (by first | exact yy hD hend c28 | exact yx hD hend c28))
 refine oB ?_;refine TL.run (xR rfl hO .all) rfl (eh ?_)
 exact ar (.inr rfl) (ad rfl (RVal.tmp rfl)) (congrArg gs (by first | exact yy hD hend c28 | exact yx hD hend c28))):a:=h
theorem zq646 (h:a:=by
 refine ay (F:=F) (V:={V54 with at_:=at60}) (m:=m+0+1) [(b10,_),(b8,_),(b5,_)] rfl rfl (ab rfl rfl rfl rfl) (eO _) (hW54.dice (.refl _) hd60) omq rfl (fun v61 V61 hle61 hW61 hS61 hs61 ht61 hp61=>?_)
 dsimp only at hle61 hS61 hs61 ht61 hp61
 obtain⟨i61,rfl⟩:=hp61
 refine aq (S1 (S1 (S1 SN))) (hle54.trans (hle61)) (aC rfl rfl rfl rfl (fun b62=>?_))
 refine wv ?_;refine jS ?_
 refine TC.region (jg (enc:=I64.cells) (t:=4) (X:=[]) (Y:=[(b10,_),(b8,_),(b5,_),(F.bw,_),(F.bd,_)]) [_,_] rfl hW61.bag rfl rfl rfl (by intro y hy;exact⟨⟨_,rfl⟩,trivial⟩) (fun Sb62 Bb62 hSb62 hNb62 hbb62 hBb62=>?_))
 refine zm0 ?_;refine gP ?_
 refine ay (F:=F) (V:={V61 with S:=Sb62,B:=Bb62}) (m:=m+0+1+1) [(b10,_),(b8,_),(b5,_)] rfl rfl (ab rfl rfl rfl rfl) (fa ⟨7,[],[],[],(p.name++rr), -1,some ⟨b62,0,none⟩,2,2,none,0,0,none,0,0, -1⟩ ⟨.nil,.nil,.nil,(hG.proc hrr),(SlT.blk hbb62 le2),.nil,.nil,(by have:=hW61.n10;dsimp only at *;omega),Nat.zero_le _,Nat.zero_le _⟩) (hW61.bagA hSb62 hNb62 hBb62) omq rfl (fun v66 V66 hle66 hW66 hS66 hs66 ht66 hp66=>?_)
 dsimp only at hle66 hS66 hs66 ht66 hp66
 obtain⟨rfl,hn66⟩:=hp66
 exact TL.nil (bv (V':=V66) (X:=[(b10,_),(b8,_),(b5,_)]) (.inl rfl) (bZ rfl) rfl rfl (hW66.more omq) (hS44.trans (hS54.trans (hS61.trans (hSb62.trans (hS66))))) (by(try dsimp only);omega) (by(try dsimp only);omega) rfl)):a:=h
end Go.Sx
