import Derived.Test.YtjnlogbbcceaoaaGreatEm
set_option linter.all false
namespace Go.Sx
variable {a b : Prop}
theorem zq6 (h:a:=by exact TL.nil (zq7)):a:=h
theorem zq3 (h:a:=by exact TC.seq (zq4)):a:=h
theorem zq2 (h:a:=by exact TC.seq (zq3)):a:=h
theorem zq44 (h:a:=by exact TL.nil (zq45)):a:=h
theorem zq25 (h:a:=by exact TC.seq (zq26)):a:=h
theorem zq23 (h:a:=by exact TC.seq (zq24)):a:=h
theorem zq17 (h:a:=by exact TL.nil (zq18)):a:=h
theorem zq11 (h:a:=by exact TC.seq (zq12)):a:=h
theorem zq10 (h:a:=by exact TC.seq (zq11)):a:=h
theorem zq7 (h:a:=by exact ai (zq8)):a:=h
theorem zq1 (h:a:=by exact ai (zq2)):a:=h
theorem zq0 (h:a:=by exact TC.skip (zq1)):a:=h
theorem zq71 (h:a:=by exact TC.ret (zq47)):a:=h
theorem zq69 (h:a:=by exact TL.nil (zq70)):a:=h
theorem GK (h:a:=by exact TC.seq (zq67)):a:=h
theorem zq63 (h:a:=by exact TL.nil (zq64)):a:=h
theorem zq97 (h:a:=by exact TC.seq (zq98)):a:=h
theorem zq95 (h:a:=by exact TC.seq (zq96)):a:=h
theorem zq90 (h:a:=by exact TL.nil (zq91)):a:=h
theorem zq84 (h:a:=by exact TC.seq (zq85)):a:=h
theorem zq83 (h:a:=by exact TC.seq (zq84)):a:=h
theorem zq79 (h:a:=by exact TL.nil (zq80)):a:=h
theorem zq76 (h:a:=by exact TC.seq (zq77)):a:=h
theorem zq75 (h:a:=by exact TC.seq (zq76)):a:=h
theorem zq38 (h:a:=by exact ai (zq39)):a:=h
theorem zq37 (h:a:=by exact bn (zq38)):a:=h
theorem zq36 (h:a:=by exact TC.skip (zq37)):a:=h
theorem zq45 (h:a:=by exact ai (zq46)):a:=h
theorem zq22 (h:a:=by exact ai (zq23)):a:=h
theorem zq21 (h:a:=by exact TC.skip (zq22)):a:=h
theorem zq18 (h:a:=by exact ai (zq19)):a:=h
theorem zq8 (h:a:=by exact TC.block (zq9)):a:=h
theorem zq70 (h:a:=by exact ai (zq71)):a:=h
theorem zq64 (h:a:=by exact ai (zq65)):a:=h
theorem zq94 (h:a:=by exact ai (zq95)):a:=h
theorem zq93 (h:a:=by exact TC.skip (zq94)):a:=h
theorem zq91 (h:a:=by exact ai (zq92)):a:=h
theorem zq80 (h:a:=by exact ai (zq81)):a:=h
theorem zq74 (h:a:=by exact ai (zq75)):a:=h
theorem zq73 (h:a:=by exact TC.skip (zq74)):a:=h
theorem zq125 (h:a:=by exact TL.nil (zq126)):a:=h
theorem zq122 (h:a:=by exact TC.seq (zq123)):a:=h
theorem zq115 (h:a:=by exact TC.seq (zq116)):a:=h
theorem zq113 (h:a:=by exact TL.nil (zq114)):a:=h
theorem zq110 (h:a:=by exact TC.seq (zq111)):a:=h
theorem G4 (h:a:=by exact mj (zq109)):a:=h
theorem zq141 (h:a:=by exact TC.ret (zq142)):a:=h
theorem zq139 (h:a:=by exact TL.nil (zq140)):a:=h
theorem zq136 (h:a:=by exact TC.seq (zq137)):a:=h
theorem zq133 (h:a:=by exact TL.nil (zq134)):a:=h
theorem zq165 (h:a:=by exact TC.ret (GW)):a:=h
theorem zq163 (h:a:=by exact TL.nil (zq164)):a:=h
theorem zq160 (h:a:=by exact TC.seq (zq161)):a:=h
theorem zq157 (h:a:=by exact TL.nil (zq158)):a:=h
theorem zq171 (h:a:=by exact TC.ret (zq172)):a:=h
theorem zq169 (h:a:=by exact TL.nil (zq170)):a:=h
theorem zG (h:a:=by exact TC.seq (zq167)):a:=h
theorem zq196 (h:a:=by exact TC.ret (zq197)):a:=h
theorem zq194 (h:a:=by exact TL.nil (zq195)):a:=h
theorem zq190 (h:a:=by exact TC.seq (zq191)):a:=h
theorem zq201 (h:a:=by exact TL.nil (zq189)):a:=h
theorem zq185 (h:a:=by exact TL.nil (zq186)):a:=h
theorem zq180 (h:a:=by exact TC.seq (zq181)):a:=h
theorem zq179 (h:a:=by exact TC.seq (zq180)):a:=h
theorem zq207 (h:a:=by exact TL.nil (zq177)):a:=h
theorem zq283 (h:a:=by exact TC.seq (zq284)):a:=h
theorem zq281 (h:a:=by exact TL.nil (zq282)):a:=h
theorem zq278 (h:a:=by exact TC.seq (zq279)):a:=h
theorem zq272 (h:a:=by exact TL.nil (zq273)):a:=h
theorem zq266 (h:a:=by exact TC.seq (zq267)):a:=h
theorem zq265 (h:a:=by exact TC.seq (zq266)):a:=h
theorem zq263 (h:a:=by exact TL.nil (zq264)):a:=h
theorem zq256 (h:a:=by exact TC.seq (zq257)):a:=h
theorem zq292 (h:a:=by exact TC.seq (zq293)):a:=h
theorem zq290 (h:a:=by exact TL.nil (zq291)):a:=h
theorem zq287 (h:a:=by exact TC.seq (zq288)):a:=h
theorem zq296 (h:a:=by exact TL.nil (zq297)):a:=h
theorem zq318 (h:a:=by exact TL.nil (zq319)):a:=h
theorem zq312 (h:a:=by exact TL.nil (zq313)):a:=h
theorem zq331 (h:a:=by exact TL.nil (zq332)):a:=h
theorem zq324 (h:a:=by exact TL.nil (zq325)):a:=h
theorem GQ (h:a:=by exact TC.seq (zq321)):a:=h
theorem zq341 (h:a:=by exact TL.nil (zq342)):a:=h
theorem zF (h:a:=by exact TC.seq (zq339)):a:=h
theorem zq354 (h:a:=by exact TL.nil (zq355)):a:=h
theorem zq349 (h:a:=by exact TC.seq (zq350)):a:=h
theorem zq347 (h:a:=by exact TC.seq (zq348)):a:=h
theorem zq368 (h:a:=by exact TC.seq (zq369)):a:=h
theorem zq363 (h:a:=by exact TC.seq (zq364)):a:=h
theorem zq361 (h:a:=by exact TL.nil (zq362)):a:=h
theorem zq358 (h:a:=by exact TC.seq (zq359)):a:=h
theorem zq467 (h:a:=by exact TC.seq (zq468)):a:=h
theorem zq462 (h:a:=by exact TL.nil (zq463)):a:=h
theorem zq454 (h:a:=by exact TC.seq (zq455)):a:=h
theorem zq453 (h:a:=by exact TC.seq (zq454)):a:=h
theorem zq445 (h:a:=by exact TL.nil (zq446)):a:=h
theorem zq436 (h:a:=by exact TC.seq (zq437)):a:=h
theorem zq435 (h:a:=by exact TC.seq (zq436)):a:=h
theorem zq430 (h:a:=by exact TL.nil (zq431)):a:=h
theorem zq425 (h:a:=by exact TC.seq (zq426)):a:=h
theorem zq424 (h:a:=by exact TC.seq (zq425)):a:=h
theorem zq500 (h:a:=by exact TC.seq (zq501)):a:=h
theorem zq498 (h:a:=by exact TL.nil (zq499)):a:=h
theorem zq491 (h:a:=by exact TC.seq (zq492)):a:=h
theorem zq489 (h:a:=by exact TL.nil (zq490)):a:=h
theorem zq482 (h:a:=by exact TC.seq (zq483)):a:=h
theorem zq512 (h:a:=by exact TL.nil (zq513)):a:=h
theorem zq638 (h:a:=by exact TL.nil (zq639)):a:=h
theorem zq634 (h:a:=by exact TC.seq (zq635)):a:=h
theorem zq633 (h:a:=by exact TC.seq (zq634)):a:=h
theorem zq631 (h:a:=by exact TL.nil (zq632)):a:=h
theorem zq620 (h:a:=by exact TC.seq (zq621)):a:=h
theorem zq618 (h:a:=by exact TL.nil (zq619)):a:=h
theorem zq591 (h:a:=by exact TC.seq (zq592)):a:=h
theorem zq589 (h:a:=by exact TC.seq (zq590)):a:=h
theorem zq583 (h:a:=by exact TL.nil (zq584)):a:=h
theorem zq577 (h:a:=by exact TC.seq (zq578)):a:=h
theorem zq576 (h:a:=by exact TC.seq (zq577)):a:=h
theorem zq568 (h:a:=by exact TL.nil (zq569)):a:=h
theorem zq565 (h:a:=by exact TC.seq (zq566)):a:=h
theorem zq564 (h:a:=by exact TC.seq (zq565)):a:=h
theorem zq562 (h:a:=by exact TL.nil (zq563)):a:=h
theorem zq553 (h:a:=by exact TC.seq (zq554)):a:=h
theorem zq657 (h:a:=by exact TC.seq (zq658)):a:=h
theorem zq655 (h:a:=by exact TC.seq (zq656)):a:=h
theorem zq545 (h:a:=by exact TL.nil (zq546)):a:=h
theorem zq539 (h:a:=by exact TC.seq (zq540)):a:=h
theorem zq538 (h:a:=by exact TC.seq (zq539)):a:=h
theorem zq533 (h:a:=by exact TL.nil (zq534)):a:=h
theorem zq530 (h:a:=by exact TC.seq (zq531)):a:=h
theorem zq529 (h:a:=by exact TC.seq (zq530)):a:=h
theorem zq524 (h:a:=by exact TL.nil (zq525)):a:=h
theorem zq518 (h:a:=by exact TC.seq (zq519)):a:=h
theorem zq517 (h:a:=by exact TC.seq (zq518)):a:=h
theorem zq683 (h:a:=by exact TL.nil (zq684)):a:=h
theorem zq679 (h:a:=by exact TC.seq (zq680)):a:=h
theorem zq678 (h:a:=by exact TC.seq (zq679)):a:=h
theorem zq676 (h:a:=by exact TF.nil (zq677)):a:=h
theorem zq744 (h:a:=by exact TL.nil (zq745)):a:=h
theorem zq941 (h:a:=by exact TF.nil (zq942)):a:=h
theorem zq906 (h:a:=by exact TL.nil (zq907)):a:=h
theorem zq896 (h:a:=by exact TC.seq (zq897)):a:=h
theorem zq894 (h:a:=by exact TF.nil (zq895)):a:=h
theorem zq860 (h:a:=by exact TC.seq (zq861)):a:=h
theorem zq858 (h:a:=by exact TL.nil (zq859)):a:=h
theorem zq848 (h:a:=by exact TC.seq (zq849)):a:=h
theorem zq846 (h:a:=by exact TF.nil (zq847)):a:=h
theorem zq818 (h:a:=by exact TC.seq (zq819)):a:=h
theorem zq816 (h:a:=by exact TL.nil (zq817)):a:=h
theorem zq808 (h:a:=by exact TC.seq (zq809)):a:=h
theorem zq806 (h:a:=by exact TL.nil (zq807)):a:=h
theorem zq783 (h:a:=by exact TC.seq (zq784)):a:=h
theorem zq781 (h:a:=by exact TL.nil (zq782)):a:=h
theorem zq776 (h:a:=by exact TC.seq (zq777)):a:=h
theorem zq773 (h:a:=by exact TL.nil (zq774)):a:=h
theorem zq728 (h:a:=by exact TC.seq (zq729)):a:=h
theorem zq725 (h:a:=by exact TL.nil (zq726)):a:=h
theorem zq719 (h:a:=by exact TC.seq (zq720)):a:=h
theorem zq716 (h:a:=by exact TL.nil (zq717)):a:=h
theorem zq702 (h:a:=by exact TC.seq (zq703)):a:=h
theorem zq699 (h:a:=by exact TL.nil (zq700)):a:=h
theorem zq984 (h:a:=by exact TC.seq (zq985)):a:=h
theorem zq982 (h:a:=by exact TF.nil (zq983)):a:=h
theorem zq47 (h:a:=by exact aF (zq20)):a:=h
theorem zq24 (h:a:=by exact TC.block (zq25)):a:=h
theorem zq4 (h:a:=by exact TC.region (zq5)):a:=h
theorem zq96 (h:a:=by exact TC.block (zq97)):a:=h
theorem zq81 (h:a:=by exact TC.block (zq82)):a:=h
theorem zq121 (h:a:=by exact ai (zq122)):a:=h
theorem zq117 (h:a:=by exact TC.exit (zq118)):a:=h
theorem zq114 (h:a:=by exact ai (zq115)):a:=h
theorem zq109 (h:a:=by exact fg (zq110)):a:=h
theorem zq140 (h:a:=by exact ai (zq141)):a:=h
theorem zq134 (h:a:=by exact ai (zq135)):a:=h
theorem zq147 (h:a:=by exact bh (zq148)):a:=h
theorem GW (h:a:=by exact bh (zq145)):a:=h
theorem zq164 (h:a:=by exact ai (zq165)):a:=h
theorem zq158 (h:a:=by exact ai (zq159)):a:=h
theorem zq175 (h:a:=by exact bh (zq176)):a:=h
theorem zq172 (h:a:=by exact bh (zq173)):a:=h
theorem zq170 (h:a:=by exact ai (zq171)):a:=h
theorem zq195 (h:a:=by exact ai (zq196)):a:=h
theorem zq189 (h:a:=by exact ai (zq190)):a:=h
theorem zq188 (h:a:=by exact TC.skip (zq189)):a:=h
theorem zq186 (h:a:=by exact ai (zq187)):a:=h
theorem zq178 (h:a:=by exact ai (zq179)):a:=h
theorem zq177 (h:a:=by exact bn (zq178)):a:=h
theorem sO (h:a:=by exact bh (DK)):a:=h
theorem zq282 (h:a:=by exact ai (zq283)):a:=h
theorem zq273 (h:a:=by exact ai (zq274)):a:=h
theorem zq264 (h:a:=by exact ai (zq265)):a:=h
theorem zq255 (h:a:=by exact ai (zq256)):a:=h
theorem zq254 (h:a:=by exact bn (zq255)):a:=h
theorem zq253 (h:a:=by exact TC.skip (zq254)):a:=h
theorem zq291 (h:a:=by exact ai (zq292)):a:=h
theorem zq298 (h:a:=by exact ai (zq299)):a:=h
theorem zq297 (h:a:=by exact bn (zq298)):a:=h
theorem zq314 (h:a:=by exact ai (zq315)):a:=h
theorem zq313 (h:a:=by exact bn (zq314)):a:=h
theorem zq332 (h:a:=by exact ai (zq333)):a:=h
theorem zq325 (h:a:=by exact ai (zq326)):a:=h
theorem zq355 (h:a:=by exact ai (zq356)):a:=h
theorem zq346 (h:a:=by exact ai (zq347)):a:=h
theorem zq345 (h:a:=by exact TC.skip (zq346)):a:=h
theorem zq362 (h:a:=by exact ai (zq363)):a:=h
theorem zq357 (h:a:=by exact ai (zq358)):a:=h
theorem zq466 (h:a:=by exact ai (zq467)):a:=h
theorem zq465 (h:a:=by exact TC.skip (zq466)):a:=h
theorem zq463 (h:a:=by exact ai (zq464)):a:=h
theorem zq452 (h:a:=by exact ai (zq453)):a:=h
theorem zq448 (h:a:=by exact TC.exit (zq449)):a:=h
theorem zq446 (h:a:=by exact ai (zq447)):a:=h
theorem zq431 (h:a:=by exact ai (zq432)):a:=h
theorem zq423 (h:a:=by exact ai (zq424)):a:=h
theorem zq419 (h:a:=by exact TC.exit (zq420)):a:=h
theorem zq499 (h:a:=by exact ai (zq500)):a:=h
theorem zq490 (h:a:=by exact ai (zq491)):a:=h
theorem zq481 (h:a:=by exact ai (zq482)):a:=h
theorem zq480 (h:a:=by exact TC.skip (zq481)):a:=h
theorem zq513 (h:a:=by exact ai (zq514)):a:=h
theorem zq642 (h:a:=by exact ai (zq643)):a:=h
theorem zq641 (h:a:=by exact TC.skip (zq642)):a:=h
theorem zq639 (h:a:=by exact ai (zq640)):a:=h
theorem zq632 (h:a:=by exact ai (zq633)):a:=h
theorem zq619 (h:a:=by exact ai (zq620)):a:=h
theorem zq588 (h:a:=by exact ai (zq589)):a:=h
theorem zq587 (h:a:=by exact TC.skip (zq588)):a:=h
theorem zq584 (h:a:=by exact ai (zq585)):a:=h
theorem zq569 (h:a:=by exact ai (zq570)):a:=h
theorem zq563 (h:a:=by exact ai (zq564)):a:=h
theorem zq552 (h:a:=by exact ai (zq553)):a:=h
theorem zq548 (h:a:=by exact TC.exit (zq549)):a:=h
theorem zq654 (h:a:=by exact ai (zq655)):a:=h
theorem zq653 (h:a:=by exact TC.skip (zq654)):a:=h
theorem zq546 (h:a:=by exact ai (zq547)):a:=h
theorem zq534 (h:a:=by exact ai (zq535)):a:=h
theorem zq528 (h:a:=by exact ai (zq529)):a:=h
theorem zq527 (h:a:=by exact TC.skip (zq528)):a:=h
theorem zq525 (h:a:=by exact ai (zq526)):a:=h
theorem zq516 (h:a:=by exact ai (zq517)):a:=h
theorem zq515 (h:a:=by exact TC.skip (zq516)):a:=h
theorem zq684 (h:a:=by exact ai (zq685)):a:=h
theorem zq677 (h:a:=by exact ai (zq678)):a:=h
theorem zq674 (h:a:=by exact TF.back (zq675)):a:=h
theorem zq672 (h:a:=by exact bB (zq673)):a:=h
theorem zq745 (h:a:=by exact ai (zq746)):a:=h
theorem zq942 (h:a:=by exact bn (zq943)):a:=h
theorem zq907 (h:a:=by exact ai (zq908)):a:=h
theorem zq895 (h:a:=by exact ai (zq896)):a:=h
theorem zq859 (h:a:=by exact ai (zq860)):a:=h
theorem zq847 (h:a:=by exact ai (zq848)):a:=h
theorem zq817 (h:a:=by exact ai (zq818)):a:=h
theorem zq807 (h:a:=by exact ai (zq808)):a:=h
theorem zq782 (h:a:=by exact ai (zq783)):a:=h
theorem zq774 (h:a:=by exact ai (zq775)):a:=h
theorem zq726 (h:a:=by exact ai (zq727)):a:=h
theorem zq717 (h:a:=by exact ai (zq718)):a:=h
theorem zq700 (h:a:=by exact ai (zq701)):a:=h
theorem zq983 (h:a:=by exact ai (zq984)):a:=h
theorem zq981 (h:a:=by exact TF.back (zq982)):a:=h
theorem zq979 (h:a:=by exact bB (zq980)):a:=h
theorem zq1005 (h:a:=by exact TC.seq (zq1006)):a:=h
theorem zq1003 (h:a:=by exact TF.nil (zq1004)):a:=h
theorem zq1029 (h:a:=by exact TC.ret (G6)):a:=h
theorem zq1027 (h:a:=by exact TL.nil (zq1028)):a:=h
theorem CH (h:a:=by exact TC.seq (zq1024)):a:=h
theorem zq1052 (h:a:=by exact TC.ret (zq1053)):a:=h
theorem zq1050 (h:a:=by exact TL.nil (zq1051)):a:=h
theorem CF (h:a:=by exact TC.seq (zq1047)):a:=h
theorem zq1043 (h:a:=by exact TL.nil (zq1044)):a:=h
theorem zq1190 (h:a:=by exact TC.seq (zq1191)):a:=h
theorem zq1179 (h:a:=by exact TL.nil (zq1180)):a:=h
theorem zq1173 (h:a:=by exact TC.seq (zq1174)):a:=h
theorem zq1172 (h:a:=by exact TC.seq (zq1173)):a:=h
theorem zq1159 (h:a:=by exact TL.nil (zq1160)):a:=h
theorem zq1149 (h:a:=by exact TC.seq (zq1150)):a:=h
theorem zq1148 (h:a:=by exact TC.seq (zq1149)):a:=h
theorem zq1225 (h:a:=by exact TC.seq (zq1226)):a:=h
theorem zq1223 (h:a:=by exact TF.nil (zq1224)):a:=h
theorem zq1208 (h:a:=by exact TC.seq (zq1209)):a:=h
theorem zq1206 (h:a:=by exact TC.seq (zq1207)):a:=h
theorem zq1140 (h:a:=by exact TL.nil (zq1141)):a:=h
theorem zq1134 (h:a:=by exact TC.seq (zq1135)):a:=h
theorem zq1133 (h:a:=by exact TC.seq (zq1134)):a:=h
theorem zq1127 (h:a:=by exact TL.nil (zq1128)):a:=h
theorem zq1116 (h:a:=by exact TC.seq (zq1117)):a:=h
theorem zq1115 (h:a:=by exact TC.seq (zq1116)):a:=h
theorem zq1294 (h:a:=by exact TC.seq (zq1295)):a:=h
theorem zq1286 (h:a:=by exact TL.nil (zq1287)):a:=h
theorem zq1280 (h:a:=by exact TC.seq (zq1281)):a:=h
theorem zq1279 (h:a:=by exact TC.seq (zq1280)):a:=h
theorem zq1270 (h:a:=by exact TL.nil (zq1271)):a:=h
theorem zq1267 (h:a:=by exact TC.seq (zq1268)):a:=h
theorem zq1265 (h:a:=by exact TF.nil (zq1266)):a:=h
theorem zq1242 (h:a:=by exact TC.seq (zq1243)):a:=h
theorem zq1240 (h:a:=by exact TC.seq (zq1241)):a:=h
theorem zq1107 (h:a:=by exact TL.nil (zq1108)):a:=h
theorem zq1101 (h:a:=by exact TC.seq (zq1102)):a:=h
theorem zq1100 (h:a:=by exact TC.seq (zq1101)):a:=h
theorem zq1091 (h:a:=by exact TL.nil (zq1092)):a:=h
theorem zq1088 (h:a:=by exact TC.seq (zq1089)):a:=h
theorem zq1087 (h:a:=by exact TC.seq (zq1088)):a:=h
theorem zq1085 (h:a:=by exact TL.nil (zq1086)):a:=h
theorem zq1082 (h:a:=by exact TC.seq (zq1083)):a:=h
theorem zq1080 (h:a:=by exact TL.nil (zq1081)):a:=h
theorem zq1063 (h:a:=by exact TC.seq (zq1064)):a:=h
theorem zq1061 (h:a:=by exact TF.nil (zq1062)):a:=h
theorem zq1363 (h:a:=by exact TL.nil (zq1364)):a:=h
theorem zq1360 (h:a:=by exact TC.seq (zq1361)):a:=h
theorem zq1358 (h:a:=by exact TF.nil (zq1359)):a:=h
theorem zq1340 (h:a:=by exact TC.seq (zq1341)):a:=h
theorem zq1338 (h:a:=by exact TC.seq (zq1339)):a:=h
theorem zq1332 (h:a:=by exact TL.nil (zq1333)):a:=h
theorem zq1326 (h:a:=by exact TC.seq (zq1327)):a:=h
theorem zq1325 (h:a:=by exact TC.seq (zq1326)):a:=h
theorem zq1317 (h:a:=by exact TL.nil (zq1318)):a:=h
theorem zq1314 (h:a:=by exact TC.seq (zq1315)):a:=h
theorem zq1313 (h:a:=by exact TC.seq (zq1314)):a:=h
theorem zq1311 (h:a:=by exact TL.nil (zq1312)):a:=h
theorem zq39 (h:a:=by exact TC.region (zq40)):a:=h
theorem zq26 (h:a:=by exact TC.region (zq27)):a:=h
theorem zq12 (h:a:=by exact TC.region (zq13)):a:=h
theorem zq67 (h:a:=by exact TC.region (zq68)):a:=h
theorem zq98 (h:a:=by exact TC.region (zq99)):a:=h
theorem zq85 (h:a:=by exact TC.region (zq86)):a:=h
theorem zq77 (h:a:=by exact TC.region (zq78)):a:=h
theorem zq119 (h:a:=by exact cI (zq120)):a:=h
theorem zq118 (h:a:=by exact cI (zq119)):a:=h
theorem zq142 (h:a:=by exact aF (zq143)):a:=h
theorem zq148 (h:a:=by exact aF (zq149)):a:=h
theorem zq146 (h:a:=by exact aF (zq147)):a:=h
theorem zq145 (h:a:=by exact aF (zq146)):a:=h
theorem zq176 (h:a:=by exact aF (zq127)):a:=h
theorem zq174 (h:a:=by exact aF (zq175)):a:=h
theorem zq173 (h:a:=by exact aF (zq174)):a:=h
theorem zq213 (h:a:=by exact aF (zq210)):a:=h
theorem DK (h:a:=by exact aF (GS)):a:=h
theorem zq274 (h:a:=by exact TC.block (zq275)):a:=h
theorem zE (h:a:=by exact aF (GO)):a:=h
theorem zq348 (h:a:=by exact TC.block (zq349)):a:=h
theorem zq364 (h:a:=by exact TC.block (zq365)):a:=h
theorem zq450 (h:a:=by exact cI (zq451)):a:=h
theorem zq449 (h:a:=by exact cI (zq450)):a:=h
theorem zq432 (h:a:=by exact TC.block (zq433)):a:=h
theorem zq421 (h:a:=by exact cI (zq422)):a:=h
theorem zq420 (h:a:=by exact cI (zq421)):a:=h
theorem zq602 (h:a:=by
 subst eH90
 exact zq603):a:=h
theorem zq590 (h:a:=by exact TC.block (zq591)):a:=h
theorem zq570 (h:a:=by exact TC.block (zq571)):a:=h
theorem zq550 (h:a:=by exact cI (zq551)):a:=h
theorem zq549 (h:a:=by exact cI (zq550)):a:=h
theorem zq668 (h:a:=by
 subst eH67
 exact zq669):a:=h
theorem zq656 (h:a:=by exact TC.block (zq657)):a:=h
theorem zq535 (h:a:=by exact TC.block (zq536)):a:=h
theorem zq1004 (h:a:=by exact ai (zq1005)):a:=h
theorem zq1002 (h:a:=by exact TF.back (zq1003)):a:=h
theorem zq1000 (h:a:=by exact bB (zq1001)):a:=h
theorem zq1028 (h:a:=by exact ai (zq1029)):a:=h
theorem zq1036 (h:a:=by exact bh (G6)):a:=h
theorem CG (h:a:=by exact bh (zq1034)):a:=h
theorem zq1057 (h:a:=by exact bh (CG)):a:=h
theorem zq1054 (h:a:=by exact bh (zq1055)):a:=h
theorem zq1051 (h:a:=by exact ai (zq1052)):a:=h
theorem zq1044 (h:a:=by exact ai (zq1045)):a:=h
theorem zq1189 (h:a:=by exact ai (zq1190)):a:=h
theorem zq1188 (h:a:=by exact TC.skip (zq1189)):a:=h
theorem zq1180 (h:a:=by exact ai (zq1181)):a:=h
theorem zq1160 (h:a:=by exact ai (zq1161)):a:=h
theorem zq1147 (h:a:=by exact ai (zq1148)):a:=h
theorem zq1143 (h:a:=by exact TC.exit (zq1144)):a:=h
theorem zq1224 (h:a:=by exact ai (zq1225)):a:=h
theorem zq1205 (h:a:=by exact ai (zq1206)):a:=h
theorem zq1204 (h:a:=by exact TC.skip (zq1205)):a:=h
theorem zq1141 (h:a:=by exact ai (zq1142)):a:=h
theorem zq1128 (h:a:=by exact ai (zq1129)):a:=h
theorem zq1114 (h:a:=by exact ai (zq1115)):a:=h
theorem zq1110 (h:a:=by exact TC.exit (zq1111)):a:=h
theorem zq1293 (h:a:=by exact ai (zq1294)):a:=h
theorem zq1292 (h:a:=by exact TC.skip (zq1293)):a:=h
theorem zq1287 (h:a:=by exact ai (zq1288)):a:=h
theorem zq1271 (h:a:=by exact ai (zq1272)):a:=h
theorem zq1266 (h:a:=by exact ai (zq1267)):a:=h
theorem zq1256 (h:a:=by
 subst H34
 exact zq1257):a:=h
theorem zq1239 (h:a:=by exact ai (zq1240)):a:=h
theorem zq1238 (h:a:=by exact TC.skip (zq1239)):a:=h
theorem zq1108 (h:a:=by exact ai (zq1109)):a:=h
theorem zq1092 (h:a:=by exact ai (zq1093)):a:=h
theorem zq1086 (h:a:=by exact ai (zq1087)):a:=h
theorem zq1081 (h:a:=by exact ai (zq1082)):a:=h
theorem zq1062 (h:a:=by exact ai (zq1063)):a:=h
theorem zq1364 (h:a:=by exact ai (zq1365)):a:=h
theorem zq1359 (h:a:=by exact ai (zq1360)):a:=h
theorem zq1337 (h:a:=by exact ai (zq1338)):a:=h
theorem zq1336 (h:a:=by exact TC.skip (zq1337)):a:=h
theorem zq1333 (h:a:=by exact ai (zq1334)):a:=h
theorem zq1318 (h:a:=by exact ai (zq1319)):a:=h
theorem zq1312 (h:a:=by exact ai (zq1313)):a:=h
theorem zq1304 (h:a:=by
 subst H33
 exact zq1305):a:=h
theorem zq1374 (h:a:=by exact ai (zq1375)):a:=h
theorem zq1373 (h:a:=by exact bn (zq1374)):a:=h
theorem gS (h:a:=by exact TC.skip (zq1373)):a:=h
theorem zq1383 (h:a:=by exact TF.back (zq1384)):a:=h
theorem G0 (h:a:=by exact bB (zq1379)):a:=h
theorem zq1393 (h:a:=by exact TF.back (zq1394)):a:=h
theorem GZ (h:a:=by exact bB (zq1388)):a:=h
theorem zq1401 (h:a:=by exact TF.back (zq1402)):a:=h
theorem GY (h:a:=by exact bB (zq1396)):a:=h
theorem zq1408 (h:a:=by exact TF.back (zq1409)):a:=h
theorem GX (h:a:=by exact bB (zq1404)):a:=h
theorem zq5 (h:a:=by
 refine zm0 ?_
 exact zq6):a:=h
theorem zq123 (h:a:=by exact TC.region (zq124)):a:=h
theorem zq120 (h:a:=by exact dZ (zq121)):a:=h
theorem zq111 (h:a:=by exact TC.region (zq112)):a:=h
theorem zq137 (h:a:=by exact TC.region (zq138)):a:=h
theorem zq161 (h:a:=by exact TC.region (zq162)):a:=h
theorem zq167 (h:a:=by exact TC.region (zq168)):a:=h
theorem zq191 (h:a:=by exact TC.region (zq192)):a:=h
theorem zq198 (h:a:=by exact TC.region (zq199)):a:=h
theorem zq181 (h:a:=by exact TC.region (zq182)):a:=h
theorem GV (h:a:=by exact TC.region (zq203)):a:=h
theorem zq279 (h:a:=by exact TC.region (zq280)):a:=h
theorem zq267 (h:a:=by exact TC.region (zq268)):a:=h
theorem zq257 (h:a:=by exact TC.region (zq258)):a:=h
theorem zq288 (h:a:=by exact TC.region (zq289)):a:=h
theorem zq315 (h:a:=by exact TC.region (zq316)):a:=h
theorem zq333 (h:a:=by exact TC.region (zq334)):a:=h
theorem zq326 (h:a:=by exact TC.region (zq327)):a:=h
theorem zq321 (h:a:=by exact TC.region (zq322)):a:=h
theorem zq339 (h:a:=by exact TC.region (zq340)):a:=h
theorem zq350 (h:a:=by exact TC.region (zq351)):a:=h
theorem zq359 (h:a:=by exact TC.region (zq360)):a:=h
theorem zq468 (h:a:=by exact TC.region (zq469)):a:=h
theorem zq455 (h:a:=by exact TC.region (zq456)):a:=h
theorem zq451 (h:a:=by exact dZ (zq452)):a:=h
theorem zq437 (h:a:=by exact TC.region (zq438)):a:=h
theorem zq426 (h:a:=by exact TC.region (zq427)):a:=h
theorem zq422 (h:a:=by exact dZ (zq423)):a:=h
theorem zq501 (h:a:=by exact TC.region (zq502)):a:=h
theorem zq492 (h:a:=by exact TC.region (zq493)):a:=h
theorem zq483 (h:a:=by exact TC.region (zq484)):a:=h
theorem zq635 (h:a:=by exact TC.region (zq636)):a:=h
theorem zq621 (h:a:=by exact TC.region (zq622)):a:=h
theorem zq592 (h:a:=by exact TC.region (zq593)):a:=h
theorem zq578 (h:a:=by exact TC.region (zq579)):a:=h
theorem zq566 (h:a:=by exact TC.region (zq567)):a:=h
theorem zq554 (h:a:=by exact TC.region (zq555)):a:=h
theorem zq551 (h:a:=by exact dZ (zq552)):a:=h
theorem zq658 (h:a:=by exact TC.region (zq659)):a:=h
theorem zq540 (h:a:=by exact TC.region (zq541)):a:=h
theorem zq531 (h:a:=by exact TC.region (zq532)):a:=h
theorem zq519 (h:a:=by exact TC.region (zq520)):a:=h
theorem zq680 (h:a:=by exact TC.region (zq681)):a:=h
theorem zq897 (h:a:=by exact TC.region (zq898)):a:=h
theorem zq849 (h:a:=by exact TC.region (zq850)):a:=h
theorem zq809 (h:a:=by exact TC.region (zq810)):a:=h
theorem zq784 (h:a:=by exact TC.region (zq785)):a:=h
theorem zq777 (h:a:=by exact TC.region (zq778)):a:=h
theorem zq729 (h:a:=by exact TC.region (zq730)):a:=h
theorem zq720 (h:a:=by exact TC.region (zq721)):a:=h
theorem zq963 (h:a:=by exact TC.region (zq964)):a:=h
theorem zq703 (h:a:=by exact TC.region (zq704)):a:=h
theorem zq985 (h:a:=by exact TC.region (zq986)):a:=h
theorem G6 (h:a:=by exact aF (zq1031)):a:=h
theorem zq1035 (h:a:=by exact aF (zq1036)):a:=h
theorem zq1034 (h:a:=by exact aF (zq1035)):a:=h
theorem zq1056 (h:a:=by exact aF (zq1057)):a:=h
theorem zq1055 (h:a:=by exact aF (zq1056)):a:=h
theorem zq1053 (h:a:=by exact aF (zq1054)):a:=h
theorem zq1191 (h:a:=by exact TC.block (zq1192)):a:=h
theorem zq1161 (h:a:=by exact TC.block (zq1162)):a:=h
theorem zq1145 (h:a:=by exact cI (zq1146)):a:=h
theorem zq1144 (h:a:=by exact cI (zq1145)):a:=h
theorem zq1207 (h:a:=by exact TC.block (zq1208)):a:=h
theorem zq1129 (h:a:=by exact TC.block (zq1130)):a:=h
theorem zq1112 (h:a:=by exact cI (zq1113)):a:=h
theorem zq1111 (h:a:=by exact cI (zq1112)):a:=h
theorem zq1295 (h:a:=by exact TC.block (zq1296)):a:=h
theorem zq1272 (h:a:=by exact TC.block (zq1273)):a:=h
theorem zq1241 (h:a:=by exact TC.block (zq1242)):a:=h
theorem zq1093 (h:a:=by exact TC.block (zq1094)):a:=h
theorem zq1365 (h:a:=by exact TC.block (zq1366)):a:=h
theorem zq1339 (h:a:=by exact TC.block (zq1340)):a:=h
theorem zq1319 (h:a:=by exact TC.block (zq1320)):a:=h
theorem zq40 (h:a:=by
 refine zm0 ?_
 exact zq41):a:=h
theorem zq43 (h:a:=by
 refine zm0 ?_
 exact zq44):a:=h
theorem zq33 (h:a:=by
 refine zm0 ?_
 exact zq34):a:=h
theorem zq32 (h:a:=by
 refine zm0 ?_
 exact zq33):a:=h
theorem zq29 (h:a:=by
 refine zm0 ?_
 exact zq30):a:=h
theorem zq28 (h:a:=by
 refine zm0 ?_
 exact zq29):a:=h
theorem zq16 (h:a:=by
 refine zm0 ?_
 exact zq17):a:=h
theorem zq14 (h:a:=by
 refine zm0 ?_
 exact zq15):a:=h
theorem zq13 (h:a:=by
 refine zm0 ?_
 exact zq14):a:=h
theorem zq68 (h:a:=by
 refine zm0 ?_
 exact zq69):a:=h
theorem zq62 (h:a:=by
 refine zm0 ?_
 exact zq63):a:=h
theorem zq59 (h:a:=by
 refine zm0 ?_
 exact GL):a:=h
theorem zq58 (h:a:=by
 refine zm0 ?_
 exact zq59):a:=h
theorem zq53 (h:a:=by
 refine zm0 ?_
 exact zq54):a:=h
theorem zq52 (h:a:=by
 refine zm0 ?_
 exact zq53):a:=h
theorem zq89 (h:a:=by
 refine zm0 ?_
 exact zq90):a:=h
theorem zq87 (h:a:=by
 refine zm0 ?_
 exact zq88):a:=h
theorem zq86 (h:a:=by
 refine zm0 ?_
 exact zq87):a:=h
theorem zq78 (h:a:=by
 refine zm0 ?_
 exact zq79):a:=h
theorem zq1006 (h:a:=by exact TC.region (zq1007)):a:=h
theorem zq1024 (h:a:=by exact TC.region (zq1025)):a:=h
theorem zq1047 (h:a:=by exact TC.region (zq1048)):a:=h
theorem zq1174 (h:a:=by exact TC.region (zq1175)):a:=h
theorem zq1150 (h:a:=by exact TC.region (zq1151)):a:=h
theorem zq1146 (h:a:=by exact dZ (zq1147)):a:=h
theorem zq1135 (h:a:=by exact TC.region (zq1136)):a:=h
theorem zq1117 (h:a:=by exact TC.region (zq1118)):a:=h
theorem zq1113 (h:a:=by exact dZ (zq1114)):a:=h
theorem zq1281 (h:a:=by exact TC.region (zq1282)):a:=h
theorem zq1268 (h:a:=by exact TC.region (zq1269)):a:=h
theorem zq1102 (h:a:=by exact TC.region (zq1103)):a:=h
theorem zq1089 (h:a:=by exact TC.region (zq1090)):a:=h
theorem zq1083 (h:a:=by exact TC.region (zq1084)):a:=h
theorem zq1064 (h:a:=by exact TC.region (zq1065)):a:=h
theorem zq1361 (h:a:=by exact TC.region (zq1362)):a:=h
theorem zq1327 (h:a:=by exact TC.region (zq1328)):a:=h
theorem zq1315 (h:a:=by exact TC.region (zq1316)):a:=h
theorem zq1375 (h:a:=by exact TC.region (zq1376)):a:=h
theorem zq42 (h:a:=by
 refine cv ?_
 exact zq43):a:=h
theorem zq65 (h:a:=by exact eC rfl (GK)):a:=h
theorem zq61 (h:a:=by
 refine cC ?_
 exact zq62):a:=h
theorem GL (h:a:=by
 refine cC ?_
 exact zq61):a:=h
theorem zq57 (h:a:=by
 refine cC ?_
 exact zq58):a:=h
theorem zq56 (h:a:=by
 refine cC ?_
 exact zq57):a:=h
theorem zq55 (h:a:=by
 refine cC ?_
 exact zq56):a:=h
theorem zq54 (h:a:=by
 refine cC ?_
 exact zq55):a:=h
theorem zq51 (h:a:=by
 refine cC ?_
 exact zq52):a:=h
theorem zq50 (h:a:=by
 refine cC ?_
 exact zq51):a:=h
theorem zq49 (h:a:=by
 refine cC ?_
 exact zq50):a:=h
theorem zq105 (h:a:=by
 refine zm0 ?_
 exact zq106):a:=h
theorem zq104 (h:a:=by
 refine zm0 ?_
 exact zq105):a:=h
theorem zq101 (h:a:=by
 refine zm0 ?_
 exact zq102):a:=h
theorem zq100 (h:a:=by
 refine zm0 ?_
 exact zq101):a:=h
theorem zq124 (h:a:=by
 refine zm0 ?_
 exact zq125):a:=h
theorem zq112 (h:a:=by
 refine zm0 ?_
 exact zq113):a:=h
theorem zq138 (h:a:=by
 refine zm0 ?_
 exact zq139):a:=h
theorem zq132 (h:a:=by
 refine zm0 ?_
 exact zq133):a:=h
theorem zq162 (h:a:=by
 refine zm0 ?_
 exact zq163):a:=h
theorem zq156 (h:a:=by
 refine zm0 ?_
 exact zq157):a:=h
theorem zq168 (h:a:=by
 refine zm0 ?_
 exact zq169):a:=h
theorem zq199 (h:a:=by
 refine zm5 ?_
 exact zq200):a:=h
theorem zq182 (h:a:=by
 refine zm5 ?_
 exact zq183):a:=h
theorem GU (h:a:=by
 refine zm5 ?_
 exact zq206):a:=h
theorem zq203 (h:a:=by
 refine zm5 ?_
 exact zq204):a:=h
theorem GT (h:a:=by
 refine zm5 ?_
 exact zq209):a:=h
theorem sP (h:a:=by
 refine zm0 ?_
 exact zq212):a:=h
theorem zq249 (h:a:=by
 refine zm0 ?_
 exact zq250):a:=h
theorem zq248 (h:a:=by
 refine zm0 ?_
 exact zq249):a:=h
theorem zq243 (h:a:=by
 refine zm0 ?_
 exact zq244):a:=h
theorem zq242 (h:a:=by
 refine zm0 ?_
 exact zq243):a:=h
theorem zq237 (h:a:=by
 refine zm0 ?_
 exact zq238):a:=h
theorem zq236 (h:a:=by
 refine zm0 ?_
 exact zq237):a:=h
theorem zq232 (h:a:=by
 refine zm0 ?_
 exact zq233):a:=h
theorem zq231 (h:a:=by
 refine zm0 ?_
 exact zq232):a:=h
theorem zq280 (h:a:=by
 refine zm0 ?_
 exact zq281):a:=h
theorem zq271 (h:a:=by
 refine zm0 ?_
 exact zq272):a:=h
theorem zq268 (h:a:=by
 refine zm5 ?_
 exact zq269):a:=h
theorem zq262 (h:a:=by
 refine zm0 ?_
 exact zq263):a:=h
theorem zq259 (h:a:=by
 refine zm5 ?_
 exact zq260):a:=h
theorem zq258 (h:a:=by
 refine zm0 ?_
 exact zq259):a:=h
theorem zq289 (h:a:=by
 refine zm0 ?_
 exact zq290):a:=h
theorem DJ (h:a:=by
 refine zm5 ?_
 exact zq295):a:=h
theorem zq317 (h:a:=by
 refine zm0 ?_
 exact zq318):a:=h
theorem zq310 (h:a:=by
 refine zm5 ?_
 exact zq311):a:=h
theorem zq305 (h:a:=by
 refine zm5 ?_
 exact zq306):a:=h
theorem zq334 (h:a:=by
 refine zm5 ?_
 exact zq335):a:=h
theorem zq329 (h:a:=by
 refine zm5 ?_
 exact zq330):a:=h
theorem zq327 (h:a:=by
 refine zm5 ?_
 exact zq328):a:=h
theorem zq322 (h:a:=by
 refine zm5 ?_
 exact zq323):a:=h
theorem zq340 (h:a:=by
 refine zm0 ?_
 exact zq341):a:=h
theorem zq353 (h:a:=by
 refine zm0 ?_
 exact zq354):a:=h
theorem zq360 (h:a:=by
 refine zm0 ?_
 exact zq361):a:=h
theorem zq377 (h:a:=by
 refine zm6 ?_
 exact zq378):a:=h
theorem zq376 (h:a:=by
 refine zm6 ?_
 exact zq377):a:=h
theorem zq400 (h:a:=by
 refine zm6 ?_
 exact zq401):a:=h
theorem zq399 (h:a:=by
 refine zm6 ?_
 exact zq400):a:=h
theorem zq474 (h:a:=by
 refine zm0 ?_
 exact zq475):a:=h
theorem zq472 (h:a:=by
 refine zm5 ?_
 exact zq473):a:=h
theorem zq470 (h:a:=by
 refine zm0 ?_
 exact zq471):a:=h
theorem zq469 (h:a:=by
 refine zm0 ?_
 exact zq470):a:=h
theorem zq461 (h:a:=by
 refine zm0 ?_
 exact zq462):a:=h
theorem zq458 (h:a:=by
 refine zm5 ?_
 exact zq459):a:=h
theorem zq456 (h:a:=by
 refine zm0 ?_
 exact zq457):a:=h
theorem zq444 (h:a:=by
 refine zm0 ?_
 exact zq445):a:=h
theorem zq441 (h:a:=by
 refine zm5 ?_
 exact zq442):a:=h
theorem zq439 (h:a:=by
 refine zm0 ?_
 exact zq440):a:=h
theorem zq438 (h:a:=by
 refine zm0 ?_
 exact zq439):a:=h
theorem zq429 (h:a:=by
 refine zm0 ?_
 exact zq430):a:=h
theorem zq503 (h:a:=by
 refine zm0 ?_
 exact zq504):a:=h
theorem zq502 (h:a:=by
 refine zm0 ?_
 exact zq503):a:=h
theorem zq497 (h:a:=by
 refine zm0 ?_
 exact zq498):a:=h
theorem zq494 (h:a:=by
 refine zm0 ?_
 exact zq495):a:=h
theorem zq493 (h:a:=by
 refine zm0 ?_
 exact zq494):a:=h
theorem zq488 (h:a:=by
 refine zm0 ?_
 exact zq489):a:=h
theorem zq485 (h:a:=by
 refine zm0 ?_
 exact zq486):a:=h
theorem zq484 (h:a:=by
 refine zm0 ?_
 exact zq485):a:=h
theorem zq511 (h:a:=by
 refine zm0 ?_
 exact zq512):a:=h
theorem zq649 (h:a:=by
 refine zm6 ?_
 exact zq650):a:=h
theorem zq648 (h:a:=by
 refine zm6 ?_
 exact zq649):a:=h
theorem zq646 (h:a:=by
 refine zm4 ?_
 exact zq647):a:=h
theorem zq637 (h:a:=by
 refine zm0 ?_
 exact zq638):a:=h
theorem zq636 (h:a:=by
 refine zm0 ?_
 exact zq637):a:=h
theorem zq630 (h:a:=by
 refine zm0 ?_
 exact zq631):a:=h
theorem zq629 (h:a:=by
 refine zm0 ?_
 exact zq630):a:=h
theorem zq628 (h:a:=by
 refine zm0 ?_
 exact zq629):a:=h
theorem zq627 (h:a:=by
 refine zm0 ?_
 exact zq628):a:=h
theorem zq626 (h:a:=by
 refine zm0 ?_
 exact zq627):a:=h
theorem zq623 (h:a:=by
 refine zm0 ?_
 exact zq624):a:=h
theorem zq622 (h:a:=by
 refine zm0 ?_
 exact zq623):a:=h
theorem zq617 (h:a:=by
 refine zm0 ?_
 exact zq618):a:=h
theorem zq616 (h:a:=by
 refine zm0 ?_
 exact zq617):a:=h
theorem zq613 (h:a:=by
 refine zm0 ?_
 exact zq614):a:=h
theorem zq612 (h:a:=by
 refine zm0 ?_
 exact zq613):a:=h
theorem zq611 (h:a:=by
 refine zm0 ?_
 exact zq612):a:=h
theorem zq610 (h:a:=by
 refine zm0 ?_
 exact zq611):a:=h
theorem zq596 (h:a:=by
 refine zm0 ?_
 exact zq597):a:=h
theorem zq595 (h:a:=by
 refine zm0 ?_
 exact zq596):a:=h
theorem zq594 (h:a:=by
 refine zm0 ?_
 exact zq595):a:=h
theorem zq593 (h:a:=by
 refine zm0 ?_
 exact zq594):a:=h
theorem zq582 (h:a:=by
 refine zm0 ?_
 exact zq583):a:=h
theorem zq580 (h:a:=by
 refine zm0 ?_
 exact zq581):a:=h
theorem zq579 (h:a:=by
 refine zm0 ?_
 exact zq580):a:=h
theorem zq567 (h:a:=by
 refine zm0 ?_
 exact zq568):a:=h
theorem zq558 (h:a:=by
 refine zm0 ?_
 exact zq559):a:=h
theorem zq557 (h:a:=by
 refine zm0 ?_
 exact zq558):a:=h
theorem zq670 (h:a:=by
 refine zm0 ?_
 exact zq671):a:=h
theorem zq669 (h:a:=by
 refine zm0 ?_
 exact zq670):a:=h
theorem zq662 (h:a:=by
 refine zm0 ?_
 exact zq663):a:=h
theorem zq661 (h:a:=by
 refine zm0 ?_
 exact zq662):a:=h
theorem zq660 (h:a:=by
 refine zm0 ?_
 exact zq661):a:=h
theorem zq659 (h:a:=by
 refine zm0 ?_
 exact zq660):a:=h
theorem zq544 (h:a:=by
 refine zm0 ?_
 exact zq545):a:=h
theorem zq542 (h:a:=by
 refine zm0 ?_
 exact zq543):a:=h
theorem zq541 (h:a:=by
 refine zm0 ?_
 exact zq542):a:=h
theorem zq532 (h:a:=by
 refine zm0 ?_
 exact zq533):a:=h
theorem zq523 (h:a:=by
 refine zm0 ?_
 exact zq524):a:=h
theorem zq521 (h:a:=by
 refine zm0 ?_
 exact zq522):a:=h
theorem zq682 (h:a:=by
 refine zm0 ?_
 exact zq683):a:=h
theorem zq681 (h:a:=by
 refine zm0 ?_
 exact zq682):a:=h
theorem zq675 (h:a:=by
 refine zm6 ?_
 exact zq676):a:=h
theorem zq758 (h:a:=by
 refine zm6 ?_
 exact zq759):a:=h
theorem zq755 (h:a:=by
 refine zm4 ?_
 exact zq756):a:=h
theorem zq753 (h:a:=by
 refine zm4 ?_
 exact zq754):a:=h
theorem zq751 (h:a:=by
 refine zm6 ?_
 exact zq752):a:=h
theorem zq750 (h:a:=by
 refine zm6 ?_
 exact zq751):a:=h
theorem zq749 (h:a:=by
 refine zm6 ?_
 exact zq750):a:=h
theorem zq743 (h:a:=by
 refine zm0 ?_
 exact zq744):a:=h
theorem zq742 (h:a:=by
 refine zm0 ?_
 exact zq743):a:=h
theorem zq937 (h:a:=by
 refine zm4 ?_
 exact zq938):a:=h
theorem zq929 (h:a:=by
 refine zm6 ?_
 exact zq930):a:=h
theorem zq927 (h:a:=by
 refine zm4 ?_
 exact zq928):a:=h
theorem zq925 (h:a:=by
 refine zm6 ?_
 exact zq926):a:=h
theorem zq923 (h:a:=by
 refine zm4 ?_
 exact zq924):a:=h
theorem zq922 (h:a:=by
 refine zm4 ?_
 exact zq923):a:=h
theorem zq920 (h:a:=by
 refine zm6 ?_
 exact zq921):a:=h
theorem zq919 (h:a:=by
 refine zm6 ?_
 exact zq920):a:=h
theorem zq917 (h:a:=by
 refine zm4 ?_
 exact zq918):a:=h
theorem zq916 (h:a:=by
 refine zm4 ?_
 exact zq917):a:=h
theorem zq914 (h:a:=by
 refine zm6 ?_
 exact zq915):a:=h
theorem zq905 (h:a:=by
 refine zm0 ?_
 exact zq906):a:=h
theorem zq901 (h:a:=by
 refine zm0 ?_
 exact zq902):a:=h
theorem zq900 (h:a:=by
 refine zm0 ?_
 exact zq901):a:=h
theorem zq899 (h:a:=by
 refine zm0 ?_
 exact zq900):a:=h
theorem zq898 (h:a:=by
 refine zm0 ?_
 exact zq899):a:=h
theorem zq890 (h:a:=by
 refine zm4 ?_
 exact zq891):a:=h
theorem zq882 (h:a:=by
 refine zm6 ?_
 exact zq883):a:=h
theorem zq880 (h:a:=by
 refine zm4 ?_
 exact zq881):a:=h
theorem zq878 (h:a:=by
 refine zm6 ?_
 exact zq879):a:=h
theorem zq876 (h:a:=by
 refine zm4 ?_
 exact zq877):a:=h
theorem zq875 (h:a:=by
 refine zm4 ?_
 exact zq876):a:=h
theorem zq873 (h:a:=by
 refine zm6 ?_
 exact zq874):a:=h
theorem zq872 (h:a:=by
 refine zm6 ?_
 exact zq873):a:=h
theorem zq870 (h:a:=by
 refine zm4 ?_
 exact zq871):a:=h
theorem zq869 (h:a:=by
 refine zm4 ?_
 exact zq870):a:=h
theorem zq867 (h:a:=by
 refine zm6 ?_
 exact zq868):a:=h
theorem zq857 (h:a:=by
 refine zm0 ?_
 exact zq858):a:=h
theorem zq853 (h:a:=by
 refine zm0 ?_
 exact zq854):a:=h
theorem zq852 (h:a:=by
 refine zm0 ?_
 exact zq853):a:=h
theorem zq851 (h:a:=by
 refine zm0 ?_
 exact zq852):a:=h
theorem zq850 (h:a:=by
 refine zm0 ?_
 exact zq851):a:=h
theorem zq845 (h:a:=by
 refine zm6 ?_
 exact zq846):a:=h
theorem zq844 (h:a:=by
 refine zm6 ?_
 exact zq845):a:=h
theorem zq832 (h:a:=by
 refine zm4 ?_
 exact zq833):a:=h
theorem zq831 (h:a:=by
 refine zm4 ?_
 exact zq832):a:=h
theorem zq829 (h:a:=by
 refine zm6 ?_
 exact zq830):a:=h
theorem zq826 (h:a:=by
 refine zm4 ?_
 exact zq827):a:=h
theorem zq824 (h:a:=by
 refine zm4 ?_
 exact zq825):a:=h
theorem zq822 (h:a:=by
 refine zm6 ?_
 exact zq823):a:=h
theorem zq956 (h:a:=by
 refine zm4 ?_
 exact zq957):a:=h
theorem zq954 (h:a:=by
 refine zm4 ?_
 exact zq955):a:=h
theorem zq952 (h:a:=by
 refine zm6 ?_
 exact zq953):a:=h
theorem zq949 (h:a:=by
 refine zm4 ?_
 exact zq950):a:=h
theorem zq947 (h:a:=by
 refine zm4 ?_
 exact zq948):a:=h
theorem zq945 (h:a:=by
 refine zm6 ?_
 exact zq946):a:=h
theorem zq815 (h:a:=by
 refine zm0 ?_
 exact zq816):a:=h
theorem zq810 (h:a:=by
 refine zm0 ?_
 exact zq811):a:=h
theorem zq804 (h:a:=by
 refine zm5 ?_
 exact zq805):a:=h
theorem zq797 (h:a:=by
 refine zm0 ?_
 exact zq798):a:=h
theorem zq789 (h:a:=by
 refine zm5 ?_
 exact zq790):a:=h
theorem zq787 (h:a:=by
 refine zm0 ?_
 exact zq788):a:=h
theorem zq786 (h:a:=by
 refine zm0 ?_
 exact zq787):a:=h
theorem zq785 (h:a:=by
 refine zm0 ?_
 exact zq786):a:=h
theorem zq772 (h:a:=by
 refine zm0 ?_
 exact zq773):a:=h
theorem zq771 (h:a:=by
 refine zm0 ?_
 exact zq772):a:=h
theorem zq734 (h:a:=by
 refine zm0 ?_
 exact zq735):a:=h
theorem zq733 (h:a:=by
 refine zm0 ?_
 exact zq734):a:=h
theorem zq730 (h:a:=by
 refine zm5 ?_
 exact zq731):a:=h
theorem zq724 (h:a:=by
 refine zm0 ?_
 exact zq725):a:=h
theorem zq723 (h:a:=by
 refine zm0 ?_
 exact zq724):a:=h
theorem zq721 (h:a:=by
 refine zm5 ?_
 exact zq722):a:=h
theorem zq964 (h:a:=by
 refine zm0 ?_
 exact zq965):a:=h
theorem zq715 (h:a:=by
 refine zm0 ?_
 exact zq716):a:=h
theorem zq714 (h:a:=by
 refine zm0 ?_
 exact zq715):a:=h
theorem zq709 (h:a:=by
 refine zm0 ?_
 exact zq710):a:=h
theorem zq708 (h:a:=by
 refine zm0 ?_
 exact zq709):a:=h
theorem zq706 (h:a:=by
 refine zm5 ?_
 exact zq707):a:=h
theorem zq704 (h:a:=by
 refine zm0 ?_
 exact zq705):a:=h
theorem zq698 (h:a:=by
 refine zm0 ?_
 exact zq699):a:=h
theorem zq697 (h:a:=by
 refine zm0 ?_
 exact zq698):a:=h
theorem zq978 (h:a:=by
 refine zm4 ?_
 exact zq979):a:=h
theorem zq116 (h:a:=by exact gK rfl (zq117)):a:=h
theorem zq135 (h:a:=by exact eC rfl (zq136)):a:=h
theorem zq131 (h:a:=by
 refine cC ?_
 exact zq132):a:=h
theorem zq130 (h:a:=by
 refine cC ?_
 exact zq131):a:=h
theorem G2 (h:a:=by
 refine cC ?_
 exact zq130):a:=h
theorem zq159 (h:a:=by exact eC rfl (zq160)):a:=h
theorem zq155 (h:a:=by
 refine cC ?_
 exact zq156):a:=h
theorem zq154 (h:a:=by
 refine cC ?_
 exact zq155):a:=h
theorem zq153 (h:a:=by
 refine cC ?_
 exact zq154):a:=h
theorem zq152 (h:a:=by
 refine cC ?_
 exact zq153):a:=h
theorem zq151 (h:a:=by
 refine cC ?_
 exact zq152):a:=h
theorem DL (h:a:=by
 refine cC ?_
 exact zq151):a:=h
theorem zq222 (h:a:=by
 refine cv ?_
 exact zq223):a:=h
theorem zq221 (h:a:=by
 refine nI ?_
 exact zq222):a:=h
theorem zq219 (h:a:=by
 refine gM ?_
 exact zq220):a:=h
theorem zq217 (h:a:=by
 refine cv ?_
 exact zq218):a:=h
theorem zq216 (h:a:=by
 refine nI ?_
 exact zq217):a:=h
theorem zq214 (h:a:=by
 refine gM ?_
 exact zq215):a:=h
theorem zq247 (h:a:=by
 refine cC ?_
 exact zq248):a:=h
theorem zq246 (h:a:=by
 refine cC ?_
 exact zq247):a:=h
theorem zq245 (h:a:=by
 refine cC ?_
 exact zq246):a:=h
theorem zq244 (h:a:=by
 refine cC ?_
 exact zq245):a:=h
theorem zq241 (h:a:=by
 refine cC ?_
 exact zq242):a:=h
theorem zq240 (h:a:=by
 refine cC ?_
 exact zq241):a:=h
theorem zq239 (h:a:=by
 refine cC ?_
 exact zq240):a:=h
theorem zq238 (h:a:=by
 refine cC ?_
 exact zq239):a:=h
theorem zq235 (h:a:=by
 refine cC ?_
 exact zq236):a:=h
theorem zq234 (h:a:=by
 refine cC ?_
 exact zq235):a:=h
theorem zq233 (h:a:=by
 refine cC ?_
 exact zq234):a:=h
theorem zq230 (h:a:=by
 refine cC ?_
 exact zq231):a:=h
theorem zq229 (h:a:=by
 refine cC ?_
 exact zq230):a:=h
theorem GR (h:a:=by
 refine cC ?_
 exact zq229):a:=h
theorem na (h:a:=by
 refine em ?_
 exact sO):a:=h
theorem zq269 (h:a:=by
 refine nJ ?_
 exact zq270):a:=h
theorem zq260 (h:a:=by
 refine nJ ?_
 exact zq261):a:=h
theorem zq316 (h:a:=by
 refine kQ ?_
 exact zq317):a:=h
theorem zq307 (h:a:=by
 refine gL ?_
 exact zq308):a:=h
theorem GN (h:a:=by
 refine eo ?_
 exact zq372):a:=h
theorem zq395 (h:a:=by exact au rfl (zq396)):a:=h
theorem zq381 (h:a:=by exact au rfl (zq382)):a:=h
theorem zq404 (h:a:=by exact au rfl (zq405)):a:=h
theorem GM (h:a:=by
 refine dO ?_
 exact zq374):a:=h
theorem zq473 (h:a:=by
 refine nJ ?_
 exact zq474):a:=h
theorem zq459 (h:a:=by
 refine nJ ?_
 exact zq460):a:=h
theorem zq442 (h:a:=by
 refine nJ ?_
 exact zq443):a:=h
theorem zq478 (h:a:=by
 refine cC ?_
 exact zq479):a:=h
theorem zq510 (h:a:=by
 refine nI ?_
 exact zq511):a:=h
theorem zq509 (h:a:=by
 refine cv ?_
 exact zq510):a:=h
theorem zq506 (h:a:=by
 refine cv ?_
 exact zq507):a:=h
theorem zq505 (h:a:=by
 refine cv ?_
 exact zq506):a:=h
theorem zq643 (h:a:=by
 refine dO ?_
 exact zq644):a:=h
theorem zq559 (h:a:=by
 refine dN ?_
 exact zq560):a:=h
theorem zq690 (h:a:=by exact au rfl (zq691)):a:=h
theorem zq686 (h:a:=by exact au rfl (zq687)):a:=h
theorem zq763 (h:a:=by exact au rfl (zq764)):a:=h
theorem zq759 (h:a:=by exact au rfl (zq760)):a:=h
theorem zq747 (h:a:=by
 refine dO ?_
 exact zq748):a:=h
theorem zq746 (h:a:=by exact gK rfl (zq747)):a:=h
theorem zq741 (h:a:=by
 refine cC ?_
 exact zq742):a:=h
theorem zq740 (h:a:=by
 refine cC ?_
 exact zq741):a:=h
theorem zq739 (h:a:=by
 refine cC ?_
 exact zq740):a:=h
theorem zq738 (h:a:=by
 refine cC ?_
 exact zq739):a:=h
theorem zq737 (h:a:=by
 refine cC ?_
 exact zq738):a:=h
theorem zq938 (h:a:=by exact au rfl (zq939)):a:=h
theorem zq932 (h:a:=by exact au rfl (zq933)):a:=h
theorem zq930 (h:a:=by
 refine eo ?_
 exact zq931):a:=h
theorem zq908 (h:a:=by
 refine dO ?_
 exact zq909):a:=h
theorem zq891 (h:a:=by exact au rfl (zq892)):a:=h
theorem zq885 (h:a:=by exact au rfl (zq886)):a:=h
theorem zq883 (h:a:=by
 refine eo ?_
 exact zq884):a:=h
theorem zq861 (h:a:=by
 refine dO ?_
 exact zq862):a:=h
theorem zq840 (h:a:=by exact au rfl (zq841)):a:=h
theorem zq835 (h:a:=by exact au rfl (zq836)):a:=h
theorem zq959 (h:a:=by exact au rfl (zq960)):a:=h
theorem zq819 (h:a:=by
 refine dO ?_
 exact zq820):a:=h
theorem zq811 (h:a:=by
 refine gL ?_
 exact zq812):a:=h
theorem zq770 (h:a:=by
 refine cv ?_
 exact zq771):a:=h
theorem zq768 (h:a:=by
 refine gM ?_
 exact zq769):a:=h
theorem zq766 (h:a:=by
 refine cv ?_
 exact zq767):a:=h
theorem zq731 (h:a:=by
 refine nJ ?_
 exact zq732):a:=h
theorem zq722 (h:a:=by
 refine nJ ?_
 exact zq723):a:=h
theorem zq713 (h:a:=by
 refine cv ?_
 exact zq714):a:=h
theorem zq712 (h:a:=by
 refine cv ?_
 exact zq713):a:=h
theorem zq701 (h:a:=by exact gK rfl (zq702)):a:=h
theorem zq696 (h:a:=by
 refine cC ?_
 exact zq697):a:=h
theorem zq695 (h:a:=by
 refine cC ?_
 exact zq696):a:=h
theorem zq694 (h:a:=by
 refine cC ?_
 exact zq695):a:=h
theorem zq693 (h:a:=by
 refine cC ?_
 exact zq694):a:=h
theorem zq692 (h:a:=by
 refine cC ?_
 exact zq693):a:=h
theorem zq972 (h:a:=by exact au rfl (zq973)):a:=h
theorem zq966 (h:a:=by exact au rfl (zq967)):a:=h
theorem zq999 (h:a:=by
 refine zm4 ?_
 exact zq1000):a:=h
theorem zq993 (h:a:=by exact au rfl (zq994)):a:=h
theorem zq987 (h:a:=by exact au rfl (zq988)):a:=h
theorem zq1026 (h:a:=by
 refine zm0 ?_
 exact zq1027):a:=h
theorem zq1025 (h:a:=by
 refine zm0 ?_
 exact zq1026):a:=h
theorem zq1049 (h:a:=by
 refine zm0 ?_
 exact zq1050):a:=h
theorem zq1048 (h:a:=by
 refine zm0 ?_
 exact zq1049):a:=h
theorem zq1042 (h:a:=by
 refine zm0 ?_
 exact zq1043):a:=h
theorem zq1199 (h:a:=by
 refine zm6 ?_
 exact zq1200):a:=h
theorem zq1198 (h:a:=by
 refine zm6 ?_
 exact zq1199):a:=h
theorem zq1196 (h:a:=by
 refine zm4 ?_
 exact zq1197):a:=h
theorem zq1194 (h:a:=by
 refine zm4 ?_
 exact zq1195):a:=h
theorem zq1178 (h:a:=by
 refine zm0 ?_
 exact zq1179):a:=h
theorem zq1176 (h:a:=by
 refine zm0 ?_
 exact zq1177):a:=h
theorem zq1175 (h:a:=by
 refine zm0 ?_
 exact zq1176):a:=h
theorem zq1158 (h:a:=by
 refine zm0 ?_
 exact zq1159):a:=h
theorem zq1228 (h:a:=by
 refine zm6 ?_
 exact zq1229):a:=h
theorem zq1214 (h:a:=by
 refine zm6 ?_
 exact zq1215):a:=h
theorem zq1213 (h:a:=by
 refine zm6 ?_
 exact zq1214):a:=h
theorem zq1211 (h:a:=by
 refine zm4 ?_
 exact zq1212):a:=h
theorem zq1139 (h:a:=by
 refine zm0 ?_
 exact zq1140):a:=h
theorem zq1137 (h:a:=by
 refine zm0 ?_
 exact zq1138):a:=h
theorem zq1136 (h:a:=by
 refine zm0 ?_
 exact zq1137):a:=h
theorem zq1126 (h:a:=by
 refine zm0 ?_
 exact zq1127):a:=h
theorem zq1299 (h:a:=by
 refine zm4 ?_
 exact zq1300):a:=h
theorem zq1298 (h:a:=by
 refine zm6 ?_
 exact zq1299):a:=h
theorem zq1285 (h:a:=by
 refine zm0 ?_
 exact zq1286):a:=h
theorem zq1283 (h:a:=by
 refine zm0 ?_
 exact zq1284):a:=h
theorem zq1282 (h:a:=by
 refine zm0 ?_
 exact zq1283):a:=h
theorem zq1269 (h:a:=by
 refine zm0 ?_
 exact zq1270):a:=h
theorem zq1264 (h:a:=by
 refine zm6 ?_
 exact zq1265):a:=h
theorem zq1248 (h:a:=by
 refine zm6 ?_
 exact zq1249):a:=h
theorem zq1247 (h:a:=by
 refine zm6 ?_
 exact zq1248):a:=h
theorem zq1245 (h:a:=by
 refine zm4 ?_
 exact zq1246):a:=h
theorem zq1106 (h:a:=by
 refine zm0 ?_
 exact zq1107):a:=h
theorem zq1104 (h:a:=by
 refine zm0 ?_
 exact zq1105):a:=h
theorem zq1103 (h:a:=by
 refine zm0 ?_
 exact zq1104):a:=h
theorem zq1090 (h:a:=by
 refine zm0 ?_
 exact zq1091):a:=h
theorem zq1084 (h:a:=by
 refine zm0 ?_
 exact zq1085):a:=h
theorem zq1079 (h:a:=by
 refine zm0 ?_
 exact zq1080):a:=h
theorem zq1362 (h:a:=by
 refine zm0 ?_
 exact zq1363):a:=h
theorem zq1357 (h:a:=by
 refine zm6 ?_
 exact zq1358):a:=h
theorem zq1346 (h:a:=by
 refine zm6 ?_
 exact zq1347):a:=h
theorem zq1345 (h:a:=by
 refine zm6 ?_
 exact zq1346):a:=h
theorem zq1343 (h:a:=by
 refine zm4 ?_
 exact zq1344):a:=h
theorem zq1331 (h:a:=by
 refine zm0 ?_
 exact zq1332):a:=h
theorem zq1329 (h:a:=by
 refine zm0 ?_
 exact zq1330):a:=h
theorem zq1328 (h:a:=by
 refine zm0 ?_
 exact zq1329):a:=h
theorem zq1316 (h:a:=by
 refine zm0 ?_
 exact zq1317):a:=h
theorem zq1310 (h:a:=by
 refine zm0 ?_
 exact zq1311):a:=h
theorem zq1376 (h:a:=by
 refine zm0 ?_
 exact zq1377):a:=h
theorem zq193 (h:a:=by
 refine ga ?_
 exact zq194):a:=h
theorem zq192 (h:a:=by
 refine ng ?_
 exact zq193):a:=h
theorem zq200 (h:a:=by
 refine or ?_
 exact zq201):a:=h
theorem zq206 (h:a:=by
 refine or ?_
 exact zq207):a:=h
theorem zq204 (h:a:=by
 refine or ?_
 exact GU):a:=h
theorem zq209 (h:a:=by
 refine or ?_
 exact zq203):a:=h
theorem zq220 (h:a:=by
 refine sV ?_
 exact zq221):a:=h
theorem zq215 (h:a:=by
 refine sV ?_
 exact zq216):a:=h
theorem zq270 (h:a:=by
 refine ns ?_
 exact zq271):a:=h
theorem zq295 (h:a:=by
 refine oI ?_
 exact zq296):a:=h
theorem zq311 (h:a:=by
 refine oI ?_
 exact zq312):a:=h
theorem zq302 (h:a:=by
 rw [hC2] at hz4
 exact zq303):a:=h
theorem zq330 (h:a:=by
 refine io ?_
 exact zq331):a:=h
theorem zq323 (h:a:=by
 refine io ?_
 exact zq324):a:=h
theorem zq428 (h:a:=by
 have hN1:=hB2
 exact zq429):a:=h
theorem zq486 (h:a:=by
 refine Ah ?_
 exact zq487):a:=h
theorem zq615 (h:a:=by
 refine ga ?_
 exact zq616):a:=h
theorem zq561 (h:a:=by
 refine ga ?_
 exact zq562):a:=h
theorem zq673 (h:a:=by
 refine ga ?_
 exact zq674):a:=h
theorem zq756 (h:a:=by
 refine wG ?_
 exact zq757):a:=h
theorem zq940 (h:a:=by
 refine qP ?_
 exact zq941):a:=h
theorem zq935 (h:a:=by
 refine qP ?_
 exact zq936):a:=h
theorem zq924 (h:a:=by
 refine Ha ?_
 exact zq925):a:=h
theorem zq918 (h:a:=by
 refine Ha ?_
 exact zq919):a:=h
theorem zq909 (h:a:=by
 refine zm439 ?_
 exact zq910):a:=h
theorem zq893 (h:a:=by
 refine wA ?_
 exact zq894):a:=h
theorem zq888 (h:a:=by
 refine wA ?_
 exact zq889):a:=h
theorem zq877 (h:a:=by
 refine Hi ?_
 exact zq878):a:=h
theorem zq871 (h:a:=by
 refine Hi ?_
 exact zq872):a:=h
theorem zq862 (h:a:=by
 refine zm467 ?_
 exact zq863):a:=h
theorem zq839 (h:a:=by
 refine tE ?_
 exact zq840):a:=h
theorem zq833 (h:a:=by
 refine wm ?_
 exact zq834):a:=h
theorem zq827 (h:a:=by
 refine wm ?_
 exact zq828):a:=h
theorem zq825 (h:a:=by
 refine tE ?_
 exact zq826):a:=h
theorem zq821 (h:a:=by
 refine zm468 ?_
 exact zq822):a:=h
theorem zq957 (h:a:=by
 refine wm ?_
 exact zq958):a:=h
theorem zq955 (h:a:=by
 refine tE ?_
 exact zq956):a:=h
theorem zq950 (h:a:=by
 refine wm ?_
 exact zq951):a:=h
theorem zq948 (h:a:=by
 refine tE ?_
 exact zq949):a:=h
theorem zq944 (h:a:=by
 refine zm469 ?_
 exact zq945):a:=h
theorem zq805 (h:a:=by
 refine io ?_
 exact zq806):a:=h
theorem zq780 (h:a:=by
 refine ga ?_
 exact zq781):a:=h
theorem zq980 (h:a:=by
 refine or ?_
 exact zq981):a:=h
theorem zq1017 (h:a:=by
 refine cv ?_
 exact zq1018):a:=h
theorem zq1016 (h:a:=by
 refine nI ?_
 exact zq1017):a:=h
theorem G7 (h:a:=by
 refine gM ?_
 exact zq1015):a:=h
theorem zq1020 (h:a:=by
 refine gM ?_
 exact zq1021):a:=h
theorem zq1012 (h:a:=by
 refine cv ?_
 exact zq1013):a:=h
theorem zq1011 (h:a:=by
 refine nI ?_
 exact zq1012):a:=h
theorem G8 (h:a:=by
 refine gM ?_
 exact zq1010):a:=h
theorem zq1045 (h:a:=by exact eC rfl (CF)):a:=h
theorem zq1041 (h:a:=by
 refine cC ?_
 exact zq1042):a:=h
theorem zq1040 (h:a:=by
 refine cC ?_
 exact zq1041):a:=h
theorem zq1039 (h:a:=by
 refine cC ?_
 exact zq1040):a:=h
theorem zq1038 (h:a:=by
 refine cC ?_
 exact zq1039):a:=h
theorem yG (h:a:=by
 refine cC ?_
 exact zq1038):a:=h
theorem zq1192 (h:a:=by
 refine dO ?_
 exact zq1193):a:=h
theorem zq1226 (h:a:=by
 refine dO ?_
 exact zq1227):a:=h
theorem zq1220 (h:a:=by exact au rfl (zq1221)):a:=h
theorem zq1209 (h:a:=by
 refine dO ?_
 exact zq1210):a:=h
theorem zq1296 (h:a:=by
 refine dO ?_
 exact zq1297):a:=h
theorem zq1253 (h:a:=by exact au rfl (zq1254)):a:=h
theorem zq1243 (h:a:=by
 refine dO ?_
 exact zq1244):a:=h
theorem G5 (h:a:=by exact au rfl (zq1059)):a:=h
theorem zq1349 (h:a:=by exact au rfl (zq1350)):a:=h
theorem zq1341 (h:a:=by
 refine dO ?_
 exact zq1342):a:=h
theorem G1 (h:a:=by
 refine gL ?_
 exact zq1302):a:=h
theorem zq1001 (h:a:=by
 refine or ?_
 exact zq1002):a:=h
theorem zq1015 (h:a:=by
 refine sV ?_
 exact zq1016):a:=h
theorem zq1021 (h:a:=by
 refine sV ?_
 exact zq1022):a:=h
theorem zq1010 (h:a:=by
 refine sV ?_
 exact zq1011):a:=h
theorem zq1031 (h:a:=by
 refine DY ?_
 exact zq1032):a:=h
theorem zq1197 (h:a:=by
 refine qO ?_
 exact zq1198):a:=h
theorem zq1195 (h:a:=by
 refine zU ?_
 exact zq1196):a:=h
theorem zq1165 (h:a:=by
 dsimp only at *
 exact zq1166):a:=h
theorem zq1222 (h:a:=by
 refine xl ?_
 exact zq1223):a:=h
theorem zq1221 (h:a:=by
 refine ga ?_
 exact zq1222):a:=h
theorem zq1212 (h:a:=by
 refine qO ?_
 exact zq1213):a:=h
theorem zq1246 (h:a:=by
 refine qO ?_
 exact zq1247):a:=h
theorem zq1059 (h:a:=by
 refine ga ?_
 exact zq1060):a:=h
theorem zq1344 (h:a:=by
 refine wm ?_
 exact zq1345):a:=h
theorem zq126 (h:a:=by exact ai (TC.ret (zq127))):a:=h
theorem zq394 (h:a:=by
 have hlb29:=hp29
 exact zq395):a:=h
theorem zq380 (h:a:=by
 have hla24:=hp24
 exact zq381):a:=h
theorem zq417 (h:a:=by
 have hlb29:=hp29
 exact zq418):a:=h
theorem zq403 (h:a:=by
 have hla24:=hp24
 exact zq404):a:=h
theorem zq1353 (h:a:=by
 have hA46:=hp46
 exact zq1354):a:=h
theorem zq385 (h:a:=by
 have hra26:=hr26.1
 exact zq386):a:=h
theorem zq408 (h:a:=by
 have hra26:=hr26.1
 exact zq409):a:=h
theorem zq606 (h:a:=by
 rw [List.append_nil]
 exact zq607):a:=h
theorem zq969 (h:a:=by
 have hra66:=hr66.1
 exact zq970):a:=h
theorem zq990 (h:a:=by
 have hra66:=hr66.1
 exact zq991):a:=h
theorem zq574 (h:a:=by
 have hf2:=hf.le hq2
 exact zq575):a:=h
theorem zq573 (h:a:=by
 have hp2:=hp.le hq2
 exact zq574):a:=h
theorem zq1125 (h:a:=by
 have hRTm:=hRT.max
 exact zq1126):a:=h
theorem zq1164 (h:a:=by
 obtain⟨k3,P3⟩:=ix
 exact zq1165):a:=h
theorem zq304 (h:a:=by
 rw [hC2,← hs2b] at hT2
 exact zq305):a:=h
theorem zq913 (h:a:=by
 have hnbw18:=hW154.nb
 exact zq914):a:=h
theorem zq866 (h:a:=by
 have hnbw16:=hW128.nb
 exact zq867):a:=h
theorem zq1262 (h:a:=by
 have hR34m:=hR34.max
 exact zq1263):a:=h
theorem zq1078 (h:a:=by
 have hR19m:=hR19.max
 exact zq1079):a:=h
theorem zq1309 (h:a:=by
 have hR33m:=hR33.max
 exact zq1310):a:=h
theorem zq366 (h:a:=by
 obtain⟨o,hO,hD⟩:=hI
 exact zq367):a:=h
theorem zq1097 (h:a:=by
 replace hQ:=hQ.le hle
 exact zq1098):a:=h
theorem zq1323 (h:a:=by
 replace hQ:=hQ.le hle
 exact zq1324):a:=h
theorem zq1380 (h:a:=by
 obtain⟨rfl,_⟩:=hp29
 exact zq1381):a:=h
theorem zq1389 (h:a:=by
 obtain⟨rfl,_⟩:=hp29
 exact zq1390):a:=h
theorem zq1397 (h:a:=by
 obtain⟨rfl,_⟩:=hp29
 exact zq1398):a:=h
theorem zq1405 (h:a:=by
 obtain⟨rfl,_⟩:=hp29
 exact zq1406):a:=h
theorem zq379 (h:a:=by
 replace hd:=hd.le hle24
 exact zq380):a:=h
theorem zq402 (h:a:=by
 replace hd:=hd.le hle24
 exact zq403):a:=h
theorem zq471 (h:a:=by exact TL.run (bR rfl) rfl (zq472)):a:=h
theorem zq457 (h:a:=by exact TL.run (bR rfl) rfl (zq458)):a:=h
theorem zq440 (h:a:=by exact TL.run (bR rfl) rfl (zq441)):a:=h
theorem zq601 (h:a:=by
 replace eH90:=eH90.symm
 exact zq602):a:=h
theorem zq575 (h:a:=by
 have hlab2:=hlab.le hq2
 exact zq576):a:=h
theorem zq667 (h:a:=by
 replace eH67:=eH67.symm
 exact zq668):a:=h
theorem zq934 (h:a:=by
 change _=_+1 at hN173
 exact zq935):a:=h
theorem zq887 (h:a:=by
 change _=_+1 at hN147
 exact zq888):a:=h
theorem zq788 (h:a:=by exact TL.run (bR rfl) rfl (zq789)):a:=h
theorem zq705 (h:a:=by exact TL.run (bR rfl) rfl (zq706)):a:=h
theorem zq975 (h:a:=by
 obtain⟨i67,rfl⟩:=hp67
 exact zq976):a:=h
theorem zq996 (h:a:=by
 obtain⟨i67,rfl⟩:=hp67
 exact zq997):a:=h
theorem zq1187 (h:a:=by
 have hsz:=dY hm
 exact zq1188):a:=h
theorem zq1167 (h:a:=by
 replace hQ:=hQ.le hle3
 exact zq1168):a:=h
theorem zq1276 (h:a:=by
 replace hQ:=hQ.le hle2
 exact zq1277):a:=h
theorem zq1235 (h:a:=by
 have hsz:=dY hm
 exact zq1236):a:=h
theorem zq752 (h:a:=by exact az (bR rfl) rfl (zq753)):a:=h
theorem zq921 (h:a:=by exact az (bR rfl) rfl (zq922)):a:=h
theorem zq915 (h:a:=by exact az (bR rfl) rfl (zq916)):a:=h
theorem zq874 (h:a:=by exact az (bR rfl) rfl (zq875)):a:=h
theorem zq868 (h:a:=by exact az (bR rfl) rfl (zq869)):a:=h
theorem zq830 (h:a:=by exact az (bR rfl) rfl (zq831)):a:=h
theorem zq823 (h:a:=by exact az (bR rfl) rfl (zq824)):a:=h
theorem zq953 (h:a:=by exact az (bR rfl) rfl (zq954)):a:=h
theorem zq946 (h:a:=by exact az (bR rfl) rfl (zq947)):a:=h
theorem zq1152 (h:a:=by
 replace hQ:=hQ.le lePob
 exact zq1153):a:=h
theorem zq1119 (h:a:=by
 replace hQ:=hQ.le lePob
 exact zq1120):a:=h
theorem zq1260 (h:a:=by
 replace hQ:=hQ.le leP34
 exact zq1261):a:=h
theorem zq1237 (h:a:=by
 rw [gT_at hs,hgl] at hlb
 exact zq1238):a:=h
theorem zq1098 (h:a:=by
 replace hRP:=hRP.le hle
 exact zq1099):a:=h
theorem zq1076 (h:a:=by
 replace hQ:=hQ.le leP19
 exact zq1077):a:=h
theorem zq1073 (h:a:=by
 replace hQ:=hQ.le hle19
 exact zq1074):a:=h
theorem zq1352 (h:a:=by
 replace hV:=hV.le hle46
 exact zq1353):a:=h
theorem zq1308 (h:a:=by
 replace hV:=hV.le leP33
 exact zq1309):a:=h
theorem zq1307 (h:a:=by
 replace hQ:=hQ.le leP33
 exact zq1308):a:=h
theorem zq1382 (h:a:=by
 replace hP:=hP.le hle29
 exact zq1383):a:=h
theorem zq1381 (h:a:=by
 replace hM:=hM.le hle29
 exact zq1382):a:=h
theorem zq1391 (h:a:=by
 replace hP:=hP.le hle29
 exact zq1392):a:=h
theorem zq1390 (h:a:=by
 replace hM:=hM.le hle29
 exact zq1391):a:=h
theorem zq1399 (h:a:=by
 replace hP:=hP.le hle29
 exact zq1400):a:=h
theorem zq1398 (h:a:=by
 replace hM:=hM.le hle29
 exact zq1399):a:=h
theorem zq1407 (h:a:=by
 replace hP:=hP.le hle29
 exact zq1408):a:=h
theorem zq1406 (h:a:=by
 replace hM:=hM.le hle29
 exact zq1407):a:=h
theorem zq212 (h:a:=by exact TL.nil (ai (TC.ret (zq213)))):a:=h
theorem zq609 (h:a:=by
 replace hq4:=hq4.le leP90
 exact zq610):a:=h
theorem zq607 (h:a:=by
 replace hp2:=hp2.le leP90
 exact zq608):a:=h
theorem zq803 (h:a:=by
 obtain⟨i103,rfl⟩:=hp103
 exact zq804):a:=h
theorem zq800 (h:a:=by
 obtain⟨i102,rfl⟩:=hp102
 exact zq801):a:=h
theorem zq796 (h:a:=by
 obtain⟨i100,rfl⟩:=hp100
 exact zq797):a:=h
theorem zq1170 (h:a:=by
 replace hRT:=hRT.le hle3
 exact zq1171):a:=h
theorem zq1168 (h:a:=by
 replace hRP:=hRP.le hle3
 exact zq1169):a:=h
theorem zq224 (h:a:=by
 have q74:=aQ g74
 exact zq225):a:=h
theorem zq434 (h:a:=by
 obtain⟨⟨m0,m1⟩,hI2⟩:=hI
 exact zq435):a:=h
theorem zq645 (h:a:=by
 have hlab3:=hlab2.le hle97
 exact zq646):a:=h
theorem zq537 (h:a:=by
 obtain⟨⟨k0,k1⟩,hal⟩:=hI
 exact zq538):a:=h
theorem zq904 (h:a:=by
 obtain⟨rfl,hn154⟩:=hp154
 exact zq905):a:=h
theorem zq856 (h:a:=by
 obtain⟨rfl,hn128⟩:=hp128
 exact zq857):a:=h
theorem zq814 (h:a:=by
 obtain⟨rfl,hn107⟩:=hp107
 exact zq815):a:=h
theorem zq813 (h:a:=by
 replace hta:=hta.le hle107
 exact zq814):a:=h
theorem zq802 (h:a:=by
 replace hta:=hta.le hle103
 exact zq803):a:=h
theorem zq799 (h:a:=by
 replace hta:=hta.le hle102
 exact zq800):a:=h
theorem zq795 (h:a:=by
 replace hta:=hta.le hle100
 exact zq796):a:=h
theorem zq1155 (h:a:=by
 replace hRT:=hRT.le lePob
 exact zq1156):a:=h
theorem zq1153 (h:a:=by
 replace hRP:=hRP.le lePob
 exact zq1154):a:=h
theorem zq1131 (h:a:=by
 obtain⟨⟨k0,k1⟩,hO⟩:=hI
 exact zq1132):a:=h
theorem zq1120 (h:a:=by
 replace hRP:=hRP.le lePob
 exact zq1121):a:=h
theorem zq1255 (h:a:=by
 obtain⟨eH34,hO34⟩:=hp34
 exact zq1256):a:=h
theorem zq1099 (h:a:=by
 replace hR19:=hR19.le hle
 exact zq1100):a:=h
theorem zq1077 (h:a:=by
 replace hRP:=hRP.le leP19
 exact zq1078):a:=h
theorem zq1074 (h:a:=by
 replace hRP:=hRP.le hle19
 exact zq1075):a:=h
theorem zq1066 (h:a:=by
 replace hQ:=hQ.le lePob16
 exact zq1067):a:=h
theorem zq1324 (h:a:=by
 replace hR33:=hR33.le hle
 exact zq1325):a:=h
theorem zq1303 (h:a:=by
 obtain⟨eH33,hO33⟩:=hp33
 exact zq1304):a:=h
theorem zq393 (h:a:=by
 replace hd26:=hd26.le hle29
 exact zq394):a:=h
theorem zq389 (h:a:=by exact ax (S1 (S1 SN)) hle24 (zq390)):a:=h
theorem zq416 (h:a:=by
 replace hd26:=hd26.le hle29
 exact zq417):a:=h
theorem zq412 (h:a:=by exact ax (S1 (S1 SN)) hle24 (zq413)):a:=h
theorem zq1019 (h:a:=by
 have q81:=aQ g81
 exact zq1020):a:=h
theorem zq1169 (h:a:=by
 replace hR19:=hR19.le hle3
 exact zq1170):a:=h
theorem zq1278 (h:a:=by
 replace hR34:=hR34.le hle2
 exact zq1279):a:=h
theorem zq1369 (h:a:=by
 rw [List.length_take] at hfl
 exact zq1370):a:=h
theorem zq35 (h:a:=by
 refine lh ?_;refine pR ?_
 exact zq36):a:=h
theorem zq48 (h:a:=by
 have q7:=of_decide_eq_true g7
 exact zq49):a:=h
theorem zq1154 (h:a:=by
 replace hR19:=hR19.le lePob
 exact zq1155):a:=h
theorem zq1121 (h:a:=by
 replace hR19:=hR19.le lePob
 exact zq1122):a:=h
theorem zq1277 (h:a:=by
 replace hle:=hle.trans hle2
 exact zq1278):a:=h
theorem zq1370 (h:a:=by
 replace hle:=hle.trans hle2
 exact zq1371):a:=h
theorem zq1356 (h:a:=by exact ax (S1 (S1 SN)) hle46 (zq1357)):a:=h
theorem zq1392 (h:a:=by
 replace hP25:=hP25.le hle29
 exact zq1393):a:=h
theorem zq1400 (h:a:=by
 replace hP25:=hP25.le hle29
 exact zq1401):a:=h
theorem zq15 (h:a:=by exact TL.run (dF rfl rfl) rfl (zq16)):a:=h
theorem zq88 (h:a:=by exact TL.run (dF rfl rfl) rfl (zq89)):a:=h
theorem zq277 (h:a:=by
 obtain⟨va,vc,rfl⟩:=hO.form
 exact zq278):a:=h
theorem zq286 (h:a:=by
 obtain⟨va,vc,rfl⟩:=hO.form
 exact zq287):a:=h
theorem zq303 (h:a:=by
 have hT2:=st_next k0 hk hs hT
 exact zq304):a:=h
theorem zq367 (h:a:=by
 obtain⟨va,vc,rfl⟩:=hO.form
 exact zq368):a:=h
theorem zq392 (h:a:=by
 replace hla24:=hla24.le hle29
 exact zq393):a:=h
theorem zq479 (h:a:=by
 refine lh ?_;refine pR ?_
 exact zq480):a:=h
theorem zq608 (h:a:=by
 replace hlab2:=hlab2.le leP90
 exact zq609):a:=h
theorem zq1171 (h:a:=by
 replace hRTm2:=hRTm2.le hle3
 exact zq1172):a:=h
theorem zq1261 (h:a:=by
 replace hle:=hle.trans leP34
 exact zq1262):a:=h
theorem zq1351 (h:a:=by
 replace hle:=hle.trans hle46
 exact zq1352):a:=h
theorem zq72 (h:a:=by
 have q12:=of_decide_eq_true g12
 exact zq54):a:=h
theorem zq276 (h:a:=by
 obtain⟨⟨k0,k1⟩,hO,hfl⟩:=hI
 exact zq277):a:=h
theorem zq285 (h:a:=by
 obtain⟨⟨k0,k1⟩,hO,hfl⟩:=hI
 exact zq286):a:=h
theorem zq1186 (h:a:=by
 obtain⟨hm,hin⟩:=hF.s _ _ hs
 exact zq1187):a:=h
theorem zq1157 (h:a:=by
 rw [aX c53 k0] at hRTm2 ⊢
 exact zq1158):a:=h
theorem zq1132 (h:a:=by
 obtain⟨va,vc,rfl⟩:=hO.form
 exact zq1133):a:=h
theorem zq1124 (h:a:=by
 obtain⟨ta,tc,hte⟩:=hRT.len
 exact zq1125):a:=h
theorem zq1234 (h:a:=by
 obtain⟨hm,hin⟩:=hF.s _ _ hs
 exact zq1235):a:=h
theorem zq1096 (h:a:=by
 obtain⟨va,vc,rfl⟩:=hO.form
 exact zq1097):a:=h
theorem zq386 (h:a:=by
 have hrb26:=hr26.2.1 om
 exact zq387):a:=h
theorem zq409 (h:a:=by
 have hrb26:=hr26.2.1 om
 exact zq410):a:=h
theorem zq460 (h:a:=by exact TL.run (bK rfl rfl hO) rfl (zq461)):a:=h
theorem zq443 (h:a:=by exact TL.run (bK rfl rfl hO) rfl (zq444)):a:=h
theorem zq762 (h:a:=by exact ax (S1 SN) (Hp.le.refl _) (zq763)):a:=h
theorem zq767 (h:a:=by exact aw rfl rfl (bR rfl) rfl (zq768)):a:=h
theorem zq765 (h:a:=by
 have q85:=of_decide_eq_true g85
 exact zq766):a:=h
theorem zq970 (h:a:=by
 have hrb66:=hr66.2.1 om
 exact zq971):a:=h
theorem zq991 (h:a:=by
 have hrb66:=hr66.2.1 om
 exact zq992):a:=h
theorem zq1095 (h:a:=by
 obtain⟨⟨k0,k1⟩,hle,hO⟩:=hI
 exact zq1096):a:=h
theorem zq1321 (h:a:=by
 obtain⟨⟨k0,k1⟩,hle,hV⟩:=hI
 exact zq1322):a:=h
theorem zq477 (h:a:=by
 have q25:=of_decide_eq_false g25
 exact zq478):a:=h
theorem zq689 (h:a:=by exact ax (S1 (S1 (S1 SN))) hle54 (zq690)):a:=h
theorem zq736 (h:a:=by
 have q85:=of_decide_eq_false g85
 exact zq737):a:=h
theorem zq779 (h:a:=by
 refine TL.alloc rfl (fun b7=>?_)
 exact zq780):a:=h
theorem zq711 (h:a:=by
 have q66:=of_decide_eq_false g66
 exact zq712):a:=h
theorem zq971 (h:a:=by exact ax (S1 (S1 (S1 SN))) hle60 (zq972)):a:=h
theorem zq992 (h:a:=by exact ax (S1 (S1 (S1 SN))) hle60 (zq993)):a:=h
theorem zq614 (h:a:=by
 refine TL.alloc rfl (fun b17=>?_)
 exact zq615):a:=h
theorem zq604 (h:a:=by
 obtain⟨a90,c90,rfl⟩:=hO90.form
 exact zq605):a:=h
theorem zq560 (h:a:=by
 refine TL.alloc rfl (fun b15=>?_)
 exact zq561):a:=h
theorem zq732 (h:a:=by exact TL.run (ah rfl rfl hta) rfl (zq733)):a:=h
theorem zq1166 (h:a:=by
 obtain⟨va3,vc3,rfl⟩:=hO3.form
 exact zq1167):a:=h
theorem zq1275 (h:a:=by
 obtain⟨va2,vc2,rfl⟩:=hO2.form
 exact zq1276):a:=h
theorem zq1274 (h:a:=by
 obtain⟨⟨m0,m1⟩,hle2,hO2⟩:=hI
 exact zq1275):a:=h
theorem zq1263 (h:a:=by exact ax (S1 (S1 (S1 SN))) leP34 (zq1264)):a:=h
theorem zq1367 (h:a:=by
 obtain⟨⟨m0,m1⟩,hle2,hV2⟩:=hI
 exact zq1368):a:=h
theorem zq388 (h:a:=by
 have hl4:labelsL.length=4:=rfl
 exact zq389):a:=h
theorem zq411 (h:a:=by
 have hl4:labelsL.length=4:=rfl
 exact zq412):a:=h
theorem zq543 (h:a:=by exact TL.run (ah rfl rfl hlab) rfl (zq544)):a:=h
theorem zq522 (h:a:=by exact TL.run (ah rfl rfl hlab) rfl (zq523)):a:=h
theorem zq688 (h:a:=by
 obtain⟨rfl,r60,rfl,hr60⟩:=hp60
 exact zq689):a:=h
theorem zq761 (h:a:=by
 obtain⟨rfl,r35,rfl,hr35⟩:=hp35
 exact zq762):a:=h
theorem zq757 (h:a:=by exact az (ah rfl rfl hta) rfl (zq758)):a:=h
theorem zq834 (h:a:=by exact az (ah rfl rfl hta) rfl (zq835)):a:=h
theorem zq828 (h:a:=by exact az (ah rfl rfl hta) rfl (zq829)):a:=h
theorem zq958 (h:a:=by exact az (ah rfl rfl hta) rfl (zq959)):a:=h
theorem zq951 (h:a:=by exact az (ah rfl rfl hta) rfl (zq952)):a:=h
theorem zq792 (h:a:=by
 obtain⟨rfl,r99,rfl,hr99⟩:=hp99
 exact zq793):a:=h
theorem zq968 (h:a:=by
 obtain⟨rfl,r66,rfl,hr66⟩:=hp66
 exact zq969):a:=h
theorem zq989 (h:a:=by
 obtain⟨rfl,r66,rfl,hr66⟩:=hp66
 exact zq990):a:=h
theorem zq1219 (h:a:=by
 refine TF.alloc rfl (fun b10=>?_)
 exact zq1220):a:=h
theorem zq1138 (h:a:=by exact TL.run (ah rfl rfl hRT) rfl (zq1139)):a:=h
theorem zq1257 (h:a:=by
 obtain⟨a34,c34,rfl⟩:=hO34.form
 exact zq1258):a:=h
theorem zq1072 (h:a:=by
 obtain⟨a19,c19,rfl⟩:=hO19.form
 exact zq1073):a:=h
theorem zq1305 (h:a:=by
 obtain⟨a33,c33,rfl⟩:=hO33.form
 exact zq1306):a:=h
theorem zq384 (h:a:=by
 replace eH26:=eH26.symm;subst eH26
 exact zq385):a:=h
theorem zq383 (h:a:=by
 obtain⟨eH26,r26,rfl,hr26⟩:=hp26
 exact zq384):a:=h
theorem zq407 (h:a:=by
 replace eH26:=eH26.symm;subst eH26
 exact zq408):a:=h
theorem zq406 (h:a:=by
 obtain⟨eH26,r26,rfl,hr26⟩:=hp26
 exact zq407):a:=h
theorem zq581 (h:a:=by exact TL.run (ah rfl rfl hlab2) rfl (zq582)):a:=h
theorem zq1177 (h:a:=by exact TL.run (ah rfl rfl hR19) rfl (zq1178)):a:=h
theorem zq1284 (h:a:=by exact TL.run (ah rfl rfl hR34) rfl (zq1285)):a:=h
theorem zq1105 (h:a:=by exact TL.run (ah rfl rfl hR19) rfl (zq1106)):a:=h
theorem zq1355 (h:a:=by
 obtain⟨aa46,ac46,rfl⟩:=hA46.len
 exact zq1356):a:=h
theorem zq1330 (h:a:=by exact TL.run (ah rfl rfl hR33) rfl (zq1331)):a:=h
theorem zq352 (h:a:=by exact TL.run (aL hR62 hxB rfl rfl) rfl (zq353)):a:=h
theorem zq600 (h:a:=by
 obtain⟨eH90,tv90,rfl,hO90⟩:=hp90
 exact zq601):a:=h
theorem zq666 (h:a:=by
 obtain⟨eH67,tv67,rfl,hO67⟩:=hp67
 exact zq667):a:=h
theorem zq664 (h:a:=by exact TL.run (aL hlab hlx rfl rfl) rfl (zq665)):a:=h
theorem zq843 (h:a:=by exact ax (S1 (S1 SN)) (Hp.le.refl _) (zq844)):a:=h
theorem zq838 (h:a:=by exact ax (S1 (S1 SN)) (Hp.le.refl _) (zq839)):a:=h
theorem zq962 (h:a:=by exact ax (S1 (S1 SN)) (Hp.le.refl _) (zq840)):a:=h
theorem zq1236 (h:a:=by
 have hlb:=sK (f:=gT q) k0 hx
 exact zq1237):a:=h
theorem zq598 (h:a:=by exact TL.run (aL hlab2 hlx rfl rfl) rfl (zq599)):a:=h
theorem zq842 (h:a:=by
 obtain⟨rfl,r123,rfl,hr123⟩:=hp123
 exact zq843):a:=h
theorem zq837 (h:a:=by
 obtain⟨rfl,r115,rfl,hr115⟩:=hp115
 exact zq838):a:=h
theorem zq961 (h:a:=by
 obtain⟨rfl,r115,rfl,hr115⟩:=hp115
 exact zq962):a:=h
theorem zq974 (h:a:=by
 dsimp only at hle67 hS67 hs67 ht67 hp67
 exact zq975):a:=h
theorem zq995 (h:a:=by
 dsimp only at hle67 hS67 hs67 ht67 hp67
 exact zq996):a:=h
theorem yF (h:a:=by
 obtain⟨pg44,rfl,hP44,hB44⟩:=hp44
 exact zq1386):a:=h
theorem zq414 (h:a:=by exact bg (aL hla24 hl1 rfl rfl) rfl (zq415)):a:=h
theorem zq508 (h:a:=by exact aw rfl rfl (aL hL hx rfl rfl) rfl (zq509)):a:=h
theorem zq30 (h:a:=by exact TL.run (gB rfl rfl om hc) rfl (zq31)):a:=h
theorem zq903 (h:a:=by
 dsimp only at hle154 hS154 hs154 ht154 hp154
 exact zq904):a:=h
theorem zq855 (h:a:=by
 dsimp only at hle128 hS128 hs128 ht128 hp128
 exact zq856):a:=h
theorem zq794 (h:a:=by
 dsimp only at hle100 hS100 hs100 ht100 hp100
 exact zq795):a:=h
theorem zq1231 (h:a:=by
 have hxb:=hrg x (List.mem_of_getElem? hx)
 exact zq1232):a:=h
theorem zq1068 (h:a:=by
 replace hRP:=hRP.cast (List.nil_append _)
 exact zq1069):a:=h
theorem zq1060 (h:a:=by exact ax (S0 (S1 (S1 SN))) (Hp.le.refl _) (zq1061)):a:=h
theorem zq102 (h:a:=by exact TL.run (gB rfl rfl om hc) rfl (zq103)):a:=h
theorem zq387 (h:a:=by
 obtain⟨l1,hl1⟩:=px hra26 om
 exact zq388):a:=h
theorem zq410 (h:a:=by
 obtain⟨l1,hl1⟩:=px hra26 om
 exact zq411):a:=h
theorem zq1183 (h:a:=by
 have hxb:=hrg x (List.mem_of_getElem? hk3)
 exact zq1184):a:=h
theorem zq1185 (h:a:=by
 have hsk:=hQ.ss s (List.mem_of_getElem? hs)
 exact zq1186):a:=h
theorem zq1202 (h:a:=by
 have hxb:=hK.rg x (List.mem_of_getElem? hx)
 exact zq1203):a:=h
theorem zq1233 (h:a:=by
 have hsk:=hQ.ss s (List.mem_of_getElem? hs)
 exact zq1234):a:=h
theorem zq1230 (h:a:=by
 obtain⟨x,hx⟩:=aj (l:=dK q) k0 c23
 exact zq1231):a:=h
theorem zq495 (h:a:=by
 refine aA rfl rfl rfl rfl (fun b40=>?_)
 exact zq496):a:=h
theorem zq977 (h:a:=by
 refine aJ rfl rfl rfl rfl (fun b68=>?_)
 exact zq978):a:=h
theorem zq998 (h:a:=by
 refine aJ rfl rfl rfl rfl (fun b68=>?_)
 exact zq999):a:=h
theorem zq1201 (h:a:=by
 obtain⟨x,hx⟩:=aj (l:=eZ q) k0 c53
 exact zq1202):a:=h
theorem zq1291 (h:a:=by
 have hlb2:=sK (f:=bH q.terms) m0 hy
 exact zq1292):a:=h
theorem zq308 (h:a:=by
 refine aA rfl rfl rfl rfl (fun b136=>?_)
 exact zq309):a:=h
theorem zq931 (h:a:=by
 refine aJ rfl rfl rfl rfl (fun b172=>?_)
 exact zq932):a:=h
theorem zq884 (h:a:=by
 refine aJ rfl rfl rfl rfl (fun b146=>?_)
 exact zq885):a:=h
theorem zq1182 (h:a:=by
 obtain⟨x,hk3⟩:=aj (l:=dK q) k03 c83
 exact zq1183):a:=h
theorem zq1289 (h:a:=by
 obtain⟨y,hy⟩:=aj (l:=bV s) m0 c38
 exact zq1290):a:=h
theorem zq1354 (h:a:=by
 have hvl46:=xv (ts:=q.terms) (x:=x)
 exact zq1355):a:=h
theorem zq1335 (h:a:=by
 obtain⟨x,hx⟩:=aj (l:=bV s) k0 c37
 exact zq1336):a:=h
theorem zq344 (h:a:=by
 obtain⟨xB,hxB⟩:=aj (l:=cd s) k0 c65
 exact zq345):a:=h
theorem zq374 (h:a:=by
 refine TD.part 4 7 rfl rfl rfl ?_ ?_
 · exact zq398
 exact zq375):a:=h
theorem zq976 (h:a:=by exact ax (S1 (S1 (S1 SN))) (hle60.trans (hle67)) (zq977)):a:=h
theorem zq997 (h:a:=by exact ax (S1 (S1 (S1 SN))) (hle60.trans (hle67)) (zq998)):a:=h
theorem zq183 (h:a:=by exact TL.run (aE rfl (.there _ (.here _)) rfl) rfl (zq184)):a:=h
theorem zq328 (h:a:=by exact TL.run (aE rfl (.there _ (.here _)) rfl) rfl (zq329)):a:=h
theorem zq820 (h:a:=by
 refine TD.part 11 7 rfl rfl rfl ?_ ?_
 · exact zq944
 exact zq821):a:=h
theorem zq707 (h:a:=by exact TL.run (aE rfl (.there _ (.here _)) rfl) rfl (zq708)):a:=h
theorem zq778 (h:a:=by exact ar (ab rfl rfl rfl rfl) (du 3) rfl (zq779)):a:=h
theorem zq754 (h:a:=by exact bg (aE rfl (.there _ (.here _)) rfl) rfl (zq755)):a:=h
theorem zq1184 (h:a:=by
 obtain⟨s,hs⟩:=aj (l:=q.steps) hxb.1 hxb.2
 exact zq1185):a:=h
theorem zq1203 (h:a:=by
 obtain⟨t,ht⟩:=aj (l:=q.terms) hxb.1 hxb.2
 exact zq1204):a:=h
theorem zq1232 (h:a:=by
 obtain⟨s,hs⟩:=aj (l:=q.steps) hxb.1 hxb.2
 exact zq1233):a:=h
theorem zq31 (h:a:=by exact ar (ab rfl rfl rfl rfl) (lX c) rfl (zq32)):a:=h
theorem zq586 (h:a:=by
 obtain⟨lb,hlx⟩:=aj (l:=(fu p set)) k0 c80
 exact zq587):a:=h
theorem zq652 (h:a:=by
 obtain⟨lb,hlx⟩:=aj (l:=(fu p set)) k0 c57
 exact zq653):a:=h
theorem zq103 (h:a:=by exact ar (ab rfl rfl rfl rfl) (lN c) rfl (zq104)):a:=h
theorem zq1163 (h:a:=by
 obtain⟨⟨k03,k13⟩,hle3,hO3,hPl3,hPA3,hPm3⟩:=hI
 exact zq1164):a:=h
theorem zq184 (h:a:=by exact ar (ab rfl rfl rfl rfl) (sJ s.kind) rfl (zq185)):a:=h
theorem zq1071 (h:a:=by
 have hO19:OwnSl 1 I64.cells v19 (dK q) ob19:=hp19
 exact zq1072):a:=h
theorem zq27 (h:a:=by
 obtain⟨c,hc⟩:=aj (l:=s) (i:=k) om c25
 exact zq28):a:=h
theorem zq912 (h:a:=by
 obtain⟨waw18,wnw18,wcw18,rfl,hww18,hwnw18⟩:=huw18
 exact zq913):a:=h
theorem zq865 (h:a:=by
 obtain⟨waw16,wnw16,wcw16,rfl,hww16,hwnw16⟩:=huw16
 exact zq866):a:=h
theorem zq99 (h:a:=by
 obtain⟨c,hc⟩:=aj (l:=s) (i:=k) om c25
 exact zq100):a:=h
theorem zq572 (h:a:=by
 obtain⟨⟨k0,k1⟩,hq2,hq3,hq4,hq5,hq6,hq7,hq8⟩:=hI
 exact zq573):a:=h
theorem zq769 (h:a:=by exact aw rfl rfl (aE rfl (.there _ (.here _)) rfl) rfl (zq770)):a:=h
theorem zq301 (h:a:=by
 have hz4:=(i3 (q:=q) (st:=(m,o)) hma hTm).2.2
 exact zq302):a:=h
theorem zq351 (h:a:=by exact TL.run (ae rfl hR62 rfl om om) rfl (zq352)):a:=h
theorem zq663 (h:a:=by exact TL.run (ae rfl hlab rfl om om) rfl (zq664)):a:=h
theorem zq597 (h:a:=by exact TL.run (ae rfl hlab2 rfl om om) rfl (zq598)):a:=h
theorem zq1215 (h:a:=by exact az (ae rfl hRT rfl om om) rfl (zq1216)):a:=h
theorem zq306 (h:a:=by exact TL.run (aE rfl (.there _ (.there _ (.here _))) rfl) rfl (zq307)):a:=h
theorem zq335 (h:a:=by exact TL.run (aE rfl (.there _ (.there _ (.here _))) rfl) rfl (zq336)):a:=h
theorem zq390 (h:a:=by exact az (ae rfl hla24 rfl om om) rfl (zq391)):a:=h
theorem zq413 (h:a:=by exact az (ae rfl hla24 rfl om om) rfl (zq414)):a:=h
theorem zq650 (h:a:=by exact az (ae rfl hlab3 rfl om om) rfl (zq651)):a:=h
theorem zq790 (h:a:=by exact TL.run (aE rfl (.there _ (.there _ (.here _))) rfl) rfl (zq791)):a:=h
theorem zq1217 (h:a:=by exact az (ae rfl hQ.t rfl om om) rfl (zq1218)):a:=h
theorem zq1251 (h:a:=by exact az (ae rfl hQ.s rfl om om) rfl (zq1252)):a:=h
theorem zq1249 (h:a:=by exact az (ae rfl hR19 rfl om om) rfl (zq1250)):a:=h
theorem zq1347 (h:a:=by exact az (ae rfl hR33 rfl om om) rfl (zq1348)):a:=h
theorem DI (h:a:=by
 have hC2:(iI q.terms s (m,o)).2=(m2,o2):=by rw [hCE]
 exact zq301):a:=h
theorem zq1069 (h:a:=by exact TL.run (bA rfl (.there _ (.there _ (.here _))) rfl) rfl (zq1070)):a:=h
theorem zq187 (h:a:=by
 refine TC.cond rfl ?_ ?_<;>intro c43
 · exact zq198
 exact zq188):a:=h
theorem zq447 (h:a:=by
 refine af rfl ?_ ?_<;>intro c60
 · exact zq476
 exact zq448):a:=h
theorem zq547 (h:a:=by
 refine af rfl ?_ ?_<;>intro c57
 · exact zq652
 exact zq548):a:=h
theorem zq775 (h:a:=by
 refine af rfl ?_ ?_<;>intro c80
 · exact zq776
 exact zq747):a:=h
theorem zq718 (h:a:=by
 refine af rfl ?_ ?_<;>intro c60
 · exact zq963
 exact zq719):a:=h
theorem zq507 (h:a:=by exact aw rfl rfl (ae rfl hL rfl om om) rfl (zq508)):a:=h
theorem zq1142 (h:a:=by
 refine af rfl ?_ ?_<;>intro c53
 · exact zq1201
 exact zq1143):a:=h
theorem zq1109 (h:a:=by
 refine af rfl ?_ ?_<;>intro c23
 · exact zq1230
 exact zq1110):a:=h
theorem zq1322 (h:a:=by
 have hbl:=xx (ts:=q.terms) (s:=s) (k:=k.toNat) h160
 exact zq1323):a:=h
theorem zq342 (h:a:=by refine ai (TC.ret (bh (aF ?_)));exact aF (bh (zE))):a:=h
theorem zq625 (h:a:=by
 obtain⟨sv97,ob97,rows97,rfl,hO97,hrw97,hrl97,hm97,rfl⟩:=hp97
 exact zq626):a:=h
theorem zq936 (h:a:=by exact az (di (tb:=3) rfl rfl haw18 om om) rfl (zq937)):a:=h
theorem zq926 (h:a:=by exact az (di (tb:=3) rfl rfl haw18 om om) rfl (zq927)):a:=h
theorem zq910 (h:a:=by
 obtain⟨bw18,jw18,qw18,haw18,hbw18,hjw18⟩:=hW154.s.at om
 exact zq911):a:=h
theorem zq889 (h:a:=by exact az (di (tb:=3) rfl rfl haw16 om om) rfl (zq890)):a:=h
theorem zq879 (h:a:=by exact az (di (tb:=3) rfl rfl haw16 om om) rfl (zq880)):a:=h
theorem zq863 (h:a:=by
 obtain⟨bw16,jw16,qw16,haw16,hbw16,hjw16⟩:=hW128.s.at om
 exact zq864):a:=h
theorem zq1156 (h:a:=by exact aS (L':=(b3,_)::(b2,_)::(b1,_)::[]) (List.Perm.refl _) (zq1157)):a:=h
theorem zq1122 (h:a:=by exact aS (L':=(b3,_)::(b2,_)::(b1,_)::[]) (List.Perm.refl _) (zq1123)):a:=h
theorem zq1067 (h:a:=by exact aS (L':=(b3,_)::(b2,_)::(b1,_)::[]) (List.Perm.refl _) (zq1068)):a:=h
theorem zq735 (h:a:=by
 refine ag (s:=85) rfl ?_ ?_<;>intro g85
 · exact zq765
 exact zq736):a:=h
theorem zq19 (h:a:=by
 refine af rfl ?_ ?_<;>intro c25
 · exact zq21
 refine fD ?_
 exact zq20):a:=h
theorem zq92 (h:a:=by
 refine af rfl ?_ ?_<;>intro c25
 · exact zq93
 refine fD ?_
 exact zq20):a:=h
theorem zq881 (h:a:=by exact bg (lS rfl hcw16 (.skip _ (.skip _ (.skip _ (.skip _ .all))))) rfl (zq882)):a:=h
theorem zq1123 (h:a:=by
 replace hRT:=hRT.cast (show _=eZ q by rw [aX c23 k0];exact hgl)
 exact zq1124):a:=h
theorem zq1348 (h:a:=by exact aO (S1 (S1 SN)) (Hp.le.refl _) (fun _ _=>aL hR33 hx rfl rfl) rfl (zq1349)):a:=h
theorem zq1368 (h:a:=by
 have hfl:=gZ ((fI q.terms x).take m.toNat) (lD q.terms s k.toNat)
 exact zq1369):a:=h
theorem zq1216 (h:a:=by exact aO (S1 (S1 (S1 SN))) (Hp.le.refl _) (fun _ _=>aL hRT hx rfl rfl) rfl (zq1217)):a:=h
theorem zq1218 (h:a:=by exact aO (S1 (S1 (S1 SN))) (Hp.le.refl _) (fun _ _=>aY hQ.t ht rfl rfl) rfl (zq1219)):a:=h
theorem zq1290 (h:a:=by
 have hym:=hts _ _ hs y (gf hm (hF.ro _ _ hs)▸List.mem_of_getElem? hy)
 exact zq1291):a:=h
theorem zq1252 (h:a:=by exact aO (S1 (S1 (S1 SN))) (Hp.le.refl _) (fun _ _=>aY hQ.s hs rfl rfl) rfl (zq1253)):a:=h
theorem zq1250 (h:a:=by exact aO (S1 (S1 (S1 SN))) (Hp.le.refl _) (fun _ _=>aL hR19 hx rfl rfl) rfl (zq1251)):a:=h
theorem zq1306 (h:a:=by
 refine TL.pubO hO33 (.skip _ (.skip _ .all)) sq (fun HP33 leP33 hR33=>?_)
 exact zq1307):a:=h
theorem zq603 (h:a:=by
 have hO90:=hO90 (show qC p set lb=true from hall lb (List.mem_of_getElem? hlx))
 exact zq604):a:=h
theorem zq391 (h:a:=by
 refine TF.call (ab rfl rfl rfl rfl) (eF) rfl (fun v29 H29 hle29 hp29=>?_)
 exact zq392):a:=h
theorem zq378 (h:a:=by
 refine TF.call (ab rfl rfl rfl rfl) (eF) rfl (fun v24 H24 hle24 hp24=>?_)
 exact zq379):a:=h
theorem zq415 (h:a:=by
 refine TF.call (ab rfl rfl rfl rfl) (eF) rfl (fun v29 H29 hle29 hp29=>?_)
 exact zq416):a:=h
theorem zq401 (h:a:=by
 refine TF.call (ab rfl rfl rfl rfl) (eF) rfl (fun v24 H24 hle24 hp24=>?_)
 exact zq402):a:=h
theorem zq928 (h:a:=by exact bg (lS rfl hcw18 (.skip _ (.skip _ (.skip _ (.skip _ (.skip _ .all)))))) rfl (zq929)):a:=h
theorem zq1118 (h:a:=by
 refine TL.pubO hO (.skip _ (.skip _ (.skip _ .all))) sq (fun HPob lePob hRT=>?_)
 exact zq1119):a:=h
theorem zq1151 (h:a:=by
 refine TL.pubO hO (.skip _ (.skip _ (.skip _ .all))) sq (fun HPob lePob hRTm2=>?_)
 exact zq1152):a:=h
theorem zq1075 (h:a:=by
 refine TL.pubO hO19 (.skip _ (.skip _ (.skip _ .all))) sq (fun HP19 leP19 hR19=>?_)
 exact zq1076):a:=h
theorem zq1379 (h:a:=by
 refine TL.call (ab rfl rfl rfl rfl) (jh hP hz) rfl (fun v29 H29 hle29 hp29=>?_)
 exact zq1380):a:=h
theorem zq1404 (h:a:=by
 refine TL.call (ab rfl rfl rfl rfl) (jh hP hz) rfl (fun v29 H29 hle29 hp29=>?_)
 exact zq1405):a:=h
theorem zq250 (h:a:=by
 refine dE ?_;refine zm3 ?_;refine iC ?_
 exact aB rfl (by unfold pM;simp_all) ⟨rfl,rfl,trivial⟩):a:=h
theorem zq1065 (h:a:=by
 refine TL.pubO hO16 (.skip _ (.skip _ (.skip _ .all))) sq (fun HPob16 lePob16 hRP=>?_)
 exact zq1066):a:=h
theorem zq1388 (h:a:=by
 refine TL.call (ab rfl rfl rfl rfl) (jh hP25 hz25) rfl (fun v29 H29 hle29 hp29=>?_)
 exact zq1389):a:=h
theorem zq1396 (h:a:=by
 refine TL.call (ab rfl rfl rfl rfl) (jh hP25 hz25) rfl (fun v29 H29 hle29 hp29=>?_)
 exact zq1397):a:=h
theorem zq46 (h:a:=by
 refine TC.cond rfl ?_ ?_<;>intro c39
 · refine ki ?_;exact aF (bh (zq47))
 exact zq36):a:=h
theorem zq647 (h:a:=by exact aO (S1 (S1 (S1 (S1 SN)))) (Hp.le.refl _) (fun _ _=>aE rfl (.there _ (.here _)) rfl) rfl (zq648)):a:=h
theorem zq1258 (h:a:=by
 refine TL.pubO hO34 (.skip _ (.skip _ (.skip _ (.past _ .all)))) sq (fun HP34 leP34 hR34=>?_)
 exact zq1259):a:=h
theorem zq1302 (h:a:=by
 refine bD (ab rfl rfl rfl rfl) (nY s hsk hl) rfl (fun v33 H33 ob33 hle33 hp33=>?_)
 exact zq1303):a:=h
theorem zq1377 (h:a:=by
 refine oq ?_
 exact aD (k+1) o2q ky (fun w hw=>hw) om):a:=h
theorem zq555 (h:a:=by
 have h72:¬(fu p set).all (qC p set)=false:=by rw [bU (p:=qC p set) k0 c57 hal];decide
 exact zq556):a:=h
theorem zq1254 (h:a:=by
 refine bD (ab rfl rfl rfl rfl) (nY s hsk hsz.2) rfl (fun v34 H34 ob34 hle34 hp34=>?_)
 exact zq1255):a:=h
theorem zq1350 (h:a:=by
 refine TL.call (ab rfl rfl rfl rfl) (Ip x hQ.t hQ.tn om) rfl (fun v46 H46 hle46 hp46=>?_)
 exact zq1351):a:=h
theorem zq1259 (h:a:=by exact aS (L':=(b3,_)::((b2,_)::((b1,_)::(ob)))) (dV [(b3,_),(b2,_),(b1,_)] (A:=ob)) (zq1260)):a:=h
theorem zq556 (h:a:=by
 have hall:∀s∈(fu p set),qC p set s=true:=List.all_eq_true.1 (bU (p:=qC p set) k0 c57 hal)
 exact zq557):a:=h
theorem zq1342 (h:a:=by exact aU [true,true] [(0,1),(1,4),(2,1),(3,1),(4,1),(5,4),(6,5),(7,1)] kr kr (zq1343)):a:=h
theorem zq911 (h:a:=by
 obtain⟨uw18,huw18,hcw18⟩:=hW154.bag.get (k:=10) (i:=(V103.sn:Int).toNat) (f:=8) hbw18 rfl hjw18 om rfl
 exact zq912):a:=h
theorem zq864 (h:a:=by
 obtain⟨uw16,huw16,hcw16⟩:=hW128.bag.get (k:=10) (i:=(V103.sn:Int).toNat) (f:=8) hbw16 rfl hjw16 om rfl
 exact zq865):a:=h
theorem kF (h:a:=by refine gm ?_;exact bh (aF (aR (.inr rfl) (ad rfl (RVal.tmp rfl)) ⟨congrArg Value.bool (by simp_all [cG]),rfl⟩))):a:=h
theorem zq427 (h:a:=by
 have hno:¬(0<(eO p role (dC p role frm)).length∧(dC p role frm).any (nF p role)=true):=no_lost k0 hI2 om
 exact zq428):a:=h
theorem zq218 (h:a:=by
 refine ag (s:=74) rfl ?_ ?_<;>intro g74
 · exact zq224
 have q74:=aM g74
 refine dE ?_;refine cM ?_
 exact zq219):a:=h
theorem zq520 (h:a:=by
 have h48:¬((dP p role set).1=1∧qF p set=false):=by first | (rintro⟨e1,e2⟩;simp_all;done) | (rintro⟨e1,e2⟩;omega)
 exact zq521):a:=h
theorem zq1013 (h:a:=by
 refine ag (s:=81) rfl ?_ ?_<;>intro g81
 · exact zq1019
 have q81:=aM g81
 refine dE ?_;refine cM ?_
 exact G7):a:=h
theorem zq1210 (h:a:=by exact aU [true,true,true] [(0,1),(1,4),(2,1),(3,1),(4,1),(5,4),(6,1),(7,4),(8,3),(9,5)] kr kr (zq1211)):a:=h
theorem zq1297 (h:a:=by exact aU [true,true,true] [(0,1),(1,1),(2,4),(3,1),(4,1),(5,1),(6,4),(7,5),(8,5),(9,1)] kr kr (zq1298)):a:=h
theorem zq1244 (h:a:=by exact aU [true,true,true] [(0,1),(1,4),(2,1),(3,1),(4,1),(5,4),(6,1),(7,4),(8,5),(9,1)] kr kr (zq1245)):a:=h
theorem zq127 (h:a:=by
 refine zC (.inr rfl) (ad rfl (RVal.tmp rfl)) (.here _) ⟨_,_,?_,rfl,rfl,?_,rfl⟩
 · exact G3
 first | assumption | (simp;done) | (simp;assumption)):a:=h
theorem zq665 (h:a:=by
 refine pO (X:=[(b4,_)]) (b:=bw) rfl (ab rfl rfl rfl rfl) (oR role hp hf hr lb hfl) rfl (fun v67 H67 ob67 hle67 hf67 hp67=>?_)
 exact zq666):a:=h
theorem GS (h:a:=by exact ao (.inr rfl) (ad rfl (RVal.tmp rfl)) (congrArg Value.bool (by unfold dy;first | (rw [hall];clear hall;simp_all;done) | (simp_all<;>omega)))):a:=h
theorem zq382 (h:a:=by
 refine aI (X:=[(b9,_),(b8,_)]) (bd:=bd) rfl (ab rfl rfl rfl rfl) (bq 2 om hd) rfl (fun v26 H26 at26 hle26 hd26 hp26=>?_)
 exact zq383):a:=h
theorem zq405 (h:a:=by
 refine aI (X:=[(b9,_),(b8,_)]) (bd:=bd) rfl (ab rfl rfl rfl rfl) (bq 2 om hd) rfl (fun v26 H26 at26 hle26 hd26 hp26=>?_)
 exact zq406):a:=h
theorem zq605 (h:a:=by
 refine TL.pubO hO90 (.skip _ (.skip _ (.skip _ (.past _ .all)))) (fun p hp hm=>absurd (hM _ hm) (Nat.not_lt.2 (hf90 p hp))) (fun HP90 leP90 hT90=>?_)
 exact zq606):a:=h
theorem zq496 (h:a:=by
 refine TL.append (enc:=Str.cells) rfl rfl rfl hO37 (Src.own [s] (.here _) rfl rfl) (by simp;omega) rfl (.skip _ .all) rfl (fun a41 c41 ob41 hO41=>?_)
 exact zq497):a:=h
theorem zq261 (h:a:=by
 refine TL.append (enc:=I64.cells) rfl rfl rfl (OwnSl.nil (enc:=I64.cells)) (Src.sl ha) (by simp;omega) rfl (.new _ rfl) rfl (fun a30 c30 ob30 hO30=>?_)
 exact zq262):a:=h
theorem zq710 (h:a:=by
 refine ag (s:=66) rfl ?_ ?_<;>intro g66
 ·
  have q66:=of_decide_eq_true g66
  refine jL ?_;refine zm0 ?_;refine iG ?_
  exact zq963
 exact zq711):a:=h
theorem zq748 (h:a:=by exact aU [true,false,false] [(0,1),(1,1),(2,1),(3,1),(4,1),(5,2),(6,1),(7,4),(8,1),(10,1),(9,5),(11,5)] kr kr (zq749)):a:=h
theorem zq143 (h:a:=by
 refine zC (.inr rfl) (ad rfl (RVal.tmp rfl)) (.there _ (.here _)) ⟨_,_,?_,rfl,rfl,?_,rfl⟩
 · exact G3
 first | assumption | (simp;done) | (simp;assumption)):a:=h
theorem zq1334 (h:a:=by
 refine af rfl ?_ ?_<;>intro c37
 · exact zq1335
 refine jA ?_
 exact aR (.inr rfl) (ad rfl (RVal.tmp rfl)) (by rw [← Fi k0 c37];exact hV)):a:=h
theorem zq599 (h:a:=by
 refine pO (X:=[(b15,_),(b4,_)]) (b:=bw) rfl (ab rfl rfl rfl rfl) (oR role hp2 hf2 hr lb hfl) rfl (fun v90 H90 ob90 hle90 hf90 hp90=>?_)
 exact zq600):a:=h
theorem zq1070 (h:a:=by
 refine bD (ab rfl rfl rfl rfl) (Dq hF.s hF.t hF.n80 q.steps.length 0 hQ om om om) rfl (fun v19 H19 ob19 hle19 hp19=>?_)
 exact zq1071):a:=h
theorem zq791 (h:a:=by
 refine aI (X:=[(b7,_),(b6,_),(F.bw,_)]) (bd:=F.bd) rfl (ab rfl rfl rfl rfl) (bq 3 om hW.d) rfl (fun v99 H99 at99 hle99 hd99 hp99=>?_)
 exact zq792):a:=h
theorem zq1227 (h:a:=by exact aU [false,true,true,true] [(0,1),(1,1),(2,2),(4,1),(5,1),(6,2),(3,3),(8,1),(7,3),(9,5),(10,1),(11,0)] kr kr (zq1228)):a:=h
theorem zq375 (h:a:=by exact aU [true,true,false] [(1,1),(6,1),(0,3),(2,5),(3,1),(5,3),(7,5),(4,2),(8,1),(9,1),(10,2),(11,1),(12,1)] kr kr (zq376)):a:=h
theorem zq398 (h:a:=by exact aU [true,true,false] [(1,1),(6,1),(0,3),(2,5),(3,1),(4,2),(5,3),(7,5),(8,1),(9,1),(10,2),(11,1),(12,1)] kr kr (zq399)):a:=h
theorem zq149 (h:a:=by
 refine zC (.inr rfl) (ad rfl (RVal.tmp rfl)) (.there _ (.there _ (.here _))) ⟨_,_,?_,rfl,rfl,?_,rfl⟩
 · exact G3
 first | assumption | (simp;done) | (simp;assumption)):a:=h
theorem zq644 (h:a:=by exact aU [true,true,true,true] [(0,1),(1,4),(2,1),(3,1),(4,1),(5,4),(6,4),(7,1),(8,1),(9,3),(10,5),(11,1),(12,0)] kr kr (zq645)):a:=h
theorem zq197 (h:a:=by exact ao (.inr rfl) (ad rfl (RVal.cellA rfl (.here _) rfl)) (congrArg Value.agg (congrArg List.toArray (by unfold gR SStep.cells;first | (simp_all;rfl) | (simp_all;done))))):a:=h
theorem zq967 (h:a:=by
 refine aI (X:=[(b11,_),(b8,_),(b4,_),(b15,_)]) (bd:=bd) rfl (ab rfl rfl rfl rfl) (bq 4 om hW60.d) rfl (fun v66 H66 at66 hle66 hd66 hp66=>?_)
 exact zq968):a:=h
theorem zq988 (h:a:=by
 refine aI (X:=[(b11,_),(b8,_),(b4,_),(b15,_)]) (bd:=bd) rfl (ab rfl rfl rfl rfl) (bq 4 om hW60.d) rfl (fun v66 H66 at66 hle66 hd66 hp66=>?_)
 exact zq989):a:=h
theorem zq760 (h:a:=by
 refine aI (X:=[(b6,_),(F.bw,_)]) (bd:=F.bd) rfl (ab rfl rfl rfl rfl) (bq (t.arms.length:Int) om hW.d) rfl (fun v35 H35 at35 hle35 hd35 hp35=>?_)
 exact zq761):a:=h
theorem zq41 (h:a:=by
 refine oq ?_
 exact aD (k+1) ⟨by omega,by omega,zh hI.2.2 om hc (by first | exact .inl g33 | exact .inr c39)⟩ ky (fun w hw=>hw) om):a:=h
theorem zq687 (h:a:=by
 refine aI (X:=[(b10,_),(b8,_),(b5,_),(F.bw,_)]) (bd:=F.bd) rfl (ab rfl rfl rfl rfl) (bq 3 om hW54.d) rfl (fun v60 H60 at60 hle60 hd60 hp60=>?_)
 exact zq688):a:=h
theorem zq836 (h:a:=by
 refine aI (X:=[(b7,_),(b6,_),(F.bw,_)]) (bd:=F.bd) rfl (ab rfl rfl rfl rfl) (bq (t.arms.length:Int) om hW107.d) rfl (fun v115 H115 at115 hle115 hd115 hp115=>?_)
 exact zq837):a:=h
theorem zq960 (h:a:=by
 refine aI (X:=[(b7,_),(b6,_),(F.bw,_)]) (bd:=F.bd) rfl (ab rfl rfl rfl rfl) (bq (t.arms.length:Int) om hW107.d) rfl (fun v115 H115 at115 hle115 hd115 hp115=>?_)
 exact zq961):a:=h
theorem zq487 (h:a:=by
 refine TL.append (enc:=Str.cells) rfl rfl rfl (OwnSl.nil (enc:=Str.cells)) (Src.sl (hL.sliced (i:=0) (Nat.zero_le _) om)) (by simp;omega) rfl (.new _ rfl) rfl (fun a37 c37 ob37 hO37=>?_)
 exact zq488):a:=h
theorem zq1193 (h:a:=by exact aU [true,true,true] [(0,1),(1,4),(2,1),(3,4),(4,1),(5,1),(6,1),(7,4),(8,1),(9,4),(10,1),(11,1),(12,5),(13,3),(14,5),(15,1),(16,0)] kr kr (zq1194)):a:=h
theorem zq34 (h:a:=by
 refine ag (s:=33) rfl ?_ ?_<;>intro g33
 · refine eG ?_;exact aw rfl rfl (gB rfl rfl om hc) rfl (aH rfl rfl (ab rfl rfl rfl rfl) (Dl c) rfl (zq42))
 exact zq35):a:=h
theorem zq106 (h:a:=by
 refine ag (s:=33) rfl ?_ ?_<;>intro g33
 · refine eG ?_;exact aw rfl rfl (gB rfl rfl om hc) rfl (aH rfl rfl (ab rfl rfl rfl rfl) (C1 c) rfl (zq42))
 exact zq35):a:=h
theorem zq801 (h:a:=by
 refine aC (F:=F) (V:=V102) (m:=m+1+1) [(b7,_),(b6,_)] rfl rfl (ab rfl rfl rfl rfl) (fS 12 i100 i102) hW102 om rfl (fun v103 V103 hle103 hW103 hS103 hs103 ht103 hp103=>?_)
 exact zq802):a:=h
theorem zq841 (h:a:=by
 refine aI (X:=[(b7,_),(b6,_),(F.bw,_)]) (bd:=F.bd) rfl (ab rfl rfl rfl rfl) (bq (t.arms.length:Int) om (hW107.dice (.refl _) hd115).d) rfl (fun v123 H123 at123 hle123 hd123 hp123=>?_)
 exact zq842):a:=h
theorem zq798 (h:a:=by
 refine aC (F:=F) (V:=V100) (m:=m+1) [(b7,_),(b6,_)] rfl rfl (ab rfl rfl rfl rfl) (cQ [110] (.inr (.inr (.inl rfl)))) hW100 om rfl (fun v102 V102 hle102 hW102 hS102 hs102 ht102 hp102=>?_)
 exact zq799):a:=h
theorem zq793 (h:a:=by
 refine aC (F:=F) (V:={V with at_:=at99}) (m:=m) [(b7,_),(b6,_)] rfl rfl (ab rfl rfl rfl rfl) (fE _) (hW.dice (.refl _) hd99) om rfl (fun v100 V100 hle100 hW100 hS100 hs100 ht100 hp100=>?_)
 exact zq794):a:=h
theorem zq1386 (h:a:=by
 replace hP42:=hP42.le hle44
 refine TF.back (qI rfl rfl (ab rfl rfl rfl rfl) (qx hP42 hP44 (hB42.trans hB44.symm)) rfl (iz ?_));exact TF.nil (ai (TC.ret (aR (.inr rfl) (ad rfl (RVal.tmp rfl)) rfl)))):a:=h
theorem zq514 (h:a:=by
 refine af rfl ?_ ?_<;>intro c32
 ·
  refine zP ?_
  exact aR (.inr rfl) (ad rfl (RVal.tmp rfl)) (by first | exact absurd q25 q11 | (rw [Ix hI.2.2 hx (by simp [c18]) (by simpa using c32)];exact hL))
 exact zq480):a:=h
theorem zq624 (h:a:=by
 refine qH (X:=[(b17,_),(b15,_),(b4,_)]) (A:=(bw,_)::q.ob) rfl (ab rfl rfl rfl rfl) (ER role hp2 hN hn hq3 hq4 hq5 hT90 (by have:=Jl (p:=p) (s:=lb) set;omega)) rfl (fun v97 H97 A97 hle97 hp97=>?_)
 exact zq625):a:=h
theorem zq397 (h:a:=by
 refine Ai ?_;refine az (ae rfl hlb29 rfl om om) rfl (bg (aL hlb29 hl2 rfl rfl) rfl (iz ?_))
 exact TF.nil (kD ⟨l1,l2,at31,H29⟩ ⟨hd31,hle24.trans hle29⟩ ky (fun w hw=>hw))):a:=h
theorem zq210 (h:a:=by exact ao (.inr rfl) (ad rfl (RVal.tmp rfl)) (congrArg Value.bool (by first | exact pT c8 h0 h1 (by simp_all [mi]) | exact mp c8 g13 | exact(HB c8 om).symm | exact(AV c8 k0 hx c91 hal).symm | exact(AU c8 hn7 k0 c59 hal).symm))):a:=h
theorem GO (h:a:=by exact ao (.inr rfl) (ad rfl (RVal.tmp rfl)) (congrArg (Value.int .i64) (by first | exact(step_1 h1).symm | exact(step_2 h1 h2).symm | exact(step_3 h1 h2 c88).symm | exact(step_4 h1 h2 c88 h4).symm | exact(step_5 h1 h2 c88 h4 c114).symm | exact(step_6 h1 h2 c88 h4 c114).symm))):a:=h
theorem zq1288 (h:a:=by
 refine af rfl ?_ ?_<;>intro c38
 · exact zq1289
 refine kJ ?_
 exact ay (k+1) _ ob2 H2 ⟨o2q,hle,hO2.cast (by rw [bi k0 hx,List.flatMap_append,aX c38 m0];simp [gT_at hs])⟩ ky (fun w hw=>hw) om):a:=h
theorem zq225 (h:a:=by
 refine zm8 ?_;refine aH rfl rfl (ab rfl rfl rfl rfl) (bP x.label) rfl (rD ?_)
 refine ag (s:=81) rfl ?_ ?_<;>intro g81
 ·
  refine AE ?_;refine cu ?_
  exact aB rfl (by unfold dp;simp_all) ky
 exact zq219):a:=h
theorem zq892 (h:a:=by
 refine dS (t:=3) (f:=8) (ct:=.sl 1) rfl rfl (hW128.bagT hS147 hN147 hB147).bag (.skip _ (.skip _ (.skip _ (.skip _ (.skip _ .all))))) (hS147.1 _ _ hbw16) rfl hjw16 om rfl (⟨_,_,_,rfl,hT147,by simp only [List.length_cons,List.length_nil];omega⟩) rfl rfl (fun Bst1 hBst1=>?_)
 exact zq893):a:=h
theorem zq1022 (h:a:=by
 refine aH rfl rfl (ab rfl rfl rfl rfl) (cR x.label) rfl (rD ?_)
 refine ag (s:=88) rfl ?_ ?_<;>intro g88
 ·
  refine AE ?_;refine cu ?_
  exact aB rfl (by unfold dp;simp_all) ky
 exact G7):a:=h
theorem zq939 (h:a:=by
 refine dS (t:=3) (f:=8) (ct:=.sl 1) rfl rfl (hW154.bagT hS173 hN173 hB173).bag (.skip _ (.skip _ (.skip _ (.skip _ (.skip _ (.skip _ .all)))))) (hS173.1 _ _ hbw18) rfl hjw18 om rfl (⟨_,_,_,rfl,hT173,by simp only [List.length_cons,List.length_nil];omega⟩) rfl rfl (fun Bst2 hBst2=>?_)
 exact zq940):a:=h
theorem zq9 (h:a:=by
 refine TC.loop (V:=fun k=>[(3,.int .i64 k)]) (K:=[(0,_),(2,_)]) (L:=fun k=>_) (I:=fun k=>1≤k∧k≤s.length∧(s.drop 1).all gh=(s.drop k.toNat).all gh) (μ:=fun k=>(s.length - k).toNat) (i:=(1:Int)) ky ⟨by omega,by omega,rfl⟩ (fun w hw=>hw) (fun k hI=>?_)
 exact zq10):a:=h
theorem zq82 (h:a:=by
 refine TC.loop (V:=fun k=>[(3,.int .i64 k)]) (K:=[(0,_),(2,_)]) (L:=fun k=>_) (I:=fun k=>1≤k∧k≤s.length∧(s.drop 1).all gh=(s.drop k.toNat).all gh) (μ:=fun k=>(s.length - k).toNat) (i:=(1:Int)) ky ⟨by omega,by omega,rfl⟩ (fun w hw=>hw) (fun k hI=>?_)
 exact zq83):a:=h
theorem zq20 (h:a:=by exact aR (.inr rfl) (ad rfl (RVal.tmp rfl)) ⟨congrArg Value.bool (by first | exact(F5 (by first | exact .inl g7 | exact .inr (.inl g12) | exact .inr (.inr (.inl ⟨c0,hc0,g18⟩)) | exact .inr (.inr (.inr c21)))).symm | exact(BC hn hI.2.2 c25).symm | exact(BD hn hI.2.2 om hc g33 c39).symm),rfl⟩):a:=h
theorem zq309 (h:a:=by
 refine TL.append (enc:=SStep.cells) rfl rfl rfl hOS (Src.own [s2] (.here _) rfl (by subst hs2e;show _=SStep.cells _++[];rw [List.append_nil];unfold SStep.cells;simp only [hCn,hWn];rfl)) (by simp;omega) rfl (.skip _ (.skip _ (.skip _ (.skip _ (.skip _ (.skip _ (.past _ .all))))))) rfl (fun a137 c137 ob137 hO137=>?_)
 exact zq310):a:=h
theorem gU (h:a:=by
 obtain⟨pg,hv,hpo,hgp,_,_⟩:=Cd hBH (hR.le hle3) (fun x hx=>(hq x hx).le (hle2.trans hle3) (.refl _)) (hps.le (hle2.trans hle3)) ((hPs.le (hle2.trans hle3)).pk) hN (by first | omega | (simp;omega)) (by first | omega | (simp;omega))
 exact aR (.inr rfl) (ad rfl (RVal.cellA rfl (.there _ (.here _)) rfl)) ⟨pg,hv,hpo,hgp⟩):a:=h
theorem zq973 (h:a:=by
 refine aC (F:=⟨b15,bd,.slice psa ps.length psc,ps,cL,.slice none 0 0,[],.slice none 0 0,[],0,dl⟩) (V:={V60 with at_:=at66}) (m:=20 * k.toNat+12+1) [(b11,_),(b8,_),(b4,_)] rfl rfl (ab rfl rfl rfl rfl) (fE _) (hW60.dice (.refl _) hd66) om rfl (fun v67 V67 hle67 hW67 hS67 hs67 ht67 hp67=>?_)
 exact zq974):a:=h
theorem zq994 (h:a:=by
 refine aC (F:=⟨b15,bd,.slice psa ps.length psc,ps,cL,.slice none 0 0,[],.slice none 0 0,[],0,dl⟩) (V:={V60 with at_:=at66}) (m:=20 * k.toNat+12+1) [(b11,_),(b8,_),(b4,_)] rfl rfl (ab rfl rfl rfl rfl) (fE _) (hW60.dice (.refl _) hd66) om rfl (fun v67 V67 hle67 hW67 hS67 hs67 ht67 hp67=>?_)
 exact zq995):a:=h
theorem zq812 (h:a:=by
 refine aC (F:=F) (V:=V103) (m:=m+1+1+1) [(b7,_),(b6,_)] rfl rfl (ab rfl rfl rfl rfl) (gt ⟨3,[],[],[],[],i103,none,0,0,none,0,0,none,0,0, -1⟩ ⟨.nil,.nil,.nil,.nil,.nil,.nil,.nil,Nat.zero_le _,Nat.zero_le _,Nat.zero_le _⟩) hW103 om rfl (fun v107 V107 hle107 hW107 hS107 hs107 ht107 hp107=>?_)
 exact zq813):a:=h
theorem zq464 (h:a:=by
 refine af rfl ?_ ?_<;>intro c78
 ·
  refine zP ?_
  have hEq:=yi (sets:=rows.map (·.l)) hno (by rw [List.length_map];exact fun j hj=>hI2 j om)
  rw [List.length_map,if_pos om] at hEq
  exact aZ (.inr rfl) (co rfl (RVal.tmp rfl) (RVal.tmp rfl)) (fun w hw=>hw) ⟨_,_,rows,rfl,hO,hrw1,hrl,by rw [hEq],by rw [hEq]⟩
 exact zq465):a:=h
theorem zq886 (h:a:=by
 refine jI (enc:=SWay.cells) (t:=1) rfl rfl rfl hW128.bag hww16 (Src.own [⟨[],[],_⟩] (.here _) rfl rfl) rfl (by intro y hy;rw [List.mem_singleton.1 hy];exact SWay.all (s:=⟨[],[],_⟩) .nil .nil) zt1 (by simp only [List.length_cons,List.length_nil];omega) rfl (.skip _ (.skip _ (.skip _ (.skip _ (.skip _ .all))))) rfl (fun S147 a147 c147 B147 hS147 hN147 hT147 hB147=>?_)
 exact zq887):a:=h
theorem zq933 (h:a:=by
 refine jI (enc:=SWay.cells) (t:=1) rfl rfl rfl hW154.bag hww18 (Src.own [⟨[],[],_⟩] (.here _) rfl rfl) rfl (by intro y hy;rw [List.mem_singleton.1 hy];exact SWay.all (s:=⟨[],[],_⟩) .nil .nil) zt1 (by simp only [List.length_cons,List.length_nil];omega) rfl (.skip _ (.skip _ (.skip _ (.skip _ (.skip _ (.skip _ .all)))))) rfl (fun S173 a173 c173 B173 hS173 hN173 hT173 hB173=>?_)
 exact zq934):a:=h
theorem zq965 (h:a:=by
 refine aC (F:=F) (V:=V) (m:=m) [(b6,_)] rfl rfl (ab rfl rfl rfl rfl) (pU false) hW om rfl (fun v71 V71 hle71 hW71 hS71 hs71 ht71 hp71=>?_)
 obtain⟨rfl,hn71⟩:=hp71
 exact TL.nil (bn (bF (V':=V71) (X:=[(b6,_)]) (.inl rfl) (cq rfl) rfl rfl (hW71.more om) hS71 (by(try dsimp only);omega) (by(try dsimp only);omega) ⟨rfl,by(try dsimp only);omega⟩))):a:=h
theorem zq943 (h:a:=by exact bF (V':={{V154 with S:=S173,B:=B173} with B:=Bst2}) (X:=[(b172,_),(b146,_),(b7,_),(b6,_)]) (.inl rfl) (cq rfl) rfl rfl (((hW154.bagT hS173 hN173 hB173).bagB hBst2).more om) (hS100.trans (hS102.trans (hS103.trans (hS107.trans (hS128.trans (hS147.trans (hS154.trans (hS173)))))))) (by(try dsimp only);omega) (by(try dsimp only);omega) ⟨rfl,by(try dsimp only);omega⟩):a:=h
theorem zq433 (h:a:=by
 refine TC.loop (V:=fun m=>[(9,.int .i64 m)]) (K:=[(0,_),(4,_),(5,_),(7,_)]) (L:=fun m=>_) (I:=fun m=>(0≤m∧m≤rows.length)∧∀j:Nat,j<m.toNat→(rows.map (·.l))[j]? ≠some (eO p role (dC p role frm))) (μ:=fun m=>(rows.length - m).toNat) (i:=(0:Int)) ky ⟨o2q,fun j h=>absurd h om⟩ (fun w hw=>hw) (fun m hI=>?_)
 exact zq434):a:=h
theorem zq319 (h:a:=by
 refine zm465 ?_
 exact ay (i:=(k,(m,o),u1,ob1,S)) (k+1,(m2,o2),u2,ob2,S++[s2]) _ ob137 HPow ⟨o2q,hle,⟨hm2,by simp only at hz4;show o2.length≤3355443200 * (k+1).toNat;omega⟩,hO2,hO137,by simp only [List.length_append,List.length_cons,List.length_nil];omega,hSt.snoc hs2,by rw [List.map_append];exact hT2⟩ ky (fun w hw=>hw.drop.drop) om):a:=h
theorem zq365 (h:a:=by
 refine aK (V:=fun(p:Nat×Nat) v ob H1=>[(3,.int .u64 (p.1:Int)),(4,v)]) (K:=[(0,_),(2,_)]) (L:=fun(p:Nat×Nat) v ob H1=>St [] w0 H H ob) (I:=fun(p:Nat×Nat) v ob H1=>∃o:Str,OwnSl 1 U8.cells v o ob∧DigI n.natAbs p.1 p.2 o) (μ:=fun(p:Nat×Nat)=>p.1+p.2) (n.natAbs,1) (.slice none 0 0) [] H ky ⟨[],OwnSl.nil,DigI.zero h0 h1⟩ (fun w hw=>hw) (fun p v ob H1 hI=>?_)
 exact zq366):a:=h
theorem zq418 (h:a:=by
 refine au rfl (aI (X:=[(b9,_),(b8,_)]) (bd:=bd) rfl (ab rfl rfl rfl rfl) (bq 2 om hd26) rfl (fun v31 H31 at31 hle31 hd31 hp31=>?_))
 obtain⟨eH31,r31,rfl,hr31⟩:=hp31
 replace eH31:=eH31.symm;subst eH31
 have hra31:=hr31.1
 have hrb31:=hr31.2.1 om
 obtain⟨l2,hl2⟩:=px (i:=2+r31) om om
 have hl4:labelsL.length=4:=rfl
 exact ax (S1 (S1 SN)) (hle24.trans (hle29)) (zq397)):a:=h
theorem zq299 (h:a:=by
 refine TC.region (oq ?_)
 exact ay (i:=(k,m,o)) (k+1,m.set x.toNat (o.length:Int),o++[mvT m t]) _ ob51 H1 ⟨o2q,hle,by rw [List.length_set];exact hml,hO51.cast (by unfold mvT;simp [*]),by simp only [List.length_append,List.length_cons,List.length_nil];omega,tg_next k0 hk ht hT⟩ ky (fun w hw=>by have hw2:=hw.drop.drop;simp only [jF] at hw2;exact hw2) om):a:=h
theorem zq223 (h:a:=by
 refine ag (s:=85) rfl ?_ ?_<;>intro g85
 ·
  have q85:=aQ g85
  refine zm8 ?_;refine aH rfl rfl (ab rfl rfl rfl rfl) (bP x.name) rfl (eG ?_);refine cu ?_
  exact aB rfl (by unfold dp;simp_all) ky
 have q85:=aM g85
 refine dE ?_;refine ef ?_
 exact aB rfl (by unfold dp;simp_all) ky):a:=h
theorem zq1320 (h:a:=by
 refine aK (V:=fun k v ob H1=>[(6,v),(8,.int .i64 k)]) (K:=[(2,_),(4,_),(7,_)]) (L:=fun k v ob H1=>St [] w0 H H1 ((b5,s.cells)::(b2,q.cells)::[])) (I:=fun k v ob H1=>(0≤k∧k≤(bV s).length)∧HP33.le H1∧RdSl H1 1 Str.cells v (lD q.terms s k.toNat)) (μ:=fun k=>((bV s).length - k).toNat) 0 _ [] HP33 ky ⟨o2q,Hp.le.refl _,hV⟩ (fun w hw=>hw) (fun k v ob H1 hI=>?_)
 exact zq1321):a:=h
theorem zq396 (h:a:=by
 refine aI (X:=[(b9,_),(b8,_)]) (bd:=bd) rfl (ab rfl rfl rfl rfl) (bq 2 om hd26) rfl (fun v31 H31 at31 hle31 hd31 hp31=>?_)
 obtain⟨eH31,r31,rfl,hr31⟩:=hp31
 replace eH31:=eH31.symm;subst eH31
 have hra31:=hr31.1
 have hrb31:=hr31.2.1 om
 obtain⟨l2,hl2⟩:=px (i:=2+r31) om om
 have hl4:labelsL.length=4:=rfl
 exact ax (S1 (S1 SN)) (hle24.trans (hle29)) (bg (aL hla24 hl1 rfl rfl) rfl (zq397))):a:=h
theorem zq854 (h:a:=by
 refine aC (F:=F) (V:={{V107 with at_:=at115} with at_:=at123}) (m:=m+1+1+1+1) [(b7,_),(b6,_)] rfl rfl (ab rfl rfl rfl rfl) (tT hG turn r115 deep h0 h1 (fun t2 h2=>by rw [htx] at h2;cases h2;have:=hTt.a1 om om;have:=hr115.1;have:=hr115.2.1 om;omega) (ih hdp.1 om) hK hdp) ((hW107.dice (.refl _) hd115).dice (.refl _) hd123) om rfl (fun v128 V128 hle128 hW128 hS128 hs128 ht128 hp128=>?_)
 exact zq855):a:=h
theorem zq526 (h:a:=by
 refine af rfl ?_ ?_<;>intro c52
 ·
  refine z1 ?_
  have hE:bQ p role (rows.map (·.l)) set=((0,[],[]),805,rows.map (·.l)):=by unfold bQ;rw [if_neg om,if_neg h34,if_neg h48,if_pos om]
  exact aZ (.inr rfl) (co rfl (RVal.cellA rfl (.here _) rfl) (RVal.tmp rfl)) (fun w hw=>by rw [List.append_nil];exact hw.drop) ⟨_,ob,rows,.slice none 0 0,[],rfl,hO,hrw,hrl,by rw [hE],by rw [hE];exact OwnSl.nil,by rw [hE];rfl⟩
 exact zq527):a:=h
theorem zq902 (h:a:=by
 refine aC (F:=F) (V:={{V128 with S:=S147,B:=B147} with B:=Bst1}) (m:=m+1+1+1+1+(K+20)+1) [(b146,_),(b7,_),(b6,_)] rfl rfl (ab rfl rfl rfl rfl) (tT hG turn r123 deep h0 h1 (fun t2 h2=>by rw [htx] at h2;cases h2;have:=hTt.a1 om om;have:=hr123.1;have:=hr123.2.1 om;omega) (ih hdp.1 om) hK hdp) ((hW128.bagT hS147 hN147 hB147).bagB hBst1) om rfl (fun v154 V154 hle154 hW154 hS154 hs154 ht154 hp154=>?_)
 exact zq903):a:=h
theorem zq1018 (h:a:=by
 refine ag (s:=92) rfl ?_ ?_<;>intro g92
 ·
  have q92:=aQ g92
  refine zm8 ?_;refine aH rfl rfl (ab rfl rfl rfl rfl) (cR x.name) rfl (eG ?_);refine cu ?_
  exact aB rfl (by unfold dp;simp_all) ky
 have q92:=aM g92
 refine dE ?_;refine ef ?_
 exact aB rfl (by unfold dp;simp_all) ky):a:=h
theorem zq536 (h:a:=by
 refine TC.loop (V:=fun k=>[(11,.int .i64 k)]) (K:=[(0,_),(1,_),(4,_),(5,_),(6,_),(7,_),(9,_)]) (L:=fun k=>St M w0 H H40 ((b4,[.int .i64 0,gs [],.slice none 0 0])::(bw,WK p role _)::ob)) (I:=fun k=>(0≤k∧k≤(fu p set).length)∧(fu p set).all (qC p set)=((fu p set).drop k.toNat).all (qC p set)) (μ:=fun k=>((fu p set).length - k).toNat) (i:=(0:Int)) ky ⟨o2q,rfl⟩ (fun w hw=>hw) (fun k hI=>?_)
 exact zq537):a:=h
theorem zq727 (h:a:=by
 refine af rfl ?_ ?_<;>intro c72
 ·
  refine jN ?_
  refine aC (F:=F) (V:=V) (m:=m) [(b6,_)] rfl rfl (ab rfl rfl rfl rfl) (Ff hG turn deep h0 h1 (ih hdp.1 om) hK hdp) hW om rfl (fun v79 V79 hle79 hW79 hS79 hs79 ht79 hp79=>?_)
  obtain⟨rfl,hn79⟩:=hp79
  exact TL.nil (bn (bF (V':=V79) (X:=[(b6,_)]) (.inl rfl) (cq rfl) rfl rfl (hW79.more om) hS79 (by(try dsimp only);omega) (by(try dsimp only);omega) ⟨rfl,by(try dsimp only);omega⟩))
 exact zq728):a:=h
theorem zq504 (h:a:=by
 refine zm0 ?_
 refine TL.run (xY rfl rfl om om) rfl (TL.append (enc:=Str.cells) rfl rfl rfl hO41 (Src.sl (hL.sliced (j:=l.length) om (Nat.le_refl _))) (by simp;omega) rfl (.skip _ .all) rfl (fun a46 c46 ob46 hO46=>?_))
 refine em ?_
 refine TX.pubO hO46 (.skip _ .all) sq (fun H1 hle hR=>?_)
 exact aR (.inr rfl) (ad rfl (RVal.tmp rfl)) (by first | exact absurd q25 q11 | (rw [put_mid hI.2.2 hx (by simp [c18]) (by simpa using c32)];exact hR) | (rw [put_end hI.2.2 om];exact hR))):a:=h
theorem zq369 (h:a:=by
 refine a7 (decide (0<p.1)||decide (o.length=0)) 17 [(0,_),(2,_),(3,_),(4,_)] ky ?_ ?_
 ·
  refine jN ?_
  refine ag (s:=13) rfl ?_ ?_<;>intro g13
  ·
   have q13:=of_decide_eq_true g13
   refine iC ?_
   exact aB rfl (by first | exact dgo_1 g13 | exact dgo_2 g13) ky
  have q13:=of_decide_eq_false g13
  refine cv ?_;refine aw rfl rfl (bK rfl rfl hO) rfl (ef ?_)
  exact aB rfl (by first | exact dgo_1 g13 | exact dgo_2 g13) ky
 exact zq370):a:=h
theorem zq336 (h:a:=by
 refine gL ?_
 refine aA rfl rfl rfl rfl (fun b38=>?_)
 refine TL.append (enc:=STurn.cells) rfl rfl rfl hO (Src.own [⟨1,x.to,x.arms,x.ap⟩] (.here _) rfl rfl) (by simp;omega) rfl (.skip _ (.skip _ (.skip _ (.skip _ (.skip _ (.skip _ .all)))))) rfl (fun a39 c39 ob39 hO39=>?_)
 refine zm5 ?_;refine oI ?_;refine lo ?_
 exact ay (k+1) _ ob39 H ⟨o2q,hO39.cast (by rw [bv k0 hx];congr 2;first | exact(EX (by simp_all)).symm | exact(EY (by simp_all)).symm)⟩ ky (fun w hw=>hw.drop.drop.drop) om):a:=h
theorem zq1181 (h:a:=by
 refine af rfl ?_ ?_<;>intro c83
 · exact zq1182
 refine fN ?_;refine lg ?_
 refine TX.pubO hO3 (.skip _ (.skip _ (.skip _ .all))) sq (fun HC leC hRS=>?_)
 replace hRP:=hRP.le leC
 replace hRTm2:=hRTm2.le leC
 replace hQ:=hQ.le leC
 have hQe:=hPm3
 rw [aX c83 k03] at hQe
 exact aR (.inr rfl) (ad rfl (RVal.cellA rfl (.there _ (.here _)) rfl)) ⟨⟨q.name,q.params,(a16,c16),(eZ q).map (t6 q),(va,vc),P3,(va3,vc3)⟩,rfl,⟨hRP,hQ.pz,hQ.pl,hRTm2,CU hQ.tn,hRS,StAll.le hPA3 leC⟩,by unfold SProc.bare uo;simp only [hQe,ub (fun k hk=>hrg k hk)];rfl⟩):a:=h
theorem zq372 (h:a:=by
 refine aJ rfl rfl rfl rfl (fun b36=>?_)
 refine au rfl (TL.append (enc:=SArm.cells) rfl rfl rfl hO (Src.own [⟨lb,k31,nm31,r34⟩] (.here _) rfl rfl) (by have:=hI5;simp only [List.length_cons,List.length_nil];omega) rfl (.skip _ (.skip _ .all)) rfl (fun a37 c37 ob37 hO37=>?_))
 refine ax SN hle22 (zm6 ?_);refine wH ?_
 exact ay (p.1+1,at34) _ ob37 H22 ⟨o2q,hd34,hI3.trans hle22,_,hO37,by simp only [List.length_append,List.length_cons,List.length_nil];omega,hI6.snoc hI5 hc31 ⟨hra34,hrb34⟩ hlb⟩ ky (fun w hw=>hw.drop) om):a:=h
theorem zq1130 (h:a:=by
 refine aK (V:=fun k v ob H1=>[(9,.int .i64 k)]) (K:=[(1,_),(2,_),(3,_),(4,_),(5,_)]) (L:=fun k v ob H1=>St [] w0 H HPob ((b3,[gs q.name,.slice a16 (([]:List SParam)++q.params).length c16,v,.slice none 0 0])::(b2,[gs [],.slice none 0 0,.slice none 0 0,.slice none 0 0])::(b1,q.cells)::ob)) (I:=fun k v ob H1=>(0≤k∧k≤(eZ q).length)∧OwnSl 6 Term.cells v (((eZ q).take k.toNat).map (t6 q)) ob) (μ:=fun k=>((eZ q).length - k).toNat) 0 (.slice none 0 0) [] HPob ky ⟨o2q,OwnSl.nil⟩ (fun w hw=>hw) (fun k v ob H1 hI=>?_)
 exact zq1131):a:=h
theorem G3 (h:a:=by
 first
  | exact uS hx (by simp_all)
  | exact lY hx hg o0 o1
  | exact lY hx hg o0 (by first | exact ze c52_1 c54_1 | exact iQ c52_1 c54_1 | exact Di c52_1 g57_1 | exact Dh c52_1 g62_1 | exact je c52_1 g57_1 g62_1 (e1.trans (by simp_all)))
  | exact lY hx hg o0 (by first | exact ze c52_1 c54_1 | exact iQ c52_1 c54_1 | exact Di c52_1 g57_1 | exact Dh c52_1 g62_1 | exact je c52_1 g57_1 g62_1 (e2.trans (by simp_all)))
  | exact uT hx hg (by first | exact ze c52_0 c54_0 | exact iQ c52_0 c54_0 | exact Di c52_0 g57_0 | exact Dh c52_0 g62_0 | exact je c52_0 g57_0 g62_0 (e1.trans (by simp_all)))):a:=h
theorem zq275 (h:a:=by
 refine aK (V:=fun k v ob H1=>[(3,v),(34,.int .i64 k)]) (K:=[(2,_),(32,_),(33,_)]) (L:=fun k v ob H1=>St [] w0 H H ((b1,_)::ob)) (I:=fun k v ob H1=>(0≤k∧k≤s.casts.length)∧OwnSl 1 I64.cells v (kO s++(s.casts.take k.toNat).flatMap (·.args)) ob∧((s.casts.take k.toNat).flatMap (·.args)).length≤6 * k.toNat) (μ:=fun k=>(s.casts.length - k).toNat) 0 _ ob30 H ky ⟨o2q,hO30.cast (by first | (rw [yJ h8];simp) | (rw [yK c17 c21];simp) | (rw [mu h8 (.inr c21)];simp) | (rw [mu h8 (.inl c17)];simp)),by simp⟩ (fun w hw=>hw) (fun k v ob H1 hI=>?_)
 exact zq276):a:=h
theorem zq1094 (h:a:=by
 refine aK (V:=fun k v ob H1=>[(5,v),(6,.int .i64 k)]) (K:=[(1,_),(2,_),(3,_),(4,_)]) (L:=fun k v ob H1=>St [] w0 H H1 ((b3,[gs q.name,.slice a16 (([]:List SParam)++q.params).length c16,.slice none 0 0,.slice none 0 0])::(b2,[gs [],.slice none 0 0,.slice none 0 0,.slice none 0 0])::(b1,q.cells)::ob)) (I:=fun k v ob H1=>(0≤k∧k≤(dK q).length)∧HP19.le H1∧OwnSl 1 I64.cells v (((dK q).take k.toNat).flatMap (gT q)) ob) (μ:=fun k=>((dK q).length - k).toNat) 0 (.slice none 0 0) [] HP19 ky ⟨o2q,Hp.le.refl _,OwnSl.nil⟩ (fun w hw=>hw) (fun k v ob H1 hI=>?_)
 exact zq1095):a:=h
theorem zq764 (h:a:=by
 refine aC (F:=F) (V:={V with at_:=at35}) (m:=m) [(b6,_)] rfl rfl (ab rfl rfl rfl rfl) (tT hG turn r35 deep h0 h1 (fun t2 h2=>by rw [htx] at h2;cases h2;have:=hTt.a1 om om;have:=hr35.1;have:=hr35.2.1 om;omega) (ih hdp.1 om) hK hdp) (hW.dice (.refl _) hd35) om rfl (fun v37 V37 hle37 hW37 hS37 hs37 ht37 hp37=>?_)
 dsimp only at hle37 hS37 hs37 ht37 hp37
 obtain⟨rfl,hn37⟩:=hp37
 exact ax (S1 SN) hle37 (TF.nil (bn (bF (V':=V37) (X:=[(b6,_)]) (.inl rfl) (cq rfl) rfl rfl (hW37.more om) hS37 (by(try dsimp only);omega) (by(try dsimp only);omega) ⟨rfl,by(try dsimp only);omega⟩)))):a:=h
theorem zq1366 (h:a:=by
 refine aK (V:=fun m vj ob H2=>[(6,vj),(10,.int .i64 m)]) (K:=[(2,_),(4,_),(7,_),(8,_),(9,_),(34,_),(35,_),(36,_),(37,_),(40,_),(41,_),(42,_),(43,_),(44,_),(45,_),(46,_)]) (L:=fun m vj ob H2=>St [] w0 H H2 ((b5,s.cells)::(b2,q.cells)::[])) (I:=fun m vj ob H2=>(0≤m∧m≤(fI q.terms x).length)∧H46.le H2∧RdSl H2 1 Str.cells vj (((fI q.terms x).take m.toNat).foldl ja (lD q.terms s k.toNat))) (μ:=fun m=>((fI q.terms x).length - m).toNat) 0 _ [] H46 ky ⟨o2q,Hp.le.refl _,hV⟩ (fun w hw=>hw) (fun m vj ob H2 hI=>?_)
 exact zq1367):a:=h
theorem zq1384 (h:a:=by
 refine DV ?_;refine zm6 ?_
 refine iw (s:=31) rfl ?_ ?_<;>intro g31
 ·
  refine qN ?_;refine qN ?_;refine DU ?_;refine DT ?_;refine mm rfl rfl (aG rfl) rfl (iz ?_)
  refine iw (s:=40) rfl ?_ ?_<;>intro g40
  ·
   have q40:=of_decide_eq_true g40
   refine wv ?_
   refine eb rfl rfl (ab rfl rfl rfl rfl) (o7 hP hM) rfl (fun v42 H42 hle42 hp42=>?_)
   obtain⟨pg42,rfl,hP42,hB42⟩:=hp42
   replace hP:=hP.le hle42
   refine TF.back (wv ?_)
   refine eb rfl rfl (ab rfl rfl rfl rfl) (mL hP hz) rfl (fun v44 H44 hle44 hp44=>?_)
   exact yF
  have q40:=of_decide_eq_false g40
  exact absurd rfl q40
 exact absurd g31 dq):a:=h
theorem zq1394 (h:a:=by
 refine DV ?_;refine zm6 ?_
 refine iw (s:=31) rfl ?_ ?_<;>intro g31
 ·
  refine qN ?_;refine qN ?_;refine DU ?_;refine DT ?_;refine mm rfl rfl (aG rfl) rfl (iz ?_)
  refine iw (s:=40) rfl ?_ ?_<;>intro g40
  ·
   have q40:=of_decide_eq_true g40
   refine wv ?_
   refine eb rfl rfl (ab rfl rfl rfl rfl) (o7 hP25 hM) rfl (fun v42 H42 hle42 hp42=>?_)
   obtain⟨pg42,rfl,hP42,hB42⟩:=hp42
   replace hP25:=hP25.le hle42
   refine TF.back (wv ?_)
   refine eb rfl rfl (ab rfl rfl rfl rfl) (mL hP25 hz25) rfl (fun v44 H44 hle44 hp44=>?_)
   exact yF
  have q40:=of_decide_eq_false g40
  exact absurd rfl q40
 exact absurd g31 dq):a:=h
theorem zq1032 (h:a:=by
 have hr:eq l root=none:=by
  first
   | exact sm (.inl (of_decide_eq_true g14))
   | exact sm (.inr (.inl (of_decide_eq_true g18)))
   | exact sm (.inr (.inr c23))
   | exact pW hp0 hI.2.2.2.2 (tX hx c39 (by first | exact .inl (by simpa using g46) | exact .inr c52))
   | exact pW hp0 hI.2.2.2.2 ((f3 hx c39 hal h24).trans (xG om (oU (by first | exact .inl (of_decide_eq_true g78_0) | exact .inr (.inl (of_decide_eq_true g83_0)) | exact .inr (.inr c89_0)))))
   | exact pW hp0 hI.2.2.2.2 ((f3 hx c39 hal h24).trans (mt om o0 om (oU (by first | exact .inl (of_decide_eq_true g78_1) | exact .inr (.inl (of_decide_eq_true g83_1)) | exact .inr (.inr c89_1)))))
 rw [hr];rfl):a:=h
theorem zq1409 (h:a:=by
 refine DV ?_;refine zm6 ?_
 refine iw (s:=31) rfl ?_ ?_<;>intro g31
 ·
  refine qN ?_;refine qN ?_;refine DU ?_;refine DT ?_;refine mm rfl rfl (aG rfl) rfl (iz ?_)
  refine iw (s:=40) rfl ?_ ?_<;>intro g40
  ·
   have q40:=of_decide_eq_true g40
   refine mU rfl rfl (bA rfl (.here _) rfl) rfl (wv ?_)
   refine eb rfl rfl (ab rfl rfl rfl rfl) (o7 hP hM) rfl (fun v42 H42 hle42 hp42=>?_)
   obtain⟨pg42,rfl,hP42,hB42⟩:=hp42
   replace hP:=hP.le hle42
   refine TF.back (bB (eb rfl rfl (ab rfl rfl rfl rfl) (mL hP hz) rfl (fun v44 H44 hle44 hp44=>?_)))
   exact yF
  have q40:=of_decide_eq_false g40
  exact absurd rfl q40
 exact absurd g31 dq):a:=h
theorem zq1402 (h:a:=by
 refine DV ?_;refine zm6 ?_
 refine iw (s:=31) rfl ?_ ?_<;>intro g31
 ·
  refine qN ?_;refine qN ?_;refine DU ?_;refine DT ?_;refine mm rfl rfl (aG rfl) rfl (iz ?_)
  refine iw (s:=40) rfl ?_ ?_<;>intro g40
  ·
   have q40:=of_decide_eq_true g40
   refine mU rfl rfl (bA rfl (.here _) rfl) rfl (wv ?_)
   refine eb rfl rfl (ab rfl rfl rfl rfl) (o7 hP25 hM) rfl (fun v42 H42 hle42 hp42=>?_)
   obtain⟨pg42,rfl,hP42,hB42⟩:=hp42
   replace hP25:=hP25.le hle42
   refine TF.back (bB (eb rfl rfl (ab rfl rfl rfl rfl) (mL hP25 hz25) rfl (fun v44 H44 hle44 hp44=>?_)))
   exact yF
  have q40:=of_decide_eq_false g40
  exact absurd rfl q40
 exact absurd g31 dq):a:=h
theorem zq585 (h:a:=by
 refine af rfl ?_ ?_<;>intro c80
 · exact zq586
 refine oK ?_
 obtain⟨va,vc,hv⟩:=hq6.form
 rw [hv] at hq6 ⊢
 refine gL ?_;refine wo ?_;refine em ?_
 have hT:dI p role set (fu p set) (rows.map (·.l)) []=(q.arms,0,q.rows.map (·.l)):=by rw [← hq7,List.drop_eq_nil_of_le om];rfl
 have hE:bQ p role (rows.map (·.l)) set=(((dP p role set).1,(dP p role set).2.1,q.arms),0,q.rows.map (·.l)):=by unfold bQ;rw [if_neg om,if_neg h34,if_neg h48,if_neg om,if_neg h72,if_neg (by rw [hT];simp),hT]
 exact aZ (.inr rfl) (co rfl (RVal.cellA rfl (.there _ (.here _)) rfl) (RVal.tmp rfl)) (fun w hw=>hw.drop.drop) ⟨_,q.ob,q.rows,_,q.oa,rfl,hq3,hq4,hq5,by rw [hE],by rw [hE];exact hq6,by rw [hE];rfl⟩):a:=h
theorem zq1229 (h:a:=by
 refine zK ?_;refine ou ?_;refine pP (ab rfl rfl rfl rfl) (ic t.l hRT) rfl (zm4 ?_);refine pP (ab rfl rfl rfl rfl) (ic t.r hRT) rfl (au rfl (io ?_));refine xl ?_
 refine gV ?_;refine io ?_;refine kY ?_;refine wV ?_
 refine aA rfl rfl rfl rfl (fun b77=>?_)
 refine TL.append (enc:=Term.cells) rfl rfl rfl hO (Src.own [⟨t.kind,t.name,t.n,t.text,bE (eZ q) t.l,bE (eZ q) t.r⟩] (.here _) rfl rfl) (by simp;omega) rfl (.skip _ (.skip _ (.skip _ (.skip _ (.skip _ .all))))) rfl (fun a78 c78 ob78 hO78=>?_)
 refine rc ?_;refine nj ?_
 exact ay (k+1) _ ob78 HPob ⟨o2q,hO78.cast (by rw [bv k0 hx,show t6 q x=⟨t.kind,t.name,t.n,t.text,bE (eZ q) t.l,bE (eZ q) t.r⟩ by unfold t6 mvP;rw [getT_at ht]])⟩ ky (fun w hw=>hw.drop.drop) om):a:=h
theorem zq1371 (h:a:=by
 replace hA46:=hA46.le hle2
 refine fk ?_;refine TL.run (ah rfl rfl hA46) rfl (zm1 ?_)
 refine af rfl ?_ ?_<;>intro c50
 ·
  obtain⟨y,hy⟩:=aj (l:=fI q.terms x) m0 c50
  refine fi ?_;refine jN ?_
  refine TL.run (ae rfl hA46 rfl om om) rfl (TL.run (aL hA46 hy rfl rfl) rfl (TL.call (ab rfl rfl rfl rfl) (jW y hV2 om) rfl (fun v58 H58 hle58 hp58=>?_)))
  replace hle2:=hle2.trans hle58
  refine iW ?_
  exact ay (m+1) v58 [] H58 ⟨o2q,hle2,by rw [bi m0 hy,List.foldl_append];exact hp58⟩ ky (fun w hw=>hw) om
 refine kJ ?_
 exact ay (k+1) vj [] H2 ⟨o2q,hle,by rw [← CQ k0 hx,← aX c50 m0];exact hV2⟩ ky (fun w hw=>hw) om):a:=h
theorem zq1162 (h:a:=by
 refine aK (V:=fun(ix:Int×List SStep) v3 ob3 H3=>[(11,.int .i64 ix.1)]) (K:=[(1,_),(2,_),(3,_),(4,_),(5,_)]) (L:=fun(ix:Int×List SStep) v3 ob3 H3=>St [] w0 H H3 ((b3,[gs q.name,.slice a16 (([]:List SParam)++q.params).length c16,.slice va ((eZ q).map (t6 q)).length vc,v3])::(b2,[gs [],.slice none 0 0,.slice none 0 0,.slice none 0 0])::(b1,q.cells)::ob3)) (I:=fun(ix:Int×List SStep) v3 ob3 H3=>(0≤ix.1∧ix.1≤(dK q).length)∧HPob.le H3∧OwnSl 10 SStep.cells v3 ix.2 ob3∧ix.2.length=ix.1∧StAll H3 ix.2∧ix.2.map SStep.bare=((dK q).take ix.1.toNat).map (qc q)) (μ:=fun(ix:Int×List SStep)=>((dK q).length - ix.1).toNat) ((0:Int),[]) (.slice none 0 0) [] HPob ky ⟨o2q,Hp.le.refl _,OwnSl.nil,rfl,(fun _ h=>by cases h),rfl⟩ (fun w hw=>hw) (fun ix v3 ob3 H3 hI=>?_)
 exact zq1163):a:=h
theorem zq1273 (h:a:=by
 refine aK (V:=fun m v2 ob2 H2=>[(5,v2),(8,.int .i64 m)]) (K:=[(1,_),(2,_),(3,_),(4,_),(6,_),(7,_),(20,_),(21,_),(22,_),(23,_),(26,_),(27,_),(28,_),(29,_),(30,_),(31,_),(32,_),(33,_),(34,_)]) (L:=fun m v2 ob2 H2=>St [] w0 H H2 ((b3,[gs q.name,.slice a16 (([]:List SParam)++q.params).length c16,.slice none 0 0,.slice none 0 0])::(b2,[gs [],.slice none 0 0,.slice none 0 0,.slice none 0 0])::(b1,q.cells)::ob2)) (I:=fun m v2 ob2 H2=>(0≤m∧m≤(bV s).length)∧HP34.le H2∧OwnSl 1 I64.cells v2 (((dK q).take k.toNat).flatMap (gT q)++((bV s).take m.toNat).flatMap (bH q.terms)) ob2) (μ:=fun m=>((bV s).length - m).toNat) 0 _ ob HP34 ky ⟨o2q,Hp.le.refl _,hO.cast sq⟩ (fun w hw=>hw) (fun m v2 ob2 H2 hI=>?_)
 exact zq1274):a:=h
theorem zq571 (h:a:=by
 refine TC.loop (ι:=TQ1) (V:=fun q=>[(16,.int .i64 q.k)]) (K:=[(0,_),(1,_),(4,_),(5,_),(9,_),(15,_)]) (L:=fun q=>St M w0 H q.h ((b15,[.int .i64 (dP p role set).1,gs (dP p role set).2.1,q.v])::(b4,[.int .i64 0,gs [],.slice none 0 0])::(bw,WK p role q.sv)::(q.ob++q.oa))) (I:=fun q=>(0≤q.k∧q.k≤(fu p set).length)∧H40.le q.h∧OwnSl 1 GRow.cells q.sv q.rows q.ob∧GRowsOk q.h q.rows∧q.rows.length≤40∧OwnSl 4 SArm.cells q.v q.arms q.oa∧dI p role set ((fu p set).drop q.k.toNat) (q.rows.map (·.l)) q.arms=dI p role set (fu p set) (rows.map (·.l)) []∧(q.arms.length:Int)=q.k) (μ:=fun q=>((fu p set).length - q.k).toNat) (i:=⟨0,H40,_,ob,rows,.slice none 0 0,[],[]⟩) ky ⟨⟨by show(0:Int)≤0;omega,by show(0:Int)≤_;omega⟩,.refl _,hO,hrw,hrl,OwnSl.nil,rfl,rfl⟩ (fun w hw=>by rw [List.append_nil];exact hw) (fun q hI=>?_)
 exact zq572):a:=h
theorem zq284 (h:a:=by
 refine af rfl ?_ ?_<;>intro c35
 ·
  obtain⟨x,hx⟩:=aj (l:=s.casts) k0 c35
  have hxa:=hs.cs x (List.mem_of_getElem? hx)
  have hx6:=hl3 x (List.mem_of_getElem? hx)
  refine dv ?_;refine tK ?_;refine TL.run (aY hc hx rfl rfl) rfl (TL.alloc rfl (fun b5=>?_))
  refine AC ?_
  refine TL.append (enc:=I64.cells) rfl rfl rfl hO (Src.sl hxa) (by have hh:=qb s;simp only [List.length_append];omega) rfl (.skip _ (.skip _ .all)) rfl (fun a41 c41 ob41 hO41=>?_)
  refine oM ?_
  exact ay (k+1) _ ob41 H ⟨o2q,hO41.cast (by rw [bi k0 hx,List.flatMap_append];simp),by rw [bi k0 hx,List.flatMap_append,List.length_append];simp only [List.flatMap_cons,List.flatMap_nil,List.append_nil];omega⟩ ky (fun w hw=>hw.drop) om
 refine jA ?_
 exact cf (.inr rfl) (ad rfl (RVal.tmp rfl)) (.skip _ .all) ⟨rfl,hO.cast (by rw [aX c35 k0,pY])⟩):a:=h
theorem zq475 (h:a:=by
 refine aA rfl rfl rfl rfl (fun b85=>?_)
 refine TL.append (enc:=GRow.cells) rfl rfl rfl hO (Src.own [⟨(eO p role (dC p role frm)),(a29,c29)⟩] (.here _) rfl rfl) (by simp only [List.length_cons,List.length_nil];omega) rfl (.skip _ (.skip _ .all)) rfl (fun a86 c86 ob86 hO86=>?_)
 refine gr ?_;refine or ?_;refine jo ?_;refine TL.run (bR rfl) rfl (iN ?_);refine TL.run (bK rfl rfl hO86) rfl (zm466 ?_);refine gm ?_
 have hEq:=yi (sets:=rows.map (·.l)) hno (by rw [List.length_map];exact fun j hj=>hI2 j om)
 rw [List.length_map,if_neg om] at hEq
 exact aZ (.inr rfl) (co rfl (RVal.tmp rfl) (RVal.tmp rfl)) (fun w hw=>hw.drop) ⟨_,_,rows++[⟨(eO p role (dC p role frm)),(a29,c29)⟩],rfl,hO86,fun r hr=>by rcases List.mem_append.1 hr with hr | hr;exact hrw1 r hr;rw [List.mem_singleton.1 hr];exact hN1,by simp only [List.length_append,List.length_cons,List.length_nil];omega,by rw [hEq];simp,by rw [hEq]⟩):a:=h
theorem zq671 (h:a:=by
 refine zm3 ?_
 refine TL.alloc rfl (fun b12=>?_)
 refine ga ?_;refine kS ?_;refine eE ?_
 refine TC.cond rfl ?_ ?_<;>intro c72
 ·
  refine k9 ?_;refine wo ?_;refine em ?_;refine iy ?_
  have hE:bQ p role (rows.map (·.l)) set=((0,[],[]),804,rows.map (·.l)):=by unfold bQ;rw [if_neg om,if_neg h34,if_neg h48,if_neg om,if_pos (ce (p:=qC p set) k0 hlx (by simpa [qC] using c72) hal)]
  exact aZ (.inr rfl) (co rfl (RVal.cellA rfl (.there _ (.here _)) rfl) (RVal.tmp rfl)) (fun w hw=>by rw [List.append_nil];exact(St.dropT (A:=(bw,_)::ob) hw.drop.drop)) ⟨_,ob,rows,.slice none 0 0,[],rfl,hO,hrw,hrl,by rw [hE],by rw [hE];exact OwnSl.nil,by rw [hE];rfl⟩
 refine d6 ?_
 exact aD (k+1) ⟨o2q,bC (p:=qC p set) k0 hlx (by simpa [qC] using c72) hal⟩ ky (fun w hw=>St.dropT (A:=(b4,_)::(bw,_)::ob) hw.drop) om):a:=h
theorem zq293 (h:a:=by
 refine af rfl ?_ ?_<;>intro c35
 ·
  obtain⟨x,hx⟩:=aj (l:=s.casts) k0 c35
  have hxa:=hs.cs x (List.mem_of_getElem? hx)
  have hx6:=hl3 x (List.mem_of_getElem? hx)
  refine dv ?_;refine tK ?_;refine TL.run (aY hc hx rfl rfl) rfl (TL.alloc rfl (fun b5=>?_))
  refine AC ?_
  refine TL.append (enc:=I64.cells) rfl rfl rfl hO (Src.sl hxa) (by have hh:=qb s;simp only [List.length_append];omega) rfl (.skip _ (.skip _ (.skip _ .all))) rfl (fun a41 c41 ob41 hO41=>?_)
  refine oM ?_
  exact ay (k+1) _ ob41 H ⟨o2q,hO41.cast (by rw [bi k0 hx,List.flatMap_append];simp),by rw [bi k0 hx,List.flatMap_append,List.length_append];simp only [List.flatMap_cons,List.flatMap_nil,List.append_nil];omega⟩ ky (fun w hw=>hw.drop) om
 refine jA ?_
 exact cf (.inr rfl) (ad rfl (RVal.tmp rfl)) (.skip _ (.skip _ .all)) ⟨rfl,hO.cast (by rw [aX c35 k0,pY])⟩):a:=h
theorem zq476 (h:a:=by
 obtain⟨r,hrx⟩:=aj (l:=rows) m0 c60
 refine oN ?_;refine tr ?_;refine zm0 ?_;refine TL.run (bY rfl rfl hO om om) rfl (TL.run (eK (j:=0) rfl hO (.skip _ .all) hrx rfl) rfl (zm0 ?_))
 refine ar (ab rfl rfl rfl rfl) (uu (hrw1 r (List.mem_of_getElem? hrx)) hN1) rfl (TL.nil (ai (TC.cond rfl (fun c71=>?_) (fun c71=>?_))))
 ·
  refine nl ?_;refine iy ?_
  have hEq:=Gd (sets:=rows.map (·.l)) hno (k:=m.toNat) (by rw [List.getElem?_map,hrx];simpa using c71) hI2
  rw [show((m.toNat:Nat):Int)=m by omega] at hEq
  exact aZ (.inr rfl) (co rfl (RVal.tmp rfl) (RVal.tmp rfl)) (fun w hw=>hw) ⟨_,_,rows,rfl,hO,hrw1,hrl,by rw [hEq],by rw [hEq]⟩
 refine d6 ?_
 exact aD (m+1) ⟨o2q,fun j2 h2=>by by_cases e:j2<m.toNat;exact hI2 j2 e;rw [show j2=m.toNat by omega,List.getElem?_map,hrx];intro e2;exact absurd (by simpa using e2) (by simpa using c71)⟩ ky (fun w hw=>hw) om):a:=h
theorem zq356 (h:a:=by
 refine a7 (!decide (xB=[])&&bI bound xB) 74 [(3,_),(4,_),(6,_),(8,_),(15,_),(62,_),(63,_),(64,_),(65,_),(66,_),(67,_)] ky ?_ ?_
 ·
  refine jz ?_;refine ot ?_
  refine ag (s:=70) rfl ?_ ?_<;>intro g70
  ·
   have q70:=aQ g70
   refine eG ?_;refine aH rfl rfl (ab rfl rfl rfl rfl) (j4 xB hB) rfl (cu ?_)
   exact aB rfl (by simp_all) ky
  have q70:=aM g70
  refine iC ?_
  exact aB rfl (by simp_all) ky
 refine TC.cond rfl ?_ ?_<;>intro c74
 ·
  have h2:=ce (p:=(fun n=>!(!decide (n=[])&&bI bound n))) k0 hxB (by rw [c74];rfl) hal
  exact zF
 refine oh ?_
 exact aD (k+1) ⟨o2q,bC (p:=(fun n=>!(!decide (n=[])&&bI bound n))) k0 hxB (by rw [c74];rfl) hal⟩ ky (fun w hw=>hw) om):a:=h
theorem zq640 (h:a:=by
 refine aV rfl ?_ ?_<;>intro c101
 ·
  refine k9 ?_;refine zm0 ?_;refine cT rfl rfl rfl rfl rfl (.there _ (.there _ (.here _))) rfl rfl (em ?_);refine od ?_
  have hT:dI p role set (fu p set) (rows.map (·.l)) []=([],(bZ p role (q.rows.map (·.l)) (eQ p set lb).2.2.1).2.1,(bZ p role (q.rows.map (·.l)) (eQ p set lb).2.2.1).2.2):=by rw [← hq7];exact Fl hlx c101
  have hE:bQ p role (rows.map (·.l)) set=((0,[],[]),(bZ p role (q.rows.map (·.l)) (eQ p set lb).2.2.1).2.1,(bZ p role (q.rows.map (·.l)) (eQ p set lb).2.2.1).2.2):=by unfold bQ;rw [if_neg om,if_neg h34,if_neg h48,if_neg om,if_neg h72,if_pos (by rw [hT];exact c101),hT]
  exact aZ (.inr rfl) (co rfl (RVal.cellA rfl (.there _ (.there _ (.here _))) rfl) (RVal.tmp rfl)) (fun w hw=>by rw [List.append_nil];exact(St.dropT (A:=(bw,_)::ob97) hw.drop.drop.drop)) ⟨_,ob97,rows97,.slice none 0 0,[],rfl,hO97,hrw97,hrl97,by rw [hE];exact hm97,by rw [hE];exact OwnSl.nil,by rw [hE];rfl⟩
 exact zq641):a:=h
theorem zq685 (h:a:=by
 refine aV rfl ?_ ?_<;>intro c30
 ·
  refine dH ?_;refine zm3 ?_;refine em ?_;refine od ?_
  have hE:m9 p=((ek p rr).1,k):=by unfold m9;rw [if_neg (by rw [hRB];decide),← hI3,FT hrx c30,show((k.toNat:Nat):Int)=k by omega]
  exact aR (.inr rfl) (fT rfl (RVal.tmp rfl) (RVal.tmp rfl) (RVal.tmp rfl)) ⟨_,by rw [hE],fun h=>absurd h (by rw [hE];exact c30),fun _=>rfl⟩
 have hR2:=hRo (by simpa using c30)
 refine dn ?_;refine zY ?_
 refine aA rfl rfl rfl rfl (fun b35=>?_)
 refine TL.append (enc:=SLocal.cells) rfl rfl rfl hO (Src.own [⟨nm,ts,tp⟩] (.here _) rfl rfl) (by have:=hLs.len;simp only [List.length_cons,List.length_nil];omega) rfl (.skip _ (.skip _ (.skip _ .all))) rfl (fun a36 c36 ob36 hO36=>?_)
 refine iW ?_
 exact ay (k+1) _ ob36 H26 ⟨o2q,hI2.trans hle26,by rw [show(k+1).toNat=k.toNat+1 by omega,← C6 hrx (by simpa using c30)];exact hI3,_,hO36,(hLs.le hle26).snoc hrx hR2.1 hR2.2.1 hR2.2.2⟩ ky (fun w hw=>hw.drop.drop) om):a:=h
theorem zq651 (h:a:=by
 refine aO (S1 (S1 (S1 (S1 SN)))) (Hp.le.refl _) (fun _ _=>aL hlab3 hlx rfl rfl) rfl (D9 ?_);refine Af ?_
 refine aJ rfl rfl rfl rfl (fun b113=>?_)
 refine au rfl (TL.append (enc:=SArm.cells) rfl rfl rfl hq6 (Src.own [⟨lb,_,_,_⟩] (.here _) rfl rfl) (by simp only [List.length_cons,List.length_nil];omega) rfl (.skip _ (.skip _ (.skip _ (.skip _ (.skip _ (.past _ .all)))))) rfl (fun a114 c114 ob114 hO114=>?_))
 refine wA ?_;refine En ?_;refine TF.back (TF.nil (iX ?_))
 exact aD (⟨q.k+1,H97,sv97,ob97,rows97,_,ob114,q.arms++[⟨lb,(eQ p set lb).1,(eQ p set lb).2.1,(bZ p role (q.rows.map (·.l)) (eQ p set lb).2.2.1).1⟩]⟩:TQ1) ⟨⟨by show 0≤q.k+1;omega,by show q.k+1≤_;omega⟩,hq2.trans (leP90.trans hle97),hO97,hrw97,hrl97,hO114,by show dI p role set ((fu p set).drop (q.k+1).toNat) (rows97.map (·.l)) _=_;rw [hm97,show(q.k+1).toNat=q.k.toNat+1 by omega,← CR hlx (by simpa using c101)];exact hq7,by simp only [List.length_append,List.length_cons,List.length_nil];omega⟩ ky (fun w hw=>hw.drop.drop) (by show(_ - (q.k+1)).toNat<_;omega)):a:=h
theorem zq986 (h:a:=by
 refine kb (enc:=I64.cells) (t:=4) (X:=[]) (Y:=[(b11,_),(b8,_),(b4,_),(b15,_),(bd,_)]) [_,_] rfl hW67.bag rfl rfl rfl (by intro y hy;exact⟨⟨_,rfl⟩,trivial⟩) (fun Sb68 Bb68 hSb68 hNb68 hbb68 hBb68=>?_)
 refine zm3 ?_;refine ly ?_;refine zm1 ?_
 refine af rfl ?_ ?_<;>intro c73
 · exact absurd c73 c52
 refine zY ?_
 refine aC (F:=⟨b15,bd,.slice psa ps.length psc,ps,cL,.slice none 0 0,[],.slice none 0 0,[],0,dl⟩) (V:={V67 with S:=Sb68,B:=Bb68}) (m:=20 * k.toNat+12+1+1) [(b11,_),(b8,_),(b4,_)] rfl rfl (ab rfl rfl rfl rfl) (fR ⟨7,[],[],[],(p.name++rr), -1,some ⟨b68,0,none⟩,2,2,none,0,0,none,0,0, -1⟩ ⟨.nil,.nil,.nil,(hG.proc hrr),(SlT.blk hbb68 le2),.nil,.nil,(by have:=hW67.n10;dsimp only at *;omega),Nat.zero_le _,Nat.zero_le _⟩) (hW67.bagA hSb68 hNb68 hBb68) om rfl (fun v79 V79 hle79 hW79 hS79 hs79 ht79 hp79=>?_)
 dsimp only at hle79 hS79 hs79 ht79 hp79
 obtain⟨rfl,hn79⟩:=hp79
 refine nj ?_
 exact iU (k+1) V79 r (⟨hW79.more om,o2q,((((hI3.trans hle47).trans hle60).trans hle67).trans hle79),by omega⟩) ky (fun w hw=>hw.drop.drop) om):a:=h
theorem zq1007 (h:a:=by
 refine kb (enc:=I64.cells) (t:=4) (X:=[]) (Y:=[(b11,_),(b8,_),(b4,_),(b15,_),(bd,_)]) [_,_] rfl hW67.bag rfl rfl rfl (by intro y hy;exact⟨⟨_,rfl⟩,trivial⟩) (fun Sb68 Bb68 hSb68 hNb68 hbb68 hBb68=>?_)
 refine zm3 ?_;refine ly ?_;refine zm1 ?_
 refine af rfl ?_ ?_<;>intro c73
 ·
  refine zY ?_
  refine aC (F:=⟨b15,bd,.slice psa ps.length psc,ps,cL,.slice none 0 0,[],.slice none 0 0,[],0,dl⟩) (V:={V67 with S:=Sb68,B:=Bb68}) (m:=20 * k.toNat+12+1+1) [(b11,_),(b8,_),(b4,_)] rfl rfl (ab rfl rfl rfl rfl) (gt ⟨6,[],[],[],(p.name++rr), -1,some ⟨b68,0,none⟩,2,2,none,0,0,none,0,0, -1⟩ ⟨.nil,.nil,.nil,(hG.proc hrr),(SlT.blk hbb68 le2),.nil,.nil,(by have:=hW67.n10;dsimp only at *;omega),Nat.zero_le _,Nat.zero_le _⟩) (hW67.bagA hSb68 hNb68 hBb68) om rfl (fun v76 V76 hle76 hW76 hS76 hs76 ht76 hp76=>?_)
  dsimp only at hle76 hS76 hs76 ht76 hp76
  obtain⟨rfl,hn76⟩:=hp76
  refine nj ?_
  exact iU (k+1) V76 r (⟨hW76.more om,o2q,((((hI3.trans hle47).trans hle60).trans hle67).trans hle76),by omega⟩) ky (fun w hw=>hw.drop.drop) om
 exact absurd c52 c73):a:=h
theorem zq1200 (h:a:=by
 refine az (ae rfl hR19 rfl om om) rfl (aO (S1 (S1 (S1 SN))) (Hp.le.refl _) (fun _ _=>aL hR19 hk3 rfl rfl) rfl (az (ae rfl hQ.s rfl om om) rfl (aO (S1 (S1 (S1 SN))) (Hp.le.refl _) (fun _ _=>aY hQ.s hs rfl rfl) rfl ?_)))
 refine iz ?_;refine au rfl (TL.call (ab rfl rfl rfl rfl) (u9 s hsk hR19 hRT hsz) rfl (fun v98 H98 hle98 hp98=>?_))
 obtain⟨s98,rfl,hs98,hb98⟩:=hp98
 replace hle3:=hle3.trans hle98
 replace hPA3:=hPA3.le hle98
 have hbB98:SStep.bare s98=qc q x:=by rw [hb98];unfold qc getS;rw [hs];rfl
 refine ax (S1 (S1 (S1 SN))) hle98 (aJ rfl rfl rfl rfl (fun b99=>?_))
 refine au rfl (TL.append (enc:=SStep.cells) rfl rfl rfl hO3 (Src.own [s98] (.here _) rfl rfl) (by simp;omega) rfl (.skip _ (.skip _ (.skip _ (.skip _ .all)))) rfl (fun a100 c100 ob100 hO100=>?_))
 refine ax (S0 (S1 (S1 (S1 SN)))) hle98 (wQ ?_)
 exact ay (i:=(k3,P3)) (k3+1,P3++[s98]) _ ob100 H98 ⟨o2q,hle3,hO100,by simp only [List.length_append,List.length_cons,List.length_nil];omega,dG hPA3 hs98,Gc (f:=SStep.bare) (g:=qc q) k03 hk3 hPm3 hbB98⟩ ky (fun w hw=>hw.drop) om):a:=h
theorem zq1300 (h:a:=by
 refine qO ?_;refine iz ?_
 refine az (ae rfl hR34 rfl om om) rfl (aO (S1 (S1 (S1 SN))) (Hp.le.refl _) (fun _ _=>aL hR34 hy rfl rfl) rfl (au rfl (bD (ab rfl rfl rfl rfl) (u6 (y.toNat+1) y hQ.t (mJ hym) (by have:=mI hym;omega)) rfl (fun v48 H48 ob48 hle48 hp48=>?_))))
 have hO48:OwnSl 1 I64.cells v48 (bH q.terms y) ob48:=hp48
 obtain⟨a48,c48,rfl⟩:=hO48.form
 replace hle2:=hle2.trans hle48
 refine TL.pubO hO48 (.skip _ (.skip _ (.skip _ (.past _ .all)))) sq (fun HP48 leP48 hR48=>?_)
 refine aS (L':=(b3,_)::((b2,_)::((b1,_)::(ob2)))) (dV [(b3,_),(b2,_),(b1,_)] (A:=ob2)) ?_
 replace hle2:=hle2.trans leP48
 refine ax (S1 (S1 (S1 SN))) (hle48.trans (leP48)) (au rfl (TL.append (enc:=I64.cells) rfl rfl rfl hO2 (Src.sl hR48) (by simp only [List.length_append];omega) rfl (.skip _ (.skip _ (.skip _ .all))) rfl (fun a49 c49 ob49 hO49=>?_)))
 refine ax (S1 (S1 (S1 SN))) (hle48.trans (leP48)) (zm6 ?_);refine wH ?_
 exact ay (m+1) _ ob49 HP48 ⟨o2q,hle2,hO49.cast (by rw [bi m0 hy,List.flatMap_append];simp)⟩ ky (fun w hw=>hw) om):a:=h
theorem zq370 (h:a:=by
 refine TC.cond rfl ?_ ?_<;>intro c17
 ·
  have hgo:=dgo_T c17
  refine dn ?_;refine TC.block (el ?_);refine TL.run (hZ rfl rfl dq) rfl (zm0 ?_);refine TL.run (PR.to (d8 rfl) (congrArg (Value.int .u8) (Ji p.1))) rfl (aA rfl rfl rfl rfl (fun b22=>?_))
  refine zm0 ?_
  refine TL.append (enc:=U8.cells) rfl rfl rfl (OwnSl.blk (enc:=U8.cells) [UInt8.ofNat (48+p.1 % 10)] rfl rfl dq) (Src.og hO (.skip _ .all)) (by have:=hD.len;simp;omega) rfl (.take (.here _) rfl) rfl (fun a24 c24 ob24 hO24=>?_)
  refine zm1 ?_;refine jz ?_;refine TL.run (PR.to (IC rfl rfl dq) (congrArg (Value.int .u64) (dig_quo hD.lt))) rfl (cu ?_)
  exact bn (ay (p.1 / 10,0) _ ob24 H1 ⟨_,hO24,hD.next hgo⟩ ky (fun w hw=>hw.dropN) (hD.down hgo))
 have hend:=dgo_F c17
 refine fN ?_;refine nK ?_
 refine af rfl ?_ ?_<;>intro c28
 ·
  refine el ?_;refine TL.run (Bo rfl hO .all) rfl (TL.run (eR rfl rfl (by have:=hD.len;simp;omega)) rfl (sU ?_))
  exact ao (.inr rfl) (ad rfl (RVal.tmp rfl)) (congrArg gs (by first | exact Ci hD hend c28 | exact Ch hD hend c28))
 refine lm ?_;refine TL.run (Bo rfl hO .all) rfl (em ?_)
 exact ao (.inr rfl) (ad rfl (RVal.tmp rfl)) (congrArg gs (by first | exact Ci hD hend c28 | exact Ch hD hend c28))):a:=h
theorem zq691 (h:a:=by
 refine aC (F:=F) (V:={V54 with at_:=at60}) (m:=m+0+1) [(b10,_),(b8,_),(b5,_)] rfl rfl (ab rfl rfl rfl rfl) (fE _) (hW54.dice (.refl _) hd60) om rfl (fun v61 V61 hle61 hW61 hS61 hs61 ht61 hp61=>?_)
 dsimp only at hle61 hS61 hs61 ht61 hp61
 obtain⟨i61,rfl⟩:=hp61
 refine ax (S1 (S1 (S1 SN))) (hle54.trans (hle61)) (aJ rfl rfl rfl rfl (fun b62=>?_))
 refine DN ?_;refine kY ?_
 refine TC.region (kb (enc:=I64.cells) (t:=4) (X:=[]) (Y:=[(b10,_),(b8,_),(b5,_),(F.bw,_),(F.bd,_)]) [_,_] rfl hW61.bag rfl rfl rfl (by intro y hy;exact⟨⟨_,rfl⟩,trivial⟩) (fun Sb62 Bb62 hSb62 hNb62 hbb62 hBb62=>?_))
 refine zm0 ?_;refine gL ?_
 refine aC (F:=F) (V:={V61 with S:=Sb62,B:=Bb62}) (m:=m+0+1+1) [(b10,_),(b8,_),(b5,_)] rfl rfl (ab rfl rfl rfl rfl) (fR ⟨7,[],[],[],(p.name++rr), -1,some ⟨b62,0,none⟩,2,2,none,0,0,none,0,0, -1⟩ ⟨.nil,.nil,.nil,(hG.proc hrr),(SlT.blk hbb62 le2),.nil,.nil,(by have:=hW61.n10;dsimp only at *;omega),Nat.zero_le _,Nat.zero_le _⟩) (hW61.bagA hSb62 hNb62 hBb62) om rfl (fun v66 V66 hle66 hW66 hS66 hs66 ht66 hp66=>?_)
 dsimp only at hle66 hS66 hs66 ht66 hp66
 obtain⟨rfl,hn66⟩:=hp66
 exact TL.nil (bF (V':=V66) (X:=[(b10,_),(b8,_),(b5,_)]) (.inl rfl) (cq rfl) rfl rfl (hW66.more om) (hS44.trans (hS54.trans (hS61.trans (hSb62.trans (hS66))))) (by(try dsimp only);omega) (by(try dsimp only);omega) rfl)):a:=h
end Go.Sx
