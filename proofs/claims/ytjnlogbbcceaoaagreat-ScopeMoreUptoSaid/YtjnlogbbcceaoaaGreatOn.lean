import Derived.Test.YtjnlogbbcceaoaaGreatOm
set_option linter.all false
namespace Go.Sx
variable {a b : Prop}
theorem zq6 (h:a:=by exact TL.nil (zq7)):a:=h
theorem zq3 (h:a:=by exact TC.seq (zq4)):a:=h
theorem zq2 (h:a:=by exact TC.seq (zq3)):a:=h
theorem zq38 (h:a:=by exact TL.nil (zq39)):a:=h
theorem zq25 (h:a:=by exact TC.seq (zq26)):a:=h
theorem zq23 (h:a:=by exact TC.seq (zq24)):a:=h
theorem zq17 (h:a:=by exact TL.nil (zq18)):a:=h
theorem zq11 (h:a:=by exact TC.seq (zq12)):a:=h
theorem zq10 (h:a:=by exact TC.seq (zq11)):a:=h
theorem zq7 (h:a:=by exact ae (zq8)):a:=h
theorem zq1 (h:a:=by exact ae (zq2)):a:=h
theorem zq0 (h:a:=by exact TC.skip (zq1)):a:=h
theorem zq61 (h:a:=by exact TC.ret (zq41)):a:=h
theorem zq59 (h:a:=by exact TL.nil (zq60)):a:=h
theorem zq56 (h:a:=by exact TC.seq (zq57)):a:=h
theorem zq53 (h:a:=by exact TL.nil (zq54)):a:=h
theorem zq80 (h:a:=by exact TL.nil (zq81)):a:=h
theorem zq77 (h:a:=by exact TC.seq (zq78)):a:=h
theorem zq70 (h:a:=by exact TC.seq (zq71)):a:=h
theorem zq68 (h:a:=by exact TL.nil (zq69)):a:=h
theorem zq65 (h:a:=by exact TC.seq (zq66)):a:=h
theorem zq63 (h:a:=by exact ly (zq64)):a:=h
theorem zq96 (h:a:=by exact TC.ret (zq97)):a:=h
theorem zq94 (h:a:=by exact TL.nil (zq95)):a:=h
theorem zq91 (h:a:=by exact TC.seq (zq92)):a:=h
theorem zq88 (h:a:=by exact TL.nil (zq89)):a:=h
theorem zq120 (h:a:=by exact TC.ret (zq99)):a:=h
theorem zq39 (h:a:=by exact ae (zq40)):a:=h
theorem zq22 (h:a:=by exact ae (zq23)):a:=h
theorem zq21 (h:a:=by exact TC.skip (zq22)):a:=h
theorem zq18 (h:a:=by exact ae (zq19)):a:=h
theorem zq8 (h:a:=by exact TC.block (zq9)):a:=h
theorem zq60 (h:a:=by exact ae (zq61)):a:=h
theorem zq54 (h:a:=by exact ae (zq55)):a:=h
theorem zq76 (h:a:=by exact ae (zq77)):a:=h
theorem zq72 (h:a:=by exact TC.exit (zq73)):a:=h
theorem zq69 (h:a:=by exact ae (zq70)):a:=h
theorem zq64 (h:a:=by exact eO (zq65)):a:=h
theorem zq95 (h:a:=by exact ae (zq96)):a:=h
theorem zq89 (h:a:=by exact ae (zq90)):a:=h
theorem zq118 (h:a:=by exact TL.nil (zq119)):a:=h
theorem zq115 (h:a:=by exact TC.seq (zq116)):a:=h
theorem zq112 (h:a:=by exact TL.nil (zq113)):a:=h
theorem zq126 (h:a:=by exact TC.ret (zq127)):a:=h
theorem zq124 (h:a:=by exact TL.nil (zq125)):a:=h
theorem rg (h:a:=by exact TC.seq (zq122)):a:=h
theorem zq143 (h:a:=by exact TC.seq (zq144)):a:=h
theorem zq138 (h:a:=by exact TC.seq (zq139)):a:=h
theorem zq136 (h:a:=by exact TL.nil (zq137)):a:=h
theorem zq133 (h:a:=by exact TC.seq (zq134)):a:=h
theorem zq242 (h:a:=by exact TC.seq (zq243)):a:=h
theorem zq237 (h:a:=by exact TL.nil (zq238)):a:=h
theorem zq229 (h:a:=by exact TC.seq (zq230)):a:=h
theorem zq228 (h:a:=by exact TC.seq (zq229)):a:=h
theorem zq220 (h:a:=by exact TL.nil (zq221)):a:=h
theorem zq211 (h:a:=by exact TC.seq (zq212)):a:=h
theorem zq210 (h:a:=by exact TC.seq (zq211)):a:=h
theorem zq205 (h:a:=by exact TL.nil (zq206)):a:=h
theorem zq200 (h:a:=by exact TC.seq (zq201)):a:=h
theorem zq199 (h:a:=by exact TC.seq (zq200)):a:=h
theorem zq275 (h:a:=by exact TC.seq (zq276)):a:=h
theorem zq273 (h:a:=by exact TL.nil (zq274)):a:=h
theorem zq266 (h:a:=by exact TC.seq (zq267)):a:=h
theorem zq264 (h:a:=by exact TL.nil (zq265)):a:=h
theorem zq257 (h:a:=by exact TC.seq (zq258)):a:=h
theorem zq287 (h:a:=by exact TL.nil (zq288)):a:=h
theorem zq413 (h:a:=by exact TL.nil (zq414)):a:=h
theorem zq409 (h:a:=by exact TC.seq (zq410)):a:=h
theorem zq408 (h:a:=by exact TC.seq (zq409)):a:=h
theorem zq406 (h:a:=by exact TL.nil (zq407)):a:=h
theorem zq395 (h:a:=by exact TC.seq (zq396)):a:=h
theorem zq393 (h:a:=by exact TL.nil (zq394)):a:=h
theorem zq366 (h:a:=by exact TC.seq (zq367)):a:=h
theorem zq364 (h:a:=by exact TC.seq (zq365)):a:=h
theorem zq358 (h:a:=by exact TL.nil (zq359)):a:=h
theorem zq352 (h:a:=by exact TC.seq (zq353)):a:=h
theorem zq351 (h:a:=by exact TC.seq (zq352)):a:=h
theorem zq343 (h:a:=by exact TL.nil (zq344)):a:=h
theorem zq340 (h:a:=by exact TC.seq (zq341)):a:=h
theorem zq339 (h:a:=by exact TC.seq (zq340)):a:=h
theorem zq337 (h:a:=by exact TL.nil (zq338)):a:=h
theorem zq328 (h:a:=by exact TC.seq (zq329)):a:=h
theorem zq432 (h:a:=by exact TC.seq (zq433)):a:=h
theorem zq430 (h:a:=by exact TC.seq (zq431)):a:=h
theorem zq320 (h:a:=by exact TL.nil (zq321)):a:=h
theorem zq314 (h:a:=by exact TC.seq (zq315)):a:=h
theorem zq313 (h:a:=by exact TC.seq (zq314)):a:=h
theorem zq308 (h:a:=by exact TL.nil (zq309)):a:=h
theorem zq305 (h:a:=by exact TC.seq (zq306)):a:=h
theorem zq304 (h:a:=by exact TC.seq (zq305)):a:=h
theorem zq299 (h:a:=by exact TL.nil (zq300)):a:=h
theorem zq293 (h:a:=by exact TC.seq (zq294)):a:=h
theorem zq292 (h:a:=by exact TC.seq (zq293)):a:=h
theorem zq458 (h:a:=by exact TL.nil (zq459)):a:=h
theorem zq454 (h:a:=by exact TC.seq (zq455)):a:=h
theorem zq453 (h:a:=by exact TC.seq (zq454)):a:=h
theorem zq451 (h:a:=by exact TF.nil (zq452)):a:=h
theorem zq519 (h:a:=by exact TL.nil (zq520)):a:=h
theorem zq716 (h:a:=by exact TF.nil (zq717)):a:=h
theorem zq681 (h:a:=by exact TL.nil (zq682)):a:=h
theorem zq671 (h:a:=by exact TC.seq (zq672)):a:=h
theorem zq669 (h:a:=by exact TF.nil (zq670)):a:=h
theorem zq635 (h:a:=by exact TC.seq (zq636)):a:=h
theorem zq633 (h:a:=by exact TL.nil (zq634)):a:=h
theorem zq623 (h:a:=by exact TC.seq (zq624)):a:=h
theorem zq621 (h:a:=by exact TF.nil (zq622)):a:=h
theorem zq593 (h:a:=by exact TC.seq (zq594)):a:=h
theorem zq591 (h:a:=by exact TL.nil (zq592)):a:=h
theorem zq583 (h:a:=by exact TC.seq (zq584)):a:=h
theorem zq581 (h:a:=by exact TL.nil (zq582)):a:=h
theorem zq558 (h:a:=by exact TC.seq (zq559)):a:=h
theorem zq556 (h:a:=by exact TL.nil (zq557)):a:=h
theorem zq551 (h:a:=by exact TC.seq (zq552)):a:=h
theorem zq548 (h:a:=by exact TL.nil (zq549)):a:=h
theorem zq503 (h:a:=by exact TC.seq (zq504)):a:=h
theorem zq500 (h:a:=by exact TL.nil (zq501)):a:=h
theorem zq494 (h:a:=by exact TC.seq (zq495)):a:=h
theorem zq491 (h:a:=by exact TL.nil (zq492)):a:=h
theorem zq477 (h:a:=by exact TC.seq (zq478)):a:=h
theorem zq474 (h:a:=by exact TL.nil (zq475)):a:=h
theorem zq759 (h:a:=by exact TC.seq (zq760)):a:=h
theorem zq757 (h:a:=by exact TF.nil (zq758)):a:=h
theorem zq780 (h:a:=by exact TC.seq (zq781)):a:=h
theorem zq778 (h:a:=by exact TF.nil (zq779)):a:=h
theorem zq802 (h:a:=by exact TC.ret (zq803)):a:=h
theorem zq800 (h:a:=by exact TL.nil (zq801)):a:=h
theorem zq796 (h:a:=by exact TC.seq (zq797)):a:=h
theorem zq807 (h:a:=by exact TL.nil (zq795)):a:=h
theorem zq791 (h:a:=by exact TL.nil (zq792)):a:=h
theorem zq786 (h:a:=by exact TC.seq (zq787)):a:=h
theorem zq785 (h:a:=by exact TC.seq (zq786)):a:=h
theorem zq813 (h:a:=by exact TL.nil (zq783)):a:=h
theorem zq889 (h:a:=by exact TC.seq (zq890)):a:=h
theorem zq887 (h:a:=by exact TL.nil (zq888)):a:=h
theorem zq884 (h:a:=by exact TC.seq (zq885)):a:=h
theorem zq878 (h:a:=by exact TL.nil (zq879)):a:=h
theorem zq872 (h:a:=by exact TC.seq (zq873)):a:=h
theorem zq871 (h:a:=by exact TC.seq (zq872)):a:=h
theorem zq869 (h:a:=by exact TL.nil (zq870)):a:=h
theorem zq862 (h:a:=by exact TC.seq (zq863)):a:=h
theorem zq898 (h:a:=by exact TC.seq (zq899)):a:=h
theorem zq896 (h:a:=by exact TL.nil (zq897)):a:=h
theorem zq893 (h:a:=by exact TC.seq (zq894)):a:=h
theorem zq902 (h:a:=by exact TL.nil (zq903)):a:=h
theorem zq924 (h:a:=by exact TL.nil (zq925)):a:=h
theorem zq918 (h:a:=by exact TL.nil (zq919)):a:=h
theorem zq937 (h:a:=by exact TL.nil (zq938)):a:=h
theorem zq930 (h:a:=by exact TL.nil (zq931)):a:=h
theorem xQ (h:a:=by exact TC.seq (zq927)):a:=h
theorem zq947 (h:a:=by exact TL.nil (zq948)):a:=h
theorem rf (h:a:=by exact TC.seq (zq945)):a:=h
theorem zq960 (h:a:=by exact TL.nil (zq961)):a:=h
theorem zq955 (h:a:=by exact TC.seq (zq956)):a:=h
theorem zq953 (h:a:=by exact TC.seq (zq954)):a:=h
theorem zq970 (h:a:=by exact TF.nil (zq971)):a:=h
theorem zq41 (h:a:=by exact aC (zq20)):a:=h
theorem zq24 (h:a:=by exact TC.block (zq25)):a:=h
theorem zq4 (h:a:=by exact TC.region (zq5)):a:=h
theorem zq74 (h:a:=by exact bE (zq75)):a:=h
theorem zq73 (h:a:=by exact bE (zq74)):a:=h
theorem zq97 (h:a:=by exact aC (zq98)):a:=h
theorem zq102 (h:a:=by exact aY (zq103)):a:=h
theorem zq99 (h:a:=by exact aY (zq100)):a:=h
theorem zq119 (h:a:=by exact ae (zq120)):a:=h
theorem zq113 (h:a:=by exact ae (zq114)):a:=h
theorem zq131 (h:a:=by exact aC (zq82)):a:=h
theorem zq130 (h:a:=by exact aY (zq131)):a:=h
theorem zq127 (h:a:=by exact aY (zq128)):a:=h
theorem zq125 (h:a:=by exact ae (zq126)):a:=h
theorem zq137 (h:a:=by exact ae (zq138)):a:=h
theorem zq132 (h:a:=by exact ae (zq133)):a:=h
theorem zq241 (h:a:=by exact ae (zq242)):a:=h
theorem zq240 (h:a:=by exact TC.skip (zq241)):a:=h
theorem zq238 (h:a:=by exact ae (zq239)):a:=h
theorem zq227 (h:a:=by exact ae (zq228)):a:=h
theorem zq223 (h:a:=by exact TC.exit (zq224)):a:=h
theorem zq221 (h:a:=by exact ae (zq222)):a:=h
theorem zq206 (h:a:=by exact ae (zq207)):a:=h
theorem zq198 (h:a:=by exact ae (zq199)):a:=h
theorem zq194 (h:a:=by exact TC.exit (zq195)):a:=h
theorem zq274 (h:a:=by exact ae (zq275)):a:=h
theorem zq265 (h:a:=by exact ae (zq266)):a:=h
theorem zq256 (h:a:=by exact ae (zq257)):a:=h
theorem zq255 (h:a:=by exact TC.skip (zq256)):a:=h
theorem zq288 (h:a:=by exact ae (zq289)):a:=h
theorem zq417 (h:a:=by exact ae (zq418)):a:=h
theorem zq416 (h:a:=by exact TC.skip (zq417)):a:=h
theorem zq414 (h:a:=by exact ae (zq415)):a:=h
theorem zq407 (h:a:=by exact ae (zq408)):a:=h
theorem zq394 (h:a:=by exact ae (zq395)):a:=h
theorem zq363 (h:a:=by exact ae (zq364)):a:=h
theorem zq362 (h:a:=by exact TC.skip (zq363)):a:=h
theorem zq359 (h:a:=by exact ae (zq360)):a:=h
theorem zq344 (h:a:=by exact ae (zq345)):a:=h
theorem zq338 (h:a:=by exact ae (zq339)):a:=h
theorem zq327 (h:a:=by exact ae (zq328)):a:=h
theorem zq323 (h:a:=by exact TC.exit (zq324)):a:=h
theorem zq429 (h:a:=by exact ae (zq430)):a:=h
theorem zq428 (h:a:=by exact TC.skip (zq429)):a:=h
theorem zq321 (h:a:=by exact ae (zq322)):a:=h
theorem zq309 (h:a:=by exact ae (zq310)):a:=h
theorem zq303 (h:a:=by exact ae (zq304)):a:=h
theorem zq302 (h:a:=by exact TC.skip (zq303)):a:=h
theorem zq300 (h:a:=by exact ae (zq301)):a:=h
theorem zq291 (h:a:=by exact ae (zq292)):a:=h
theorem zq290 (h:a:=by exact TC.skip (zq291)):a:=h
theorem zq459 (h:a:=by exact ae (zq460)):a:=h
theorem zq452 (h:a:=by exact ae (zq453)):a:=h
theorem zq449 (h:a:=by exact TF.back (zq450)):a:=h
theorem zq447 (h:a:=by exact bn (zq448)):a:=h
theorem zq520 (h:a:=by exact ae (zq521)):a:=h
theorem zq717 (h:a:=by exact a8 (zq718)):a:=h
theorem zq682 (h:a:=by exact ae (zq683)):a:=h
theorem zq670 (h:a:=by exact ae (zq671)):a:=h
theorem zq634 (h:a:=by exact ae (zq635)):a:=h
theorem zq622 (h:a:=by exact ae (zq623)):a:=h
theorem zq592 (h:a:=by exact ae (zq593)):a:=h
theorem zq582 (h:a:=by exact ae (zq583)):a:=h
theorem zq557 (h:a:=by exact ae (zq558)):a:=h
theorem zq549 (h:a:=by exact ae (zq550)):a:=h
theorem zq501 (h:a:=by exact ae (zq502)):a:=h
theorem zq492 (h:a:=by exact ae (zq493)):a:=h
theorem zq475 (h:a:=by exact ae (zq476)):a:=h
theorem zq758 (h:a:=by exact ae (zq759)):a:=h
theorem zq756 (h:a:=by exact TF.back (zq757)):a:=h
theorem zq754 (h:a:=by exact bn (zq755)):a:=h
theorem zq779 (h:a:=by exact ae (zq780)):a:=h
theorem zq777 (h:a:=by exact TF.back (zq778)):a:=h
theorem zq775 (h:a:=by exact bn (zq776)):a:=h
theorem zq801 (h:a:=by exact ae (zq802)):a:=h
theorem zq795 (h:a:=by exact ae (zq796)):a:=h
theorem zq794 (h:a:=by exact TC.skip (zq795)):a:=h
theorem zq792 (h:a:=by exact ae (zq793)):a:=h
theorem zq784 (h:a:=by exact ae (zq785)):a:=h
theorem zq783 (h:a:=by exact a8 (zq784)):a:=h
theorem mF (h:a:=by exact aY (vj)):a:=h
theorem zq888 (h:a:=by exact ae (zq889)):a:=h
theorem zq879 (h:a:=by exact ae (zq880)):a:=h
theorem zq870 (h:a:=by exact ae (zq871)):a:=h
theorem zq861 (h:a:=by exact ae (zq862)):a:=h
theorem zq860 (h:a:=by exact a8 (zq861)):a:=h
theorem zq859 (h:a:=by exact TC.skip (zq860)):a:=h
theorem zq897 (h:a:=by exact ae (zq898)):a:=h
theorem zq904 (h:a:=by exact ae (zq905)):a:=h
theorem zq903 (h:a:=by exact a8 (zq904)):a:=h
theorem zq920 (h:a:=by exact ae (zq921)):a:=h
theorem zq919 (h:a:=by exact a8 (zq920)):a:=h
theorem zq938 (h:a:=by exact ae (zq939)):a:=h
theorem zq931 (h:a:=by exact ae (zq932)):a:=h
theorem zq961 (h:a:=by exact ae (zq962)):a:=h
theorem zq952 (h:a:=by exact ae (zq953)):a:=h
theorem zq951 (h:a:=by exact TC.skip (zq952)):a:=h
theorem zq1085 (h:a:=by exact TC.seq (zq1086)):a:=h
theorem zq1083 (h:a:=by exact TL.nil (zq1084)):a:=h
theorem zq1073 (h:a:=by exact TC.seq (zq1074)):a:=h
theorem zq1061 (h:a:=by exact TF.nil (zq1062)):a:=h
theorem zq1044 (h:a:=by exact TC.seq (zq1045)):a:=h
theorem zq1042 (h:a:=by exact TL.nil (zq1043)):a:=h
theorem zq1037 (h:a:=by exact TC.seq (zq1038)):a:=h
theorem zq1029 (h:a:=by exact TL.nil (zq1030)):a:=h
theorem zq1018 (h:a:=by exact TC.seq (zq1019)):a:=h
theorem zq1017 (h:a:=by exact TC.seq (zq1018)):a:=h
theorem zq969 (h:a:=by exact TF.back (zq970)):a:=h
theorem zq967 (h:a:=by exact bn (zq968)):a:=h
theorem zq26 (h:a:=by exact TC.region (zq27)):a:=h
theorem zq12 (h:a:=by exact TC.region (zq13)):a:=h
theorem zq57 (h:a:=by exact TC.region (zq58)):a:=h
theorem zq78 (h:a:=by exact TC.region (zq79)):a:=h
theorem zq75 (h:a:=by exact cL (zq76)):a:=h
theorem zq66 (h:a:=by exact TC.region (zq67)):a:=h
theorem zq92 (h:a:=by exact TC.region (zq93)):a:=h
theorem zq103 (h:a:=by exact aC (zq104)):a:=h
theorem zq101 (h:a:=by exact aC (zq102)):a:=h
theorem zq100 (h:a:=by exact aC (zq101)):a:=h
theorem zq129 (h:a:=by exact aC (zq130)):a:=h
theorem zq128 (h:a:=by exact aC (zq129)):a:=h
theorem zq139 (h:a:=by exact TC.block (zq140)):a:=h
theorem zq225 (h:a:=by exact bE (zq226)):a:=h
theorem zq224 (h:a:=by exact bE (zq225)):a:=h
theorem zq207 (h:a:=by exact TC.block (zq208)):a:=h
theorem zq196 (h:a:=by exact bE (zq197)):a:=h
theorem zq195 (h:a:=by exact bE (zq196)):a:=h
theorem zq377 (h:a:=by
 subst eH90
 exact zq378):a:=h
theorem zq365 (h:a:=by exact TC.block (zq366)):a:=h
theorem zq345 (h:a:=by exact TC.block (zq346)):a:=h
theorem zq325 (h:a:=by exact bE (zq326)):a:=h
theorem zq324 (h:a:=by exact bE (zq325)):a:=h
theorem zq443 (h:a:=by
 subst eH67
 exact zq444):a:=h
theorem zq431 (h:a:=by exact TC.block (zq432)):a:=h
theorem zq310 (h:a:=by exact TC.block (zq311)):a:=h
theorem zq819 (h:a:=by exact aC (zq816)):a:=h
theorem vj (h:a:=by exact aC (xS)):a:=h
theorem zq880 (h:a:=by exact TC.block (zq881)):a:=h
theorem re (h:a:=by exact aC (xP)):a:=h
theorem zq954 (h:a:=by exact TC.block (zq955)):a:=h
theorem zq1084 (h:a:=by exact ae (zq1085)):a:=h
theorem zq1072 (h:a:=by exact ae (zq1073)):a:=h
theorem zq1060 (h:a:=by exact TF.back (zq1061)):a:=h
theorem zq1058 (h:a:=by exact bn (zq1059)):a:=h
theorem zq1043 (h:a:=by exact ae (zq1044)):a:=h
theorem zq1036 (h:a:=by exact ae (zq1037)):a:=h
theorem zq1035 (h:a:=by exact TC.skip (zq1036)):a:=h
theorem zq1030 (h:a:=by exact ae (zq1031)):a:=h
theorem zq1016 (h:a:=by exact ae (zq1017)):a:=h
theorem zq5 (h:a:=by
 refine zm0 ?_
 exact zq6):a:=h
theorem zq116 (h:a:=by exact TC.region (zq117)):a:=h
theorem zq122 (h:a:=by exact TC.region (zq123)):a:=h
theorem zq134 (h:a:=by exact TC.region (zq135)):a:=h
theorem zq243 (h:a:=by exact TC.region (zq244)):a:=h
theorem zq230 (h:a:=by exact TC.region (zq231)):a:=h
theorem zq226 (h:a:=by exact cL (zq227)):a:=h
theorem zq212 (h:a:=by exact TC.region (zq213)):a:=h
theorem zq201 (h:a:=by exact TC.region (zq202)):a:=h
theorem zq197 (h:a:=by exact cL (zq198)):a:=h
theorem zq276 (h:a:=by exact TC.region (zq277)):a:=h
theorem zq267 (h:a:=by exact TC.region (zq268)):a:=h
theorem zq258 (h:a:=by exact TC.region (zq259)):a:=h
theorem zq410 (h:a:=by exact TC.region (zq411)):a:=h
theorem zq396 (h:a:=by exact TC.region (zq397)):a:=h
theorem zq367 (h:a:=by exact TC.region (zq368)):a:=h
theorem zq353 (h:a:=by exact TC.region (zq354)):a:=h
theorem zq341 (h:a:=by exact TC.region (zq342)):a:=h
theorem zq329 (h:a:=by exact TC.region (zq330)):a:=h
theorem zq326 (h:a:=by exact cL (zq327)):a:=h
theorem zq433 (h:a:=by exact TC.region (zq434)):a:=h
theorem zq315 (h:a:=by exact TC.region (zq316)):a:=h
theorem zq306 (h:a:=by exact TC.region (zq307)):a:=h
theorem zq294 (h:a:=by exact TC.region (zq295)):a:=h
theorem zq455 (h:a:=by exact TC.region (zq456)):a:=h
theorem zq672 (h:a:=by exact TC.region (zq673)):a:=h
theorem zq624 (h:a:=by exact TC.region (zq625)):a:=h
theorem zq584 (h:a:=by exact TC.region (zq585)):a:=h
theorem zq559 (h:a:=by exact TC.region (zq560)):a:=h
theorem zq552 (h:a:=by exact TC.region (zq553)):a:=h
theorem zq504 (h:a:=by exact TC.region (zq505)):a:=h
theorem zq495 (h:a:=by exact TC.region (zq496)):a:=h
theorem zq738 (h:a:=by exact TC.region (zq739)):a:=h
theorem zq478 (h:a:=by exact TC.region (zq479)):a:=h
theorem zq760 (h:a:=by exact TC.region (zq761)):a:=h
theorem zq781 (h:a:=by exact TC.region (zq782)):a:=h
theorem zq797 (h:a:=by exact TC.region (zq798)):a:=h
theorem zq804 (h:a:=by exact TC.region (zq805)):a:=h
theorem zq787 (h:a:=by exact TC.region (zq788)):a:=h
theorem xV (h:a:=by exact TC.region (zq809)):a:=h
theorem zq885 (h:a:=by exact TC.region (zq886)):a:=h
theorem zq873 (h:a:=by exact TC.region (zq874)):a:=h
theorem zq863 (h:a:=by exact TC.region (zq864)):a:=h
theorem zq894 (h:a:=by exact TC.region (zq895)):a:=h
theorem zq921 (h:a:=by exact TC.region (zq922)):a:=h
theorem zq939 (h:a:=by exact TC.region (zq940)):a:=h
theorem zq932 (h:a:=by exact TC.region (zq933)):a:=h
theorem zq927 (h:a:=by exact TC.region (zq928)):a:=h
theorem zq945 (h:a:=by exact TC.region (zq946)):a:=h
theorem zq956 (h:a:=by exact TC.region (zq957)):a:=h
theorem zq1094 (h:a:=by
 subst hp54
 exact zq1095):a:=h
theorem zq1080 (h:a:=by
 subst hp52
 exact zq1081):a:=h
theorem zq1026 (h:a:=by
 subst hp35
 exact zq1027):a:=h
theorem zq37 (h:a:=by
 refine zm0 ?_
 exact zq38):a:=h
theorem zq33 (h:a:=by
 refine zm0 ?_
 exact zq34):a:=h
theorem zq32 (h:a:=by
 refine zm0 ?_
 exact zq33):a:=h
theorem zq29 (h:a:=by
 refine zm0 ?_
 exact zq30):a:=h
theorem zq28 (h:a:=by
 refine zm0 ?_
 exact zq29):a:=h
theorem zq16 (h:a:=by
 refine zm0 ?_
 exact zq17):a:=h
theorem zq14 (h:a:=by
 refine zm0 ?_
 exact zq15):a:=h
theorem zq13 (h:a:=by
 refine zm0 ?_
 exact zq14):a:=h
theorem zq58 (h:a:=by
 refine zm0 ?_
 exact zq59):a:=h
theorem zq52 (h:a:=by
 refine zm0 ?_
 exact zq53):a:=h
theorem zq51 (h:a:=by
 refine zm9 ?_
 exact zq52):a:=h
theorem zq50 (h:a:=by
 refine zm9 ?_
 exact zq51):a:=h
theorem zq49 (h:a:=by
 refine zm0 ?_
 exact zq50):a:=h
theorem zq48 (h:a:=by
 refine zm0 ?_
 exact zq49):a:=h
theorem zq47 (h:a:=by
 refine zm9 ?_
 exact zq48):a:=h
theorem zq46 (h:a:=by
 refine zm9 ?_
 exact zq47):a:=h
theorem zq45 (h:a:=by
 refine zm9 ?_
 exact zq46):a:=h
theorem zq44 (h:a:=by
 refine zm9 ?_
 exact zq45):a:=h
theorem zq79 (h:a:=by
 refine zm0 ?_
 exact zq80):a:=h
theorem zq67 (h:a:=by
 refine zm0 ?_
 exact zq68):a:=h
theorem zq93 (h:a:=by
 refine zm0 ?_
 exact zq94):a:=h
theorem zq87 (h:a:=by
 refine zm0 ?_
 exact zq88):a:=h
theorem zq86 (h:a:=by
 refine zm9 ?_
 exact zq87):a:=h
theorem zq85 (h:a:=by
 refine zm9 ?_
 exact zq86):a:=h
theorem zq84 (h:a:=by
 refine zm9 ?_
 exact zq85):a:=h
theorem zq1074 (h:a:=by exact TC.region (zq1075)):a:=h
theorem zq1038 (h:a:=by exact TC.region (zq1039)):a:=h
theorem zq1019 (h:a:=by exact TC.region (zq1020)):a:=h
theorem zq36 (h:a:=by
 refine cg ?_
 exact zq37):a:=h
theorem zq55 (h:a:=by exact cD rfl (zq56)):a:=h
theorem zq43 (h:a:=by
 refine gI ?_
 exact zq44):a:=h
theorem zq71 (h:a:=by exact dR rfl (zq72)):a:=h
theorem zq90 (h:a:=by exact cD rfl (zq91)):a:=h
theorem zq117 (h:a:=by
 refine zm0 ?_
 exact zq118):a:=h
theorem zq111 (h:a:=by
 refine zm0 ?_
 exact zq112):a:=h
theorem zq110 (h:a:=by
 refine zm9 ?_
 exact zq111):a:=h
theorem zq109 (h:a:=by
 refine zm9 ?_
 exact zq110):a:=h
theorem zq108 (h:a:=by
 refine zm9 ?_
 exact zq109):a:=h
theorem zq107 (h:a:=by
 refine zm9 ?_
 exact zq108):a:=h
theorem zq106 (h:a:=by
 refine zm9 ?_
 exact zq107):a:=h
theorem vm (h:a:=by
 refine zm9 ?_
 exact zq106):a:=h
theorem zq123 (h:a:=by
 refine zm0 ?_
 exact zq124):a:=h
theorem zq135 (h:a:=by
 refine zm0 ?_
 exact zq136):a:=h
theorem zq152 (h:a:=by
 refine zm6 ?_
 exact zq153):a:=h
theorem zq151 (h:a:=by
 refine zm6 ?_
 exact zq152):a:=h
theorem zq175 (h:a:=by
 refine zm6 ?_
 exact zq176):a:=h
theorem zq174 (h:a:=by
 refine zm6 ?_
 exact zq175):a:=h
theorem zq249 (h:a:=by
 refine zm0 ?_
 exact zq250):a:=h
theorem zq247 (h:a:=by
 refine zm8 ?_
 exact zq248):a:=h
theorem zq245 (h:a:=by
 refine zm0 ?_
 exact zq246):a:=h
theorem zq244 (h:a:=by
 refine zm0 ?_
 exact zq245):a:=h
theorem zq236 (h:a:=by
 refine zm0 ?_
 exact zq237):a:=h
theorem zq233 (h:a:=by
 refine zm8 ?_
 exact zq234):a:=h
theorem zq231 (h:a:=by
 refine zm0 ?_
 exact zq232):a:=h
theorem zq219 (h:a:=by
 refine zm0 ?_
 exact zq220):a:=h
theorem zq216 (h:a:=by
 refine zm8 ?_
 exact zq217):a:=h
theorem zq214 (h:a:=by
 refine zm0 ?_
 exact zq215):a:=h
theorem zq213 (h:a:=by
 refine zm0 ?_
 exact zq214):a:=h
theorem zq204 (h:a:=by
 refine zm0 ?_
 exact zq205):a:=h
theorem zq278 (h:a:=by
 refine zm0 ?_
 exact zq279):a:=h
theorem zq277 (h:a:=by
 refine zm0 ?_
 exact zq278):a:=h
theorem zq272 (h:a:=by
 refine zm0 ?_
 exact zq273):a:=h
theorem zq269 (h:a:=by
 refine zm0 ?_
 exact zq270):a:=h
theorem zq268 (h:a:=by
 refine zm0 ?_
 exact zq269):a:=h
theorem zq263 (h:a:=by
 refine zm0 ?_
 exact zq264):a:=h
theorem zq260 (h:a:=by
 refine zm0 ?_
 exact zq261):a:=h
theorem zq259 (h:a:=by
 refine zm0 ?_
 exact zq260):a:=h
theorem zq253 (h:a:=by
 refine zm9 ?_
 exact zq254):a:=h
theorem zq286 (h:a:=by
 refine zm0 ?_
 exact zq287):a:=h
theorem zq424 (h:a:=by
 refine zm6 ?_
 exact zq425):a:=h
theorem zq423 (h:a:=by
 refine zm6 ?_
 exact zq424):a:=h
theorem zq421 (h:a:=by
 refine zm3 ?_
 exact zq422):a:=h
theorem zq412 (h:a:=by
 refine zm0 ?_
 exact zq413):a:=h
theorem zq411 (h:a:=by
 refine zm0 ?_
 exact zq412):a:=h
theorem zq405 (h:a:=by
 refine zm0 ?_
 exact zq406):a:=h
theorem zq404 (h:a:=by
 refine zm0 ?_
 exact zq405):a:=h
theorem zq403 (h:a:=by
 refine zm0 ?_
 exact zq404):a:=h
theorem zq402 (h:a:=by
 refine zm0 ?_
 exact zq403):a:=h
theorem zq401 (h:a:=by
 refine zm0 ?_
 exact zq402):a:=h
theorem zq398 (h:a:=by
 refine zm0 ?_
 exact zq399):a:=h
theorem zq397 (h:a:=by
 refine zm0 ?_
 exact zq398):a:=h
theorem zq392 (h:a:=by
 refine zm0 ?_
 exact zq393):a:=h
theorem zq391 (h:a:=by
 refine zm0 ?_
 exact zq392):a:=h
theorem zq388 (h:a:=by
 refine zm0 ?_
 exact zq389):a:=h
theorem zq387 (h:a:=by
 refine zm0 ?_
 exact zq388):a:=h
theorem zq386 (h:a:=by
 refine zm0 ?_
 exact zq387):a:=h
theorem zq385 (h:a:=by
 refine zm0 ?_
 exact zq386):a:=h
theorem zq371 (h:a:=by
 refine zm0 ?_
 exact zq372):a:=h
theorem zq370 (h:a:=by
 refine zm0 ?_
 exact zq371):a:=h
theorem zq369 (h:a:=by
 refine zm0 ?_
 exact zq370):a:=h
theorem zq368 (h:a:=by
 refine zm0 ?_
 exact zq369):a:=h
theorem zq357 (h:a:=by
 refine zm0 ?_
 exact zq358):a:=h
theorem zq355 (h:a:=by
 refine zm0 ?_
 exact zq356):a:=h
theorem zq354 (h:a:=by
 refine zm0 ?_
 exact zq355):a:=h
theorem zq342 (h:a:=by
 refine zm0 ?_
 exact zq343):a:=h
theorem zq333 (h:a:=by
 refine zm0 ?_
 exact zq334):a:=h
theorem zq332 (h:a:=by
 refine zm0 ?_
 exact zq333):a:=h
theorem zq445 (h:a:=by
 refine zm0 ?_
 exact zq446):a:=h
theorem zq444 (h:a:=by
 refine zm0 ?_
 exact zq445):a:=h
theorem zq437 (h:a:=by
 refine zm0 ?_
 exact zq438):a:=h
theorem zq436 (h:a:=by
 refine zm0 ?_
 exact zq437):a:=h
theorem zq435 (h:a:=by
 refine zm0 ?_
 exact zq436):a:=h
theorem zq434 (h:a:=by
 refine zm0 ?_
 exact zq435):a:=h
theorem zq319 (h:a:=by
 refine zm0 ?_
 exact zq320):a:=h
theorem zq317 (h:a:=by
 refine zm0 ?_
 exact zq318):a:=h
theorem zq316 (h:a:=by
 refine zm0 ?_
 exact zq317):a:=h
theorem zq307 (h:a:=by
 refine zm0 ?_
 exact zq308):a:=h
theorem zq298 (h:a:=by
 refine zm0 ?_
 exact zq299):a:=h
theorem zq296 (h:a:=by
 refine zm0 ?_
 exact zq297):a:=h
theorem zq457 (h:a:=by
 refine zm0 ?_
 exact zq458):a:=h
theorem zq456 (h:a:=by
 refine zm0 ?_
 exact zq457):a:=h
theorem zq450 (h:a:=by
 refine zm6 ?_
 exact zq451):a:=h
theorem zq533 (h:a:=by
 refine zm6 ?_
 exact zq534):a:=h
theorem zq530 (h:a:=by
 refine zm3 ?_
 exact zq531):a:=h
theorem zq528 (h:a:=by
 refine zm3 ?_
 exact zq529):a:=h
theorem zq526 (h:a:=by
 refine zm6 ?_
 exact zq527):a:=h
theorem zq525 (h:a:=by
 refine zm6 ?_
 exact zq526):a:=h
theorem zq524 (h:a:=by
 refine zm6 ?_
 exact zq525):a:=h
theorem zq518 (h:a:=by
 refine zm0 ?_
 exact zq519):a:=h
theorem zq517 (h:a:=by
 refine zm0 ?_
 exact zq518):a:=h
theorem zq516 (h:a:=by
 refine zm9 ?_
 exact zq517):a:=h
theorem zq515 (h:a:=by
 refine zm9 ?_
 exact zq516):a:=h
theorem zq514 (h:a:=by
 refine zm9 ?_
 exact zq515):a:=h
theorem zq513 (h:a:=by
 refine zm9 ?_
 exact zq514):a:=h
theorem zq512 (h:a:=by
 refine zm9 ?_
 exact zq513):a:=h
theorem zq712 (h:a:=by
 refine zm3 ?_
 exact zq713):a:=h
theorem zq704 (h:a:=by
 refine zm6 ?_
 exact zq705):a:=h
theorem zq702 (h:a:=by
 refine zm3 ?_
 exact zq703):a:=h
theorem zq700 (h:a:=by
 refine zm6 ?_
 exact zq701):a:=h
theorem zq698 (h:a:=by
 refine zm3 ?_
 exact zq699):a:=h
theorem zq697 (h:a:=by
 refine zm3 ?_
 exact zq698):a:=h
theorem zq695 (h:a:=by
 refine zm6 ?_
 exact zq696):a:=h
theorem zq694 (h:a:=by
 refine zm6 ?_
 exact zq695):a:=h
theorem zq692 (h:a:=by
 refine zm3 ?_
 exact zq693):a:=h
theorem zq691 (h:a:=by
 refine zm3 ?_
 exact zq692):a:=h
theorem zq689 (h:a:=by
 refine zm6 ?_
 exact zq690):a:=h
theorem zq680 (h:a:=by
 refine zm0 ?_
 exact zq681):a:=h
theorem zq676 (h:a:=by
 refine zm0 ?_
 exact zq677):a:=h
theorem zq675 (h:a:=by
 refine zm0 ?_
 exact zq676):a:=h
theorem zq674 (h:a:=by
 refine zm0 ?_
 exact zq675):a:=h
theorem zq673 (h:a:=by
 refine zm0 ?_
 exact zq674):a:=h
theorem zq665 (h:a:=by
 refine zm3 ?_
 exact zq666):a:=h
theorem zq657 (h:a:=by
 refine zm6 ?_
 exact zq658):a:=h
theorem zq655 (h:a:=by
 refine zm3 ?_
 exact zq656):a:=h
theorem zq653 (h:a:=by
 refine zm6 ?_
 exact zq654):a:=h
theorem zq651 (h:a:=by
 refine zm3 ?_
 exact zq652):a:=h
theorem zq650 (h:a:=by
 refine zm3 ?_
 exact zq651):a:=h
theorem zq648 (h:a:=by
 refine zm6 ?_
 exact zq649):a:=h
theorem zq647 (h:a:=by
 refine zm6 ?_
 exact zq648):a:=h
theorem zq645 (h:a:=by
 refine zm3 ?_
 exact zq646):a:=h
theorem zq644 (h:a:=by
 refine zm3 ?_
 exact zq645):a:=h
theorem zq642 (h:a:=by
 refine zm6 ?_
 exact zq643):a:=h
theorem zq632 (h:a:=by
 refine zm0 ?_
 exact zq633):a:=h
theorem zq628 (h:a:=by
 refine zm0 ?_
 exact zq629):a:=h
theorem zq627 (h:a:=by
 refine zm0 ?_
 exact zq628):a:=h
theorem zq626 (h:a:=by
 refine zm0 ?_
 exact zq627):a:=h
theorem zq625 (h:a:=by
 refine zm0 ?_
 exact zq626):a:=h
theorem zq620 (h:a:=by
 refine zm6 ?_
 exact zq621):a:=h
theorem zq619 (h:a:=by
 refine zm6 ?_
 exact zq620):a:=h
theorem zq607 (h:a:=by
 refine zm3 ?_
 exact zq608):a:=h
theorem zq606 (h:a:=by
 refine zm3 ?_
 exact zq607):a:=h
theorem zq604 (h:a:=by
 refine zm6 ?_
 exact zq605):a:=h
theorem zq601 (h:a:=by
 refine zm3 ?_
 exact zq602):a:=h
theorem zq599 (h:a:=by
 refine zm3 ?_
 exact zq600):a:=h
theorem zq597 (h:a:=by
 refine zm6 ?_
 exact zq598):a:=h
theorem zq731 (h:a:=by
 refine zm3 ?_
 exact zq732):a:=h
theorem zq729 (h:a:=by
 refine zm3 ?_
 exact zq730):a:=h
theorem zq727 (h:a:=by
 refine zm6 ?_
 exact zq728):a:=h
theorem zq724 (h:a:=by
 refine zm3 ?_
 exact zq725):a:=h
theorem zq722 (h:a:=by
 refine zm3 ?_
 exact zq723):a:=h
theorem zq720 (h:a:=by
 refine zm6 ?_
 exact zq721):a:=h
theorem zq590 (h:a:=by
 refine zm0 ?_
 exact zq591):a:=h
theorem zq585 (h:a:=by
 refine zm0 ?_
 exact zq586):a:=h
theorem zq579 (h:a:=by
 refine zm8 ?_
 exact zq580):a:=h
theorem zq572 (h:a:=by
 refine zm0 ?_
 exact zq573):a:=h
theorem zq564 (h:a:=by
 refine zm8 ?_
 exact zq565):a:=h
theorem zq562 (h:a:=by
 refine zm0 ?_
 exact zq563):a:=h
theorem zq561 (h:a:=by
 refine zm0 ?_
 exact zq562):a:=h
theorem zq560 (h:a:=by
 refine zm0 ?_
 exact zq561):a:=h
theorem zq547 (h:a:=by
 refine zm0 ?_
 exact zq548):a:=h
theorem zq546 (h:a:=by
 refine zm0 ?_
 exact zq547):a:=h
theorem zq509 (h:a:=by
 refine zm0 ?_
 exact zq510):a:=h
theorem zq508 (h:a:=by
 refine zm0 ?_
 exact zq509):a:=h
theorem zq505 (h:a:=by
 refine zm8 ?_
 exact zq506):a:=h
theorem zq499 (h:a:=by
 refine zm0 ?_
 exact zq500):a:=h
theorem zq498 (h:a:=by
 refine zm0 ?_
 exact zq499):a:=h
theorem zq496 (h:a:=by
 refine zm8 ?_
 exact zq497):a:=h
theorem zq739 (h:a:=by
 refine zm0 ?_
 exact zq740):a:=h
theorem zq490 (h:a:=by
 refine zm0 ?_
 exact zq491):a:=h
theorem zq489 (h:a:=by
 refine zm0 ?_
 exact zq490):a:=h
theorem zq484 (h:a:=by
 refine zm0 ?_
 exact zq485):a:=h
theorem zq483 (h:a:=by
 refine zm0 ?_
 exact zq484):a:=h
theorem zq481 (h:a:=by
 refine zm8 ?_
 exact zq482):a:=h
theorem zq479 (h:a:=by
 refine zm0 ?_
 exact zq480):a:=h
theorem zq473 (h:a:=by
 refine zm0 ?_
 exact zq474):a:=h
theorem zq472 (h:a:=by
 refine zm0 ?_
 exact zq473):a:=h
theorem zq471 (h:a:=by
 refine zm9 ?_
 exact zq472):a:=h
theorem zq470 (h:a:=by
 refine zm9 ?_
 exact zq471):a:=h
theorem zq469 (h:a:=by
 refine zm9 ?_
 exact zq470):a:=h
theorem zq468 (h:a:=by
 refine zm9 ?_
 exact zq469):a:=h
theorem zq467 (h:a:=by
 refine zm9 ?_
 exact zq468):a:=h
theorem zq753 (h:a:=by
 refine zm3 ?_
 exact zq754):a:=h
theorem zq774 (h:a:=by
 refine zm3 ?_
 exact zq775):a:=h
theorem zq805 (h:a:=by
 refine zm8 ?_
 exact zq806):a:=h
theorem zq788 (h:a:=by
 refine zm8 ?_
 exact zq789):a:=h
theorem xU (h:a:=by
 refine zm8 ?_
 exact zq812):a:=h
theorem zq809 (h:a:=by
 refine zm8 ?_
 exact zq810):a:=h
theorem xT (h:a:=by
 refine zm8 ?_
 exact zq815):a:=h
theorem mG (h:a:=by
 refine zm0 ?_
 exact zq818):a:=h
theorem zq855 (h:a:=by
 refine zm0 ?_
 exact zq856):a:=h
theorem zq854 (h:a:=by
 refine zm0 ?_
 exact zq855):a:=h
theorem zq853 (h:a:=by
 refine zm9 ?_
 exact zq854):a:=h
theorem zq852 (h:a:=by
 refine zm9 ?_
 exact zq853):a:=h
theorem zq851 (h:a:=by
 refine zm9 ?_
 exact zq852):a:=h
theorem zq850 (h:a:=by
 refine zm9 ?_
 exact zq851):a:=h
theorem zq849 (h:a:=by
 refine zm0 ?_
 exact zq850):a:=h
theorem zq848 (h:a:=by
 refine zm0 ?_
 exact zq849):a:=h
theorem zq847 (h:a:=by
 refine zm9 ?_
 exact zq848):a:=h
theorem zq846 (h:a:=by
 refine zm9 ?_
 exact zq847):a:=h
theorem zq845 (h:a:=by
 refine zm9 ?_
 exact zq846):a:=h
theorem zq844 (h:a:=by
 refine zm9 ?_
 exact zq845):a:=h
theorem zq843 (h:a:=by
 refine zm0 ?_
 exact zq844):a:=h
theorem zq842 (h:a:=by
 refine zm0 ?_
 exact zq843):a:=h
theorem zq841 (h:a:=by
 refine zm9 ?_
 exact zq842):a:=h
theorem zq840 (h:a:=by
 refine zm9 ?_
 exact zq841):a:=h
theorem zq839 (h:a:=by
 refine zm9 ?_
 exact zq840):a:=h
theorem zq838 (h:a:=by
 refine zm0 ?_
 exact zq839):a:=h
theorem zq837 (h:a:=by
 refine zm0 ?_
 exact zq838):a:=h
theorem zq836 (h:a:=by
 refine zm9 ?_
 exact zq837):a:=h
theorem zq835 (h:a:=by
 refine zm9 ?_
 exact zq836):a:=h
theorem xR (h:a:=by
 refine zm9 ?_
 exact zq835):a:=h
theorem zq886 (h:a:=by
 refine zm0 ?_
 exact zq887):a:=h
theorem zq877 (h:a:=by
 refine zm0 ?_
 exact zq878):a:=h
theorem zq874 (h:a:=by
 refine zm8 ?_
 exact zq875):a:=h
theorem zq868 (h:a:=by
 refine zm0 ?_
 exact zq869):a:=h
theorem zq865 (h:a:=by
 refine zm8 ?_
 exact zq866):a:=h
theorem zq864 (h:a:=by
 refine zm0 ?_
 exact zq865):a:=h
theorem zq895 (h:a:=by
 refine zm0 ?_
 exact zq896):a:=h
theorem vi (h:a:=by
 refine zm8 ?_
 exact zq901):a:=h
theorem zq923 (h:a:=by
 refine zm0 ?_
 exact zq924):a:=h
theorem zq916 (h:a:=by
 refine zm8 ?_
 exact zq917):a:=h
theorem zq911 (h:a:=by
 refine zm8 ?_
 exact zq912):a:=h
theorem zq940 (h:a:=by
 refine zm8 ?_
 exact zq941):a:=h
theorem zq935 (h:a:=by
 refine zm8 ?_
 exact zq936):a:=h
theorem zq933 (h:a:=by
 refine zm8 ?_
 exact zq934):a:=h
theorem zq928 (h:a:=by
 refine zm8 ?_
 exact zq929):a:=h
theorem zq946 (h:a:=by
 refine zm0 ?_
 exact zq947):a:=h
theorem zq959 (h:a:=by
 refine zm0 ?_
 exact zq960):a:=h
theorem zq966 (h:a:=by
 refine zm3 ?_
 exact zq967):a:=h
theorem zq114 (h:a:=by exact cD rfl (zq115)):a:=h
theorem xX (h:a:=by
 refine dj ?_
 exact zq147):a:=h
theorem zq170 (h:a:=by exact ak rfl (zq171)):a:=h
theorem zq156 (h:a:=by exact ak rfl (zq157)):a:=h
theorem zq179 (h:a:=by exact ak rfl (zq180)):a:=h
theorem xW (h:a:=by
 refine d3 ?_
 exact zq149):a:=h
theorem zq248 (h:a:=by
 refine jb ?_
 exact zq249):a:=h
theorem zq234 (h:a:=by
 refine jb ?_
 exact zq235):a:=h
theorem zq217 (h:a:=by
 refine jb ?_
 exact zq218):a:=h
theorem zq285 (h:a:=by
 refine kP ?_
 exact zq286):a:=h
theorem zq284 (h:a:=by
 refine cg ?_
 exact zq285):a:=h
theorem zq281 (h:a:=by
 refine cg ?_
 exact zq282):a:=h
theorem zq280 (h:a:=by
 refine cg ?_
 exact zq281):a:=h
theorem zq418 (h:a:=by
 refine d3 ?_
 exact zq419):a:=h
theorem zq390 (h:a:=by
 refine gD ?_
 exact zq391):a:=h
theorem zq336 (h:a:=by
 refine gD ?_
 exact zq337):a:=h
theorem zq334 (h:a:=by
 refine cE ?_
 exact zq335):a:=h
theorem zq448 (h:a:=by
 refine gD ?_
 exact zq449):a:=h
theorem zq465 (h:a:=by exact ak rfl (zq466)):a:=h
theorem zq461 (h:a:=by exact ak rfl (zq462)):a:=h
theorem zq538 (h:a:=by exact ak rfl (zq539)):a:=h
theorem zq534 (h:a:=by exact ak rfl (zq535)):a:=h
theorem zq522 (h:a:=by
 refine d3 ?_
 exact zq523):a:=h
theorem zq521 (h:a:=by exact dR rfl (zq522)):a:=h
theorem zq713 (h:a:=by exact ak rfl (zq714)):a:=h
theorem zq707 (h:a:=by exact ak rfl (zq708)):a:=h
theorem zq705 (h:a:=by
 refine dj ?_
 exact zq706):a:=h
theorem zq683 (h:a:=by
 refine d3 ?_
 exact zq684):a:=h
theorem zq666 (h:a:=by exact ak rfl (zq667)):a:=h
theorem zq660 (h:a:=by exact ak rfl (zq661)):a:=h
theorem zq658 (h:a:=by
 refine dj ?_
 exact zq659):a:=h
theorem zq636 (h:a:=by
 refine d3 ?_
 exact zq637):a:=h
theorem zq615 (h:a:=by exact ak rfl (zq616)):a:=h
theorem zq610 (h:a:=by exact ak rfl (zq611)):a:=h
theorem zq734 (h:a:=by exact ak rfl (zq735)):a:=h
theorem zq594 (h:a:=by
 refine d3 ?_
 exact zq595):a:=h
theorem zq586 (h:a:=by
 refine eE ?_
 exact zq587):a:=h
theorem zq580 (h:a:=by
 refine mg ?_
 exact zq581):a:=h
theorem zq555 (h:a:=by
 refine gD ?_
 exact zq556):a:=h
theorem zq545 (h:a:=by
 refine cg ?_
 exact zq546):a:=h
theorem zq543 (h:a:=by
 refine ia ?_
 exact zq544):a:=h
theorem zq541 (h:a:=by
 refine cg ?_
 exact zq542):a:=h
theorem zq506 (h:a:=by
 refine jb ?_
 exact zq507):a:=h
theorem zq497 (h:a:=by
 refine jb ?_
 exact zq498):a:=h
theorem zq488 (h:a:=by
 refine cg ?_
 exact zq489):a:=h
theorem zq487 (h:a:=by
 refine cg ?_
 exact zq488):a:=h
theorem zq476 (h:a:=by exact dR rfl (zq477)):a:=h
theorem zq755 (h:a:=by
 refine jM ?_
 exact zq756):a:=h
theorem zq747 (h:a:=by exact ak rfl (zq748)):a:=h
theorem zq741 (h:a:=by exact ak rfl (zq742)):a:=h
theorem zq776 (h:a:=by
 refine jM ?_
 exact zq777):a:=h
theorem zq768 (h:a:=by exact ak rfl (zq769)):a:=h
theorem zq762 (h:a:=by exact ak rfl (zq763)):a:=h
theorem zq799 (h:a:=by
 refine gD ?_
 exact zq800):a:=h
theorem zq798 (h:a:=by
 refine kS ?_
 exact zq799):a:=h
theorem zq806 (h:a:=by
 refine jM ?_
 exact zq807):a:=h
theorem zq812 (h:a:=by
 refine jM ?_
 exact zq813):a:=h
theorem zq810 (h:a:=by
 refine jM ?_
 exact xU):a:=h
theorem zq815 (h:a:=by
 refine jM ?_
 exact zq809):a:=h
theorem zq828 (h:a:=by
 refine cg ?_
 exact zq829):a:=h
theorem zq827 (h:a:=by
 refine kP ?_
 exact zq828):a:=h
theorem zq825 (h:a:=by
 refine ia ?_
 exact zq826):a:=h
theorem zq823 (h:a:=by
 refine cg ?_
 exact zq824):a:=h
theorem zq822 (h:a:=by
 refine kP ?_
 exact zq823):a:=h
theorem zq820 (h:a:=by
 refine ia ?_
 exact zq821):a:=h
theorem je (h:a:=by
 refine dv ?_
 exact mF):a:=h
theorem zq875 (h:a:=by
 refine jb ?_
 exact zq876):a:=h
theorem zq866 (h:a:=by
 refine jb ?_
 exact zq867):a:=h
theorem zq922 (h:a:=by
 refine jq ?_
 exact zq923):a:=h
theorem zq913 (h:a:=by
 refine eE ?_
 exact zq914):a:=h
theorem zq936 (h:a:=by
 refine mg ?_
 exact zq937):a:=h
theorem zq929 (h:a:=by
 refine mg ?_
 exact zq930):a:=h
theorem zq1115 (h:a:=by
 refine zm6 ?_
 exact zq1116):a:=h
theorem zq1114 (h:a:=by
 refine zm6 ?_
 exact zq1115):a:=h
theorem zq1106 (h:a:=by
 refine zm6 ?_
 exact zq1107):a:=h
theorem zq1105 (h:a:=by
 refine zm6 ?_
 exact zq1106):a:=h
theorem zq1097 (h:a:=by
 refine zm6 ?_
 exact zq1098):a:=h
theorem zq1071 (h:a:=by
 clear hTq hTe
 exact zq1072):a:=h
theorem zq1057 (h:a:=by
 refine zm3 ?_
 exact zq1058):a:=h
theorem zq1049 (h:a:=by
 refine zm3 ?_
 exact zq1050):a:=h
theorem zq1047 (h:a:=by
 refine zm3 ?_
 exact zq1048):a:=h
theorem zq1028 (h:a:=by
 refine zm0 ?_
 exact zq1029):a:=h
theorem zq968 (h:a:=by
 refine jM ?_
 exact zq969):a:=h
theorem zq963 (h:a:=by exact ak rfl (zq964)):a:=h
theorem zq203 (h:a:=by
 have hN1:=hB2
 exact zq204):a:=h
theorem zq261 (h:a:=by
 refine r9 ?_
 exact zq262):a:=h
theorem zq531 (h:a:=by
 refine rP ?_
 exact zq532):a:=h
theorem zq715 (h:a:=by
 refine lJ ?_
 exact zq716):a:=h
theorem zq710 (h:a:=by
 refine lJ ?_
 exact zq711):a:=h
theorem zq699 (h:a:=by
 refine vo ?_
 exact zq700):a:=h
theorem zq693 (h:a:=by
 refine vo ?_
 exact zq694):a:=h
theorem zq684 (h:a:=by
 refine zm324 ?_
 exact zq685):a:=h
theorem zq668 (h:a:=by
 refine o5 ?_
 exact zq669):a:=h
theorem zq663 (h:a:=by
 refine o5 ?_
 exact zq664):a:=h
theorem zq652 (h:a:=by
 refine yf ?_
 exact zq653):a:=h
theorem zq646 (h:a:=by
 refine yf ?_
 exact zq647):a:=h
theorem zq637 (h:a:=by
 refine zm358 ?_
 exact zq638):a:=h
theorem zq614 (h:a:=by
 refine mW ?_
 exact zq615):a:=h
theorem zq608 (h:a:=by
 refine o8 ?_
 exact zq609):a:=h
theorem zq602 (h:a:=by
 refine o8 ?_
 exact zq603):a:=h
theorem zq600 (h:a:=by
 refine mW ?_
 exact zq601):a:=h
theorem zq596 (h:a:=by
 refine zm359 ?_
 exact zq597):a:=h
theorem zq732 (h:a:=by
 refine o8 ?_
 exact zq733):a:=h
theorem zq730 (h:a:=by
 refine mW ?_
 exact zq731):a:=h
theorem zq725 (h:a:=by
 refine o8 ?_
 exact zq726):a:=h
theorem zq723 (h:a:=by
 refine mW ?_
 exact zq724):a:=h
theorem zq719 (h:a:=by
 refine zm360 ?_
 exact zq720):a:=h
theorem zq565 (h:a:=by
 refine jT ?_
 exact zq566):a:=h
theorem zq901 (h:a:=by
 refine j5 ?_
 exact zq902):a:=h
theorem zq917 (h:a:=by
 refine j5 ?_
 exact zq918):a:=h
theorem zq912 (h:a:=by
 refine jT ?_
 exact zq913):a:=h
theorem zq908 (h:a:=by
 rw [hC2] at hz4
 exact zq909):a:=h
theorem zq941 (h:a:=by
 refine jT ?_
 exact zq942):a:=h
theorem zq1090 (h:a:=by exact ak rfl (zq1091)):a:=h
theorem zq1089 (h:a:=by
 refine dj ?_
 exact zq1090):a:=h
theorem zq1086 (h:a:=by
 refine d3 ?_
 exact zq1087):a:=h
theorem zq1082 (h:a:=by
 refine gD ?_
 exact zq1083):a:=h
theorem zq1075 (h:a:=by
 refine eE ?_
 exact zq1076):a:=h
theorem zq1059 (h:a:=by
 refine mg ?_
 exact zq1060):a:=h
theorem zq1054 (h:a:=by exact ak rfl (zq1055)):a:=h
theorem zq1051 (h:a:=by exact ak rfl (zq1052)):a:=h
theorem zq1045 (h:a:=by
 refine d3 ?_
 exact zq1046):a:=h
theorem zq1041 (h:a:=by
 refine gD ?_
 exact zq1042):a:=h
theorem zq1039 (h:a:=by
 refine eE ?_
 exact zq1040):a:=h
theorem zq984 (h:a:=by
 refine pq ?_
 exact zq985):a:=h
theorem zq971 (h:a:=by
 refine rV ?_
 exact zq972):a:=h
theorem zq1087 (h:a:=by
 refine zm362 ?_
 exact zq1088):a:=h
theorem zq1050 (h:a:=by
 refine vo ?_
 exact zq1051):a:=h
theorem zq81 (h:a:=by exact ae (TC.ret (zq82))):a:=h
theorem zq169 (h:a:=by
 have hlb29:=hp29
 exact zq170):a:=h
theorem zq155 (h:a:=by
 have hla24:=hp24
 exact zq156):a:=h
theorem zq192 (h:a:=by
 have hlb29:=hp29
 exact zq193):a:=h
theorem zq178 (h:a:=by
 have hla24:=hp24
 exact zq179):a:=h
theorem zq160 (h:a:=by
 have hra26:=hr26.1
 exact zq161):a:=h
theorem zq183 (h:a:=by
 have hra26:=hr26.1
 exact zq184):a:=h
theorem zq381 (h:a:=by
 rw [List.append_nil]
 exact zq382):a:=h
theorem zq744 (h:a:=by
 have hra66:=hr66.1
 exact zq745):a:=h
theorem zq765 (h:a:=by
 have hra66:=hr66.1
 exact zq766):a:=h
theorem zq349 (h:a:=by
 have hf2:=hf.le hq2
 exact zq350):a:=h
theorem zq348 (h:a:=by
 have hp2:=hp.le hq2
 exact zq349):a:=h
theorem zq688 (h:a:=by
 have hnbw18:=hW154.nb
 exact zq689):a:=h
theorem zq641 (h:a:=by
 have hnbw16:=hW128.nb
 exact zq642):a:=h
theorem zq910 (h:a:=by
 rw [hC2,← hs2b] at hT2
 exact zq911):a:=h
theorem zq141 (h:a:=by
 obtain⟨o,hO,hD⟩:=hI
 exact zq142):a:=h
theorem zq154 (h:a:=by
 replace hd:=hd.le hle24
 exact zq155):a:=h
theorem zq177 (h:a:=by
 replace hd:=hd.le hle24
 exact zq178):a:=h
theorem zq246 (h:a:=by exact TL.run (bC rfl) rfl (zq247)):a:=h
theorem zq232 (h:a:=by exact TL.run (bC rfl) rfl (zq233)):a:=h
theorem zq215 (h:a:=by exact TL.run (bC rfl) rfl (zq216)):a:=h
theorem zq376 (h:a:=by
 replace eH90:=eH90.symm
 exact zq377):a:=h
theorem zq350 (h:a:=by
 have hlab2:=hlab.le hq2
 exact zq351):a:=h
theorem zq442 (h:a:=by
 replace eH67:=eH67.symm
 exact zq443):a:=h
theorem zq709 (h:a:=by
 change _=_+1 at hN173
 exact zq710):a:=h
theorem zq662 (h:a:=by
 change _=_+1 at hN147
 exact zq663):a:=h
theorem zq563 (h:a:=by exact TL.run (bC rfl) rfl (zq564)):a:=h
theorem zq480 (h:a:=by exact TL.run (bC rfl) rfl (zq481)):a:=h
theorem zq750 (h:a:=by
 obtain⟨i67,rfl⟩:=hp67
 exact zq751):a:=h
theorem zq771 (h:a:=by
 obtain⟨i67,rfl⟩:=hp67
 exact zq772):a:=h
theorem zq527 (h:a:=by exact ar (bC rfl) rfl (zq528)):a:=h
theorem zq696 (h:a:=by exact ar (bC rfl) rfl (zq697)):a:=h
theorem zq690 (h:a:=by exact ar (bC rfl) rfl (zq691)):a:=h
theorem zq649 (h:a:=by exact ar (bC rfl) rfl (zq650)):a:=h
theorem zq643 (h:a:=by exact ar (bC rfl) rfl (zq644)):a:=h
theorem zq605 (h:a:=by exact ar (bC rfl) rfl (zq606)):a:=h
theorem zq598 (h:a:=by exact ar (bC rfl) rfl (zq599)):a:=h
theorem zq728 (h:a:=by exact ar (bC rfl) rfl (zq729)):a:=h
theorem zq721 (h:a:=by exact ar (bC rfl) rfl (zq722)):a:=h
theorem zq1093 (h:a:=by
 replace hX:=hX.le hle54
 exact zq1094):a:=h
theorem zq1079 (h:a:=by
 replace hX:=hX.le hle52
 exact zq1080):a:=h
theorem zq1077 (h:a:=by
 replace hM:=hM.le hle52
 exact zq1078):a:=h
theorem zq1025 (h:a:=by
 replace hX:=hX.le hle35
 exact zq1026):a:=h
theorem zq1022 (h:a:=by
 replace hM:=hM.le hle35
 exact zq1023):a:=h
theorem zq994 (h:a:=by
 replace hM:=hM.le le_b24
 exact zq995):a:=h
theorem zq986 (h:a:=by
 replace hM:=hM.le le_b22
 exact zq987):a:=h
theorem zq979 (h:a:=by
 replace hM:=hM.le le_b21
 exact zq980):a:=h
theorem zq973 (h:a:=by
 replace hM:=hM.le le_b19
 exact zq974):a:=h
theorem zq384 (h:a:=by
 replace hq4:=hq4.le leP90
 exact zq385):a:=h
theorem zq382 (h:a:=by
 replace hp2:=hp2.le leP90
 exact zq383):a:=h
theorem zq578 (h:a:=by
 obtain⟨i103,rfl⟩:=hp103
 exact zq579):a:=h
theorem zq575 (h:a:=by
 obtain⟨i102,rfl⟩:=hp102
 exact zq576):a:=h
theorem zq571 (h:a:=by
 obtain⟨i100,rfl⟩:=hp100
 exact zq572):a:=h
theorem zq818 (h:a:=by exact TL.nil (ae (TC.ret (zq819)))):a:=h
theorem zq209 (h:a:=by
 obtain⟨⟨m0,m1⟩,hI2⟩:=hI
 exact zq210):a:=h
theorem zq420 (h:a:=by
 have hlab3:=hlab2.le hle97
 exact zq421):a:=h
theorem zq312 (h:a:=by
 obtain⟨⟨k0,k1⟩,hal⟩:=hI
 exact zq313):a:=h
theorem zq679 (h:a:=by
 obtain⟨rfl,hn154⟩:=hp154
 exact zq680):a:=h
theorem zq631 (h:a:=by
 obtain⟨rfl,hn128⟩:=hp128
 exact zq632):a:=h
theorem zq589 (h:a:=by
 obtain⟨rfl,hn107⟩:=hp107
 exact zq590):a:=h
theorem zq588 (h:a:=by
 replace hta:=hta.le hle107
 exact zq589):a:=h
theorem zq577 (h:a:=by
 replace hta:=hta.le hle103
 exact zq578):a:=h
theorem zq574 (h:a:=by
 replace hta:=hta.le hle102
 exact zq575):a:=h
theorem zq570 (h:a:=by
 replace hta:=hta.le hle100
 exact zq571):a:=h
theorem zq830 (h:a:=by
 have q74:=bi g74
 exact zq831):a:=h
theorem zq1092 (h:a:=by
 replace hPA:=hPA.le hle54
 exact zq1093):a:=h
theorem zq1078 (h:a:=by
 replace hPA:=hPA.le hle52
 exact zq1079):a:=h
theorem zq1066 (h:a:=by
 replace hX:=hX.le lePob49
 exact zq1067):a:=h
theorem zq1063 (h:a:=by
 replace hM:=hM.le lePob49
 exact zq1064):a:=h
theorem zq1024 (h:a:=by
 replace hPB:=hPB.le hle35
 exact zq1025):a:=h
theorem zq1023 (h:a:=by
 replace hPA:=hPA.le hle35
 exact zq1024):a:=h
theorem zq1002 (h:a:=by
 replace hM:=hM.le lePob32
 exact zq1003):a:=h
theorem zq998 (h:a:=by
 replace hMt:=hMt.le le_b24
 exact zq999):a:=h
theorem zq997 (h:a:=by
 replace hMp:=hMp.le le_b24
 exact zq998):a:=h
theorem zq996 (h:a:=by
 replace hPB:=hPB.le le_b24
 exact zq997):a:=h
theorem zq995 (h:a:=by
 replace hPA:=hPA.le le_b24
 exact zq996):a:=h
theorem zq990 (h:a:=by
 replace hMt:=hMt.le le_b22
 exact zq991):a:=h
theorem zq989 (h:a:=by
 replace hMp:=hMp.le le_b22
 exact zq990):a:=h
theorem zq988 (h:a:=by
 replace hPB:=hPB.le le_b22
 exact zq989):a:=h
theorem zq987 (h:a:=by
 replace hPA:=hPA.le le_b22
 exact zq988):a:=h
theorem zq982 (h:a:=by
 replace hMp:=hMp.le le_b21
 exact zq983):a:=h
theorem zq981 (h:a:=by
 replace hPB:=hPB.le le_b21
 exact zq982):a:=h
theorem zq980 (h:a:=by
 replace hPA:=hPA.le le_b21
 exact zq981):a:=h
theorem zq975 (h:a:=by
 replace hPB:=hPB.le le_b19
 exact zq976):a:=h
theorem zq974 (h:a:=by
 replace hPA:=hPA.le le_b19
 exact zq975):a:=h
theorem zq168 (h:a:=by
 replace hd26:=hd26.le hle29
 exact zq169):a:=h
theorem zq164 (h:a:=by exact al (S1 (S1 SN)) hle24 (zq165)):a:=h
theorem zq191 (h:a:=by
 replace hd26:=hd26.le hle29
 exact zq192):a:=h
theorem zq187 (h:a:=by exact al (S1 (S1 SN)) hle24 (zq188)):a:=h
theorem zq999 (h:a:=by
 replace hMa:=hMa.le le_b24
 exact zq1000):a:=h
theorem zq42 (h:a:=by
 have q7:=of_decide_eq_true g7
 exact zq43):a:=h
theorem zq254 (h:a:=by
 refine oH ?_;refine mi ?_
 exact zq255):a:=h
theorem zq1065 (h:a:=by
 replace hPB:=hPB.le lePob49
 exact zq1066):a:=h
theorem zq1064 (h:a:=by
 replace hPA:=hPA.le lePob49
 exact zq1065):a:=h
theorem zq1015 (h:a:=by
 clear hMp hMt hMa hMs hXq hXe
 exact zq1016):a:=h
theorem zq1008 (h:a:=by
 replace hMs:=hMs.le lePob32
 exact zq1009):a:=h
theorem zq1007 (h:a:=by
 replace hMa:=hMa.le lePob32
 exact zq1008):a:=h
theorem zq1006 (h:a:=by
 replace hMt:=hMt.le lePob32
 exact zq1007):a:=h
theorem zq1005 (h:a:=by
 replace hMp:=hMp.le lePob32
 exact zq1006):a:=h
theorem zq1004 (h:a:=by
 replace hPB:=hPB.le lePob32
 exact zq1005):a:=h
theorem zq1003 (h:a:=by
 replace hPA:=hPA.le lePob32
 exact zq1004):a:=h
theorem zq15 (h:a:=by exact TL.run (dz rfl rfl) rfl (zq16)):a:=h
theorem zq142 (h:a:=by
 obtain⟨va,vc,rfl⟩:=hO.form
 exact zq143):a:=h
theorem zq167 (h:a:=by
 replace hla24:=hla24.le hle29
 exact zq168):a:=h
theorem zq383 (h:a:=by
 replace hlab2:=hlab2.le leP90
 exact zq384):a:=h
theorem zq883 (h:a:=by
 obtain⟨va,vc,rfl⟩:=hO.form
 exact zq884):a:=h
theorem zq892 (h:a:=by
 obtain⟨va,vc,rfl⟩:=hO.form
 exact zq893):a:=h
theorem zq909 (h:a:=by
 have hT2:=st_next k0 hk hs hT
 exact zq910):a:=h
theorem zq882 (h:a:=by
 obtain⟨⟨k0,k1⟩,hO,hfl⟩:=hI
 exact zq883):a:=h
theorem zq891 (h:a:=by
 obtain⟨⟨k0,k1⟩,hO,hfl⟩:=hI
 exact zq892):a:=h
theorem zq161 (h:a:=by
 have hrb26:=hr26.2.1 om
 exact zq162):a:=h
theorem zq184 (h:a:=by
 have hrb26:=hr26.2.1 om
 exact zq185):a:=h
theorem zq235 (h:a:=by exact TL.run (bj rfl rfl hO) rfl (zq236)):a:=h
theorem zq218 (h:a:=by exact TL.run (bj rfl rfl hO) rfl (zq219)):a:=h
theorem zq537 (h:a:=by exact al (S1 SN) (Hp.le.refl _) (zq538)):a:=h
theorem zq542 (h:a:=by exact aB rfl rfl (bC rfl) rfl (zq543)):a:=h
theorem zq540 (h:a:=by
 have q85:=of_decide_eq_true g85
 exact zq541):a:=h
theorem zq745 (h:a:=by
 have hrb66:=hr66.2.1 om
 exact zq746):a:=h
theorem zq766 (h:a:=by
 have hrb66:=hr66.2.1 om
 exact zq767):a:=h
theorem zq252 (h:a:=by
 have q25:=of_decide_eq_false g25
 exact zq253):a:=h
theorem zq464 (h:a:=by exact al (S1 (S1 (S1 SN))) hle54 (zq465)):a:=h
theorem zq511 (h:a:=by
 have q85:=of_decide_eq_false g85
 exact zq512):a:=h
theorem zq554 (h:a:=by
 refine TL.alloc rfl (fun b7=>?_)
 exact zq555):a:=h
theorem zq486 (h:a:=by
 have q66:=of_decide_eq_false g66
 exact zq487):a:=h
theorem zq746 (h:a:=by exact al (S1 (S1 (S1 SN))) hle60 (zq747)):a:=h
theorem zq767 (h:a:=by exact al (S1 (S1 (S1 SN))) hle60 (zq768)):a:=h
theorem zq876 (h:a:=by exact TL.run (ai rfl rfl hc) rfl (zq877)):a:=h
theorem zq1117 (h:a:=by
 have q72:=of_decide_eq_true g72
 exact zq1118):a:=h
theorem zq1108 (h:a:=by
 have q65:=of_decide_eq_true g65
 exact zq1109):a:=h
theorem zq389 (h:a:=by
 refine TL.alloc rfl (fun b17=>?_)
 exact zq390):a:=h
theorem zq379 (h:a:=by
 obtain⟨a90,c90,rfl⟩:=hO90.form
 exact zq380):a:=h
theorem zq335 (h:a:=by
 refine TL.alloc rfl (fun b15=>?_)
 exact zq336):a:=h
theorem zq507 (h:a:=by exact TL.run (ai rfl rfl hta) rfl (zq508)):a:=h
theorem zq1040 (h:a:=by
 refine TL.alloc rfl (fun b9=>?_)
 exact zq1041):a:=h
theorem zq163 (h:a:=by
 have hl4:labelsL.length=4:=rfl
 exact zq164):a:=h
theorem zq186 (h:a:=by
 have hl4:labelsL.length=4:=rfl
 exact zq187):a:=h
theorem zq318 (h:a:=by exact TL.run (ai rfl rfl hlab) rfl (zq319)):a:=h
theorem zq297 (h:a:=by exact TL.run (ai rfl rfl hlab) rfl (zq298)):a:=h
theorem zq463 (h:a:=by
 obtain⟨rfl,r60,rfl,hr60⟩:=hp60
 exact zq464):a:=h
theorem zq536 (h:a:=by
 obtain⟨rfl,r35,rfl,hr35⟩:=hp35
 exact zq537):a:=h
theorem zq532 (h:a:=by exact ar (ai rfl rfl hta) rfl (zq533)):a:=h
theorem zq609 (h:a:=by exact ar (ai rfl rfl hta) rfl (zq610)):a:=h
theorem zq603 (h:a:=by exact ar (ai rfl rfl hta) rfl (zq604)):a:=h
theorem zq733 (h:a:=by exact ar (ai rfl rfl hta) rfl (zq734)):a:=h
theorem zq726 (h:a:=by exact ar (ai rfl rfl hta) rfl (zq727)):a:=h
theorem zq567 (h:a:=by
 obtain⟨rfl,r99,rfl,hr99⟩:=hp99
 exact zq568):a:=h
theorem zq743 (h:a:=by
 obtain⟨rfl,r66,rfl,hr66⟩:=hp66
 exact zq744):a:=h
theorem zq764 (h:a:=by
 obtain⟨rfl,r66,rfl,hr66⟩:=hp66
 exact zq765):a:=h
theorem zq1081 (h:a:=by
 refine TL.alloc rfl (fun b10=>?_)
 exact zq1082):a:=h
theorem zq159 (h:a:=by
 replace eH26:=eH26.symm;subst eH26
 exact zq160):a:=h
theorem zq158 (h:a:=by
 obtain⟨eH26,r26,rfl,hr26⟩:=hp26
 exact zq159):a:=h
theorem zq182 (h:a:=by
 replace eH26:=eH26.symm;subst eH26
 exact zq183):a:=h
theorem zq181 (h:a:=by
 obtain⟨eH26,r26,rfl,hr26⟩:=hp26
 exact zq182):a:=h
theorem zq356 (h:a:=by exact TL.run (ai rfl rfl hlab2) rfl (zq357)):a:=h
theorem zq1121 (h:a:=by exact cw rfl rfl (aD rfl) rfl (zq1122)):a:=h
theorem zq1120 (h:a:=by exact cw rfl rfl (aD rfl) rfl (zq1121)):a:=h
theorem zq1113 (h:a:=by exact cw rfl rfl (aD rfl) rfl (zq1114)):a:=h
theorem zq1104 (h:a:=by exact cw rfl rfl (aD rfl) rfl (zq1105)):a:=h
theorem zq375 (h:a:=by
 obtain⟨eH90,tv90,rfl,hO90⟩:=hp90
 exact zq376):a:=h
theorem zq441 (h:a:=by
 obtain⟨eH67,tv67,rfl,hO67⟩:=hp67
 exact zq442):a:=h
theorem zq439 (h:a:=by exact TL.run (aJ hlab hlx rfl rfl) rfl (zq440)):a:=h
theorem zq618 (h:a:=by exact al (S1 (S1 SN)) (Hp.le.refl _) (zq619)):a:=h
theorem zq613 (h:a:=by exact al (S1 (S1 SN)) (Hp.le.refl _) (zq614)):a:=h
theorem zq737 (h:a:=by exact al (S1 (S1 SN)) (Hp.le.refl _) (zq615)):a:=h
theorem zq958 (h:a:=by exact TL.run (aJ hR62 hxB rfl rfl) rfl (zq959)):a:=h
theorem zq1118 (h:a:=by exact cw rfl rfl (aX rfl) rfl (zq1119)):a:=h
theorem zq1100 (h:a:=by exact cw rfl rfl (aX rfl) rfl (zq1101)):a:=h
theorem zq373 (h:a:=by exact TL.run (aJ hlab2 hlx rfl rfl) rfl (zq374)):a:=h
theorem zq617 (h:a:=by
 obtain⟨rfl,r123,rfl,hr123⟩:=hp123
 exact zq618):a:=h
theorem zq612 (h:a:=by
 obtain⟨rfl,r115,rfl,hr115⟩:=hp115
 exact zq613):a:=h
theorem zq736 (h:a:=by
 obtain⟨rfl,r115,rfl,hr115⟩:=hp115
 exact zq737):a:=h
theorem zq749 (h:a:=by
 dsimp only at hle67 hS67 hs67 ht67 hp67
 exact zq750):a:=h
theorem zq770 (h:a:=by
 dsimp only at hle67 hS67 hs67 ht67 hp67
 exact zq771):a:=h
theorem zq1012 (h:a:=by
 have hfm:=qf hXp hXl hXq2 hnm
 exact zq1013):a:=h
theorem zq1013 (h:a:=by
 have hfn:=u4 hXp hXl hXq2 hnm
 exact zq1014):a:=h
theorem zq189 (h:a:=by exact aQ (aJ hla24 hl1 rfl rfl) rfl (zq190)):a:=h
theorem zq283 (h:a:=by exact aB rfl rfl (aJ hL hx rfl rfl) rfl (zq284)):a:=h
theorem zq30 (h:a:=by exact TL.run (fc rfl rfl om hc) rfl (zq31)):a:=h
theorem zq678 (h:a:=by
 dsimp only at hle154 hS154 hs154 ht154 hp154
 exact zq679):a:=h
theorem zq630 (h:a:=by
 dsimp only at hle128 hS128 hs128 ht128 hp128
 exact zq631):a:=h
theorem zq569 (h:a:=by
 dsimp only at hle100 hS100 hs100 ht100 hp100
 exact zq570):a:=h
theorem zq162 (h:a:=by
 obtain⟨l1,hl1⟩:=kD hra26 om
 exact zq163):a:=h
theorem zq185 (h:a:=by
 obtain⟨l1,hl1⟩:=kD hra26 om
 exact zq186):a:=h
theorem zq270 (h:a:=by
 refine ax rfl rfl rfl rfl (fun b40=>?_)
 exact zq271):a:=h
theorem zq752 (h:a:=by
 refine aA rfl rfl rfl rfl (fun b68=>?_)
 exact zq753):a:=h
theorem zq773 (h:a:=by
 refine aA rfl rfl rfl rfl (fun b68=>?_)
 exact zq774):a:=h
theorem zq826 (h:a:=by exact aB rfl rfl (ay rfl (.here _) rfl) rfl (zq827)):a:=h
theorem zq821 (h:a:=by exact aB rfl rfl (ay rfl (.here _) rfl) rfl (zq822)):a:=h
theorem zq1102 (h:a:=by exact cw rfl rfl (ai rfl rfl hPA.q) rfl (zq1103)):a:=h
theorem zq1011 (h:a:=by
 have hck:=or hXp hXl hXq2 hnm hgA.n11
 exact zq1012):a:=h
theorem zq706 (h:a:=by
 refine aA rfl rfl rfl rfl (fun b172=>?_)
 exact zq707):a:=h
theorem zq659 (h:a:=by
 refine aA rfl rfl rfl rfl (fun b146=>?_)
 exact zq660):a:=h
theorem zq914 (h:a:=by
 refine ax rfl rfl rfl rfl (fun b136=>?_)
 exact zq915):a:=h
theorem zq149 (h:a:=by
 refine TD.part 4 7 rfl rfl rfl ?_ ?_
 · exact zq173
 exact zq150):a:=h
theorem zq751 (h:a:=by exact al (S1 (S1 (S1 SN))) (hle60.trans (hle67)) (zq752)):a:=h
theorem zq772 (h:a:=by exact al (S1 (S1 (S1 SN))) (hle60.trans (hle67)) (zq773)):a:=h
theorem zq950 (h:a:=by
 obtain⟨xB,hxB⟩:=ao (l:=ce s) k0 c65
 exact zq951):a:=h
theorem zq1095 (h:a:=by exact al (S1 (S1 (S1 (S1 (S1 (S1 SN)))))) hle54 (zq1096)):a:=h
theorem zq595 (h:a:=by
 refine TD.part 11 7 rfl rfl rfl ?_ ?_
 · exact zq719
 exact zq596):a:=h
theorem zq482 (h:a:=by exact TL.run (ay rfl (.there _ (.here _)) rfl) rfl (zq483)):a:=h
theorem zq789 (h:a:=by exact TL.run (ay rfl (.there _ (.here _)) rfl) rfl (zq790)):a:=h
theorem zq934 (h:a:=by exact TL.run (ay rfl (.there _ (.here _)) rfl) rfl (zq935)):a:=h
theorem zq553 (h:a:=by exact aq (ab rfl rfl rfl rfl) (cC 3) rfl (zq554)):a:=h
theorem zq1119 (h:a:=by exact eC rfl rfl (ay rfl (.here _) rfl) rfl (zq1120)):a:=h
theorem zq529 (h:a:=by exact aQ (ay rfl (.there _ (.here _)) rfl) rfl (zq530)):a:=h
theorem zq1032 (h:a:=by
 have hckA:(bU pgA).e=0:=by simpa using c37
 exact zq1033):a:=h
theorem zq992 (h:a:=by exact d9 (.there _ (.there _ (.there _ (.here _)))) (zq993)):a:=h
theorem zq31 (h:a:=by exact aq (ab rfl rfl rfl rfl) (iB c) rfl (zq32)):a:=h
theorem zq361 (h:a:=by
 obtain⟨lb,hlx⟩:=ao (l:=(cX p set)) k0 c80
 exact zq362):a:=h
theorem zq427 (h:a:=by
 obtain⟨lb,hlx⟩:=ao (l:=(cX p set)) k0 c57
 exact zq428):a:=h
theorem zq1056 (h:a:=by exact al (S1 (S1 (S1 (S1 (S1 SN))))) (Hp.le.refl _) (zq1057)):a:=h
theorem zq1053 (h:a:=by exact al (S1 (S1 (S1 (S1 (S1 SN))))) (Hp.le.refl _) (zq1054)):a:=h
theorem zq993 (h:a:=by
 refine iJ sq (fun H_b24 le_b24 rd_b24=>?_)
 exact zq994):a:=h
theorem zq985 (h:a:=by
 refine iJ sq (fun H_b22 le_b22 rd_b22=>?_)
 exact zq986):a:=h
theorem zq978 (h:a:=by
 refine iJ sq (fun H_b21 le_b21 rd_b21=>?_)
 exact zq979):a:=h
theorem zq972 (h:a:=by
 refine iJ sq (fun H_b19 le_b19 rd_b19=>?_)
 exact zq973):a:=h
theorem zq790 (h:a:=by exact aq (ab rfl rfl rfl rfl) (mB s.kind) rfl (zq791)):a:=h
theorem zq27 (h:a:=by
 obtain⟨c,hc⟩:=ao (l:=s) (i:=k) om c25
 exact zq28):a:=h
theorem zq687 (h:a:=by
 obtain⟨waw18,wnw18,wcw18,rfl,hww18,hwnw18⟩:=huw18
 exact zq688):a:=h
theorem zq640 (h:a:=by
 obtain⟨waw16,wnw16,wcw16,rfl,hww16,hwnw16⟩:=huw16
 exact zq641):a:=h
theorem zq347 (h:a:=by
 obtain⟨⟨k0,k1⟩,hq2,hq3,hq4,hq5,hq6,hq7,hq8⟩:=hI
 exact zq348):a:=h
theorem zq544 (h:a:=by exact aB rfl rfl (ay rfl (.there _ (.here _)) rfl) rfl (zq545)):a:=h
theorem zq438 (h:a:=by exact TL.run (af rfl hlab rfl om om) rfl (zq439)):a:=h
theorem zq907 (h:a:=by
 have hz4:=(fN (q:=q) (st:=(m,o)) hma hTm).2.2
 exact zq908):a:=h
theorem zq957 (h:a:=by exact TL.run (af rfl hR62 rfl om om) rfl (zq958)):a:=h
theorem zq1027 (h:a:=by exact TL.run (lh (off:=0) rfl kr rfl) rfl (zq1028)):a:=h
theorem zq372 (h:a:=by exact TL.run (af rfl hlab2 rfl om om) rfl (zq373)):a:=h
theorem zq165 (h:a:=by exact ar (af rfl hla24 rfl om om) rfl (zq166)):a:=h
theorem zq188 (h:a:=by exact ar (af rfl hla24 rfl om om) rfl (zq189)):a:=h
theorem zq425 (h:a:=by exact ar (af rfl hlab3 rfl om om) rfl (zq426)):a:=h
theorem vh (h:a:=by
 have hC2:(iv q.terms s (m,o)).2=(m2,o2):=by rw [hCE]
 exact zq907):a:=h
theorem zq793 (h:a:=by
 refine TC.cond rfl ?_ ?_<;>intro c43
 · exact zq804
 exact zq794):a:=h
theorem zq222 (h:a:=by
 refine ag rfl ?_ ?_<;>intro c60
 · exact zq251
 exact zq223):a:=h
theorem zq322 (h:a:=by
 refine ag rfl ?_ ?_<;>intro c57
 · exact zq427
 exact zq323):a:=h
theorem zq550 (h:a:=by
 refine ag rfl ?_ ?_<;>intro c80
 · exact zq551
 exact zq522):a:=h
theorem zq493 (h:a:=by
 refine ag rfl ?_ ?_<;>intro c60
 · exact zq738
 exact zq494):a:=h
theorem zq282 (h:a:=by exact aB rfl rfl (af rfl hL rfl om om) rfl (zq283)):a:=h
theorem zq948 (h:a:=by refine ae (TC.ret (aY (aC ?_)));exact aC (aY (re))):a:=h
theorem zq1111 (h:a:=by exact lA rfl rfl (ab rfl rfl rfl rfl) (fb bT hX) rfl (zq1112)):a:=h
theorem zq1103 (h:a:=by exact lA rfl rfl (ab rfl rfl rfl rfl) (fb er hX) rfl (zq1104)):a:=h
theorem zq1112 (h:a:=by exact lA rfl rfl (ab rfl rfl rfl rfl) (fb bT hPA) rfl (zq1113)):a:=h
theorem zq400 (h:a:=by
 obtain⟨sv97,ob97,rows97,rfl,hO97,hrw97,hrl97,hm97,rfl⟩:=hp97
 exact zq401):a:=h
theorem zq711 (h:a:=by exact ar (cP (tb:=3) rfl rfl haw18 om om) rfl (zq712)):a:=h
theorem zq701 (h:a:=by exact ar (cP (tb:=3) rfl rfl haw18 om om) rfl (zq702)):a:=h
theorem zq685 (h:a:=by
 obtain⟨bw18,jw18,qw18,haw18,hbw18,hjw18⟩:=hW154.s.at om
 exact zq686):a:=h
theorem zq664 (h:a:=by exact ar (cP (tb:=3) rfl rfl haw16 om om) rfl (zq665)):a:=h
theorem zq654 (h:a:=by exact ar (cP (tb:=3) rfl rfl haw16 om om) rfl (zq655)):a:=h
theorem zq638 (h:a:=by
 obtain⟨bw16,jw16,qw16,haw16,hbw16,hjw16⟩:=hW128.s.at om
 exact zq639):a:=h
theorem zq1009 (h:a:=by
 have hnm:∀q∈pgA.procs,NoMore q:=fun q hq=>(hgA.q q hq).noMore
 exact zq1010):a:=h
theorem zq965 (h:a:=by exact al (S0 (S1 (S1 (S1 (S1 (S1 (S1 (S1 (S1 SN))))))))) (Hp.le.refl _) (zq966)):a:=h
theorem zq1109 (h:a:=by exact eC rfl rfl (aU rfl (.there _ (.there _ (.here _))) rfl) rfl (zq1110)):a:=h
theorem zq1099 (h:a:=by exact eC rfl rfl (aU rfl (.there _ (.there _ (.here _))) rfl) rfl (zq1100)):a:=h
theorem zq1020 (h:a:=by exact TL.run (aU rfl (.there _ (.there _ (.there _ (.here _)))) rfl) rfl (zq1021)):a:=h
theorem zq510 (h:a:=by
 refine ah (s:=85) rfl ?_ ?_<;>intro g85
 · exact zq540
 exact zq511):a:=h
theorem zq977 (h:a:=by exact d9 (.there _ (.there _ (.there _ (.there _ (.there _ (.here _)))))) (zq978)):a:=h
theorem zq19 (h:a:=by
 refine ag rfl ?_ ?_<;>intro c25
 · exact zq21
 refine jv ?_
 exact zq20):a:=h
theorem zq656 (h:a:=by exact aQ (jC rfl hcw16 (.skip _ (.skip _ (.skip _ (.skip _ .all))))) rfl (zq657)):a:=h
theorem zq1034 (h:a:=by
 have hX12:pgX.procs.length≤12:=by rw [hXq2];have:=hgA.n11;simp;omega
 exact zq1035):a:=h
theorem zq378 (h:a:=by
 have hO90:=hO90 (show jJ p set lb=true from hall lb (List.mem_of_getElem? hlx))
 exact zq379):a:=h
theorem zq166 (h:a:=by
 refine TF.call (ab rfl rfl rfl rfl) (dL) rfl (fun v29 H29 hle29 hp29=>?_)
 exact zq167):a:=h
theorem zq153 (h:a:=by
 refine TF.call (ab rfl rfl rfl rfl) (dL) rfl (fun v24 H24 hle24 hp24=>?_)
 exact zq154):a:=h
theorem zq190 (h:a:=by
 refine TF.call (ab rfl rfl rfl rfl) (dL) rfl (fun v29 H29 hle29 hp29=>?_)
 exact zq191):a:=h
theorem zq176 (h:a:=by
 refine TF.call (ab rfl rfl rfl rfl) (dL) rfl (fun v24 H24 hle24 hp24=>?_)
 exact zq177):a:=h
theorem zq703 (h:a:=by exact aQ (jC rfl hcw18 (.skip _ (.skip _ (.skip _ (.skip _ (.skip _ .all)))))) rfl (zq704)):a:=h
theorem zq1091 (h:a:=by
 refine TL.call (ab rfl rfl rfl rfl) (fj hX hM) rfl (fun v54 H54 hle54 hp54=>?_)
 exact zq1092):a:=h
theorem zq1076 (h:a:=by
 refine TL.call (ab rfl rfl rfl rfl) (fj hT hM) rfl (fun v52 H52 hle52 hp52=>?_)
 exact zq1077):a:=h
theorem zq1098 (h:a:=by
 refine gC (s:=57) rfl ?_ ?_<;>intro g57
 · exact zq1099
 exact absurd g57 dq):a:=h
theorem zq1021 (h:a:=by
 refine TL.call (ab rfl rfl rfl rfl) (fj hPA hM) rfl (fun v35 H35 hle35 hp35=>?_)
 exact zq1022):a:=h
theorem zq856 (h:a:=by
 refine dB ?_;refine zm4 ?_;refine jO ?_
 exact aS rfl (by unfold ov;simp_all) ⟨rfl,rfl,trivial⟩):a:=h
theorem zq40 (h:a:=by
 refine TC.cond rfl ?_ ?_<;>intro c39
 · refine ml ?_;exact aC (aY (zq41))
 exact zq35):a:=h
theorem zq422 (h:a:=by exact aF (S1 (S1 (S1 (S1 SN)))) (Hp.le.refl _) (fun _ _=>ay rfl (.there _ (.here _)) rfl) rfl (zq423)):a:=h
theorem zq330 (h:a:=by
 have h72:¬(cX p set).all (jJ p set)=false:=by rw [cz (p:=jJ p set) k0 c57 hal];decide
 exact zq331):a:=h
theorem zq1110 (h:a:=by exact eC rfl rfl (aU rfl (.there _ (.there _ (.there _ (.there _ (.there _ (.here _)))))) rfl) rfl (zq1111)):a:=h
theorem zq1101 (h:a:=by exact eC rfl rfl (ay rfl (.there _ (.there _ (.there _ (.there _ (.there _ (.here _)))))) rfl) rfl (zq1102)):a:=h
theorem zq1048 (h:a:=by exact aF (S1 (S1 (S1 (S1 (S1 SN))))) (Hp.le.refl _) (fun _ _=>ay rfl (.there _ (.here _)) rfl) rfl (zq1049)):a:=h
theorem zq1096 (h:a:=by exact ar (qF (r:=true) rfl rfl kr kr (by rw [hXok];exact qg okF)) rfl (zq1097)):a:=h
theorem zq331 (h:a:=by
 have hall:∀s∈(cX p set),jJ p set s=true:=List.all_eq_true.1 (cz (p:=jJ p set) k0 c57 hal)
 exact zq332):a:=h
theorem zq1033 (h:a:=by
 have hXok:bU pgX=okF:=by rw [hck];obtain⟨u0,u1,u2,u3⟩:=jI hckA;exact zy u3 u0 u1 u2
 exact zq1034):a:=h
theorem zq1062 (h:a:=by
 refine TX.pubO hO49 (.skip _ (.skip _ (.skip _ (.skip _ (.skip _ .all))))) sq (fun HPob49 lePob49 hTq=>?_)
 exact zq1063):a:=h
theorem zq1001 (h:a:=by
 refine TX.pubO hO32 (.skip _ (.skip _ (.skip _ (.skip _ (.skip _ .all))))) sq (fun HPob32 lePob32 hXq=>?_)
 exact zq1002):a:=h
theorem zq1116 (h:a:=by
 refine gC (s:=72) rfl ?_ ?_<;>intro g72
 · exact zq1117
 have q72:=of_decide_eq_false g72
 exact absurd hfn q72):a:=h
theorem zq1107 (h:a:=by
 refine gC (s:=65) rfl ?_ ?_<;>intro g65
 · exact zq1108
 have q65:=of_decide_eq_false g65
 exact absurd hfm q65):a:=h
theorem zq686 (h:a:=by
 obtain⟨uw18,huw18,hcw18⟩:=hW154.bag.get (k:=10) (i:=(V103.sn:Int).toNat) (f:=8) hbw18 rfl hjw18 om rfl
 exact zq687):a:=h
theorem zq639 (h:a:=by
 obtain⟨uw16,huw16,hcw16⟩:=hW128.bag.get (k:=10) (i:=(V103.sn:Int).toNat) (f:=8) hbw16 rfl hjw16 om rfl
 exact zq640):a:=h
theorem zq1088 (h:a:=by exact aF (S1 (S1 (S1 (S1 (S1 (S1 SN)))))) (Hp.le.refl _) (fun _ _=>aU rfl (.there _ (.there _ (.here _))) rfl) rfl (zq1089)):a:=h
theorem mf (h:a:=by refine eD ?_;exact aY (aC (aN (.inr rfl) (ad rfl (RVal.tmp rfl)) ⟨congrArg Value.bool (by simp_all [dt]),rfl⟩))):a:=h
theorem zq202 (h:a:=by
 have hno:¬(0<(db p role (cx p role frm)).length∧(cx p role frm).any (gx p role)=true):=no_lost k0 hI2 om
 exact zq203):a:=h
theorem zq824 (h:a:=by
 refine ah (s:=74) rfl ?_ ?_<;>intro g74
 · exact zq830
 have q74:=a7 g74
 refine dB ?_;refine da ?_
 exact zq825):a:=h
theorem zq1014 (h:a:=by exact ve (C':=St [] w0 H HPob32 [(b8,pgX.cells),(b7,_),(b6,pgB.cells),(b5,pgA.cells)]) (fun w hw=>by rw [hXe];exact hw.drop) (zq1015)):a:=h
theorem zq295 (h:a:=by
 have h48:¬((cF p role set).1=1∧iI p set=false):=by first | (rintro⟨e1,e2⟩;simp_all;done) | (rintro⟨e1,e2⟩;omega)
 exact zq296):a:=h
theorem zq1046 (h:a:=by exact aI [true,true,true,true,true] [(0,1),(1,4),(3,1),(4,4),(2,5),(5,5),(6,1),(7,0)] kr kr (zq1047)):a:=h
theorem zq1070 (h:a:=by exact ve (C':=St [] w0 H HPob49 [(b9,pgT.cells),(b8,pgX.cells),(b7,_),(b6,pgB.cells),(b5,pgA.cells)]) (fun w hw=>by rw [hTe];exact hw) (zq1071)):a:=h
theorem zq991 (h:a:=by
 have hMa:RdSl H_b22 1 I64.cells _ ([0]):=RdSl.blk (cap:=1) rd_b22 (by intro x hx;rfl) kr (by show 1≤9223372036854775807;decide)
 exact zq992):a:=h
theorem zq82 (h:a:=by
 refine q6 (.inr rfl) (ad rfl (RVal.tmp rfl)) (.here _) ⟨_,_,?_,rfl,rfl,?_,rfl⟩
 · exact zq83
 first | assumption | (simp;done) | (simp;assumption)):a:=h
theorem zq440 (h:a:=by
 refine kO (X:=[(b4,_)]) (b:=bw) rfl (ab rfl rfl rfl rfl) (ka role hp hf hr lb hfl) rfl (fun v67 H67 ob67 hle67 hf67 hp67=>?_)
 exact zq441):a:=h
theorem zq157 (h:a:=by
 refine az (X:=[(b9,_),(b8,_)]) (bd:=bd) rfl (ab rfl rfl rfl rfl) (aV 2 om hd) rfl (fun v26 H26 at26 hle26 hd26 hp26=>?_)
 exact zq158):a:=h
theorem zq180 (h:a:=by
 refine az (X:=[(b9,_),(b8,_)]) (bd:=bd) rfl (ab rfl rfl rfl rfl) (aV 2 om hd) rfl (fun v26 H26 at26 hle26 hd26 hp26=>?_)
 exact zq181):a:=h
theorem zq380 (h:a:=by
 refine TL.pubO hO90 (.skip _ (.skip _ (.skip _ (.past _ .all)))) (fun p hp hm=>absurd (hM _ hm) (Nat.not_lt.2 (hf90 p hp))) (fun HP90 leP90 hT90=>?_)
 exact zq381):a:=h
theorem xS (h:a:=by exact aw (.inr rfl) (ad rfl (RVal.tmp rfl)) (congrArg Value.bool (by unfold gv;first | (rw [hall];clear hall;simp_all;done) | (simp_all<;>omega)))):a:=h
theorem zq271 (h:a:=by
 refine TL.append (enc:=Str.cells) rfl rfl rfl hO37 (Src.own [s] (.here _) rfl rfl) (by simp;omega) rfl (.skip _ .all) rfl (fun a41 c41 ob41 hO41=>?_)
 exact zq272):a:=h
theorem zq983 (h:a:=by
 have hMt:RdSl H_b21 6 Term.cells _ ([iC]):=RdSl.blk (cap:=1) rd_b21 (by intro x hx;rfl) kr (by show 1≤9223372036854775807;decide)
 exact zq984):a:=h
theorem zq485 (h:a:=by
 refine ah (s:=66) rfl ?_ ?_<;>intro g66
 ·
  have q66:=of_decide_eq_true g66
  refine gE ?_;refine jr ?_;exact cD rfl (zq738)
 exact zq486):a:=h
theorem zq867 (h:a:=by
 refine TL.append (enc:=I64.cells) rfl rfl rfl (OwnSl.nil (enc:=I64.cells)) (Src.sl ha) (by simp;omega) rfl (.new _ rfl) rfl (fun a30 c30 ob30 hO30=>?_)
 exact zq868):a:=h
theorem zq98 (h:a:=by
 refine q6 (.inr rfl) (ad rfl (RVal.tmp rfl)) (.there _ (.here _)) ⟨_,_,?_,rfl,rfl,?_,rfl⟩
 · exact zq83
 first | assumption | (simp;done) | (simp;assumption)):a:=h
theorem zq523 (h:a:=by exact aI [true,false,false] [(0,1),(1,1),(2,1),(3,1),(4,1),(5,2),(6,1),(7,4),(8,1),(10,1),(9,5),(11,5)] kr kr (zq524)):a:=h
theorem zq374 (h:a:=by
 refine kO (X:=[(b15,_),(b4,_)]) (b:=bw) rfl (ab rfl rfl rfl rfl) (ka role hp2 hf2 hr lb hfl) rfl (fun v90 H90 ob90 hle90 hf90 hp90=>?_)
 exact zq375):a:=h
theorem zq1052 (h:a:=by
 refine TL.append (enc:=SProc.cells) rfl rfl rfl (OwnSl.nil (enc:=SProc.cells)) (Src.sl hX.q) (by simp;omega) rfl (.new _ rfl) rfl (fun a46 c46 ob46 hO46=>?_)
 exact zq1053):a:=h
theorem zq976 (h:a:=by
 have hMp:RdSl H_b19 3 SParam.cells _ ([⟨[107],1,[]⟩]):=RdSl.blk (cap:=1) rd_b19 (by intro x hx;rfl) kr (by show 1≤9223372036854775807;decide)
 exact zq977):a:=h
theorem zq566 (h:a:=by
 refine az (X:=[(b7,_),(b6,_),(F.bw,_)]) (bd:=F.bd) rfl (ab rfl rfl rfl rfl) (aV 3 om hW.d) rfl (fun v99 H99 at99 hle99 hd99 hp99=>?_)
 exact zq567):a:=h
theorem zq150 (h:a:=by exact aI [true,true,false] [(1,1),(6,1),(0,3),(2,5),(3,1),(5,3),(7,5),(4,2),(8,1),(9,1),(10,2),(11,1),(12,1)] kr kr (zq151)):a:=h
theorem zq173 (h:a:=by exact aI [true,true,false] [(1,1),(6,1),(0,3),(2,5),(3,1),(4,2),(5,3),(7,5),(8,1),(9,1),(10,2),(11,1),(12,1)] kr kr (zq174)):a:=h
theorem zq104 (h:a:=by
 refine q6 (.inr rfl) (ad rfl (RVal.tmp rfl)) (.there _ (.there _ (.here _))) ⟨_,_,?_,rfl,rfl,?_,rfl⟩
 · exact zq83
 first | assumption | (simp;done) | (simp;assumption)):a:=h
theorem zq419 (h:a:=by exact aI [true,true,true,true] [(0,1),(1,4),(2,1),(3,1),(4,1),(5,4),(6,4),(7,1),(8,1),(9,3),(10,5),(11,1),(12,0)] kr kr (zq420)):a:=h
theorem zq742 (h:a:=by
 refine az (X:=[(b11,_),(b8,_),(b4,_),(b15,_)]) (bd:=bd) rfl (ab rfl rfl rfl rfl) (aV 4 om hW60.d) rfl (fun v66 H66 at66 hle66 hd66 hp66=>?_)
 exact zq743):a:=h
theorem zq763 (h:a:=by
 refine az (X:=[(b11,_),(b8,_),(b4,_),(b15,_)]) (bd:=bd) rfl (ab rfl rfl rfl rfl) (aV 4 om hW60.d) rfl (fun v66 H66 at66 hle66 hd66 hp66=>?_)
 exact zq764):a:=h
theorem zq803 (h:a:=by exact aw (.inr rfl) (ad rfl (RVal.cellA rfl (.here _) rfl)) (congrArg Value.agg (congrArg List.toArray (by unfold fV SStep.cells;first | (simp_all;rfl) | (simp_all;done))))):a:=h
theorem zq35 (h:a:=by
 refine gb ?_
 exact aM (k+1) ⟨by omega,by omega,qN hI.2.2 om hc (by first | exact .inl g33 | exact .inr c39)⟩ ky (fun w hw=>hw) om):a:=h
theorem zq535 (h:a:=by
 refine az (X:=[(b6,_),(F.bw,_)]) (bd:=F.bd) rfl (ab rfl rfl rfl rfl) (aV (t.arms.length:Int) om hW.d) rfl (fun v35 H35 at35 hle35 hd35 hp35=>?_)
 exact zq536):a:=h
theorem zq462 (h:a:=by
 refine az (X:=[(b10,_),(b8,_),(b5,_),(F.bw,_)]) (bd:=F.bd) rfl (ab rfl rfl rfl rfl) (aV 3 om hW54.d) rfl (fun v60 H60 at60 hle60 hd60 hp60=>?_)
 exact zq463):a:=h
theorem zq1000 (h:a:=by
 have hMs:RdSl H_b24 10 SStep.cells _ ([gu (some ⟨b22,0,none⟩,1)]):=RdSl.blk (cap:=1) rd_b24 (by intro x hx;rfl) kr (by show 1≤9223372036854775807;decide)
 exact zq1001):a:=h
theorem zq611 (h:a:=by
 refine az (X:=[(b7,_),(b6,_),(F.bw,_)]) (bd:=F.bd) rfl (ab rfl rfl rfl rfl) (aV (t.arms.length:Int) om hW107.d) rfl (fun v115 H115 at115 hle115 hd115 hp115=>?_)
 exact zq612):a:=h
theorem zq735 (h:a:=by
 refine az (X:=[(b7,_),(b6,_),(F.bw,_)]) (bd:=F.bd) rfl (ab rfl rfl rfl rfl) (aV (t.arms.length:Int) om hW107.d) rfl (fun v115 H115 at115 hle115 hd115 hp115=>?_)
 exact zq736):a:=h
theorem zq1055 (h:a:=by
 refine TL.append (enc:=SProc.cells) rfl rfl rfl hO46 (Src.sl hPB.q) (by have h2:=hgB.n11;simp;omega) rfl (.skip _ (.skip _ (.skip _ (.skip _ (.skip _ .all))))) rfl (fun a49 c49 ob49 hO49=>?_)
 exact zq1056):a:=h
theorem zq262 (h:a:=by
 refine TL.append (enc:=Str.cells) rfl rfl rfl (OwnSl.nil (enc:=Str.cells)) (Src.sl (hL.sliced (i:=0) (Nat.zero_le _) om)) (by simp;omega) rfl (.new _ rfl) rfl (fun a37 c37 ob37 hO37=>?_)
 exact zq263):a:=h
theorem zq576 (h:a:=by
 refine au (F:=F) (V:=V102) (m:=m+1+1) [(b7,_),(b6,_)] rfl rfl (ab rfl rfl rfl rfl) (d6 12 i100 i102) hW102 om rfl (fun v103 V103 hle103 hW103 hS103 hs103 ht103 hp103=>?_)
 exact zq577):a:=h
theorem zq1068 (h:a:=by
 obtain⟨q0,rB,hqB,hq0⟩:∃q0 r,pgB.procs=q0::r∧q0.name=sPa:=by
  cases e:pgB.procs with
  | nil=>rw [e] at hpaB;cases hpaB
  | cons a r=>rw [e] at hpaB;exact⟨a,r,rfl,Option.some.inj hpaB⟩
 exact zq1069):a:=h
theorem zq616 (h:a:=by
 refine az (X:=[(b7,_),(b6,_),(F.bw,_)]) (bd:=F.bd) rfl (ab rfl rfl rfl rfl) (aV (t.arms.length:Int) om (hW107.dice (.refl _) hd115).d) rfl (fun v123 H123 at123 hle123 hd123 hp123=>?_)
 exact zq617):a:=h
theorem zq573 (h:a:=by
 refine au (F:=F) (V:=V100) (m:=m+1) [(b7,_),(b6,_)] rfl rfl (ab rfl rfl rfl rfl) (bZ [110] (.inr (.inr (.inl rfl)))) hW100 om rfl (fun v102 V102 hle102 hW102 hS102 hs102 ht102 hp102=>?_)
 exact zq574):a:=h
theorem zq568 (h:a:=by
 refine au (F:=F) (V:={V with at_:=at99}) (m:=m) [(b7,_),(b6,_)] rfl rfl (ab rfl rfl rfl rfl) (dT _) (hW.dice (.refl _) hd99) om rfl (fun v100 V100 hle100 hW100 hS100 hs100 ht100 hp100=>?_)
 exact zq569):a:=h
theorem zq34 (h:a:=by
 refine ah (s:=33) rfl ?_ ?_<;>intro g33
 · refine ef ?_;exact aB rfl rfl (fc rfl rfl om hc) rfl (aL rfl rfl (ab rfl rfl rfl rfl) (uQ c) rfl (zq36))
 refine oH ?_;refine mi ?_
 exact zq35):a:=h
theorem zq399 (h:a:=by
 refine lz (X:=[(b17,_),(b15,_),(b4,_)]) (A:=(bw,_)::q.ob) rfl (ab rfl rfl rfl rfl) (wk role hp2 hN hn hq3 hq4 hq5 hT90 (by have:=zA (p:=p) (s:=lb) set;omega)) rfl (fun v97 H97 A97 hle97 hp97=>?_)
 exact zq400):a:=h
theorem zq289 (h:a:=by
 refine ag rfl ?_ ?_<;>intro c32
 · refine mQ ?_;exact aC (aN (.inr rfl) (ad rfl (RVal.tmp rfl)) (by first | exact absurd q25 q11 | (rw [yX hI.2.2 hx (by simp [c18]) (by simpa using c32)];exact hL)))
 exact zq255):a:=h
theorem zq172 (h:a:=by
 refine se ?_;refine ar (af rfl hlb29 rfl om om) rfl (aQ (aJ hlb29 hl2 rfl rfl) rfl (ic ?_))
 exact TF.nil (gU ⟨l1,l2,at31,H29⟩ ⟨hd31,hle24.trans hle29⟩ ky (fun w hw=>hw))):a:=h
theorem zq816 (h:a:=by exact aw (.inr rfl) (ad rfl (RVal.tmp rfl)) (congrArg Value.bool (by first | exact ways_3 c8 h0 h1 (by simp_all [ue]) | exact ways_3n c8 g13 | exact(ways_n c8 om).symm | exact(yw c8 k0 hx c91 hal).symm | exact(yv c8 hn7 k0 c59 hal).symm))):a:=h
theorem zq1069 (h:a:=by
 have htw:=ub hXp hXl hXq2 hnm hTp hTl (hTq2.trans (by rw [hqB])) (by have h1:=hgA.n11;have h2:=hgB.n11;rw [hTq2,hXq2];simp only [List.length_append,List.length_cons,List.length_nil];omega) hgA.n11 hckA (by rw [hq0];exact List.mem_of_getElem? hpaA)
 exact zq1070):a:=h
theorem xP (h:a:=by exact aw (.inr rfl) (ad rfl (RVal.tmp rfl)) (congrArg (Value.int .i64) (by first | exact(step_1 h1).symm | exact(step_2 h1 h2).symm | exact(step_3 h1 h2 c88).symm | exact(step_4 h1 h2 c88 h4).symm | exact(step_5 h1 h2 c88 h4 c114).symm | exact(step_6 h1 h2 c88 h4 c114).symm))):a:=h
theorem zq667 (h:a:=by
 refine iK (t:=3) (f:=8) (ct:=.sl 1) rfl rfl (hW128.bagT hS147 hN147 hB147).bag (.skip _ (.skip _ (.skip _ (.skip _ (.skip _ .all))))) (hS147.1 _ _ hbw16) rfl hjw16 om rfl (⟨_,_,_,rfl,hT147,by simp only [List.length_cons,List.length_nil];omega⟩) rfl rfl (fun Bst1 hBst1=>?_)
 exact zq668):a:=h
theorem zq714 (h:a:=by
 refine iK (t:=3) (f:=8) (ct:=.sl 1) rfl rfl (hW154.bagT hS173 hN173 hB173).bag (.skip _ (.skip _ (.skip _ (.skip _ (.skip _ (.skip _ .all)))))) (hS173.1 _ _ hbw18) rfl hjw18 om rfl (⟨_,_,_,rfl,hT173,by simp only [List.length_cons,List.length_nil];omega⟩) rfl rfl (fun Bst2 hBst2=>?_)
 exact zq715):a:=h
theorem zq9 (h:a:=by
 refine TC.loop (V:=fun k=>[(3,.int .i64 k)]) (K:=[(0,_),(2,_)]) (L:=fun k=>_) (I:=fun k=>1≤k∧k≤s.length∧(s.drop 1).all ew=(s.drop k.toNat).all ew) (μ:=fun k=>(s.length - k).toNat) (i:=(1:Int)) ky ⟨by omega,by omega,rfl⟩ (fun w hw=>hw) (fun k hI=>?_)
 exact zq10):a:=h
theorem zq20 (h:a:=by exact aN (.inr rfl) (ad rfl (RVal.tmp rfl)) ⟨congrArg Value.bool (by first | exact(xc (by first | exact .inl g7 | exact .inr (.inl g12) | exact .inr (.inr (.inl ⟨c0,hc0,g18⟩)) | exact .inr (.inr (.inr c21)))).symm | exact(tD hn hI.2.2 c25).symm | exact(tE hn hI.2.2 om hc g33 c39).symm),rfl⟩):a:=h
theorem zq915 (h:a:=by
 refine TL.append (enc:=SStep.cells) rfl rfl rfl hOS (Src.own [s2] (.here _) rfl (by subst hs2e;show _=SStep.cells _++[];rw [List.append_nil];unfold SStep.cells;simp only [hCn,hWn];rfl)) (by simp;omega) rfl (.skip _ (.skip _ (.skip _ (.skip _ (.skip _ (.skip _ (.past _ .all))))))) rfl (fun a137 c137 ob137 hO137=>?_)
 exact zq916):a:=h
theorem zq748 (h:a:=by
 refine au (F:=⟨b15,bd,.slice psa ps.length psc,ps,bT,.slice none 0 0,[],.slice none 0 0,[],0,dl⟩) (V:={V60 with at_:=at66}) (m:=20 * k.toNat+12+1) [(b11,_),(b8,_),(b4,_)] rfl rfl (ab rfl rfl rfl rfl) (dT _) (hW60.dice (.refl _) hd66) om rfl (fun v67 V67 hle67 hW67 hS67 hs67 ht67 hp67=>?_)
 exact zq749):a:=h
theorem zq769 (h:a:=by
 refine au (F:=⟨b15,bd,.slice psa ps.length psc,ps,bT,.slice none 0 0,[],.slice none 0 0,[],0,dl⟩) (V:={V60 with at_:=at66}) (m:=20 * k.toNat+12+1) [(b11,_),(b8,_),(b4,_)] rfl rfl (ab rfl rfl rfl rfl) (dT _) (hW60.dice (.refl _) hd66) om rfl (fun v67 V67 hle67 hW67 hS67 hs67 ht67 hp67=>?_)
 exact zq770):a:=h
theorem zq587 (h:a:=by
 refine au (F:=F) (V:=V103) (m:=m+1+1+1) [(b7,_),(b6,_)] rfl rfl (ab rfl rfl rfl rfl) (eG ⟨3,[],[],[],[],i103,none,0,0,none,0,0,none,0,0, -1⟩ ⟨.nil,.nil,.nil,.nil,.nil,.nil,.nil,Nat.zero_le _,Nat.zero_le _,Nat.zero_le _⟩) hW103 om rfl (fun v107 V107 hle107 hW107 hS107 hs107 ht107 hp107=>?_)
 exact zq588):a:=h
theorem zq831 (h:a:=by
 refine co ?_;refine aL rfl rfl (ab rfl rfl rfl rfl) (bv x.label) rfl (sy ?_)
 refine ah (s:=81) rfl ?_ ?_<;>intro g81
 ·
  refine sC ?_;refine dD rfl rfl rfl (dD rfl rfl rfl (zm9 ?_));refine dk ?_
  exact aS rfl (by unfold eg;simp_all) ky
 exact zq825):a:=h
theorem zq964 (h:a:=by
 refine TL.append (enc:=SProc.cells) rfl rfl rfl hO29 (Src.own [(fg (some ⟨b19,0,none⟩,1) (some ⟨b21,0,none⟩,1) (some ⟨b24,0,none⟩,1) (some ⟨b22,0,none⟩,1))] (.here _) rfl rfl) (by have:=hgA.n11;simp;omega) rfl (.skip _ (.skip _ (.skip _ (.skip _ (.skip _ (.skip _ (.skip _ (.skip _ (.skip _ .all))))))))) rfl (fun a32 c32 ob32 hO32=>?_)
 exact zq965):a:=h
theorem zq661 (h:a:=by
 refine gg (enc:=SWay.cells) (t:=1) rfl rfl rfl hW128.bag hww16 (Src.own [⟨[],[],_⟩] (.here _) rfl rfl) rfl (by intro y hy;rw [List.mem_singleton.1 hy];exact SWay.all (s:=⟨[],[],_⟩) .nil .nil) zt1 (by simp only [List.length_cons,List.length_nil];omega) rfl (.skip _ (.skip _ (.skip _ (.skip _ (.skip _ .all))))) rfl (fun S147 a147 c147 B147 hS147 hN147 hT147 hB147=>?_)
 exact zq662):a:=h
theorem zq708 (h:a:=by
 refine gg (enc:=SWay.cells) (t:=1) rfl rfl rfl hW154.bag hww18 (Src.own [⟨[],[],_⟩] (.here _) rfl rfl) rfl (by intro y hy;rw [List.mem_singleton.1 hy];exact SWay.all (s:=⟨[],[],_⟩) .nil .nil) zt1 (by simp only [List.length_cons,List.length_nil];omega) rfl (.skip _ (.skip _ (.skip _ (.skip _ (.skip _ (.skip _ .all)))))) rfl (fun S173 a173 c173 B173 hS173 hN173 hT173 hB173=>?_)
 exact zq709):a:=h
theorem zq239 (h:a:=by
 refine ag rfl ?_ ?_<;>intro c78
 ·
  refine mQ ?_;refine aC ?_
  have hEq:=qb (sets:=rows.map (·.l)) hno (by rw [List.length_map];exact fun j hj=>hI2 j om)
  rw [List.length_map,if_pos om] at hEq
  exact aO (.inr rfl) (bO rfl (RVal.tmp rfl) (RVal.tmp rfl)) (fun w hw=>hw) ⟨_,_,rows,rfl,hO,hrw1,hrl,by rw [hEq],by rw [hEq]⟩
 exact zq240):a:=h
theorem zq740 (h:a:=by
 refine au (F:=F) (V:=V) (m:=m) [(b6,_)] rfl rfl (ab rfl rfl rfl rfl) (kU false) hW om rfl (fun v71 V71 hle71 hW71 hS71 hs71 ht71 hp71=>?_)
 obtain⟨rfl,hn71⟩:=hp71
 exact TL.nil (a8 (ba (V':=V71) (X:=[(b6,_)]) (.inl rfl) (bK rfl) rfl rfl (hW71.more om) hS71 (by(try dsimp only);omega) (by(try dsimp only);omega) ⟨rfl,by(try dsimp only);omega⟩))):a:=h
theorem zq718 (h:a:=by exact ba (V':={{V154 with S:=S173,B:=B173} with B:=Bst2}) (X:=[(b172,_),(b146,_),(b7,_),(b6,_)]) (.inl rfl) (bK rfl) rfl rfl (((hW154.bagT hS173 hN173 hB173).bagB hBst2).more om) (hS100.trans (hS102.trans (hS103.trans (hS107.trans (hS128.trans (hS147.trans (hS154.trans (hS173)))))))) (by(try dsimp only);omega) (by(try dsimp only);omega) ⟨rfl,by(try dsimp only);omega⟩):a:=h
theorem zq208 (h:a:=by
 refine TC.loop (V:=fun m=>[(9,.int .i64 m)]) (K:=[(0,_),(4,_),(5,_),(7,_)]) (L:=fun m=>_) (I:=fun m=>(0≤m∧m≤rows.length)∧∀j:Nat,j<m.toNat→(rows.map (·.l))[j]? ≠some (db p role (cx p role frm))) (μ:=fun m=>(rows.length - m).toNat) (i:=(0:Int)) ky ⟨o2q,fun j h=>absurd h om⟩ (fun w hw=>hw) (fun m hI=>?_)
 exact zq209):a:=h
theorem zq925 (h:a:=by
 refine zm361 ?_
 exact aE (i:=(k,(m,o),u1,ob1,S)) (k+1,(m2,o2),u2,ob2,S++[s2]) _ ob137 HPow ⟨o2q,hle,⟨hm2,by simp only at hz4;show o2.length≤3355443200 * (k+1).toNat;omega⟩,hO2,hO137,by simp only [List.length_append,List.length_cons,List.length_nil];omega,hSt.snoc hs2,by rw [List.map_append];exact hT2⟩ ky (fun w hw=>hw.drop.drop) om):a:=h
theorem zq140 (h:a:=by
 refine aR (V:=fun(p:Nat×Nat) v ob H1=>[(3,.int .u64 (p.1:Int)),(4,v)]) (K:=[(0,_),(2,_)]) (L:=fun(p:Nat×Nat) v ob H1=>St [] w0 H H ob) (I:=fun(p:Nat×Nat) v ob H1=>∃o:Str,OwnSl 1 U8.cells v o ob∧DigI n.natAbs p.1 p.2 o) (μ:=fun(p:Nat×Nat)=>p.1+p.2) (n.natAbs,1) (.slice none 0 0) [] H ky ⟨[],OwnSl.nil,DigI.zero h0 h1⟩ (fun w hw=>hw) (fun p v ob H1 hI=>?_)
 exact zq141):a:=h
theorem zq193 (h:a:=by
 refine ak rfl (az (X:=[(b9,_),(b8,_)]) (bd:=bd) rfl (ab rfl rfl rfl rfl) (aV 2 om hd26) rfl (fun v31 H31 at31 hle31 hd31 hp31=>?_))
 obtain⟨eH31,r31,rfl,hr31⟩:=hp31
 replace eH31:=eH31.symm;subst eH31
 have hra31:=hr31.1
 have hrb31:=hr31.2.1 om
 obtain⟨l2,hl2⟩:=kD (i:=2+r31) om om
 have hl4:labelsL.length=4:=rfl
 exact al (S1 (S1 SN)) (hle24.trans (hle29)) (zq172)):a:=h
theorem zq905 (h:a:=by
 refine TC.region (jS ?_)
 exact aE (i:=(k,m,o)) (k+1,m.set x.toNat (o.length:Int),o++[mvT m t]) _ ob51 H1 ⟨o2q,hle,by rw [List.length_set];exact hml,hO51.cast (by unfold mvT;simp [*]),by simp only [List.length_append,List.length_cons,List.length_nil];omega,tg_next k0 hk ht hT⟩ ky (fun w hw=>by have hw2:=hw.drop.drop;simp only [qZ] at hw2;exact hw2) om):a:=h
theorem zq829 (h:a:=by
 refine ah (s:=85) rfl ?_ ?_<;>intro g85
 ·
  have q85:=bi g85
  refine co ?_;refine aL rfl rfl (ab rfl rfl rfl rfl) (bv x.name) rfl (ef ?_);refine dk ?_
  exact aS rfl (by unfold eg;simp_all) ky
 have q85:=a7 g85
 refine dB ?_;refine ga ?_
 exact aS rfl (by unfold eg;simp_all) ky):a:=h
theorem zq1067 (h:a:=by
 obtain⟨pgT,hTe,hT,hTp,hTl,hTq2⟩:∃X:SProg,X.cells=[.slice pgX.rp.1 pgX.protos.length pgX.rp.2,.slice pgX.lp.1 pgX.locals.length pgX.lp.2,.slice a49 (pgX.procs++pgB.procs).length c49]∧ProgOk HPob49 X∧X.protos=pgX.protos∧X.locals=pgX.locals∧X.procs=pgX.procs++pgB.procs:=⟨(⟨pgX.protos,pgX.rp,pgX.locals,pgX.lp,pgX.procs++pgB.procs,(a49,c49)⟩:SProg),rfl,yC (qp:=(a49,c49)) hX hPB hTq sq rfl,rfl,rfl,rfl⟩
 exact zq1068):a:=h
theorem zq171 (h:a:=by
 refine az (X:=[(b9,_),(b8,_)]) (bd:=bd) rfl (ab rfl rfl rfl rfl) (aV 2 om hd26) rfl (fun v31 H31 at31 hle31 hd31 hp31=>?_)
 obtain⟨eH31,r31,rfl,hr31⟩:=hp31
 replace eH31:=eH31.symm;subst eH31
 have hra31:=hr31.1
 have hrb31:=hr31.2.1 om
 obtain⟨l2,hl2⟩:=kD (i:=2+r31) om om
 have hl4:labelsL.length=4:=rfl
 exact al (S1 (S1 SN)) (hle24.trans (hle29)) (aQ (aJ hla24 hl1 rfl rfl) rfl (zq172))):a:=h
theorem zq629 (h:a:=by
 refine au (F:=F) (V:={{V107 with at_:=at115} with at_:=at123}) (m:=m+1+1+1+1) [(b7,_),(b6,_)] rfl rfl (ab rfl rfl rfl rfl) (ns hG turn r115 deep h0 h1 (fun t2 h2=>by rw [htx] at h2;cases h2;have:=hTt.a1 om om;have:=hr115.1;have:=hr115.2.1 om;omega) (ih hdp.1 om) hK hdp) ((hW107.dice (.refl _) hd115).dice (.refl _) hd123) om rfl (fun v128 V128 hle128 hW128 hS128 hs128 ht128 hp128=>?_)
 exact zq630):a:=h
theorem zq301 (h:a:=by
 refine ag rfl ?_ ?_<;>intro c52
 ·
  refine rK ?_
  have hE:bp p role (rows.map (·.l)) set=((0,[],[]),805,rows.map (·.l)):=by unfold bp;rw [if_neg om,if_neg h34,if_neg h48,if_pos om]
  exact aO (.inr rfl) (bO rfl (RVal.cellA rfl (.here _) rfl) (RVal.tmp rfl)) (fun w hw=>by rw [List.append_nil];exact hw.drop) ⟨_,ob,rows,.slice none 0 0,[],rfl,hO,hrw,hrl,by rw [hE],by rw [hE];exact OwnSl.nil,by rw [hE];rfl⟩
 exact zq302):a:=h
theorem zq677 (h:a:=by
 refine au (F:=F) (V:={{V128 with S:=S147,B:=B147} with B:=Bst1}) (m:=m+1+1+1+1+(K+20)+1) [(b146,_),(b7,_),(b6,_)] rfl rfl (ab rfl rfl rfl rfl) (ns hG turn r123 deep h0 h1 (fun t2 h2=>by rw [htx] at h2;cases h2;have:=hTt.a1 om om;have:=hr123.1;have:=hr123.2.1 om;omega) (ih hdp.1 om) hK hdp) ((hW128.bagT hS147 hN147 hB147).bagB hBst1) om rfl (fun v154 V154 hle154 hW154 hS154 hs154 ht154 hp154=>?_)
 exact zq678):a:=h
theorem zq311 (h:a:=by
 refine TC.loop (V:=fun k=>[(11,.int .i64 k)]) (K:=[(0,_),(1,_),(4,_),(5,_),(6,_),(7,_),(9,_)]) (L:=fun k=>St M w0 H H40 ((b4,[.int .i64 0,gs [],.slice none 0 0])::(bw,WK p role _)::ob)) (I:=fun k=>(0≤k∧k≤(cX p set).length)∧(cX p set).all (jJ p set)=((cX p set).drop k.toNat).all (jJ p set)) (μ:=fun k=>((cX p set).length - k).toNat) (i:=(0:Int)) ky ⟨o2q,rfl⟩ (fun w hw=>hw) (fun k hI=>?_)
 exact zq312):a:=h
theorem zq502 (h:a:=by
 refine ag rfl ?_ ?_<;>intro c72
 ·
  refine mL ?_
  refine au (F:=F) (V:=V) (m:=m) [(b6,_)] rfl rfl (ab rfl rfl rfl rfl) (wK hG turn deep h0 h1 (ih hdp.1 om) hK hdp) hW om rfl (fun v79 V79 hle79 hW79 hS79 hs79 ht79 hp79=>?_)
  obtain⟨rfl,hn79⟩:=hp79
  exact TL.nil (a8 (ba (V':=V79) (X:=[(b6,_)]) (.inl rfl) (bK rfl) rfl rfl (hW79.more om) hS79 (by(try dsimp only);omega) (by(try dsimp only);omega) ⟨rfl,by(try dsimp only);omega⟩))
 exact zq503):a:=h
theorem zq279 (h:a:=by
 refine zm0 ?_
 refine TL.run (wZ rfl rfl om om) rfl (TL.append (enc:=Str.cells) rfl rfl rfl hO41 (Src.sl (hL.sliced (j:=l.length) om (Nat.le_refl _))) (by simp;omega) rfl (.skip _ .all) rfl (fun a46 c46 ob46 hO46=>?_))
 refine dv ?_
 refine TX.pubO hO46 (.skip _ .all) sq (fun H1 hle hR=>?_)
 exact aN (.inr rfl) (ad rfl (RVal.tmp rfl)) (by first | exact absurd q25 q11 | (rw [put_mid hI.2.2 hx (by simp [c18]) (by simpa using c32)];exact hR) | (rw [put_end hI.2.2 om];exact hR))):a:=h
theorem zq144 (h:a:=by
 refine bJ (decide (0<p.1)||decide (o.length=0)) 17 [(0,_),(2,_),(3,_),(4,_)] ky ?_ ?_
 ·
  refine mL ?_
  refine ah (s:=13) rfl ?_ ?_<;>intro g13
  ·
   have q13:=of_decide_eq_true g13
   refine jO ?_
   exact aS rfl (by first | exact dgo_1 g13 | exact dgo_2 g13) ky
  have q13:=of_decide_eq_false g13
  refine cg ?_;refine aB rfl rfl (bj rfl rfl hO) rfl (ga ?_)
  exact aS rfl (by first | exact dgo_1 g13 | exact dgo_2 g13) ky
 exact zq145):a:=h
theorem zq942 (h:a:=by
 refine eE ?_
 refine ax rfl rfl rfl rfl (fun b38=>?_)
 refine TL.append (enc:=STurn.cells) rfl rfl rfl hO (Src.own [⟨1,x.to,x.arms,x.ap⟩] (.here _) rfl rfl) (by simp;omega) rfl (.skip _ (.skip _ (.skip _ (.skip _ (.skip _ (.skip _ .all)))))) rfl (fun a39 c39 ob39 hO39=>?_)
 refine zm8 ?_;refine j5 ?_;refine mJ ?_
 exact aE (k+1) _ ob39 H ⟨o2q,hO39.cast (by rw [bF k0 hx];congr 2;first | exact(wq (by simp_all)).symm | exact(wr (by simp_all)).symm)⟩ ky (fun w hw=>hw.drop.drop.drop) om):a:=h
theorem zq147 (h:a:=by
 refine aA rfl rfl rfl rfl (fun b36=>?_)
 refine ak rfl (TL.append (enc:=SArm.cells) rfl rfl rfl hO (Src.own [⟨lb,k31,nm31,r34⟩] (.here _) rfl rfl) (by have:=hI5;simp only [List.length_cons,List.length_nil];omega) rfl (.skip _ (.skip _ .all)) rfl (fun a37 c37 ob37 hO37=>?_))
 refine al SN hle22 (zm6 ?_);refine TF.nil (ie ?_)
 exact aE (p.1+1,at34) _ ob37 H22 ⟨o2q,hd34,hI3.trans hle22,_,hO37,by simp only [List.length_append,List.length_cons,List.length_nil];omega,hI6.snoc hI5 hc31 ⟨hra34,hrb34⟩ hlb⟩ ky (fun w hw=>hw.drop) om):a:=h
theorem zq83 (h:a:=by
 first
  | exact qP hx (by simp_all)
  | exact lm hx hg o0 o1
  | exact lm hx hg o0 (by first | exact qK c52_1 c54_1 | exact fB c52_1 c54_1 | exact uO c52_1 g57_1 | exact uN c52_1 g62_1 | exact fR c52_1 g57_1 g62_1 (e1.trans (by simp_all)))
  | exact lm hx hg o0 (by first | exact qK c52_1 c54_1 | exact fB c52_1 c54_1 | exact uO c52_1 g57_1 | exact uN c52_1 g62_1 | exact fR c52_1 g57_1 g62_1 (e2.trans (by simp_all)))
  | exact qQ hx hg (by first | exact qK c52_0 c54_0 | exact fB c52_0 c54_0 | exact uO c52_0 g57_0 | exact uN c52_0 g62_0 | exact fR c52_0 g57_0 g62_0 (e1.trans (by simp_all)))):a:=h
theorem zq881 (h:a:=by
 refine aR (V:=fun k v ob H1=>[(3,v),(34,.int .i64 k)]) (K:=[(2,_),(32,_),(33,_)]) (L:=fun k v ob H1=>St [] w0 H H ((b1,_)::ob)) (I:=fun k v ob H1=>(0≤k∧k≤s.casts.length)∧OwnSl 1 I64.cells v (gZ s++(s.casts.take k.toNat).flatMap (·.args)) ob∧((s.casts.take k.toNat).flatMap (·.args)).length≤6 * k.toNat) (μ:=fun k=>(s.casts.length - k).toNat) 0 _ ob30 H ky ⟨o2q,hO30.cast (by first | (rw [qw h8];simp) | (rw [qx c17 c21];simp) | (rw [iN h8 (.inr c21)];simp) | (rw [iN h8 (.inl c17)];simp)),by simp⟩ (fun w hw=>hw) (fun k v ob H1 hI=>?_)
 exact zq882):a:=h
theorem zq539 (h:a:=by
 refine au (F:=F) (V:={V with at_:=at35}) (m:=m) [(b6,_)] rfl rfl (ab rfl rfl rfl rfl) (ns hG turn r35 deep h0 h1 (fun t2 h2=>by rw [htx] at h2;cases h2;have:=hTt.a1 om om;have:=hr35.1;have:=hr35.2.1 om;omega) (ih hdp.1 om) hK hdp) (hW.dice (.refl _) hd35) om rfl (fun v37 V37 hle37 hW37 hS37 hs37 ht37 hp37=>?_)
 dsimp only at hle37 hS37 hs37 ht37 hp37
 obtain⟨rfl,hn37⟩:=hp37
 exact al (S1 SN) hle37 (TF.nil (a8 (ba (V':=V37) (X:=[(b6,_)]) (.inl rfl) (bK rfl) rfl rfl (hW37.more om) hS37 (by(try dsimp only);omega) (by(try dsimp only);omega) ⟨rfl,by(try dsimp only);omega⟩)))):a:=h
theorem zq360 (h:a:=by
 refine ag rfl ?_ ?_<;>intro c80
 · exact zq361
 refine mX ?_
 obtain⟨va,vc,hv⟩:=hq6.form
 rw [hv] at hq6 ⊢
 refine eE ?_;refine mS ?_;refine dv ?_
 have hT:turnA p role set (cX p set) (rows.map (·.l)) []=(q.arms,0,q.rows.map (·.l)):=by rw [← hq7,List.drop_eq_nil_of_le om];rfl
 have hE:bp p role (rows.map (·.l)) set=(((cF p role set).1,(cF p role set).2.1,q.arms),0,q.rows.map (·.l)):=by unfold bp;rw [if_neg om,if_neg h34,if_neg h48,if_neg om,if_neg h72,if_neg (by rw [hT];simp),hT]
 exact aO (.inr rfl) (bO rfl (RVal.cellA rfl (.there _ (.here _)) rfl) (RVal.tmp rfl)) (fun w hw=>hw.drop.drop) ⟨_,q.ob,q.rows,_,q.oa,rfl,hq3,hq4,hq5,by rw [hE],by rw [hE];exact hq6,by rw [hE];rfl⟩):a:=h
theorem zq1010 (h:a:=by
 obtain⟨pgX,hXe,hX,hXp,hXl,hXq2⟩:∃X:SProg,X.cells=[.slice pgA.rp.1 pgA.protos.length pgA.rp.2,.slice pgA.lp.1 pgA.locals.length pgA.lp.2,.slice a32 (pgA.procs++[(fg (some ⟨b19,0,none⟩,1) (some ⟨b21,0,none⟩,1) (some ⟨b24,0,none⟩,1) (some ⟨b22,0,none⟩,1))]).length c32]∧ProgOk HPob32 X∧X.protos=pgA.protos∧X.locals=pgA.locals∧X.procs=pgA.procs++[(fg (some ⟨b19,0,none⟩,1) (some ⟨b21,0,none⟩,1) (some ⟨b24,0,none⟩,1) (some ⟨b22,0,none⟩,1))]:=⟨(⟨pgA.protos,pgA.rp,pgA.locals,pgA.lp,pgA.procs++[(fg (some ⟨b19,0,none⟩,1) (some ⟨b21,0,none⟩,1) (some ⟨b24,0,none⟩,1) (some ⟨b22,0,none⟩,1))],(a32,c32)⟩:SProg),rfl,xd (pp:=(some ⟨b19,0,none⟩,1)) (tp:=(some ⟨b21,0,none⟩,1)) (sp:=(some ⟨b24,0,none⟩,1)) (ap:=(some ⟨b22,0,none⟩,1)) (qp:=(a32,c32)) hPA hMp hMt hMa hMs hXq sq rfl,rfl,rfl,rfl⟩
 exact zq1011):a:=h
theorem zq1031 (h:a:=by
 refine aW rfl ?_ ?_<;>intro c37
 ·
  refine ig ?_;refine aI [true,true,true,true] [(0,4),(2,4),(1,5),(3,5),(4,1),(5,1)] kr kr (rZ ?_)
  refine aF (S1 (S1 (S1 (S1 SN)))) (Hp.le.refl _) (fun _ _=>aU rfl (.there _ (.there _ (.there _ (.here _)))) rfl) rfl (ak rfl (TL.call (ab rfl rfl rfl rfl) (fj hX hM) rfl (fun v39 H39 hle39 hp39=>?_)))
  replace hM:=hM.le hle39
  replace hPA:=hPA.le hle39
  subst hp39
  refine al (S1 (S1 (S1 (S1 SN)))) hle39 (ak rfl (TL.call (ab rfl rfl rfl rfl) (fj hPA hM) rfl (fun v41 H41 hle41 hp41=>?_)))
  subst hp41
  refine al (S1 (S1 (S1 (S1 SN)))) (hle39.trans (hle41)) (ar (qF (r:=true) rfl rfl kr kr (by rw [hck];exact qg _)) rfl (na ?_))
  exact aC (aN (.inr rfl) (ad rfl (RVal.tmp rfl)) rfl)
 exact zq1032):a:=h
theorem zq250 (h:a:=by
 refine ax rfl rfl rfl rfl (fun b85=>?_)
 refine TL.append (enc:=GRow.cells) rfl rfl rfl hO (Src.own [⟨(db p role (cx p role frm)),(a29,c29)⟩] (.here _) rfl rfl) (by simp only [List.length_cons,List.length_nil];omega) rfl (.skip _ (.skip _ .all)) rfl (fun a86 c86 ob86 hO86=>?_)
 refine mm ?_;refine jM ?_;refine fY ?_;refine rD ?_;refine TL.run (bj rfl rfl hO86) rfl (zm357 ?_);refine eD ?_
 have hEq:=qb (sets:=rows.map (·.l)) hno (by rw [List.length_map];exact fun j hj=>hI2 j om)
 rw [List.length_map,if_neg om] at hEq
 exact aO (.inr rfl) (bO rfl (RVal.tmp rfl) (RVal.tmp rfl)) (fun w hw=>hw.drop) ⟨_,_,rows++[⟨(db p role (cx p role frm)),(a29,c29)⟩],rfl,hO86,fun r hr=>by rcases List.mem_append.1 hr with hr | hr;exact hrw1 r hr;rw [List.mem_singleton.1 hr];exact hN1,by simp only [List.length_append,List.length_cons,List.length_nil];omega,by rw [hEq];simp,by rw [hEq]⟩):a:=h
theorem zq346 (h:a:=by
 refine TC.loop (ι:=TQ1) (V:=fun q=>[(16,.int .i64 q.k)]) (K:=[(0,_),(1,_),(4,_),(5,_),(9,_),(15,_)]) (L:=fun q=>St M w0 H q.h ((b15,[.int .i64 (cF p role set).1,gs (cF p role set).2.1,q.v])::(b4,[.int .i64 0,gs [],.slice none 0 0])::(bw,WK p role q.sv)::(q.ob++q.oa))) (I:=fun q=>(0≤q.k∧q.k≤(cX p set).length)∧H40.le q.h∧OwnSl 1 GRow.cells q.sv q.rows q.ob∧GRowsOk q.h q.rows∧q.rows.length≤40∧OwnSl 4 SArm.cells q.v q.arms q.oa∧turnA p role set ((cX p set).drop q.k.toNat) (q.rows.map (·.l)) q.arms=turnA p role set (cX p set) (rows.map (·.l)) []∧(q.arms.length:Int)=q.k) (μ:=fun q=>((cX p set).length - q.k).toNat) (i:=⟨0,H40,_,ob,rows,.slice none 0 0,[],[]⟩) ky ⟨⟨by show(0:Int)≤0;omega,by show(0:Int)≤_;omega⟩,.refl _,hO,hrw,hrl,OwnSl.nil,rfl,rfl⟩ (fun w hw=>by rw [List.append_nil];exact hw) (fun q hI=>?_)
 exact zq347):a:=h
theorem zq446 (h:a:=by
 refine zm4 ?_
 refine TL.alloc rfl (fun b12=>?_)
 refine gD ?_;refine jr ?_;refine dZ ?_
 refine TC.cond rfl ?_ ?_<;>intro c72
 ·
  refine im ?_;refine mS ?_;refine dv ?_;refine gi ?_
  have hE:bp p role (rows.map (·.l)) set=((0,[],[]),804,rows.map (·.l)):=by unfold bp;rw [if_neg om,if_neg h34,if_neg h48,if_neg om,if_pos (cN (p:=jJ p set) k0 hlx (by simpa [jJ] using c72) hal)]
  exact aO (.inr rfl) (bO rfl (RVal.cellA rfl (.there _ (.here _)) rfl) (RVal.tmp rfl)) (fun w hw=>by rw [List.append_nil];exact(St.dropT (A:=(bw,_)::ob) hw.drop.drop)) ⟨_,ob,rows,.slice none 0 0,[],rfl,hO,hrw,hrl,by rw [hE],by rw [hE];exact OwnSl.nil,by rw [hE];rfl⟩
 refine gb ?_
 exact aM (k+1) ⟨o2q,bM (p:=jJ p set) k0 hlx (by simpa [jJ] using c72) hal⟩ ky (fun w hw=>St.dropT (A:=(b4,_)::(bw,_)::ob) hw.drop) om):a:=h
theorem zq890 (h:a:=by
 refine ag rfl ?_ ?_<;>intro c35
 ·
  obtain⟨x,hx⟩:=ao (l:=s.casts) k0 c35
  have hxa:=hs.cs x (List.mem_of_getElem? hx)
  have hx6:=hl3 x (List.mem_of_getElem? hx)
  refine cQ ?_;refine TL.run (af rfl hc rfl om om) rfl (TL.run (bg hc hx rfl rfl) rfl (TL.alloc rfl (fun b5=>?_)))
  refine ru ?_
  refine TL.append (enc:=I64.cells) rfl rfl rfl hO (Src.sl hxa) (by have hh:=kY s;simp only [List.length_append];omega) rfl (.skip _ (.skip _ .all)) rfl (fun a41 c41 ob41 hO41=>?_)
  refine jV ?_
  exact aE (k+1) _ ob41 H ⟨o2q,hO41.cast (by rw [bB k0 hx,List.flatMap_append];simp),by rw [bB k0 hx,List.flatMap_append,List.length_append];simp only [List.flatMap_cons,List.flatMap_nil,List.append_nil];omega⟩ ky (fun w hw=>hw.drop) om
 refine oJ ?_
 exact dG (.inr rfl) (ad rfl (RVal.tmp rfl)) (.skip _ .all) ⟨rfl,hO.cast (by rw [bh c35 k0,kW])⟩):a:=h
theorem zq899 (h:a:=by
 refine ag rfl ?_ ?_<;>intro c35
 ·
  obtain⟨x,hx⟩:=ao (l:=s.casts) k0 c35
  have hxa:=hs.cs x (List.mem_of_getElem? hx)
  have hx6:=hl3 x (List.mem_of_getElem? hx)
  refine cQ ?_;refine TL.run (af rfl hc rfl om om) rfl (TL.run (bg hc hx rfl rfl) rfl (TL.alloc rfl (fun b5=>?_)))
  refine ru ?_
  refine TL.append (enc:=I64.cells) rfl rfl rfl hO (Src.sl hxa) (by have hh:=kY s;simp only [List.length_append];omega) rfl (.skip _ (.skip _ (.skip _ .all))) rfl (fun a41 c41 ob41 hO41=>?_)
  refine jV ?_
  exact aE (k+1) _ ob41 H ⟨o2q,hO41.cast (by rw [bB k0 hx,List.flatMap_append];simp),by rw [bB k0 hx,List.flatMap_append,List.length_append];simp only [List.flatMap_cons,List.flatMap_nil,List.append_nil];omega⟩ ky (fun w hw=>hw.drop) om
 refine oJ ?_
 exact dG (.inr rfl) (ad rfl (RVal.tmp rfl)) (.skip _ (.skip _ .all)) ⟨rfl,hO.cast (by rw [bh c35 k0,kW])⟩):a:=h
theorem zq251 (h:a:=by
 obtain⟨r,hrx⟩:=ao (l:=rows) m0 c60
 refine qr ?_;refine nc ?_;refine zm0 ?_;refine TL.run (bP rfl rfl hO om om) rfl (TL.run (dU (j:=0) rfl hO (.skip _ .all) hrx rfl) rfl (zm0 ?_))
 refine aq (ab rfl rfl rfl rfl) (nK (hrw1 r (List.mem_of_getElem? hrx)) hN1) rfl (TL.nil (ae (TC.cond rfl (fun c71=>?_) (fun c71=>?_))))
 ·
  refine m4 ?_;refine gi ?_
  have hEq:=xi (sets:=rows.map (·.l)) hno (k:=m.toNat) (by rw [List.getElem?_map,hrx];simpa using c71) hI2
  rw [show((m.toNat:Nat):Int)=m by omega] at hEq
  exact aO (.inr rfl) (bO rfl (RVal.tmp rfl) (RVal.tmp rfl)) (fun w hw=>hw) ⟨_,_,rows,rfl,hO,hrw1,hrl,by rw [hEq],by rw [hEq]⟩
 refine gb ?_
 exact aM (m+1) ⟨o2q,fun j2 h2=>by by_cases e:j2<m.toNat;exact hI2 j2 e;rw [show j2=m.toNat by omega,List.getElem?_map,hrx];intro e2;exact absurd (by simpa using e2) (by simpa using c71)⟩ ky (fun w hw=>hw) om):a:=h
theorem zq962 (h:a:=by
 refine bJ (!decide (xB=[])&&bX bound xB) 74 [(3,_),(4,_),(6,_),(8,_),(15,_),(62,_),(63,_),(64,_),(65,_),(66,_),(67,_)] ky ?_ ?_
 ·
  refine jN ?_;refine mR ?_
  refine ah (s:=70) rfl ?_ ?_<;>intro g70
  ·
   have q70:=bi g70
   refine ef ?_;refine aL rfl rfl (ab rfl rfl rfl rfl) (gt xB hB) rfl (dk ?_)
   exact aS rfl (by simp_all) ky
  have q70:=a7 g70
  refine jO ?_
  exact aS rfl (by simp_all) ky
 refine TC.cond rfl ?_ ?_<;>intro c74
 ·
  have h2:=cN (p:=(fun n=>!(!decide (n=[])&&bX bound n))) k0 hxB (by rw [c74];rfl) hal
  exact rf
 refine jP ?_
 exact aM (k+1) ⟨o2q,bM (p:=(fun n=>!(!decide (n=[])&&bX bound n))) k0 hxB (by rw [c74];rfl) hal⟩ ky (fun w hw=>hw) om):a:=h
theorem zq415 (h:a:=by
 refine aW rfl ?_ ?_<;>intro c101
 ·
  refine im ?_;refine zm0 ?_;refine cf rfl rfl rfl rfl rfl (.there _ (.there _ (.here _))) rfl rfl (dv ?_);refine jc ?_
  have hT:turnA p role set (cX p set) (rows.map (·.l)) []=([],(bA p role (q.rows.map (·.l)) (dg p set lb).2.2.1).2.1,(bA p role (q.rows.map (·.l)) (dg p set lb).2.2.1).2.2):=by rw [← hq7];exact wN hlx c101
  have hE:bp p role (rows.map (·.l)) set=((0,[],[]),(bA p role (q.rows.map (·.l)) (dg p set lb).2.2.1).2.1,(bA p role (q.rows.map (·.l)) (dg p set lb).2.2.1).2.2):=by unfold bp;rw [if_neg om,if_neg h34,if_neg h48,if_neg om,if_neg h72,if_pos (by rw [hT];exact c101),hT]
  exact aO (.inr rfl) (bO rfl (RVal.cellA rfl (.there _ (.there _ (.here _))) rfl) (RVal.tmp rfl)) (fun w hw=>by rw [List.append_nil];exact(St.dropT (A:=(bw,_)::ob97) hw.drop.drop.drop)) ⟨_,ob97,rows97,.slice none 0 0,[],rfl,hO97,hrw97,hrl97,by rw [hE];exact hm97,by rw [hE];exact OwnSl.nil,by rw [hE];rfl⟩
 exact zq416):a:=h
theorem zq460 (h:a:=by
 refine aW rfl ?_ ?_<;>intro c30
 ·
  refine dS ?_;refine zm4 ?_;refine dv ?_;refine jc ?_
  have hE:gT p=((cM p rr).1,k):=by unfold gT;rw [if_neg (by rw [hRB];decide),← hI3,wY hrx c30,show((k.toNat:Nat):Int)=k by omega]
  exact aN (.inr rfl) (d7 rfl (RVal.tmp rfl) (RVal.tmp rfl) (RVal.tmp rfl)) ⟨_,by rw [hE],fun h=>absurd h (by rw [hE];exact c30),fun _=>rfl⟩
 have hR2:=hRo (by simpa using c30)
 refine cW ?_;refine rF ?_
 refine ax rfl rfl rfl rfl (fun b35=>?_)
 refine TL.append (enc:=SLocal.cells) rfl rfl rfl hO (Src.own [⟨nm,ts,tp⟩] (.here _) rfl rfl) (by have:=hLs.len;simp only [List.length_cons,List.length_nil];omega) rfl (.skip _ (.skip _ (.skip _ .all))) rfl (fun a36 c36 ob36 hO36=>?_)
 refine jY ?_
 exact aE (k+1) _ ob36 H26 ⟨o2q,hI2.trans hle26,by rw [show(k+1).toNat=k.toNat+1 by omega,← uG hrx (by simpa using c30)];exact hI3,_,hO36,(hLs.le hle26).snoc hrx hR2.1 hR2.2.1 hR2.2.2⟩ ky (fun w hw=>hw.drop.drop) om):a:=h
theorem zq426 (h:a:=by
 refine aF (S1 (S1 (S1 (S1 SN)))) (Hp.le.refl _) (fun _ _=>aJ hlab3 hlx rfl rfl) rfl (rZ ?_);refine rY ?_
 refine aA rfl rfl rfl rfl (fun b113=>?_)
 refine ak rfl (TL.append (enc:=SArm.cells) rfl rfl rfl hq6 (Src.own [⟨lb,_,_,_⟩] (.here _) rfl rfl) (by simp only [List.length_cons,List.length_nil];omega) rfl (.skip _ (.skip _ (.skip _ (.skip _ (.skip _ (.past _ .all)))))) rfl (fun a114 c114 ob114 hO114=>?_))
 refine o5 ?_;refine vQ ?_;refine TF.back (TF.nil (ie ?_))
 exact aM (⟨q.k+1,H97,sv97,ob97,rows97,_,ob114,q.arms++[⟨lb,(dg p set lb).1,(dg p set lb).2.1,(bA p role (q.rows.map (·.l)) (dg p set lb).2.2.1).1⟩]⟩:TQ1) ⟨⟨by show 0≤q.k+1;omega,by show q.k+1≤_;omega⟩,hq2.trans (leP90.trans hle97),hO97,hrw97,hrl97,hO114,by show turnA p role set ((cX p set).drop (q.k+1).toNat) (rows97.map (·.l)) _=_;rw [hm97,show(q.k+1).toNat=q.k.toNat+1 by omega,← ur hlx (by simpa using c101)];exact hq7,by simp only [List.length_append,List.length_cons,List.length_nil];omega⟩ ky (fun w hw=>hw.drop.drop) (by show(_ - (q.k+1)).toNat<_;omega)):a:=h
theorem zq761 (h:a:=by
 refine gB (enc:=I64.cells) (t:=4) (X:=[]) (Y:=[(b11,_),(b8,_),(b4,_),(b15,_),(bd,_)]) [_,_] rfl hW67.bag rfl rfl rfl (by intro y hy;exact⟨⟨_,rfl⟩,trivial⟩) (fun Sb68 Bb68 hSb68 hNb68 hbb68 hBb68=>?_)
 refine zm4 ?_;refine pD ?_;refine zm1 ?_
 refine ag rfl ?_ ?_<;>intro c73
 · exact absurd c73 c52
 refine rF ?_
 refine au (F:=⟨b15,bd,.slice psa ps.length psc,ps,bT,.slice none 0 0,[],.slice none 0 0,[],0,dl⟩) (V:={V67 with S:=Sb68,B:=Bb68}) (m:=20 * k.toNat+12+1+1) [(b11,_),(b8,_),(b4,_)] rfl rfl (ab rfl rfl rfl rfl) (d5 ⟨7,[],[],[],(p.name++rr), -1,some ⟨b68,0,none⟩,2,2,none,0,0,none,0,0, -1⟩ ⟨.nil,.nil,.nil,(hG.proc hrr),(SlT.blk hbb68 le2),.nil,.nil,(by have:=hW67.n10;dsimp only at *;omega),Nat.zero_le _,Nat.zero_le _⟩) (hW67.bagA hSb68 hNb68 hBb68) om rfl (fun v79 V79 hle79 hW79 hS79 hs79 ht79 hp79=>?_)
 dsimp only at hle79 hS79 hs79 ht79 hp79
 obtain⟨rfl,hn79⟩:=hp79
 refine TL.nil (ie ?_)
 exact fH (k+1) V79 r (⟨hW79.more om,o2q,((((hI3.trans hle47).trans hle60).trans hle67).trans hle79),by omega⟩) ky (fun w hw=>hw.drop.drop) om):a:=h
theorem zq782 (h:a:=by
 refine gB (enc:=I64.cells) (t:=4) (X:=[]) (Y:=[(b11,_),(b8,_),(b4,_),(b15,_),(bd,_)]) [_,_] rfl hW67.bag rfl rfl rfl (by intro y hy;exact⟨⟨_,rfl⟩,trivial⟩) (fun Sb68 Bb68 hSb68 hNb68 hbb68 hBb68=>?_)
 refine zm4 ?_;refine pD ?_;refine zm1 ?_
 refine ag rfl ?_ ?_<;>intro c73
 ·
  refine rF ?_
  refine au (F:=⟨b15,bd,.slice psa ps.length psc,ps,bT,.slice none 0 0,[],.slice none 0 0,[],0,dl⟩) (V:={V67 with S:=Sb68,B:=Bb68}) (m:=20 * k.toNat+12+1+1) [(b11,_),(b8,_),(b4,_)] rfl rfl (ab rfl rfl rfl rfl) (eG ⟨6,[],[],[],(p.name++rr), -1,some ⟨b68,0,none⟩,2,2,none,0,0,none,0,0, -1⟩ ⟨.nil,.nil,.nil,(hG.proc hrr),(SlT.blk hbb68 le2),.nil,.nil,(by have:=hW67.n10;dsimp only at *;omega),Nat.zero_le _,Nat.zero_le _⟩) (hW67.bagA hSb68 hNb68 hBb68) om rfl (fun v76 V76 hle76 hW76 hS76 hs76 ht76 hp76=>?_)
  dsimp only at hle76 hS76 hs76 ht76 hp76
  obtain⟨rfl,hn76⟩:=hp76
  refine TL.nil (ie ?_)
  exact fH (k+1) V76 r (⟨hW76.more om,o2q,((((hI3.trans hle47).trans hle60).trans hle67).trans hle76),by omega⟩) ky (fun w hw=>hw.drop.drop) om
 exact absurd c52 c73):a:=h
theorem zq145 (h:a:=by
 refine TC.cond rfl ?_ ?_<;>intro c17
 ·
  have hgo:=dgo_T c17
  refine cW ?_;refine TC.block (cZ ?_);refine TL.run (lg rfl rfl dq) rfl (zm0 ?_);refine TL.run (PR.to (iT rfl) (congrArg (Value.int .u8) (zw p.1))) rfl (ax rfl rfl rfl rfl (fun b22=>?_))
  refine zm0 ?_
  refine TL.append (enc:=U8.cells) rfl rfl rfl (OwnSl.blk (enc:=U8.cells) [UInt8.ofNat (48+p.1 % 10)] rfl rfl dq) (Src.og hO (.skip _ .all)) (by have:=hD.len;simp;omega) rfl (.take (.here _) rfl) rfl (fun a24 c24 ob24 hO24=>?_)
  refine zm1 ?_;refine jN ?_;refine TL.run (PR.to (pr_quo rfl rfl dq) (congrArg (Value.int .u64) (dig_quo hD.lt))) rfl (dk ?_)
  exact a8 (aE (p.1 / 10,0) _ ob24 H1 ⟨_,hO24,hD.next hgo⟩ ky (fun w hw=>hw.dropN) (hD.down hgo))
 have hend:=dgo_F c17
 refine gG ?_;refine dZ ?_
 refine ag rfl ?_ ?_<;>intro c28
 ·
  refine cZ ?_;refine TL.run (ti rfl hO .all) rfl (TL.run (dA rfl rfl (by have:=hD.len;simp;omega)) rfl (oT ?_))
  exact aw (.inr rfl) (ad rfl (RVal.tmp rfl)) (congrArg gs (by first | exact t6 hD hend c28 | exact tZ hD hend c28))
 refine j7 ?_;refine TL.run (ti rfl hO .all) rfl (dv ?_)
 exact aw (.inr rfl) (ad rfl (RVal.tmp rfl)) (congrArg gs (by first | exact t6 hD hend c28 | exact tZ hD hend c28))):a:=h
theorem zq466 (h:a:=by
 refine au (F:=F) (V:={V54 with at_:=at60}) (m:=m+0+1) [(b10,_),(b8,_),(b5,_)] rfl rfl (ab rfl rfl rfl rfl) (dT _) (hW54.dice (.refl _) hd60) om rfl (fun v61 V61 hle61 hW61 hS61 hs61 ht61 hp61=>?_)
 dsimp only at hle61 hS61 hs61 ht61 hp61
 obtain⟨i61,rfl⟩:=hp61
 refine al (S1 (S1 (S1 SN))) (hle54.trans (hle61)) (aA rfl rfl rfl rfl (fun b62=>?_))
 refine r6 ?_;refine ik ?_
 refine TC.region (gB (enc:=I64.cells) (t:=4) (X:=[]) (Y:=[(b10,_),(b8,_),(b5,_),(F.bw,_),(F.bd,_)]) [_,_] rfl hW61.bag rfl rfl rfl (by intro y hy;exact⟨⟨_,rfl⟩,trivial⟩) (fun Sb62 Bb62 hSb62 hNb62 hbb62 hBb62=>?_))
 refine zm0 ?_;refine eE ?_
 refine au (F:=F) (V:={V61 with S:=Sb62,B:=Bb62}) (m:=m+0+1+1) [(b10,_),(b8,_),(b5,_)] rfl rfl (ab rfl rfl rfl rfl) (d5 ⟨7,[],[],[],(p.name++rr), -1,some ⟨b62,0,none⟩,2,2,none,0,0,none,0,0, -1⟩ ⟨.nil,.nil,.nil,(hG.proc hrr),(SlT.blk hbb62 le2),.nil,.nil,(by have:=hW61.n10;dsimp only at *;omega),Nat.zero_le _,Nat.zero_le _⟩) (hW61.bagA hSb62 hNb62 hBb62) om rfl (fun v66 V66 hle66 hW66 hS66 hs66 ht66 hp66=>?_)
 dsimp only at hle66 hS66 hs66 ht66 hp66
 obtain⟨rfl,hn66⟩:=hp66
 exact TL.nil (ba (V':=V66) (X:=[(b10,_),(b8,_),(b5,_)]) (.inl rfl) (bK rfl) rfl rfl (hW66.more om) (hS44.trans (hS54.trans (hS61.trans (hSb62.trans (hS66))))) (by(try dsimp only);omega) (by(try dsimp only);omega) rfl)):a:=h
theorem zq1122 (h:a:=by
 refine gC (s:=76) rfl ?_ ?_<;>intro g76
 ·
  have q76:=of_decide_eq_true g76
  have hpt:=(htw.resolve_left (by rw [q76];decide)).2
  refine cw rfl rfl (aX rfl) rfl (eC rfl rfl (ay rfl (.here _) rfl) rfl (cw rfl rfl (aX rfl) rfl (eC rfl rfl (ay rfl (.there _ (.there _ (.here _))) rfl) rfl ?_)))
  refine cw rfl rfl (ai rfl rfl hX.q) rfl (vx ?_);refine cw rfl rfl (aD rfl) rfl (gC (s:=84) rfl (fun g84=>?_) (fun g84=>?_))
  ·
   have q84:=of_decide_eq_true g84
   refine lF ?_;refine oB rfl rfl rfl rfl (vx ?_);refine lF ?_;refine lF ?_;refine vw ?_;refine vw ?_;refine oB rfl rfl rfl rfl (cw rfl rfl (aD rfl) rfl (ic ?_))
   exact TF.nil (ae (TC.ret (aN (.inr rfl) (ad rfl (RVal.tmp rfl)) rfl)))
  have q84:=of_decide_eq_false g84
  exact absurd hpt q84
 have q76:=of_decide_eq_false g76
 have h15:=htw.resolve_right (fun h=>q76 h.1)
 refine lF ?_;refine lF ?_;refine lF ?_;refine vx ?_;refine cw rfl rfl (aX rfl) rfl (eC rfl rfl (ay rfl (.here _) rfl) rfl (vx ?_))
 refine cw rfl rfl (aD rfl) rfl (gC (s:=89) rfl (fun g89=>?_) (fun g89=>?_))
 ·
  have q89:=of_decide_eq_true g89
  refine lF ?_;refine lF ?_;refine vw ?_;refine vw ?_;refine oB rfl rfl rfl rfl (cw rfl rfl (aD rfl) rfl (ic ?_))
  exact TF.nil (ae (TC.ret (aN (.inr rfl) (ad rfl (RVal.tmp rfl)) rfl)))
 have q89:=of_decide_eq_false g89
 exact absurd h15 q89):a:=h
end Go.Sx
