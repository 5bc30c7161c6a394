/- Client laws hold, whatever the input. -/
import Derived.Test.YthcobbfffjfboaaGreatDoorG2
import Derived.Test.YthcobbfffjfboaaGreatDoorG9
import Derived.Test.YthcobbfffjfboaaGreatDoorSh
import Derived.Test.YthcobbfffjfboaaGreatDoorPr
import Derived.Test.YthcobbfffjfboaaGreatDoorE4
import Derived.Test.YthcobbfffjfboaaGreatDoorCards
import Derived.Test.YthcobbfffjfboaaGreatDoorTie
import Derived.Deep.DeepWitnessRowRef
import Derived.LaidMore
import Derived.OpenShut
import Derived.ProofKit
import Derived.KernelRfl
set_option linter.unusedVariables false
set_option linter.unusedSimpArgs false
set_option linter.unusedSectionVars false
namespace Go.Proofs.YthcobbfffjfboaaGreatDoor
open Go Abs Go.RowKit
def kindsW:List Value:=[.string ⟨#[]⟩,.int .i64 (0),.bool false,.string ⟨#[100]⟩,.int .i64 (0),.bool true,.string ⟨#[97]⟩,.int .i64 (0),.bool true,.string ⟨#[112]⟩,.int .i64 (-1),.bool false,.string ⟨#[101]⟩,.int .i64 (2),.bool false,.string ⟨#[109]⟩,.int .i64 (2),.bool false,.string ⟨#[104]⟩,.int .i64 (1),.bool false,.string ⟨#[107]⟩,.int .i64 (1),.bool true,.string ⟨#[117]⟩,.int .i64 (1),.bool false,.string ⟨#[115]⟩,.int .i64 (2),.bool false,.string ⟨#[120]⟩,.int .i64 (2),.bool false]
def kt:Nat→Option Nat:=fun k=>List.lookup k [(27,3),(54,77),(55,112),(56,42),(61,21),(62,119),(63,62),(64,120),(65,87),(66,189),(67,63),(69,118),(70,123),(71,156),(73,23),(74,50),(75,82),(76,46),(77,78),(78,54),(79,61),(81,59),(82,39),(84,22),(85,184),(86,168),(87,125),(88,160),(93,99),(95,98),(96,53),(97,90),(104,19),(111,107),(113,103),(114,170),(118,127),(120,20),(121,70),(124,126),(125,225),(126,180),(127,227),(128,183),(130,52),(131,8),(132,9),(133,10),(134,11),(135,12),(136,13),(137,14),(138,15),(139,16),(140,17),(141,18),(142,24),(145,27),(148,131),(150,93),(151,110),(154,135),(156,132),(158,95),(161,137),(172,212),(173,213),(175,80),(191,181),(192,182),(194,136),(195,220),(200,74),(204,30),(211,171),(212,173),(213,174),(219,169),(220,172),(221,140),(224,188),(227,144),(228,187),(229,138),(232,29),(233,31),(234,32),(235,33),(236,34),(237,35),(238,36),(239,37),(240,38),(241,40),(242,41),(243,43),(244,44),(245,45),(246,47),(247,48),(248,49),(249,51),(250,55),(251,56),(252,57),(253,58),(259,72),(261,121),(262,190),(263,128),(265,86),(266,88),(267,163),(268,161),(269,193),(270,192),(271,194),(272,195),(278,133),(282,94),(283,83),(284,97),(285,79),(286,75),(287,157),(293,155),(304,219),(306,233),(312,153),(314,113),(316,216),(317,217),(318,218),(319,196),(320,197),(321,198),(329,76),(330,81),(331,84),(332,85),(333,89),(334,91),(335,92),(336,96),(337,100),(338,101),(339,102),(340,104),(341,105),(342,106),(343,108),(344,109),(345,111),(346,114),(347,115),(348,116),(349,117),(350,122),(351,124),(352,129),(353,130),(354,134),(360,149),(362,159),(363,224),(364,226),(368,191),(369,164),(370,158),(371,165),(372,166),(373,167),(385,211),(398,242),(408,228),(416,154),(417,162),(418,175),(419,176),(420,177),(421,178),(422,179),(437,214),(438,215),(464,210),(193,186),(196,185),(226,60),(256,67),(324,200),(10000,0),(10001,2),(10002,1),(10003,3)]
abbrev FO (k:Nat) (f:AFunc):Prop:=FnOk Tryz.prog kt mdA (fun k=>(List.lookup k xsA).isSome) k f
theorem fk {k:Nat} {af:AFunc} (f:Nat) {fn:Func} (hk:kt k=some f) (he:enterable Tryz.prog f=true) (hf:Tryz.prog.funcs[f]?=some fn) (hok:okFunc Tryz.prog kt mdA (fun k=>(List.lookup k xsA).isSome) fn af=true):FO k af:=FnOk.mk' (f:=f) (fn:=fn) hk he hf hok
theorem o27:FO 27 f27:=fk 3 rfl (by kernel_rfl) Tryz.func3 (by kernel_rfl)
theorem o54:FO 54 f54:=fk 77 rfl (by kernel_rfl) Tryz.func77 (by kernel_rfl)
theorem o55:FO 55 f55:=fk 112 rfl (by kernel_rfl) Tryz.func112 (by kernel_rfl)
theorem o56:FO 56 f56:=fk 42 rfl (by kernel_rfl) Tryz.func42 (by kernel_rfl)
theorem o61:FO 61 f61:=fk 21 rfl (by kernel_rfl) Tryz.func21 (by kernel_rfl)
theorem o62:FO 62 f62:=fk 119 rfl (by kernel_rfl) Tryz.func119 (by kernel_rfl)
theorem o63:FO 63 f63:=fk 62 rfl (by kernel_rfl) Tryz.func62 (by kernel_rfl)
theorem o64:FO 64 f64:=fk 120 rfl (by kernel_rfl) Tryz.func120 (by kernel_rfl)
theorem o65:FO 65 f65:=fk 87 rfl (by kernel_rfl) Tryz.func87 (by kernel_rfl)
theorem o66:FO 66 f66:=fk 189 rfl (by kernel_rfl) Tryz.func189 (by kernel_rfl)
theorem o67:FO 67 f67:=fk 63 rfl (by kernel_rfl) Tryz.func63 (by kernel_rfl)
theorem o69:FO 69 f69:=fk 118 rfl (by kernel_rfl) Tryz.func118 (by kernel_rfl)
theorem o70:FO 70 f70:=fk 123 rfl (by kernel_rfl) Tryz.func123 (by kernel_rfl)
theorem o71:FO 71 f71:=fk 156 rfl (by kernel_rfl) Tryz.func156 (by kernel_rfl)
theorem o73:FO 73 f73:=fk 23 rfl (by kernel_rfl) Tryz.func23 (by kernel_rfl)
theorem o74:FO 74 f74:=fk 50 rfl (by kernel_rfl) Tryz.func50 (by kernel_rfl)
theorem o75:FO 75 f75:=fk 82 rfl (by kernel_rfl) Tryz.func82 (by kernel_rfl)
theorem o76:FO 76 f76:=fk 46 rfl (by kernel_rfl) Tryz.func46 (by kernel_rfl)
theorem o77:FO 77 f77:=fk 78 rfl (by kernel_rfl) Tryz.func78 (by kernel_rfl)
theorem o78:FO 78 f78:=fk 54 rfl (by kernel_rfl) Tryz.func54 (by kernel_rfl)
theorem o79:FO 79 f79:=fk 61 rfl (by kernel_rfl) Tryz.func61 (by kernel_rfl)
theorem o81:FO 81 f81:=fk 59 rfl (by kernel_rfl) Tryz.func59 (by kernel_rfl)
theorem o82:FO 82 f82:=fk 39 rfl (by kernel_rfl) Tryz.func39 (by kernel_rfl)
theorem o84:FO 84 f84:=fk 22 rfl (by kernel_rfl) Tryz.func22 (by kernel_rfl)
theorem o85:FO 85 f85:=fk 184 rfl (by kernel_rfl) Tryz.func184 (by kernel_rfl)
theorem o86:FO 86 f86:=fk 168 rfl (by kernel_rfl) Tryz.func168 (by kernel_rfl)
theorem o87:FO 87 f87:=fk 125 rfl (by kernel_rfl) Tryz.func125 (by kernel_rfl)
theorem o88:FO 88 f88:=fk 160 rfl (by kernel_rfl) Tryz.func160 (by kernel_rfl)
theorem o93:FO 93 f93:=fk 99 rfl (by kernel_rfl) Tryz.func99 (by kernel_rfl)
theorem o95:FO 95 f95:=fk 98 rfl (by kernel_rfl) Tryz.func98 (by kernel_rfl)
theorem o96:FO 96 f96:=fk 53 rfl (by kernel_rfl) Tryz.func53 (by kernel_rfl)
theorem o97:FO 97 f97:=fk 90 rfl (by kernel_rfl) Tryz.func90 (by kernel_rfl)
theorem o104:FO 104 f104:=fk 19 rfl (by kernel_rfl) Tryz.func19 (by kernel_rfl)
theorem o111:FO 111 f111:=fk 107 rfl (by kernel_rfl) Tryz.func107 (by kernel_rfl)
theorem o113:FO 113 f113:=fk 103 rfl (by kernel_rfl) Tryz.func103 (by kernel_rfl)
theorem o114:FO 114 f114:=fk 170 rfl (by kernel_rfl) Tryz.func170 (by kernel_rfl)
theorem o118:FO 118 f118:=fk 127 rfl (by kernel_rfl) Tryz.func127 (by kernel_rfl)
theorem o120:FO 120 f120:=fk 20 rfl (by kernel_rfl) Tryz.func20 (by kernel_rfl)
theorem o121:FO 121 f121:=fk 70 rfl (by kernel_rfl) Tryz.func70 (by kernel_rfl)
theorem o124:FO 124 f124:=fk 126 rfl (by kernel_rfl) Tryz.func126 (by kernel_rfl)
theorem o125:FO 125 f125:=fk 225 rfl (by kernel_rfl) Tryz.func225 (by kernel_rfl)
theorem o126:FO 126 f126:=fk 180 rfl (by kernel_rfl) Tryz.func180 (by kernel_rfl)
theorem o127:FO 127 f127:=fk 227 rfl (by kernel_rfl) Tryz.func227 (by kernel_rfl)
theorem o128:FO 128 f128:=fk 183 rfl (by kernel_rfl) Tryz.func183 (by kernel_rfl)
theorem o130:FO 130 f130:=fk 52 rfl (by kernel_rfl) Tryz.func52 (by kernel_rfl)
theorem o131:FO 131 f131:=fk 8 rfl (by kernel_rfl) Tryz.func8 (by kernel_rfl)
theorem o132:FO 132 f132:=fk 9 rfl (by kernel_rfl) Tryz.func9 (by kernel_rfl)
theorem o133:FO 133 f133:=fk 10 rfl (by kernel_rfl) Tryz.func10 (by kernel_rfl)
theorem o134:FO 134 f134:=fk 11 rfl (by kernel_rfl) Tryz.func11 (by kernel_rfl)
theorem o135:FO 135 f135:=fk 12 rfl (by kernel_rfl) Tryz.func12 (by kernel_rfl)
theorem o136:FO 136 f136:=fk 13 rfl (by kernel_rfl) Tryz.func13 (by kernel_rfl)
theorem o137:FO 137 f137:=fk 14 rfl (by kernel_rfl) Tryz.func14 (by kernel_rfl)
theorem o138:FO 138 f138:=fk 15 rfl (by kernel_rfl) Tryz.func15 (by kernel_rfl)
theorem o139:FO 139 f139:=fk 16 rfl (by kernel_rfl) Tryz.func16 (by kernel_rfl)
theorem o140:FO 140 f140:=fk 17 rfl (by kernel_rfl) Tryz.func17 (by kernel_rfl)
theorem o141:FO 141 f141:=fk 18 rfl (by kernel_rfl) Tryz.func18 (by kernel_rfl)
theorem o142:FO 142 f142:=fk 24 rfl (by kernel_rfl) Tryz.func24 (by kernel_rfl)
theorem o145:FO 145 f145:=fk 27 rfl (by kernel_rfl) Tryz.func27 (by kernel_rfl)
theorem o148:FO 148 f148:=fk 131 rfl (by kernel_rfl) Tryz.func131 (by kernel_rfl)
theorem o150:FO 150 f150:=fk 93 rfl (by kernel_rfl) Tryz.func93 (by kernel_rfl)
theorem o151:FO 151 f151:=fk 110 rfl (by kernel_rfl) Tryz.func110 (by kernel_rfl)
theorem o154:FO 154 f154:=fk 135 rfl (by kernel_rfl) Tryz.func135 (by kernel_rfl)
theorem o156:FO 156 f156:=fk 132 rfl (by kernel_rfl) Tryz.func132 (by kernel_rfl)
theorem o158:FO 158 f158:=fk 95 rfl (by kernel_rfl) Tryz.func95 (by kernel_rfl)
theorem o161:FO 161 f161:=fk 137 rfl (by kernel_rfl) Tryz.func137 (by kernel_rfl)
theorem o172:FO 172 f172:=fk 212 rfl (by kernel_rfl) Tryz.func212 (by kernel_rfl)
theorem o173:FO 173 f173:=fk 213 rfl (by kernel_rfl) Tryz.func213 (by kernel_rfl)
theorem o175:FO 175 f175:=fk 80 rfl (by kernel_rfl) Tryz.func80 (by kernel_rfl)
theorem o191:FO 191 f191:=fk 181 rfl (by kernel_rfl) Tryz.func181 (by kernel_rfl)
theorem o192:FO 192 f192:=fk 182 rfl (by kernel_rfl) Tryz.func182 (by kernel_rfl)
theorem o194:FO 194 f194:=fk 136 rfl (by kernel_rfl) Tryz.func136 (by kernel_rfl)
theorem o195:FO 195 f195:=fk 220 rfl (by kernel_rfl) Tryz.func220 (by kernel_rfl)
theorem o200:FO 200 f200:=fk 74 rfl (by kernel_rfl) Tryz.func74 (by kernel_rfl)
theorem o204:FO 204 f204:=fk 30 rfl (by kernel_rfl) Tryz.func30 (by kernel_rfl)
theorem o211:FO 211 f211:=fk 171 rfl (by kernel_rfl) Tryz.func171 (by kernel_rfl)
theorem o212:FO 212 f212:=fk 173 rfl (by kernel_rfl) Tryz.func173 (by kernel_rfl)
theorem o213:FO 213 f213:=fk 174 rfl (by kernel_rfl) Tryz.func174 (by kernel_rfl)
theorem o219:FO 219 f219:=fk 169 rfl (by kernel_rfl) Tryz.func169 (by kernel_rfl)
theorem o220:FO 220 f220:=fk 172 rfl (by kernel_rfl) Tryz.func172 (by kernel_rfl)
theorem o221:FO 221 f221:=fk 140 rfl (by kernel_rfl) Tryz.func140 (by kernel_rfl)
theorem o224:FO 224 f224:=fk 188 rfl (by kernel_rfl) Tryz.func188 (by kernel_rfl)
theorem o227:FO 227 f227:=fk 144 rfl (by kernel_rfl) Tryz.func144 (by kernel_rfl)
theorem o228:FO 228 f228:=fk 187 rfl (by kernel_rfl) Tryz.func187 (by kernel_rfl)
theorem o229:FO 229 f229:=fk 138 rfl (by kernel_rfl) Tryz.func138 (by kernel_rfl)
theorem o232:FO 232 f232:=fk 29 rfl (by kernel_rfl) Tryz.func29 (by kernel_rfl)
theorem o233:FO 233 f233:=fk 31 rfl (by kernel_rfl) Tryz.func31 (by kernel_rfl)
theorem o234:FO 234 f234:=fk 32 rfl (by kernel_rfl) Tryz.func32 (by kernel_rfl)
theorem o235:FO 235 f235:=fk 33 rfl (by kernel_rfl) Tryz.func33 (by kernel_rfl)
theorem o236:FO 236 f236:=fk 34 rfl (by kernel_rfl) Tryz.func34 (by kernel_rfl)
theorem o237:FO 237 f237:=fk 35 rfl (by kernel_rfl) Tryz.func35 (by kernel_rfl)
theorem o238:FO 238 f238:=fk 36 rfl (by kernel_rfl) Tryz.func36 (by kernel_rfl)
theorem o239:FO 239 f239:=fk 37 rfl (by kernel_rfl) Tryz.func37 (by kernel_rfl)
theorem o240:FO 240 f240:=fk 38 rfl (by kernel_rfl) Tryz.func38 (by kernel_rfl)
theorem o241:FO 241 f241:=fk 40 rfl (by kernel_rfl) Tryz.func40 (by kernel_rfl)
theorem o242:FO 242 f242:=fk 41 rfl (by kernel_rfl) Tryz.func41 (by kernel_rfl)
theorem o243:FO 243 f243:=fk 43 rfl (by kernel_rfl) Tryz.func43 (by kernel_rfl)
theorem o244:FO 244 f244:=fk 44 rfl (by kernel_rfl) Tryz.func44 (by kernel_rfl)
theorem o245:FO 245 f245:=fk 45 rfl (by kernel_rfl) Tryz.func45 (by kernel_rfl)
theorem o246:FO 246 f246:=fk 47 rfl (by kernel_rfl) Tryz.func47 (by kernel_rfl)
theorem o247:FO 247 f247:=fk 48 rfl (by kernel_rfl) Tryz.func48 (by kernel_rfl)
theorem o248:FO 248 f248:=fk 49 rfl (by kernel_rfl) Tryz.func49 (by kernel_rfl)
theorem o249:FO 249 f249:=fk 51 rfl (by kernel_rfl) Tryz.func51 (by kernel_rfl)
theorem o250:FO 250 f250:=fk 55 rfl (by kernel_rfl) Tryz.func55 (by kernel_rfl)
theorem o251:FO 251 f251:=fk 56 rfl (by kernel_rfl) Tryz.func56 (by kernel_rfl)
theorem o252:FO 252 f252:=fk 57 rfl (by kernel_rfl) Tryz.func57 (by kernel_rfl)
theorem o253:FO 253 f253:=fk 58 rfl (by kernel_rfl) Tryz.func58 (by kernel_rfl)
theorem o259:FO 259 f259:=fk 72 rfl (by kernel_rfl) Tryz.func72 (by kernel_rfl)
theorem o261:FO 261 f261:=fk 121 rfl (by kernel_rfl) Tryz.func121 (by kernel_rfl)
theorem o262:FO 262 f262:=fk 190 rfl (by kernel_rfl) Tryz.func190 (by kernel_rfl)
theorem o263:FO 263 f263:=fk 128 rfl (by kernel_rfl) Tryz.func128 (by kernel_rfl)
theorem o265:FO 265 f265:=fk 86 rfl (by kernel_rfl) Tryz.func86 (by kernel_rfl)
theorem o266:FO 266 f266:=fk 88 rfl (by kernel_rfl) Tryz.func88 (by kernel_rfl)
theorem o267:FO 267 f267:=fk 163 rfl (by kernel_rfl) Tryz.func163 (by kernel_rfl)
theorem o268:FO 268 f268:=fk 161 rfl (by kernel_rfl) Tryz.func161 (by kernel_rfl)
theorem o269:FO 269 f269:=fk 193 rfl (by kernel_rfl) Tryz.func193 (by kernel_rfl)
theorem o270:FO 270 f270:=fk 192 rfl (by kernel_rfl) Tryz.func192 (by kernel_rfl)
theorem o271:FO 271 f271:=fk 194 rfl (by kernel_rfl) Tryz.func194 (by kernel_rfl)
theorem o272:FO 272 f272:=fk 195 rfl (by kernel_rfl) Tryz.func195 (by kernel_rfl)
theorem o278:FO 278 f278:=fk 133 rfl (by kernel_rfl) Tryz.func133 (by kernel_rfl)
theorem o282:FO 282 f282:=fk 94 rfl (by kernel_rfl) Tryz.func94 (by kernel_rfl)
theorem o283:FO 283 f283:=fk 83 rfl (by kernel_rfl) Tryz.func83 (by kernel_rfl)
theorem o284:FO 284 f284:=fk 97 rfl (by kernel_rfl) Tryz.func97 (by kernel_rfl)
theorem o285:FO 285 f285:=fk 79 rfl (by kernel_rfl) Tryz.func79 (by kernel_rfl)
theorem o286:FO 286 f286:=fk 75 rfl (by kernel_rfl) Tryz.func75 (by kernel_rfl)
theorem o287:FO 287 f287:=fk 157 rfl (by kernel_rfl) Tryz.func157 (by kernel_rfl)
theorem o293:FO 293 f293:=fk 155 rfl (by kernel_rfl) Tryz.func155 (by kernel_rfl)
theorem o304:FO 304 f304:=fk 219 rfl (by kernel_rfl) Tryz.func219 (by kernel_rfl)
theorem o306:FO 306 f306:=fk 233 rfl (by kernel_rfl) Tryz.func233 (by kernel_rfl)
theorem o312:FO 312 f312:=fk 153 rfl (by kernel_rfl) Tryz.func153 (by kernel_rfl)
theorem o314:FO 314 f314:=fk 113 rfl (by kernel_rfl) Tryz.func113 (by kernel_rfl)
theorem o316:FO 316 f316:=fk 216 rfl (by kernel_rfl) Tryz.func216 (by kernel_rfl)
theorem o317:FO 317 f317:=fk 217 rfl (by kernel_rfl) Tryz.func217 (by kernel_rfl)
theorem o318:FO 318 f318:=fk 218 rfl (by kernel_rfl) Tryz.func218 (by kernel_rfl)
theorem o319:FO 319 f319:=fk 196 rfl (by kernel_rfl) Tryz.func196 (by kernel_rfl)
theorem o320:FO 320 f320:=fk 197 rfl (by kernel_rfl) Tryz.func197 (by kernel_rfl)
theorem o321:FO 321 f321:=fk 198 rfl (by kernel_rfl) Tryz.func198 (by kernel_rfl)
theorem o329:FO 329 f329:=fk 76 rfl (by kernel_rfl) Tryz.func76 (by kernel_rfl)
theorem o330:FO 330 f330:=fk 81 rfl (by kernel_rfl) Tryz.func81 (by kernel_rfl)
theorem o331:FO 331 f331:=fk 84 rfl (by kernel_rfl) Tryz.func84 (by kernel_rfl)
theorem o332:FO 332 f332:=fk 85 rfl (by kernel_rfl) Tryz.func85 (by kernel_rfl)
theorem o333:FO 333 f333:=fk 89 rfl (by kernel_rfl) Tryz.func89 (by kernel_rfl)
theorem o334:FO 334 f334:=fk 91 rfl (by kernel_rfl) Tryz.func91 (by kernel_rfl)
theorem o335:FO 335 f335:=fk 92 rfl (by kernel_rfl) Tryz.func92 (by kernel_rfl)
theorem o336:FO 336 f336:=fk 96 rfl (by kernel_rfl) Tryz.func96 (by kernel_rfl)
theorem o337:FO 337 f337:=fk 100 rfl (by kernel_rfl) Tryz.func100 (by kernel_rfl)
theorem o338:FO 338 f338:=fk 101 rfl (by kernel_rfl) Tryz.func101 (by kernel_rfl)
theorem o339:FO 339 f339:=fk 102 rfl (by kernel_rfl) Tryz.func102 (by kernel_rfl)
theorem o340:FO 340 f340:=fk 104 rfl (by kernel_rfl) Tryz.func104 (by kernel_rfl)
theorem o341:FO 341 f341:=fk 105 rfl (by kernel_rfl) Tryz.func105 (by kernel_rfl)
theorem o342:FO 342 f342:=fk 106 rfl (by kernel_rfl) Tryz.func106 (by kernel_rfl)
theorem o343:FO 343 f343:=fk 108 rfl (by kernel_rfl) Tryz.func108 (by kernel_rfl)
theorem o344:FO 344 f344:=fk 109 rfl (by kernel_rfl) Tryz.func109 (by kernel_rfl)
theorem o345:FO 345 f345:=fk 111 rfl (by kernel_rfl) Tryz.func111 (by kernel_rfl)
theorem o346:FO 346 f346:=fk 114 rfl (by kernel_rfl) Tryz.func114 (by kernel_rfl)
theorem o347:FO 347 f347:=fk 115 rfl (by kernel_rfl) Tryz.func115 (by kernel_rfl)
theorem o348:FO 348 f348:=fk 116 rfl (by kernel_rfl) Tryz.func116 (by kernel_rfl)
theorem o349:FO 349 f349:=fk 117 rfl (by kernel_rfl) Tryz.func117 (by kernel_rfl)
theorem o350:FO 350 f350:=fk 122 rfl (by kernel_rfl) Tryz.func122 (by kernel_rfl)
theorem o351:FO 351 f351:=fk 124 rfl (by kernel_rfl) Tryz.func124 (by kernel_rfl)
theorem o352:FO 352 f352:=fk 129 rfl (by kernel_rfl) Tryz.func129 (by kernel_rfl)
theorem o353:FO 353 f353:=fk 130 rfl (by kernel_rfl) Tryz.func130 (by kernel_rfl)
theorem o354:FO 354 f354:=fk 134 rfl (by kernel_rfl) Tryz.func134 (by kernel_rfl)
theorem o360:FO 360 f360:=fk 149 rfl (by kernel_rfl) Tryz.func149 (by kernel_rfl)
theorem o362:FO 362 f362:=fk 159 rfl (by kernel_rfl) Tryz.func159 (by kernel_rfl)
theorem o363:FO 363 f363:=fk 224 rfl (by kernel_rfl) Tryz.func224 (by kernel_rfl)
theorem o364:FO 364 f364:=fk 226 rfl (by kernel_rfl) Tryz.func226 (by kernel_rfl)
theorem o368:FO 368 f368:=fk 191 rfl (by kernel_rfl) Tryz.func191 (by kernel_rfl)
theorem o369:FO 369 f369:=fk 164 rfl (by kernel_rfl) Tryz.func164 (by kernel_rfl)
theorem o370:FO 370 f370:=fk 158 rfl (by kernel_rfl) Tryz.func158 (by kernel_rfl)
theorem o371:FO 371 f371:=fk 165 rfl (by kernel_rfl) Tryz.func165 (by kernel_rfl)
theorem o372:FO 372 f372:=fk 166 rfl (by kernel_rfl) Tryz.func166 (by kernel_rfl)
theorem o373:FO 373 f373:=fk 167 rfl (by kernel_rfl) Tryz.func167 (by kernel_rfl)
theorem o385:FO 385 f385:=fk 211 rfl (by kernel_rfl) Tryz.func211 (by kernel_rfl)
theorem o398:FO 398 f398:=fk 242 rfl (by kernel_rfl) Tryz.func242 (by kernel_rfl)
theorem o408:FO 408 f408:=fk 228 rfl (by kernel_rfl) Tryz.func228 (by kernel_rfl)
theorem o416:FO 416 f416:=fk 154 rfl (by kernel_rfl) Tryz.func154 (by kernel_rfl)
theorem o417:FO 417 f417:=fk 162 rfl (by kernel_rfl) Tryz.func162 (by kernel_rfl)
theorem o418:FO 418 f418:=fk 175 rfl (by kernel_rfl) Tryz.func175 (by kernel_rfl)
theorem o419:FO 419 f419:=fk 176 rfl (by kernel_rfl) Tryz.func176 (by kernel_rfl)
theorem o420:FO 420 f420:=fk 177 rfl (by kernel_rfl) Tryz.func177 (by kernel_rfl)
theorem o421:FO 421 f421:=fk 178 rfl (by kernel_rfl) Tryz.func178 (by kernel_rfl)
theorem o422:FO 422 f422:=fk 179 rfl (by kernel_rfl) Tryz.func179 (by kernel_rfl)
theorem o437:FO 437 f437:=fk 214 rfl (by kernel_rfl) Tryz.func214 (by kernel_rfl)
theorem o438:FO 438 f438:=fk 215 rfl (by kernel_rfl) Tryz.func215 (by kernel_rfl)
theorem o464:FO 464 f464:=fk 210 rfl (by kernel_rfl) Tryz.func210 (by kernel_rfl)
theorem fo:AllFn Tryz.prog kt mdA (fun k=>(List.lookup k xsA).isSome) fsA:=.cons o27 (.cons o54 (.cons o55 (.cons o56 (.cons o61 (.cons o62 (.cons o63 (.cons o64 (.cons o65 (.cons o66 (.cons o67 (.cons o69 (.cons o70 (.cons o71 (.cons o73 (.cons o74 (.cons o75 (.cons o76 (.cons o77 (.cons o78 (.cons o79 (.cons o81 (.cons o82 (.cons o84 (.cons o85 (.cons o86 (.cons o87 (.cons o88 (.cons o93 (.cons o95 (.cons o96 (.cons o97 (.cons o104 (.cons o111 (.cons o113 (.cons o114 (.cons o118 (.cons o120 (.cons o121 (.cons o124 (.cons o125 (.cons o126 (.cons o127 (.cons o128 (.cons o130 (.cons o131 (.cons o132 (.cons o133 (.cons o134 (.cons o135 (.cons o136 (.cons o137 (.cons o138 (.cons o139 (.cons o140 (.cons o141 (.cons o142 (.cons o145 (.cons o148 (.cons o150 (.cons o151 (.cons o154 (.cons o156 (.cons o158 (.cons o161 (.cons o172 (.cons o173 (.cons o175 (.cons o191 (.cons o192 (.cons o194 (.cons o195 (.cons o200 (.cons o204 (.cons o211 (.cons o212 (.cons o213 (.cons o219 (.cons o220 (.cons o221 (.cons o224 (.cons o227 (.cons o228 (.cons o229 (.cons o232 (.cons o233 (.cons o234 (.cons o235 (.cons o236 (.cons o237 (.cons o238 (.cons o239 (.cons o240 (.cons o241 (.cons o242 (.cons o243 (.cons o244 (.cons o245 (.cons o246 (.cons o247 (.cons o248 (.cons o249 (.cons o250 (.cons o251 (.cons o252 (.cons o253 (.cons o259 (.cons o261 (.cons o262 (.cons o263 (.cons o265 (.cons o266 (.cons o267 (.cons o268 (.cons o269 (.cons o270 (.cons o271 (.cons o272 (.cons o278 (.cons o282 (.cons o283 (.cons o284 (.cons o285 (.cons o286 (.cons o287 (.cons o293 (.cons o304 (.cons o306 (.cons o312 (.cons o314 (.cons o316 (.cons o317 (.cons o318 (.cons o319 (.cons o320 (.cons o321 (.cons o329 (.cons o330 (.cons o331 (.cons o332 (.cons o333 (.cons o334 (.cons o335 (.cons o336 (.cons o337 (.cons o338 (.cons o339 (.cons o340 (.cons o341 (.cons o342 (.cons o343 (.cons o344 (.cons o345 (.cons o346 (.cons o347 (.cons o348 (.cons o349 (.cons o350 (.cons o351 (.cons o352 (.cons o353 (.cons o354 (.cons o360 (.cons o362 (.cons o363 (.cons o364 (.cons o368 (.cons o369 (.cons o370 (.cons o371 (.cons o372 (.cons o373 (.cons o385 (.cons o398 (.cons o408 (.cons o416 (.cons o417 (.cons o418 (.cons o419 (.cons o420 (.cons o421 (.cons o422 (.cons o437 (.cons o438 (.cons o464 (.nil)))))))))))))))))))))))))))))))))))))))))))))))))))))))))))))))))))))))))))))))))))))))))))))))))))))))))))))))))))))))))))))))))))))))))))))))))))))))))))))))))))))))))))))))))))))))))
theorem x193:ExOk Tryz.prog AA kt 193 itoaG:=ExOk.mk' (f:=186) rfl (by kernel_rfl) (itoa_ok (f:=186) ⟨fun n h0 h1 w h=>Tryz.strconv_Itoa n h0 h1 w h⟩ rfl rfl (by kernel_rfl)) (fun _ _ _ _ h _=>itoaG_low h) (fun _ _ _ _ _ _ h=>itoaG_frm h)
theorem atoiC:AtoiC Tryz.prog 185 where
 ok s hs v h w:=(Tryz.strconv_Atoi_ok s hs v h w).mono fun e w' ⟨h1,h2⟩=>⟨h1,below_bytes h2⟩
 syn s hs h tp p w hv:=(Tryz.strconv_Atoi_syntax_var s hs h tp p w hv).mono fun e w' ⟨N,h1,_,_,h2⟩=>⟨_,_,h1,h2⟩
 rng s hs h tp p w hv:=(Tryz.strconv_Atoi_range_var s hs h tp p w hv).mono fun e w' ⟨N,h1,_,_,h2⟩=>⟨_,_,h1,h2⟩
theorem x196:ExOk Tryz.prog AA kt 196 atoiG:=ExOk.mk' (f:=185) rfl (by kernel_rfl) (atoi_ok (f:=185) atoiC rfl rfl (by kernel_rfl) rfl rfl (by kernel_rfl)) (fun _ _ _ _ h _=>atoiG_low h)
theorem x226:ExOk Tryz.prog AA kt 226 (cloneG 2 32):=ExOk.mk' (f:=60) rfl (by kernel_rfl) (clone_ext (f:=60) (fn:=Tryz.f60) Tryz.func60 (zero:=[.s ⟨#[]⟩,.s ⟨#[]⟩]) (by kernel_rfl) (by decide) (by kernel_rfl) (by kernel_rfl)) (fun _ _ _ _ h hn=>cloneG_low h hn)
theorem x256:ExOk Tryz.prog AA kt 256 (cloneG 3 48):=ExOk.mk' (f:=67) rfl (by kernel_rfl) (clone_ext (f:=67) (fn:=Tryz.f67) Tryz.func67 (zero:=[.i 0,.s ⟨#[]⟩,.lst 0 true []]) (by kernel_rfl) (by decide) (by kernel_rfl) (by kernel_rfl)) (fun _ _ _ _ h hn=>cloneG_low h hn)
theorem x324:ExOk Tryz.prog AA kt 324 joinG:=ExOk.mk' (f:=200) rfl (by kernel_rfl) (join_ok (f:=200) ⟨fun a c sep w=>Tryz.strings_Join_none a c sep w,fun bk o c xs sep w h1 h2 h3 h4 h5=>Tryz.strings_Join bk o c xs sep w h1 h2 h3 h4 h5⟩) (fun _ _ _ _ h _=>joinG_low h)
theorem xo:AllEx Tryz.prog AA kt xsA:=.cons x193 (.cons x196 (.cons x226 (.cons x256 (.cons x324 (.nil)))))
theorem ok:Ok Tryz.prog AA kt:=prog_ok fo xo glA_pure
theorem own:ownKnob Tryz.prog.godebug=none:=by kernel_rfl
theorem lo:laidOutB Tryz.prog=true:=by kernel_rfl
theorem pl:plainSet Tryz.prog [3,9,22,33,35,40]=true:=by kernel_rfl
abbrev laid0:List (String×DataW Unit):=Rows.clientPlaysRow.laid
theorem laid0_plain:(laid0.all fun x=>x.2.handleName?.isNone)=true:=by kernel_rfl
theorem glob_ok {W:World} (h:laidMetH Tryz.prog laid0 W):Glob AA (G0 kt W) W
 |0,v,hg,m,hm=>by
  have hm:some 0=some m:=hm
  cases hm;cases hg
  exact glob_flat (laid_flat (g:=0) (L:=[3,4,9,221,222]) (vs:=kindsW) (t:=222) h laid0_plain (.tail _ (.tail _ (.tail _ (.tail _ (.tail _ (.head _)))))) (by kernel_rfl) (by kernel_rfl) (by kernel_rfl) (by kernel_rfl) (by kernel_rfl)) (n:= "sluiceway/term.kinds") (by kernel_rfl) (by kernel_rfl)
 |1,v,hg,m,hm=>by
  have hm:some 2=some m:=hm
  cases hm;cases hg
  exact glob_err (laid_iface (g:=2) (t:=212) h laid0_plain (.tail _ (.tail _ (.tail _ (.head _)))) (by kernel_rfl) (by kernel_rfl) (by kernel_rfl)) (n:= "strconv.ErrRange") (by kernel_rfl)
 |2,v,hg,m,hm=>by
  have hm:some 1=some m:=hm
  cases hm;cases hg
  exact glob_err (laid_iface (g:=1) (t:=212) h laid0_plain (.tail _ (.tail _ (.tail _ (.tail _ (.head _))))) (by kernel_rfl) (by kernel_rfl) (by kernel_rfl)) (n:= "strconv.ErrSyntax") (by kernel_rfl)
 |3,v,hg,m,hm=>by
  have hm:some 3=some m:=hm
  cases hm;cases hg
  exact glob_flat (laid_flat (g:=3) (L:=[251,272]) (vs:=pow10V) (t:=272) h laid0_plain (.tail _ (.tail _ (.head _))) (by kernel_rfl) (by kernel_rfl) (by kernel_rfl) (by kernel_rfl) (by kernel_rfl)) (n:= "internal/strconv.uint64pow10") (by kernel_rfl) (by kernel_rfl)
 |_+4,v,hg,m,hm=>by cases hg
theorem hT:∃fs,TermTy Tryz.prog 35 3 9 33 fs:=⟨_,Tryz.underlying35,rfl,Tryz.underlying3,Tryz.underlying9,Tryz.underlying33,by kernel_rfl,by kernel_rfl⟩
theorem isBulkU {H:Type}:IsBulk (H:=H) Rows.uptoBulk Rows.uptoBulkAll where
 str _:=by simp only [Rows.uptoBulk]
 int _ _:=by simp only [Rows.uptoBulk]
 bool _:=by simp only [Rows.uptoBulk]
 nil:=by simp only [Rows.uptoBulk]
 agg _:=by simp only [Rows.uptoBulk]
 slice _ _:=by simp only [Rows.uptoBulk]
 nilA:=by simp only [Rows.uptoBulkAll]
 consA _ _:=by simp only [Rows.uptoBulkAll]
theorem hP:∃fs,StpTy Tryz.prog 40 22 3 35 fs:=⟨_,Tryz.underlying40,rfl,Tryz.underlying22,by kernel_rfl⟩
theorem door_met (os:Os) (args:Array Value):laidMetH Tryz.prog laid0 ((World.doorLaid Tryz.prog 80 os).forCall (fun _ _=>0) ⟨#[],args,[]⟩).memory:=
 laidMetH_of_parts3 (fuel:=8) (laidMet_of_run' 8 (by kernel_rfl) (by kernel_rfl)) (by kernel_rfl) (by kernel_rfl)
theorem rb:reachBytes=140737488351232:=rfl
end Go.Proofs.YthcobbfffjfboaaGreatDoor
