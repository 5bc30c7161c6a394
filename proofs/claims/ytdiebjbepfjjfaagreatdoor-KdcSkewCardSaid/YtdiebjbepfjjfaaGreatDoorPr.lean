/- The program of the abstract machine. -/
import Derived.Test.YtdiebjbepfjjfaaGreatDoorE4
import Derived.Test.YtdiebjbepfjjfaaGreatDoorE3
import Derived.KernelRfl
import Derived.Test.YtdiebjbepfjjfaaGreatDoorC1
import Derived.Test.YtdiebjbepfjjfaaGreatDoorC2
set_option linter.unusedVariables false
set_option linter.unusedSimpArgs false
set_option linter.unusedSectionVars false
namespace Abs
open Go
def fsA:List (Nat×za):=[(42,f42),(50,f50),(51,f51),(54,f54),(55,f55),(56,f56),(61,f61),(62,f62),(63,f63),(64,f64),(65,f65),(66,f66),(67,f67),(68,f68),(69,f69),(71,f71),(72,f72),(73,f73),(74,f74),(75,f75),(77,f77),(78,f78),(79,f79),(81,f81),(82,f82),(83,f83),(84,f84),(85,f85),(86,f86),(87,f87),(88,f88),(92,f92),(93,f93),(94,f94),(95,f95),(97,f97),(102,zgH),(109,zc8),(111,zb4),(112,zbm),(113,kB),(114,zgJ),(116,zeI),(117,zgK),(118,zda),(119,zgM),(121,zeJ),(122,zgN),(124,zgO),(125,f125),(126,zgP),(127,zeK),(128,f128),(130,zgQ),(137,qa),(139,zgR),(142,zgS),(145,zgT),(149,wz),(150,zgU),(151,vX),(153,zgV),(155,zb6),(157,zgW),(158,zgX),(159,zaz),(161,zgY),(163,zgZ),(164,zg0),(165,f165),(166,f166),(167,qb),(168,zbn),(169,f169),(170,zeM),(172,f172),(173,zg1),(174,zg2),(175,zg3),(191,zg4),(192,zg5),(194,zdd),(195,zeN),(205,f205),(210,zeO),(211,zeP),(212,zg7),(213,zb8),(214,zg8),(215,f215),(216,f216),(217,zg9),(218,zde),(219,zeR),(220,wX),(221,zaB),(222,zdf),(223,zdg),(224,zhd),(225,zhf),(227,zaC),(228,zhh),(229,zhi),(235,f235),(239,vw),(240,f240),(241,f241),(242,zhl),(243,f243),(244,f244),(245,f245),(247,f247),(249,zhn),(259,zho),(261,zhp),(262,zhq),(263,zcb),(264,kC),(265,zhr),(266,zhs),(267,zht),(268,zcc),(269,zhu),(270,zaD),(271,zhv),(272,zhw),(273,zaE),(275,zhx),(276,f276),(277,f277),(278,zhB),(279,f279),(280,f280),(281,f281),(282,f282),(283,f283),(284,f284),(285,f285),(286,f286),(287,f287),(288,q9),(289,zdi),(290,qk),(291,zhE),(292,zhF),(293,zhG),(304,zeV),(306,zeW),(312,zhH),(313,zhI),(314,zdj),(315,zeX),(316,f316),(317,f317),(318,f318),(319,f319),(320,f320),(321,f321),(322,f322),(323,zhM),(329,f329),(331,f331),(332,f332),(333,zhN),(335,zdk),(336,zhP),(337,f337),(338,f338),(339,ze1),(340,zhR),(341,ze2),(342,zhT),(343,f343),(344,zcg),(345,zdl),(346,zhV),(347,zch),(348,wD),(349,zhW),(350,zhX),(352,zhY),(353,zdn),(354,zh0),(360,zh1),(362,zh2),(363,zh3),(364,zh4),(365,zh5),(367,zh6),(368,zh8),(369,zaG),(370,zh9),(371,zia),(372,ze7),(373,zib),(374,zcj),(375,zdo),(376,zdp),(377,zie),(378,ze9),(379,zig),(380,zih),(381,zdq),(382,zij),(383,zfa),(384,zik),(385,zil),(398,zdr),(407,zin),(408,ziq),(416,zis),(417,zds),(418,zfb),(419,vZ),(420,zfc),(421,v6),(422,ziu),(437,ziw),(438,zix),(439,zbr),(440,ziy),(441,ziz),(442,wE),(443,ziA),(460,ziB),(461,ziC),(464,ziD),(470,zck),(471,ziE),(472,zfe),(482,ziF),(487,ziH),(488,ziI)]
def xsA:List (Nat×(List AV->AS->Option (AV×AS))):=[(53,wK),(193,zaa),(196,zbe),(202,(jN 1 16)),(207,(jN 6 104)),(256,(jN 3 48)),(274,zbJ),(324,zby),(486,(jN 1 8))]
def mdA:Nat->jD:=fun k=>if k=193 then .keepF []else if k=202 then .keepF []else if k<49||[50,51,54,55,56,137,164,166,167,168,169,191,205,214,215,216,217,218,224,235,240,242,244,245,275,276,280,281,289,290,292,304,313,320,329,342,349,367,377,379,382,383,384,408,439,440,441,443,461,470,471,482,487,488].contains k then .keep else .calm
def zja:List AV:=[.s ⟨#[]⟩,.i (0),.b false,.s ⟨#[100]⟩,.i (0),.b true,.s ⟨#[97]⟩,.i (0),.b true,.s ⟨#[112]⟩,.i (-1),.b false,.s ⟨#[101]⟩,.i (2),.b false,.s ⟨#[109]⟩,.i (2),.b false,.s ⟨#[104]⟩,.i (1),.b false,.s ⟨#[107]⟩,.i (1),.b true,.s ⟨#[117]⟩,.i (1),.b false,.s ⟨#[115]⟩,.i (2),.b false,.s ⟨#[120]⟩,.i (2),.b false]
def glA:Nat->Option AV:=fun n=>match n with
 |0=>some (.iptr zja)
 |1=>some (.iptr [.opq])
 |2=>some (.iptr [.opq])
 |3=>some (.iptr (zmr.map .sc))
 |_=>none
theorem zAP:∀g v,glA g=some v->v.pure=true:=by
 intro g v h;unfold glA at h;split at h<;>cases h<;>rfl
def AA:zA:=zjs fsA xsA mdA glA
noncomputable abbrev call(k:Nat)(args:List AV)(S:AS):Option (AV×AS):=yq AA (run AA) k args S
abbrev Kp(k:Nat)(f:za)(m:jD):Prop:=AA.ext k=none/\AA.funcs k=some f/\AA.mode k=m
theorem kp{k:Nat}{f:za}{m:jD}(h:(AA.ext k,AA.funcs k,AA.mode k)=(none,some f,m):=by kernel_rfl):Kp k f m:=by
 simp only[Prod.mk.injEq]at h;exact h
theorem a42:Kp 42 f42 .keep:=kp
theorem a50:Kp 50 f50 .keep:=kp
theorem a51:Kp 51 f51 .keep:=kp
theorem a54:Kp 54 f54 .keep:=kp
theorem a55:Kp 55 f55 .keep:=kp
theorem a56:Kp 56 f56 .keep:=kp
theorem a61:Kp 61 f61 .calm:=kp
theorem a62:Kp 62 f62 .calm:=kp
theorem a63:Kp 63 f63 .calm:=kp
theorem a64:Kp 64 f64 .calm:=kp
theorem a65:Kp 65 f65 .calm:=kp
theorem a66:Kp 66 f66 .calm:=kp
theorem a67:Kp 67 f67 .calm:=kp
theorem a68:Kp 68 f68 .calm:=kp
theorem a69:Kp 69 f69 .calm:=kp
theorem a71:Kp 71 f71 .calm:=kp
theorem a72:Kp 72 f72 .calm:=kp
theorem a73:Kp 73 f73 .calm:=kp
theorem a74:Kp 74 f74 .calm:=kp
theorem a75:Kp 75 f75 .calm:=kp
theorem a77:Kp 77 f77 .calm:=kp
theorem a78:Kp 78 f78 .calm:=kp
theorem a79:Kp 79 f79 .calm:=kp
theorem a81:Kp 81 f81 .calm:=kp
theorem a82:Kp 82 f82 .calm:=kp
theorem a83:Kp 83 f83 .calm:=kp
theorem a84:Kp 84 f84 .calm:=kp
theorem a85:Kp 85 f85 .calm:=kp
theorem a86:Kp 86 f86 .calm:=kp
theorem a87:Kp 87 f87 .calm:=kp
theorem a88:Kp 88 f88 .calm:=kp
theorem a92:Kp 92 f92 .calm:=kp
theorem a93:Kp 93 f93 .calm:=kp
theorem a94:Kp 94 f94 .calm:=kp
theorem a95:Kp 95 f95 .calm:=kp
theorem a97:Kp 97 f97 .calm:=kp
theorem zvq:Kp 102 zgH .calm:=kp
theorem zvr:Kp 109 zc8 .calm:=kp
theorem zvs:Kp 111 zb4 .calm:=kp
theorem zvt:Kp 112 zbm .calm:=kp
theorem zvu:Kp 113 kB .calm:=kp
theorem zvv:Kp 114 zgJ .calm:=kp
theorem zvw:Kp 116 zeI .calm:=kp
theorem zvx:Kp 117 zgK .calm:=kp
theorem zvy:Kp 118 zda .calm:=kp
theorem zvz:Kp 119 zgM .calm:=kp
theorem zvA:Kp 121 zeJ .calm:=kp
theorem zvB:Kp 122 zgN .calm:=kp
theorem zvC:Kp 124 zgO .calm:=kp
theorem zvD:Kp 125 f125 .calm:=kp
theorem zvE:Kp 126 zgP .calm:=kp
theorem a127:Kp 127 zeK .calm:=kp
theorem zvF:Kp 128 f128 .calm:=kp
theorem zvG:Kp 130 zgQ .calm:=kp
theorem zvH:Kp 137 qa .keep:=kp
theorem zvI:Kp 139 zgR .calm:=kp
theorem zvJ:Kp 142 zgS .calm:=kp
theorem a145:Kp 145 zgT .calm:=kp
theorem zvK:Kp 149 wz .calm:=kp
theorem zvL:Kp 150 zgU .calm:=kp
theorem zvM:Kp 151 vX .calm:=kp
theorem zvN:Kp 153 zgV .calm:=kp
theorem zvO:Kp 155 zb6 .calm:=kp
theorem zvP:Kp 157 zgW .calm:=kp
theorem zvQ:Kp 158 zgX .calm:=kp
theorem zvR:Kp 159 zaz .calm:=kp
theorem zvS:Kp 161 zgY .calm:=kp
theorem zvT:Kp 163 zgZ .calm:=kp
theorem a164:Kp 164 zg0 .keep:=kp
theorem zvU:Kp 165 f165 .calm:=kp
theorem zvV:Kp 166 f166 .keep:=kp
theorem a167:Kp 167 qb .keep:=kp
theorem a168:Kp 168 zbn .keep:=kp
theorem zvW:Kp 169 f169 .keep:=kp
theorem zvX:Kp 170 zeM .calm:=kp
theorem zvY:Kp 172 f172 .calm:=kp
theorem a173:Kp 173 zg1 .calm:=kp
theorem zvZ:Kp 174 zg2 .calm:=kp
theorem a175:Kp 175 zg3 .calm:=kp
theorem zv0:Kp 191 zg4 .keep:=kp
theorem zv1:Kp 192 zg5 .calm:=kp
theorem zv3:Kp 194 zdd .calm:=kp
theorem zv4:Kp 195 zeN .calm:=kp
theorem zv7:Kp 205 f205 .keep:=kp
theorem a210:Kp 210 zeO .calm:=kp
theorem zv9:Kp 211 zeP .calm:=kp
theorem a212:Kp 212 zg7 .calm:=kp
theorem a213:Kp 213 zb8 .calm:=kp
theorem zwa:Kp 214 zg8 .keep:=kp
theorem zwb:Kp 215 f215 .keep:=kp
theorem zwc:Kp 216 f216 .keep:=kp
theorem zwd:Kp 217 zg9 .keep:=kp
theorem a218:Kp 218 zde .keep:=kp
theorem zwe:Kp 219 zeR .calm:=kp
theorem zj4:Kp 220 wX .calm:=kp
theorem znM:Kp 221 zaB .calm:=kp
theorem a222:Kp 222 zdf .calm:=kp
theorem zj5:Kp 223 zdg .calm:=kp
theorem zwf:Kp 224 zhd .keep:=kp
theorem zwg:Kp 225 zhf .calm:=kp
theorem zwh:Kp 227 zaC .calm:=kp
theorem a228:Kp 228 zhh .calm:=kp
theorem a229:Kp 229 zhi .calm:=kp
theorem zwi:Kp 235 f235 .keep:=kp
theorem zwj:Kp 239 vw .calm:=kp
theorem zwk:Kp 240 f240 .keep:=kp
theorem zwl:Kp 241 f241 .calm:=kp
theorem zwm:Kp 242 zhl .keep:=kp
theorem zwn:Kp 243 f243 .calm:=kp
theorem zwo:Kp 244 f244 .keep:=kp
theorem zwp:Kp 245 f245 .keep:=kp
theorem zwq:Kp 247 f247 .calm:=kp
theorem zwr:Kp 249 zhn .calm:=kp
theorem zwt:Kp 259 zho .calm:=kp
theorem zwu:Kp 261 zhp .calm:=kp
theorem zwv:Kp 262 zhq .calm:=kp
theorem zww:Kp 263 zcb .calm:=kp
theorem zwx:Kp 264 kC .calm:=kp
theorem zwy:Kp 265 zhr .calm:=kp
theorem zwz:Kp 266 zhs .calm:=kp
theorem zwA:Kp 267 zht .calm:=kp
theorem zwB:Kp 268 zcc .calm:=kp
theorem zwC:Kp 269 zhu .calm:=kp
theorem zwD:Kp 270 zaD .calm:=kp
theorem zwE:Kp 271 zhv .calm:=kp
theorem zwF:Kp 272 zhw .calm:=kp
theorem zwG:Kp 273 zaE .calm:=kp
theorem zwI:Kp 275 zhx .keep:=kp
theorem zwJ:Kp 276 f276 .keep:=kp
theorem zwK:Kp 277 f277 .calm:=kp
theorem zwL:Kp 278 zhB .calm:=kp
theorem zwM:Kp 279 f279 .calm:=kp
theorem zKO:Kp 280 f280 .keep:=kp
theorem zwN:Kp 281 f281 .keep:=kp
theorem zwO:Kp 282 f282 .calm:=kp
theorem zwP:Kp 283 f283 .calm:=kp
theorem zwQ:Kp 284 f284 .calm:=kp
theorem zwR:Kp 285 f285 .calm:=kp
theorem zwS:Kp 286 f286 .calm:=kp
theorem zwT:Kp 287 f287 .calm:=kp
theorem zwU:Kp 288 q9 .calm:=kp
theorem zwV:Kp 289 zdi .keep:=kp
theorem zwW:Kp 290 qk .keep:=kp
theorem zwX:Kp 291 zhE .calm:=kp
theorem zwY:Kp 292 zhF .keep:=kp
theorem zwZ:Kp 293 zhG .calm:=kp
theorem zw0:Kp 304 zeV .keep:=kp
theorem zw1:Kp 306 zeW .calm:=kp
theorem zw2:Kp 312 zhH .calm:=kp
theorem zw3:Kp 313 zhI .keep:=kp
theorem zj6:Kp 314 zdj .calm:=kp
theorem zw4:Kp 315 zeX .calm:=kp
theorem zw5:Kp 316 f316 .calm:=kp
theorem zw6:Kp 317 f317 .calm:=kp
theorem zw7:Kp 318 f318 .calm:=kp
theorem zw8:Kp 319 f319 .calm:=kp
theorem zw9:Kp 320 f320 .keep:=kp
theorem zxa:Kp 321 f321 .calm:=kp
theorem zxb:Kp 322 f322 .calm:=kp
theorem zxc:Kp 323 zhM .calm:=kp
theorem zxe:Kp 329 f329 .keep:=kp
theorem zxf:Kp 331 f331 .calm:=kp
theorem zxg:Kp 332 f332 .calm:=kp
theorem zxh:Kp 333 zhN .calm:=kp
theorem zxi:Kp 335 zdk .calm:=kp
theorem zxj:Kp 336 zhP .calm:=kp
theorem zxk:Kp 337 f337 .calm:=kp
theorem zxl:Kp 338 f338 .calm:=kp
theorem zxm:Kp 339 ze1 .calm:=kp
theorem zxn:Kp 340 zhR .calm:=kp
theorem zxo:Kp 341 ze2 .calm:=kp
theorem zxp:Kp 342 zhT .keep:=kp
theorem zxq:Kp 343 f343 .calm:=kp
theorem zxr:Kp 344 zcg .calm:=kp
theorem zj7:Kp 345 zdl .calm:=kp
theorem zxs:Kp 346 zhV .calm:=kp
theorem zxt:Kp 347 zch .calm:=kp
theorem zxu:Kp 348 wD .calm:=kp
theorem zxv:Kp 349 zhW .keep:=kp
theorem zxw:Kp 350 zhX .calm:=kp
theorem zxx:Kp 352 zhY .calm:=kp
theorem zxy:Kp 353 zdn .calm:=kp
theorem zxz:Kp 354 zh0 .calm:=kp
theorem zxA:Kp 360 zh1 .calm:=kp
theorem zxB:Kp 362 zh2 .calm:=kp
theorem zxC:Kp 363 zh3 .calm:=kp
theorem zxD:Kp 364 zh4 .calm:=kp
theorem zxE:Kp 365 zh5 .calm:=kp
theorem zxF:Kp 367 zh6 .keep:=kp
theorem zxG:Kp 368 zh8 .calm:=kp
theorem zxH:Kp 369 zaG .calm:=kp
theorem zxI:Kp 370 zh9 .calm:=kp
theorem zxJ:Kp 371 zia .calm:=kp
theorem zxK:Kp 372 ze7 .calm:=kp
theorem zxL:Kp 373 zib .calm:=kp
theorem zxM:Kp 374 zcj .calm:=kp
theorem zxN:Kp 375 zdo .calm:=kp
theorem znN:Kp 376 zdp .calm:=kp
theorem zxO:Kp 377 zie .keep:=kp
theorem zxP:Kp 378 ze9 .calm:=kp
theorem zxQ:Kp 379 zig .keep:=kp
theorem zxR:Kp 380 zih .calm:=kp
theorem zxS:Kp 381 zdq .calm:=kp
theorem zxT:Kp 382 zij .keep:=kp
theorem zxU:Kp 383 zfa .keep:=kp
theorem zxV:Kp 384 zik .keep:=kp
theorem zxW:Kp 385 zil .calm:=kp
theorem zxX:Kp 398 zdr .calm:=kp
theorem zxY:Kp 407 zin .calm:=kp
theorem zxZ:Kp 408 ziq .keep:=kp
theorem zx0:Kp 416 zis .calm:=kp
theorem zx1:Kp 417 zds .calm:=kp
theorem zx2:Kp 418 zfb .calm:=kp
theorem zx3:Kp 419 vZ .calm:=kp
theorem zx4:Kp 420 zfc .calm:=kp
theorem zx5:Kp 421 v6 .calm:=kp
theorem zx6:Kp 422 ziu .calm:=kp
theorem zx7:Kp 437 ziw .calm:=kp
theorem zx8:Kp 438 zix .calm:=kp
theorem zgc:Kp 439 zbr .keep:=kp
theorem zx9:Kp 440 ziy .keep:=kp
theorem zya:Kp 441 ziz .keep:=kp
theorem zyb:Kp 442 wE .calm:=kp
theorem zyc:Kp 443 ziA .keep:=kp
theorem zyd:Kp 460 ziB .calm:=kp
theorem zye:Kp 461 ziC .keep:=kp
theorem zyf:Kp 464 ziD .calm:=kp
theorem zgd:Kp 470 zck .keep:=kp
theorem zyg:Kp 471 ziE .keep:=kp
theorem zyh:Kp 472 zfe .calm:=kp
theorem zyi:Kp 482 ziF .keep:=kp
theorem zyk:Kp 487 ziH .keep:=kp
theorem zyl:Kp 488 ziI .keep:=kp
theorem a53:AA.ext 53=some wK:=by kernel_rfl
theorem zv2:AA.ext 193=some zaa:=by kernel_rfl
theorem zv5:AA.ext 196=some zbe:=by kernel_rfl
theorem zv6:AA.ext 202=some (jN 1 16):=by kernel_rfl
theorem zv8:AA.ext 207=some (jN 6 104):=by kernel_rfl
theorem zws:AA.ext 256=some (jN 3 48):=by kernel_rfl
theorem zwH:AA.ext 274=some zbJ:=by kernel_rfl
theorem zxd:AA.ext 324=some zby:=by kernel_rfl
theorem zyj:AA.ext 486=some (jN 1 8):=by kernel_rfl
end Abs
