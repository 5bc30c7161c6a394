/- Kdc laws hold, whatever the input. -/
import Derived.Test.YtdiebjbepfjjfaaGreatDoorG2
import Derived.Test.YtdiebjbepfjjfaaGreatDoorSh
import Derived.Test.YtdiebjbepfjjfaaGreatDoorPr
import Derived.Test.YtdiebjbepfjjfaaGreatDoorE4
import Derived.Test.YtdiebjbepfjjfaaGreatDoorCards
import Derived.Test.YtdiebjbepfjjfaaGreatDoorTie
import Derived.Deep.DeepWitnessRowRef
import Derived.LaidMore
import Derived.OpenShut
import Derived.ProofKit
import Derived.KernelRfl
set_option maxHeartbeats 16000000
set_option maxRecDepth 100000
set_option linter.unusedVariables false
set_option linter.unusedSimpArgs false
set_option linter.unusedSectionVars false
namespace Go.Proofs.YtdiebjbepfjjfaaGreatDoor
open Go Abs Go.RowKit
def zBS:List Value:=[.string ⟨#[]⟩,.int .i64 (0),.bool false,.string ⟨#[100]⟩,.int .i64 (0),.bool true,.string ⟨#[97]⟩,.int .i64 (0),.bool true,.string ⟨#[112]⟩,.int .i64 (-1),.bool false,.string ⟨#[101]⟩,.int .i64 (2),.bool false,.string ⟨#[109]⟩,.int .i64 (2),.bool false,.string ⟨#[104]⟩,.int .i64 (1),.bool false,.string ⟨#[107]⟩,.int .i64 (1),.bool true,.string ⟨#[117]⟩,.int .i64 (1),.bool false,.string ⟨#[115]⟩,.int .i64 (2),.bool false,.string ⟨#[120]⟩,.int .i64 (2),.bool false]
def kt:Nat->Option Nat:=fun k=>List.lookup k [(42,7),(50,58),(51,114),(54,82),(55,142),(56,76),(61,34),(62,103),(63,19),(64,119),(65,67),(66,104),(67,62),(68,120),(69,148),(71,46),(72,48),(73,70),(74,99),(75,36),(77,26),(78,105),(79,55),(81,111),(82,73),(83,49),(84,71),(85,158),(86,123),(87,228),(88,56),(92,95),(93,129),(94,94),(95,128),(97,14),(102,15),(109,110),(111,45),(112,100),(113,84),(114,154),(116,163),(117,217),(118,161),(119,27),(121,115),(122,173),(124,121),(125,214),(126,169),(127,249),(128,176),(130,60),(137,28),(139,23),(142,41),(145,35),(149,181),(150,24),(151,140),(153,108),(155,180),(157,107),(158,39),(159,179),(161,59),(163,8),(164,9),(165,10),(166,11),(167,12),(168,13),(169,16),(170,17),(172,20),(173,21),(174,22),(175,25),(191,170),(192,171),(194,177),(195,204),(205,30),(210,175),(211,91),(212,92),(213,93),(214,164),(215,165),(216,166),(217,167),(218,168),(219,153),(220,155),(221,185),(222,209),(223,244),(224,206),(225,68),(227,186),(228,189),(229,278),(235,31),(239,69),(240,72),(241,74),(242,75),(243,77),(244,78),(245,79),(247,160),(249,61),(259,85),(261,118),(262,227),(263,205),(264,229),(265,63),(266,64),(267,65),(268,191),(269,174),(270,224),(271,225),(272,226),(273,199),(275,220),(276,221),(277,222),(278,223),(279,29),(280,32),(281,33),(282,37),(283,38),(284,40),(285,42),(286,43),(287,44),(288,47),(289,50),(290,51),(291,53),(292,54),(293,66),(304,212),(306,239),(312,236),(313,80),(314,143),(315,210),(316,201),(317,202),(318,203),(319,230),(320,231),(321,232),(322,240),(323,127),(329,81),(331,136),(332,137),(333,149),(335,83),(336,125),(337,130),(338,131),(339,132),(340,133),(341,134),(342,135),(343,138),(344,139),(345,141),(346,144),(347,145),(348,146),(349,147),(350,190),(352,122),(353,159),(354,178),(360,215),(362,124),(363,216),(364,248),(365,238),(367,247),(368,218),(369,86),(370,87),(371,88),(372,89),(373,90),(374,96),(375,97),(376,98),(377,101),(378,102),(379,106),(380,109),(381,112),(382,113),(383,116),(384,117),(385,126),(398,257),(407,150),(408,250),(416,151),(417,152),(418,192),(419,193),(420,194),(421,195),(422,196),(437,156),(438,157),(439,162),(440,182),(441,183),(442,187),(443,188),(460,197),(461,198),(464,200),(470,207),(471,208),(472,234),(482,237),(487,255),(488,256),(53,184),(193,172),(196,211),(202,52),(207,57),(256,235),(274,219),(324,233),(486,254),(10000,0),(10001,2),(10002,1),(10003,3)]
abbrev FO(k:Nat)(f:za):Prop:=zcK Tryz.prog kt mdA (fun k=>(List.lookup k xsA).isSome) k f
theorem fk{k:Nat}{af:za}(f:Nat){fn:Func}(b:Tryz.prog.funcs[f]?=some fn)(c:kt k=some f:=by kernel_rfl)(d:ky Tryz.prog f=true:=by kernel_rfl)(a:vg Tryz.prog kt mdA (fun k=>(List.lookup k xsA).isSome) fn af=true:=by kernel_rfl):FO k af:=zcK.mk' (f:=f) (fn:=fn) c d b a
theorem o42:FO 42 f42:=fk 7 Tryz.func7
theorem o50:FO 50 f50:=fk 58 Tryz.func58
theorem o51:FO 51 f51:=fk 114 Tryz.func114
theorem o54:FO 54 f54:=fk 82 Tryz.func82
theorem o55:FO 55 f55:=fk 142 Tryz.func142
theorem o56:FO 56 f56:=fk 76 Tryz.func76
theorem o61:FO 61 f61:=fk 34 Tryz.func34
theorem o62:FO 62 f62:=fk 103 Tryz.func103
theorem o63:FO 63 f63:=fk 19 Tryz.func19
theorem o64:FO 64 f64:=fk 119 Tryz.func119
theorem o65:FO 65 f65:=fk 67 Tryz.func67
theorem o66:FO 66 f66:=fk 104 Tryz.func104
theorem o67:FO 67 f67:=fk 62 Tryz.func62
theorem o68:FO 68 f68:=fk 120 Tryz.func120
theorem o69:FO 69 f69:=fk 148 Tryz.func148
theorem o71:FO 71 f71:=fk 46 Tryz.func46
theorem o72:FO 72 f72:=fk 48 Tryz.func48
theorem o73:FO 73 f73:=fk 70 Tryz.func70
theorem o74:FO 74 f74:=fk 99 Tryz.func99
theorem o75:FO 75 f75:=fk 36 Tryz.func36
theorem o77:FO 77 f77:=fk 26 Tryz.func26
theorem o78:FO 78 f78:=fk 105 Tryz.func105
theorem o79:FO 79 f79:=fk 55 Tryz.func55
theorem o81:FO 81 f81:=fk 111 Tryz.func111
theorem o82:FO 82 f82:=fk 73 Tryz.func73
theorem o83:FO 83 f83:=fk 49 Tryz.func49
theorem o84:FO 84 f84:=fk 71 Tryz.func71
theorem o85:FO 85 f85:=fk 158 Tryz.func158
theorem o86:FO 86 f86:=fk 123 Tryz.func123
theorem o87:FO 87 f87:=fk 228 Tryz.func228
theorem o88:FO 88 f88:=fk 56 Tryz.func56
theorem o92:FO 92 f92:=fk 95 Tryz.func95
theorem o93:FO 93 f93:=fk 129 Tryz.func129
theorem o94:FO 94 f94:=fk 94 Tryz.func94
theorem o95:FO 95 f95:=fk 128 Tryz.func128
theorem o97:FO 97 f97:=fk 14 Tryz.func14
theorem zCJ:FO 102 zgH:=fk 15 Tryz.func15
theorem zCK:FO 109 zc8:=fk 110 Tryz.func110
theorem zCL:FO 111 zb4:=fk 45 Tryz.func45
theorem zCM:FO 112 zbm:=fk 100 Tryz.func100
theorem zCN:FO 113 kB:=fk 84 Tryz.func84
theorem zCO:FO 114 zgJ:=fk 154 Tryz.func154
theorem zCP:FO 116 zeI:=fk 163 Tryz.func163
theorem zCQ:FO 117 zgK:=fk 217 Tryz.func217
theorem zCR:FO 118 zda:=fk 161 Tryz.func161
theorem zCS:FO 119 zgM:=fk 27 Tryz.func27
theorem zCT:FO 121 zeJ:=fk 115 Tryz.func115
theorem zCU:FO 122 zgN:=fk 173 Tryz.func173
theorem zCV:FO 124 zgO:=fk 121 Tryz.func121
theorem zCW:FO 125 f125:=fk 214 Tryz.func214
theorem zCX:FO 126 zgP:=fk 169 Tryz.func169
theorem zCY:FO 127 zeK:=fk 249 Tryz.func249
theorem zCZ:FO 128 f128:=fk 176 Tryz.func176
theorem zC0:FO 130 zgQ:=fk 60 Tryz.func60
theorem zC1:FO 137 qa:=fk 28 Tryz.func28
theorem zC2:FO 139 zgR:=fk 23 Tryz.func23
theorem zC3:FO 142 zgS:=fk 41 Tryz.func41
theorem zC4:FO 145 zgT:=fk 35 Tryz.func35
theorem zC5:FO 149 wz:=fk 181 Tryz.func181
theorem zC6:FO 150 zgU:=fk 24 Tryz.func24
theorem zC7:FO 151 vX:=fk 140 Tryz.func140
theorem zC8:FO 153 zgV:=fk 108 Tryz.func108
theorem zC9:FO 155 zb6:=fk 180 Tryz.func180
theorem zDa:FO 157 zgW:=fk 107 Tryz.func107
theorem zDb:FO 158 zgX:=fk 39 Tryz.func39
theorem zDc:FO 159 zaz:=fk 179 Tryz.func179
theorem zDd:FO 161 zgY:=fk 59 Tryz.func59
theorem zDe:FO 163 zgZ:=fk 8 Tryz.func8
theorem zDf:FO 164 zg0:=fk 9 Tryz.func9
theorem zDg:FO 165 f165:=fk 10 Tryz.func10
theorem zDh:FO 166 f166:=fk 11 Tryz.func11
theorem zDi:FO 167 qb:=fk 12 Tryz.func12
theorem zDj:FO 168 zbn:=fk 13 Tryz.func13
theorem zDk:FO 169 f169:=fk 16 Tryz.func16
theorem zDl:FO 170 zeM:=fk 17 Tryz.func17
theorem zDm:FO 172 f172:=fk 20 Tryz.func20
theorem zDn:FO 173 zg1:=fk 21 Tryz.func21
theorem zDo:FO 174 zg2:=fk 22 Tryz.func22
theorem zDp:FO 175 zg3:=fk 25 Tryz.func25
theorem zDq:FO 191 zg4:=fk 170 Tryz.func170
theorem zDr:FO 192 zg5:=fk 171 Tryz.func171
theorem zDs:FO 194 zdd:=fk 177 Tryz.func177
theorem zDt:FO 195 zeN:=fk 204 Tryz.func204
theorem zDu:FO 205 f205:=fk 30 Tryz.func30
theorem zDv:FO 210 zeO:=fk 175 Tryz.func175
theorem zDw:FO 211 zeP:=fk 91 Tryz.func91
theorem zDx:FO 212 zg7:=fk 92 Tryz.func92
theorem zDy:FO 213 zb8:=fk 93 Tryz.func93
theorem zDz:FO 214 zg8:=fk 164 Tryz.func164
theorem zDA:FO 215 f215:=fk 165 Tryz.func165
theorem zDB:FO 216 f216:=fk 166 Tryz.func166
theorem zDC:FO 217 zg9:=fk 167 Tryz.func167
theorem zDD:FO 218 zde:=fk 168 Tryz.func168
theorem zDE:FO 219 zeR:=fk 153 Tryz.func153
theorem zDF:FO 220 wX:=fk 155 Tryz.func155
theorem zDG:FO 221 zaB:=fk 185 Tryz.func185
theorem zDH:FO 222 zdf:=fk 209 Tryz.func209
theorem zDI:FO 223 zdg:=fk 244 Tryz.func244
theorem zDJ:FO 224 zhd:=fk 206 Tryz.func206
theorem zDK:FO 225 zhf:=fk 68 Tryz.func68
theorem zDL:FO 227 zaC:=fk 186 Tryz.func186
theorem zDM:FO 228 zhh:=fk 189 Tryz.func189
theorem zDN:FO 229 zhi:=fk 278 Tryz.func278
theorem zDO:FO 235 f235:=fk 31 Tryz.func31
theorem zDP:FO 239 vw:=fk 69 Tryz.func69
theorem zDQ:FO 240 f240:=fk 72 Tryz.func72
theorem zDR:FO 241 f241:=fk 74 Tryz.func74
theorem zDS:FO 242 zhl:=fk 75 Tryz.func75
theorem zDT:FO 243 f243:=fk 77 Tryz.func77
theorem zDU:FO 244 f244:=fk 78 Tryz.func78
theorem zDV:FO 245 f245:=fk 79 Tryz.func79
theorem zDW:FO 247 f247:=fk 160 Tryz.func160
theorem zDX:FO 249 zhn:=fk 61 Tryz.func61
theorem zDY:FO 259 zho:=fk 85 Tryz.func85
theorem zDZ:FO 261 zhp:=fk 118 Tryz.func118
theorem zD0:FO 262 zhq:=fk 227 Tryz.func227
theorem zD1:FO 263 zcb:=fk 205 Tryz.func205
theorem zD2:FO 264 kC:=fk 229 Tryz.func229
theorem zD3:FO 265 zhr:=fk 63 Tryz.func63
theorem zD4:FO 266 zhs:=fk 64 Tryz.func64
theorem zD5:FO 267 zht:=fk 65 Tryz.func65
theorem zD6:FO 268 zcc:=fk 191 Tryz.func191
theorem zD7:FO 269 zhu:=fk 174 Tryz.func174
theorem zD8:FO 270 zaD:=fk 224 Tryz.func224
theorem zD9:FO 271 zhv:=fk 225 Tryz.func225
theorem zEa:FO 272 zhw:=fk 226 Tryz.func226
theorem zEb:FO 273 zaE:=fk 199 Tryz.func199
theorem zEc:FO 275 zhx:=fk 220 Tryz.func220
theorem zEd:FO 276 f276:=fk 221 Tryz.func221
theorem zEe:FO 277 f277:=fk 222 Tryz.func222
theorem zEf:FO 278 zhB:=fk 223 Tryz.func223
theorem zEg:FO 279 f279:=fk 29 Tryz.func29
theorem zEh:FO 280 f280:=fk 32 Tryz.func32
theorem zEi:FO 281 f281:=fk 33 Tryz.func33
theorem zEj:FO 282 f282:=fk 37 Tryz.func37
theorem zEk:FO 283 f283:=fk 38 Tryz.func38
theorem zEl:FO 284 f284:=fk 40 Tryz.func40
theorem zEm:FO 285 f285:=fk 42 Tryz.func42
theorem zEn:FO 286 f286:=fk 43 Tryz.func43
theorem zEo:FO 287 f287:=fk 44 Tryz.func44
theorem zEp:FO 288 q9:=fk 47 Tryz.func47
theorem zEq:FO 289 zdi:=fk 50 Tryz.func50
theorem zEr:FO 290 qk:=fk 51 Tryz.func51
theorem zEs:FO 291 zhE:=fk 53 Tryz.func53
theorem zEt:FO 292 zhF:=fk 54 Tryz.func54
theorem zEu:FO 293 zhG:=fk 66 Tryz.func66
theorem zEv:FO 304 zeV:=fk 212 Tryz.func212
theorem zEw:FO 306 zeW:=fk 239 Tryz.func239
theorem zEx:FO 312 zhH:=fk 236 Tryz.func236
theorem zEy:FO 313 zhI:=fk 80 Tryz.func80
theorem zEz:FO 314 zdj:=fk 143 Tryz.func143
theorem zEA:FO 315 zeX:=fk 210 Tryz.func210
theorem zEB:FO 316 f316:=fk 201 Tryz.func201
theorem zEC:FO 317 f317:=fk 202 Tryz.func202
theorem zED:FO 318 f318:=fk 203 Tryz.func203
theorem zEE:FO 319 f319:=fk 230 Tryz.func230
theorem zEF:FO 320 f320:=fk 231 Tryz.func231
theorem zEG:FO 321 f321:=fk 232 Tryz.func232
theorem zEH:FO 322 f322:=fk 240 Tryz.func240
theorem zEI:FO 323 zhM:=fk 127 Tryz.func127
theorem zEJ:FO 329 f329:=fk 81 Tryz.func81
theorem zEK:FO 331 f331:=fk 136 Tryz.func136
theorem zEL:FO 332 f332:=fk 137 Tryz.func137
theorem zEM:FO 333 zhN:=fk 149 Tryz.func149
theorem zEN:FO 335 zdk:=fk 83 Tryz.func83
theorem zEO:FO 336 zhP:=fk 125 Tryz.func125
theorem zEP:FO 337 f337:=fk 130 Tryz.func130
theorem zEQ:FO 338 f338:=fk 131 Tryz.func131
theorem zER:FO 339 ze1:=fk 132 Tryz.func132
theorem zES:FO 340 zhR:=fk 133 Tryz.func133
theorem zET:FO 341 ze2:=fk 134 Tryz.func134
theorem zEU:FO 342 zhT:=fk 135 Tryz.func135
theorem zEV:FO 343 f343:=fk 138 Tryz.func138
theorem zEW:FO 344 zcg:=fk 139 Tryz.func139
theorem zEX:FO 345 zdl:=fk 141 Tryz.func141
theorem zEY:FO 346 zhV:=fk 144 Tryz.func144
theorem zEZ:FO 347 zch:=fk 145 Tryz.func145
theorem zE0:FO 348 wD:=fk 146 Tryz.func146
theorem zE1:FO 349 zhW:=fk 147 Tryz.func147
theorem zE2:FO 350 zhX:=fk 190 Tryz.func190
theorem zE3:FO 352 zhY:=fk 122 Tryz.func122
theorem zE4:FO 353 zdn:=fk 159 Tryz.func159
theorem zE5:FO 354 zh0:=fk 178 Tryz.func178
theorem zE6:FO 360 zh1:=fk 215 Tryz.func215
theorem zE7:FO 362 zh2:=fk 124 Tryz.func124
theorem zE8:FO 363 zh3:=fk 216 Tryz.func216
theorem zE9:FO 364 zh4:=fk 248 Tryz.func248
theorem zFa:FO 365 zh5:=fk 238 Tryz.func238
theorem zFb:FO 367 zh6:=fk 247 Tryz.func247
theorem zFc:FO 368 zh8:=fk 218 Tryz.func218
theorem zFd:FO 369 zaG:=fk 86 Tryz.func86
theorem zFe:FO 370 zh9:=fk 87 Tryz.func87
theorem zFf:FO 371 zia:=fk 88 Tryz.func88
theorem zFg:FO 372 ze7:=fk 89 Tryz.func89
theorem zFh:FO 373 zib:=fk 90 Tryz.func90
theorem zFi:FO 374 zcj:=fk 96 Tryz.func96
theorem zFj:FO 375 zdo:=fk 97 Tryz.func97
theorem zFk:FO 376 zdp:=fk 98 Tryz.func98
theorem zFl:FO 377 zie:=fk 101 Tryz.func101
theorem zFm:FO 378 ze9:=fk 102 Tryz.func102
theorem zFn:FO 379 zig:=fk 106 Tryz.func106
theorem zFo:FO 380 zih:=fk 109 Tryz.func109
theorem zFp:FO 381 zdq:=fk 112 Tryz.func112
theorem zFq:FO 382 zij:=fk 113 Tryz.func113
theorem zFr:FO 383 zfa:=fk 116 Tryz.func116
theorem zFs:FO 384 zik:=fk 117 Tryz.func117
theorem zFt:FO 385 zil:=fk 126 Tryz.func126
theorem zFu:FO 398 zdr:=fk 257 Tryz.func257
theorem zFv:FO 407 zin:=fk 150 Tryz.func150
theorem zFw:FO 408 ziq:=fk 250 Tryz.func250
theorem zFx:FO 416 zis:=fk 151 Tryz.func151
theorem zFy:FO 417 zds:=fk 152 Tryz.func152
theorem zFz:FO 418 zfb:=fk 192 Tryz.func192
theorem zFA:FO 419 vZ:=fk 193 Tryz.func193
theorem zFB:FO 420 zfc:=fk 194 Tryz.func194
theorem zFC:FO 421 v6:=fk 195 Tryz.func195
theorem zFD:FO 422 ziu:=fk 196 Tryz.func196
theorem zFE:FO 437 ziw:=fk 156 Tryz.func156
theorem zFF:FO 438 zix:=fk 157 Tryz.func157
theorem zFG:FO 439 zbr:=fk 162 Tryz.func162
theorem zFH:FO 440 ziy:=fk 182 Tryz.func182
theorem zFI:FO 441 ziz:=fk 183 Tryz.func183
theorem zFJ:FO 442 wE:=fk 187 Tryz.func187
theorem zFK:FO 443 ziA:=fk 188 Tryz.func188
theorem zFL:FO 460 ziB:=fk 197 Tryz.func197
theorem zFM:FO 461 ziC:=fk 198 Tryz.func198
theorem zFN:FO 464 ziD:=fk 200 Tryz.func200
theorem zFO:FO 470 zck:=fk 207 Tryz.func207
theorem zFP:FO 471 ziE:=fk 208 Tryz.func208
theorem zFQ:FO 472 zfe:=fk 234 Tryz.func234
theorem zFR:FO 482 ziF:=fk 237 Tryz.func237
theorem zFS:FO 487 ziH:=fk 255 Tryz.func255
theorem zFT:FO 488 ziI:=fk 256 Tryz.func256
theorem fo:zbP Tryz.prog kt mdA (fun k=>(List.lookup k xsA).isSome) fsA:=.cons o42 (.cons o50 (.cons o51 (.cons o54 (.cons o55 (.cons o56 (.cons o61 (.cons o62 (.cons o63 (.cons o64 (.cons o65 (.cons o66 (.cons o67 (.cons o68 (.cons o69 (.cons o71 (.cons o72 (.cons o73 (.cons o74 (.cons o75 (.cons o77 (.cons o78 (.cons o79 (.cons o81 (.cons o82 (.cons o83 (.cons o84 (.cons o85 (.cons o86 (.cons o87 (.cons o88 (.cons o92 (.cons o93 (.cons o94 (.cons o95 (.cons o97 (.cons zCJ (.cons zCK (.cons zCL (.cons zCM (.cons zCN (.cons zCO (.cons zCP (.cons zCQ (.cons zCR (.cons zCS (.cons zCT (.cons zCU (.cons zCV (.cons zCW (.cons zCX (.cons zCY (.cons zCZ (.cons zC0 (.cons zC1 (.cons zC2 (.cons zC3 (.cons zC4 (.cons zC5 (.cons zC6 (.cons zC7 (.cons zC8 (.cons zC9 (.cons zDa (.cons zDb (.cons zDc (.cons zDd (.cons zDe (.cons zDf (.cons zDg (.cons zDh (.cons zDi (.cons zDj (.cons zDk (.cons zDl (.cons zDm (.cons zDn (.cons zDo (.cons zDp (.cons zDq (.cons zDr (.cons zDs (.cons zDt (.cons zDu (.cons zDv (.cons zDw (.cons zDx (.cons zDy (.cons zDz (.cons zDA (.cons zDB (.cons zDC (.cons zDD (.cons zDE (.cons zDF (.cons zDG (.cons zDH (.cons zDI (.cons zDJ (.cons zDK (.cons zDL (.cons zDM (.cons zDN (.cons zDO (.cons zDP (.cons zDQ (.cons zDR (.cons zDS (.cons zDT (.cons zDU (.cons zDV (.cons zDW (.cons zDX (.cons zDY (.cons zDZ (.cons zD0 (.cons zD1 (.cons zD2 (.cons zD3 (.cons zD4 (.cons zD5 (.cons zD6 (.cons zD7 (.cons zD8 (.cons zD9 (.cons zEa (.cons zEb (.cons zEc (.cons zEd (.cons zEe (.cons zEf (.cons zEg (.cons zEh (.cons zEi (.cons zEj (.cons zEk (.cons zEl (.cons zEm (.cons zEn (.cons zEo (.cons zEp (.cons zEq (.cons zEr (.cons zEs (.cons zEt (.cons zEu (.cons zEv (.cons zEw (.cons zEx (.cons zEy (.cons zEz (.cons zEA (.cons zEB (.cons zEC (.cons zED (.cons zEE (.cons zEF (.cons zEG (.cons zEH (.cons zEI (.cons zEJ (.cons zEK (.cons zEL (.cons zEM (.cons zEN (.cons zEO (.cons zEP (.cons zEQ (.cons zER (.cons zES (.cons zET (.cons zEU (.cons zEV (.cons zEW (.cons zEX (.cons zEY (.cons zEZ (.cons zE0 (.cons zE1 (.cons zE2 (.cons zE3 (.cons zE4 (.cons zE5 (.cons zE6 (.cons zE7 (.cons zE8 (.cons zE9 (.cons zFa (.cons zFb (.cons zFc (.cons zFd (.cons zFe (.cons zFf (.cons zFg (.cons zFh (.cons zFi (.cons zFj (.cons zFk (.cons zFl (.cons zFm (.cons zFn (.cons zFo (.cons zFp (.cons zFq (.cons zFr (.cons zFs (.cons zFt (.cons zFu (.cons zFv (.cons zFw (.cons zFx (.cons zFy (.cons zFz (.cons zFA (.cons zFB (.cons zFC (.cons zFD (.cons zFE (.cons zFF (.cons zFG (.cons zFH (.cons zFI (.cons zFJ (.cons zFK (.cons zFL (.cons zFM (.cons zFN (.cons zFO (.cons zFP (.cons zFQ (.cons zFR (.cons zFS (.cons zFT (.nil)))))))))))))))))))))))))))))))))))))))))))))))))))))))))))))))))))))))))))))))))))))))))))))))))))))))))))))))))))))))))))))))))))))))))))))))))))))))))))))))))))))))))))))))))))))))))))))))))))))))))))))))))))))))))))))))))))))))))
theorem x53:jV Tryz.prog AA kt 53 wK:=jV.mk' (f:=184) rfl (by kernel_rfl) (zGI (fn:=Tryz.f184) Tryz.func184 (by kernel_rfl) (by kernel_rfl)) (fun _ _ _ _ h _=>zGH h)
theorem zKw:jV Tryz.prog AA kt 193 zaa:=jV.mk' (f:=172) rfl (by kernel_rfl) (zBl (f:=172) ⟨fun n a b w h=>Tryz.strconv_Itoa n a b w h⟩ rfl rfl (by kernel_rfl)) (fun _ _ _ _ h _=>zBj h) (fun _ _ _ _ _ _ h=>zBi h)
theorem zyS:znD Tryz.prog 211 where
 ok s hs v h w:=(Tryz.strconv_Atoi_ok s hs v h w).mono fun e w' ⟨h1,h2⟩=>⟨h1,zy0 h2⟩
 syn s hs h tp p w hv:=(Tryz.strconv_Atoi_syntax_var s hs h tp p w hv).mono fun e w' ⟨N,h1,_,_,h2⟩=>⟨_,_,h1,h2⟩
 rng s hs h tp p w hv:=(Tryz.strconv_Atoi_range_var s hs h tp p w hv).mono fun e w' ⟨N,h1,_,_,h2⟩=>⟨_,_,h1,h2⟩
theorem zKx:jV Tryz.prog AA kt 196 zbe:=jV.mk' (f:=211) rfl (by kernel_rfl) (zyU (f:=211) zyS rfl rfl (by kernel_rfl) rfl rfl (by kernel_rfl)) (fun _ _ _ _ h _=>zyT h)
theorem zKy:jV Tryz.prog AA kt 202 (jN 1 16):=jV.mk' (f:=52) rfl (by kernel_rfl) (zgv (f:=52) (fn:=Tryz.f52) Tryz.func52 (zero:=[.s ⟨#[]⟩]) (by kernel_rfl) (by decide) (by kernel_rfl) (by kernel_rfl)) (fun _ _ _ _ h a=>zeB h a) (fun _ _ _ _ _ _ h=>zzK h)
theorem zKz:jV Tryz.prog AA kt 207 (jN 6 104):=jV.mk' (f:=57) rfl (by kernel_rfl) (zgv (f:=57) (fn:=Tryz.f57) Tryz.func57 (zero:=[.s ⟨#[]⟩,.s ⟨#[]⟩,.lst 0 true [],.i 0,.s ⟨#[]⟩,.lst 0 true []]) (by kernel_rfl) (by decide) (by kernel_rfl) (by kernel_rfl)) (fun _ _ _ _ h a=>zeB h a)
theorem zKA:jV Tryz.prog AA kt 256 (jN 3 48):=jV.mk' (f:=235) rfl (by kernel_rfl) (zgv (f:=235) (fn:=Tryz.f235) Tryz.func235 (zero:=[.i 0,.s ⟨#[]⟩,.lst 0 true []]) (by kernel_rfl) (by decide) (by kernel_rfl) (by kernel_rfl)) (fun _ _ _ _ h a=>zeB h a)
theorem zKB:jV Tryz.prog AA kt 274 zbJ:=jV.mk' (f:=219) rfl (by kernel_rfl) (zJ1 (f:=219) ⟨fun p c w=>Tryz.slices_Sort_int_none p c w,fun b o c ss w a d e=>Tryz.slices_Sort_int b o c ss w a d e⟩) (fun _ _ _ _ h g=>zJZ h g)
theorem zKC:jV Tryz.prog AA kt 324 zby:=jV.mk' (f:=233) rfl (by kernel_rfl) (zBp (f:=233) ⟨fun a c sep w=>Tryz.strings_Join_none a c sep w,fun b o c xs sep w d e g i j=>Tryz.strings_Join b o c xs sep w d e g i j⟩) (fun _ _ _ _ h _=>zBm h)
theorem zKD:jV Tryz.prog AA kt 486 (jN 1 8):=jV.mk' (f:=254) rfl (by kernel_rfl) (zgv (f:=254) (fn:=Tryz.f254) Tryz.func254 (zero:=[.i 0]) (by kernel_rfl) (by decide) (by kernel_rfl) (by kernel_rfl)) (fun _ _ _ _ h a=>zeB h a)
theorem xo:zbO Tryz.prog AA kt xsA:=.cons x53 (.cons zKw (.cons zKx (.cons zKy (.cons zKz (.cons zKA (.cons zKB (.cons zKC (.cons zKD (.nil)))))))))
theorem ok:Ok Tryz.prog AA kt:=zGF fo xo zAP
theorem own:ownKnob Tryz.prog.godebug=none:=by kernel_rfl
theorem lo:laidOutB Tryz.prog=true:=by kernel_rfl
theorem pl:zfN Tryz.prog [3,4]=true:=by kernel_rfl
abbrev zlW:List (String×DataW Unit):=Rows.kdcSkewRow.laid
theorem zjb:(zlW.all fun x=>x.2.handleName?.isNone)=true:=by kernel_rfl
theorem zAQ{W:World}(h:laidMetH Tryz.prog zlW W):qW AA (G0 kt W) W
 |0,v,hg,m,a=>by
  have a:some 0=some m:=a;cases a;cases hg;exact zru (zr6 (g:=0) (L:=[3,4,9,228,229]) (vs:=zBS) (t:=229) h zjb (.tail _ (.tail _ (.tail _ (.tail _ (.tail _ (.head _)))))) (by kernel_rfl) (by kernel_rfl) (by kernel_rfl) (by kernel_rfl) (by kernel_rfl)) (n:= "sluiceway/term.kinds") (by kernel_rfl) (by kernel_rfl)
 |1,v,hg,m,a=>by
  have a:some 2=some m:=a;cases a;cases hg;exact zrt (zr7 (g:=2) (t:=214) h zjb (.tail _ (.tail _ (.tail _ (.head _)))) (by kernel_rfl) (by kernel_rfl) (by kernel_rfl)) (n:= "strconv.ErrRange") (by kernel_rfl)
 |2,v,hg,m,a=>by
  have a:some 1=some m:=a;cases a;cases hg;exact zrt (zr7 (g:=1) (t:=214) h zjb (.tail _ (.tail _ (.tail _ (.tail _ (.head _))))) (by kernel_rfl) (by kernel_rfl) (by kernel_rfl)) (n:= "strconv.ErrSyntax") (by kernel_rfl)
 |3,v,hg,m,a=>by
  have a:some 3=some m:=a;cases a;cases hg;exact zru (zr6 (g:=3) (L:=[256,278]) (vs:=zmr) (t:=278) h zjb (.tail _ (.tail _ (.head _))) (by kernel_rfl) (by kernel_rfl) (by kernel_rfl) (by kernel_rfl) (by kernel_rfl)) (n:= "internal/strconv.uint64pow10") (by kernel_rfl) (by kernel_rfl)
 |_+4,v,hg,m,a=>by cases hg
theorem hT:∃fs,zvo Tryz.prog 33 3 9 31 fs:=⟨_,Tryz.underlying33,rfl,Tryz.underlying3,Tryz.underlying9,Tryz.underlying31,by kernel_rfl,by kernel_rfl⟩
theorem zz3(os:Os)(args:Array Value):laidMetH Tryz.prog zlW ((World.doorLaid Tryz.prog 80 os).forCall (fun _ _=>0) ⟨#[],args,[]⟩).memory:=
 laidMetH_of_parts3 (fuel:=8) (laidMet_of_run' 8 (by kernel_rfl) (by kernel_rfl)) (by kernel_rfl) (by kernel_rfl)
theorem rb:reachBytes=140737488351232:=rfl
end Go.Proofs.YtdiebjbepfjjfaaGreatDoor
