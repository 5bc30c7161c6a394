/- The code of functions (printed by gen/Gen.lean). -/
import Derived.Test.YthcobbfffjfboaaGreatDoorE3
set_option linter.unusedVariables false
set_option linter.unusedSimpArgs false
set_option linter.unusedSectionVars false
namespace Abs
open Go I
def zf3:ACode:=.q [x 2 0,⟨some 4,.pur .mov,[.k E],none⟩,k 5 (.b false)]<|.seq (.q [f 6 0 2,l 7 2 1 false 6,p 8 (.bin .neq) [.t 7,.k (.i 1)],m 9 8,
 w 10 (.faddr 1) [.t 2] 9 false,u 11 (.ld (some 2) 1 false) [.t 10] 9 false,w 12 .lenS [.t 11] 9 false,w 13 (.bin .lss) [.t 12,.k (.i 1)] 9 false,p 14 .pick [.t 9,.k (.b true),.t 13],m 15 14,w 16 (.faddr 1) [.t 2] 15 false,
 u 17 (.ld (some 2) 1 false) [.t 16] 15 false,w 18 (.sliceS false true) [.t 17,.k (.i 1)] 15 false,w 19 .mov [.t 1] 15 false,w 20 (.bin .neq) [.t 18,.t 19] 15 false,p 21 .pick [.t 15,.k (.b true),.t 20]]<|.cond (.t 21) (.q [⟨some 4,.pur .mov,[.k E],none⟩,
 k 5 (.b false)]<|.ret) (.skip))<|.q [f 22 1 2,l 23 2 1 false 22,p 24 (.sliceS true false) [.t 23,.k (.i 1)],m 4 24,k 5 (.b true)]<|.ret
def f317:zd:=⟨25,zf3,[.tmp 4,.tmp 5]⟩
def zhD:ACode:=.seq (.q [m 18 7,m 19 0,o 20 .lenS 19,p 21 (.bin .lss) [.t 18,.t 20]]<|.cond (.t 21) (.skip) (.exit 0))<|.seq (.block 1 (.ops [m 24 6,p 25 (.bin .mul) [.t 24,.k (.i 10)],m 26 0,
 m 27 7,p 28 .indexS [.t 26,.t 27],p 29 (.bin .sub) [.t 28,.k (.sc (.int .u8 (48)))],o 30 (.toInt .i64) 29,p 31 (.bin .sub) [.t 25,.t 30],m 6 31]))<|.ops [m 22 7,p 23 (.bin .add) [.t 22,.k (.i 1)],
 m 7 23]
def zhQ:ACode:=.q [i 2 0,k 3 (.b false)]<|.q [m 8 0,o 9 .lenS 8,p 10 (.bin .gtr) [.t 9,.k (.i 1)],m 11 10,w 12 .mov [.t 0] 11 true,
 w 13 .indexS [.t 12,.k (.i 0)] 11 true,w 14 (.bin .eql) [.t 13,.k (.sc (.int .u8 (45)))] 11 true,p 15 .pick [.t 11,.t 14,.k (.b false)],m 4 15]<|.q [i 5 0]<|.seq (.q [m 16 4]<|.cond (.t 16) (.ops [
 i 5 1]) (.skip))<|.q [i 6 0]<|.seq (.q [m 17 5,m 7 17]<|.block 0 (.loop [18,19,20,21,22,23,24,25,26,27,28,29,30,31] [] zhD))<|.seq (.q [m 32 4,o 33 (.un .not) 32]<|
 .cond (.t 33) (.ops [m 34 6,o 35 (.un .neg) 34,m 6 35]) (.skip))<|.q [m 36 6,m 37 6,c 38 213 [.t 37],m 39 0,p 40 (.bin .eql) [.t 38,.t 39],m 2 36,
 m 3 40]<|.ret
def f318:zd:=⟨41,zhQ,[.tmp 2,.tmp 3]⟩
def zmu:ACode:=.q [x 1 0,k 2 (.b false)]<|.q [f 3 0 1,l 4 1 1 false 3,p 5 (.bin .geq) [.t 4,.k (.i 1)],m 6 5,w 7 (.faddr 0) [.t 1] 6 true,
 u 8 (.ld (some 1) 1 false) [.t 7] 6 true,w 9 (.bin .leq) [.t 8,.k (.i 10)] 6 true,p 10 .pick [.t 6,.t 9,.k (.b false)],m 2 10]<|.ret
def f319:zd:=⟨11,zmu,[.tmp 2]⟩
def zmP:ACode:=.q [k 4 (.b false)]<|.q [m 5 0,m 6 1,c 7 408 [.t 5,.t 6],p 8 (.bin .geq) [.t 7,.k (.i 0)],m 4 8]<|.ret
def f320:zd:=⟨9,zmP,[.tmp 4]⟩
def zsl:ACode:=.q [x 2 0,k 3 (.b false)]<|.q [l 4 2 3 true 2,h 5 1 false 1,p 6 (.bin .sub) [.t 5,.k (.i 1)],c 7 221 [.t 4,.t 6],o 8 (.un .not) 7,m 3 8]<|.ret
def f321:zd:=⟨9,zsl,[.tmp 3]⟩
def zp3:ACode:=.q [x 1 0,k 2 (.b false)]<|.q [l 3 1 3 true 1,c 4 222 [.t 3],o 5 (.un .not) 4,m 2 5]<|.ret
def f322:zd:=⟨6,zp3,[.tmp 2]⟩
def zpB:ACode:=.q [k 0 (.sc (.map none))]<|.q [k 1 (.fn 412 [] [])]<|.q [k 2 (.fn 413 [] [])]<|.q [k 3 (.fn 414 [] [])]<|.q [k 4 (.fn 415 [] [])]<|.q [⟨some 5,.mkmap,[],none⟩,
 m 6 1,m 7 4,⟨some 8,.pur (.build [.sc .nilFunc,.sc .nilFunc] [(0,1),(1,1)]),[.t 6,.t 7],none⟩,⟨none,.mapset false,[.t 5,.k (.i 3),.t 8],none⟩,m 9 2,m 10 3,⟨some 11,.pur (.build [.sc .nilFunc,.sc .nilFunc] [(0,1),(1,1)]),[.t 9,.t 10],none⟩,
 ⟨none,.mapset false,[.t 5,.k (.i 4),.t 11],none⟩,m 12 3,m 13 2,⟨some 14,.pur (.build [.sc .nilFunc,.sc .nilFunc] [(0,1),(1,1)]),[.t 12,.t 13],none⟩,⟨none,.mapset false,[.t 5,.k (.i 10),.t 14],none⟩,m 15 5,m 0 15]<|.ret
def zgv:zd:=⟨16,zpB,[.tmp 0]⟩
def zia:ACode:=.q [p 10 (.bin .lss) [.t 9,.t 8]]<|.seq (.cond (.t 10) (.skip) (.exit 0))<|.seq (.block 1 (.q [p 11 (.iaddr 3) [.t 7,.t 9],h 12 3 true 11,⟨some 6,.alloc .reg Z,[],none⟩,s 6 3 6 12]<|.q [
 m 13 0,l 14 6 3 true 6,c 15 328 [.t 13,.t 14],o 16 (.un .not) 15]<|.cond (.t 16) (.q [k 4 (.b false)]<|.ret) (.skip)))<|.ops [p 17 (.bin .add) [.t 9,.k (.i 1)],m 9 17]
def zqG:ACode:=.q [k 4 (.b false)]<|.seq (.q [m 7 1,o 8 .lenL 7,i 9 0]<|.block 0 (.loop [4,6,10,11,12,13,14,15,16,17] [6] zia))<|.q [k 4 (.b true)]<|.ret
def ziN:zd:=⟨18,zqG,[.tmp 4]⟩
def zkF:ACode:=.q [x 3 1]<|.q [l 5 3 3 true 3,c 6 254 [.t 5],s 3 3 3 6]<|.q [l 7 3 3 true 3,c 8 121 [.t 7],m 4 8]<|.seq (.q [m 9 4,
 ⟨some 10,.pur (.bin .eql),[.t 9,.k E],none⟩,m 11 10,w 12 .mov [.t 0] 11 false,w 13 .nilchk [.t 12] 11 false,w 14 (.faddr 1) [.t 13] 11 false,u 15 (.ld none 1 false) [.t 14] 11 false,w 16 .mov [.t 4] 11 false,
 ⟨some 17,.lookup true (.b false) false,[.t 15,.t 16],some (11,false)⟩,p 18 .pick [.t 11,.k (.b true),.t 17]]<|.cond (.t 18) (.ret) (.skip))<|.q [m 19 0,o 20 .nilchk 19,f 21 1 20,h 22 1 false 21,m 23 4,
 ⟨none,.mapset true,[.t 22,.t 23,.k (.b true)],none⟩]<|.seq (.opsC [m 24 0,o 25 .nilchk 24,f 26 0 25,h 27 1 false 26,l 28 3 3 true 3,o 29 .lenL 27,
 ⟨some 30,.pur (.buildSl 3 1 Z [0]),[.k (.agg Z)],none⟩,⟨some 31,.append 3 48,[.t 27,.t 30],none⟩,p 32 (.iaddr 3) [.t 31,.t 29],⟨none,.st none 3,[.t 32,.t 28],none⟩,o 33 .nilchk 24,f 34 0 33,
 ⟨none,.st none 1,[.t 34,.t 31],none⟩] [(32,34)])<|.ops [m 35 0,o 36 .nilchk 35,f 37 2 36,h 38 1 false 37,⟨none,.clearM,[.t 38],none⟩]
def zga:zd:=⟨39,zkF,[]⟩
def zbK:ACode:=.q [x 3 1,k 4 (.b false)]<|.q [l 11 3 3 true 3,c 12 121 [.t 11],m 5 12]<|.seq (.q [m 13 5,⟨some 14,.pur (.bin .eql),[.t 13,.k E],none⟩,
 m 15 14,w 16 .mov [.t 0] 15 false,w 17 .nilchk [.t 16] 15 false,w 18 (.faddr 1) [.t 17] 15 false,u 19 (.ld none 1 false) [.t 18] 15 false,w 20 .mov [.t 5] 15 false,⟨some 21,.lookup true (.b false) false,[.t 19,.t 20],some (15,false)⟩,
 p 22 .pick [.t 15,.k (.b true),.t 21]]<|.cond (.t 22) (.q [m 23 5,⟨some 24,.pur (.bin .neq),[.t 23,.k E],none⟩,m 4 24]<|.ret) (.skip))<|.seq (.q [m 26 0,o 27 .nilchk 26,f 28 2 27,
 h 29 1 false 28,m 30 5,⟨some 31,.lookup true (.b false) true,[.t 29,.t 30],none⟩,m 25 31,e 32 0 25,e 33 1 25,m 6 32,m 7 33]<|.q [m 34 7]<|
 .cond (.t 34) (.q [m 35 6,m 4 35]<|.ret) (.skip))<|.q [k 8 (.b false)]<|.seq (.q [f 36 0 3,l 37 3 1 false 36]<|.block 0 (.q [p 43 (.bin .eql) [.t 37,.k (.i 1)],
 m 42 43]<|.cond (.t 42) (.ops [k 8 (.b true)]) (.q [p 45 (.bin .eql) [.t 37,.k (.i 2)],m 44 45]<|.cond (.t 44) (.skip) (.q [p 47 (.bin .eql) [.t 37,.k (.i 9)],m 46 47]<|.cond (.t 46) (.q [
 f 48 2 3,l 49 3 1 false 48,p 50 (.iaddr 3) [.t 49,.k (.i 0)],h 51 3 true 50,f 52 2 3,l 53 3 1 false 52,p 54 (.iaddr 3) [.t 53,.k (.i 1)],h 55 3 true 54,
 ⟨some 9,.alloc .reg Z,[],none⟩,⟨some 10,.alloc .reg Z,[],none⟩,s 9 3 9 51,s 10 3 10 55]<|.ops [m 56 0,l 57 9 3 true 9,l 58 10 3 true 10,
 c 59 360 [.t 58],⟨some 60,.pur (.buildSl 3 2 Z [0,1]),[.t 57,.t 59],none⟩,c 61 326 [.t 56,.t 60],m 62 61,w 63 .mov [.t 0] 62 false,u 64 (.ld (some 10) 3 true) [.t 10] 62 false,u 65 (.ld (some 9) 3 true) [.t 9] 62 false,
 u 66 (.call 360) [.t 65] 62 false,⟨some 67,.pur (.buildSl 3 2 Z [0,1]),[.t 64,.t 66],some (62,false)⟩,u 68 (.call 326) [.t 63,.t 67] 62 false,p 69 .pick [.t 62,.k (.b true),.t 68],m 8 69]) (.ops [m 38 0,f 39 2 3,
 l 40 3 1 false 39,c 41 326 [.t 38,.t 40],m 8 41])))))<|.q [m 70 0,o 71 .nilchk 70,f 72 2 71,h 73 1 false 72,m 74 5,m 75 8,
 ⟨none,.mapset true,[.t 73,.t 74,.t 75],none⟩]<|.q [m 76 8,m 4 76]<|.ret
def wU:zd:=⟨77,zbK,[.tmp 4]⟩
def zgV:ACode:=.seq (.q [m 13 5,m 14 0,o 15 .lenL 14,p 16 (.bin .lss) [.t 13,.t 15]]<|.cond (.t 16) (.skip) (.exit 0))<|.seq (.block 1 (.q [m 19 4,m 20 0,m 21 5,
 p 22 (.iaddr 15) [.t 20,.t 21],f 23 0 22,h 24 1 false 23,c 25 345 [.t 19,.t 24],m 6 25]<|.q [m 26 0,m 27 5,p 28 (.iaddr 15) [.t 26,.t 27],
 h 29 15 true 28,c 30 416 [.t 29],m 7 30]<|.seq (.q [m 31 7,o 32 (.un .not) 31,m 33 32,w 34 .mov [.t 6] 33 false,w 35 (.bin .geq) [.t 34,.k (.i 0)] 33 false,
 p 36 .pick [.t 33,.k (.b true),.t 35]]<|.cond (.t 36) (.q [k 2 (.sc (.pointer none)),i 3 1]<|.ret) (.skip))<|.ops [m 37 4,m 38 4,o 39 .nilchk 38,f 40 0 39,
 h 41 1 false 40,m 42 0,m 43 5,p 44 (.iaddr 15) [.t 42,.t 43],h 45 15 true 44,
 ⟨some 46,.pur (.buildSl 15 1 [E,.i 0,E,N,N,.i 0,E,N,.i 0,.i 0,.i 0,.i 0,.i 0,.i 0,.i 0] [0]),[.t 45],none⟩,⟨some 47,.append 15 192,[.t 41,.t 46],none⟩,o 48 .nilchk 37,f 49 0 48,⟨none,.st none 1,[.t 49,.t 47],none⟩]))<|.ops [
 m 17 5,p 18 (.bin .add) [.t 17,.k (.i 1)],m 5 18]
def zqN:ACode:=.q [k 2 (.sc (.pointer none)),i 3 0]<|.seq (.q [m 8 0,o 9 .lenL 8,p 10 (.bin .gtr) [.t 9,.k (.i 32)]]<|.cond (.t 10) (.q [k 2 (.sc (.pointer none)),
 i 3 12]<|.ret) (.skip))<|.q [p 11 (.build [N] []) [],⟨some 12,.box .heap,[.t 11],none⟩,m 4 12]<|.seq (.q [i 5 0]<|
 .block 0 (.loop [2,3,6,7,13,14,15,16,17,18,19,20,21,22,23,24,25,26,27,28,29,30,31,32,33,34,35,36,37,38,39,40,41,42,43,44,45,46,47,48,49] [] zgV))<|.q [m 50 4,m 2 50,i 3 0]<|.ret
def ziV:zd:=⟨51,zqN,[.tmp 2,.tmp 3]⟩
def zno:ACode:=.q [x 2 0,x 3 1,⟨some 4,.alloc .reg Z,[],none⟩]<|.q [l 5 3 3 true 3,l 6 2 3 true 2,c 7 370 [.t 5,.t 6],
 ⟨some 8,.pur (.buildSl 3 1 Z [0]),[.t 7],none⟩,⟨some 9,.call 63,[.k (.s ⟨#[115,112,97,107,101]⟩),.t 8],none⟩,s 4 3 4 9]<|.ret
def zih:zd:=⟨10,zno,[.cell 4 3 true]⟩
def zrt:ACode:=.q [x 3 0,x 5 2,⟨some 6,.alloc .reg Z,[],none⟩]<|.q [l 7 3 3 true 3,m 8 1,c 9 65 [.t 8],l 10 5 3 true 5,
 ⟨some 11,.pur (.buildSl 3 2 Z [0,1]),[.t 9,.t 10],none⟩,⟨some 12,.call 63,[.k (.s ⟨#[97,110,115,119,101,114]⟩),.t 11],none⟩,c 13 266 [.t 7,.k (.i 52),.t 12],s 6 3 6 13]<|.ret
def zjs:zd:=⟨14,zrt,[.cell 6 3 true]⟩
def zq6:ACode:=.q [x 2 0,x 3 1,⟨some 4,.alloc .reg Z,[],none⟩]<|.q [l 5 2 3 true 2,l 6 3 3 true 3,
 ⟨some 7,.call 293,[.t 5,.t 6,.k (.s ⟨#[115,116,114,101,110,103,116,104,101,110,107,101,121]⟩),.k (.s ⟨#[114,101,112,108,121,107,101,121]⟩)],none⟩,s 4 3 4 7]<|.ret
def zgI:zd:=⟨8,zq6,[.cell 4 3 true]⟩
def zom:ACode:=.q [x 2 0,⟨some 4,.alloc .reg Z,[],none⟩]<|.q [l 5 2 3 true 2,m 6 1,c 7 139 [.t 6],⟨some 8,.pur (.bin .add),[.k (.s ⟨#[117,115,101,32]⟩),.t 7],none⟩,c 9 259 [.t 5,.t 8],
 s 4 3 4 9]<|.ret
def zhE:zd:=⟨10,zom,[.cell 4 3 true]⟩
def ze7:ACode:=.q [x 2 0,x 3 1,⟨some 4,.alloc .reg Z,[],none⟩,i 5 0]<|.q [l 13 3 3 true 3,⟨some 14,.call 79,[.k (.s ⟨#[97,114,109,111,114]⟩),.k (.i 2),.t 13],none⟩,m 12 14,
 e 15 0 12,e 16 1 12,m 6 15,m 7 16]<|.seq (.q [m 17 7,o 18 (.un .not) 17]<|.cond (.t 18) (.q [⟨some 19,.pur (.build Z []),[],none⟩,
 s 4 3 4 19,i 5 2]<|.ret) (.skip))<|.q [l 21 2 3 true 2,m 22 6,p 23 (.iaddr 3) [.t 22,.k (.i 0)],h 24 3 true 23,
 ⟨some 25,.call 417,[.t 21,.k (.i 2),.t 24,.k (.s ⟨#[104,111,115,116]⟩),.k (.i 1)],none⟩,m 20 25,e 26 0 20,e 27 1 20,m 8 26,m 9 27]<|.seq (.q [m 28 9,
 p 29 (.bin .neq) [.t 28,.k (.i 0)]]<|.cond (.t 29) (.q [⟨some 30,.pur (.build Z []),[],none⟩,m 31 9,s 4 3 4 30,m 5 31]<|.ret) (.skip))<|.q [m 33 8,
 p 34 (.iaddr 3) [.t 33,.k (.i 0)],h 35 3 true 34,m 36 6,p 37 (.iaddr 3) [.t 36,.k (.i 1)],h 38 3 true 37,⟨some 39,.call 417,[.t 35,.k (.i 11),.t 38,.k (.s ⟨#[97,117,116,104]⟩),.k (.i 1)],none⟩,m 32 39,
 e 40 0 32,e 41 1 32,m 10 40,m 11 41]<|.seq (.q [m 42 11,p 43 (.bin .neq) [.t 42,.k (.i 0)]]<|.cond (.t 43) (.q [⟨some 44,.pur (.build Z []),[],none⟩,
 m 45 11,s 4 3 4 44,m 5 45]<|.ret) (.skip))<|.q [m 46 10,p 47 (.iaddr 3) [.t 46,.k (.i 0)],h 48 3 true 47,m 49 8,p 50 (.iaddr 3) [.t 49,.k (.i 0)],
 h 51 3 true 50,c 52 175 [.t 48,.t 51],s 4 3 4 52,i 5 0]<|.ret
def f337:zd:=⟨53,ze7,[.cell 4 3 true,.tmp 5]⟩
def zgZ:ACode:=.q [x 3 0,x 4 1,x 5 2,⟨some 6,.alloc .reg Z,[],none⟩,⟨some 7,.alloc .reg Z,[],none⟩,i 8 0]<|.q [l 13 3 3 true 3,
 l 14 5 3 true 5,⟨some 15,.call 417,[.t 13,.k (.i 51),.t 14,.k (.s ⟨#[102,97,115,116]⟩),.k (.i 3)],none⟩,m 12 15,e 16 0 12,e 17 1 12,m 9 16,m 10 17]<|.seq (.q [
 m 18 10,p 19 (.bin .neq) [.t 18,.k (.i 0)]]<|.cond (.t 19) (.q [⟨some 20,.pur (.build Z []),[],none⟩,⟨some 21,.pur (.build Z []),[],none⟩,m 22 10,s 6 3 6 20,s 7 3 7 21,
 m 8 22]<|.ret) (.skip))<|.q [m 23 9,p 24 (.iaddr 3) [.t 23,.k (.i 0)],h 25 3 true 24,l 26 4 3 true 4,c 27 265 [.t 26],c 28 61 [.t 25,.t 27],m 11 28]<|.seq (.q [
 m 29 11,o 30 (.un .not) 29]<|.cond (.t 30) (.q [⟨some 31,.pur (.build Z []),[],none⟩,⟨some 32,.pur (.build Z []),[],none⟩,s 6 3 6 31,s 7 3 7 32,i 8 6]<|
 .ret) (.skip))<|.q [m 33 9,p 34 (.iaddr 3) [.t 33,.k (.i 1)],h 35 3 true 34,m 36 9,p 37 (.iaddr 3) [.t 36,.k (.i 2)],h 38 3 true 37,s 6 3 6 35,s 7 3 7 38,
 i 8 0]<|.ret
def f338:zd:=⟨39,zgZ,[.cell 6 3 true,.cell 7 3 true,.tmp 8]⟩
def zkR:ACode:=.q [⟨some 4,.alloc .reg [E,.i 0,E,N,N,.i 0,E,N,.i 0,.i 0,.i 0,.i 0,.i 0,.i 0,.i 0],[],none⟩,k 5 (.b false)]<|.q [m 7 0,m 8 1,c 9 345 [.t 7,.t 8],
 m 6 9]<|.seq (.q [m 10 6,p 11 (.bin .lss) [.t 10,.k (.i 0)]]<|.cond (.t 11) (.q [⟨some 12,.pur (.build [E,.i 0,E,N,N,.i 0,E,N,.i 0,.i 0,.i 0,.i 0,.i 0,.i 0,.i 0] []),[],none⟩,
 s 4 15 4 12,k 5 (.b false)]<|.ret) (.skip))<|.q [m 13 0,o 14 .nilchk 13,f 15 0 14,h 16 1 false 15,m 17 6,p 18 (.iaddr 15) [.t 16,.t 17],
 h 19 15 true 18,s 4 15 4 19,k 5 (.b true)]<|.ret
def zfL:zd:=⟨20,zkR,[.cell 4 15 true,.tmp 5]⟩
def zjq:ACode:=.seq (.q [m 11 5,m 12 0,o 13 .lenL 12,p 14 (.bin .lss) [.t 11,.t 13]]<|.cond (.t 14) (.skip) (.exit 0))<|.seq (.block 1 (.q [m 17 0,m 18 5,p 19 (.iaddr 1) [.t 17,.t 18],
 h 20 1 false 19,m 21 1,m 22 5,p 23 (.iaddr 1) [.t 21,.t 22],h 24 1 false 23,p 25 (.bin .neq) [.t 20,.t 24]]<|.cond (.t 25) (.q [k 4 (.b false)]<|.ret) (.skip)))<|.ops [
 m 15 5,p 16 (.bin .add) [.t 15,.k (.i 1)],m 5 16]
def zkj:ACode:=.q [k 4 (.b false)]<|.seq (.q [m 6 0,o 7 .lenL 6,m 8 1,o 9 .lenL 8,p 10 (.bin .geq) [.t 7,.t 9]]<|.cond (.t 10) (.q [k 4 (.b false)]<|.ret) (.skip))<|
 .seq (.q [i 5 0]<|.block 0 (.loop [4,11,12,13,14,15,16,17,18,19,20,21,22,23,24,25] [] zjq))<|.q [k 4 (.b true)]<|.ret
def zhJ:zd:=⟨26,zkj,[.tmp 4]⟩
def zmk:ACode:=.q [k 4 (.b false)]<|.q [m 8 0,m 9 1,c 10 339 [.t 8,.t 9],m 7 10,e 11 0 7,e 12 1 7,
 ⟨some 5,.alloc .reg [E,.i 0,E,N,N,.i 0,E,N,.i 0,.i 0,.i 0,.i 0,.i 0,.i 0,.i 0],[],none⟩,s 5 15 5 11,m 6 12]<|.q [m 13 6,o 14 (.un .not) 13,m 15 14,
 w 16 (.faddr 14) [.t 5] 15 false,u 17 (.ld (some 5) 1 false) [.t 16] 15 false,w 18 (.bin .geq) [.t 17,.k (.i 5)] 15 false,p 19 .pick [.t 15,.k (.b true),.t 18],m 4 19]<|.ret
def zfq:zd:=⟨20,zmk,[.tmp 4]⟩
def znz:ACode:=.q [⟨some 2,.alloc .reg Z,[],none⟩]<|.q [m 3 0,o 4 .nilchk 3,f 5 9 4,h 6 1 false 5,p 7 (.bin .add) [.t 6,.k (.i 1)],o 8 .nilchk 3,
 f 9 9 8,⟨none,.st none 1,[.t 9,.t 7],none⟩]<|.q [m 10 0,o 11 .nilchk 10,f 12 9 11,h 13 1 false 12,c 14 139 [.t 13],⟨some 15,.pur (.bin .add),[.k (.s ⟨#[107,100,99,32]⟩),.t 14],none⟩,
 c 16 130 [.t 15],s 2 3 2 16]<|.ret
def zgE:zd:=⟨17,znz,[.cell 2 3 true]⟩
def qO:ACode:=.seq (.q [m 64 22,m 65 21,p 66 (.bin .leq) [.t 64,.t 65],m 67 66,w 68 .mov [.t 22] 67 true,w 69 .mov [.t 20] 67 true,w 70 (.bin .add) [.t 69,.k (.i 70)] 67 true,
 w 71 (.bin .leq) [.t 68,.t 70] 67 true,p 72 .pick [.t 67,.t 71,.k (.b false)]]<|.cond (.t 72) (.skip) (.exit 0))<|.seq (.block 1 (.q [m 75 16,p 76 (.iaddr 3) [.t 75,.k (.i 1)],h 77 3 true 76,l 78 8 3 true 8,
 m 79 22,c 80 158 [.t 78,.t 79],c 81 61 [.t 77,.t 80],m 23 81]<|.q [m 82 23,m 83 82,w 84 .mov [.t 22] 83 true,w 85 (.faddr 0) [.t 9] 83 true,
 u 86 (.ld (some 9) 1 false) [.t 85] 83 true,w 87 (.faddr 1) [.t 9] 83 true,u 88 (.ld (some 9) 1 false) [.t 87] 83 true,w 89 (.bin .add) [.t 86,.t 88] 83 true,w 90 (.faddr 2) [.t 9] 83 true,u 91 (.ld (some 9) 1 false) [.t 90] 83 true,
 w 92 (.bin .add) [.t 89,.t 91] 83 true,w 93 (.bin .leq) [.t 84,.t 92] 83 true,w 94 .mov [.t 93] 83 true,w 95 .mov [.t 22] 94 false,w 96 (.faddr 3) [.t 9] 94 false,u 97 (.ld (some 9) 1 false) [.t 96] 94 false,w 98 (.bin .eql) [.t 95,.t 97] 94 false,
 w 99 .pick [.t 94,.k (.b true),.t 98] 83 true,p 100 .pick [.t 83,.t 99,.k (.b false)]]<|.cond (.t 100) (.ops [m 101 19,m 102 22,⟨some 103,.pur (.buildSl 1 1 [.i 0] [0]),[.t 102],none⟩,⟨some 104,.append 1 8,[.t 101,.t 103],none⟩,m 19 104]) (.skip)))<|
 .ops [m 73 22,p 74 (.bin .add) [.t 73,.k (.i 1)],m 22 74]
def zbS:ACode:=.q [x 5 0,x 6 1,x 7 2,x 8 3,x 9 4,k 10 N,i 11 0]<|.q [l 27 7 3 true 7,
 ⟨some 28,.call 79,[.k (.s ⟨#[111,116,112]⟩),.k (.i 1),.t 27],none⟩,m 26 28,e 29 0 26,e 30 1 26,m 12 29,m 13 30]<|.seq (.q [m 31 13,o 32 (.un .not) 31]<|
 .cond (.t 32) (.q [k 10 N,i 11 2]<|.ret) (.skip))<|.q [l 34 5 3 true 5,m 35 12,p 36 (.iaddr 3) [.t 35,.k (.i 0)],h 37 3 true 36,c 38 268 [.t 34,.k (.i 45),.t 37],
 m 33 38,e 39 0 33,e 40 1 33,⟨some 14,.alloc .reg Z,[],none⟩,s 14 3 14 39,m 15 40]<|.seq (.q [m 41 15,p 42 (.bin .neq) [.t 41,.k (.i 0)]]<|
 .cond (.t 42) (.q [m 43 15,k 10 N,m 11 43]<|.ret) (.skip))<|.q [l 45 14 3 true 14,⟨some 46,.call 79,[.k (.s ⟨#[99,111,100,101]⟩),.k (.i 2),.t 45],none⟩,m 44 46,e 47 0 44,
 e 48 1 44,m 16 47,m 17 48]<|.seq (.q [m 49 17,o 50 (.un .not) 49]<|.cond (.t 50) (.q [k 10 N,i 11 2]<|.ret) (.skip))<|.q [
 m 51 16,p 52 (.iaddr 3) [.t 51,.k (.i 0)],h 53 3 true 52,l 54 6 3 true 6,c 55 61 [.t 53,.t 54],m 18 55]<|.seq (.q [m 56 18,o 57 (.un .not) 56]<|.cond (.t 57) (.q [
 k 10 N,i 11 6]<|.ret) (.skip))<|.q [k 19 N]<|.q [l 59 9 6 true 9,c 60 418 [.t 59],m 58 60,e 61 0 58,
 e 62 1 58,m 20 61,m 21 62]<|.seq (.q [m 63 20,m 22 63]<|
 .block 0 (.loop [23,64,65,66,67,68,69,70,71,72,73,74,75,76,77,78,79,80,81,82,83,84,85,86,87,88,89,90,91,92,93,94,95,96,97,98,99,100,101,102,103,104] [] qO))<|.seq (.q [m 105 20,m 106 21,p 107 (.bin .leq) [.t 105,.t 106],m 108 107,
 w 109 (.faddr 3) [.t 9] 108 true,u 110 (.ld (some 9) 1 false) [.t 109] 108 true,w 111 .mov [.t 20] 108 true,w 112 (.bin .add) [.t 111,.k (.i 70)] 108 true,w 113 (.bin .gtr) [.t 110,.t 112] 108 true,p 114 .pick [.t 108,.t 113,.k (.b false)]]<|.cond (.t 114) (.q [
 m 115 16,p 116 (.iaddr 3) [.t 115,.k (.i 1)],h 117 3 true 116,l 118 8 3 true 8,f 119 3 9,l 120 9 1 false 119,c 121 158 [.t 118,.t 120],c 122 61 [.t 117,.t 121],
 m 24 122]<|.q [m 123 24]<|.cond (.t 123) (.ops [m 124 19,f 125 3 9,l 126 9 1 false 125,⟨some 127,.pur (.buildSl 1 1 [.i 0] [0]),[.t 126],none⟩,⟨some 128,.append 1 8,[.t 124,.t 127],none⟩,
 m 19 128]) (.skip)) (.skip))<|.seq (.q [m 129 20,m 130 21,p 131 (.bin .leq) [.t 129,.t 130],m 132 131,w 133 (.faddr 3) [.t 9] 132 true,u 134 (.ld (some 9) 1 false) [.t 133] 132 true,
 w 135 .mov [.t 20] 132 true,w 136 (.bin .lss) [.t 134,.t 135] 132 true,p 137 .pick [.t 132,.t 136,.k (.b false)]]<|.cond (.t 137) (.q [m 138 16,p 139 (.iaddr 3) [.t 138,.k (.i 1)],h 140 3 true 139,l 141 8 3 true 8,
 f 142 3 9,l 143 9 1 false 142,c 144 158 [.t 141,.t 143],c 145 61 [.t 140,.t 144],m 25 145]<|.q [m 146 25]<|.cond (.t 146) (.ops [f 147 3 9,l 148 9 1 false 147,
 ⟨some 149,.pur (.buildSl 1 1 [.i 0] [0]),[.t 148],none⟩,m 150 19,⟨some 151,.append 1 8,[.t 149,.t 150],none⟩,m 19 151]) (.skip)) (.skip))<|.q [m 152 19,m 10 152,i 11 0]<|.ret
def zaA:zd:=⟨153,zbS,[.tmp 10,.tmp 11]⟩
def zeL:ACode:=.q [x 4 0,x 5 1,x 6 2,x 7 3,⟨some 8,.alloc .reg Z,[],none⟩,i 9 0]<|.q [l 18 7 3 true 7,
 ⟨some 19,.call 79,[.k (.s ⟨#[115,112,97,107,101]⟩),.k (.i 2),.t 18],none⟩,m 17 19,e 20 0 17,e 21 1 17,m 10 20,m 11 21]<|.seq (.q [m 22 11,o 23 (.un .not) 22]<|
 .cond (.t 23) (.q [⟨some 24,.pur (.build Z []),[],none⟩,s 8 3 8 24,i 9 2]<|.ret) (.skip))<|.q [m 26 10,p 27 (.iaddr 3) [.t 26,.k (.i 0)],h 28 3 true 27,
 l 29 4 3 true 4,c 30 369 [.t 28,.t 29],m 25 30,e 31 0 25,e 32 1 25,⟨some 12,.alloc .reg Z,[],none⟩,s 12 3 12 31,m 13 32]<|.seq (.q [
 m 33 13,p 34 (.bin .neq) [.t 33,.k (.i 0)]]<|.cond (.t 34) (.q [⟨some 35,.pur (.build Z []),[],none⟩,m 36 13,s 8 3 8 35,m 9 36]<|.ret) (.skip))<|.q [l 37 6 3 true 6,
 l 38 4 3 true 4,c 39 370 [.t 37,.t 38],⟨some 14,.alloc .reg Z,[],none⟩,s 14 3 14 39]<|.q [l 40 12 3 true 12,l 41 6 3 true 6,c 42 372 [.t 40,.t 41],
 l 43 4 3 true 4,l 44 14 3 true 14,m 45 10,p 46 (.iaddr 3) [.t 45,.k (.i 0)],h 47 3 true 46,l 48 5 3 true 5,c 49 371 [.t 42,.t 43,.t 44,.t 47,.t 48,.k (.i 1)],
 ⟨some 15,.alloc .reg Z,[],none⟩,s 15 3 15 49]<|.q [m 50 10,p 51 (.iaddr 3) [.t 50,.k (.i 1)],h 52 3 true 51,l 53 15 3 true 15,c 54 373 [.t 53],c 55 61 [.t 52,.t 54],
 m 16 55]<|.seq (.q [m 56 16,o 57 (.un .not) 56]<|.cond (.t 57) (.q [⟨some 58,.pur (.build Z []),[],none⟩,s 8 3 8 58,i 9 6]<|.ret) (.skip))<|.q [
 l 59 12 3 true 12,l 60 6 3 true 6,c 61 372 [.t 59,.t 60],l 62 4 3 true 4,l 63 14 3 true 14,m 64 10,p 65 (.iaddr 3) [.t 64,.k (.i 0)],h 66 3 true 65,
 l 67 5 3 true 5,c 68 371 [.t 61,.t 62,.t 63,.t 66,.t 67,.k (.i 0)],s 8 3 8 68,i 9 0]<|.ret
def zcI:zd:=⟨69,zeL,[.cell 8 3 true,.tmp 9]⟩
def zfv:ACode:=.seq (.q [m 6 5,m 7 0,o 8 .nilchk 7,f 9 0 8,h 10 1 false 9,o 11 .lenL 10,p 12 (.bin .lss) [.t 6,.t 11]]<|.cond (.t 12) (.skip) (.exit 0))<|.seq (.block 1 (.q [
 m 15 0,o 16 .nilchk 15,f 17 0 16,h 18 1 false 17,m 19 5,p 20 (.iaddr 15) [.t 18,.t 19],f 21 0 20,h 22 1 false 21,m 23 1,
 p 24 (.bin .eql) [.t 22,.t 23]]<|.cond (.t 24) (.q [m 25 5,m 4 25]<|.ret) (.skip)))<|.ops [m 13 5,p 14 (.bin .add) [.t 13,.k (.i 1)],m 5 14]
def zkD:ACode:=.q [i 4 0]<|.seq (.q [i 5 0]<|.block 0 (.loop [4,6,7,8,9,10,11,12,13,14,15,16,17,18,19,20,21,22,23,24,25] [] zfv))<|.q [k 4 (.i (-1))]<|.ret
def zeA:zd:=⟨26,zkD,[.tmp 4]⟩
def ze9:ACode:=.seq (.q [m 43 5,f 44 2 1,l 45 1 1 false 44,o 46 .lenL 45,p 47 (.bin .lss) [.t 43,.t 46]]<|.cond (.t 47) (.skip) (.exit 0))<|.seq (.block 1 (.q [f 50 2 1,
 l 51 1 1 false 50,m 52 5,p 53 (.iaddr 3) [.t 51,.t 52],h 54 3 true 53,c 55 346 [.t 54],m 6 55]<|.q [m 56 6,o 57 (.un .not) 56]<|.cond (.t 57) (.q [
 k 2 (.b false)]<|.ret) (.skip)))<|.ops [m 48 5,p 49 (.bin .add) [.t 48,.k (.i 1)],m 5 49]
def jx:ACode:=.q [x 1 0,k 2 (.b false)]<|.q [f 7 0 1,l 8 1 1 false 7,c 9 419 [.t 8],m 3 9]<|.q [f 10 0 1,l 11 1 1 false 10,
 p 12 (.bin .eql) [.t 11,.k (.i 1)],m 13 12,w 14 (.faddr 0) [.t 1] 13 false,u 15 (.ld (some 1) 1 false) [.t 14] 13 false,w 16 (.bin .eql) [.t 15,.k (.i 2)] 13 false,p 17 .pick [.t 13,.k (.b true),.t 16],m 18 17,
 w 19 (.faddr 0) [.t 1] 18 false,u 20 (.ld (some 1) 1 false) [.t 19] 18 false,w 21 (.bin .eql) [.t 20,.k (.i 7)] 18 false,p 22 .pick [.t 18,.k (.b true),.t 21],m 4 22]<|.seq (.q [m 23 3,p 24 (.bin .eql) [.t 23,.k (.i (-2))],
 m 25 24,w 26 .mov [.t 3] 25 false,w 27 (.bin .geq) [.t 26,.k (.i 0)] 25 false,w 28 .mov [.t 27] 25 false,w 29 (.faddr 2) [.t 1] 28 true,u 30 (.ld (some 1) 1 false) [.t 29] 28 true,w 31 .lenL [.t 30] 28 true,
 w 32 .mov [.t 3] 28 true,w 33 (.bin .neq) [.t 31,.t 32] 28 true,w 34 .pick [.t 28,.t 33,.k (.b false)] 25 false,p 35 .pick [.t 25,.k (.b true),.t 34],m 36 35,w 37 .mov [.t 4] 36 false,w 38 (.faddr 1) [.t 1] 36 false,
 u 39 (.ld (some 1) 1 false) [.t 38] 36 false,⟨some 40,.pur (.bin .neq),[.t 39,.k E],some (36,false)⟩,w 41 (.eqB true) [.t 37,.t 40] 36 false,p 42 .pick [.t 36,.k (.b true),.t 41]]<|.cond (.t 42) (.q [k 2 (.b false)]<|.ret) (.skip))<|.seq (.q [
 i 5 0]<|.block 0 (.loop [2,6,43,44,45,46,47,48,49,50,51,52,53,54,55,56,57] [] ze9))<|.q [k 2 (.b true)]<|.ret
def zi3:zd:=⟨58,jx,[.tmp 2]⟩
def ze6:ACode:=.seq (.q [m 33 5,f 34 2 1,l 35 1 1 false 34,o 36 .lenL 35,p 37 (.bin .lss) [.t 33,.t 36]]<|.cond (.t 37) (.skip) (.exit 0))<|.seq (.block 1 (.seq (.q [m 40 5,
 p 41 (.bin .gtr) [.t 40,.k (.i 0)]]<|.cond (.t 41) (.ops [m 42 4,⟨some 43,.pur (.bin .add),[.t 42,.k (.s ⟨#[44]⟩)],none⟩,m 4 43]) (.skip))<|.q [f 44 2 1,l 45 1 1 false 44,m 46 5,
 p 47 (.iaddr 3) [.t 45,.t 46],h 48 3 true 47,c 49 347 [.t 48],m 6 49]<|.ops [m 50 4,m 51 6,p 52 (.bin .add) [.t 50,.t 51],m 4 52]))<|.ops [m 38 5,
 p 39 (.bin .add) [.t 38,.k (.i 1)],m 5 39]
def zfY:ACode:=.q [x 1 0,⟨some 2,.pur .mov,[.k E],none⟩]<|.q [⟨some 7,.pur (.buildSl 1 10 [E] [0,1,2,3,4,5,6,7,8,9]),[.k (.s ⟨#[100]⟩),.k (.s ⟨#[97]⟩),.k (.s ⟨#[112]⟩),.k (.s ⟨#[101]⟩),.k (.s ⟨#[109]⟩),.k (.s ⟨#[104]⟩),.k (.s ⟨#[107]⟩),.k (.s ⟨#[117]⟩),.k (.s ⟨#[115]⟩),.k (.s ⟨#[120]⟩)],none⟩,
 m 3 7]<|.q [m 8 3,f 9 0 1,l 10 1 1 false 9,p 11 (.bin .sub) [.t 10,.k (.i 1)],p 12 (.iaddr 1) [.t 8,.t 11],h 13 1 false 12,m 4 13]<|.seq (.q [
 f 14 1 1,l 15 1 1 false 14,⟨some 16,.pur (.bin .neq),[.t 15,.k E],none⟩]<|.cond (.t 16) (.ops [m 17 4,f 18 1 1,l 19 1 1 false 18,o 20 .lenS 19,c 21 420 [.t 20],
 p 22 (.bin .add) [.t 17,.t 21],⟨some 23,.pur (.bin .add),[.t 22,.k (.s ⟨#[58]⟩)],none⟩,f 24 1 1,l 25 1 1 false 24,p 26 (.bin .add) [.t 23,.t 25],m 4 26]) (.skip))<|.seq (.q [f 27 0 1,
 l 28 1 1 false 27,p 29 (.bin .leq) [.t 28,.k (.i 2)]]<|.cond (.t 29) (.q [m 30 4,m 2 30]<|.ret) (.skip))<|.q [m 31 4,⟨some 32,.pur (.bin .add),[.t 31,.k (.s ⟨#[40]⟩)],none⟩,m 4 32]<|.seq (.q [
 i 5 0]<|.block 0 (.loop [6,33,34,35,36,37,38,39,40,41,42,43,44,45,46,47,48,49,50,51,52] [] ze6))<|.q [m 53 4,⟨some 54,.pur (.bin .add),[.t 53,.k (.s ⟨#[41]⟩)],none⟩,m 2 54]<|.ret
def zbV:zd:=⟨55,zfY,[.tmp 2]⟩
def zaO:ACode:=.q [x 2 0,⟨some 4,.alloc .reg [.i 0,.i 0,.i 0,.i 0,.i 0,.i 0],[],none⟩,i 5 0,i 6 0]<|.seq (.q [l 10 2 6 true 2,c 11 421 [.t 10],o 12 (.un .not) 11]<|
 .cond (.t 12) (.q [l 13 2 6 true 2,s 4 6 4 13,i 5 0,i 6 1]<|.ret) (.skip))<|.seq (.q [f 14 4 2,l 15 2 1 false 14,f 16 5 2,
 l 17 2 1 false 16,p 18 (.bin .geq) [.t 15,.t 17]]<|.cond (.t 18) (.q [l 19 2 6 true 2,s 4 6 4 19,i 5 0,i 6 7]<|.ret) (.skip))<|.q [f 20 0 2,
 l 21 2 1 false 20,f 22 1 2,l 23 2 1 false 22,p 24 (.bin .add) [.t 21,.t 23],m 7 24]<|.q [m 25 1,f 26 0 2,l 27 2 1 false 26,
 m 28 7,c 29 422 [.t 25,.t 27,.t 28],m 8 29]<|.seq (.q [m 30 8,p 31 (.bin .lss) [.t 30,.k (.i 0)],m 32 31,w 33 (.faddr 3) [.t 2] 32 true,u 34 (.ld (some 2) 1 false) [.t 33] 32 true,
 w 35 .mov [.t 7] 32 true,w 36 (.bin .gtr) [.t 34,.t 35] 32 true,p 37 .pick [.t 32,.t 36,.k (.b false)]]<|.cond (.t 37) (.ops [m 38 1,f 39 3 2,l 40 2 1 false 39,f 41 3 2,
 l 42 2 1 false 41,c 43 422 [.t 38,.t 40,.t 42],m 8 43]) (.skip))<|.seq (.q [m 44 8,p 45 (.bin .geq) [.t 44,.k (.i 0)]]<|.cond (.t 45) (.q [m 46 8,p 47 (.bin .add) [.t 46,.k (.i 1)],
 f 48 0 2,s 2 1 48 47]<|.q [f 49 3 2,⟨none,.st (some 2) 1,[.t 49,.k (.i 0)],none⟩]<|.q [f 50 4 2,⟨none,.st (some 2) 1,[.t 50,.k (.i 0)],none⟩]<|.q [l 51 2 6 true 2,
 m 52 8,s 4 6 4 51,m 5 52,i 6 0]<|.ret) (.skip))<|.q [m 53 1,m 54 7,p 55 (.bin .add) [.t 54,.k (.i 1)],m 56 7,f 57 2 2,
 l 58 2 1 false 57,p 59 (.bin .add) [.t 56,.t 58],c 60 422 [.t 53,.t 55,.t 59],m 9 60]<|.q [f 61 4 2,l 62 2 1 false 61,p 63 (.bin .add) [.t 62,.k (.i 1)],f 64 4 2,
 s 2 1 64 63]<|.q [f 65 3 2,⟨none,.st (some 2) 1,[.t 65,.k (.i 0)],none⟩]<|.seq (.q [m 66 9,p 67 (.bin .geq) [.t 66,.k (.i 0)]]<|.cond (.t 67) (.q [m 68 9,p 69 (.bin .add) [.t 68,.k (.i 1)],
 f 70 3 2,s 2 1 70 69]<|.q [l 71 2 6 true 2,s 4 6 4 71,i 5 0,i 6 8]<|.ret) (.skip))<|.q [l 72 2 6 true 2,
 s 4 6 4 72,i 5 0,i 6 6]<|.ret
def wm:zd:=⟨73,zaO,[.cell 4 6 true,.tmp 5,.tmp 6]⟩
def znx:ACode:=.q [i 4 0]<|.q [m 6 0,m 7 1,c 8 345 [.t 6,.t 7],m 5 8]<|.seq (.q [m 9 5,p 10 (.bin .lss) [.t 9,.k (.i 0)]]<|.cond (.t 10) (.q [
 i 4 3]<|.ret) (.skip))<|.q [m 11 0,o 12 .nilchk 11,f 13 0 12,h 14 1 false 13,m 15 5,p 16 (.iaddr 15) [.t 14,.t 15],f 17 14 16,
 ⟨none,.st none 1,[.t 17,.k (.i 0)],none⟩]<|.q [i 4 0]<|.ret
def zik:zd:=⟨18,znx,[.tmp 4]⟩
def zpC:ACode:=.q [x 4 0,x 5 1,⟨some 8,.alloc .reg Z,[],none⟩]<|.q [l 9 4 3 true 4,m 10 2,⟨some 11,.pur (.bin .add),[.k (.s ⟨#[106,111,105,110,32]⟩),.t 10],none⟩,c 12 312 [.t 9,.t 11],
 l 13 5 3 true 5,m 14 3,⟨some 15,.pur (.bin .add),[.k (.s ⟨#[106,111,105,110,32]⟩),.t 14],none⟩,c 16 312 [.t 13,.t 15],⟨some 17,.pur (.buildSl 3 2 Z [0,1]),[.t 12,.t 16],none⟩,c 18 126 [.t 17],c 19 124 [.t 18],
 s 8 3 8 19]<|.ret
def zgj:zd:=⟨20,zpC,[.cell 8 3 true]⟩
def zrP:ACode:=.q [x 4 0,x 5 1,x 6 2,x 7 3,⟨some 8,.alloc .reg Z,[],none⟩]<|.q [l 9 4 3 true 4,l 10 5 3 true 5,c 11 124 [.t 10],
 l 12 6 3 true 6,l 13 7 3 true 7,⟨some 14,.pur (.buildSl 3 3 Z [0,1,2]),[.t 11,.t 12,.t 13],none⟩,⟨some 15,.call 62,[.k (.s ⟨#[102,97,115,116]⟩),.t 14],none⟩,c 16 261 [.t 9,.k (.i 51),.t 15],s 8 3 8 16]<|.ret
def zhP:zd:=⟨17,zrP,[.cell 8 3 true]⟩
def zsz:ACode:=.q [x 2 0,x 3 1,⟨some 4,.alloc .reg Z,[],none⟩]<|.q [l 5 2 3 true 2,l 6 3 3 true 3,
 ⟨some 7,.call 350,[.t 5,.t 6,.k (.s ⟨#[115,116,114,101,110,103,116,104,101,110,107,101,121]⟩),.k (.s ⟨#[114,101,112,108,121,107,101,121]⟩)],none⟩,s 4 3 4 7]<|.ret
def zjl:zd:=⟨8,zsz,[.cell 4 3 true]⟩
def ziP:ACode:=.q [x 5 0,x 7 2,k 10 N,i 11 0]<|.q [l 17 5 3 true 5,m 18 1,l 19 7 3 true 7,c 20 263 [.t 17,.t 18,.t 19],
 m 16 20,e 21 0 16,e 22 1 16,⟨some 12,.alloc .reg Z,[],none⟩,s 12 3 12 21,m 13 22]<|.seq (.q [m 23 13,p 24 (.bin .neq) [.t 23,.k (.i 0)]]<|
 .cond (.t 24) (.q [m 25 13,k 10 N,m 11 25]<|.ret) (.skip))<|.q [m 27 3,m 28 4,l 29 12 3 true 12,c 30 78 [.t 27,.t 28,.t 29],m 26 30,
 e 31 0 26,e 32 1 26,m 14 31,m 15 32]<|.seq (.q [m 33 15,o 34 (.un .not) 33]<|.cond (.t 34) (.q [k 10 N,i 11 2]<|
 .ret) (.skip))<|.q [m 35 14,m 10 35,i 11 0]<|.ret
def zdf:zd:=⟨36,ziP,[.tmp 10,.tmp 11]⟩
def zsg:ACode:=.q [x 2 0,⟨some 4,.alloc .reg Z,[],none⟩]<|.q [l 5 2 3 true 2,m 6 1,⟨some 7,.call 368,[.t 5,.k (.s ⟨#[117,115,101]⟩),.t 6],none⟩,s 4 3 4 7]<|.ret
def ziE:zd:=⟨8,zsg,[.cell 4 3 true]⟩
def zGG:ACode:=.seq (.q [m 7 2,m 8 3,p 9 (.bin .lss) [.t 7,.t 8]]<|.cond (.t 9) (.skip) (.exit 0))<|.seq (.block 1 (.ops [m 14 0,m 15 2,m 16 0,m 17 3,m 18 0,
 m 19 3,p 20 (.iaddr 3) [.t 18,.t 19],h 21 3 true 20,m 22 0,m 23 2,p 24 (.iaddr 3) [.t 22,.t 23],h 25 3 true 24,p 26 (.iaddr 3) [.t 14,.t 15],⟨none,.st none 3,[.t 26,.t 21],none⟩,
 p 27 (.iaddr 3) [.t 16,.t 17],⟨none,.st none 3,[.t 27,.t 25],none⟩]))<|.ops [m 10 2,p 11 (.bin .add) [.t 10,.k (.i 1)],m 12 3,p 13 (.bin .sub) [.t 12,.k (.i 1)],m 2 11,m 3 13]
def zIz:ACode:=.q [m 4 0,o 5 .lenL 4,p 6 (.bin .sub) [.t 5,.k (.i 1)],i 2 0,m 3 6]<|.block 0 (.loop [7,8,9,10,11,12,13,14,15,16,17,18,19,20,21,22,23,24,25,26,27] [] zGG)
def zk6:zd:=⟨28,zIz,[]⟩
def zlV:ACode:=.q [x 2 0,k 3 (.b false)]<|.q [f 4 2 1,h 5 1 false 4,l 6 2 3 true 2,c 7 121 [.t 6],⟨some 8,.lookup true (.b false) false,[.t 5,.t 7],none⟩,m 9 8,
 u 10 (.ld none 3 true) [.t 1] 9 true,w 11 (.faddr 2) [.t 2] 9 true,u 12 (.ld (some 2) 1 false) [.t 11] 9 true,w 13 (.buildSl 1 1 [N] [0]) [.t 12] 9 true,u 14 (.call 357) [.t 10,.t 13] 9 true,p 15 .pick [.t 9,.t 14,.k (.b false)],m 3 15]<|.ret
def ze2:zd:=⟨16,zlV,[.tmp 3]⟩
def zs2:ACode:=.q [o 2 .ibox 0,k 4 (.b false)]<|.q [⟨some 5,.alloc .heap [.sc .nilFunc],[],none⟩,⟨none,.st none 1,[.t 5,.k (.fn 423 [] [])],none⟩]<|.q [m 8 1,p 9 (.mkfn 426 0) [.t 5,.t 2],c 10 425 [.t 8,.t 9],
 m 6 10]<|.q [m 11 1,p 12 (.mkfn 427 0) [.t 5,.t 2],c 13 425 [.t 11,.t 12],m 7 13]<|.q [m 14 6,m 15 14,w 16 .mov [.t 7] 15 true,
 w 17 (.un .not) [.t 16] 15 true,p 18 .pick [.t 15,.t 17,.k (.b false)],m 4 18]<|.ret
def zib:zd:=⟨19,zs2,[.tmp 4]⟩
def zpZ:ACode:=.q [x 2 0,k 3 (.b false)]<|.q [h 4 3 true 1,f 5 2 2,l 6 2 1 false 5,p 7 (.sliceL 3 false true false) [.t 6,.k (.i 1)],o 8 (.buildSl 1 1 [N] [0]) 7,
 c 9 357 [.t 4,.t 8],m 3 9]<|.ret
def zhb:zd:=⟨10,zpZ,[.tmp 3]⟩
def zj5:ACode:=.q [x 2 0,k 3 (.b false)]<|.q [f 6 2 2,l 7 2 1 false 6,p 8 (.iaddr 3) [.t 7,.k (.i 0)],h 9 3 true 8,f 10 2 2,l 11 2 1 false 10,
 p 12 (.iaddr 3) [.t 11,.k (.i 1)],h 13 3 true 12,⟨some 4,.alloc .reg Z,[],none⟩,⟨some 5,.alloc .reg Z,[],none⟩,s 4 3 4 9,s 5 3 5 13]<|.q [f 14 2 1,
 h 15 1 false 14,l 16 2 3 true 2,c 17 121 [.t 16],⟨some 18,.lookup true (.b false) false,[.t 15,.t 17],none⟩,m 19 18,u 20 (.ld none 3 true) [.t 1] 19 true,u 21 (.ld (some 4) 3 true) [.t 4] 19 true,u 22 (.ld (some 5) 3 true) [.t 5] 19 true,
 u 23 (.call 360) [.t 22] 19 true,⟨some 24,.pur (.buildSl 3 2 Z [0,1]),[.t 21,.t 23],some (19,true)⟩,u 25 (.ld (some 5) 3 true) [.t 5] 19 true,u 26 (.ld (some 4) 3 true) [.t 4] 19 true,u 27 (.call 360) [.t 26] 19 true,
 ⟨some 28,.pur (.buildSl 3 2 Z [0,1]),[.t 25,.t 27],some (19,true)⟩,w 29 (.buildSl 1 2 [N] [0,1]) [.t 24,.t 28] 19 true,u 30 (.call 357) [.t 20,.t 29] 19 true,p 31 .pick [.t 19,.t 30,.k (.b false)],m 3 31]<|.ret
def zfe:zd:=⟨32,zj5,[.tmp 3]⟩
def zst:ACode:=.q [x 1 0,⟨some 2,.alloc .reg Z,[],none⟩]<|.q [l 3 1 3 true 1,⟨some 4,.pur (.buildSl 3 1 Z [0]),[.t 3],none⟩,⟨some 5,.call 228,[.k (.i 8),.k E,.t 4],none⟩,s 2 3 2 5]<|.ret
def zhM:zd:=⟨6,zst,[.cell 2 3 true]⟩
def zgc:ACode:=.q [x 2 0,k 3 (.b false)]<|.q [f 4 2 1,h 5 1 false 4,l 6 2 3 true 2,c 7 121 [.t 6],⟨some 8,.lookup true (.b false) false,[.t 5,.t 7],none⟩,m 9 8,
 w 10 (.faddr 0) [.t 1] 9 true,u 11 (.ld none 1 false) [.t 10] 9 true,w 12 (.faddr 2) [.t 2] 9 true,u 13 (.ld (some 2) 1 false) [.t 12] 9 true,w 14 (.iaddr 3) [.t 13,.k (.i 0)] 9 true,u 15 (.ld none 3 true) [.t 14] 9 true,u 16 (.call 231) [.t 11,.t 15] 9 true,
 p 17 .pick [.t 9,.t 16,.k (.b false)],m 18 17,u 19 (.ld none 3 true) [.t 1] 18 true,w 20 (.faddr 2) [.t 2] 18 true,u 21 (.ld (some 2) 1 false) [.t 20] 18 true,w 22 (.sliceL 3 true false false) [.t 21,.k (.i 1)] 18 true,
 w 23 (.buildSl 1 1 [N] [0]) [.t 22] 18 true,u 24 (.call 357) [.t 19,.t 23] 18 true,p 25 .pick [.t 18,.t 24,.k (.b false)],m 3 25]<|.ret
def zd8:zd:=⟨26,zgc,[.tmp 3]⟩
def zrH:ACode:=.q [x 2 0,x 3 1,⟨some 4,.alloc .reg Z,[],none⟩]<|.q [l 5 2 3 true 2,l 6 3 3 true 3,⟨some 7,.pur (.buildSl 3 2 Z [0,1]),[.t 5,.t 6],none⟩,
 ⟨some 8,.pur (.build Z [(0,1),(2,1)]),[.k (.i 4),.t 7],none⟩,s 4 3 4 8]<|.ret
def zgh:zd:=⟨9,zrH,[.cell 4 3 true]⟩
def ztX:ACode:=.q [x 1 0,⟨some 2,.alloc .reg Z,[],none⟩]<|.q [l 3 1 3 true 1,⟨some 4,.call 312,[.t 3,.k (.s ⟨#[119,111,114,100]⟩)],none⟩,s 2 3 2 4]<|.ret
def zhq:zd:=⟨5,ztX,[.cell 2 3 true]⟩
def ztZ:ACode:=.q [x 6 0,x 7 1,x 8 2,x 9 3,x 10 4,⟨some 12,.alloc .reg Z,[],none⟩]<|.q [l 13 6 3 true 6,l 14 7 3 true 7,
 l 15 8 3 true 8,l 16 9 3 true 9,l 17 10 3 true 10,⟨some 18,.pur (.buildSl 3 5 Z [0,1,2,3,4]),[.t 13,.t 14,.t 15,.t 16,.t 17],none⟩,c 19 126 [.t 18],c 20 124 [.t 19],m 21 5,
 c 22 354 [.t 20,.t 21],s 12 3 12 22]<|.ret
def zhV:zd:=⟨23,ztZ,[.cell 12 3 true]⟩
def znH:ACode:=.q [x 3 0,⟨some 6,.alloc .reg Z,[],none⟩]<|.q [l 7 3 3 true 3,m 8 1,⟨some 9,.pur (.bin .add),[.t 8,.k (.s ⟨#[32]⟩)],none⟩,m 10 2,c 11 193 [.t 10],
 p 12 (.bin .add) [.t 9,.t 11],c 13 312 [.t 7,.t 12],s 6 3 6 13]<|.ret
def zg0:zd:=⟨14,znH,[.cell 6 3 true]⟩
def zcM:ACode:=.q [x 2 0,x 3 1,⟨some 4,.alloc .reg Z,[],none⟩,i 5 0]<|.seq (.q [f 7 0 2,l 8 2 1 false 7,p 9 (.bin .neq) [.t 8,.k (.i 10)],
 m 10 9,w 11 (.faddr 2) [.t 2] 10 false,u 12 (.ld (some 2) 1 false) [.t 11] 10 false,w 13 .lenL [.t 12] 10 false,w 14 (.bin .neq) [.t 13,.k (.i 2)] 10 false,p 15 .pick [.t 10,.k (.b true),.t 14],m 16 15,
 w 17 (.faddr 2) [.t 2] 16 false,u 18 (.ld (some 2) 1 false) [.t 17] 16 false,w 19 (.iaddr 3) [.t 18,.k (.i 0)] 16 false,w 20 (.faddr 0) [.t 19] 16 false,u 21 (.ld none 1 false) [.t 20] 16 false,w 22 (.bin .neq) [.t 21,.k (.i 8)] 16 false,
 p 23 .pick [.t 16,.k (.b true),.t 22],m 24 23,w 25 (.faddr 2) [.t 2] 24 false,u 26 (.ld (some 2) 1 false) [.t 25] 24 false,w 27 (.iaddr 3) [.t 26,.k (.i 0)] 24 false,w 28 (.faddr 2) [.t 27] 24 false,u 29 (.ld none 1 false) [.t 28] 24 false,
 w 30 .lenL [.t 29] 24 false,w 31 (.bin .neq) [.t 30,.k (.i 1)] 24 false,p 32 .pick [.t 24,.k (.b true),.t 31]]<|.cond (.t 32) (.q [⟨some 33,.pur (.build Z []),[],none⟩,s 4 3 4 33,i 5 2]<|.ret) (.skip))<|
 .q [f 34 2 2,l 35 2 1 false 34,p 36 (.iaddr 3) [.t 35,.k (.i 1)],h 37 3 true 36,l 38 3 3 true 3,c 39 437 [.t 38],c 40 61 [.t 37,.t 39],m 6 40]<|.seq (.q [
 m 41 6,o 42 (.un .not) 41]<|.cond (.t 42) (.q [⟨some 43,.pur (.build Z []),[],none⟩,s 4 3 4 43,i 5 6]<|.ret) (.skip))<|.q [f 44 2 2,l 45 2 1 false 44,
 p 46 (.iaddr 3) [.t 45,.k (.i 0)],f 47 2 46,h 48 1 false 47,p 49 (.iaddr 3) [.t 48,.k (.i 0)],h 50 3 true 49,s 4 3 4 50,i 5 0]<|.ret
def zaf:zd:=⟨51,zcM,[.cell 4 3 true,.tmp 5]⟩
def zov:ACode:=.q [x 2 0,x 3 1,⟨some 4,.alloc .reg Z,[],none⟩]<|.q [l 5 2 3 true 2,c 6 173 [.t 5],l 7 3 3 true 3,c 8 437 [.t 7],c 9 172 [.t 6,.t 8],
 s 4 3 4 9]<|.ret
def zi6:zd:=⟨10,zov,[.cell 4 3 true]⟩
def zuo:ACode:=.q [x 6 0,x 7 1,x 8 2,x 9 3,x 10 4,⟨some 12,.alloc .reg Z,[],none⟩]<|.q [l 13 6 3 true 6,l 14 7 3 true 7,
 c 15 437 [.t 14],l 16 8 3 true 8,l 17 9 3 true 9,l 18 10 3 true 10,c 19 265 [.t 18],m 20 5,c 21 438 [.t 13,.t 15,.t 16,.t 17,.t 19,.t 20],s 12 3 12 21]<|.ret
def zgG:zd:=⟨22,zuo,[.cell 12 3 true]⟩
def zkq:ACode:=.q [x 2 0,x 3 1,⟨some 4,.alloc .reg Z,[],none⟩]<|.seq (.q [l 5 3 3 true 3,c 6 243 [.t 5],l 7 2 3 true 2,c 8 243 [.t 7],
 p 9 (.bin .lss) [.t 6,.t 8]]<|.cond (.t 9) (.q [l 10 3 3 true 3,l 11 2 3 true 2,⟨some 12,.pur (.buildSl 3 2 Z [0,1]),[.t 10,.t 11],none⟩,⟨some 13,.pur (.build Z [(0,1),(2,1)]),[.k (.i 9),.t 12],none⟩,
 s 4 3 4 13]<|.ret) (.skip))<|.q [l 14 2 3 true 2,l 15 3 3 true 3,⟨some 16,.pur (.buildSl 3 2 Z [0,1]),[.t 14,.t 15],none⟩,⟨some 17,.pur (.build Z [(0,1),(2,1)]),[.k (.i 9),.t 16],none⟩,
 s 4 3 4 17]<|.ret
def ze5:zd:=⟨18,zkq,[.cell 4 3 true]⟩
def zuh:ACode:=.q [x 1 0,⟨some 2,.alloc .reg Z,[],none⟩]<|.q [l 3 1 3 true 1,⟨some 4,.call 63,[.k (.s ⟨#[102,97,99,116,111,114]⟩),.k N],none⟩,c 5 266 [.t 3,.k (.i 60),.t 4],s 2 3 2 5]<|.ret
def zjG:zd:=⟨6,zuh,[.cell 2 3 true]⟩
def znK:ACode:=.q [⟨some 2,.alloc .reg Z,[],none⟩]<|.q [⟨some 3,.pur (.buildSl 3 0 Z []),[],none⟩,m 4 0,⟨some 5,.append 3 48,[.t 3,.t 4],none⟩,⟨some 6,.pur (.build Z [(0,1),(2,1)]),[.k (.i 3),.t 5],none⟩,
 s 2 3 2 6]<|.ret
def zgr:zd:=⟨7,znK,[.cell 2 3 true]⟩
def zjD:ACode:=.q [k 4 (.b false)]<|.q [m 5 0,o 6 .lenS 5,m 7 1,o 8 .lenS 7,p 9 (.bin .geq) [.t 6,.t 8],m 10 9,w 11 .mov [.t 0] 10 true,
 w 12 .mov [.t 1] 10 true,w 13 .lenS [.t 12] 10 true,w 14 (.sliceS false true) [.t 11,.t 13] 10 true,w 15 .mov [.t 1] 10 true,w 16 (.bin .eql) [.t 14,.t 15] 10 true,p 17 .pick [.t 10,.t 16,.k (.b false)],m 4 17]<|.ret
def zdc:zd:=⟨18,zjD,[.tmp 4]⟩
def zcB:ACode:=.q [p 9 (.bin .lss) [.t 8,.t 7]]<|.seq (.cond (.t 9) (.skip) (.exit 0))<|.seq (.block 1 (.q [m 10 8,m 5 10]<|.q [m 11 1,m 12 0,m 13 5,
 p 14 (.iaddr 3) [.t 12,.t 13],h 15 3 true 14,⟨some 16,.callv,[.t 11,.t 15],none⟩]<|.cond (.t 16) (.q [m 17 5,m 4 17]<|.ret) (.skip)))<|.ops [p 18 (.bin .add) [.t 8,.k (.i 1)],m 8 18]
def zmv:ACode:=.q [i 4 0]<|.seq (.q [m 6 0,o 7 .lenL 6,i 8 0]<|.block 0 (.loop [4,5,9,10,11,12,13,14,15,16,17,18] [] zcB))<|.q [k 4 (.i (-1))]<|.ret
def zfu:zd:=⟨19,zmv,[.tmp 4]⟩
def ztt:ACode:=.q [x 1 0,k 2 N]<|.q [k 2 N]<|.ret
def zgn:zd:=⟨3,ztt,[.tmp 2]⟩
def zus:ACode:=.q [x 1 0,k 2 N]<|.q [f 3 2 1,l 4 1 1 false 3,p 5 (.sliceL 3 false true false) [.t 4,.k (.i 1)],m 2 5]<|.ret
def zjn:zd:=⟨6,zus,[.tmp 2]⟩
def zsO:ACode:=.q [x 1 0,k 2 N]<|.q [f 3 2 1,l 4 1 1 false 3,p 5 (.sliceL 3 true false false) [.t 4,.k (.i 1)],m 2 5]<|.ret
def zgM:zd:=⟨6,zsO,[.tmp 2]⟩
def zoB:ACode:=.q [x 1 0,k 2 N]<|.q [f 3 2 1,l 4 1 1 false 3,m 2 4]<|.ret
def zig:zd:=⟨5,zoB,[.tmp 2]⟩
def zk3:ACode:=.seq (.q [m 50 4,m 51 3,p 52 (.bin .lss) [.t 50,.t 51]]<|.cond (.t 52) (.skip) (.exit 2))<|.seq (.block 3 (.q [f 55 4 1,l 56 1 1 false 55,m 57 4,
 p 58 (.iaddr 1) [.t 56,.t 57],h 59 1 false 58,f 60 4 1,l 61 1 1 false 60,m 62 3,p 63 (.iaddr 1) [.t 61,.t 62],h 64 1 false 63,p 65 (.bin .eql) [.t 59,.t 64]]<|.cond (.t 65) (.q [
 k 2 (.b false)]<|.ret) (.skip)))<|.ops [m 53 4,p 54 (.bin .add) [.t 53,.k (.i 1)],m 4 54]
def zj7:ACode:=.seq (.q [m 36 3,f 37 4 1,l 38 1 1 false 37,o 39 .lenL 38,p 40 (.bin .lss) [.t 36,.t 39]]<|.cond (.t 40) (.skip) (.exit 0))<|.seq (.block 1 (.seq (.q [f 43 4 1,
 l 44 1 1 false 43,m 45 3,p 46 (.iaddr 1) [.t 44,.t 45],h 47 1 false 46,c 48 464 [.t 47],o 49 (.un .not) 48]<|.cond (.t 49) (.q [k 2 (.b false)]<|.ret) (.skip))<|.q [
 i 4 0]<|.block 2 (.loop [2,50,51,52,53,54,55,56,57,58,59,60,61,62,63,64,65] [] zk3)))<|.ops [m 41 3,p 42 (.bin .add) [.t 41,.k (.i 1)],m 3 42]
def zm9:ACode:=.q [x 1 0,k 2 (.b false)]<|.seq (.q [f 5 0 1,l 6 1 1 false 5,⟨some 7,.pur (.bin .eql),[.t 6,.k E],none⟩,m 8 7,w 9 (.faddr 4) [.t 1] 8 false,
 u 10 (.ld (some 1) 1 false) [.t 9] 8 false,w 11 .lenL [.t 10] 8 false,w 12 (.bin .lss) [.t 11,.k (.i 1)] 8 false,p 13 .pick [.t 8,.k (.b true),.t 12],m 14 13,w 15 (.faddr 4) [.t 1] 14 false,u 16 (.ld (some 1) 1 false) [.t 15] 14 false,
 w 17 .lenL [.t 16] 14 false,w 18 (.bin .gtr) [.t 17,.k (.i 3)] 14 false,p 19 .pick [.t 14,.k (.b true),.t 18],m 20 19,w 21 (.faddr 14) [.t 1] 20 false,u 22 (.ld (some 1) 1 false) [.t 21] 20 false,w 23 (.bin .lss) [.t 22,.k (.i 0)] 20 false,
 p 24 .pick [.t 20,.k (.b true),.t 23],m 25 24,w 26 (.faddr 14) [.t 1] 25 false,u 27 (.ld (some 1) 1 false) [.t 26] 25 false,w 28 (.bin .gtr) [.t 27,.k (.i 1099511627776)] 25 false,p 29 .pick [.t 25,.k (.b true),.t 28],m 30 29,
 w 31 (.faddr 8) [.t 1] 30 false,u 32 (.ld (some 1) 6 true) [.t 31] 30 false,u 33 (.call 421) [.t 32] 30 false,w 34 (.un .not) [.t 33] 30 false,p 35 .pick [.t 30,.k (.b true),.t 34]]<|.cond (.t 35) (.q [k 2 (.b false)]<|.ret) (.skip))<|.seq (.q [
 i 3 0]<|.block 0 (.loop [2,4,36,37,38,39,40,41,42,43,44,45,46,47,48,49,50,51,52,53,54,55,56,57,58,59,60,61,62,63,64,65] [] zj7))<|.q [k 2 (.b true)]<|.ret
def zje:zd:=⟨66,zm9,[.tmp 2]⟩
def zh6:ACode:=.q [x 5 0,x 7 2,k 10 N,i 11 0]<|.q [l 17 5 3 true 5,m 18 1,l 19 7 3 true 7,c 20 268 [.t 17,.t 18,.t 19],
 m 16 20,e 21 0 16,e 22 1 16,⟨some 12,.alloc .reg Z,[],none⟩,s 12 3 12 21,m 13 22]<|.seq (.q [m 23 13,p 24 (.bin .neq) [.t 23,.k (.i 0)]]<|
 .cond (.t 24) (.q [m 25 13,k 10 N,m 11 25]<|.ret) (.skip))<|.q [m 27 3,m 28 4,l 29 12 3 true 12,c 30 79 [.t 27,.t 28,.t 29],m 26 30,
 e 31 0 26,e 32 1 26,m 14 31,m 15 32]<|.seq (.q [m 33 15,o 34 (.un .not) 33]<|.cond (.t 34) (.q [k 10 N,i 11 2]<|
 .ret) (.skip))<|.q [m 35 14,m 10 35,i 11 0]<|.ret
def zc0:zd:=⟨36,zh6,[.tmp 10,.tmp 11]⟩
def zk1:ACode:=.q [x 1 0,i 2 0,i 3 0]<|.seq (.q [l 4 1 6 true 1,c 5 421 [.t 4],o 6 (.un .not) 5]<|.cond (.t 6) (.q [i 2 0,
 k 3 (.i (-1))]<|.ret) (.skip))<|.q [f 7 0 1,l 8 1 1 false 7,f 9 0 1,l 10 1 1 false 9,f 11 1 1,l 12 1 1 false 11,p 13 (.bin .add) [.t 10,.t 12],
 f 14 2 1,l 15 1 1 false 14,p 16 (.bin .add) [.t 13,.t 15],f 17 3 1,l 18 1 1 false 17,p 19 .max [.t 16,.t 18],m 2 8,m 3 19]<|.ret
def zew:zd:=⟨20,zk1,[.tmp 2,.tmp 3]⟩
def kH:ACode:=.q [i 2 0]<|.seq (.q [m 3 0]<|.block 0 (.seq (.q [p 5 (.bin .eql) [.t 3,.k (.i 1)],m 4 5]<|.cond (.t 4) (.skip) (.ops [p 6 (.bin .eql) [.t 3,.k (.i 2)],m 4 6]))<|
 .cond (.t 4) (.q [i 2 0]<|.ret) (.q [p 8 (.bin .eql) [.t 3,.k (.i 3)],m 7 8]<|.cond (.t 7) (.q [k 2 (.i (-1))]<|.ret) (.seq (.q [p 10 (.bin .eql) [.t 3,.k (.i 4)],m 9 10]<|
 .cond (.t 9) (.skip) (.q [p 11 (.bin .eql) [.t 3,.k (.i 5)],m 9 11]<|.cond (.t 9) (.skip) (.q [p 12 (.bin .eql) [.t 3,.k (.i 9)],m 9 12]<|.cond (.t 9) (.skip) (.ops [p 13 (.bin .eql) [.t 3,.k (.i 10)],m 9 13]))))<|
 .cond (.t 9) (.q [i 2 2]<|.ret) (.seq (.q [p 15 (.bin .eql) [.t 3,.k (.i 6)],m 14 15]<|.cond (.t 14) (.skip) (.q [p 16 (.bin .eql) [.t 3,.k (.i 7)],m 14 16]<|.cond (.t 14) (.skip) (.ops [
 p 17 (.bin .eql) [.t 3,.k (.i 8)],m 14 17])))<|.cond (.t 14) (.q [i 2 1]<|.ret) (.skip))))))<|.q [k 2 (.i (-2))]<|.ret
def vD:zd:=⟨18,kH,[.tmp 2]⟩
def zlK:ACode:=.q [⟨some 2,.pur .mov,[.k E],none⟩]<|.seq (.q [m 3 0,p 4 (.bin .lss) [.t 3,.k (.i 10)]]<|.cond (.t 4) (.q [m 5 0,p 6 (.bin .add) [.k (.i 48),.t 5],o 7 (.toInt .u8) 6,
 ⟨some 8,.pur (.buildSl 1 1 [.sc (.int .u8 (0))] [0]),[.t 7],none⟩,o 9 .bytesStr 8,m 2 9]<|.ret) (.skip))<|.q [m 10 0,p 11 (.bin .quo) [.t 10,.k (.i 10)],c 12 420 [.t 11],m 13 0,
 p 14 (.bin .rem) [.t 13,.k (.i 10)],p 15 (.bin .add) [.k (.i 48),.t 14],o 16 (.toInt .u8) 15,⟨some 17,.pur (.buildSl 1 1 [.sc (.int .u8 (0))] [0]),[.t 16],none⟩,o 18 .bytesStr 17,p 19 (.bin .add) [.t 12,.t 18],m 2 19]<|.ret
def zeZ:zd:=⟨20,zlK,[.tmp 2]⟩
def kU:ACode:=.q [x 1 0,k 2 (.b false)]<|.q [f 3 0 1,l 4 1 1 false 3,p 5 (.bin .geq) [.t 4,.k (.i 0)],m 6 5,w 7 (.faddr 0) [.t 1] 6 true,
 u 8 (.ld (some 1) 1 false) [.t 7] 6 true,w 9 (.bin .leq) [.t 8,.k (.i 1099511627776)] 6 true,p 10 .pick [.t 6,.t 9,.k (.b false)],m 11 10,w 12 (.faddr 1) [.t 1] 11 true,u 13 (.ld (some 1) 1 false) [.t 12] 11 true,
 w 14 (.bin .geq) [.t 13,.k (.i 0)] 11 true,p 15 .pick [.t 11,.t 14,.k (.b false)],m 16 15,w 17 (.faddr 1) [.t 1] 16 true,u 18 (.ld (some 1) 1 false) [.t 17] 16 true,w 19 (.bin .leq) [.t 18,.k (.i 20)] 16 true,
 p 20 .pick [.t 16,.t 19,.k (.b false)],m 21 20,w 22 (.faddr 2) [.t 1] 21 true,u 23 (.ld (some 1) 1 false) [.t 22] 21 true,w 24 (.bin .geq) [.t 23,.k (.i 0)] 21 true,p 25 .pick [.t 21,.t 24,.k (.b false)],m 26 25,
 w 27 (.faddr 2) [.t 1] 26 true,u 28 (.ld (some 1) 1 false) [.t 27] 26 true,w 29 (.bin .leq) [.t 28,.k (.i 50)] 26 true,p 30 .pick [.t 26,.t 29,.k (.b false)],m 31 30,w 32 (.faddr 3) [.t 1] 31 true,u 33 (.ld (some 1) 1 false) [.t 32] 31 true,
 w 34 (.bin .geq) [.t 33,.k (.i 0)] 31 true,p 35 .pick [.t 31,.t 34,.k (.b false)],m 36 35,w 37 (.faddr 3) [.t 1] 36 true,u 38 (.ld (some 1) 1 false) [.t 37] 36 true,w 39 (.bin .leq) [.t 38,.k (.i 1099511627976)] 36 true,
 p 40 .pick [.t 36,.t 39,.k (.b false)],m 41 40,w 42 (.faddr 4) [.t 1] 41 true,u 43 (.ld (some 1) 1 false) [.t 42] 41 true,w 44 (.bin .geq) [.t 43,.k (.i 0)] 41 true,p 45 .pick [.t 41,.t 44,.k (.b false)],m 46 45,
 w 47 (.faddr 5) [.t 1] 46 true,u 48 (.ld (some 1) 1 false) [.t 47] 46 true,w 49 (.bin .geq) [.t 48,.k (.i 1)] 46 true,p 50 .pick [.t 46,.t 49,.k (.b false)],m 51 50,w 52 (.faddr 5) [.t 1] 51 true,u 53 (.ld (some 1) 1 false) [.t 52] 51 true,
 w 54 (.bin .leq) [.t 53,.k (.i 100)] 51 true,p 55 .pick [.t 51,.t 54,.k (.b false)],m 2 55]<|.ret
def vy:zd:=⟨56,kU,[.tmp 2]⟩
def zbx:ACode:=.seq (.q [m 9 8,m 10 0,o 11 .lenL 10,p 12 (.bin .lss) [.t 9,.t 11]]<|.cond (.t 12) (.skip) (.exit 0))<|.seq (.block 1 (.q [m 15 0,m 16 8,p 17 (.iaddr 1) [.t 15,.t 16],
 h 18 1 false 17,m 19 1,p 20 (.bin .geq) [.t 18,.t 19],m 21 20,w 22 .mov [.t 0] 21 true,w 23 .mov [.t 8] 21 true,w 24 (.iaddr 1) [.t 22,.t 23] 21 true,u 25 (.ld none 1 false) [.t 24] 21 true,
 w 26 .mov [.t 2] 21 true,w 27 (.bin .leq) [.t 25,.t 26] 21 true,p 28 .pick [.t 21,.t 27,.k (.b false)],m 29 28,w 30 .mov [.t 0] 29 true,w 31 .mov [.t 8] 29 true,w 32 (.iaddr 1) [.t 30,.t 31] 29 true,
 u 33 (.ld none 1 false) [.t 32] 29 true,w 34 (.bin .lss) [.t 33,.k (.i 1099511627776)] 29 true,p 35 .pick [.t 29,.t 34,.k (.b false)],m 36 35,w 37 .mov [.t 7] 36 true,w 38 (.bin .lss) [.t 37,.k (.i 0)] 36 true,w 39 .mov [.t 38] 36 true,
 w 40 .mov [.t 0] 39 false,w 41 .mov [.t 8] 39 false,w 42 (.iaddr 1) [.t 40,.t 41] 39 false,u 43 (.ld none 1 false) [.t 42] 39 false,w 44 .mov [.t 7] 39 false,w 45 (.bin .lss) [.t 43,.t 44] 39 false,w 46 .pick [.t 39,.k (.b true),.t 45] 36 true,
 p 47 .pick [.t 36,.t 46,.k (.b false)]]<|.cond (.t 47) (.ops [m 48 0,m 49 8,p 50 (.iaddr 1) [.t 48,.t 49],h 51 1 false 50,m 7 51]) (.skip)))<|.ops [m 13 8,
 p 14 (.bin .add) [.t 13,.k (.i 1)],m 8 14]
def zqa:ACode:=.q [i 6 0]<|.q [k 7 (.i (-1))]<|.seq (.q [i 8 0]<|
 .block 0 (.loop [9,10,11,12,13,14,15,16,17,18,19,20,21,22,23,24,25,26,27,28,29,30,31,32,33,34,35,36,37,38,39,40,41,42,43,44,45,46,47,48,49,50,51] [] zbx))<|.q [m 52 7,m 6 52]<|.ret
def zhd:zd:=⟨53,zqa,[.tmp 6]⟩
def zrG:ACode:=.q [o 2 .ibox 0,k 4 (.b false)]<|.q [m 5 1,o 6 (.mkfn 424 0) 2,c 7 320 [.t 5,.t 6],o 8 (.un .not) 7,m 4 8]<|.ret
def zgy:zd:=⟨9,zrG,[.tmp 4]⟩
def zoX:ACode:=.q [x 2 0,k 3 (.b false)]<|.q [h 4 1 false 1,l 5 2 3 true 2,c 6 231 [.t 4,.t 5],o 7 (.un .not) 6,m 3 7]<|.ret
def zjo:zd:=⟨8,zoX,[.tmp 3]⟩
def znP:ACode:=.q [k 4 (.b false)]<|.q [m 5 0,m 6 1,c 7 465 [.t 5,.t 6],p 8 (.bin .geq) [.t 7,.k (.i 0)],m 4 8]<|.ret
def zgl:zd:=⟨9,znP,[.tmp 4]⟩
def zrQ:ACode:=.q [k 4 (.b false)]<|.q [h 5 1 false 1,f 6 1 2,h 7 1 false 6,m 8 0,⟨some 9,.callv,[.t 5,.t 7,.t 8],none⟩,m 4 9]<|.ret
def zgL:zd:=⟨10,zrQ,[.tmp 4]⟩
def zs3:ACode:=.q [k 4 (.b false)]<|.q [h 5 1 false 1,f 6 0 2,h 7 1 false 6,m 8 0,⟨some 9,.callv,[.t 5,.t 7,.t 8],none⟩,m 4 9]<|.ret
def zjm:zd:=⟨10,zs3,[.tmp 4]⟩
def zqx:ACode:=.q [x 1 0,⟨some 2,.alloc .reg Z,[],none⟩]<|.q [l 3 1 3 true 1,⟨some 4,.call 259,[.t 3,.k (.s ⟨#[119,111,114,100]⟩)],none⟩,s 2 3 2 4]<|.ret
def ziA:zd:=⟨5,zqx,[.cell 2 3 true]⟩
def zrp:ACode:=.q [x 6 0,x 7 1,x 8 2,x 9 3,x 10 4,⟨some 12,.alloc .reg Z,[],none⟩]<|.q [l 13 6 3 true 6,l 14 7 3 true 7,
 l 15 8 3 true 8,l 16 9 3 true 9,l 17 10 3 true 10,⟨some 18,.pur (.buildSl 3 5 Z [0,1,2,3,4]),[.t 13,.t 14,.t 15,.t 16,.t 17],none⟩,c 19 385 [.t 18],c 20 265 [.t 19],m 21 5,
 c 22 336 [.t 20,.t 21],s 12 3 12 22]<|.ret
def zgk:zd:=⟨23,zrp,[.cell 12 3 true]⟩
def ztb:ACode:=.q [k 2 (.b false)]<|.q [m 3 0,⟨some 4,.pur (.bin .eql),[.t 3,.k (.s ⟨#[99,104,97,108,108,101,110,103,101]⟩)],none⟩,m 5 4,w 6 .mov [.t 0] 5 false,⟨some 7,.pur (.bin .eql),[.t 6,.k (.s ⟨#[111,116,112]⟩)],some (5,false)⟩,
 p 8 .pick [.t 5,.k (.b true),.t 7],m 9 8,w 10 .mov [.t 0] 9 false,⟨some 11,.pur (.bin .eql),[.t 10,.k (.s ⟨#[115,112,97,107,101]⟩)],some (9,false)⟩,p 12 .pick [.t 9,.k (.b true),.t 11],m 2 12]<|.ret
def zgp:zd:=⟨13,ztb,[.tmp 2]⟩
def zh0:ACode:=.q [p 9 (.bin .lss) [.t 8,.t 7]]<|.seq (.cond (.t 9) (.skip) (.exit 0))<|.seq (.block 1 (.q [m 10 8,m 5 10]<|.q [m 11 1,m 12 0,m 13 5,
 p 14 (.iaddr 1) [.t 12,.t 13],h 15 1 false 14,⟨some 16,.callv,[.t 11,.t 15],none⟩]<|.cond (.t 16) (.q [m 17 5,m 4 17]<|.ret) (.skip)))<|.ops [p 18 (.bin .add) [.t 8,.k (.i 1)],m 8 18]
def zoO:ACode:=.q [i 4 0]<|.seq (.q [m 6 0,o 7 .lenL 6,i 8 0]<|.block 0 (.loop [4,5,9,10,11,12,13,14,15,16,17,18] [] zh0))<|.q [k 4 (.i (-1))]<|.ret
def zjf:zd:=⟨19,zoO,[.tmp 4]⟩
end Abs
