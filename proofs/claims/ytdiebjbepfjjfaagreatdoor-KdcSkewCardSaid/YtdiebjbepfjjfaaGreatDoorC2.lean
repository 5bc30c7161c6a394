/- The code of functions (printed by gen/Gen.lean). -/
import Derived.Test.YtdiebjbepfjjfaaGreatDoorE3
set_option linter.unusedVariables false
set_option linter.unusedSimpArgs false
set_option linter.unusedSectionVars false
namespace Abs
open Go I
def zpW:ACode:=.q [x 1 0,⟨some 2,.alloc .reg Z,[],none⟩]<|.q [l 3 1 18 true 1,c 4 272 [.t 3,.k (.i 1)],⟨some 5,.call 62,[.k (.s ⟨#[102,97,99,116,111,114]⟩),.k N],none⟩,c 6 261 [.t 4,.k (.i 60),.t 5],
 s 2 3 2 6]<|.ret
def zhv:za:=⟨7,zpW,[.cell 2 3 true]⟩
def zpX:ACode:=.q [x 2 0,⟨some 4,.alloc .reg Z,[],none⟩]<|.q [f 5 0 2,l 6 2 3 true 5,f 7 3 2,l 8 2 3 true 7,c 9 127 [.t 6,.t 8],
 f 10 6 2,l 11 2 3 true 10,c 12 363 [.t 11],f 13 9 2,l 14 2 3 true 13,f 15 12 2,l 16 2 3 true 15,f 17 15 2,l 18 2 3 true 17,
 c 19 124 [.t 18],m 20 1,c 21 364 [.t 9,.t 12,.t 14,.t 16,.t 19,.t 20],s 4 3 4 21]<|.ret
def zhw:za:=⟨22,zpX,[.cell 4 3 true]⟩
def zce:ACode:=.q [x 1 0,k 2 (.b false)]<|.q [f 3 0 1,l 4 1 1 false 3,c 5 365 [.t 4,.k (.i 0),.k (.i 1099511627776)],m 6 5,w 7 (.faddr 1) [.t 1] 6 true,
 u 8 (.ld (some 1) 1 false) [.t 7] 6 true,u 9 (.call 365) [.t 8,.k (.i 0),.k (.i 20)] 6 true,p 10 .pick [.t 6,.t 9,.k (.b false)],m 11 10,w 12 (.faddr 2) [.t 1] 11 true,u 13 (.ld (some 1) 1 false) [.t 12] 11 true,
 u 14 (.call 365) [.t 13,.k (.i 0),.k (.i 50)] 11 true,p 15 .pick [.t 11,.t 14,.k (.b false)],m 16 15,w 17 (.faddr 3) [.t 1] 16 true,u 18 (.ld (some 1) 1 false) [.t 17] 16 true,u 19 (.call 365) [.t 18,.k (.i 0),.k (.i 1099511627976)] 16 true,
 p 20 .pick [.t 16,.t 19,.k (.b false)],m 21 20,w 22 (.faddr 4) [.t 1] 21 true,u 23 (.ld (some 1) 1 false) [.t 22] 21 true,w 24 (.bin .geq) [.t 23,.k (.i 0)] 21 true,p 25 .pick [.t 21,.t 24,.k (.b false)],m 26 25,
 w 27 (.faddr 5) [.t 1] 26 true,u 28 (.ld (some 1) 1 false) [.t 27] 26 true,u 29 (.call 365) [.t 28,.k (.i 1),.k (.i 100)] 26 true,p 30 .pick [.t 26,.t 29,.k (.b false)],m 2 30]<|.ret
def zaE:za:=⟨31,zce,[.tmp 2]⟩
def zhy:ACode:=.seq (.q [m 16 6,m 17 0,o 18 .lenL 17,p 19 (.bin .lss) [.t 16,.t 18]]<|.cond (.t 19) (.skip) (.exit 0))<|.seq (.block 1 (.q [m 22 0,m 23 6,p 24 (.iaddr 1) [.t 22,.t 23],
 h 25 1 false 24,m 7 25]<|.q [m 26 1,m 27 7,⟨some 28,.callv,[.t 26,.t 27],none⟩,o 29 (.un .not) 28]<|.cond (.t 29) (.q [m 30 0,m 31 5,m 32 7,
 p 33 (.iaddr 1) [.t 30,.t 31],⟨none,.st none 1,[.t 33,.t 32],none⟩]<|.ops [m 34 5,p 35 (.bin .add) [.t 34,.k (.i 1)],m 5 35]) (.skip)))<|.ops [m 20 6,p 21 (.bin .add) [.t 20,.k (.i 1)],m 6 21]
def zk6:ACode:=.q [k 4 N]<|.q [m 8 0,m 9 1,c 10 367 [.t 8,.t 9],m 5 10]<|.seq (.q [m 11 5,p 12 (.bin .eql) [.t 11,.k (.i (-1))]]<|.cond (.t 12) (.q [
 m 13 0,m 4 13]<|.ret) (.skip))<|.seq (.q [m 14 5,p 15 (.bin .add) [.t 14,.k (.i 1)],m 6 15]<|.block 0 (.loop [7,16,17,18,19,20,21,22,23,24,25,26,27,28,29,30,31,32,33,34,35] [] zhy))<|.q [
 m 36 0,m 37 5,p 38 (.sliceL 1 true false false) [.t 36,.t 37],⟨none,.clearS 1 [.i 0],[.t 38],none⟩]<|.q [m 39 0,m 40 5,p 41 (.sliceL 1 false true false) [.t 39,.t 40],m 4 41]<|.ret
def zhx:za:=⟨42,zk6,[.tmp 4]⟩
def zhz:ACode:=.seq (.q [m 29 5,m 30 4,o 31 .lenL 30,p 32 (.bin .lss) [.t 29,.t 31]]<|.cond (.t 32) (.skip) (.exit 2))<|.seq (.block 3 (.q [m 35 4,m 36 5,p 37 (.iaddr 1) [.t 35,.t 36],
 h 38 1 false 37,m 39 4,m 40 5,p 41 (.bin .sub) [.t 40,.k (.i 1)],p 42 (.iaddr 1) [.t 39,.t 41],h 43 1 false 42,p 44 (.bin .neq) [.t 38,.t 43]]<|.cond (.t 44) (.q [m 45 0,
 m 46 3,m 47 4,m 48 5,p 49 (.iaddr 1) [.t 47,.t 48],h 50 1 false 49,p 51 (.iaddr 1) [.t 45,.t 46],⟨none,.st none 1,[.t 51,.t 50],none⟩]<|.ops [m 52 3,p 53 (.bin .add) [.t 52,.k (.i 1)],
 m 3 53]) (.skip)))<|.ops [m 33 5,p 34 (.bin .add) [.t 33,.k (.i 1)],m 5 34]
def zhA:ACode:=.seq (.q [m 10 3,m 11 0,o 12 .lenL 11,p 13 (.bin .lss) [.t 10,.t 12]]<|.cond (.t 13) (.skip) (.exit 0))<|.seq (.block 1 (.q [m 16 0,m 17 3,p 18 (.iaddr 1) [.t 16,.t 17],
 h 19 1 false 18,m 20 0,m 21 3,p 22 (.bin .sub) [.t 21,.k (.i 1)],p 23 (.iaddr 1) [.t 20,.t 22],h 24 1 false 23,p 25 (.bin .eql) [.t 19,.t 24]]<|.cond (.t 25) (.q [m 26 0,
 m 27 3,p 28 (.sliceL 1 true false false) [.t 26,.t 27],m 4 28]<|.seq (.q [i 5 1]<|.block 2 (.loop [29,30,31,32,33,34,35,36,37,38,39,40,41,42,43,44,45,46,47,48,49,50,51,52,53] [] zhz))<|.q [m 54 0,
 m 55 3,p 56 (.sliceL 1 true false false) [.t 54,.t 55],⟨none,.clearS 1 [.i 0],[.t 56],none⟩]<|.q [m 57 0,m 58 3,p 59 (.sliceL 1 false true false) [.t 57,.t 58],m 2 59]<|.ret) (.skip)))<|.ops [
 m 14 3,p 15 (.bin .add) [.t 14,.k (.i 1)],m 3 15]
def zk7:ACode:=.q [k 2 N]<|.seq (.q [m 6 0,o 7 .lenL 6,p 8 (.bin .lss) [.t 7,.k (.i 2)]]<|.cond (.t 8) (.q [m 9 0,m 2 9]<|.ret) (.skip))<|.seq (.q [
 i 3 1]<|.block 0 (.loop [2,4,5,10,11,12,13,14,15,16,17,18,19,20,21,22,23,24,25,26,27,28,29,30,31,32,33,34,35,36,37,38,39,40,41,42,43,44,45,46,47,48,49,50,51,52,53,54,55,56,57,58,59] [] zhA))<|.q [m 60 0,m 2 60]<|.ret
def f276:za:=⟨61,zk7,[.tmp 2]⟩
def zpY:ACode:=.q [k 4 (.b false)]<|.q [h 5 1 false 1,p 6 (.iaddr 3) [.t 5,.k (.i 1)],h 7 3 true 6,h 8 3 true 2,m 9 0,c 10 278 [.t 8,.t 9],c 11 118 [.t 7,.t 10],
 o 12 (.un .not) 11,m 4 12]<|.ret
def f277:za:=⟨13,zpY,[.tmp 4]⟩
def zpZ:ACode:=.q [x 2 0,⟨some 4,.alloc .reg Z,[],none⟩]<|.q [l 5 2 3 true 2,m 6 1,⟨some 7,.call 368,[.t 5,.k (.s ⟨#[111,116,112]⟩),.t 6],none⟩,s 4 3 4 7]<|.ret
def zhB:za:=⟨8,zpZ,[.cell 4 3 true]⟩
def zp0:ACode:=.q [⟨some 4,.alloc .reg [E,.i 0,E,N,N,.i 0,E,N,.i 0,.i 0,.i 0,.i 0,.i 0,.i 0,.i 0],[],none⟩]<|.q [m 5 0,m 6 0,
 ⟨some 7,.pur (.bin .add),[.k (.s ⟨#[112,97,115,115,119,111,114,100,32]⟩),.t 6],none⟩,c 8 174 [.t 7],m 9 0,c 10 145 [.t 8,.t 9],m 11 1,m 12 0,⟨some 13,.pur (.bin .add),[.k (.s ⟨#[115,101,101,100,32]⟩),.t 12],none⟩,c 14 174 [.t 13],
 ⟨some 15,.pur (.build [.i 0,.i 0,.i 0,.i 0,.i 0,.i 0] [(1,1),(2,1),(5,1)]),[.k (.i 3),.k (.i 10),.k (.i 5)],none⟩,
 ⟨some 16,.pur (.build [E,.i 0,E,N,N,.i 0,E,N,.i 0,.i 0,.i 0,.i 0,.i 0,.i 0,.i 0] [(0,1),(1,3),(4,1),(5,3),(8,6)]),[.t 5,.t 10,.t 11,.t 14,.t 15],none⟩,s 4 15 4 16]<|.ret
def f279:za:=⟨17,zp0,[.cell 4 15 true]⟩
def zAy:ACode:=.ops [m 2 0,m 3 0,o 4 .nilchk 3,f 5 7 4,h 6 1 false 5,c 7 54 [.t 6],o 8 .nilchk 2,f 9 8 8,⟨none,.st none 1,[.t 9,.t 7],none⟩]
def f280:za:=⟨10,zAy,[]⟩
def zdh:ACode:=.q [x 4 1,x 5 2]<|.q [f 14 1 4,l 15 4 1 false 14,p 16 (.bin .and) [.t 15,.k (.i 3)],c 17 139 [.t 16],⟨some 18,.pur (.bin .add),[.k (.s ⟨#[110]⟩),.t 17],none⟩,
 m 6 18]<|.q [m 19 6,⟨some 20,.pur (.bin .add),[.k (.s ⟨#[115,117,98,32]⟩),.t 19],none⟩,c 21 174 [.t 20],⟨some 22,.call 174,[.k (.s ⟨#[104,111,115,116]⟩)],none⟩,c 23 175 [.t 21,.t 22],⟨some 7,.alloc .reg Z,[],none⟩,
 s 7 3 7 23]<|.q [l 25 7 3 true 7,m 26 6,l 27 5 3 true 5,c 28 335 [.t 25,.t 26,.t 27],m 24 28,e 29 0 24,e 30 1 24,
 ⟨some 8,.alloc .reg Z,[],none⟩,s 8 3 8 29,m 9 30]<|.q [l 32 8 3 true 8,⟨some 33,.call 79,[.k (.s ⟨#[109,111,114,101]⟩),.k (.i 2),.t 32],none⟩,m 31 33,e 34 0 31,
 e 35 1 31,m 10 34,m 11 35]<|.seq (.q [m 36 9,p 37 (.bin .neq) [.t 36,.k (.i 0)],m 38 37,w 39 .mov [.t 11] 38 false,w 40 (.un .not) [.t 39] 38 false,
 p 41 .pick [.t 38,.k (.b true),.t 40]]<|.cond (.t 41) (.ret) (.skip))<|.q [⟨some 43,.call 174,[.k (.s ⟨#[99,111,111,107,105,101]⟩)],none⟩,m 44 10,p 45 (.iaddr 3) [.t 44,.k (.i 1)],h 46 3 true 45,m 47 0,o 48 .nilchk 47,
 f 49 3 48,h 50 1 false 49,c 51 113 [.t 43,.t 46,.t 50],m 42 51,e 52 0 42,e 53 1 42,⟨some 12,.alloc .reg [E,E,N,.i 0,E,N,.i 0],[],none⟩,
 s 12 7 12 52,m 13 53]<|.q [m 54 13,p 55 (.bin .eql) [.t 54,.k (.i 0)]]<|.cond (.t 55) (.ops [m 56 0,m 57 0,o 58 .nilchk 57,f 59 2 58,
 h 60 1 false 59,m 61 10,p 62 (.iaddr 3) [.t 61,.k (.i 0)],h 63 3 true 62,m 64 10,p 65 (.iaddr 3) [.t 64,.k (.i 1)],h 66 3 true 65,f 67 3 12,
 l 68 12 3 true 67,⟨some 69,.pur (.build [.i 0,E,N,.i 0,E,N,.i 0,E,N] [(0,3),(3,3),(6,3)]),[.t 63,.t 66,.t 68],none⟩,⟨some 70,.pur (.buildSl 9 1 [.i 0,E,N,.i 0,E,N,.i 0,E,N] [0]),[.t 69],none⟩,
 ⟨some 71,.append 9 144,[.t 60,.t 70],none⟩,o 72 .nilchk 56,f 73 2 72,⟨none,.st none 1,[.t 73,.t 71],none⟩]) (.skip)
def f281:za:=⟨74,zdh,[]⟩
def zk8:ACode:=.q [x 3 0,x 4 1,x 5 2,⟨some 6,.alloc .reg Z,[],none⟩,i 7 0]<|.q [l 11 4 3 true 4,⟨some 12,.call 79,[.k (.s ⟨#[111,116,112]⟩),.k (.i 1),.t 11],none⟩,
 m 10 12,e 13 0 10,e 14 1 10,m 8 13,m 9 14]<|.seq (.q [m 15 9,o 16 (.un .not) 15]<|.cond (.t 16) (.q [
 ⟨some 17,.pur (.build Z []),[],none⟩,s 6 3 6 17,i 7 2]<|.ret) (.skip))<|.q [l 18 3 3 true 3,m 19 8,p 20 (.iaddr 3) [.t 19,.k (.i 0)],h 21 3 true 20,
 l 22 5 3 true 5,⟨some 23,.pur (.buildSl 3 2 Z [0,1]),[.t 21,.t 22],none⟩,⟨some 24,.call 63,[.k (.s ⟨#[99,111,100,101]⟩),.t 23],none⟩,c 25 266 [.t 18,.k (.i 45),.t 24],⟨some 26,.pur (.buildSl 3 1 Z [0]),[.t 25],none⟩,
 ⟨some 27,.call 63,[.k (.s ⟨#[111,116,112]⟩),.t 26],none⟩,s 6 3 6 27,i 7 0]<|.ret
def f282:za:=⟨28,zk8,[.cell 6 3 true,.tmp 7]⟩
def zp1:ACode:=.q [x 1 0,⟨some 2,.alloc .reg Z,[],none⟩]<|.q [l 3 1 3 true 1,⟨some 4,.pur (.buildSl 3 1 Z [0]),[.t 3],none⟩,⟨some 5,.call 63,[.k (.s ⟨#[111,116,112]⟩),.t 4],none⟩,s 2 3 2 5]<|.ret
def f283:za:=⟨6,zp1,[.cell 2 3 true]⟩
def zhC:ACode:=.q [x 4 0,x 5 1,x 6 2,x 7 3,⟨some 8,.alloc .reg Z,[],none⟩,⟨some 9,.alloc .reg Z,[],none⟩,i 10 0]<|.q [
 l 19 6 3 true 6,⟨some 20,.call 79,[.k (.s ⟨#[115,112,97,107,101]⟩),.k (.i 1),.t 19],none⟩,m 18 20,e 21 0 18,e 22 1 18,m 11 21,m 12 22]<|.seq (.q [m 23 12,
 o 24 (.un .not) 23]<|.cond (.t 24) (.q [⟨some 25,.pur (.build Z []),[],none⟩,⟨some 26,.pur (.build Z []),[],none⟩,s 8 3 8 25,s 9 3 9 26,i 10 2]<|.ret) (.skip))<|.q [
 m 28 11,p 29 (.iaddr 3) [.t 28,.k (.i 0)],h 30 3 true 29,l 31 4 3 true 4,c 32 369 [.t 30,.t 31],m 27 32,e 33 0 27,e 34 1 27,
 ⟨some 13,.alloc .reg Z,[],none⟩,s 13 3 13 33,m 14 34]<|.seq (.q [m 35 14,p 36 (.bin .neq) [.t 35,.k (.i 0)]]<|.cond (.t 36) (.q [⟨some 37,.pur (.build Z []),[],none⟩,
 ⟨some 38,.pur (.build Z []),[],none⟩,m 39 14,s 8 3 8 37,s 9 3 9 38,m 10 39]<|.ret) (.skip))<|.q [l 40 7 3 true 7,l 41 4 3 true 4,
 c 42 370 [.t 40,.t 41],⟨some 15,.alloc .reg Z,[],none⟩,s 15 3 15 42]<|.q [l 43 7 3 true 7,l 44 13 3 true 13,c 45 372 [.t 43,.t 44],l 46 4 3 true 4,m 47 11,
 p 48 (.iaddr 3) [.t 47,.k (.i 0)],h 49 3 true 48,l 50 15 3 true 15,l 51 5 3 true 5,c 52 371 [.t 45,.t 46,.t 49,.t 50,.t 51,.k (.i 1)],⟨some 16,.alloc .reg Z,[],none⟩,s 16 3 16 52]<|
 .q [l 53 7 3 true 7,l 54 13 3 true 13,c 55 372 [.t 53,.t 54],l 56 4 3 true 4,m 57 11,p 58 (.iaddr 3) [.t 57,.k (.i 0)],h 59 3 true 58,l 60 15 3 true 15,
 l 61 5 3 true 5,c 62 371 [.t 55,.t 56,.t 59,.t 60,.t 61,.k (.i 0)],⟨some 17,.alloc .reg Z,[],none⟩,s 17 3 17 62]<|.q [l 63 15 3 true 15,l 64 16 3 true 16,c 65 373 [.t 64],
 ⟨some 66,.pur (.buildSl 3 2 Z [0,1]),[.t 63,.t 65],none⟩,⟨some 67,.call 63,[.k (.s ⟨#[115,112,97,107,101]⟩),.t 66],none⟩,l 68 17 3 true 17,s 8 3 8 67,s 9 3 9 68,i 10 0]<|.ret
def f284:za:=⟨69,zhC,[.cell 8 3 true,.cell 9 3 true,.tmp 10]⟩
def zp2:ACode:=.q [x 3 0,x 4 1,x 5 2,⟨some 6,.alloc .reg Z,[],none⟩]<|.q [l 7 3 3 true 3,l 8 4 3 true 4,l 9 5 3 true 5,
 ⟨some 10,.pur (.buildSl 3 1 Z [0]),[.t 9],none⟩,⟨some 11,.call 63,[.k (.s ⟨#[97,117,116,104]⟩),.t 10],none⟩,c 12 266 [.t 8,.k (.i 11),.t 11],⟨some 13,.pur (.buildSl 3 2 Z [0,1]),[.t 7,.t 12],none⟩,⟨some 14,.call 63,[.k (.s ⟨#[97,114,109,111,114]⟩),.t 13],none⟩,
 s 6 3 6 14]<|.ret
def f285:za:=⟨15,zp2,[.cell 6 3 true]⟩
def zp3:ACode:=.q [x 2 0,x 3 1,⟨some 4,.alloc .reg Z,[],none⟩]<|.q [l 5 2 3 true 2,l 6 3 3 true 3,⟨some 7,.pur (.buildSl 3 1 Z [0]),[.t 6],none⟩,
 ⟨some 8,.call 63,[.k (.s ⟨#[104,111,115,116]⟩),.t 7],none⟩,c 9 266 [.t 5,.k (.i 2),.t 8],s 4 3 4 9]<|.ret
def f286:za:=⟨10,zp3,[.cell 4 3 true]⟩
def zp4:ACode:=.q [x 4 0,x 5 1,x 6 2,x 7 3,⟨some 8,.alloc .reg Z,[],none⟩]<|.q [l 9 4 3 true 4,l 10 5 3 true 5,c 11 265 [.t 10],
 l 12 6 3 true 6,l 13 7 3 true 7,⟨some 14,.pur (.buildSl 3 3 Z [0,1,2]),[.t 11,.t 12,.t 13],none⟩,⟨some 15,.call 63,[.k (.s ⟨#[102,97,115,116]⟩),.t 14],none⟩,c 16 266 [.t 9,.k (.i 51),.t 15],s 8 3 8 16]<|.ret
def f287:za:=⟨17,zp4,[.cell 8 3 true]⟩
def vJ:ACode:=.q [x 4 1,
 ⟨some 6,.alloc .reg [E,E,N,.i 0,E,N,.i 0,.i 0,E,N,.i 0,E,N,.i 0,E,N,E,.i 0,E,N,N,.i 0,E,N,.i 0,.i 0,.i 0,.i 0,.i 0,.i 0,.i 0,.i 0],[],none⟩,
 i 7 0]<|.q [l 19 4 3 true 4,c 20 94 [.t 19],m 18 20,e 21 0 18,e 22 1 18,e 23 2 18,e 24 3 18,
 ⟨some 8,.alloc .reg Z,[],none⟩,⟨some 9,.alloc .reg Z,[],none⟩,⟨some 10,.alloc .reg Z,[],none⟩,s 8 3 8 21,s 9 3 9 22,s 10 3 10 23,m 11 24]<|
 .seq (.q [m 25 11,o 26 (.un .not) 25]<|.cond (.t 26) (.q [l 27 6 32 true 6,s 6 32 6 27,i 7 2]<|.ret) (.skip))<|.q [l 29 8 3 true 8,c 30 92 [.t 29],
 m 28 30,e 31 0 28,e 32 1 28,e 33 2 28,m 12 31,m 13 32,m 11 33]<|.seq (.q [m 34 11,o 35 (.un .not) 34]<|
 .cond (.t 35) (.q [l 36 6 32 true 6,s 6 32 6 36,i 7 2]<|.ret) (.skip))<|.q [m 38 0,o 39 .nilchk 38,f 40 0 39,h 41 3 true 40,
 l 42 9 3 true 9,c 43 374 [.t 41,.t 42],m 37 43,e 44 0 37,e 45 1 37,⟨some 14,.alloc .reg Z,[],none⟩,s 14 3 14 44,m 7 45]<|.seq (.q [
 m 46 7,p 47 (.bin .neq) [.t 46,.k (.i 0)]]<|.cond (.t 47) (.q [l 48 6 32 true 6,m 49 7,s 6 32 6 48,m 7 49]<|.ret) (.skip))<|.q [l 51 14 3 true 14,
 l 52 8 3 true 8,l 53 10 3 true 10,c 54 375 [.t 51,.t 52,.t 53],m 50 54,e 55 0 50,e 56 1 50,e 57 2 50,⟨some 15,.alloc .reg Z,[],none⟩,
 ⟨some 16,.alloc .reg Z,[],none⟩,s 15 3 15 55,s 16 3 16 56,m 7 57]<|.seq (.q [m 58 7,p 59 (.bin .neq) [.t 58,.k (.i 0)]]<|.cond (.t 59) (.q [l 60 6 32 true 6,
 m 61 7,s 6 32 6 60,m 7 61]<|.ret) (.skip))<|.q [m 63 0,o 64 .nilchk 63,f 65 6 64,h 66 1 false 65,m 67 12,c 68 376 [.t 66,.t 67],
 m 62 68,e 69 0 62,e 70 1 62,⟨some 17,.alloc .reg [E,.i 0,E,N,N,.i 0,E,N,.i 0,.i 0,.i 0,.i 0,.i 0,.i 0,.i 0],[],none⟩,s 17 15 17 69,m 11 70]<|
 .seq (.q [m 71 11,o 72 (.un .not) 71]<|.cond (.t 72) (.q [l 73 6 32 true 6,s 6 32 6 73,i 7 3]<|.ret) (.skip))<|.q [m 74 12,m 75 13,
 c 76 74 [],⟨some 77,.pur (.build [E,E,N,.i 0,E,N,.i 0] [(0,1),(1,1),(3,3)]),[.t 74,.t 75,.t 76],none⟩,l 78 14 3 true 14,l 79 8 3 true 8,l 80 15 3 true 15,l 81 17 15 true 17,
 m 82 2,
 ⟨some 83,.pur (.build [E,E,N,.i 0,E,N,.i 0,.i 0,E,N,.i 0,E,N,.i 0,E,N,E,.i 0,E,N,N,.i 0,E,N,.i 0,.i 0,.i 0,.i 0,.i 0,.i 0,.i 0,.i 0] [(0,7),(7,3),(10,3),(13,3),(16,15),(31,1)]),[.t 77,.t 78,.t 79,.t 80,.t 81,.t 82],none⟩,
 s 6 32 6 83]<|.seq (.q [l 84 16 3 true 16,c 85 83 [.t 84],o 86 (.un .not) 85]<|.cond (.t 86) (.seq (.q [m 88 0,o 89 .nilchk 88,f 90 3 89,h 91 3 true 90,
 l 92 16 3 true 16,m 93 2,c 94 112 [.t 91,.t 92,.t 93],m 87 94,e 95 0 87,e 96 1 87,f 97 0 6,s 6 7 97 95,m 7 96]<|
 .q [m 98 7,p 99 (.bin .neq) [.t 98,.k (.i 0)]]<|.cond (.t 99) (.q [l 100 6 32 true 6,m 101 7,s 6 32 6 100,m 7 101]<|.ret) (.skip))<|.q [f 102 0 6,
 f 103 0 102,l 104 6 1 false 103,m 105 12,p 106 (.bin .neq) [.t 104,.t 105],m 107 106,w 108 (.faddr 0) [.t 6] 107 false,w 109 (.faddr 1) [.t 108] 107 false,
 u 110 (.ld (some 6) 1 false) [.t 109] 107 false,w 111 .mov [.t 13] 107 false,w 112 (.bin .neq) [.t 110,.t 111] 107 false,p 113 .pick [.t 107,.k (.b true),.t 112],m 114 113,w 115 (.faddr 0) [.t 6] 114 false,w 116 (.faddr 2) [.t 115] 114 false,
 u 117 (.ld (some 6) 1 false) [.t 116] 114 false,w 118 .lenL [.t 117] 114 false,w 119 (.faddr 4) [.t 17] 114 false,u 120 (.ld (some 17) 1 false) [.t 119] 114 false,w 121 .lenL [.t 120] 114 false,w 122 (.bin .geq) [.t 118,.t 121] 114 false,
 p 123 .pick [.t 114,.k (.b true),.t 122],m 124 123,w 125 (.faddr 0) [.t 6] 124 false,w 126 (.faddr 2) [.t 125] 124 false,u 127 (.ld (some 6) 1 false) [.t 126] 124 false,w 128 (.faddr 4) [.t 17] 124 false,u 129 (.ld (some 17) 1 false) [.t 128] 124 false,
 w 130 (.faddr 0) [.t 6] 124 false,w 131 (.faddr 2) [.t 130] 124 false,u 132 (.ld (some 6) 1 false) [.t 131] 124 false,w 133 .lenL [.t 132] 124 false,w 134 (.sliceL 1 false true false) [.t 129,.t 133] 124 false,u 135 (.call 377) [.t 127,.t 134] 124 false,
 w 136 (.un .not) [.t 135] 124 false,p 137 .pick [.t 124,.k (.b true),.t 136]]<|.cond (.t 137) (.q [l 138 6 32 true 6,s 6 32 6 138,i 7 11]<|.ret) (.skip)) (.skip))<|.seq (.q [m 139 0,
 o 140 .nilchk 139,f 141 6 140,h 142 1 false 141,m 143 12,c 144 378 [.t 142,.t 143]]<|.cond (.t 144) (.q [l 145 6 32 true 6,s 6 32 6 145,i 7 7]<|
 .ret) (.skip))<|.q [l 146 6 32 true 6,s 6 32 6 146,i 7 0]<|.ret
def q9:za:=⟨147,vJ,[.cell 6 32 true,.tmp 7]⟩
def zhD:ACode:=.q [x 3 1,⟨some 4,.alloc .reg Z,[],none⟩]<|.q [⟨some 5,.alloc .reg Z,[],none⟩]<|.seq (.q [l 6 3 32 true 3,c 7 291 [.t 6]]<|.block 0 (.q [
 ⟨some 13,.pur (.bin .eql),[.t 7,.k (.s ⟨#[111,116,112]⟩)],none⟩,m 12 13]<|.cond (.t 12) (.q [m 14 0,c 15 379 [.t 14],f 16 0 3,f 17 3 16,s 3 3 17 15]<|.ops [f 18 0 3,
 f 19 3 18,l 20 3 3 true 19,c 21 157 [.t 20],s 5 3 5 21]) (.q [⟨some 23,.pur (.bin .eql),[.t 7,.k (.s ⟨#[115,112,97,107,101]⟩)],none⟩,m 22 23]<|.cond (.t 22) (.q [m 24 0,
 c 25 379 [.t 24],f 26 0 3,f 27 3 26,s 3 3 27 25]<|.ops [f 28 16 3,f 29 1 28,l 30 3 3 true 29,f 31 0 3,f 32 3 31,
 l 33 3 3 true 32,c 34 153 [.t 30,.t 33],s 5 3 5 34]) (.q [c 8 74 [],f 9 0 3,f 10 3 9,s 3 3 10 8]<|.ops [
 ⟨some 11,.call 62,[.k (.s ⟨#[99,104,97,108,108,101,110,103,101]⟩),.k N],none⟩,s 5 3 5 11]))))<|.q [f 35 31 3,l 36 3 1 false 35,p 37 (.bin .add) [.t 36,.k (.i 100)],f 38 0 3,
 f 39 6 38,s 3 1 39 37]<|.q [f 40 7 3,l 41 3 3 true 40,f 42 0 3,f 43 1 42,l 44 3 1 false 43,l 45 5 3 true 5,
 m 46 0,o 47 .nilchk 46,f 48 3 47,h 49 3 true 48,f 50 0 3,l 51 3 7 true 50,c 52 109 [.t 49,.t 51],⟨some 53,.pur (.buildSl 3 2 Z [0,1]),[.t 45,.t 52],none⟩,
 ⟨some 54,.call 62,[.k (.s ⟨#[109,111,114,101]⟩),.t 53],none⟩,c 55 380 [.t 41,.t 44,.t 54],s 4 3 4 55]<|.ret
def zdi:za:=⟨56,zhD,[.cell 4 3 true]⟩
def vK:ACode:=.q [x 3 1,⟨some 4,.alloc .reg [.i 0,E,N,N],[],none⟩,i 5 0]<|.seq (.q [f 8 13 3,l 9 3 3 true 8,c 10 81 [.t 9],l 11 3 32 true 3,
 c 12 291 [.t 11],p 13 (.bin .neq) [.t 10,.t 12],m 14 13,u 15 (.ld (some 3) 32 true) [.t 3] 14 false,u 16 (.call 291) [.t 15] 14 false,⟨some 17,.pur (.bin .neq),[.t 16,.k (.s ⟨#[99,104,97,108,108,101,110,103,101]⟩)],some (14,false)⟩,w 18 .mov [.t 17] 14 false,
 w 19 (.faddr 0) [.t 3] 18 true,w 20 (.faddr 3) [.t 19] 18 true,u 21 (.ld (some 3) 3 true) [.t 20] 18 true,u 22 (.call 83) [.t 21] 18 true,w 23 .pick [.t 18,.t 22,.k (.b false)] 14 false,p 24 .pick [.t 14,.k (.b true),.t 23]]<|.cond (.t 24) (.q [
 ⟨some 25,.pur (.build [.i 0,E,N,N] []),[],none⟩,s 4 4 4 25,i 5 11]<|.ret) (.skip))<|.q [l 27 3 32 true 3,c 28 381 [.t 27],m 26 28,e 29 0 26,
 e 30 1 26,⟨some 6,.alloc .reg [.i 0,E,N,N],[],none⟩,s 6 4 6 29,m 7 30]<|.seq (.q [m 31 7,p 32 (.bin .eql) [.t 31,.k (.i 6)]]<|.cond (.t 32) (.ops [m 33 0,
 o 34 .nilchk 33,f 35 6 34,h 36 1 false 35,f 37 0 3,f 38 0 37,l 39 3 1 false 38,c 40 382 [.t 36,.t 39]]) (.skip))<|.seq (.q [m 41 7,
 p 42 (.bin .eql) [.t 41,.k (.i 0)]]<|.cond (.t 42) (.ops [m 43 0,o 44 .nilchk 43,f 45 8 44,h 46 1 false 45,f 47 13 3,l 48 3 3 true 47,c 49 121 [.t 48],
 f 50 31 3,l 51 3 1 false 50,p 52 (.bin .add) [.t 51,.k (.i 100)],p 53 (.bin .add) [.t 52,.k (.i 1)],f 54 31 3,l 55 3 1 false 54,c 56 51 [.t 46,.t 49,.t 53,.t 55],
 m 7 56]) (.skip))<|.seq (.q [m 57 7,p 58 (.bin .eql) [.t 57,.k (.i 0)],m 59 58,u 60 (.ld (some 3) 32 true) [.t 3] 59 true,u 61 (.call 291) [.t 60] 59 true,⟨some 62,.pur (.bin .eql),[.t 61,.k (.s ⟨#[111,116,112]⟩)],some (59,true)⟩,
 p 63 .pick [.t 59,.t 62,.k (.b false)]]<|.cond (.t 63) (.ops [m 65 0,o 66 .nilchk 65,f 67 6 66,h 68 1 false 67,f 69 0 3,f 70 0 69,l 71 3 1 false 70,
 f 72 3 6,l 73 6 1 false 72,c 74 383 [.t 68,.t 71,.t 73],m 64 74,e 75 0 64,e 76 1 64,m 7 76]) (.skip))<|.q [l 77 6 4 true 6,
 m 78 7,s 4 4 4 77,m 5 78]<|.ret
def qk:za:=⟨79,vK,[.cell 4 4 true,.tmp 5]⟩
def zp5:ACode:=.q [x 1 0,⟨some 2,.pur .mov,[.k E],none⟩]<|.q [f 3 16 1,f 4 4 3,l 5 1 1 false 4,f 6 0 1,f 7 2 6,l 8 1 1 false 7,
 o 9 .lenL 8,p 10 (.iaddr 1) [.t 5,.t 9],h 11 1 false 10,m 2 11]<|.ret
def zhE:za:=⟨12,zp5,[.tmp 2]⟩
def zp6:ACode:=.q [x 4 1,x 5 2,⟨some 6,.alloc .reg Z,[],none⟩]<|.q [m 12 0,c 13 379 [.t 12],m 14 0,c 15 379 [.t 14],
 ⟨some 7,.alloc .reg Z,[],none⟩,⟨some 8,.alloc .reg Z,[],none⟩,s 7 3 7 13,s 8 3 8 15]<|.q [m 16 0,o 17 .nilchk 16,f 18 6 17,
 h 19 1 false 18,f 20 0 4,f 21 0 20,l 22 4 1 false 21,c 23 384 [.t 19,.t 22]]<|.seq (.opsC [m 24 0,m 25 0,o 26 .nilchk 25,f 27 10 26,
 h 28 1 false 27,f 29 0 4,f 30 0 29,l 31 4 1 false 30,f 32 0 4,f 33 1 32,l 34 4 1 false 33,f 35 0 4,f 36 2 35,
 l 37 4 1 false 36,c 38 202 [.t 37],l 39 7 3 true 7,⟨some 40,.pur (.build [E,E,N,.i 0,E,N] [(0,1),(1,1),(2,1),(3,3)]),[.t 31,.t 34,.t 38,.t 39],none⟩,
 ⟨some 41,.pur (.buildSl 6 1 [E,E,N,.i 0,E,N] [0]),[.t 40],none⟩,⟨some 42,.append 6 104,[.t 28,.t 41],none⟩,o 43 .nilchk 24,f 44 10 43,⟨none,.st none 1,[.t 44,.t 42],none⟩] [])<|.q [m 45 0,o 46 .nilchk 45,
 f 47 0 46,h 48 3 true 47,f 49 0 4,f 50 0 49,l 51 4 1 false 50,c 52 64 [.t 51],l 53 7 3 true 7,f 54 0 4,f 55 2 54,
 l 56 4 1 false 55,c 57 68 [.t 56],f 58 31 4,l 59 4 1 false 58,c 60 66 [.t 59],⟨some 61,.pur (.buildSl 3 4 Z [0,1,2,3]),[.t 52,.t 53,.t 57,.t 60],none⟩,
 ⟨some 62,.call 62,[.k (.s ⟨#[116,105,99,107,101,116]⟩),.t 61],none⟩,c 63 261 [.t 48,.k (.i 3),.t 62],⟨some 9,.alloc .reg Z,[],none⟩,s 9 3 9 63]<|.q [l 64 9 3 true 9,c 65 124 [.t 64],
 ⟨some 10,.alloc .reg Z,[],none⟩,s 10 3 10 65]<|.q [l 66 8 3 true 8,l 67 5 3 true 5,c 68 352 [.t 66,.t 67],l 69 7 3 true 7,f 70 0 4,f 71 1 70,
 l 72 4 1 false 71,c 73 64 [.t 72],l 74 10 3 true 10,⟨some 75,.pur (.buildSl 3 3 Z [0,1,2]),[.t 69,.t 73,.t 74],none⟩,⟨some 76,.call 62,[.k (.s ⟨#[101,110,99]⟩),.t 75],none⟩,c 77 261 [.t 68,.k (.i 3),.t 76],
 ⟨some 11,.alloc .reg Z,[],none⟩,s 11 3 11 77]<|.q [l 78 9 3 true 9,l 79 11 3 true 11,f 80 7 4,l 81 4 3 true 80,f 82 0 4,f 83 1 82,
 l 84 4 1 false 83,l 85 8 3 true 8,l 86 10 3 true 10,⟨some 87,.pur (.buildSl 3 2 Z [0,1]),[.t 85,.t 86],none⟩,⟨some 88,.call 62,[.k (.s ⟨#[102,105,110,105,115,104]⟩),.t 87],none⟩,c 89 380 [.t 81,.t 84,.t 88],
 ⟨some 90,.pur (.buildSl 3 3 Z [0,1,2]),[.t 78,.t 79,.t 89],none⟩,⟨some 91,.call 62,[.k (.s ⟨#[97,115,45,114,101,112]⟩),.t 90],none⟩,s 6 3 6 91]<|.ret
def zhF:za:=⟨92,zp6,[.cell 6 3 true]⟩
def zp7:ACode:=.q [x 4 0,x 5 1,⟨some 8,.alloc .reg Z,[],none⟩]<|.q [l 9 4 3 true 4,m 10 2,⟨some 11,.pur (.bin .add),[.k (.s ⟨#[106,111,105,110,32]⟩),.t 10],none⟩,c 12 259 [.t 9,.t 11],
 l 13 5 3 true 5,m 14 3,⟨some 15,.pur (.bin .add),[.k (.s ⟨#[106,111,105,110,32]⟩),.t 14],none⟩,c 16 259 [.t 13,.t 15],⟨some 17,.pur (.buildSl 3 2 Z [0,1]),[.t 12,.t 16],none⟩,c 18 385 [.t 17],c 19 265 [.t 18],
 s 8 3 8 19]<|.ret
def zhG:za:=⟨20,zp7,[.cell 8 3 true]⟩
def zk9:ACode:=.q [k 4 N]<|.seq (.q [m 5 1,p 6 (.bin .lss) [.t 5,.k (.i 0)]]<|.cond (.t 6) (.ops [⟨some 7,.bad,[],none⟩,⟨none,.bad,[],none⟩]) (.skip))<|.seq (.q [m 8 1,m 9 0,
 o 10 .cap 9,m 11 0,o 12 .lenL 11,p 13 (.bin .sub) [.t 10,.t 12],p 14 (.bin .sub) [.t 8,.t 13],m 1 14]<|.q [m 15 1,p 16 (.bin .gtr) [.t 15,.k (.i 0)]]<|.cond (.t 16) (.ops [
 m 17 0,m 18 0,o 19 .cap 18,p 20 (.sliceL 3 false true false) [.t 17,.t 19],m 21 1,⟨some 22,.appendZ 3 48 Z,[.t 20,.t 21],none⟩,m 23 0,o 24 .lenL 23,
 p 25 (.sliceL 3 false true false) [.t 22,.t 24],m 0 25]) (.skip))<|.q [m 26 0,m 4 26]<|.ret
def zeV:za:=⟨27,zk9,[.tmp 4]⟩
def zla:ACode:=.q [⟨some 4,.pur .mov,[.k E],none⟩,k 5 (.b false)]<|.seq (.q [m 6 0,m 7 1,c 8 398 [.t 6,.t 7],o 9 (.un .not) 8]<|.cond (.t 9) (.q [m 10 0,m 4 10,
 k 5 (.b false)]<|.ret) (.skip))<|.q [m 11 0,m 12 1,o 13 .lenS 12,p 14 (.sliceS true false) [.t 11,.t 13],m 4 14,k 5 (.b true)]<|.ret
def zeW:za:=⟨15,zla,[.tmp 4,.tmp 5]⟩
def zp8:ACode:=.q [x 2 0,⟨some 4,.alloc .reg Z,[],none⟩]<|.q [m 5 1,l 6 2 3 true 2,⟨some 7,.pur (.buildSl 3 1 Z [0]),[.t 6],none⟩,c 8 228 [.k (.i 7),.t 5,.t 7],
 s 4 3 4 8]<|.ret
def zhH:za:=⟨9,zp8,[.cell 4 3 true]⟩
def zlb:ACode:=.q [p 17 (.bin .lss) [.t 16,.t 15]]<|.seq (.cond (.t 17) (.skip) (.exit 0))<|.seq (.block 1 (.q [p 18 (.iaddr 15) [.t 14,.t 16],h 19 15 true 18,
 ⟨some 6,.alloc .reg [E,.i 0,E,N,N,.i 0,E,N,.i 0,.i 0,.i 0,.i 0,.i 0,.i 0,.i 0],[],none⟩,s 6 15 6 19]<|.seq (.q [m 21 4,f 22 0 6,l 23 6 1 false 22,
 c 24 376 [.t 21,.t 23],m 20 24,e 25 0 20,e 26 1 20,⟨some 7,.alloc .reg [E,.i 0,E,N,N,.i 0,E,N,.i 0,.i 0,.i 0,.i 0,.i 0,.i 0,.i 0],[],none⟩,s 7 15 7 25,
 m 8 26]<|.q [m 27 8,m 28 27,u 29 (.ld (some 6) 15 true) [.t 6] 28 false,u 30 (.call 407) [.t 29] 28 false,w 31 (.un .not) [.t 30] 28 false,p 32 .pick [.t 28,.k (.b true),.t 31]]<|.cond (.t 32) (.q [
 k 2 (.sc (.pointer none)),i 3 1]<|.ret) (.skip))<|.ops [m 33 4,m 34 4,o 35 .nilchk 34,f 36 0 35,h 37 1 false 36,l 38 6 15 true 6,
 c 39 323 [.t 38],⟨some 40,.pur (.buildSl 15 1 [E,.i 0,E,N,N,.i 0,E,N,.i 0,.i 0,.i 0,.i 0,.i 0,.i 0,.i 0] [0]),[.t 39],none⟩,⟨some 41,.append 15 192,[.t 37,.t 40],none⟩,o 42 .nilchk 33,f 43 0 42,
 ⟨none,.st none 1,[.t 43,.t 41],none⟩]))<|.ops [p 44 (.bin .add) [.t 16,.k (.i 1)],m 16 44]
def zp9:ACode:=.q [k 2 (.sc (.pointer none)),i 3 0]<|.seq (.q [m 9 0,o 10 .lenL 9,p 11 (.bin .gtr) [.t 10,.k (.i 32)]]<|.cond (.t 11) (.q [k 2 (.sc (.pointer none)),
 i 3 12]<|.ret) (.skip))<|.q [p 12 (.build [N] []) [],⟨some 13,.box .heap,[.t 12],none⟩,m 4 13]<|.seq (.q [m 14 0,o 15 .lenL 14,i 16 0]<|
 .block 0 (.loop [2,3,6,7,8,17,18,19,20,21,22,23,24,25,26,27,28,29,30,31,32,33,34,35,36,37,38,39,40,41,42,43,44] [6,7] zlb))<|.q [m 45 4,m 2 45,i 3 0]<|.ret
def zhI:za:=⟨46,zp9,[.tmp 2,.tmp 3]⟩
def zlc:ACode:=.seq (.q [m 11 6,f 12 2 2,l 13 2 1 false 12,o 14 .lenL 13,p 15 (.bin .lss) [.t 11,.t 14]]<|.cond (.t 15) (.skip) (.exit 0))<|.seq (.block 1 (.q [f 18 2 2,
 l 19 2 1 false 18,m 20 6,p 21 (.iaddr 3) [.t 19,.t 20],h 22 3 true 21,m 23 1,p 24 (.bin .sub) [.t 23,.k (.i 1)],c 25 314 [.t 22,.t 24],m 7 25]<|.ops [m 26 5,
 m 27 7,p 28 .max [.t 26,.t 27],m 5 28]))<|.ops [m 16 6,p 17 (.bin .add) [.t 16,.k (.i 1)],m 6 17]
def zhJ:ACode:=.q [x 2 0,i 4 0]<|.seq (.q [m 8 1,p 9 (.bin .leq) [.t 8,.k (.i 1)]]<|.cond (.t 9) (.q [m 10 1,m 4 10]<|.ret) (.skip))<|.q [
 i 5 0]<|.seq (.q [i 6 0]<|.block 0 (.loop [7,11,12,13,14,15,16,17,18,19,20,21,22,23,24,25,26,27,28] [] zlc))<|.q [m 29 5,p 30 (.bin .add) [.t 29,.k (.i 1)],m 4 30]<|.ret
def zdj:za:=⟨31,zhJ,[.tmp 4]⟩
def zld:ACode:=.q [x 3 0,⟨some 6,.pur .mov,[.k E],none⟩]<|.q [f 10 0 3,f 11 2 10,l 12 3 1 false 11,m 13 1,p 14 (.iaddr 3) [.t 12,.t 13],f 15 1 14,
 h 16 1 false 15,m 17 2,c 18 195 [.t 16,.t 17],m 9 18,e 19 0 9,e 20 1 9,m 7 19,m 8 20]<|.q [m 21 7,
 m 6 21]<|.ret
def zeX:za:=⟨22,zld,[.tmp 6]⟩
def zeY:ACode:=.seq (.q [m 5 3,f 6 2 1,l 7 1 1 false 6,o 8 .lenL 7,p 9 (.bin .lss) [.t 5,.t 8]]<|.cond (.t 9) (.skip) (.exit 0))<|.seq (.block 1 (.q [f 12 2 1,
 l 13 1 1 false 12,m 14 3,p 15 (.iaddr 3) [.t 13,.t 14],h 16 3 true 15,c 17 316 [.t 16],m 4 17]<|.q [m 18 4,o 19 (.un .not) 18]<|.cond (.t 19) (.q [
 k 2 (.b false)]<|.ret) (.skip)))<|.ops [m 10 3,p 11 (.bin .add) [.t 10,.k (.i 1)],m 3 11]
def zqa:ACode:=.q [x 1 0,k 2 (.b false)]<|.seq (.q [i 3 0]<|.block 0 (.loop [2,4,5,6,7,8,9,10,11,12,13,14,15,16,17,18,19] [] zeY))<|.q [f 20 0 1,l 21 1 1 false 20,
 p 22 (.bin .neq) [.t 21,.k (.i 9)],m 23 22,w 24 (.faddr 2) [.t 1] 23 false,u 25 (.ld (some 1) 1 false) [.t 24] 23 false,w 26 (.iaddr 3) [.t 25,.k (.i 0)] 23 false,u 27 (.ld none 3 true) [.t 26] 23 false,u 28 (.call 243) [.t 27] 23 false,
 w 29 (.faddr 2) [.t 1] 23 false,u 30 (.ld (some 1) 1 false) [.t 29] 23 false,w 31 (.iaddr 3) [.t 30,.k (.i 1)] 23 false,u 32 (.ld none 3 true) [.t 31] 23 false,u 33 (.call 243) [.t 32] 23 false,w 34 (.bin .leq) [.t 28,.t 33] 23 false,
 p 35 .pick [.t 23,.k (.b true),.t 34],m 2 35]<|.ret
def f316:za:=⟨36,zqa,[.tmp 2]⟩
def zeZ:ACode:=.q [x 2 0,⟨some 4,.pur .mov,[.k E],none⟩,k 5 (.b false)]<|.seq (.q [f 6 0 2,l 7 2 1 false 6,p 8 (.bin .neq) [.t 7,.k (.i 1)],m 9 8,
 w 10 (.faddr 1) [.t 2] 9 false,u 11 (.ld (some 2) 1 false) [.t 10] 9 false,w 12 .lenS [.t 11] 9 false,w 13 (.bin .lss) [.t 12,.k (.i 1)] 9 false,p 14 .pick [.t 9,.k (.b true),.t 13],m 15 14,w 16 (.faddr 1) [.t 2] 15 false,
 u 17 (.ld (some 2) 1 false) [.t 16] 15 false,w 18 (.sliceS false true) [.t 17,.k (.i 1)] 15 false,w 19 .mov [.t 1] 15 false,w 20 (.bin .neq) [.t 18,.t 19] 15 false,p 21 .pick [.t 15,.k (.b true),.t 20]]<|.cond (.t 21) (.q [⟨some 4,.pur .mov,[.k E],none⟩,
 k 5 (.b false)]<|.ret) (.skip))<|.q [f 22 1 2,l 23 2 1 false 22,p 24 (.sliceS true false) [.t 23,.k (.i 1)],m 4 24,k 5 (.b true)]<|.ret
def f317:za:=⟨25,zeZ,[.tmp 4,.tmp 5]⟩
def zhK:ACode:=.seq (.q [m 18 7,m 19 0,o 20 .lenS 19,p 21 (.bin .lss) [.t 18,.t 20]]<|.cond (.t 21) (.skip) (.exit 0))<|.seq (.block 1 (.ops [m 24 6,p 25 (.bin .mul) [.t 24,.k (.i 10)],m 26 0,
 m 27 7,p 28 .indexS [.t 26,.t 27],p 29 (.bin .sub) [.t 28,.k (.sc (.int .u8 (48)))],o 30 (.toInt .i64) 29,p 31 (.bin .sub) [.t 25,.t 30],m 6 31]))<|.ops [m 22 7,p 23 (.bin .add) [.t 22,.k (.i 1)],
 m 7 23]
def zhL:ACode:=.q [i 2 0,k 3 (.b false)]<|.q [m 8 0,o 9 .lenS 8,p 10 (.bin .gtr) [.t 9,.k (.i 1)],m 11 10,w 12 .mov [.t 0] 11 true,
 w 13 .indexS [.t 12,.k (.i 0)] 11 true,w 14 (.bin .eql) [.t 13,.k (.sc (.int .u8 (45)))] 11 true,p 15 .pick [.t 11,.t 14,.k (.b false)],m 4 15]<|.q [i 5 0]<|.seq (.q [m 16 4]<|.cond (.t 16) (.ops [
 i 5 1]) (.skip))<|.q [i 6 0]<|.seq (.q [m 17 5,m 7 17]<|.block 0 (.loop [18,19,20,21,22,23,24,25,26,27,28,29,30,31] [] zhK))<|.seq (.q [m 32 4,o 33 (.un .not) 32]<|
 .cond (.t 33) (.ops [m 34 6,o 35 (.un .neg) 34,m 6 35]) (.skip))<|.q [m 36 6,m 37 6,c 38 213 [.t 37],m 39 0,p 40 (.bin .eql) [.t 38,.t 39],m 2 36,
 m 3 40]<|.ret
def f318:za:=⟨41,zhL,[.tmp 2,.tmp 3]⟩
def zle:ACode:=.q [x 1 0,k 2 (.b false)]<|.q [f 3 0 1,l 4 1 1 false 3,p 5 (.bin .geq) [.t 4,.k (.i 1)],m 6 5,w 7 (.faddr 0) [.t 1] 6 true,
 u 8 (.ld (some 1) 1 false) [.t 7] 6 true,w 9 (.bin .leq) [.t 8,.k (.i 10)] 6 true,p 10 .pick [.t 6,.t 9,.k (.b false)],m 2 10]<|.ret
def f319:za:=⟨11,zle,[.tmp 2]⟩
def zqb:ACode:=.q [k 4 (.b false)]<|.q [m 5 0,m 6 1,c 7 408 [.t 5,.t 6],p 8 (.bin .geq) [.t 7,.k (.i 0)],m 4 8]<|.ret
def f320:za:=⟨9,zqb,[.tmp 4]⟩
def zqc:ACode:=.q [x 2 0,k 3 (.b false)]<|.q [l 4 2 3 true 2,h 5 1 false 1,p 6 (.bin .sub) [.t 5,.k (.i 1)],c 7 221 [.t 4,.t 6],o 8 (.un .not) 7,m 3 8]<|.ret
def f321:za:=⟨9,zqc,[.tmp 3]⟩
def zqd:ACode:=.q [x 1 0,k 2 (.b false)]<|.q [l 3 1 3 true 1,c 4 222 [.t 3],o 5 (.un .not) 4,m 2 5]<|.ret
def f322:za:=⟨6,zqd,[.tmp 2]⟩
def zqe:ACode:=.q [x 1 0,⟨some 2,.alloc .reg [E,.i 0,E,N,N,.i 0,E,N,.i 0,.i 0,.i 0,.i 0,.i 0,.i 0,.i 0],[],none⟩]<|.q [f 3 4 1,l 4 1 1 false 3,c 5 202 [.t 4],
 f 6 4 1,s 1 1 6 5]<|.q [l 7 1 15 true 1,s 2 15 2 7]<|.ret
def zhM:za:=⟨8,zqe,[.cell 2 15 true]⟩
def zlf:ACode:=.seq (.q [m 13 5,m 14 0,o 15 .lenL 14,p 16 (.bin .lss) [.t 13,.t 15]]<|.cond (.t 16) (.skip) (.exit 0))<|.seq (.block 1 (.q [m 19 4,m 20 0,m 21 5,
 p 22 (.iaddr 15) [.t 20,.t 21],f 23 0 22,h 24 1 false 23,c 25 345 [.t 19,.t 24],m 6 25]<|.q [m 26 0,m 27 5,p 28 (.iaddr 15) [.t 26,.t 27],
 h 29 15 true 28,c 30 416 [.t 29],m 7 30]<|.seq (.q [m 31 7,o 32 (.un .not) 31,m 33 32,w 34 .mov [.t 6] 33 false,w 35 (.bin .geq) [.t 34,.k (.i 0)] 33 false,
 p 36 .pick [.t 33,.k (.b true),.t 35]]<|.cond (.t 36) (.q [k 2 (.sc (.pointer none)),i 3 1]<|.ret) (.skip))<|.ops [m 37 4,m 38 4,o 39 .nilchk 38,f 40 0 39,
 h 41 1 false 40,m 42 0,m 43 5,p 44 (.iaddr 15) [.t 42,.t 43],h 45 15 true 44,
 ⟨some 46,.pur (.buildSl 15 1 [E,.i 0,E,N,N,.i 0,E,N,.i 0,.i 0,.i 0,.i 0,.i 0,.i 0,.i 0] [0]),[.t 45],none⟩,⟨some 47,.append 15 192,[.t 41,.t 46],none⟩,o 48 .nilchk 37,f 49 0 48,⟨none,.st none 1,[.t 49,.t 47],none⟩]))<|.ops [
 m 17 5,p 18 (.bin .add) [.t 17,.k (.i 1)],m 5 18]
def zqf:ACode:=.q [k 2 (.sc (.pointer none)),i 3 0]<|.seq (.q [m 8 0,o 9 .lenL 8,p 10 (.bin .gtr) [.t 9,.k (.i 32)]]<|.cond (.t 10) (.q [k 2 (.sc (.pointer none)),
 i 3 12]<|.ret) (.skip))<|.q [p 11 (.build [N] []) [],⟨some 12,.box .heap,[.t 11],none⟩,m 4 12]<|.seq (.q [i 5 0]<|
 .block 0 (.loop [2,3,6,7,13,14,15,16,17,18,19,20,21,22,23,24,25,26,27,28,29,30,31,32,33,34,35,36,37,38,39,40,41,42,43,44,45,46,47,48,49] [] zlf))<|.q [m 50 4,m 2 50,i 3 0]<|.ret
def f329:za:=⟨51,zqf,[.tmp 2,.tmp 3]⟩
def zqg:ACode:=.q [x 2 0,x 3 1,⟨some 4,.alloc .reg Z,[],none⟩]<|.q [l 5 3 3 true 3,l 6 2 3 true 2,c 7 370 [.t 5,.t 6],
 ⟨some 8,.pur (.buildSl 3 1 Z [0]),[.t 7],none⟩,⟨some 9,.call 63,[.k (.s ⟨#[115,112,97,107,101]⟩),.t 8],none⟩,s 4 3 4 9]<|.ret
def f331:za:=⟨10,zqg,[.cell 4 3 true]⟩
def zqh:ACode:=.q [x 3 0,x 5 2,⟨some 6,.alloc .reg Z,[],none⟩]<|.q [l 7 3 3 true 3,m 8 1,c 9 65 [.t 8],l 10 5 3 true 5,
 ⟨some 11,.pur (.buildSl 3 2 Z [0,1]),[.t 9,.t 10],none⟩,⟨some 12,.call 63,[.k (.s ⟨#[97,110,115,119,101,114]⟩),.t 11],none⟩,c 13 266 [.t 7,.k (.i 52),.t 12],s 6 3 6 13]<|.ret
def f332:za:=⟨14,zqh,[.cell 6 3 true]⟩
def zqi:ACode:=.q [x 2 0,x 3 1,⟨some 4,.alloc .reg Z,[],none⟩]<|.q [l 5 2 3 true 2,l 6 3 3 true 3,
 ⟨some 7,.call 293,[.t 5,.t 6,.k (.s ⟨#[115,116,114,101,110,103,116,104,101,110,107,101,121]⟩),.k (.s ⟨#[114,101,112,108,121,107,101,121]⟩)],none⟩,s 4 3 4 7]<|.ret
def zhN:za:=⟨8,zqi,[.cell 4 3 true]⟩
def zhO:ACode:=.q [x 3 0,x 5 2,⟨some 6,.alloc .reg Z,[],none⟩,i 7 0]<|.q [l 12 3 3 true 3,l 13 5 3 true 5,
 ⟨some 14,.call 417,[.t 12,.k (.i 52),.t 13,.k (.s ⟨#[97,110,115,119,101,114]⟩),.k (.i 2)],none⟩,m 11 14,e 15 0 11,e 16 1 11,m 8 15,m 9 16]<|.seq (.q [m 17 9,
 p 18 (.bin .neq) [.t 17,.k (.i 0)]]<|.cond (.t 18) (.q [⟨some 19,.pur (.build Z []),[],none⟩,m 20 9,s 6 3 6 19,m 7 20]<|.ret) (.skip))<|.q [m 21 8,
 p 22 (.iaddr 3) [.t 21,.k (.i 0)],h 23 3 true 22,m 24 1,c 25 65 [.t 24],c 26 61 [.t 23,.t 25],m 10 26]<|.seq (.q [m 27 10,o 28 (.un .not) 27]<|.cond (.t 28) (.q [
 ⟨some 29,.pur (.build Z []),[],none⟩,s 6 3 6 29,i 7 6]<|.ret) (.skip))<|.q [m 30 8,p 31 (.iaddr 3) [.t 30,.k (.i 1)],h 32 3 true 31,s 6 3 6 32,
 i 7 0]<|.ret
def zdk:za:=⟨33,zhO,[.cell 6 3 true,.tmp 7]⟩
def zqj:ACode:=.q [x 2 0,⟨some 4,.alloc .reg Z,[],none⟩]<|.q [l 5 2 3 true 2,m 6 1,c 7 139 [.t 6],⟨some 8,.pur (.bin .add),[.k (.s ⟨#[117,115,101,32]⟩),.t 7],none⟩,c 9 259 [.t 5,.t 8],
 s 4 3 4 9]<|.ret
def zhP:za:=⟨10,zqj,[.cell 4 3 true]⟩
def ze0:ACode:=.q [x 2 0,x 3 1,⟨some 4,.alloc .reg Z,[],none⟩,i 5 0]<|.q [l 13 3 3 true 3,⟨some 14,.call 79,[.k (.s ⟨#[97,114,109,111,114]⟩),.k (.i 2),.t 13],none⟩,m 12 14,
 e 15 0 12,e 16 1 12,m 6 15,m 7 16]<|.seq (.q [m 17 7,o 18 (.un .not) 17]<|.cond (.t 18) (.q [⟨some 19,.pur (.build Z []),[],none⟩,
 s 4 3 4 19,i 5 2]<|.ret) (.skip))<|.q [l 21 2 3 true 2,m 22 6,p 23 (.iaddr 3) [.t 22,.k (.i 0)],h 24 3 true 23,
 ⟨some 25,.call 417,[.t 21,.k (.i 2),.t 24,.k (.s ⟨#[104,111,115,116]⟩),.k (.i 1)],none⟩,m 20 25,e 26 0 20,e 27 1 20,m 8 26,m 9 27]<|.seq (.q [m 28 9,
 p 29 (.bin .neq) [.t 28,.k (.i 0)]]<|.cond (.t 29) (.q [⟨some 30,.pur (.build Z []),[],none⟩,m 31 9,s 4 3 4 30,m 5 31]<|.ret) (.skip))<|.q [m 33 8,
 p 34 (.iaddr 3) [.t 33,.k (.i 0)],h 35 3 true 34,m 36 6,p 37 (.iaddr 3) [.t 36,.k (.i 1)],h 38 3 true 37,⟨some 39,.call 417,[.t 35,.k (.i 11),.t 38,.k (.s ⟨#[97,117,116,104]⟩),.k (.i 1)],none⟩,m 32 39,
 e 40 0 32,e 41 1 32,m 10 40,m 11 41]<|.seq (.q [m 42 11,p 43 (.bin .neq) [.t 42,.k (.i 0)]]<|.cond (.t 43) (.q [⟨some 44,.pur (.build Z []),[],none⟩,
 m 45 11,s 4 3 4 44,m 5 45]<|.ret) (.skip))<|.q [m 46 10,p 47 (.iaddr 3) [.t 46,.k (.i 0)],h 48 3 true 47,m 49 8,p 50 (.iaddr 3) [.t 49,.k (.i 0)],
 h 51 3 true 50,c 52 175 [.t 48,.t 51],s 4 3 4 52,i 5 0]<|.ret
def f337:za:=⟨53,ze0,[.cell 4 3 true,.tmp 5]⟩
def zhQ:ACode:=.q [x 3 0,x 4 1,x 5 2,⟨some 6,.alloc .reg Z,[],none⟩,⟨some 7,.alloc .reg Z,[],none⟩,i 8 0]<|.q [l 13 3 3 true 3,
 l 14 5 3 true 5,⟨some 15,.call 417,[.t 13,.k (.i 51),.t 14,.k (.s ⟨#[102,97,115,116]⟩),.k (.i 3)],none⟩,m 12 15,e 16 0 12,e 17 1 12,m 9 16,m 10 17]<|.seq (.q [
 m 18 10,p 19 (.bin .neq) [.t 18,.k (.i 0)]]<|.cond (.t 19) (.q [⟨some 20,.pur (.build Z []),[],none⟩,⟨some 21,.pur (.build Z []),[],none⟩,m 22 10,s 6 3 6 20,s 7 3 7 21,
 m 8 22]<|.ret) (.skip))<|.q [m 23 9,p 24 (.iaddr 3) [.t 23,.k (.i 0)],h 25 3 true 24,l 26 4 3 true 4,c 27 265 [.t 26],c 28 61 [.t 25,.t 27],m 11 28]<|.seq (.q [
 m 29 11,o 30 (.un .not) 29]<|.cond (.t 30) (.q [⟨some 31,.pur (.build Z []),[],none⟩,⟨some 32,.pur (.build Z []),[],none⟩,s 6 3 6 31,s 7 3 7 32,i 8 6]<|
 .ret) (.skip))<|.q [m 33 9,p 34 (.iaddr 3) [.t 33,.k (.i 1)],h 35 3 true 34,m 36 9,p 37 (.iaddr 3) [.t 36,.k (.i 2)],h 38 3 true 37,s 6 3 6 35,s 7 3 7 38,
 i 8 0]<|.ret
def f338:za:=⟨39,zhQ,[.cell 6 3 true,.cell 7 3 true,.tmp 8]⟩
def zlg:ACode:=.q [⟨some 4,.alloc .reg [E,.i 0,E,N,N,.i 0,E,N,.i 0,.i 0,.i 0,.i 0,.i 0,.i 0,.i 0],[],none⟩,k 5 (.b false)]<|.q [m 7 0,m 8 1,c 9 345 [.t 7,.t 8],
 m 6 9]<|.seq (.q [m 10 6,p 11 (.bin .lss) [.t 10,.k (.i 0)]]<|.cond (.t 11) (.q [⟨some 12,.pur (.build [E,.i 0,E,N,N,.i 0,E,N,.i 0,.i 0,.i 0,.i 0,.i 0,.i 0,.i 0] []),[],none⟩,
 s 4 15 4 12,k 5 (.b false)]<|.ret) (.skip))<|.q [m 13 0,o 14 .nilchk 13,f 15 0 14,h 16 1 false 15,m 17 6,p 18 (.iaddr 15) [.t 16,.t 17],
 h 19 15 true 18,s 4 15 4 19,k 5 (.b true)]<|.ret
def ze1:za:=⟨20,zlg,[.cell 4 15 true,.tmp 5]⟩
def zhS:ACode:=.seq (.q [m 11 5,m 12 0,o 13 .lenL 12,p 14 (.bin .lss) [.t 11,.t 13]]<|.cond (.t 14) (.skip) (.exit 0))<|.seq (.block 1 (.q [m 17 0,m 18 5,p 19 (.iaddr 1) [.t 17,.t 18],
 h 20 1 false 19,m 21 1,m 22 5,p 23 (.iaddr 1) [.t 21,.t 22],h 24 1 false 23,p 25 (.bin .neq) [.t 20,.t 24]]<|.cond (.t 25) (.q [k 4 (.b false)]<|.ret) (.skip)))<|.ops [
 m 15 5,p 16 (.bin .add) [.t 15,.k (.i 1)],m 5 16]
def zlh:ACode:=.q [k 4 (.b false)]<|.seq (.q [m 6 0,o 7 .lenL 6,m 8 1,o 9 .lenL 8,p 10 (.bin .geq) [.t 7,.t 9]]<|.cond (.t 10) (.q [k 4 (.b false)]<|.ret) (.skip))<|
 .seq (.q [i 5 0]<|.block 0 (.loop [4,11,12,13,14,15,16,17,18,19,20,21,22,23,24,25] [] zhS))<|.q [k 4 (.b true)]<|.ret
def zhR:za:=⟨26,zlh,[.tmp 4]⟩
def zli:ACode:=.q [k 4 (.b false)]<|.q [m 8 0,m 9 1,c 10 339 [.t 8,.t 9],m 7 10,e 11 0 7,e 12 1 7,
 ⟨some 5,.alloc .reg [E,.i 0,E,N,N,.i 0,E,N,.i 0,.i 0,.i 0,.i 0,.i 0,.i 0,.i 0],[],none⟩,s 5 15 5 11,m 6 12]<|.q [m 13 6,o 14 (.un .not) 13,m 15 14,
 w 16 (.faddr 14) [.t 5] 15 false,u 17 (.ld (some 5) 1 false) [.t 16] 15 false,w 18 (.bin .geq) [.t 17,.k (.i 5)] 15 false,p 19 .pick [.t 15,.k (.b true),.t 18],m 4 19]<|.ret
def ze2:za:=⟨20,zli,[.tmp 4]⟩
def zqk:ACode:=.q [⟨some 2,.alloc .reg Z,[],none⟩]<|.q [m 3 0,o 4 .nilchk 3,f 5 9 4,h 6 1 false 5,p 7 (.bin .add) [.t 6,.k (.i 1)],o 8 .nilchk 3,
 f 9 9 8,⟨none,.st none 1,[.t 9,.t 7],none⟩]<|.q [m 10 0,o 11 .nilchk 10,f 12 9 11,h 13 1 false 12,c 14 139 [.t 13],⟨some 15,.pur (.bin .add),[.k (.s ⟨#[107,100,99,32]⟩),.t 14],none⟩,
 c 16 130 [.t 15],s 2 3 2 16]<|.ret
def zhT:za:=⟨17,zqk,[.cell 2 3 true]⟩
def vx:ACode:=.seq (.q [m 64 22,m 65 21,p 66 (.bin .leq) [.t 64,.t 65],m 67 66,w 68 .mov [.t 22] 67 true,w 69 .mov [.t 20] 67 true,w 70 (.bin .add) [.t 69,.k (.i 70)] 67 true,
 w 71 (.bin .leq) [.t 68,.t 70] 67 true,p 72 .pick [.t 67,.t 71,.k (.b false)]]<|.cond (.t 72) (.skip) (.exit 0))<|.seq (.block 1 (.q [m 75 16,p 76 (.iaddr 3) [.t 75,.k (.i 1)],h 77 3 true 76,l 78 8 3 true 8,
 m 79 22,c 80 158 [.t 78,.t 79],c 81 61 [.t 77,.t 80],m 23 81]<|.q [m 82 23,m 83 82,w 84 .mov [.t 22] 83 true,w 85 (.faddr 0) [.t 9] 83 true,
 u 86 (.ld (some 9) 1 false) [.t 85] 83 true,w 87 (.faddr 1) [.t 9] 83 true,u 88 (.ld (some 9) 1 false) [.t 87] 83 true,w 89 (.bin .add) [.t 86,.t 88] 83 true,w 90 (.faddr 2) [.t 9] 83 true,u 91 (.ld (some 9) 1 false) [.t 90] 83 true,
 w 92 (.bin .add) [.t 89,.t 91] 83 true,w 93 (.bin .leq) [.t 84,.t 92] 83 true,w 94 .mov [.t 93] 83 true,w 95 .mov [.t 22] 94 false,w 96 (.faddr 3) [.t 9] 94 false,u 97 (.ld (some 9) 1 false) [.t 96] 94 false,w 98 (.bin .eql) [.t 95,.t 97] 94 false,
 w 99 .pick [.t 94,.k (.b true),.t 98] 83 true,p 100 .pick [.t 83,.t 99,.k (.b false)]]<|.cond (.t 100) (.ops [m 101 19,m 102 22,⟨some 103,.pur (.buildSl 1 1 [.i 0] [0]),[.t 102],none⟩,⟨some 104,.append 1 8,[.t 101,.t 103],none⟩,m 19 104]) (.skip)))<|
 .ops [m 73 22,p 74 (.bin .add) [.t 73,.k (.i 1)],m 22 74]
def zcf:ACode:=.q [x 5 0,x 6 1,x 7 2,x 8 3,x 9 4,k 10 N,i 11 0]<|.q [l 27 7 3 true 7,
 ⟨some 28,.call 79,[.k (.s ⟨#[111,116,112]⟩),.k (.i 1),.t 27],none⟩,m 26 28,e 29 0 26,e 30 1 26,m 12 29,m 13 30]<|.seq (.q [m 31 13,o 32 (.un .not) 31]<|
 .cond (.t 32) (.q [k 10 N,i 11 2]<|.ret) (.skip))<|.q [l 34 5 3 true 5,m 35 12,p 36 (.iaddr 3) [.t 35,.k (.i 0)],h 37 3 true 36,c 38 268 [.t 34,.k (.i 45),.t 37],
 m 33 38,e 39 0 33,e 40 1 33,⟨some 14,.alloc .reg Z,[],none⟩,s 14 3 14 39,m 15 40]<|.seq (.q [m 41 15,p 42 (.bin .neq) [.t 41,.k (.i 0)]]<|
 .cond (.t 42) (.q [m 43 15,k 10 N,m 11 43]<|.ret) (.skip))<|.q [l 45 14 3 true 14,⟨some 46,.call 79,[.k (.s ⟨#[99,111,100,101]⟩),.k (.i 2),.t 45],none⟩,m 44 46,e 47 0 44,
 e 48 1 44,m 16 47,m 17 48]<|.seq (.q [m 49 17,o 50 (.un .not) 49]<|.cond (.t 50) (.q [k 10 N,i 11 2]<|.ret) (.skip))<|.q [
 m 51 16,p 52 (.iaddr 3) [.t 51,.k (.i 0)],h 53 3 true 52,l 54 6 3 true 6,c 55 61 [.t 53,.t 54],m 18 55]<|.seq (.q [m 56 18,o 57 (.un .not) 56]<|.cond (.t 57) (.q [
 k 10 N,i 11 6]<|.ret) (.skip))<|.q [k 19 N]<|.q [l 59 9 6 true 9,c 60 418 [.t 59],m 58 60,e 61 0 58,
 e 62 1 58,m 20 61,m 21 62]<|.seq (.q [m 63 20,m 22 63]<|
 .block 0 (.loop [23,64,65,66,67,68,69,70,71,72,73,74,75,76,77,78,79,80,81,82,83,84,85,86,87,88,89,90,91,92,93,94,95,96,97,98,99,100,101,102,103,104] [] vx))<|.seq (.q [m 105 20,m 106 21,p 107 (.bin .leq) [.t 105,.t 106],m 108 107,
 w 109 (.faddr 3) [.t 9] 108 true,u 110 (.ld (some 9) 1 false) [.t 109] 108 true,w 111 .mov [.t 20] 108 true,w 112 (.bin .add) [.t 111,.k (.i 70)] 108 true,w 113 (.bin .gtr) [.t 110,.t 112] 108 true,p 114 .pick [.t 108,.t 113,.k (.b false)]]<|.cond (.t 114) (.q [
 m 115 16,p 116 (.iaddr 3) [.t 115,.k (.i 1)],h 117 3 true 116,l 118 8 3 true 8,f 119 3 9,l 120 9 1 false 119,c 121 158 [.t 118,.t 120],c 122 61 [.t 117,.t 121],
 m 24 122]<|.q [m 123 24]<|.cond (.t 123) (.ops [m 124 19,f 125 3 9,l 126 9 1 false 125,⟨some 127,.pur (.buildSl 1 1 [.i 0] [0]),[.t 126],none⟩,⟨some 128,.append 1 8,[.t 124,.t 127],none⟩,
 m 19 128]) (.skip)) (.skip))<|.seq (.q [m 129 20,m 130 21,p 131 (.bin .leq) [.t 129,.t 130],m 132 131,w 133 (.faddr 3) [.t 9] 132 true,u 134 (.ld (some 9) 1 false) [.t 133] 132 true,
 w 135 .mov [.t 20] 132 true,w 136 (.bin .lss) [.t 134,.t 135] 132 true,p 137 .pick [.t 132,.t 136,.k (.b false)]]<|.cond (.t 137) (.q [m 138 16,p 139 (.iaddr 3) [.t 138,.k (.i 1)],h 140 3 true 139,l 141 8 3 true 8,
 f 142 3 9,l 143 9 1 false 142,c 144 158 [.t 141,.t 143],c 145 61 [.t 140,.t 144],m 25 145]<|.q [m 146 25]<|.cond (.t 146) (.ops [f 147 3 9,l 148 9 1 false 147,
 ⟨some 149,.pur (.buildSl 1 1 [.i 0] [0]),[.t 148],none⟩,m 150 19,⟨some 151,.append 1 8,[.t 149,.t 150],none⟩,m 19 151]) (.skip)) (.skip))<|.q [m 152 19,m 10 152,i 11 0]<|.ret
def f343:za:=⟨153,zcf,[.tmp 10,.tmp 11]⟩
def ze3:ACode:=.q [x 4 0,x 5 1,x 6 2,x 7 3,⟨some 8,.alloc .reg Z,[],none⟩,i 9 0]<|.q [l 18 7 3 true 7,
 ⟨some 19,.call 79,[.k (.s ⟨#[115,112,97,107,101]⟩),.k (.i 2),.t 18],none⟩,m 17 19,e 20 0 17,e 21 1 17,m 10 20,m 11 21]<|.seq (.q [m 22 11,o 23 (.un .not) 22]<|
 .cond (.t 23) (.q [⟨some 24,.pur (.build Z []),[],none⟩,s 8 3 8 24,i 9 2]<|.ret) (.skip))<|.q [m 26 10,p 27 (.iaddr 3) [.t 26,.k (.i 0)],h 28 3 true 27,
 l 29 4 3 true 4,c 30 369 [.t 28,.t 29],m 25 30,e 31 0 25,e 32 1 25,⟨some 12,.alloc .reg Z,[],none⟩,s 12 3 12 31,m 13 32]<|.seq (.q [
 m 33 13,p 34 (.bin .neq) [.t 33,.k (.i 0)]]<|.cond (.t 34) (.q [⟨some 35,.pur (.build Z []),[],none⟩,m 36 13,s 8 3 8 35,m 9 36]<|.ret) (.skip))<|.q [l 37 6 3 true 6,
 l 38 4 3 true 4,c 39 370 [.t 37,.t 38],⟨some 14,.alloc .reg Z,[],none⟩,s 14 3 14 39]<|.q [l 40 12 3 true 12,l 41 6 3 true 6,c 42 372 [.t 40,.t 41],
 l 43 4 3 true 4,l 44 14 3 true 14,m 45 10,p 46 (.iaddr 3) [.t 45,.k (.i 0)],h 47 3 true 46,l 48 5 3 true 5,c 49 371 [.t 42,.t 43,.t 44,.t 47,.t 48,.k (.i 1)],
 ⟨some 15,.alloc .reg Z,[],none⟩,s 15 3 15 49]<|.q [m 50 10,p 51 (.iaddr 3) [.t 50,.k (.i 1)],h 52 3 true 51,l 53 15 3 true 15,c 54 373 [.t 53],c 55 61 [.t 52,.t 54],
 m 16 55]<|.seq (.q [m 56 16,o 57 (.un .not) 56]<|.cond (.t 57) (.q [⟨some 58,.pur (.build Z []),[],none⟩,s 8 3 8 58,i 9 6]<|.ret) (.skip))<|.q [
 l 59 12 3 true 12,l 60 6 3 true 6,c 61 372 [.t 59,.t 60],l 62 4 3 true 4,l 63 14 3 true 14,m 64 10,p 65 (.iaddr 3) [.t 64,.k (.i 0)],h 66 3 true 65,
 l 67 5 3 true 5,c 68 371 [.t 61,.t 62,.t 63,.t 66,.t 67,.k (.i 0)],s 8 3 8 68,i 9 0]<|.ret
def zcg:za:=⟨69,ze3,[.cell 8 3 true,.tmp 9]⟩
def zdm:ACode:=.seq (.q [m 6 5,m 7 0,o 8 .nilchk 7,f 9 0 8,h 10 1 false 9,o 11 .lenL 10,p 12 (.bin .lss) [.t 6,.t 11]]<|.cond (.t 12) (.skip) (.exit 0))<|.seq (.block 1 (.q [
 m 15 0,o 16 .nilchk 15,f 17 0 16,h 18 1 false 17,m 19 5,p 20 (.iaddr 15) [.t 18,.t 19],f 21 0 20,h 22 1 false 21,m 23 1,
 p 24 (.bin .eql) [.t 22,.t 23]]<|.cond (.t 24) (.q [m 25 5,m 4 25]<|.ret) (.skip)))<|.ops [m 13 5,p 14 (.bin .add) [.t 13,.k (.i 1)],m 5 14]
def zhU:ACode:=.q [i 4 0]<|.seq (.q [i 5 0]<|.block 0 (.loop [4,6,7,8,9,10,11,12,13,14,15,16,17,18,19,20,21,22,23,24,25] [] zdm))<|.q [k 4 (.i (-1))]<|.ret
def zdl:za:=⟨26,zhU,[.tmp 4]⟩
def ze4:ACode:=.seq (.q [m 43 5,f 44 2 1,l 45 1 1 false 44,o 46 .lenL 45,p 47 (.bin .lss) [.t 43,.t 46]]<|.cond (.t 47) (.skip) (.exit 0))<|.seq (.block 1 (.q [f 50 2 1,
 l 51 1 1 false 50,m 52 5,p 53 (.iaddr 3) [.t 51,.t 52],h 54 3 true 53,c 55 346 [.t 54],m 6 55]<|.q [m 56 6,o 57 (.un .not) 56]<|.cond (.t 57) (.q [
 k 2 (.b false)]<|.ret) (.skip)))<|.ops [m 48 5,p 49 (.bin .add) [.t 48,.k (.i 1)],m 5 49]
def jB:ACode:=.q [x 1 0,k 2 (.b false)]<|.q [f 7 0 1,l 8 1 1 false 7,c 9 419 [.t 8],m 3 9]<|.q [f 10 0 1,l 11 1 1 false 10,
 p 12 (.bin .eql) [.t 11,.k (.i 1)],m 13 12,w 14 (.faddr 0) [.t 1] 13 false,u 15 (.ld (some 1) 1 false) [.t 14] 13 false,w 16 (.bin .eql) [.t 15,.k (.i 2)] 13 false,p 17 .pick [.t 13,.k (.b true),.t 16],m 18 17,
 w 19 (.faddr 0) [.t 1] 18 false,u 20 (.ld (some 1) 1 false) [.t 19] 18 false,w 21 (.bin .eql) [.t 20,.k (.i 7)] 18 false,p 22 .pick [.t 18,.k (.b true),.t 21],m 4 22]<|.seq (.q [m 23 3,p 24 (.bin .eql) [.t 23,.k (.i (-2))],
 m 25 24,w 26 .mov [.t 3] 25 false,w 27 (.bin .geq) [.t 26,.k (.i 0)] 25 false,w 28 .mov [.t 27] 25 false,w 29 (.faddr 2) [.t 1] 28 true,u 30 (.ld (some 1) 1 false) [.t 29] 28 true,w 31 .lenL [.t 30] 28 true,
 w 32 .mov [.t 3] 28 true,w 33 (.bin .neq) [.t 31,.t 32] 28 true,w 34 .pick [.t 28,.t 33,.k (.b false)] 25 false,p 35 .pick [.t 25,.k (.b true),.t 34],m 36 35,w 37 .mov [.t 4] 36 false,w 38 (.faddr 1) [.t 1] 36 false,
 u 39 (.ld (some 1) 1 false) [.t 38] 36 false,⟨some 40,.pur (.bin .neq),[.t 39,.k E],some (36,false)⟩,w 41 (.eqB true) [.t 37,.t 40] 36 false,p 42 .pick [.t 36,.k (.b true),.t 41]]<|.cond (.t 42) (.q [k 2 (.b false)]<|.ret) (.skip))<|.seq (.q [
 i 5 0]<|.block 0 (.loop [2,6,43,44,45,46,47,48,49,50,51,52,53,54,55,56,57] [] ze4))<|.q [k 2 (.b true)]<|.ret
def zhV:za:=⟨58,jB,[.tmp 2]⟩
def ze5:ACode:=.seq (.q [m 33 5,f 34 2 1,l 35 1 1 false 34,o 36 .lenL 35,p 37 (.bin .lss) [.t 33,.t 36]]<|.cond (.t 37) (.skip) (.exit 0))<|.seq (.block 1 (.seq (.q [m 40 5,
 p 41 (.bin .gtr) [.t 40,.k (.i 0)]]<|.cond (.t 41) (.ops [m 42 4,⟨some 43,.pur (.bin .add),[.t 42,.k (.s ⟨#[44]⟩)],none⟩,m 4 43]) (.skip))<|.q [f 44 2 1,l 45 1 1 false 44,m 46 5,
 p 47 (.iaddr 3) [.t 45,.t 46],h 48 3 true 47,c 49 347 [.t 48],m 6 49]<|.ops [m 50 4,m 51 6,p 52 (.bin .add) [.t 50,.t 51],m 4 52]))<|.ops [m 38 5,
 p 39 (.bin .add) [.t 38,.k (.i 1)],m 5 39]
def ze6:ACode:=.q [x 1 0,⟨some 2,.pur .mov,[.k E],none⟩]<|.q [⟨some 7,.pur (.buildSl 1 10 [E] [0,1,2,3,4,5,6,7,8,9]),[.k (.s ⟨#[100]⟩),.k (.s ⟨#[97]⟩),.k (.s ⟨#[112]⟩),.k (.s ⟨#[101]⟩),.k (.s ⟨#[109]⟩),.k (.s ⟨#[104]⟩),.k (.s ⟨#[107]⟩),.k (.s ⟨#[117]⟩),.k (.s ⟨#[115]⟩),.k (.s ⟨#[120]⟩)],none⟩,
 m 3 7]<|.q [m 8 3,f 9 0 1,l 10 1 1 false 9,p 11 (.bin .sub) [.t 10,.k (.i 1)],p 12 (.iaddr 1) [.t 8,.t 11],h 13 1 false 12,m 4 13]<|.seq (.q [
 f 14 1 1,l 15 1 1 false 14,⟨some 16,.pur (.bin .neq),[.t 15,.k E],none⟩]<|.cond (.t 16) (.ops [m 17 4,f 18 1 1,l 19 1 1 false 18,o 20 .lenS 19,c 21 420 [.t 20],
 p 22 (.bin .add) [.t 17,.t 21],⟨some 23,.pur (.bin .add),[.t 22,.k (.s ⟨#[58]⟩)],none⟩,f 24 1 1,l 25 1 1 false 24,p 26 (.bin .add) [.t 23,.t 25],m 4 26]) (.skip))<|.seq (.q [f 27 0 1,
 l 28 1 1 false 27,p 29 (.bin .leq) [.t 28,.k (.i 2)]]<|.cond (.t 29) (.q [m 30 4,m 2 30]<|.ret) (.skip))<|.q [m 31 4,⟨some 32,.pur (.bin .add),[.t 31,.k (.s ⟨#[40]⟩)],none⟩,m 4 32]<|.seq (.q [
 i 5 0]<|.block 0 (.loop [6,33,34,35,36,37,38,39,40,41,42,43,44,45,46,47,48,49,50,51,52] [] ze5))<|.q [m 53 4,⟨some 54,.pur (.bin .add),[.t 53,.k (.s ⟨#[41]⟩)],none⟩,m 2 54]<|.ret
def zch:za:=⟨55,ze6,[.tmp 2]⟩
def zaF:ACode:=.q [x 2 0,⟨some 4,.alloc .reg [.i 0,.i 0,.i 0,.i 0,.i 0,.i 0],[],none⟩,i 5 0,i 6 0]<|.seq (.q [l 10 2 6 true 2,c 11 421 [.t 10],o 12 (.un .not) 11]<|
 .cond (.t 12) (.q [l 13 2 6 true 2,s 4 6 4 13,i 5 0,i 6 1]<|.ret) (.skip))<|.seq (.q [f 14 4 2,l 15 2 1 false 14,f 16 5 2,
 l 17 2 1 false 16,p 18 (.bin .geq) [.t 15,.t 17]]<|.cond (.t 18) (.q [l 19 2 6 true 2,s 4 6 4 19,i 5 0,i 6 7]<|.ret) (.skip))<|.q [f 20 0 2,
 l 21 2 1 false 20,f 22 1 2,l 23 2 1 false 22,p 24 (.bin .add) [.t 21,.t 23],m 7 24]<|.q [m 25 1,f 26 0 2,l 27 2 1 false 26,
 m 28 7,c 29 422 [.t 25,.t 27,.t 28],m 8 29]<|.seq (.q [m 30 8,p 31 (.bin .lss) [.t 30,.k (.i 0)],m 32 31,w 33 (.faddr 3) [.t 2] 32 true,u 34 (.ld (some 2) 1 false) [.t 33] 32 true,
 w 35 .mov [.t 7] 32 true,w 36 (.bin .gtr) [.t 34,.t 35] 32 true,p 37 .pick [.t 32,.t 36,.k (.b false)]]<|.cond (.t 37) (.ops [m 38 1,f 39 3 2,l 40 2 1 false 39,f 41 3 2,
 l 42 2 1 false 41,c 43 422 [.t 38,.t 40,.t 42],m 8 43]) (.skip))<|.seq (.q [m 44 8,p 45 (.bin .geq) [.t 44,.k (.i 0)]]<|.cond (.t 45) (.q [m 46 8,p 47 (.bin .add) [.t 46,.k (.i 1)],
 f 48 0 2,s 2 1 48 47]<|.q [f 49 3 2,⟨none,.st (some 2) 1,[.t 49,.k (.i 0)],none⟩]<|.q [f 50 4 2,⟨none,.st (some 2) 1,[.t 50,.k (.i 0)],none⟩]<|.q [l 51 2 6 true 2,
 m 52 8,s 4 6 4 51,m 5 52,i 6 0]<|.ret) (.skip))<|.q [m 53 1,m 54 7,p 55 (.bin .add) [.t 54,.k (.i 1)],m 56 7,f 57 2 2,
 l 58 2 1 false 57,p 59 (.bin .add) [.t 56,.t 58],c 60 422 [.t 53,.t 55,.t 59],m 9 60]<|.q [f 61 4 2,l 62 2 1 false 61,p 63 (.bin .add) [.t 62,.k (.i 1)],f 64 4 2,
 s 2 1 64 63]<|.q [f 65 3 2,⟨none,.st (some 2) 1,[.t 65,.k (.i 0)],none⟩]<|.seq (.q [m 66 9,p 67 (.bin .geq) [.t 66,.k (.i 0)]]<|.cond (.t 67) (.q [m 68 9,p 69 (.bin .add) [.t 68,.k (.i 1)],
 f 70 3 2,s 2 1 70 69]<|.q [l 71 2 6 true 2,s 4 6 4 71,i 5 0,i 6 8]<|.ret) (.skip))<|.q [l 72 2 6 true 2,
 s 4 6 4 72,i 5 0,i 6 6]<|.ret
def wD:za:=⟨73,zaF,[.cell 4 6 true,.tmp 5,.tmp 6]⟩
def zql:ACode:=.q [i 4 0]<|.q [m 6 0,m 7 1,c 8 345 [.t 6,.t 7],m 5 8]<|.seq (.q [m 9 5,p 10 (.bin .lss) [.t 9,.k (.i 0)]]<|.cond (.t 10) (.q [
 i 4 3]<|.ret) (.skip))<|.q [m 11 0,o 12 .nilchk 11,f 13 0 12,h 14 1 false 13,m 15 5,p 16 (.iaddr 15) [.t 14,.t 15],f 17 14 16,
 ⟨none,.st none 1,[.t 17,.k (.i 0)],none⟩]<|.q [i 4 0]<|.ret
def zhW:za:=⟨18,zql,[.tmp 4]⟩
def zqm:ACode:=.q [x 4 0,x 5 1,⟨some 8,.alloc .reg Z,[],none⟩]<|.q [l 9 4 3 true 4,m 10 2,⟨some 11,.pur (.bin .add),[.k (.s ⟨#[106,111,105,110,32]⟩),.t 10],none⟩,c 12 312 [.t 9,.t 11],
 l 13 5 3 true 5,m 14 3,⟨some 15,.pur (.bin .add),[.k (.s ⟨#[106,111,105,110,32]⟩),.t 14],none⟩,c 16 312 [.t 13,.t 15],⟨some 17,.pur (.buildSl 3 2 Z [0,1]),[.t 12,.t 16],none⟩,c 18 126 [.t 17],c 19 124 [.t 18],
 s 8 3 8 19]<|.ret
def zhX:za:=⟨20,zqm,[.cell 8 3 true]⟩
def zqn:ACode:=.q [x 2 0,x 3 1,⟨some 4,.alloc .reg Z,[],none⟩]<|.q [l 5 2 3 true 2,l 6 3 3 true 3,
 ⟨some 7,.call 350,[.t 5,.t 6,.k (.s ⟨#[115,116,114,101,110,103,116,104,101,110,107,101,121]⟩),.k (.s ⟨#[114,101,112,108,121,107,101,121]⟩)],none⟩,s 4 3 4 7]<|.ret
def zhY:za:=⟨8,zqn,[.cell 4 3 true]⟩
def zhZ:ACode:=.q [x 5 0,x 7 2,k 10 N,i 11 0]<|.q [l 17 5 3 true 5,m 18 1,l 19 7 3 true 7,c 20 263 [.t 17,.t 18,.t 19],
 m 16 20,e 21 0 16,e 22 1 16,⟨some 12,.alloc .reg Z,[],none⟩,s 12 3 12 21,m 13 22]<|.seq (.q [m 23 13,p 24 (.bin .neq) [.t 23,.k (.i 0)]]<|
 .cond (.t 24) (.q [m 25 13,k 10 N,m 11 25]<|.ret) (.skip))<|.q [m 27 3,m 28 4,l 29 12 3 true 12,c 30 78 [.t 27,.t 28,.t 29],m 26 30,
 e 31 0 26,e 32 1 26,m 14 31,m 15 32]<|.seq (.q [m 33 15,o 34 (.un .not) 33]<|.cond (.t 34) (.q [k 10 N,i 11 2]<|
 .ret) (.skip))<|.q [m 35 14,m 10 35,i 11 0]<|.ret
def zdn:za:=⟨36,zhZ,[.tmp 10,.tmp 11]⟩
def zqo:ACode:=.q [x 2 0,⟨some 4,.alloc .reg Z,[],none⟩]<|.q [l 5 2 3 true 2,m 6 1,⟨some 7,.call 368,[.t 5,.k (.s ⟨#[117,115,101]⟩),.t 6],none⟩,s 4 3 4 7]<|.ret
def zh0:za:=⟨8,zqo,[.cell 4 3 true]⟩
def zqp:ACode:=.q [x 1 0,⟨some 2,.alloc .reg Z,[],none⟩]<|.q [l 3 1 3 true 1,⟨some 4,.pur (.buildSl 3 1 Z [0]),[.t 3],none⟩,⟨some 5,.call 228,[.k (.i 8),.k E,.t 4],none⟩,s 2 3 2 5]<|.ret
def zh1:za:=⟨6,zqp,[.cell 2 3 true]⟩
def zqq:ACode:=.q [x 2 0,x 3 1,⟨some 4,.alloc .reg Z,[],none⟩]<|.q [l 5 2 3 true 2,l 6 3 3 true 3,⟨some 7,.pur (.buildSl 3 2 Z [0,1]),[.t 5,.t 6],none⟩,
 ⟨some 8,.pur (.build Z [(0,1),(2,1)]),[.k (.i 4),.t 7],none⟩,s 4 3 4 8]<|.ret
def zh2:za:=⟨9,zqq,[.cell 4 3 true]⟩
def zqr:ACode:=.q [x 1 0,⟨some 2,.alloc .reg Z,[],none⟩]<|.q [l 3 1 3 true 1,⟨some 4,.call 312,[.t 3,.k (.s ⟨#[119,111,114,100]⟩)],none⟩,s 2 3 2 4]<|.ret
def zh3:za:=⟨5,zqr,[.cell 2 3 true]⟩
def zqs:ACode:=.q [x 6 0,x 7 1,x 8 2,x 9 3,x 10 4,⟨some 12,.alloc .reg Z,[],none⟩]<|.q [l 13 6 3 true 6,l 14 7 3 true 7,
 l 15 8 3 true 8,l 16 9 3 true 9,l 17 10 3 true 10,⟨some 18,.pur (.buildSl 3 5 Z [0,1,2,3,4]),[.t 13,.t 14,.t 15,.t 16,.t 17],none⟩,c 19 126 [.t 18],c 20 124 [.t 19],m 21 5,
 c 22 354 [.t 20,.t 21],s 12 3 12 22]<|.ret
def zh4:za:=⟨23,zqs,[.cell 12 3 true]⟩
def zqt:ACode:=.q [k 6 (.b false)]<|.q [m 7 0,m 8 1,p 9 (.bin .geq) [.t 7,.t 8],m 10 9,w 11 .mov [.t 0] 10 true,w 12 .mov [.t 2] 10 true,
 w 13 (.bin .leq) [.t 11,.t 12] 10 true,p 14 .pick [.t 10,.t 13,.k (.b false)],m 6 14]<|.ret
def zh5:za:=⟨15,zqt,[.tmp 6]⟩
def zh7:ACode:=.q [p 9 (.bin .lss) [.t 8,.t 7]]<|.seq (.cond (.t 9) (.skip) (.exit 0))<|.seq (.block 1 (.q [m 10 8,m 5 10]<|.q [m 11 1,m 12 0,m 13 5,
 p 14 (.iaddr 1) [.t 12,.t 13],h 15 1 false 14,⟨some 16,.callv,[.t 11,.t 15],none⟩]<|.cond (.t 16) (.q [m 17 5,m 4 17]<|.ret) (.skip)))<|.ops [p 18 (.bin .add) [.t 8,.k (.i 1)],m 8 18]
def zqu:ACode:=.q [i 4 0]<|.seq (.q [m 6 0,o 7 .lenL 6,i 8 0]<|.block 0 (.loop [4,5,9,10,11,12,13,14,15,16,17,18] [] zh7))<|.q [k 4 (.i (-1))]<|.ret
def zh6:za:=⟨19,zqu,[.tmp 4]⟩
def zqv:ACode:=.q [x 3 0,⟨some 6,.alloc .reg Z,[],none⟩]<|.q [l 7 3 3 true 3,m 8 1,⟨some 9,.pur (.bin .add),[.t 8,.k (.s ⟨#[32]⟩)],none⟩,m 10 2,c 11 193 [.t 10],
 p 12 (.bin .add) [.t 9,.t 11],c 13 312 [.t 7,.t 12],s 6 3 6 13]<|.ret
def zh8:za:=⟨14,zqv,[.cell 6 3 true]⟩
def zci:ACode:=.q [x 2 0,x 3 1,⟨some 4,.alloc .reg Z,[],none⟩,i 5 0]<|.seq (.q [f 7 0 2,l 8 2 1 false 7,p 9 (.bin .neq) [.t 8,.k (.i 10)],
 m 10 9,w 11 (.faddr 2) [.t 2] 10 false,u 12 (.ld (some 2) 1 false) [.t 11] 10 false,w 13 .lenL [.t 12] 10 false,w 14 (.bin .neq) [.t 13,.k (.i 2)] 10 false,p 15 .pick [.t 10,.k (.b true),.t 14],m 16 15,
 w 17 (.faddr 2) [.t 2] 16 false,u 18 (.ld (some 2) 1 false) [.t 17] 16 false,w 19 (.iaddr 3) [.t 18,.k (.i 0)] 16 false,w 20 (.faddr 0) [.t 19] 16 false,u 21 (.ld none 1 false) [.t 20] 16 false,w 22 (.bin .neq) [.t 21,.k (.i 8)] 16 false,
 p 23 .pick [.t 16,.k (.b true),.t 22],m 24 23,w 25 (.faddr 2) [.t 2] 24 false,u 26 (.ld (some 2) 1 false) [.t 25] 24 false,w 27 (.iaddr 3) [.t 26,.k (.i 0)] 24 false,w 28 (.faddr 2) [.t 27] 24 false,u 29 (.ld none 1 false) [.t 28] 24 false,
 w 30 .lenL [.t 29] 24 false,w 31 (.bin .neq) [.t 30,.k (.i 1)] 24 false,p 32 .pick [.t 24,.k (.b true),.t 31]]<|.cond (.t 32) (.q [⟨some 33,.pur (.build Z []),[],none⟩,s 4 3 4 33,i 5 2]<|.ret) (.skip))<|
 .q [f 34 2 2,l 35 2 1 false 34,p 36 (.iaddr 3) [.t 35,.k (.i 1)],h 37 3 true 36,l 38 3 3 true 3,c 39 437 [.t 38],c 40 61 [.t 37,.t 39],m 6 40]<|.seq (.q [
 m 41 6,o 42 (.un .not) 41]<|.cond (.t 42) (.q [⟨some 43,.pur (.build Z []),[],none⟩,s 4 3 4 43,i 5 6]<|.ret) (.skip))<|.q [f 44 2 2,l 45 2 1 false 44,
 p 46 (.iaddr 3) [.t 45,.k (.i 0)],f 47 2 46,h 48 1 false 47,p 49 (.iaddr 3) [.t 48,.k (.i 0)],h 50 3 true 49,s 4 3 4 50,i 5 0]<|.ret
def zaG:za:=⟨51,zci,[.cell 4 3 true,.tmp 5]⟩
def zqw:ACode:=.q [x 2 0,x 3 1,⟨some 4,.alloc .reg Z,[],none⟩]<|.q [l 5 2 3 true 2,c 6 173 [.t 5],l 7 3 3 true 3,c 8 437 [.t 7],c 9 172 [.t 6,.t 8],
 s 4 3 4 9]<|.ret
def zh9:za:=⟨10,zqw,[.cell 4 3 true]⟩
def zqx:ACode:=.q [x 6 0,x 7 1,x 8 2,x 9 3,x 10 4,⟨some 12,.alloc .reg Z,[],none⟩]<|.q [l 13 6 3 true 6,l 14 7 3 true 7,
 c 15 437 [.t 14],l 16 8 3 true 8,l 17 9 3 true 9,l 18 10 3 true 10,c 19 265 [.t 18],m 20 5,c 21 438 [.t 13,.t 15,.t 16,.t 17,.t 19,.t 20],s 12 3 12 21]<|.ret
def zia:za:=⟨22,zqx,[.cell 12 3 true]⟩
def zlj:ACode:=.q [x 2 0,x 3 1,⟨some 4,.alloc .reg Z,[],none⟩]<|.seq (.q [l 5 3 3 true 3,c 6 243 [.t 5],l 7 2 3 true 2,c 8 243 [.t 7],
 p 9 (.bin .lss) [.t 6,.t 8]]<|.cond (.t 9) (.q [l 10 3 3 true 3,l 11 2 3 true 2,⟨some 12,.pur (.buildSl 3 2 Z [0,1]),[.t 10,.t 11],none⟩,⟨some 13,.pur (.build Z [(0,1),(2,1)]),[.k (.i 9),.t 12],none⟩,
 s 4 3 4 13]<|.ret) (.skip))<|.q [l 14 2 3 true 2,l 15 3 3 true 3,⟨some 16,.pur (.buildSl 3 2 Z [0,1]),[.t 14,.t 15],none⟩,⟨some 17,.pur (.build Z [(0,1),(2,1)]),[.k (.i 9),.t 16],none⟩,
 s 4 3 4 17]<|.ret
def ze7:za:=⟨18,zlj,[.cell 4 3 true]⟩
def zqy:ACode:=.q [x 1 0,⟨some 2,.alloc .reg Z,[],none⟩]<|.q [l 3 1 3 true 1,⟨some 4,.call 63,[.k (.s ⟨#[102,97,99,116,111,114]⟩),.k N],none⟩,c 5 266 [.t 3,.k (.i 60),.t 4],s 2 3 2 5]<|.ret
def zib:za:=⟨6,zqy,[.cell 2 3 true]⟩
def ze8:ACode:=.q [x 2 0,x 3 1,⟨some 4,.alloc .reg Z,[],none⟩,i 5 0]<|.q [l 12 3 3 true 3,⟨some 13,.call 78,[.k (.s ⟨#[97,114,109,111,114]⟩),.k (.i 2),.t 12],none⟩,m 11 13,
 e 14 0 11,e 15 1 11,m 6 14,m 7 15]<|.seq (.q [m 16 7,o 17 (.un .not) 16]<|.cond (.t 17) (.q [⟨some 18,.pur (.build Z []),[],none⟩,
 s 4 3 4 18,i 5 2]<|.ret) (.skip))<|.q [l 20 2 3 true 2,m 21 6,p 22 (.iaddr 3) [.t 21,.k (.i 0)],h 23 3 true 22,
 ⟨some 24,.call 353,[.t 20,.k (.i 2),.t 23,.k (.s ⟨#[104,111,115,116]⟩),.k (.i 1)],none⟩,m 19 24,e 25 0 19,e 26 1 19,m 8 25,m 9 26]<|.seq (.q [m 27 9,
 p 28 (.bin .neq) [.t 27,.k (.i 0)]]<|.cond (.t 28) (.q [⟨some 29,.pur (.build Z []),[],none⟩,m 30 9,s 4 3 4 29,m 5 30]<|.ret) (.skip))<|.q [m 32 8,
 p 33 (.iaddr 3) [.t 32,.k (.i 0)],h 34 3 true 33,m 35 6,p 36 (.iaddr 3) [.t 35,.k (.i 1)],h 37 3 true 36,⟨some 38,.call 353,[.t 34,.k (.i 11),.t 37,.k (.s ⟨#[97,117,116,104]⟩),.k (.i 1)],none⟩,m 31 38,
 e 39 0 31,e 40 1 31,m 10 39,m 9 40]<|.seq (.q [m 41 9,p 42 (.bin .neq) [.t 41,.k (.i 0)]]<|.cond (.t 42) (.q [⟨some 43,.pur (.build Z []),[],none⟩,
 m 44 9,s 4 3 4 43,m 5 44]<|.ret) (.skip))<|.q [m 45 10,p 46 (.iaddr 3) [.t 45,.k (.i 0)],h 47 3 true 46,m 48 8,p 49 (.iaddr 3) [.t 48,.k (.i 0)],
 h 50 3 true 49,c 51 247 [.t 47,.t 50],s 4 3 4 51,i 5 0]<|.ret
def zcj:za:=⟨52,ze8,[.cell 4 3 true,.tmp 5]⟩
def zic:ACode:=.q [x 3 0,x 4 1,x 5 2,⟨some 6,.alloc .reg Z,[],none⟩,⟨some 7,.alloc .reg Z,[],none⟩,i 8 0]<|.q [l 12 3 3 true 3,
 l 13 5 3 true 5,⟨some 14,.call 353,[.t 12,.k (.i 51),.t 13,.k (.s ⟨#[102,97,115,116]⟩),.k (.i 3)],none⟩,m 11 14,e 15 0 11,e 16 1 11,m 9 15,m 10 16]<|.seq (.block 0 (.q [
 m 18 10,p 19 (.bin .neq) [.t 18,.k (.i 0)],m 17 19]<|.cond (.t 17) (.q [l 20 6 3 true 6,l 21 7 3 true 7,m 22 10,s 6 3 6 20,s 7 3 7 21,
 m 8 22]<|.ret) (.q [m 24 9,p 25 (.iaddr 3) [.t 24,.k (.i 0)],h 26 3 true 25,l 27 4 3 true 4,c 28 124 [.t 27],c 29 118 [.t 26,.t 28],o 30 (.un .not) 29,
 m 23 30]<|.cond (.t 23) (.q [l 31 6 3 true 6,l 32 7 3 true 7,s 6 3 6 31,s 7 3 7 32,i 8 6]<|.ret) (.skip))))<|.q [m 33 9,
 p 34 (.iaddr 3) [.t 33,.k (.i 1)],h 35 3 true 34,m 36 9,p 37 (.iaddr 3) [.t 36,.k (.i 2)],h 38 3 true 37,s 6 3 6 35,s 7 3 7 38,i 8 0]<|.ret
def zdo:za:=⟨39,zic,[.cell 6 3 true,.cell 7 3 true,.tmp 8]⟩
def zid:ACode:=.q [⟨some 4,.alloc .reg [E,.i 0,E,N,N,.i 0,E,N,.i 0,.i 0,.i 0,.i 0,.i 0,.i 0,.i 0],[],none⟩,k 5 (.b false)]<|.seq (.q [m 7 0,m 8 1,c 9 439 [.t 7,.t 8],
 m 6 9]<|.q [m 10 6,o 11 (.nilP true) 10]<|.cond (.t 11) (.q [m 12 6,o 13 .nilchk 12,h 14 15 true 13,c 15 323 [.t 14],s 4 15 4 15,
 k 5 (.b true)]<|.ret) (.skip))<|.q [⟨some 16,.pur (.build [E,.i 0,E,N,N,.i 0,E,N,.i 0,.i 0,.i 0,.i 0,.i 0,.i 0,.i 0] []),[],none⟩,s 4 15 4 16,k 5 (.b false)]<|.ret
def zdp:za:=⟨17,zid,[.cell 4 15 true,.tmp 5]⟩
def zif:ACode:=.q [p 14 (.bin .lss) [.t 13,.t 12]]<|.seq (.cond (.t 14) (.skip) (.exit 0))<|.seq (.block 1 (.q [m 15 13,m 5 15]<|.q [m 16 0,m 17 5,p 18 (.iaddr 1) [.t 16,.t 17],
 h 19 1 false 18,m 20 1,m 21 5,p 22 (.iaddr 1) [.t 20,.t 21],h 23 1 false 22,p 24 (.bin .neq) [.t 19,.t 23]]<|.cond (.t 24) (.q [k 4 (.b false)]<|.ret) (.skip)))<|.ops [
 p 25 (.bin .add) [.t 13,.k (.i 1)],m 13 25]
def zlk:ACode:=.q [k 4 (.b false)]<|.seq (.q [m 6 0,o 7 .lenL 6,m 8 1,o 9 .lenL 8,p 10 (.bin .neq) [.t 7,.t 9]]<|.cond (.t 10) (.q [k 4 (.b false)]<|.ret) (.skip))<|
 .seq (.q [m 11 0,o 12 .lenL 11,i 13 0]<|.block 0 (.loop [4,5,14,15,16,17,18,19,20,21,22,23,24,25] [] zif))<|.q [k 4 (.b true)]<|.ret
def zie:za:=⟨26,zlk,[.tmp 4]⟩
def zll:ACode:=.q [k 4 (.b false)]<|.q [m 6 0,m 7 1,c 8 439 [.t 6,.t 7],m 5 8]<|.q [m 9 5,o 10 (.nilP false) 9,m 11 10,
 w 12 .mov [.t 5] 11 false,w 13 .nilchk [.t 12] 11 false,w 14 (.faddr 14) [.t 13] 11 false,u 15 (.ld none 1 false) [.t 14] 11 false,w 16 (.bin .geq) [.t 15,.k (.i 5)] 11 false,p 17 .pick [.t 11,.k (.b true),.t 16],m 4 17]<|.ret
def ze9:za:=⟨18,zll,[.tmp 4]⟩
def zqz:ACode:=.q [⟨some 2,.alloc .reg Z,[],none⟩]<|.q [m 3 0,o 4 .nilchk 3,f 5 9 4,h 6 1 false 5,p 7 (.bin .add) [.t 6,.k (.i 1)],o 8 .nilchk 3,
 f 9 9 8,⟨none,.st none 1,[.t 9,.t 7],none⟩]<|.q [m 10 0,o 11 .nilchk 10,f 12 9 11,h 13 1 false 12,c 14 193 [.t 13],⟨some 15,.pur (.bin .add),[.k (.s ⟨#[107,100,99,32]⟩),.t 14],none⟩,
 c 16 122 [.t 15],s 2 3 2 16]<|.ret
def zig:za:=⟨17,zqz,[.cell 2 3 true]⟩
def zqA:ACode:=.q [x 3 0,x 5 2,⟨some 6,.alloc .reg Z,[],none⟩]<|.q [l 7 3 3 true 3,m 8 1,c 9 64 [.t 8],l 10 5 3 true 5,
 ⟨some 11,.pur (.buildSl 3 2 Z [0,1]),[.t 9,.t 10],none⟩,⟨some 12,.call 62,[.k (.s ⟨#[97,110,115,119,101,114]⟩),.t 11],none⟩,c 13 261 [.t 7,.k (.i 52),.t 12],s 6 3 6 13]<|.ret
def zih:za:=⟨14,zqA,[.cell 6 3 true]⟩
def zii:ACode:=.q [x 1 0,⟨some 2,.alloc .reg [.i 0,E,N,N],[],none⟩,i 3 0]<|.seq (.q [l 4 1 32 true 1,c 5 291 [.t 4]]<|.block 0 (.q [⟨some 23,.pur (.bin .eql),[.t 5,.k (.s ⟨#[111,116,112]⟩)],none⟩,
 m 22 23]<|.cond (.t 22) (.q [f 24 7 1,l 25 1 3 true 24,c 26 354 [.t 25,.k (.i 46)],f 27 0 2,s 2 3 27 26]<|.ops [f 29 7 1,l 30 1 3 true 29,
 f 31 0 1,f 32 3 31,l 33 1 3 true 32,f 34 13 1,l 35 1 3 true 34,f 36 16 1,f 37 5 36,l 38 1 3 true 37,f 39 16 1,
 f 40 8 39,l 41 1 6 true 40,c 42 159 [.t 30,.t 33,.t 35,.t 38,.t 41],m 28 42,e 43 0 28,e 44 1 28,f 45 3 2,s 2 1 45 43,
 m 3 44]) (.q [⟨some 47,.pur (.bin .eql),[.t 5,.k (.s ⟨#[115,112,97,107,101]⟩)],none⟩,m 46 47]<|.cond (.t 46) (.ops [f 49 16 1,f 50 1 49,l 51 1 3 true 50,f 52 10 1,
 l 53 1 3 true 52,f 54 0 1,f 55 3 54,l 56 1 3 true 55,f 57 13 1,l 58 1 3 true 57,c 59 155 [.t 51,.t 53,.t 56,.t 58],m 48 59,
 e 60 0 48,e 61 1 48,f 62 0 2,s 2 3 62 60,m 3 61]) (.ops [f 6 16 1,f 7 1 6,l 8 1 3 true 7,f 9 7 1,
 l 10 1 3 true 9,f 11 16 1,f 12 1 11,l 13 1 3 true 12,f 14 10 1,l 15 1 3 true 14,f 16 13 1,l 17 1 3 true 16,
 f 18 31 1,l 19 1 1 false 18,c 20 149 [.t 10,.t 13,.t 15,.t 17,.t 19],f 21 0 2,s 2 3 21 8,m 3 20]))))<|.q [l 63 2 4 true 2,m 64 3,
 s 2 4 2 63,m 3 64]<|.ret
def zdq:za:=⟨65,zii,[.cell 2 4 true,.tmp 3]⟩
def zqB:ACode:=.q [i 4 0]<|.q [m 5 0,m 6 1,⟨some 7,.call 440,[.t 5,.t 6,.k (.fn 441 [] [])],none⟩,m 4 7]<|.ret
def zij:za:=⟨8,zqB,[.tmp 4]⟩
def zlm:ACode:=.q [i 6 0,i 7 0]<|.q [m 9 0,m 10 1,c 11 439 [.t 9,.t 10],m 8 11]<|.seq (.block 0 (.q [m 13 8,o 14 (.nilP false) 13,
 m 12 14]<|.cond (.t 12) (.q [i 6 0,i 7 3]<|.ret) (.q [m 16 0,m 17 1,c 18 378 [.t 16,.t 17],m 15 18]<|.cond (.t 15) (.q [
 i 6 0,i 7 7]<|.ret) (.skip))))<|.q [m 20 8,m 21 8,o 22 .nilchk 21,f 23 8 22,h 24 6 true 23,m 25 2,c 26 442 [.t 24,.t 25],
 m 19 26,e 27 0 19,e 28 1 19,e 29 2 19,o 30 .nilchk 20,f 31 8 30,⟨none,.st none 6,[.t 31,.t 27],none⟩,m 6 28,m 7 29]<|.q [
 m 32 6,m 33 7,m 6 32,m 7 33]<|.ret
def zfa:za:=⟨34,zlm,[.tmp 6,.tmp 7]⟩
def zqC:ACode:=.q [i 4 0]<|.q [m 5 0,m 6 1,⟨some 7,.call 440,[.t 5,.t 6,.k (.fn 443 [] [])],none⟩,m 4 7]<|.ret
def zik:za:=⟨8,zqC,[.tmp 4]⟩
def zqD:ACode:=.q [⟨some 2,.alloc .reg Z,[],none⟩]<|.q [⟨some 3,.pur (.buildSl 3 0 Z []),[],none⟩,m 4 0,⟨some 5,.append 3 48,[.t 3,.t 4],none⟩,⟨some 6,.pur (.build Z [(0,1),(2,1)]),[.k (.i 3),.t 5],none⟩,
 s 2 3 2 6]<|.ret
def zil:za:=⟨7,zqD,[.cell 2 3 true]⟩
def zim:ACode:=.q [k 4 (.b false)]<|.q [m 5 0,o 6 .lenS 5,m 7 1,o 8 .lenS 7,p 9 (.bin .geq) [.t 6,.t 8],m 10 9,w 11 .mov [.t 0] 10 true,
 w 12 .mov [.t 1] 10 true,w 13 .lenS [.t 12] 10 true,w 14 (.sliceS false true) [.t 11,.t 13] 10 true,w 15 .mov [.t 1] 10 true,w 16 (.bin .eql) [.t 14,.t 15] 10 true,p 17 .pick [.t 10,.t 16,.k (.b false)],m 4 17]<|.ret
def zdr:za:=⟨18,zim,[.tmp 4]⟩
def zio:ACode:=.q [p 9 (.bin .lss) [.t 8,.t 7]]<|.seq (.cond (.t 9) (.skip) (.exit 0))<|.seq (.block 1 (.q [p 10 (.iaddr 1) [.t 6,.t 8],h 11 1 false 10,m 5 11]<|.q [f 12 4 1,l 13 1 1 false 12,
 m 14 5,c 15 461 [.t 13,.t 14]]<|.cond (.t 15) (.ops [m 16 3,p 17 (.bin .add) [.t 16,.k (.i 1)],m 3 17]) (.skip)))<|.ops [p 18 (.bin .add) [.t 8,.k (.i 1)],m 8 18]
def zqE:ACode:=.q [x 1 0,k 2 (.b false)]<|.q [i 3 0]<|.seq (.q [c 6 460 [],o 7 .lenL 6,i 8 0]<|.block 0 (.loop [5,9,10,11,12,13,14,15,16,17,18] [] zio))<|.q [
 f 19 0 1,l 20 1 1 false 19,⟨some 21,.pur (.bin .neq),[.t 20,.k E],none⟩,m 22 21,w 23 .mov [.t 3] 22 true,w 24 (.bin .gtr) [.t 23,.k (.i 0)] 22 true,p 25 .pick [.t 22,.t 24,.k (.b false)],m 26 25,
 w 27 .mov [.t 3] 26 true,w 28 (.faddr 4) [.t 1] 26 true,u 29 (.ld (some 1) 1 false) [.t 28] 26 true,w 30 .lenL [.t 29] 26 true,w 31 (.bin .eql) [.t 27,.t 30] 26 true,p 32 .pick [.t 26,.t 31,.k (.b false)],m 33 32,
 w 34 (.faddr 14) [.t 1] 33 true,u 35 (.ld (some 1) 1 false) [.t 34] 33 true,w 36 (.bin .geq) [.t 35,.k (.i 0)] 33 true,p 37 .pick [.t 33,.t 36,.k (.b false)],m 38 37,w 39 (.faddr 14) [.t 1] 38 true,u 40 (.ld (some 1) 1 false) [.t 39] 38 true,
 w 41 (.bin .leq) [.t 40,.k (.i 1099511627776)] 38 true,p 42 .pick [.t 38,.t 41,.k (.b false)],m 43 42,w 44 (.faddr 8) [.t 1] 43 true,u 45 (.ld (some 1) 6 true) [.t 44] 43 true,u 46 (.call 273) [.t 45] 43 true,p 47 .pick [.t 43,.t 46,.k (.b false)],
 m 2 47]<|.ret
def zin:za:=⟨48,zqE,[.tmp 2]⟩
def zir:ACode:=.q [p 9 (.bin .lss) [.t 8,.t 7]]<|.seq (.cond (.t 9) (.skip) (.exit 0))<|.seq (.block 1 (.q [m 10 8,m 5 10]<|.q [m 11 1,m 12 0,m 13 5,
 p 14 (.iaddr 3) [.t 12,.t 13],h 15 3 true 14,⟨some 16,.callv,[.t 11,.t 15],none⟩]<|.cond (.t 16) (.q [m 17 5,m 4 17]<|.ret) (.skip)))<|.ops [p 18 (.bin .add) [.t 8,.k (.i 1)],m 8 18]
def zqF:ACode:=.q [i 4 0]<|.seq (.q [m 6 0,o 7 .lenL 6,i 8 0]<|.block 0 (.loop [4,5,9,10,11,12,13,14,15,16,17,18] [] zir))<|.q [k 4 (.i (-1))]<|.ret
def ziq:za:=⟨19,zqF,[.tmp 4]⟩
def zln:ACode:=.seq (.q [m 50 4,m 51 3,p 52 (.bin .lss) [.t 50,.t 51]]<|.cond (.t 52) (.skip) (.exit 2))<|.seq (.block 3 (.q [f 55 4 1,l 56 1 1 false 55,m 57 4,
 p 58 (.iaddr 1) [.t 56,.t 57],h 59 1 false 58,f 60 4 1,l 61 1 1 false 60,m 62 3,p 63 (.iaddr 1) [.t 61,.t 62],h 64 1 false 63,p 65 (.bin .eql) [.t 59,.t 64]]<|.cond (.t 65) (.q [
 k 2 (.b false)]<|.ret) (.skip)))<|.ops [m 53 4,p 54 (.bin .add) [.t 53,.k (.i 1)],m 4 54]
def zlo:ACode:=.seq (.q [m 36 3,f 37 4 1,l 38 1 1 false 37,o 39 .lenL 38,p 40 (.bin .lss) [.t 36,.t 39]]<|.cond (.t 40) (.skip) (.exit 0))<|.seq (.block 1 (.seq (.q [f 43 4 1,
 l 44 1 1 false 43,m 45 3,p 46 (.iaddr 1) [.t 44,.t 45],h 47 1 false 46,c 48 464 [.t 47],o 49 (.un .not) 48]<|.cond (.t 49) (.q [k 2 (.b false)]<|.ret) (.skip))<|.q [
 i 4 0]<|.block 2 (.loop [2,50,51,52,53,54,55,56,57,58,59,60,61,62,63,64,65] [] zln)))<|.ops [m 41 3,p 42 (.bin .add) [.t 41,.k (.i 1)],m 3 42]
def zqG:ACode:=.q [x 1 0,k 2 (.b false)]<|.seq (.q [f 5 0 1,l 6 1 1 false 5,⟨some 7,.pur (.bin .eql),[.t 6,.k E],none⟩,m 8 7,w 9 (.faddr 4) [.t 1] 8 false,
 u 10 (.ld (some 1) 1 false) [.t 9] 8 false,w 11 .lenL [.t 10] 8 false,w 12 (.bin .lss) [.t 11,.k (.i 1)] 8 false,p 13 .pick [.t 8,.k (.b true),.t 12],m 14 13,w 15 (.faddr 4) [.t 1] 14 false,u 16 (.ld (some 1) 1 false) [.t 15] 14 false,
 w 17 .lenL [.t 16] 14 false,w 18 (.bin .gtr) [.t 17,.k (.i 3)] 14 false,p 19 .pick [.t 14,.k (.b true),.t 18],m 20 19,w 21 (.faddr 14) [.t 1] 20 false,u 22 (.ld (some 1) 1 false) [.t 21] 20 false,w 23 (.bin .lss) [.t 22,.k (.i 0)] 20 false,
 p 24 .pick [.t 20,.k (.b true),.t 23],m 25 24,w 26 (.faddr 14) [.t 1] 25 false,u 27 (.ld (some 1) 1 false) [.t 26] 25 false,w 28 (.bin .gtr) [.t 27,.k (.i 1099511627776)] 25 false,p 29 .pick [.t 25,.k (.b true),.t 28],m 30 29,
 w 31 (.faddr 8) [.t 1] 30 false,u 32 (.ld (some 1) 6 true) [.t 31] 30 false,u 33 (.call 421) [.t 32] 30 false,w 34 (.un .not) [.t 33] 30 false,p 35 .pick [.t 30,.k (.b true),.t 34]]<|.cond (.t 35) (.q [k 2 (.b false)]<|.ret) (.skip))<|.seq (.q [
 i 3 0]<|.block 0 (.loop [2,4,36,37,38,39,40,41,42,43,44,45,46,47,48,49,50,51,52,53,54,55,56,57,58,59,60,61,62,63,64,65] [] zlo))<|.q [k 2 (.b true)]<|.ret
def zis:za:=⟨66,zqG,[.tmp 2]⟩
def zit:ACode:=.q [x 5 0,x 7 2,k 10 N,i 11 0]<|.q [l 17 5 3 true 5,m 18 1,l 19 7 3 true 7,c 20 268 [.t 17,.t 18,.t 19],
 m 16 20,e 21 0 16,e 22 1 16,⟨some 12,.alloc .reg Z,[],none⟩,s 12 3 12 21,m 13 22]<|.seq (.q [m 23 13,p 24 (.bin .neq) [.t 23,.k (.i 0)]]<|
 .cond (.t 24) (.q [m 25 13,k 10 N,m 11 25]<|.ret) (.skip))<|.q [m 27 3,m 28 4,l 29 12 3 true 12,c 30 79 [.t 27,.t 28,.t 29],m 26 30,
 e 31 0 26,e 32 1 26,m 14 31,m 15 32]<|.seq (.q [m 33 15,o 34 (.un .not) 33]<|.cond (.t 34) (.q [k 10 N,i 11 2]<|
 .ret) (.skip))<|.q [m 35 14,m 10 35,i 11 0]<|.ret
def zds:za:=⟨36,zit,[.tmp 10,.tmp 11]⟩
def zlp:ACode:=.q [x 1 0,i 2 0,i 3 0]<|.seq (.q [l 4 1 6 true 1,c 5 421 [.t 4],o 6 (.un .not) 5]<|.cond (.t 6) (.q [i 2 0,
 k 3 (.i (-1))]<|.ret) (.skip))<|.q [f 7 0 1,l 8 1 1 false 7,f 9 0 1,l 10 1 1 false 9,f 11 1 1,l 12 1 1 false 11,p 13 (.bin .add) [.t 10,.t 12],
 f 14 2 1,l 15 1 1 false 14,p 16 (.bin .add) [.t 13,.t 15],f 17 3 1,l 18 1 1 false 17,p 19 .max [.t 16,.t 18],m 2 8,m 3 19]<|.ret
def zfb:za:=⟨20,zlp,[.tmp 2,.tmp 3]⟩
def kW:ACode:=.q [i 2 0]<|.seq (.q [m 3 0]<|.block 0 (.seq (.q [p 5 (.bin .eql) [.t 3,.k (.i 1)],m 4 5]<|.cond (.t 4) (.skip) (.ops [p 6 (.bin .eql) [.t 3,.k (.i 2)],m 4 6]))<|
 .cond (.t 4) (.q [i 2 0]<|.ret) (.q [p 8 (.bin .eql) [.t 3,.k (.i 3)],m 7 8]<|.cond (.t 7) (.q [k 2 (.i (-1))]<|.ret) (.seq (.q [p 10 (.bin .eql) [.t 3,.k (.i 4)],m 9 10]<|
 .cond (.t 9) (.skip) (.q [p 11 (.bin .eql) [.t 3,.k (.i 5)],m 9 11]<|.cond (.t 9) (.skip) (.q [p 12 (.bin .eql) [.t 3,.k (.i 9)],m 9 12]<|.cond (.t 9) (.skip) (.ops [p 13 (.bin .eql) [.t 3,.k (.i 10)],m 9 13]))))<|
 .cond (.t 9) (.q [i 2 2]<|.ret) (.seq (.q [p 15 (.bin .eql) [.t 3,.k (.i 6)],m 14 15]<|.cond (.t 14) (.skip) (.q [p 16 (.bin .eql) [.t 3,.k (.i 7)],m 14 16]<|.cond (.t 14) (.skip) (.ops [
 p 17 (.bin .eql) [.t 3,.k (.i 8)],m 14 17])))<|.cond (.t 14) (.q [i 2 1]<|.ret) (.skip))))))<|.q [k 2 (.i (-2))]<|.ret
def vZ:za:=⟨18,kW,[.tmp 2]⟩
def zlq:ACode:=.q [⟨some 2,.pur .mov,[.k E],none⟩]<|.seq (.q [m 3 0,p 4 (.bin .lss) [.t 3,.k (.i 10)]]<|.cond (.t 4) (.q [m 5 0,p 6 (.bin .add) [.k (.i 48),.t 5],o 7 (.toInt .u8) 6,
 ⟨some 8,.pur (.buildSl 1 1 [.sc (.int .u8 (0))] [0]),[.t 7],none⟩,o 9 .bytesStr 8,m 2 9]<|.ret) (.skip))<|.q [m 10 0,p 11 (.bin .quo) [.t 10,.k (.i 10)],c 12 420 [.t 11],m 13 0,
 p 14 (.bin .rem) [.t 13,.k (.i 10)],p 15 (.bin .add) [.k (.i 48),.t 14],o 16 (.toInt .u8) 15,⟨some 17,.pur (.buildSl 1 1 [.sc (.int .u8 (0))] [0]),[.t 16],none⟩,o 18 .bytesStr 17,p 19 (.bin .add) [.t 12,.t 18],m 2 19]<|.ret
def zfc:za:=⟨20,zlq,[.tmp 2]⟩
def kX:ACode:=.q [x 1 0,k 2 (.b false)]<|.q [f 3 0 1,l 4 1 1 false 3,p 5 (.bin .geq) [.t 4,.k (.i 0)],m 6 5,w 7 (.faddr 0) [.t 1] 6 true,
 u 8 (.ld (some 1) 1 false) [.t 7] 6 true,w 9 (.bin .leq) [.t 8,.k (.i 1099511627776)] 6 true,p 10 .pick [.t 6,.t 9,.k (.b false)],m 11 10,w 12 (.faddr 1) [.t 1] 11 true,u 13 (.ld (some 1) 1 false) [.t 12] 11 true,
 w 14 (.bin .geq) [.t 13,.k (.i 0)] 11 true,p 15 .pick [.t 11,.t 14,.k (.b false)],m 16 15,w 17 (.faddr 1) [.t 1] 16 true,u 18 (.ld (some 1) 1 false) [.t 17] 16 true,w 19 (.bin .leq) [.t 18,.k (.i 20)] 16 true,
 p 20 .pick [.t 16,.t 19,.k (.b false)],m 21 20,w 22 (.faddr 2) [.t 1] 21 true,u 23 (.ld (some 1) 1 false) [.t 22] 21 true,w 24 (.bin .geq) [.t 23,.k (.i 0)] 21 true,p 25 .pick [.t 21,.t 24,.k (.b false)],m 26 25,
 w 27 (.faddr 2) [.t 1] 26 true,u 28 (.ld (some 1) 1 false) [.t 27] 26 true,w 29 (.bin .leq) [.t 28,.k (.i 50)] 26 true,p 30 .pick [.t 26,.t 29,.k (.b false)],m 31 30,w 32 (.faddr 3) [.t 1] 31 true,u 33 (.ld (some 1) 1 false) [.t 32] 31 true,
 w 34 (.bin .geq) [.t 33,.k (.i 0)] 31 true,p 35 .pick [.t 31,.t 34,.k (.b false)],m 36 35,w 37 (.faddr 3) [.t 1] 36 true,u 38 (.ld (some 1) 1 false) [.t 37] 36 true,w 39 (.bin .leq) [.t 38,.k (.i 1099511627976)] 36 true,
 p 40 .pick [.t 36,.t 39,.k (.b false)],m 41 40,w 42 (.faddr 4) [.t 1] 41 true,u 43 (.ld (some 1) 1 false) [.t 42] 41 true,w 44 (.bin .geq) [.t 43,.k (.i 0)] 41 true,p 45 .pick [.t 41,.t 44,.k (.b false)],m 46 45,
 w 47 (.faddr 5) [.t 1] 46 true,u 48 (.ld (some 1) 1 false) [.t 47] 46 true,w 49 (.bin .geq) [.t 48,.k (.i 1)] 46 true,p 50 .pick [.t 46,.t 49,.k (.b false)],m 51 50,w 52 (.faddr 5) [.t 1] 51 true,u 53 (.ld (some 1) 1 false) [.t 52] 51 true,
 w 54 (.bin .leq) [.t 53,.k (.i 100)] 51 true,p 55 .pick [.t 51,.t 54,.k (.b false)],m 2 55]<|.ret
def v6:za:=⟨56,kX,[.tmp 2]⟩
def zbq:ACode:=.seq (.q [m 9 8,m 10 0,o 11 .lenL 10,p 12 (.bin .lss) [.t 9,.t 11]]<|.cond (.t 12) (.skip) (.exit 0))<|.seq (.block 1 (.q [m 15 0,m 16 8,p 17 (.iaddr 1) [.t 15,.t 16],
 h 18 1 false 17,m 19 1,p 20 (.bin .geq) [.t 18,.t 19],m 21 20,w 22 .mov [.t 0] 21 true,w 23 .mov [.t 8] 21 true,w 24 (.iaddr 1) [.t 22,.t 23] 21 true,u 25 (.ld none 1 false) [.t 24] 21 true,
 w 26 .mov [.t 2] 21 true,w 27 (.bin .leq) [.t 25,.t 26] 21 true,p 28 .pick [.t 21,.t 27,.k (.b false)],m 29 28,w 30 .mov [.t 0] 29 true,w 31 .mov [.t 8] 29 true,w 32 (.iaddr 1) [.t 30,.t 31] 29 true,
 u 33 (.ld none 1 false) [.t 32] 29 true,w 34 (.bin .lss) [.t 33,.k (.i 1099511627776)] 29 true,p 35 .pick [.t 29,.t 34,.k (.b false)],m 36 35,w 37 .mov [.t 7] 36 true,w 38 (.bin .lss) [.t 37,.k (.i 0)] 36 true,w 39 .mov [.t 38] 36 true,
 w 40 .mov [.t 0] 39 false,w 41 .mov [.t 8] 39 false,w 42 (.iaddr 1) [.t 40,.t 41] 39 false,u 43 (.ld none 1 false) [.t 42] 39 false,w 44 .mov [.t 7] 39 false,w 45 (.bin .lss) [.t 43,.t 44] 39 false,w 46 .pick [.t 39,.k (.b true),.t 45] 36 true,
 p 47 .pick [.t 36,.t 46,.k (.b false)]]<|.cond (.t 47) (.ops [m 48 0,m 49 8,p 50 (.iaddr 1) [.t 48,.t 49],h 51 1 false 50,m 7 51]) (.skip)))<|.ops [m 13 8,
 p 14 (.bin .add) [.t 13,.k (.i 1)],m 8 14]
def zqH:ACode:=.q [i 6 0]<|.q [k 7 (.i (-1))]<|.seq (.q [i 8 0]<|
 .block 0 (.loop [9,10,11,12,13,14,15,16,17,18,19,20,21,22,23,24,25,26,27,28,29,30,31,32,33,34,35,36,37,38,39,40,41,42,43,44,45,46,47,48,49,50,51] [] zbq))<|.q [m 52 7,m 6 52]<|.ret
def ziu:za:=⟨53,zqH,[.tmp 6]⟩
def zqI:ACode:=.q [x 1 0,⟨some 2,.alloc .reg Z,[],none⟩]<|.q [l 3 1 3 true 1,⟨some 4,.call 259,[.t 3,.k (.s ⟨#[119,111,114,100]⟩)],none⟩,s 2 3 2 4]<|.ret
def ziw:za:=⟨5,zqI,[.cell 2 3 true]⟩
def zqJ:ACode:=.q [x 6 0,x 7 1,x 8 2,x 9 3,x 10 4,⟨some 12,.alloc .reg Z,[],none⟩]<|.q [l 13 6 3 true 6,l 14 7 3 true 7,
 l 15 8 3 true 8,l 16 9 3 true 9,l 17 10 3 true 10,⟨some 18,.pur (.buildSl 3 5 Z [0,1,2,3,4]),[.t 13,.t 14,.t 15,.t 16,.t 17],none⟩,c 19 385 [.t 18],c 20 265 [.t 19],m 21 5,
 c 22 336 [.t 20,.t 21],s 12 3 12 22]<|.ret
def zix:za:=⟨23,zqJ,[.cell 12 3 true]⟩
def zdt:ACode:=.q [o 3 .ibox 1,k 4 (.sc (.pointer none))]<|.seq (.q [m 6 0,o 7 .nilchk 6,f 8 0 7,h 9 1 false 8,o 10 (.mkfn 471 0) 3,c 11 470 [.t 9,.t 10],
 m 5 11]<|.q [m 12 5,p 13 (.bin .geq) [.t 12,.k (.i 0)]]<|.cond (.t 13) (.q [m 14 0,o 15 .nilchk 14,f 16 0 15,h 17 1 false 16,m 18 5,
 p 19 (.iaddr 15) [.t 17,.t 18],m 4 19]<|.ret) (.skip))<|.q [k 4 (.sc (.pointer none))]<|.ret
def zbr:za:=⟨20,zdt,[.tmp 4]⟩
def zqK:ACode:=.q [i 6 0]<|.q [m 8 0,m 9 1,c 10 439 [.t 8,.t 9],m 7 10]<|.seq (.q [m 11 7,o 12 (.nilP false) 11]<|.cond (.t 12) (.q [
 i 6 3]<|.ret) (.skip))<|.q [m 13 7,m 14 2,m 15 7,o 16 .nilchk 15,f 17 14 16,h 18 1 false 17,⟨some 19,.callv,[.t 14,.t 18],none⟩,o 20 .nilchk 13,
 f 21 14 20,⟨none,.st none 1,[.t 21,.t 19],none⟩]<|.q [i 6 0]<|.ret
def ziy:za:=⟨22,zqK,[.tmp 6]⟩
def zqL:ACode:=.q [i 2 0]<|.q [m 3 0,p 4 (.bin .add) [.t 3,.k (.i 1)],m 2 4]<|.ret
def ziz:za:=⟨5,zqL,[.tmp 2]⟩
def zaH:ACode:=.q [x 2 0,⟨some 4,.alloc .reg [.i 0,.i 0,.i 0,.i 0,.i 0,.i 0],[],none⟩,i 5 0,i 6 0]<|.seq (.block 0 (.q [l 11 2 6 true 2,c 12 273 [.t 11],o 13 (.un .not) 12,
 m 10 13]<|.cond (.t 10) (.q [l 14 2 6 true 2,s 4 6 4 14,i 5 0,i 6 1]<|.ret) (.q [f 16 4 2,l 17 2 1 false 16,f 18 5 2,
 l 19 2 1 false 18,p 20 (.bin .geq) [.t 17,.t 19],m 15 20]<|.cond (.t 15) (.q [l 21 2 6 true 2,s 4 6 4 21,i 5 0,i 6 7]<|.ret) (.skip))))<|.q [
 f 22 0 2,l 23 2 1 false 22,f 24 1 2,l 25 2 1 false 24,p 26 (.bin .add) [.t 23,.t 25],m 7 26]<|.q [m 28 1,f 29 0 2,
 l 30 2 1 false 29,m 31 7,c 32 472 [.t 28,.t 30,.t 31],m 27 32,e 33 0 27,e 34 1 27,m 8 33,m 9 34]<|.seq (.q [m 35 9,
 o 36 (.un .not) 35,m 37 36,w 38 (.faddr 3) [.t 2] 37 true,u 39 (.ld (some 2) 1 false) [.t 38] 37 true,w 40 .mov [.t 7] 37 true,w 41 (.bin .gtr) [.t 39,.t 40] 37 true,p 42 .pick [.t 37,.t 41,.k (.b false)]]<|.cond (.t 42) (.ops [
 m 44 1,f 45 3 2,l 46 2 1 false 45,f 47 3 2,l 48 2 1 false 47,c 49 472 [.t 44,.t 46,.t 48],m 43 49,e 50 0 43,e 51 1 43,
 m 8 50,m 9 51]) (.skip))<|.seq (.q [m 52 9]<|.cond (.t 52) (.q [m 53 8,p 54 (.bin .add) [.t 53,.k (.i 1)],f 55 0 2,s 2 1 55 54,f 56 3 2,
 ⟨none,.st (some 2) 1,[.t 56,.k (.i 0)],none⟩,f 57 4 2,⟨none,.st (some 2) 1,[.t 57,.k (.i 0)],none⟩]<|.q [l 58 2 6 true 2,m 59 8,s 4 6 4 58,m 5 59,i 6 0]<|.ret) (.skip))<|
 .q [f 60 4 2,l 61 2 1 false 60,p 62 (.bin .add) [.t 61,.k (.i 1)],f 63 4 2,s 2 1 63 62]<|.seq (.q [m 65 1,m 66 7,p 67 (.bin .add) [.t 66,.k (.i 1)],
 m 68 7,f 69 2 2,l 70 2 1 false 69,p 71 (.bin .add) [.t 68,.t 70],c 72 472 [.t 65,.t 67,.t 71],m 64 72,e 73 0 64,e 74 1 64,m 8 73,
 m 9 74]<|.q [m 75 9]<|.cond (.t 75) (.q [m 76 8,p 77 (.bin .add) [.t 76,.k (.i 1)],f 78 3 2,s 2 1 78 77]<|.q [l 79 2 6 true 2,
 s 4 6 4 79,i 5 0,i 6 8]<|.ret) (.skip))<|.q [f 80 3 2,⟨none,.st (some 2) 1,[.t 80,.k (.i 0)],none⟩]<|.q [l 81 2 6 true 2,s 4 6 4 81,
 i 5 0,i 6 6]<|.ret
def wE:za:=⟨82,zaH,[.cell 4 6 true,.tmp 5,.tmp 6]⟩
def zqM:ACode:=.q [i 2 0]<|.q [i 2 0]<|.ret
def ziA:za:=⟨3,zqM,[.tmp 2]⟩
def zqN:ACode:=.q [k 0 N]<|.q [⟨some 1,.pur (.buildSl 1 3 [E] [0,1,2]),[.k (.s ⟨#[99,104,97,108,108,101,110,103,101]⟩),.k (.s ⟨#[111,116,112]⟩),.k (.s ⟨#[115,112,97,107,101]⟩)],none⟩,m 0 1]<|.ret
def ziB:za:=⟨2,zqN,[.tmp 0]⟩
def zqO:ACode:=.q [k 4 (.b false)]<|.q [m 5 0,m 6 1,c 7 482 [.t 5,.t 6],p 8 (.bin .geq) [.t 7,.k (.i 0)],m 4 8]<|.ret
def ziC:za:=⟨9,zqO,[.tmp 4]⟩
def zqP:ACode:=.q [k 2 (.b false)]<|.q [m 3 0,⟨some 4,.pur (.bin .eql),[.t 3,.k (.s ⟨#[99,104,97,108,108,101,110,103,101]⟩)],none⟩,m 5 4,w 6 .mov [.t 0] 5 false,⟨some 7,.pur (.bin .eql),[.t 6,.k (.s ⟨#[111,116,112]⟩)],some (5,false)⟩,
 p 8 .pick [.t 5,.k (.b true),.t 7],m 9 8,w 10 .mov [.t 0] 9 false,⟨some 11,.pur (.bin .eql),[.t 10,.k (.s ⟨#[115,112,97,107,101]⟩)],some (9,false)⟩,p 12 .pick [.t 9,.k (.b true),.t 11],m 2 12]<|.ret
def ziD:za:=⟨13,zqP,[.tmp 2]⟩
def zcl:ACode:=.q [p 9 (.bin .lss) [.t 8,.t 7]]<|.seq (.cond (.t 9) (.skip) (.exit 0))<|.seq (.block 1 (.q [m 10 8,m 5 10]<|.q [m 11 1,m 12 0,m 13 5,
 p 14 (.iaddr 15) [.t 12,.t 13],h 15 15 true 14,⟨some 16,.callv,[.t 11,.t 15],none⟩]<|.cond (.t 16) (.q [m 17 5,m 4 17]<|.ret) (.skip)))<|.ops [p 18 (.bin .add) [.t 8,.k (.i 1)],m 8 18]
def zfd:ACode:=.q [i 4 0]<|.seq (.q [m 6 0,o 7 .lenL 6,i 8 0]<|.block 0 (.loop [4,5,9,10,11,12,13,14,15,16,17,18] [] zcl))<|.q [k 4 (.i (-1))]<|.ret
def zck:za:=⟨19,zfd,[.tmp 4]⟩
def zqQ:ACode:=.q [x 2 0,k 3 (.b false)]<|.q [f 4 0 2,l 5 2 1 false 4,h 6 1 false 1,p 7 (.bin .eql) [.t 5,.t 6],m 3 7]<|.ret
def ziE:za:=⟨8,zqQ,[.tmp 3]⟩
def zlr:ACode:=.q [o 4 .ibox 1,o 5 .ibox 2,i 6 0,k 7 (.b false)]<|.q [m 9 0,c 10 486 [.t 9],p 11 (.mkfn 487 0) [.t 4,.t 5],c 12 275 [.t 10,.t 11],
 m 8 12]<|.seq (.q [m 13 8,o 14 .lenL 13,p 15 (.bin .eql) [.t 14,.k (.i 0)]]<|.cond (.t 15) (.q [i 6 0,k 7 (.b false)]<|.ret) (.skip))<|.q [m 16 8,
 c 17 488 [.t 16],m 6 17,k 7 (.b true)]<|.ret
def zfe:za:=⟨18,zlr,[.tmp 6,.tmp 7]⟩
def ziG:ACode:=.q [p 9 (.bin .lss) [.t 8,.t 7]]<|.seq (.cond (.t 9) (.skip) (.exit 0))<|.seq (.block 1 (.q [m 10 8,m 5 10]<|.q [m 11 1,m 12 0,m 13 5,
 p 14 (.iaddr 1) [.t 12,.t 13],h 15 1 false 14,p 16 (.bin .eql) [.t 11,.t 15]]<|.cond (.t 16) (.q [m 17 5,m 4 17]<|.ret) (.skip)))<|.ops [p 18 (.bin .add) [.t 8,.k (.i 1)],m 8 18]
def zqR:ACode:=.q [i 4 0]<|.seq (.q [m 6 0,o 7 .lenL 6,i 8 0]<|.block 0 (.loop [4,5,9,10,11,12,13,14,15,16,17,18] [] ziG))<|.q [k 4 (.i (-1))]<|.ret
def ziF:za:=⟨19,zqR,[.tmp 4]⟩
def zqS:ACode:=.q [k 4 (.b false)]<|.q [m 5 0,h 6 1 false 1,h 7 1 false 2,p 8 .min [.t 7,.k (.i 1099511627775)],c 9 365 [.t 5,.t 6,.t 8],o 10 (.un .not) 9,
 m 4 10]<|.ret
def ziH:za:=⟨11,zqS,[.tmp 4]⟩
def zls:ACode:=.seq (.q [m 12 4,m 13 0,o 14 .lenL 13,p 15 (.bin .lss) [.t 12,.t 14]]<|.cond (.t 15) (.skip) (.exit 0))<|.seq (.block 1 (.ops [m 18 3,m 19 0,m 20 4,
 p 21 (.iaddr 1) [.t 19,.t 20],h 22 1 false 21,p 23 .min [.t 18,.t 22],m 3 23]))<|.ops [m 16 4,p 17 (.bin .add) [.t 16,.k (.i 1)],m 4 17]
def zqT:ACode:=.q [i 2 0]<|.seq (.q [m 5 0,o 6 .lenL 5,p 7 (.bin .lss) [.t 6,.k (.i 1)]]<|.cond (.t 7) (.ops [⟨some 8,.bad,[],none⟩,⟨none,.bad,[],none⟩]) (.skip))<|.q [m 9 0,
 p 10 (.iaddr 1) [.t 9,.k (.i 0)],h 11 1 false 10,m 3 11]<|.seq (.q [i 4 1]<|.block 0 (.loop [12,13,14,15,16,17,18,19,20,21,22,23] [] zls))<|.q [m 24 3,m 2 24]<|.ret
def ziI:za:=⟨25,zqT,[.tmp 2]⟩
end Abs
