/- The code of functions (printed by gen/Gen.lean). -/
import Derived.Test.YthcobbfffjfboaaGreatDoorE3
set_option linter.unusedVariables false
set_option linter.unusedSimpArgs false
set_option linter.unusedSectionVars false
namespace Abs
open Go I
def f27_l0:ACode:=.seq (.q [m 34 10,m 35 1,o 36 .lenL 35,p 37 (.bin .lss) [.t 34,.t 36],m 38 37,w 39 .mov [.t 10] 38 true,w 40 (.bin .lss) [.t 39,.k (.i 30)] 38 true,
 p 41 .pick [.t 38,.t 40,.k (.b false)]]<|.cond (.t 41) (.skip) (.exit 0))<|.seq (.block 1 (.q [m 44 9,m 45 1,m 46 10,p 47 (.iaddr 7) [.t 45,.t 46],h 48 7 true 47,c 49 135 [.t 44,.t 48],
 o 50 (.un .not) 49,m 51 50,w 52 .mov [.t 6] 51 false,w 53 .mov [.t 7] 51 false,u 54 (.call 136) [.t 52,.t 53] 51 false,w 55 (.un .not) [.t 54] 51 false,p 56 .pick [.t 51,.k (.b true),.t 55]]<|.cond (.t 56) (.q [
 k 4 (.b false)]<|.ret) (.skip)))<|.ops [m 42 10,p 43 (.bin .add) [.t 42,.k (.i 1)],m 10 43]
def f27b:ACode:=.q [k 4 (.b false)]<|.q [c 11 131 [],m 5 11]<|.q [c 13 132 [],m 12 13,e 14 0 12,e 15 1 12,m 6 14,
 m 7 15]<|.q [m 16 0,c 17 134 [.t 16],c 18 133 [.t 17],m 8 18]<|.seq (.q [m 19 5,o 20 (.un .not) 19,m 21 20,w 22 .mov [.t 6] 21 false,
 w 23 (.nilP false) [.t 22] 21 false,p 24 .pick [.t 21,.k (.b true),.t 23],m 25 24,w 26 .mov [.t 8] 25 false,w 27 (.nilP false) [.t 26] 25 false,p 28 .pick [.t 25,.k (.b true),.t 27]]<|.cond (.t 28) (.q [k 4 (.b false)]<|
 .ret) (.skip))<|.q [m 29 6,m 30 7,m 31 8,⟨some 32,.pur (.build [.sc (.pointer none),.sc (.pointer none),.sc (.pointer none),.i 0,E,N,.i 0,E,N,.i 0,E,N,.i 0,.i 0] [(0,1),(1,1),(2,1)]),[.t 29,.t 30,.t 31],none⟩,
 ⟨some 33,.box .heap,[.t 32],none⟩,m 9 33]<|.seq (.q [i 10 0]<|.block 0 (.loop [4,34,35,36,37,38,39,40,41,42,43,44,45,46,47,48,49,50,51,52,53,54,55,56] [] f27_l0))<|.q [k 4 (.b true)]<|.ret
def f27:AFunc:=⟨57,f27b,[.tmp 4]⟩
def f54b:ACode:=.q [k 2 (.sc (.pointer none))]<|.seq (.q [m 3 0,p 4 (.bin .lss) [.t 3,.k (.i 0)]]<|.cond (.t 4) (.ops [i 0 0]) (.skip))<|.q [m 5 0,⟨some 6,.pur (.build [.i 0,N] [(0,1)]),[.t 5],none⟩,
 ⟨some 7,.box .heap,[.t 6],none⟩,m 2 7]<|.ret
def f54:AFunc:=⟨8,f54b,[.tmp 2]⟩
def f55_l0:ACode:=.seq (.q [m 9 6,m 10 0,o 11 .nilchk 10,f 12 1 11,h 13 1 false 12,o 14 .lenL 13,p 15 (.bin .lss) [.t 9,.t 14]]<|.cond (.t 15) (.skip) (.exit 0))<|.seq (.block 1 (.q [
 m 18 0,o 19 .nilchk 18,f 20 1 19,h 21 1 false 20,m 22 6,p 23 (.iaddr 2) [.t 21,.t 22],f 24 1 23,h 25 1 false 24,m 26 1,
 p 27 (.bin .gtr) [.t 25,.t 26]]<|.cond (.t 27) (.ops [m 28 5,m 29 0,o 30 .nilchk 29,f 31 1 30,h 32 1 false 31,m 33 6,p 34 (.iaddr 2) [.t 32,.t 33],
 h 35 2 true 34,⟨some 36,.pur (.buildSl 2 1 [E,.i 0] [0]),[.t 35],none⟩,⟨some 37,.append 2 24,[.t 28,.t 36],none⟩,m 5 37]) (.skip)))<|.ops [m 16 6,p 17 (.bin .add) [.t 16,.k (.i 1)],m 6 17]
def f55b:ACode:=.q [i 4 0]<|.q [⟨some 8,.pur (.buildSl 2 0 [E,.i 0] []),[],none⟩,m 5 8]<|.seq (.q [i 6 0]<|
 .block 0 (.loop [9,10,11,12,13,14,15,16,17,18,19,20,21,22,23,24,25,26,27,28,29,30,31,32,33,34,35,36,37] [] f55_l0))<|.q [m 38 0,o 39 .nilchk 38,f 40 1 39,h 41 1 false 40,o 42 .lenL 41,m 43 5,
 o 44 .lenL 43,p 45 (.bin .sub) [.t 42,.t 44],m 7 45]<|.q [m 46 0,m 47 5,o 48 .nilchk 46,f 49 1 48,⟨none,.st none 1,[.t 49,.t 47],none⟩]<|.q [m 50 7,
 m 4 50]<|.ret
def f55:AFunc:=⟨51,f55b,[.tmp 4]⟩
def f56_l0:ACode:=.seq (.q [m 18 10,m 19 0,o 20 .nilchk 19,f 21 1 20,h 22 1 false 21,o 23 .lenL 22,p 24 (.bin .lss) [.t 18,.t 23]]<|.cond (.t 24) (.skip) (.exit 0))<|
 .seq (.block 1 (.seq (.q [m 27 0,o 28 .nilchk 27,f 29 1 28,h 30 1 false 29,m 31 10,p 32 (.iaddr 2) [.t 30,.t 31],f 33 0 32,h 34 1 false 33,
 m 35 1,p 36 (.bin .eql) [.t 34,.t 35]]<|.cond (.t 36) (.q [m 37 0,o 38 .nilchk 37,f 39 1 38,h 40 1 false 39,m 41 10,m 42 0,o 43 .nilchk 42,
 f 44 1 43,h 45 1 false 44,m 46 10,p 47 (.iaddr 2) [.t 45,.t 46],f 48 1 47,h 49 1 false 48,m 50 2,p 51 .max [.t 49,.t 50],p 52 (.iaddr 2) [.t 40,.t 41],
 f 53 1 52,⟨none,.st none 1,[.t 53,.t 51],none⟩]<|.q [i 8 9]<|.ret) (.skip))<|.q [m 54 0,o 55 .nilchk 54,f 56 1 55,h 57 1 false 56,m 58 10,
 p 59 (.iaddr 2) [.t 57,.t 58],f 60 0 59,h 61 1 false 60,m 62 1,p 63 (.bin .lss) [.t 61,.t 62]]<|.cond (.t 63) (.ops [m 64 10,p 65 (.bin .add) [.t 64,.k (.i 1)],m 9 65]) (.skip)))<|.ops [
 m 25 10,p 26 (.bin .add) [.t 25,.k (.i 1)],m 10 26]
def f56b:ACode:=.q [i 8 0]<|.seq (.q [m 12 2,m 13 3,p 14 (.bin .leq) [.t 12,.t 13]]<|.cond (.t 14) (.q [i 8 5]<|.ret) (.skip))<|.q [m 15 0,m 16 3,
 c 17 55 [.t 15,.t 16]]<|.q [i 9 0]<|.seq (.q [i 10 0]<|.block 0 (.loop [8,18,19,20,21,22,23,24,25,26,27,28,29,30,31,32,33,34,35,36,37,38,39,40,41,42,43,44,45,46,47,48,49,50,51,52,53,54,55,56,57,58,59,60,61,62,63,64,65] [] f56_l0))<|
 .seq (.q [m 66 0,o 67 .nilchk 66,f 68 1 67,h 69 1 false 68,o 70 .lenL 69,m 71 0,o 72 .nilchk 71,f 73 0 72,h 74 1 false 73,
 p 75 (.bin .geq) [.t 70,.t 74]]<|.cond (.t 75) (.q [i 8 10]<|.ret) (.skip))<|.q [⟨some 76,.pur (.buildSl 2 0 [E,.i 0] []),[],none⟩,m 77 0,o 78 .nilchk 77,f 79 1 78,h 80 1 false 79,
 m 81 9,p 82 (.sliceL 2 false true false) [.t 80,.t 81],⟨some 83,.append 2 24,[.t 76,.t 82],none⟩,m 84 1,m 85 2,⟨some 86,.pur (.build [E,.i 0] [(0,1),(1,1)]),[.t 84,.t 85],none⟩,⟨some 87,.pur (.buildSl 2 1 [E,.i 0] [0]),[.t 86],none⟩,
 ⟨some 88,.append 2 24,[.t 83,.t 87],none⟩,m 11 88]<|.q [m 89 0,m 90 11,m 91 0,o 92 .nilchk 91,f 93 1 92,h 94 1 false 93,m 95 9,
 p 96 (.sliceL 2 true false false) [.t 94,.t 95],⟨some 97,.append 2 24,[.t 90,.t 96],none⟩,o 98 .nilchk 89,f 99 1 98,⟨none,.st none 1,[.t 99,.t 97],none⟩]<|.q [i 8 0]<|.ret
def f56:AFunc:=⟨100,f56b,[.tmp 8]⟩
def f61_l0:ACode:=.seq (.q [m 28 5,f 29 2 2,l 30 2 1 false 29,o 31 .lenL 30,p 32 (.bin .lss) [.t 28,.t 31]]<|.cond (.t 32) (.skip) (.exit 0))<|.seq (.block 1 (.q [f 35 2 2,
 l 36 2 1 false 35,m 37 5,p 38 (.iaddr 3) [.t 36,.t 37],h 39 3 true 38,f 40 2 3,l 41 3 1 false 40,m 42 5,p 43 (.iaddr 3) [.t 41,.t 42],h 44 3 true 43,
 c 45 61 [.t 39,.t 44],m 6 45]<|.q [m 46 6,o 47 (.un .not) 46]<|.cond (.t 47) (.q [k 4 (.b false)]<|.ret) (.skip)))<|.ops [m 33 5,p 34 (.bin .add) [.t 33,.k (.i 1)],
 m 5 34]
def f61b:ACode:=.q [x 2 0,x 3 1,k 4 (.b false)]<|.seq (.q [f 7 0 2,l 8 2 1 false 7,f 9 0 3,l 10 3 1 false 9,p 11 (.bin .neq) [.t 8,.t 10],
 m 12 11,w 13 (.faddr 1) [.t 2] 12 false,u 14 (.ld (some 2) 1 false) [.t 13] 12 false,w 15 (.faddr 1) [.t 3] 12 false,u 16 (.ld (some 3) 1 false) [.t 15] 12 false,w 17 (.bin .neq) [.t 14,.t 16] 12 false,p 18 .pick [.t 12,.k (.b true),.t 17],
 m 19 18,w 20 (.faddr 2) [.t 2] 19 false,u 21 (.ld (some 2) 1 false) [.t 20] 19 false,w 22 .lenL [.t 21] 19 false,w 23 (.faddr 2) [.t 3] 19 false,u 24 (.ld (some 3) 1 false) [.t 23] 19 false,w 25 .lenL [.t 24] 19 false,
 w 26 (.bin .neq) [.t 22,.t 25] 19 false,p 27 .pick [.t 19,.k (.b true),.t 26]]<|.cond (.t 27) (.q [k 4 (.b false)]<|.ret) (.skip))<|.seq (.q [i 5 0]<|
 .block 0 (.loop [4,6,28,29,30,31,32,33,34,35,36,37,38,39,40,41,42,43,44,45,46,47] [] f61_l0))<|.q [k 4 (.b true)]<|.ret
def f61:AFunc:=⟨48,f61b,[.tmp 4]⟩
def f62b:ACode:=.q [⟨some 4,.alloc .reg Z,[],none⟩]<|.q [m 5 0,c 6 192 [.t 5],⟨some 7,.pur (.buildSl 3 1 Z [0]),[.t 6],none⟩,m 8 1,p 9 (.buildSl 1 2 [N] [0,1]) [.t 7,.t 8],
 c 10 191 [.t 9],c 11 126 [.t 10],s 4 3 4 11]<|.ret
def f62:AFunc:=⟨12,f62b,[.cell 4 3 true]⟩
def f63_l0:ACode:=.seq (.q [m 11 6,m 12 1,o 13 .lenL 12,p 14 (.bin .lss) [.t 11,.t 13]]<|.cond (.t 14) (.skip) (.exit 0))<|.seq (.block 1 (.ops [f 17 2 5,l 18 5 1 false 17,m 19 1,
 m 20 6,p 21 (.iaddr 3) [.t 19,.t 20],h 22 3 true 21,⟨some 23,.pur (.buildSl 3 1 Z [0]),[.t 22],none⟩,⟨some 24,.append 3 48,[.t 18,.t 23],none⟩,f 25 2 5,s 5 1 25 24]))<|.ops [m 15 6,
 p 16 (.bin .add) [.t 15,.k (.i 1)],m 6 16]
def f63b:ACode:=.q [⟨some 4,.alloc .reg Z,[],none⟩]<|.q [m 7 0,c 8 161 [.t 7],⟨some 9,.pur (.buildSl 3 1 Z [0]),[.t 8],none⟩,⟨some 10,.pur (.build Z [(0,1),(2,1)]),[.k (.i 3),.t 9],none⟩,
 ⟨some 5,.alloc .reg Z,[],none⟩,s 5 3 5 10]<|.seq (.q [i 6 0]<|.block 0 (.loop [11,12,13,14,15,16,17,18,19,20,21,22,23,24,25] [] f63_l0))<|.q [l 26 5 3 true 5,s 4 3 4 26]<|.ret
def f63:AFunc:=⟨27,f63b,[.cell 4 3 true]⟩
def f64b:ACode:=.q [⟨some 2,.alloc .reg Z,[],none⟩]<|.q [m 3 0,⟨some 4,.pur (.bin .add),[.k (.s ⟨#[61]⟩),.t 3],none⟩,c 5 192 [.t 4],s 2 3 2 5]<|.ret
def f64:AFunc:=⟨6,f64b,[.cell 2 3 true]⟩
def f65b:ACode:=.q [⟨some 2,.alloc .reg Z,[],none⟩]<|.q [m 3 0,⟨some 4,.pur (.bin .add),[.k (.s ⟨#[61]⟩),.t 3],none⟩,c 5 161 [.t 4],s 2 3 2 5]<|.ret
def f65:AFunc:=⟨6,f65b,[.cell 2 3 true]⟩
def f66b:ACode:=.q [⟨some 2,.alloc .reg Z,[],none⟩]<|.q [m 3 0,c 4 193 [.t 3],c 5 64 [.t 4],s 2 3 2 5]<|.ret
def f66:AFunc:=⟨6,f66b,[.cell 2 3 true]⟩
def f67b:ACode:=.q [⟨some 2,.alloc .reg Z,[],none⟩]<|.q [m 3 0,c 4 139 [.t 3],c 5 65 [.t 4],s 2 3 2 5]<|.ret
def f67:AFunc:=⟨6,f67b,[.cell 2 3 true]⟩
def f69_l0:ACode:=.seq (.q [m 6 4,m 7 0,o 8 .lenL 7,p 9 (.bin .lss) [.t 6,.t 8]]<|.cond (.t 9) (.skip) (.exit 0))<|.seq (.block 1 (.ops [f 12 2 3,l 13 3 1 false 12,m 14 0,
 m 15 4,p 16 (.iaddr 1) [.t 14,.t 15],h 17 1 false 16,c 18 65 [.t 17],⟨some 19,.pur (.buildSl 3 1 Z [0]),[.t 18],none⟩,⟨some 20,.append 3 48,[.t 13,.t 19],none⟩,f 21 2 3,s 3 1 21 20]))<|.ops [
 m 10 4,p 11 (.bin .add) [.t 10,.k (.i 1)],m 4 11]
def f69b:ACode:=.q [⟨some 2,.alloc .reg Z,[],none⟩]<|.q [⟨some 5,.pur (.build Z [(0,1)]),[.k (.i 3)],none⟩,⟨some 3,.alloc .reg Z,[],none⟩,s 3 3 3 5]<|.seq (.q [i 4 0]<|
 .block 0 (.loop [6,7,8,9,10,11,12,13,14,15,16,17,18,19,20,21] [] f69_l0))<|.q [l 22 3 3 true 3,s 2 3 2 22]<|.ret
def f69:AFunc:=⟨23,f69b,[.cell 2 3 true]⟩
def f70b:ACode:=.q [x 3 0,x 4 1,x 5 2,⟨some 6,.alloc .reg Z,[],none⟩]<|.q [l 7 3 3 true 3,l 8 4 3 true 4,l 9 5 3 true 5,
 ⟨some 10,.pur (.buildSl 3 3 Z [0,1,2]),[.t 7,.t 8,.t 9],none⟩,⟨some 11,.call 62,[.k (.s ⟨#[97,115,45,114,101,113]⟩),.t 10],none⟩,s 6 3 6 11]<|.ret
def f70:AFunc:=⟨12,f70b,[.cell 6 3 true]⟩
def f71b:ACode:=.q [x 3 0,x 4 1,x 5 2,⟨some 6,.alloc .reg Z,[],none⟩]<|.q [l 7 3 3 true 3,l 8 4 3 true 4,l 9 5 3 true 5,
 ⟨some 10,.pur (.buildSl 3 3 Z [0,1,2]),[.t 7,.t 8,.t 9],none⟩,⟨some 11,.call 63,[.k (.s ⟨#[97,115,45,114,101,113]⟩),.t 10],none⟩,s 6 3 6 11]<|.ret
def f71:AFunc:=⟨12,f71b,[.cell 6 3 true]⟩
def f73b:ACode:=.q [⟨some 2,.alloc .reg Z,[],none⟩]<|.q [m 3 0,c 4 67 [.t 3],⟨some 5,.pur (.buildSl 3 1 Z [0]),[.t 4],none⟩,⟨some 6,.call 63,[.k (.s ⟨#[101,114,114,111,114]⟩),.t 5],none⟩,s 2 3 2 6]<|.ret
def f73:AFunc:=⟨7,f73b,[.cell 2 3 true]⟩
def f74b:ACode:=.q [⟨some 0,.alloc .reg Z,[],none⟩]<|.q [⟨some 1,.call 62,[.k (.s ⟨#[110,111,110,101]⟩),.k N],none⟩,s 0 3 0 1]<|.ret
def f74:AFunc:=⟨2,f74b,[.cell 0 3 true]⟩
def f75b:ACode:=.q [⟨some 0,.alloc .reg Z,[],none⟩]<|.q [⟨some 1,.call 63,[.k (.s ⟨#[110,111,110,101]⟩),.k N],none⟩,s 0 3 0 1]<|.ret
def f75:AFunc:=⟨2,f75b,[.cell 0 3 true]⟩
def f76b:ACode:=.q [⟨some 4,.alloc .reg Z,[],none⟩]<|.q [m 5 0,c 6 64 [.t 5],m 7 1,c 8 64 [.t 7],⟨some 9,.pur (.buildSl 3 2 Z [0,1]),[.t 6,.t 8],none⟩,
 ⟨some 10,.call 62,[.k (.s ⟨#[98,111,100,121]⟩),.t 9],none⟩,s 4 3 4 10]<|.ret
def f76:AFunc:=⟨11,f76b,[.cell 4 3 true]⟩
def f77b:ACode:=.q [⟨some 4,.alloc .reg Z,[],none⟩]<|.q [m 5 0,c 6 65 [.t 5],m 7 1,c 8 65 [.t 7],⟨some 9,.pur (.buildSl 3 2 Z [0,1]),[.t 6,.t 8],none⟩,
 ⟨some 10,.call 63,[.k (.s ⟨#[98,111,100,121]⟩),.t 9],none⟩,s 4 3 4 10]<|.ret
def f77:AFunc:=⟨11,f77b,[.cell 4 3 true]⟩
def f78b:ACode:=.q [x 5 2,k 6 N,k 7 (.b false)]<|.seq (.q [m 8 0,⟨some 9,.pur (.bin .eql),[.t 8,.k E],none⟩,m 10 9,u 11 (.ld (some 5) 3 true) [.t 5] 10 false,
 u 12 (.call 81) [.t 11] 10 false,w 13 .mov [.t 0] 10 false,w 14 (.bin .neq) [.t 12,.t 13] 10 false,p 15 .pick [.t 10,.k (.b true),.t 14],m 16 15,w 17 (.faddr 2) [.t 5] 16 false,u 18 (.ld (some 5) 1 false) [.t 17] 16 false,
 w 19 .lenL [.t 18] 16 false,w 20 (.bin .sub) [.t 19,.k (.i 1)] 16 false,w 21 .mov [.t 1] 16 false,w 22 (.bin .neq) [.t 20,.t 21] 16 false,p 23 .pick [.t 16,.k (.b true),.t 22]]<|.cond (.t 23) (.q [k 6 N,
 k 7 (.b false)]<|.ret) (.skip))<|.q [f 24 2 5,l 25 5 1 false 24,o 26 .lenL 25,m 1 26]<|.q [f 27 2 5,l 28 5 1 false 27,m 29 1,
 m 30 1,p 31 (.sliceL 3 true true true) [.t 28,.k (.i 1),.t 29,.t 30],m 6 31,k 7 (.b true)]<|.ret
def f78:AFunc:=⟨32,f78b,[.tmp 6,.tmp 7]⟩
def f79b:ACode:=.q [x 5 2,k 6 N,k 7 (.b false)]<|.q [l 9 5 3 true 5,c 10 82 [.t 9],m 8 10]<|.seq (.q [m 11 0,
 ⟨some 12,.pur (.bin .eql),[.t 11,.k E],none⟩,m 13 12,w 14 .mov [.t 8] 13 false,w 15 .mov [.t 0] 13 false,w 16 (.bin .neq) [.t 14,.t 15] 13 false,p 17 .pick [.t 13,.k (.b true),.t 16],m 18 17,
 w 19 (.faddr 2) [.t 5] 18 false,u 20 (.ld (some 5) 1 false) [.t 19] 18 false,w 21 .lenL [.t 20] 18 false,w 22 .mov [.t 1] 18 false,w 23 (.bin .add) [.t 22,.k (.i 1)] 18 false,w 24 (.bin .neq) [.t 21,.t 23] 18 false,
 p 25 .pick [.t 18,.k (.b true),.t 24]]<|.cond (.t 25) (.q [k 6 N,k 7 (.b false)]<|.ret) (.skip))<|.q [f 26 2 5,l 27 5 1 false 26,p 28 (.sliceL 3 true false false) [.t 27,.k (.i 1)],
 m 6 28,k 7 (.b true)]<|.ret
def f79:AFunc:=⟨29,f79b,[.tmp 6,.tmp 7]⟩
def f81b:ACode:=.q [x 1 0,⟨some 2,.pur .mov,[.k E],none⟩]<|.seq (.q [f 5 0 1,l 6 1 1 false 5,p 7 (.bin .eql) [.t 6,.k (.i 3)],m 8 7,w 9 (.faddr 1) [.t 1] 8 true,
 u 10 (.ld (some 1) 1 false) [.t 9] 8 true,⟨some 11,.pur (.bin .eql),[.t 10,.k E],some (8,true)⟩,p 12 .pick [.t 8,.t 11,.k (.b false)],m 13 12,w 14 (.faddr 2) [.t 1] 13 true,u 15 (.ld (some 1) 1 false) [.t 14] 13 true,w 16 .lenL [.t 15] 13 true,
 w 17 (.bin .gtr) [.t 16,.k (.i 0)] 13 true,p 18 .pick [.t 13,.t 17,.k (.b false)]]<|.cond (.t 18) (.q [f 20 2 1,l 21 1 1 false 20,p 22 (.iaddr 3) [.t 21,.k (.i 0)],h 23 3 true 22,c 24 194 [.t 23],
 m 19 24,e 25 0 19,e 26 1 19,m 3 25,m 4 26]<|.q [m 27 4]<|.cond (.t 27) (.q [m 28 3,m 2 28]<|.ret) (.skip)) (.skip))<|.q [
 ⟨some 2,.pur .mov,[.k E],none⟩]<|.ret
def f81:AFunc:=⟨29,f81b,[.tmp 2]⟩
def f82b:ACode:=.q [x 1 0,⟨some 2,.pur .mov,[.k E],none⟩]<|.seq (.q [f 3 0 1,l 4 1 1 false 3,p 5 (.bin .neq) [.t 4,.k (.i 3)],m 6 5,w 7 (.faddr 1) [.t 1] 6 false,
 u 8 (.ld (some 1) 1 false) [.t 7] 6 false,⟨some 9,.pur (.bin .neq),[.t 8,.k E],some (6,false)⟩,p 10 .pick [.t 6,.k (.b true),.t 9],m 11 10,w 12 (.faddr 2) [.t 1] 11 false,u 13 (.ld (some 1) 1 false) [.t 12] 11 false,w 14 .lenL [.t 13] 11 false,
 w 15 (.bin .eql) [.t 14,.k (.i 0)] 11 false,p 16 .pick [.t 11,.k (.b true),.t 15],m 17 16,w 18 (.faddr 2) [.t 1] 17 false,u 19 (.ld (some 1) 1 false) [.t 18] 17 false,w 20 (.iaddr 3) [.t 19,.k (.i 0)] 17 false,
 w 21 (.faddr 0) [.t 20] 17 false,u 22 (.ld none 1 false) [.t 21] 17 false,w 23 (.bin .neq) [.t 22,.k (.i 1)] 17 false,p 24 .pick [.t 17,.k (.b true),.t 23],m 25 24,w 26 (.faddr 2) [.t 1] 25 false,u 27 (.ld (some 1) 1 false) [.t 26] 25 false,
 w 28 (.iaddr 3) [.t 27,.k (.i 0)] 25 false,w 29 (.faddr 2) [.t 28] 25 false,u 30 (.ld none 1 false) [.t 29] 25 false,w 31 .lenL [.t 30] 25 false,w 32 (.bin .gtr) [.t 31,.k (.i 0)] 25 false,p 33 .pick [.t 25,.k (.b true),.t 32]]<|.cond (.t 33) (.q [
 ⟨some 2,.pur .mov,[.k E],none⟩]<|.ret) (.skip))<|.q [f 34 2 1,l 35 1 1 false 34,p 36 (.iaddr 3) [.t 35,.k (.i 0)],f 37 1 36,h 38 1 false 37,m 2 38]<|.ret
def f82:AFunc:=⟨39,f82b,[.tmp 2]⟩
def f84b:ACode:=.q [x 1 0,k 2 (.b false)]<|.q [l 6 1 3 true 1,⟨some 7,.call 79,[.k (.s ⟨#[110,111,110,101]⟩),.k (.i 0),.t 6],none⟩,m 5 7,e 8 0 5,e 9 1 5,
 m 3 8,m 4 9]<|.q [m 10 4,m 2 10]<|.ret
def f84:AFunc:=⟨11,f84b,[.tmp 2]⟩
def f85b:ACode:=.q [x 1 0,⟨some 2,.pur .mov,[.k E],none⟩,k 3 (.b false)]<|.q [l 8 1 3 true 1,c 9 194 [.t 8],m 7 9,e 10 0 7,e 11 1 7,
 m 4 10,m 5 11]<|.q [m 13 4,⟨some 14,.call 195,[.t 13,.k (.s ⟨#[61]⟩)],none⟩,m 12 14,e 15 0 12,e 16 1 12,m 4 15,m 6 16]<|.seq (.q [
 m 17 5,o 18 (.un .not) 17,m 19 18,w 20 .mov [.t 6] 19 false,w 21 (.un .not) [.t 20] 19 false,p 22 .pick [.t 19,.k (.b true),.t 21]]<|.cond (.t 22) (.q [⟨some 2,.pur .mov,[.k E],none⟩,
 k 3 (.b false)]<|.ret) (.skip))<|.q [m 23 4,m 2 23,k 3 (.b true)]<|.ret
def f85:AFunc:=⟨24,f85b,[.tmp 2,.tmp 3]⟩
def f86b:ACode:=.q [x 1 0,⟨some 2,.pur .mov,[.k E],none⟩,k 3 (.b false)]<|.seq (.q [f 4 0 1,l 5 1 1 false 4,p 6 (.bin .neq) [.t 5,.k (.i 1)],m 7 6,
 w 8 (.faddr 2) [.t 1] 7 false,u 9 (.ld (some 1) 1 false) [.t 8] 7 false,w 10 .lenL [.t 9] 7 false,w 11 (.bin .gtr) [.t 10,.k (.i 0)] 7 false,p 12 .pick [.t 7,.k (.b true),.t 11],m 13 12,w 14 (.faddr 1) [.t 1] 13 false,
 u 15 (.ld (some 1) 1 false) [.t 14] 13 false,⟨some 16,.pur (.bin .eql),[.t 15,.k E],some (13,false)⟩,p 17 .pick [.t 13,.k (.b true),.t 16],m 18 17,w 19 (.faddr 1) [.t 1] 18 false,u 20 (.ld (some 1) 1 false) [.t 19] 18 false,
 w 21 .indexS [.t 20,.k (.i 0)] 18 false,w 22 (.bin .neq) [.t 21,.k (.sc (.int .u8 (61)))] 18 false,p 23 .pick [.t 18,.k (.b true),.t 22]]<|.cond (.t 23) (.q [⟨some 2,.pur .mov,[.k E],none⟩,k 3 (.b false)]<|.ret) (.skip))<|.q [
 f 24 1 1,l 25 1 1 false 24,p 26 (.sliceS true false) [.t 25,.k (.i 1)],m 2 26,k 3 (.b true)]<|.ret
def f86:AFunc:=⟨27,f86b,[.tmp 2,.tmp 3]⟩
def f87b:ACode:=.q [x 1 0,i 2 0,k 3 (.b false)]<|.q [l 9 1 3 true 1,c 10 85 [.t 9],m 8 10,e 11 0 8,e 12 1 8,
 m 4 11,m 5 12]<|.q [m 14 4,c 15 196 [.t 14],m 13 15,e 16 0 13,e 17 1 13,m 6 16,m 7 17]<|.seq (.q [
 m 18 5,o 19 (.un .not) 18,m 20 19,w 21 .mov [.t 7] 20 false,w 22 (.nilI true) [.t 21] 20 false,p 23 .pick [.t 20,.k (.b true),.t 22],m 24 23,w 25 .mov [.t 4] 24 false,
 w 26 .lenS [.t 25] 24 false,w 27 (.bin .gtr) [.t 26,.k (.i 18)] 24 false,p 28 .pick [.t 24,.k (.b true),.t 27],m 29 28,w 30 .mov [.t 6] 29 false,u 31 (.call 193) [.t 30] 29 false,w 32 .mov [.t 4] 29 false,
 w 33 (.bin .neq) [.t 31,.t 32] 29 false,p 34 .pick [.t 29,.k (.b true),.t 33]]<|.cond (.t 34) (.q [i 2 0,k 3 (.b false)]<|.ret) (.skip))<|.q [m 35 6,m 2 35,k 3 (.b true)]<|.ret
def f87:AFunc:=⟨36,f87b,[.tmp 2,.tmp 3]⟩
def f88_l0:ACode:=.seq (.q [m 24 7,m 25 4,o 26 .lenS 25,p 27 (.bin .lss) [.t 24,.t 26]]<|.cond (.t 27) (.skip) (.exit 0))<|.seq (.block 1 (.seq (.q [m 30 7,p 31 (.bin .eql) [.t 30,.k (.i 0)],
 m 32 31,w 33 .mov [.t 4] 32 true,w 34 .mov [.t 7] 32 true,w 35 .indexS [.t 33,.t 34] 32 true,w 36 (.bin .eql) [.t 35,.k (.sc (.int .u8 (45)))] 32 true,p 37 .pick [.t 32,.t 36,.k (.b false)]]<|.cond (.t 37) (.exit 1) (.skip))<|.seq (.q [
 m 38 4,m 39 7,p 40 .indexS [.t 38,.t 39],p 41 (.bin .lss) [.t 40,.k (.sc (.int .u8 (48)))],m 42 41,w 43 .mov [.t 4] 42 false,w 44 .mov [.t 7] 42 false,w 45 .indexS [.t 43,.t 44] 42 false,
 w 46 (.bin .gtr) [.t 45,.k (.sc (.int .u8 (57)))] 42 false,p 47 .pick [.t 42,.k (.b true),.t 46]]<|.cond (.t 47) (.q [i 2 0,k 3 (.b false)]<|.ret) (.skip))<|.ops [m 48 6,p 49 (.bin .mul) [.t 48,.k (.i 10)],
 m 50 4,m 51 7,p 52 .indexS [.t 50,.t 51],o 53 (.toInt .i64) 52,p 54 (.bin .add) [.t 49,.t 53],p 55 (.bin .sub) [.t 54,.k (.i 48)],m 6 55]))<|.ops [m 28 7,
 p 29 (.bin .add) [.t 28,.k (.i 1)],m 7 29]
def f88b:ACode:=.q [x 1 0,i 2 0,k 3 (.b false)]<|.q [l 9 1 3 true 1,c 10 86 [.t 9],m 8 10,e 11 0 8,e 12 1 8,
 m 4 11,m 5 12]<|.seq (.q [m 13 5,o 14 (.un .not) 13,m 15 14,w 16 .mov [.t 4] 15 false,⟨some 17,.pur (.bin .eql),[.t 16,.k E],some (15,false)⟩,p 18 .pick [.t 15,.k (.b true),.t 17],
 m 19 18,w 20 .mov [.t 4] 19 false,w 21 .lenS [.t 20] 19 false,w 22 (.bin .gtr) [.t 21,.k (.i 18)] 19 false,p 23 .pick [.t 19,.k (.b true),.t 22]]<|.cond (.t 23) (.q [i 2 0,k 3 (.b false)]<|
 .ret) (.skip))<|.q [i 6 0]<|.seq (.q [i 7 0]<|.block 0 (.loop [2,3,24,25,26,27,28,29,30,31,32,33,34,35,36,37,38,39,40,41,42,43,44,45,46,47,48,49,50,51,52,53,54,55] [] f88_l0))<|.seq (.q [m 56 4,
 p 57 .indexS [.t 56,.k (.i 0)],p 58 (.bin .eql) [.t 57,.k (.sc (.int .u8 (45)))]]<|.cond (.t 58) (.ops [m 59 6,o 60 (.un .neg) 59,m 6 60]) (.skip))<|.seq (.q [m 61 6,c 62 139 [.t 61],
 m 63 4,p 64 (.bin .neq) [.t 62,.t 63]]<|.cond (.t 64) (.q [i 2 0,k 3 (.b false)]<|.ret) (.skip))<|.q [m 65 6,m 2 65,k 3 (.b true)]<|.ret
def f88:AFunc:=⟨66,f88b,[.tmp 2,.tmp 3]⟩
def f93b:ACode:=.q [x 1 0,⟨some 2,.pur .mov,[.k E],none⟩,⟨some 3,.pur .mov,[.k E],none⟩,k 4 (.b false)]<|.q [l 12 1 3 true 1,⟨some 13,.call 79,[.k (.s ⟨#[98,111,100,121]⟩),.k (.i 2),.t 12],none⟩,m 11 13,
 e 14 0 11,e 15 1 11,m 5 14,m 6 15]<|.seq (.q [m 16 6,o 17 (.un .not) 16]<|.cond (.t 17) (.q [⟨some 2,.pur .mov,[.k E],none⟩,⟨some 3,.pur .mov,[.k E],none⟩,
 k 4 (.b false)]<|.ret) (.skip))<|.q [m 19 5,p 20 (.iaddr 3) [.t 19,.k (.i 0)],h 21 3 true 20,c 22 86 [.t 21],m 18 22,e 23 0 18,e 24 1 18,
 m 7 23,m 8 24]<|.q [m 26 5,p 27 (.iaddr 3) [.t 26,.k (.i 1)],h 28 3 true 27,c 29 86 [.t 28],m 25 29,e 30 0 25,e 31 1 25,
 m 9 30,m 10 31]<|.seq (.q [m 32 8,o 33 (.un .not) 32,m 34 33,w 35 .mov [.t 10] 34 false,w 36 (.un .not) [.t 35] 34 false,p 37 .pick [.t 34,.k (.b true),.t 36],
 m 38 37,w 39 .mov [.t 7] 38 false,⟨some 40,.pur (.bin .eql),[.t 39,.k E],some (38,false)⟩,p 41 .pick [.t 38,.k (.b true),.t 40],m 42 41,w 43 .mov [.t 9] 42 false,⟨some 44,.pur (.bin .eql),[.t 43,.k E],some (42,false)⟩,
 p 45 .pick [.t 42,.k (.b true),.t 44]]<|.cond (.t 45) (.q [⟨some 2,.pur .mov,[.k E],none⟩,⟨some 3,.pur .mov,[.k E],none⟩,k 4 (.b false)]<|.ret) (.skip))<|.q [m 46 7,m 47 9,m 2 46,
 m 3 47,k 4 (.b true)]<|.ret
def f93:AFunc:=⟨48,f93b,[.tmp 2,.tmp 3,.tmp 4]⟩
def f95b:ACode:=.q [x 1 0,⟨some 2,.alloc .reg Z,[],none⟩,⟨some 3,.alloc .reg Z,[],none⟩,⟨some 4,.alloc .reg Z,[],none⟩,k 5 (.b false)]<|.q [l 9 1 3 true 1,
 ⟨some 10,.call 79,[.k (.s ⟨#[97,115,45,114,101,113]⟩),.k (.i 3),.t 9],none⟩,m 8 10,e 11 0 8,e 12 1 8,m 6 11,m 7 12]<|.seq (.q [m 13 7,o 14 (.un .not) 13]<|
 .cond (.t 14) (.q [⟨some 15,.pur (.build Z []),[],none⟩,⟨some 16,.pur (.build Z []),[],none⟩,⟨some 17,.pur (.build Z []),[],none⟩,s 2 3 2 15,s 3 3 3 16,s 4 3 4 17,
 k 5 (.b false)]<|.ret) (.skip))<|.q [m 18 6,p 19 (.iaddr 3) [.t 18,.k (.i 0)],h 20 3 true 19,m 21 6,p 22 (.iaddr 3) [.t 21,.k (.i 1)],h 23 3 true 22,m 24 6,
 p 25 (.iaddr 3) [.t 24,.k (.i 2)],h 26 3 true 25,s 2 3 2 20,s 3 3 3 23,s 4 3 4 26,k 5 (.b true)]<|.ret
def f95:AFunc:=⟨27,f95b,[.cell 2 3 true,.cell 3 3 true,.cell 4 3 true,.tmp 5]⟩
def f96b:ACode:=.q [x 1 0,i 2 0,k 3 (.b false)]<|.q [l 8 1 3 true 1,⟨some 9,.call 78,[.k (.s ⟨#[101,114,114,111,114]⟩),.k (.i 1),.t 8],none⟩,m 7 9,e 10 0 7,
 e 11 1 7,m 4 10,m 5 11]<|.seq (.q [m 12 5,o 13 (.un .not) 12]<|.cond (.t 13) (.q [i 2 0,k 3 (.b false)]<|.ret) (.skip))<|.q [
 m 15 4,p 16 (.iaddr 3) [.t 15,.k (.i 0)],h 17 3 true 16,c 18 87 [.t 17],m 14 18,e 19 0 14,e 20 1 14,m 6 19,m 5 20]<|.seq (.q [
 m 21 5,o 22 (.un .not) 21,m 23 22,w 24 .mov [.t 6] 23 false,w 25 (.bin .lss) [.t 24,.k (.i 1)] 23 false,p 26 .pick [.t 23,.k (.b true),.t 25]]<|.cond (.t 26) (.q [i 2 0,
 k 3 (.b false)]<|.ret) (.skip))<|.q [m 27 6,m 2 27,k 3 (.b true)]<|.ret
def f96:AFunc:=⟨28,f96b,[.tmp 2,.tmp 3]⟩
def f97b:ACode:=.q [x 1 0,i 2 0,k 3 (.b false)]<|.q [l 9 1 3 true 1,⟨some 10,.call 79,[.k (.s ⟨#[101,114,114,111,114]⟩),.k (.i 1),.t 9],none⟩,m 8 10,e 11 0 8,
 e 12 1 8,m 4 11,m 5 12]<|.seq (.q [m 13 5,o 14 (.un .not) 13]<|.cond (.t 14) (.q [i 2 0,k 3 (.b false)]<|.ret) (.skip))<|.q [
 m 16 4,p 17 (.iaddr 3) [.t 16,.k (.i 0)],h 18 3 true 17,c 19 88 [.t 18],m 15 19,e 20 0 15,e 21 1 15,m 6 20,m 7 21]<|.seq (.q [
 m 22 7,o 23 (.un .not) 22,m 24 23,w 25 .mov [.t 6] 24 false,w 26 (.bin .lss) [.t 25,.k (.i 1)] 24 false,p 27 .pick [.t 24,.k (.b true),.t 26]]<|.cond (.t 27) (.q [i 2 0,
 k 3 (.b false)]<|.ret) (.skip))<|.q [m 28 6,m 2 28,k 3 (.b true)]<|.ret
def f97:AFunc:=⟨29,f97b,[.tmp 2,.tmp 3]⟩
def f104b:ACode:=.q [⟨some 2,.alloc .reg Z,[],none⟩,⟨some 3,.pur .mov,[.k E],none⟩,k 4 (.b false)]<|.seq (.q [m 5 0,o 6 .nilchk 5,f 7 0 6,f 8 2 7,
 h 9 1 false 8,o 10 (.un .not) 9]<|.cond (.t 10) (.q [⟨some 11,.pur (.build Z []),[],none⟩,s 2 3 2 11,⟨some 3,.pur .mov,[.k E],none⟩,k 4 (.b false)]<|.ret) (.skip))<|.q [m 12 0,
 o 13 .nilchk 12,f 14 0 13,f 15 16 14,h 16 3 true 15,m 17 0,o 18 .nilchk 17,f 19 0 18,f 20 3 19,h 21 1 false 20,
 s 2 3 2 16,m 3 21,k 4 (.b true)]<|.ret
def f104:AFunc:=⟨22,f104b,[.cell 2 3 true,.tmp 3,.tmp 4]⟩
def f111_l0:ACode:=.seq (.q [m 23 8,f 24 2 3,l 25 3 1 false 24,o 26 .lenL 25,p 27 (.bin .lss) [.t 23,.t 26]]<|.cond (.t 27) (.skip) (.exit 0))<|.seq (.block 1 (.ops [m 30 7,f 31 2 3,
 l 32 3 1 false 31,m 33 8,p 34 (.iaddr 1) [.t 32,.t 33],h 35 1 false 34,⟨some 36,.pur (.bin .add),[.k (.s ⟨#[100]⟩),.t 35],none⟩,c 37 212 [.t 36],⟨some 38,.pur (.buildSl 3 1 Z [0]),[.t 37],none⟩,
 ⟨some 39,.append 3 48,[.t 30,.t 38],none⟩,m 7 39]))<|.ops [m 28 8,p 29 (.bin .add) [.t 28,.k (.i 1)],m 8 29]
def f111b:ACode:=.q [x 2 0,x 3 1,⟨some 4,.alloc .reg Z,[],none⟩]<|.q [l 10 2 3 true 2,c 11 211 [.t 10],m 5 11]<|.q [f 12 3 3,
 l 13 3 3 true 12,c 14 211 [.t 13],m 6 14]<|.seq (.q [m 15 5,o 16 (.un .not) 15,m 17 16,w 18 .mov [.t 6] 17 false,w 19 (.un .not) [.t 18] 17 false,
 p 20 .pick [.t 17,.k (.b true),.t 19]]<|.cond (.t 20) (.q [⟨some 21,.pur (.build Z []),[],none⟩,s 4 3 4 21]<|.ret) (.skip))<|.q [⟨some 22,.pur (.buildSl 3 0 Z []),[],none⟩,m 7 22]<|.seq (.q [
 i 8 0]<|.block 0 (.loop [23,24,25,26,27,28,29,30,31,32,33,34,35,36,37,38,39] [] f111_l0))<|.q [⟨some 40,.call 212,[.k (.s ⟨#[99,111,111,107,105,101]⟩)],none⟩,f 41 0 3,l 42 3 1 false 41,⟨some 43,.pur (.bin .add),[.k (.s ⟨#[99]⟩),.t 42],none⟩,
 c 44 212 [.t 43],f 45 1 3,l 46 3 1 false 45,⟨some 47,.pur (.bin .add),[.k (.s ⟨#[110]⟩),.t 46],none⟩,c 48 212 [.t 47],m 49 7,⟨some 50,.pur (.build Z [(0,1),(2,1)]),[.k (.i 3),.t 49],none⟩,
 f 51 3 3,l 52 3 3 true 51,f 53 6 3,l 54 3 1 false 53,c 55 213 [.t 54],⟨some 56,.pur (.bin .add),[.k (.s ⟨#[117]⟩),.t 55],none⟩,c 57 212 [.t 56],
 ⟨some 58,.pur (.buildSl 3 6 Z [0,1,2,3,4,5]),[.t 40,.t 44,.t 48,.t 50,.t 52,.t 57],none⟩,m 9 58]<|.q [l 59 2 3 true 2,m 60 9,⟨some 61,.pur (.build Z [(0,1),(2,1)]),[.k (.i 3),.t 60],none⟩,
 ⟨some 62,.pur (.buildSl 3 2 Z [0,1]),[.t 59,.t 61],none⟩,⟨some 63,.pur (.build Z [(0,1),(2,1)]),[.k (.i 4),.t 62],none⟩,s 4 3 4 63]<|.ret
def f111:AFunc:=⟨64,f111b,[.cell 4 3 true]⟩
def f113b:ACode:=.q [x 3 0,x 4 1,⟨some 6,.alloc .reg [E,E,N,.i 0,E,N,.i 0],[],none⟩,i 7 0]<|.q [l 13 4 3 true 4,c 14 219 [.t 13],m 8 14]<|
 .seq (.q [m 15 8,o 16 (.un .not) 15,m 17 16,w 18 (.faddr 0) [.t 4] 17 false,u 19 (.ld (some 4) 1 false) [.t 18] 17 false,w 20 (.bin .neq) [.t 19,.k (.i 4)] 17 false,p 21 .pick [.t 17,.k (.b true),.t 20]]<|
 .cond (.t 21) (.q [⟨some 22,.pur (.build [E,E,N,.i 0,E,N,.i 0] []),[],none⟩,s 6 7 6 22,i 7 2]<|.ret) (.skip))<|.q [f 23 2 4,l 24 4 1 false 23,
 p 25 (.iaddr 3) [.t 24,.k (.i 0)],h 26 3 true 25,l 27 3 3 true 3,c 28 114 [.t 26,.t 27],m 9 28]<|.seq (.q [m 29 9,o 30 (.un .not) 29]<|.cond (.t 30) (.q [
 ⟨some 31,.pur (.build [E,E,N,.i 0,E,N,.i 0] []),[],none⟩,s 6 7 6 31,i 7 4]<|.ret) (.skip))<|.q [l 32 3 3 true 3,c 33 211 [.t 32],m 10 33]<|.q [
 f 35 2 4,l 36 4 1 false 35,p 37 (.iaddr 3) [.t 36,.k (.i 1)],h 38 3 true 37,c 39 220 [.t 38],m 34 39,e 40 0 34,e 41 1 34,
 ⟨some 11,.alloc .reg [E,E,N,.i 0,E,N,.i 0],[],none⟩,s 11 7 11 40,m 12 41]<|.seq (.q [m 42 10,o 43 (.un .not) 42,m 44 43,w 45 .mov [.t 12] 44 false,
 w 46 (.un .not) [.t 45] 44 false,p 47 .pick [.t 44,.k (.b true),.t 46]]<|.cond (.t 47) (.q [⟨some 48,.pur (.build [E,E,N,.i 0,E,N,.i 0] []),[],none⟩,s 6 7 6 48,i 7 2]<|.ret) (.skip))<|.seq (.q [
 m 49 2,f 50 6 11,l 51 11 1 false 50,p 52 (.bin .gtr) [.t 49,.t 51]]<|.cond (.t 52) (.q [⟨some 53,.pur (.build [E,E,N,.i 0,E,N,.i 0] []),[],none⟩,s 6 7 6 53,
 i 7 5]<|.ret) (.skip))<|.q [l 54 11 7 true 11,s 6 7 6 54,i 7 0]<|.ret
def f113:AFunc:=⟨55,f113b,[.cell 6 7 true,.tmp 7]⟩
def f114_l0:ACode:=.seq (.q [m 28 5,f 29 2 2,l 30 2 1 false 29,o 31 .lenL 30,p 32 (.bin .lss) [.t 28,.t 31]]<|.cond (.t 32) (.skip) (.exit 0))<|.seq (.block 1 (.q [f 35 2 2,
 l 36 2 1 false 35,m 37 5,p 38 (.iaddr 3) [.t 36,.t 37],h 39 3 true 38,f 40 2 3,l 41 3 1 false 40,m 42 5,p 43 (.iaddr 3) [.t 41,.t 42],h 44 3 true 43,
 c 45 114 [.t 39,.t 44],m 6 45]<|.q [m 46 6,o 47 (.un .not) 46]<|.cond (.t 47) (.q [k 4 (.b false)]<|.ret) (.skip)))<|.ops [m 33 5,p 34 (.bin .add) [.t 33,.k (.i 1)],
 m 5 34]
def f114b:ACode:=.q [x 2 0,x 3 1,k 4 (.b false)]<|.seq (.q [f 7 0 2,l 8 2 1 false 7,f 9 0 3,l 10 3 1 false 9,p 11 (.bin .neq) [.t 8,.t 10],
 m 12 11,w 13 (.faddr 1) [.t 2] 12 false,u 14 (.ld (some 2) 1 false) [.t 13] 12 false,w 15 (.faddr 1) [.t 3] 12 false,u 16 (.ld (some 3) 1 false) [.t 15] 12 false,w 17 (.bin .neq) [.t 14,.t 16] 12 false,p 18 .pick [.t 12,.k (.b true),.t 17],
 m 19 18,w 20 (.faddr 2) [.t 2] 19 false,u 21 (.ld (some 2) 1 false) [.t 20] 19 false,w 22 .lenL [.t 21] 19 false,w 23 (.faddr 2) [.t 3] 19 false,u 24 (.ld (some 3) 1 false) [.t 23] 19 false,w 25 .lenL [.t 24] 19 false,
 w 26 (.bin .neq) [.t 22,.t 25] 19 false,p 27 .pick [.t 19,.k (.b true),.t 26]]<|.cond (.t 27) (.q [k 4 (.b false)]<|.ret) (.skip))<|.seq (.q [i 5 0]<|
 .block 0 (.loop [4,6,28,29,30,31,32,33,34,35,36,37,38,39,40,41,42,43,44,45,46,47] [] f114_l0))<|.q [k 4 (.b true)]<|.ret
def f114:AFunc:=⟨48,f114b,[.tmp 4]⟩
def f118b:ACode:=.q [x 2 0,x 3 1,k 4 (.b false)]<|.q [f 5 0 2,l 6 2 1 false 5,f 7 0 3,l 8 3 1 false 7,p 9 (.bin .eql) [.t 6,.t 8],
 m 10 9,w 11 (.faddr 1) [.t 2] 10 true,u 12 (.ld (some 2) 1 false) [.t 11] 10 true,w 13 (.faddr 1) [.t 3] 10 true,u 14 (.ld (some 3) 1 false) [.t 13] 10 true,w 15 (.bin .eql) [.t 12,.t 14] 10 true,p 16 .pick [.t 10,.t 15,.k (.b false)],
 m 17 16,w 18 (.faddr 2) [.t 2] 17 true,u 19 (.ld (some 2) 1 false) [.t 18] 17 true,w 20 (.faddr 2) [.t 3] 17 true,u 21 (.ld (some 3) 1 false) [.t 20] 17 true,⟨some 22,.call 224,[.t 19,.t 21,.k (.fn 118 [] [])],some (17,true)⟩,p 23 .pick [.t 17,.t 22,.k (.b false)],
 m 4 23]<|.ret
def f118:AFunc:=⟨24,f118b,[.tmp 4]⟩
def f120b:ACode:=.q [k 2 N]<|.q [m 3 0,o 4 .nilchk 3,f 5 36 4,h 6 1 false 5,c 7 226 [.t 6],m 2 7]<|.ret
def f120:AFunc:=⟨8,f120b,[.tmp 2]⟩
def f121b:ACode:=.q [x 1 0,⟨some 2,.pur .mov,[.k E],none⟩]<|.seq (.q [l 3 1 3 true 1,c 4 221 [.t 3,.k (.i 60)],o 5 (.un .not) 4]<|.cond (.t 5) (.q [⟨some 2,.pur .mov,[.k E],none⟩]<|.ret) (.skip))<|.q [
 l 6 1 3 true 1,c 7 227 [.t 6],m 2 7]<|.ret
def f121:AFunc:=⟨8,f121b,[.tmp 2]⟩
def f124b:ACode:=.q [x 1 0,⟨some 2,.alloc .reg Z,[],none⟩]<|.q [l 3 1 3 true 1,⟨some 4,.pur (.buildSl 3 1 Z [0]),[.t 3],none⟩,⟨some 5,.call 228,[.k (.i 6),.k E,.t 4],none⟩,s 2 3 2 5]<|.ret
def f124:AFunc:=⟨6,f124b,[.cell 2 3 true]⟩
def f125b:ACode:=.q [x 2 0,x 3 1,⟨some 4,.alloc .reg Z,[],none⟩]<|.q [l 5 2 3 true 2,l 6 3 3 true 3,⟨some 7,.pur (.buildSl 3 2 Z [0,1]),[.t 5,.t 6],none⟩,
 ⟨some 8,.call 228,[.k (.i 10),.k E,.t 7],none⟩,s 4 3 4 8]<|.ret
def f125:AFunc:=⟨9,f125b,[.cell 4 3 true]⟩
def f126b:ACode:=.q [⟨some 2,.alloc .reg Z,[],none⟩]<|.q [m 3 0,⟨some 4,.call 228,[.k (.i 3),.k E,.t 3],none⟩,s 2 3 2 4]<|.ret
def f126:AFunc:=⟨5,f126b,[.cell 2 3 true]⟩
def f127b:ACode:=.q [x 2 0,x 3 1,⟨some 4,.alloc .reg Z,[],none⟩]<|.seq (.q [l 5 3 3 true 3,l 6 2 3 true 2,c 7 229 [.t 5,.t 6]]<|.cond (.t 7) (.ops [l 8 3 3 true 3,
 l 9 2 3 true 2,s 2 3 2 8,s 3 3 3 9]) (.skip))<|.q [l 10 2 3 true 2,l 11 3 3 true 3,⟨some 12,.pur (.buildSl 3 2 Z [0,1]),[.t 10,.t 11],none⟩,
 ⟨some 13,.call 228,[.k (.i 9),.k E,.t 12],none⟩,s 4 3 4 13]<|.ret
def f127:AFunc:=⟨14,f127b,[.cell 4 3 true]⟩
def f128b:ACode:=.q [x 2 0,x 3 1,⟨some 4,.alloc .reg Z,[],none⟩]<|.q [l 5 2 3 true 2,l 6 3 3 true 3,⟨some 7,.pur (.buildSl 3 2 Z [0,1]),[.t 5,.t 6],none⟩,
 ⟨some 8,.call 228,[.k (.i 4),.k E,.t 7],none⟩,s 4 3 4 8]<|.ret
def f128:AFunc:=⟨9,f128b,[.cell 4 3 true]⟩
def f130b:ACode:=.q [⟨some 2,.alloc .reg Z,[],none⟩]<|.q [m 3 0,⟨some 4,.pur (.build Z [(0,1),(1,1)]),[.k (.i 2),.t 3],none⟩,s 2 3 2 4]<|.ret
def f130:AFunc:=⟨5,f130b,[.cell 2 3 true]⟩
def f131_l0:ACode:=.seq (.q [m 28 5,p 29 (.bin .lss) [.t 28,.k (.i 3)]]<|.cond (.t 29) (.skip) (.exit 0))<|.seq (.block 1 (.q [m 33 1,m 34 3,l 35 4 3 true 4,c 36 137 [.t 34,.t 35,.k (.i 0)],
 ⟨some 37,.call 140,[.k (.s ⟨#[120]⟩)],none⟩,c 38 141 [.t 33,.t 36,.k (.i 0),.t 37],m 32 38,e 39 0 32,e 40 1 32,⟨some 6,.alloc .reg Z,[],none⟩,s 6 3 6 39,m 7 40]<|
 .seq (.q [m 41 7,p 42 (.bin .neq) [.t 41,.k (.i 0)]]<|.cond (.t 42) (.q [k 0 (.b false)]<|.ret) (.skip))<|.ops [l 43 6 3 true 6,s 4 3 4 43]))<|.ops [m 30 5,
 p 31 (.bin .add) [.t 30,.k (.i 1)],m 5 31]
def f131b:ACode:=.q [k 0 (.b false)]<|.q [c 14 132 [],m 13 14,e 15 0 13,e 16 1 13,m 1 15,m 2 16]<|.q [c 17 134 [.k (.i 7)],
 c 18 133 [.t 17],m 3 18]<|.seq (.q [m 19 1,o 20 (.nilP false) 19,m 21 20,w 22 .mov [.t 3] 21 false,w 23 (.nilP false) [.t 22] 21 false,p 24 .pick [.t 21,.k (.b true),.t 23]]<|
 .cond (.t 24) (.q [k 0 (.b false)]<|.ret) (.skip))<|.q [m 25 1,⟨some 26,.call 140,[.k (.s ⟨#[115,117,98]⟩)],none⟩,⟨some 27,.call 138,[.t 25,.k (.s ⟨#[110]⟩),.t 26],none⟩,⟨some 4,.alloc .reg Z,[],none⟩,s 4 3 4 27]<|.seq (.q [
 i 5 0]<|.block 0 (.loop [0,6,7,28,29,30,31,32,33,34,35,36,37,38,39,40,41,42,43] [6] f131_l0))<|.q [m 45 1,m 46 3,l 47 4 3 true 4,c 48 137 [.t 46,.t 47,.k (.i 0)],⟨some 49,.call 140,[.k (.s ⟨#[120]⟩)],none⟩,
 c 50 141 [.t 45,.t 48,.k (.i 0),.t 49],m 44 50,e 51 0 44,e 52 1 44,⟨some 8,.alloc .reg Z,[],none⟩,s 8 3 8 51,m 9 52]<|.q [m 54 1,
 c 55 104 [.t 54],m 53 55,e 56 0 53,e 57 1 53,e 58 2 53,⟨some 10,.alloc .reg Z,[],none⟩,s 10 3 10 56,m 11 57,
 m 12 58]<|.q [m 59 9,p 60 (.bin .eql) [.t 59,.k (.i 0)],m 61 60,u 62 (.ld (some 8) 3 true) [.t 8] 61 true,u 63 (.call 84) [.t 62] 61 true,p 64 .pick [.t 61,.t 63,.k (.b false)],m 65 64,
 w 66 .mov [.t 12] 65 true,p 67 .pick [.t 65,.t 66,.k (.b false)],m 68 67,w 69 .mov [.t 11] 68 true,⟨some 70,.pur (.bin .eql),[.t 69,.k (.s ⟨#[110]⟩)],some (68,true)⟩,p 71 .pick [.t 68,.t 70,.k (.b false)],m 72 71,
 w 73 .mov [.t 3] 72 true,w 74 .nilchk [.t 73] 72 true,w 75 (.faddr 10) [.t 74] 72 true,u 76 (.ld none 1 false) [.t 75] 72 true,w 77 .lenL [.t 76] 72 true,w 78 (.bin .eql) [.t 77,.k (.i 1)] 72 true,p 79 .pick [.t 72,.t 78,.k (.b false)],
 m 80 79,u 81 (.ld (some 10) 3 true) [.t 10] 80 true,w 82 .mov [.t 3] 80 true,w 83 .nilchk [.t 82] 80 true,w 84 (.faddr 10) [.t 83] 80 true,u 85 (.ld none 1 false) [.t 84] 80 true,w 86 (.iaddr 6) [.t 85,.k (.i 0)] 80 true,
 w 87 (.faddr 3) [.t 86] 80 true,u 88 (.ld none 3 true) [.t 87] 80 true,u 89 (.call 61) [.t 81,.t 88] 80 true,p 90 .pick [.t 80,.t 89,.k (.b false)],m 91 90,w 92 .mov [.t 1] 91 true,u 93 (.call 120) [.t 92] 91 true,
 w 94 .lenL [.t 93] 91 true,w 95 (.bin .eql) [.t 94,.k (.i 3)] 91 true,p 96 .pick [.t 91,.t 95,.k (.b false)],m 97 96,w 98 .mov [.t 1] 97 true,u 99 (.call 232) [.t 98] 97 true,w 100 (.bin .eql) [.t 99,.k (.i 3)] 97 true,
 p 101 .pick [.t 97,.t 100,.k (.b false)],m 0 101]<|.ret
def f131:AFunc:=⟨102,f131b,[.tmp 0]⟩
def f132b:ACode:=.q [k 0 (.sc (.pointer none)),k 1 (.sc (.pointer none))]<|.q [⟨some 4,.call 140,[.k (.s ⟨#[112,97,115,115,119,111,114,100,32,97]⟩)],none⟩,⟨some 5,.call 140,[.k (.s ⟨#[115,101,101,100,32,97]⟩)],none⟩,c 6 233 [],
 ⟨some 7,.call 140,[.k (.s ⟨#[104,111,115,116]⟩)],none⟩,⟨some 8,.pur (.build [E,.i 0,E,N,.i 0,E,N,.i 0,.i 0,E,N,.i 0,E,N] [(0,1),(1,3),(4,3),(7,1),(8,3),(11,3)]),[.k (.s ⟨#[97]⟩),.t 4,.t 5,.k (.i 2),.t 6,.t 7],none⟩,c 9 204 [.t 8],
 m 2 9]<|.q [⟨some 10,.call 140,[.k (.s ⟨#[112,97,115,115,119,111,114,100,32,97]⟩)],none⟩,⟨some 11,.call 140,[.k (.s ⟨#[115,101,101,100,32,97]⟩)],none⟩,c 12 233 [],⟨some 13,.call 140,[.k (.s ⟨#[104,111,115,116]⟩)],none⟩,⟨some 14,.call 234,[.k (.s ⟨#[97]⟩),.t 10,.t 11,.k (.i 2),.t 12,.t 13],none⟩,
 m 3 14]<|.q [m 15 2,m 16 3,m 0 15,m 1 16]<|.ret
def f132:AFunc:=⟨17,f132b,[.tmp 0,.tmp 1]⟩
def f133b:ACode:=.q [k 2 (.sc (.pointer none))]<|.q [⟨some 6,.call 140,[.k (.s ⟨#[112,97,115,115,119,111,114,100,32,97]⟩)],none⟩,⟨some 7,.call 145,[.t 6,.k (.s ⟨#[97]⟩)],none⟩,m 8 0,⟨some 9,.call 140,[.k (.s ⟨#[115,101,101,100,32,97]⟩)],none⟩,
 ⟨some 10,.pur (.build [.i 0,.i 0,.i 0,.i 0,.i 0,.i 0] [(0,1),(1,1),(2,1),(5,1)]),[.k (.i 1),.k (.i 3),.k (.i 10),.k (.i 5)],none⟩,
 ⟨some 11,.pur (.build [E,.i 0,E,N,N,.i 0,E,N,.i 0,.i 0,.i 0,.i 0,.i 0,.i 0,.i 0] [(0,1),(1,3),(4,1),(5,3),(8,6)]),[.k (.s ⟨#[97]⟩),.t 7,.t 8,.t 9,.t 10],none⟩,
 ⟨some 3,.alloc .reg [E,.i 0,E,N,N,.i 0,E,N,.i 0,.i 0,.i 0,.i 0,.i 0,.i 0,.i 0],[],none⟩,s 3 15 3 11]<|.q [⟨some 13,.call 140,[.k (.s ⟨#[107,100,99]⟩)],none⟩,⟨some 14,.call 140,[.k (.s ⟨#[99,111,111,107,105,101]⟩)],none⟩,
 l 15 3 15 true 3,⟨some 16,.pur (.buildSl 15 1 [E,.i 0,E,N,N,.i 0,E,N,.i 0,.i 0,.i 0,.i 0,.i 0,.i 0,.i 0] [0]),[.t 15],none⟩,c 17 235 [.t 13,.t 14,.t 16,.k (.i 16)],m 12 17,e 18 0 12,
 e 19 1 12,m 4 18,m 5 19]<|.q [m 20 4,m 2 20]<|.ret
def f133:AFunc:=⟨21,f133b,[.tmp 2]⟩
def f134b:ACode:=.q [k 2 N]<|.q [⟨some 3,.pur .mov,[.k (.s ⟨#[99,104,97,108,108,101,110,103,101]⟩)],none⟩]<|.q [⟨some 4,.pur .mov,[.k (.s ⟨#[111,116,112]⟩)],none⟩]<|.q [⟨some 5,.pur .mov,[.k (.s ⟨#[115,112,97,107,101]⟩)],none⟩]<|.q [m 7 3,
 ⟨some 8,.pur (.buildSl 1 1 [E] [0]),[.t 7],none⟩,m 9 4,⟨some 10,.pur (.buildSl 1 1 [E] [0]),[.t 9],none⟩,m 11 5,⟨some 12,.pur (.buildSl 1 1 [E] [0]),[.t 11],none⟩,m 13 3,m 14 4,⟨some 15,.pur (.buildSl 1 2 [E] [0,1]),[.t 13,.t 14],none⟩,
 m 16 4,m 17 5,⟨some 18,.pur (.buildSl 1 2 [E] [0,1]),[.t 16,.t 17],none⟩,m 19 5,m 20 3,⟨some 21,.pur (.buildSl 1 2 [E] [0,1]),[.t 19,.t 20],none⟩,m 22 3,m 23 4,m 24 5,
 ⟨some 25,.pur (.buildSl 1 3 [E] [0,1,2]),[.t 22,.t 23,.t 24],none⟩,m 26 5,m 27 4,m 28 3,⟨some 29,.pur (.buildSl 1 3 [E] [0,1,2]),[.t 26,.t 27,.t 28],none⟩,
 p 30 (.buildSl 1 8 [N] [0,1,2,3,4,5,6,7]) [.t 8,.t 10,.t 12,.t 15,.t 18,.t 21,.t 25,.t 29],m 6 30]<|.q [m 31 6,m 32 0,p 33 (.bin .and) [.t 32,.k (.i 7)],p 34 (.iaddr 1) [.t 31,.t 33],
 h 35 1 false 34,m 2 35]<|.ret
def f134:AFunc:=⟨36,f134b,[.tmp 2]⟩
def f135b:ACode:=.q [x 3 1,k 4 (.b false)]<|.q [m 15 0,m 16 0,o 17 .nilchk 16,f 18 12 17,h 19 1 false 18,f 20 3 3,
 l 21 3 1 false 20,p 22 (.bin .and) [.t 21,.k (.i 15)],p 23 (.bin .add) [.t 19,.t 22],o 24 .nilchk 15,f 25 12 24,⟨none,.st none 1,[.t 25,.t 23],none⟩]<|.q [m 26 0,o 27 .nilchk 26,
 f 28 13 27,h 29 1 false 28,p 30 (.bin .add) [.t 29,.k (.i 1)],o 31 .nilchk 26,f 32 13 31,⟨none,.st none 1,[.t 32,.t 30],none⟩]<|.seq (.q [f 33 0 3,l 34 3 1 false 33,
 p 35 (.bin .eql) [.t 34,.k (.i 1)]]<|.cond (.t 35) (.q [f 36 1 3,l 37 3 1 false 36,p 38 (.bin .and) [.t 37,.k (.i 7)],c 39 139 [.t 38],⟨some 40,.pur (.bin .add),[.k (.s ⟨#[110]⟩),.t 39],none⟩,m 5 40]<|.q [
 m 41 0,o 42 .nilchk 41,f 43 13 42,h 44 1 false 43,c 45 139 [.t 44],⟨some 46,.pur (.bin .add),[.k (.s ⟨#[115,117,98,32]⟩),.t 45],none⟩,c 47 140 [.t 46],⟨some 6,.alloc .reg Z,[],none⟩,
 s 6 3 6 47]<|.q [m 48 0,o 49 .nilchk 48,f 50 0 49,h 51 1 false 50,m 52 5,l 53 6 3 true 6,c 54 138 [.t 51,.t 52,.t 53],
 ⟨some 7,.alloc .reg Z,[],none⟩,s 7 3 7 54]<|.q [m 55 0,o 56 .nilchk 55,f 57 1 56,h 58 1 false 57,m 59 5,l 60 6 3 true 6,
 c 61 236 [.t 58,.t 59,.t 60],⟨some 8,.alloc .reg Z,[],none⟩,s 8 3 8 61]<|.q [m 62 0,l 63 8 3 true 8,o 64 .nilchk 62,f 65 3 64,⟨none,.st none 3,[.t 65,.t 63],none⟩]<|
 .q [l 66 7 3 true 7,l 67 8 3 true 8,c 68 61 [.t 66,.t 67],m 4 68]<|.ret) (.skip))<|.q [f 69 4 3,l 70 3 3 true 69,⟨some 9,.alloc .reg Z,[],none⟩,
 s 9 3 9 70]<|.seq (.q [f 71 0 3,l 72 3 1 false 71]<|.block 0 (.q [p 74 (.bin .eql) [.t 72,.k (.i 2)],m 73 74]<|.cond (.t 73) (.q [m 75 0,m 76 0,
 o 77 .nilchk 76,f 78 6 77,h 79 3 true 78,o 80 .nilchk 75,f 81 9 80,⟨none,.st none 3,[.t 81,.t 79],none⟩]<|.q [m 82 0,m 83 0,o 84 .nilchk 83,
 f 85 2 84,h 86 1 false 85,m 87 0,o 88 .nilchk 87,f 89 3 88,h 90 3 true 89,m 91 0,o 92 .nilchk 91,f 93 12 92,
 h 94 1 false 93,c 95 137 [.t 86,.t 90,.t 94],o 96 .nilchk 82,f 97 6 96,⟨none,.st none 3,[.t 97,.t 95],none⟩]<|.ops [m 98 0,o 99 .nilchk 98,f 100 6 99,h 101 3 true 100,
 s 9 3 9 101]) (.q [p 103 (.bin .eql) [.t 72,.k (.i 3)],m 102 103]<|.cond (.t 102) (.ops [m 104 0,o 105 .nilchk 104,f 106 9 105,h 107 3 true 106,
 s 9 3 9 107]) (.seq (.q [p 109 (.bin .eql) [.t 72,.k (.i 4)],m 108 109]<|.cond (.t 108) (.skip) (.ops [p 110 (.bin .eql) [.t 72,.k (.i 5)],m 108 110]))<|.cond (.t 108) (.ops [m 111 0,
 l 112 3 7 true 3,c 113 237 [.t 111,.t 112],s 9 3 9 113]) (.q [p 115 (.bin .eql) [.t 72,.k (.i 7)],m 114 115]<|.cond (.t 114) (.ops [f 116 1 3,l 117 3 1 false 116,
 p 118 (.bin .and) [.t 117,.k (.i 15)],c 119 73 [.t 118],s 9 3 9 119]) (.q [p 121 (.bin .eql) [.t 72,.k (.i 8)],m 120 121]<|.cond (.t 120) (.ops [m 122 0,o 123 .nilchk 122,
 f 124 3 123,h 125 3 true 124,s 9 3 9 125]) (.skip)))))))<|.seq (.q [l 126 9 3 true 9,c 127 142 [.t 126],p 128 (.bin .gtr) [.t 127,.k (.i 1000)]]<|.cond (.t 128) (.q [k 4 (.b true)]<|
 .ret) (.skip))<|.q [m 129 0,o 130 .nilchk 129,f 131 13 130,h 132 1 false 131,c 133 139 [.t 132],⟨some 134,.pur (.bin .add),[.k (.s ⟨#[120,32]⟩),.t 133],none⟩,c 135 140 [.t 134],
 ⟨some 10,.alloc .reg Z,[],none⟩,s 10 3 10 135]<|.q [m 137 0,o 138 .nilchk 137,f 139 0 138,h 140 1 false 139,l 141 9 3 true 9,m 142 0,
 o 143 .nilchk 142,f 144 12 143,h 145 1 false 144,l 146 10 3 true 10,c 147 141 [.t 140,.t 141,.t 145,.t 146],m 136 147,e 148 0 136,e 149 1 136,
 ⟨some 11,.alloc .reg Z,[],none⟩,s 11 3 11 148,m 12 149]<|.q [m 151 0,o 152 .nilchk 151,f 153 1 152,h 154 1 false 153,l 155 9 3 true 9,
 m 156 0,o 157 .nilchk 156,f 158 12 157,h 159 1 false 158,l 160 10 3 true 10,c 161 238 [.t 154,.t 155,.t 159,.t 160],m 150 161,e 162 0 150,
 e 163 1 150,⟨some 13,.alloc .reg Z,[],none⟩,s 13 3 13 162,m 14 163]<|.seq (.q [m 164 14,p 165 (.bin .eql) [.t 164,.k (.i 0)],m 166 165,
 u 167 (.ld (some 13) 3 true) [.t 13] 166 true,u 168 (.call 84) [.t 167] 166 true,w 169 (.un .not) [.t 168] 166 true,p 170 .pick [.t 166,.t 169,.k (.b false)]]<|.cond (.t 170) (.ops [m 171 0,l 172 13 3 true 13,o 173 .nilchk 171,
 f 174 3 173,⟨none,.st none 3,[.t 174,.t 172],none⟩]) (.skip))<|.q [m 175 12,m 176 14,p 177 (.bin .eql) [.t 175,.t 176],m 178 177,u 179 (.ld (some 11) 3 true) [.t 11] 178 true,
 u 180 (.ld (some 13) 3 true) [.t 13] 178 true,u 181 (.call 61) [.t 179,.t 180] 178 true,p 182 .pick [.t 178,.t 181,.k (.b false)],m 4 182]<|.ret
def f135:AFunc:=⟨183,f135b,[.tmp 4]⟩
def f136_l0:ACode:=.seq (.q [m 71 9,m 72 8,o 73 .lenL 72,p 74 (.bin .lss) [.t 71,.t 73]]<|.cond (.t 74) (.skip) (.exit 0))<|.seq (.block 1 (.q [m 77 8,m 78 9,p 79 (.iaddr 2) [.t 77,.t 78],
 f 80 0 79,h 81 1 false 80,m 82 1,o 83 .nilchk 82,f 84 29 83,h 85 1 false 84,m 86 9,p 87 (.iaddr 2) [.t 85,.t 86],f 88 0 87,
 h 89 1 false 88,p 90 (.bin .neq) [.t 81,.t 89],m 91 90,w 92 .mov [.t 8] 91 false,w 93 .mov [.t 9] 91 false,w 94 (.iaddr 2) [.t 92,.t 93] 91 false,w 95 (.faddr 1) [.t 94] 91 false,u 96 (.ld none 1 false) [.t 95] 91 false,
 w 97 .mov [.t 1] 91 false,w 98 .nilchk [.t 97] 91 false,w 99 (.faddr 29) [.t 98] 91 false,u 100 (.ld none 1 false) [.t 99] 91 false,w 101 .mov [.t 9] 91 false,w 102 (.iaddr 2) [.t 100,.t 101] 91 false,w 103 (.faddr 1) [.t 102] 91 false,
 u 104 (.ld none 1 false) [.t 103] 91 false,w 105 (.bin .neq) [.t 96,.t 104] 91 false,p 106 .pick [.t 91,.k (.b true),.t 105]]<|.cond (.t 106) (.q [k 4 (.b false)]<|.ret) (.skip)))<|.ops [m 75 9,p 76 (.bin .add) [.t 75,.k (.i 1)],
 m 9 76]
def f136b:ACode:=.q [k 4 (.b false)]<|.q [m 11 0,c 12 104 [.t 11],m 10 12,e 13 0 10,e 14 1 10,e 15 2 10,
 ⟨some 5,.alloc .reg Z,[],none⟩,s 5 3 5 13,m 6 14,m 7 15]<|.q [m 16 0,c 17 120 [.t 16],m 8 17]<|.seq (.q [m 18 7,
 m 19 1,o 20 .nilchk 19,f 21 33 20,h 22 1 false 21,p 23 (.eqB true) [.t 18,.t 22],m 24 23,w 25 .mov [.t 7] 24 false,w 26 .mov [.t 25] 24 false,w 27 .mov [.t 6] 26 true,
 w 28 .mov [.t 1] 26 true,w 29 .nilchk [.t 28] 26 true,w 30 (.faddr 15) [.t 29] 26 true,u 31 (.ld none 1 false) [.t 30] 26 true,w 32 (.bin .neq) [.t 27,.t 31] 26 true,w 33 .mov [.t 32] 26 true,u 34 (.ld (some 5) 3 true) [.t 5] 33 false,
 w 35 .mov [.t 1] 33 false,w 36 .nilchk [.t 35] 33 false,w 37 (.faddr 30) [.t 36] 33 false,u 38 (.ld none 3 true) [.t 37] 33 false,u 39 (.call 61) [.t 34,.t 38] 33 false,w 40 (.un .not) [.t 39] 33 false,w 41 .pick [.t 33,.k (.b true),.t 40] 26 true,
 w 42 .pick [.t 26,.t 41,.k (.b false)] 24 false,p 43 .pick [.t 24,.k (.b true),.t 42],m 44 43,w 45 .mov [.t 7] 44 false,w 46 (.un .not) [.t 45] 44 false,w 47 .mov [.t 46] 44 false,w 48 .mov [.t 6] 47 true,
 ⟨some 49,.pur (.bin .neq),[.t 48,.k E],some (47,true)⟩,w 50 .pick [.t 47,.t 49,.k (.b false)] 44 false,p 51 .pick [.t 44,.k (.b true),.t 50],m 52 51,w 53 .mov [.t 0] 52 false,u 54 (.call 232) [.t 53] 52 false,w 55 .mov [.t 1] 52 false,
 w 56 .nilchk [.t 55] 52 false,w 57 (.faddr 7) [.t 56] 52 false,u 58 (.ld none 1 false) [.t 57] 52 false,w 59 (.bin .neq) [.t 54,.t 58] 52 false,p 60 .pick [.t 52,.k (.b true),.t 59],m 61 60,w 62 .mov [.t 8] 61 false,
 w 63 .lenL [.t 62] 61 false,w 64 .mov [.t 1] 61 false,w 65 .nilchk [.t 64] 61 false,w 66 (.faddr 29) [.t 65] 61 false,u 67 (.ld none 1 false) [.t 66] 61 false,w 68 .lenL [.t 67] 61 false,w 69 (.bin .neq) [.t 63,.t 68] 61 false,
 p 70 .pick [.t 61,.k (.b true),.t 69]]<|.cond (.t 70) (.q [k 4 (.b false)]<|.ret) (.skip))<|.seq (.q [i 9 0]<|
 .block 0 (.loop [4,71,72,73,74,75,76,77,78,79,80,81,82,83,84,85,86,87,88,89,90,91,92,93,94,95,96,97,98,99,100,101,102,103,104,105,106] [] f136_l0))<|.q [k 4 (.b true)]<|.ret
def f136:AFunc:=⟨107,f136b,[.tmp 4]⟩
def f137b:ACode:=.q [x 4 1,⟨some 6,.alloc .reg Z,[],none⟩]<|.q [m 18 0,l 19 4 3 true 4,m 20 2,c 21 239 [.t 18,.t 19,.t 20],m 17 21,
 e 22 0 17,e 23 1 17,e 24 2 17,
 ⟨some 7,.alloc .reg [.i 0,E,N,.i 0,E,N,E,E,N,.i 0,E,N,.i 0,E,.i 0,E,N,N,.i 0,E,N,.i 0,.i 0,.i 0,.i 0,.i 0,.i 0,.i 0,.i 0],[],none⟩,
 ⟨some 8,.alloc .reg Z,[],none⟩,s 7 29 7 22,s 8 3 8 23,m 9 24]<|.seq (.q [m 25 9,p 26 (.bin .neq) [.t 25,.k (.i 0)]]<|.cond (.t 26) (.q [m 27 9,
 c 28 73 [.t 27],s 6 3 6 28]<|.ret) (.skip))<|.seq (.q [l 29 8 3 true 8,c 30 84 [.t 29]]<|.cond (.t 30) (.q [m 31 0,l 32 7 29 true 7,c 33 240 [.t 31,.t 32],
 s 6 3 6 33]<|.ret) (.skip))<|.q [f 34 13 7,f 35 4 34,l 36 7 1 false 35,f 37 6 7,f 38 2 37,l 39 7 1 false 38,o 40 .lenL 39,
 p 41 (.iaddr 1) [.t 36,.t 40],h 42 1 false 41,m 10 42]<|.seq (.q [l 43 8 3 true 8,c 44 82 [.t 43],m 45 10,p 46 (.bin .neq) [.t 44,.t 45],m 47 46,
 w 48 .mov [.t 10] 47 false,⟨some 49,.pur (.bin .neq),[.t 48,.k (.s ⟨#[99,104,97,108,108,101,110,103,101]⟩)],some (47,false)⟩,w 50 .mov [.t 49] 47 false,w 51 (.faddr 6) [.t 7] 50 true,w 52 (.faddr 3) [.t 51] 50 true,u 53 (.ld (some 7) 3 true) [.t 52] 50 true,
 u 54 (.call 84) [.t 53] 50 true,w 55 .pick [.t 50,.t 54,.k (.b false)] 47 false,p 56 .pick [.t 47,.k (.b true),.t 55]]<|.cond (.t 56) (.q [c 57 73 [.k (.i 11)],s 6 3 6 57]<|.ret) (.skip))<|.q [l 59 7 29 true 7,
 l 60 8 3 true 8,m 61 10,c 62 241 [.t 59,.t 60,.t 61],m 58 62,e 63 0 58,e 64 1 58,e 65 2 58,⟨some 11,.alloc .reg Z,[],none⟩,
 s 11 3 11 63,m 12 64,m 13 65]<|.seq (.q [m 66 13,p 67 (.bin .eql) [.t 66,.k (.i 6)]]<|.cond (.t 67) (.ops [m 68 0,o 69 .nilchk 68,f 70 6 69,
 h 71 1 false 70,f 72 6 7,f 73 0 72,l 74 7 1 false 73,c 75 242 [.t 71,.t 74]]) (.skip))<|.seq (.q [m 76 13,p 77 (.bin .neq) [.t 76,.k (.i 0)]]<|.cond (.t 77) (.q [
 m 78 13,c 79 73 [.t 78],s 6 3 6 79]<|.ret) (.skip))<|.q [m 80 0,o 81 .nilchk 80,f 82 8 81,h 83 1 false 82,l 84 8 3 true 8,c 85 243 [.t 84],
 m 86 2,p 87 (.bin .add) [.t 86,.k (.i 100)],p 88 (.bin .add) [.t 87,.k (.i 1)],m 89 2,c 90 56 [.t 83,.t 85,.t 88,.t 89],m 14 90]<|.seq (.q [m 91 14,
 p 92 (.bin .neq) [.t 91,.k (.i 0)]]<|.cond (.t 92) (.q [m 93 14,c 94 73 [.t 93],s 6 3 6 94]<|.ret) (.skip))<|.seq (.q [m 95 10,⟨some 96,.pur (.bin .eql),[.t 95,.k (.s ⟨#[111,116,112]⟩)],none⟩]<|.cond (.t 96) (.q [
 m 98 0,o 99 .nilchk 98,f 100 6 99,h 101 1 false 100,f 102 6 7,f 103 0 102,l 104 7 1 false 103,m 105 12,c 106 244 [.t 101,.t 104,.t 105],
 m 97 106,e 107 0 97,e 108 1 97,m 15 107,m 16 108]<|.q [m 109 16,p 110 (.bin .neq) [.t 109,.k (.i 0)]]<|.cond (.t 110) (.q [m 111 16,
 c 112 73 [.t 111],s 6 3 6 112]<|.ret) (.skip)) (.skip))<|.q [⟨some 113,.pur (.buildSl 1 0 [E] []),[],none⟩,f 114 6 7,f 115 2 114,l 116 7 1 false 115,⟨some 117,.append 1 16,[.t 113,.t 116],none⟩,
 m 118 10,⟨some 119,.pur (.buildSl 1 1 [E] [0]),[.t 118],none⟩,⟨some 120,.append 1 16,[.t 117,.t 119],none⟩,f 121 6 7,f 122 2 121,s 7 1 122 120]<|.seq (.q [f 123 6 7,f 124 2 123,
 l 125 7 1 false 124,o 126 .lenL 125,f 127 13 7,f 128 4 127,l 129 7 1 false 128,o 130 .lenL 129,p 131 (.bin .eql) [.t 126,.t 130]]<|.cond (.t 131) (.q [m 132 0,
 l 133 7 29 true 7,l 134 11 3 true 11,c 135 245 [.t 132,.t 133,.t 134],s 6 3 6 135]<|.ret) (.skip))<|.q [m 136 0,l 137 7 29 true 7,c 138 240 [.t 136,.t 137],
 s 6 3 6 138]<|.ret
def f137:AFunc:=⟨139,f137b,[.cell 6 3 true]⟩
def f138b:ACode:=.q [x 5 2,⟨some 6,.alloc .reg Z,[],none⟩]<|.q [m 7 0,m 8 1,m 9 0,o 10 .nilchk 9,f 11 19 10,f 12 0 11,
 h 13 1 false 12,m 14 1,c 15 76 [.t 13,.t 14],m 16 0,o 17 .nilchk 16,f 18 19 17,f 19 8 18,h 20 3 true 19,m 21 0,
 o 22 .nilchk 21,f 23 19 22,f 24 11 23,h 25 3 true 24,l 26 5 3 true 5,c 27 246 [.t 20,.t 25,.t 26],l 28 5 3 true 5,m 29 0,o 30 .nilchk 29,
 f 31 19 30,f 32 11 31,h 33 3 true 32,c 34 247 [.t 28,.t 33],
 ⟨some 35,.pur (.build [.b false,.b false,.b false,E,.i 0,E,N,.i 0,E,N,.i 0,E,N,.i 0,E,N,.i 0,E,N] [(0,1),(3,1),(4,3),(7,3),(10,3)]),[.k (.b true),.t 8,.t 15,.t 27,.t 34],none⟩,o 36 .nilchk 7,
 f 37 0 36,⟨none,.st none 19,[.t 37,.t 35],none⟩]<|.q [m 38 0,o 39 .nilchk 38,f 40 0 39,c 41 74 [],c 42 74 [],c 43 248 [.t 40,.t 41,.t 42],s 6 3 6 43]<|.ret
def f138:AFunc:=⟨44,f138b,[.cell 6 3 true]⟩
def f139b:ACode:=.q [⟨some 2,.pur .mov,[.k E],none⟩]<|.seq (.q [m 3 0,p 4 (.bin .lss) [.t 3,.k (.i 0)]]<|.cond (.t 4) (.q [m 5 0,o 6 (.un .neg) 5,c 7 249 [.t 6],⟨some 8,.pur (.bin .add),[.k (.s ⟨#[45]⟩),.t 7],none⟩,
 m 2 8]<|.ret) (.skip))<|.q [m 9 0,c 10 249 [.t 9],m 2 10]<|.ret
def f139:AFunc:=⟨11,f139b,[.tmp 2]⟩
def f140b:ACode:=.q [⟨some 2,.alloc .reg Z,[],none⟩]<|.q [m 3 0,c 4 130 [.t 3],s 2 3 2 4]<|.ret
def f140:AFunc:=⟨5,f140b,[.cell 2 3 true]⟩
def f141b:ACode:=.q [x 5 1,x 7 3,⟨some 8,.alloc .reg Z,[],none⟩,i 9 0]<|.seq (.q [m 19 0,o 20 .nilchk 19,f 21 0 20,f 22 0 21,
 h 23 1 false 22,o 24 (.un .not) 23]<|.cond (.t 24) (.q [c 25 74 [],s 8 3 8 25,i 9 11]<|.ret) (.skip))<|.seq (.q [l 27 5 3 true 5,c 28 96 [.t 27],m 26 28,
 e 29 0 26,e 30 1 26,m 10 29,m 11 30]<|.q [m 31 11]<|.cond (.t 31) (.q [m 32 0,o 33 .nilchk 32,f 34 0 33,
 f 35 0 34,⟨none,.st none 1,[.t 35,.k (.b false)],none⟩]<|.q [c 36 74 [],m 37 10,s 8 3 8 36,m 9 37]<|.ret) (.skip))<|.seq (.q [l 39 5 3 true 5,
 ⟨some 40,.call 78,[.k (.s ⟨#[97,115,45,114,101,112]⟩),.k (.i 3),.t 39],none⟩,m 38 40,e 41 0 38,e 42 1 38,m 12 41,m 13 42]<|.q [m 43 13]<|.cond (.t 43) (.q [
 c 44 74 [],m 45 0,o 46 .nilchk 45,f 47 0 46,m 48 12,p 49 (.iaddr 3) [.t 48,.k (.i 0)],h 50 3 true 49,m 51 12,p 52 (.iaddr 3) [.t 51,.k (.i 1)],
 h 53 3 true 52,m 54 12,p 55 (.iaddr 3) [.t 54,.k (.i 2)],h 56 3 true 55,c 57 250 [.t 47,.t 50,.t 53,.t 56],s 8 3 8 44,m 9 57]<|.ret) (.skip))<|.q [m 59 0,
 o 60 .nilchk 59,f 61 0 60,f 62 10 61,h 63 3 true 62,m 64 0,o 65 .nilchk 64,f 66 0 65,f 67 3 66,h 68 1 false 67,
 l 69 5 3 true 5,c 70 251 [.t 63,.t 68,.t 69],m 58 70,e 71 0 58,e 72 1 58,⟨some 14,.alloc .reg Z,[],none⟩,s 14 3 14 71,m 15 72]<|.q [
 l 74 14 3 true 14,m 75 15,⟨some 76,.call 252,[.t 74,.t 75,.k (.s ⟨#[109,111,114,101]⟩),.k (.i 2)],none⟩,m 73 76,e 77 0 73,e 78 1 73,m 16 77,m 15 78]<|.seq (.q [
 m 79 15,p 80 (.bin .neq) [.t 79,.k (.i 0)]]<|.cond (.t 80) (.q [c 81 74 [],m 82 15,s 8 3 8 81,m 9 82]<|.ret) (.skip))<|.q [m 84 0,m 85 16,
 p 86 (.iaddr 3) [.t 85,.k (.i 0)],h 87 3 true 86,m 88 2,l 89 7 3 true 7,c 90 253 [.t 84,.t 87,.t 88,.t 89],m 83 90,e 91 0 83,e 92 1 83,
 e 93 2 83,⟨some 17,.alloc .reg Z,[],none⟩,⟨some 18,.alloc .reg Z,[],none⟩,s 17 3 17 91,s 18 3 18 92,m 15 93]<|.seq (.q [m 94 15,
 p 95 (.bin .neq) [.t 94,.k (.i 0)]]<|.cond (.t 95) (.q [c 96 74 [],m 97 15,s 8 3 8 96,m 9 97]<|.ret) (.skip))<|.q [m 98 0,m 99 0,l 100 18 3 true 18,
 o 101 .nilchk 98,f 102 0 101,f 103 13 102,⟨none,.st none 3,[.t 103,.t 100],none⟩,o 104 .nilchk 99,f 105 0 104,f 106 1 105,⟨none,.st none 1,[.t 106,.k (.b true)],none⟩]<|.q [
 m 107 0,m 108 0,o 109 .nilchk 108,f 110 36 109,h 111 1 false 110,m 112 16,p 113 (.iaddr 3) [.t 112,.k (.i 0)],h 114 3 true 113,c 115 81 [.t 114],
 m 116 0,o 117 .nilchk 116,f 118 0 117,f 119 3 118,h 120 1 false 119,⟨some 121,.pur (.build [E,E] [(0,1),(1,1)]),[.t 115,.t 120],none⟩,⟨some 122,.pur (.buildSl 2 1 [E,E] [0]),[.t 121],none⟩,
 ⟨some 123,.append 2 32,[.t 111,.t 122],none⟩,o 124 .nilchk 107,f 125 36 124,⟨none,.st none 1,[.t 125,.t 123],none⟩]<|.q [m 126 0,o 127 .nilchk 126,f 128 0 127,l 129 17 3 true 17,
 m 130 16,p 131 (.iaddr 3) [.t 130,.k (.i 1)],h 132 3 true 131,c 133 248 [.t 128,.t 129,.t 132],s 8 3 8 133,i 9 0]<|.ret
def f141:AFunc:=⟨134,f141b,[.cell 8 3 true,.tmp 9]⟩
def f142_l0:ACode:=.seq (.q [m 5 4,f 6 2 1,l 7 1 1 false 6,o 8 .lenL 7,p 9 (.bin .lss) [.t 5,.t 8]]<|.cond (.t 9) (.skip) (.exit 0))<|.seq (.block 1 (.ops [m 12 3,f 13 2 1,
 l 14 1 1 false 13,m 15 4,p 16 (.iaddr 3) [.t 14,.t 15],h 17 3 true 16,c 18 142 [.t 17],p 19 (.bin .add) [.t 12,.t 18],m 3 19]))<|.ops [m 10 4,
 p 11 (.bin .add) [.t 10,.k (.i 1)],m 4 11]
def f142b:ACode:=.q [x 1 0,i 2 0]<|.q [i 3 1]<|.seq (.q [i 4 0]<|.block 0 (.loop [5,6,7,8,9,10,11,12,13,14,15,16,17,18,19] [] f142_l0))<|.q [m 20 3,
 m 2 20]<|.ret
def f142:AFunc:=⟨21,f142b,[.tmp 2]⟩
def f145b:ACode:=.q [x 2 0,⟨some 4,.alloc .reg Z,[],none⟩]<|.q [l 5 2 3 true 2,m 6 1,⟨some 7,.pur (.bin .add),[.k (.s ⟨#[108,111,110,103,32]⟩),.t 6],none⟩,c 8 259 [.t 5,.t 7],s 4 3 4 8]<|
 .ret
def f145:AFunc:=⟨9,f145b,[.cell 4 3 true]⟩
def f148b:ACode:=.q [x 4 0,x 5 1,x 6 2,⟨some 8,.alloc .reg Z,[],none⟩]<|.q [m 10 3,c 11 66 [.t 10],l 12 6 3 true 6,c 13 124 [.t 12],
 ⟨some 14,.pur (.buildSl 3 2 Z [0,1]),[.t 11,.t 13],none⟩,⟨some 15,.call 62,[.k (.s ⟨#[116,105,109,101]⟩),.t 14],none⟩,⟨some 9,.alloc .reg Z,[],none⟩,s 9 3 9 15]<|.q [l 16 4 3 true 4,l 17 5 3 true 5,
 c 18 262 [.t 16,.t 17],l 19 9 3 true 9,c 20 261 [.t 18,.k (.i 54),.t 19],⟨some 21,.pur (.buildSl 3 1 Z [0]),[.t 20],none⟩,⟨some 22,.call 62,[.k (.s ⟨#[99,104,97,108,108,101,110,103,101]⟩),.t 21],none⟩,s 8 3 8 22]<|.ret
def f148:AFunc:=⟨23,f148b,[.cell 8 3 true]⟩
def f150b:ACode:=.q [x 4 0,x 5 1,x 6 2,⟨some 8,.alloc .reg Z,[],none⟩]<|.q [m 10 3,c 11 67 [.t 10],l 12 6 3 true 6,c 13 265 [.t 12],
 ⟨some 14,.pur (.buildSl 3 2 Z [0,1]),[.t 11,.t 13],none⟩,⟨some 15,.call 63,[.k (.s ⟨#[116,105,109,101]⟩),.t 14],none⟩,⟨some 9,.alloc .reg Z,[],none⟩,s 9 3 9 15]<|.q [l 16 4 3 true 4,l 17 5 3 true 5,
 c 18 267 [.t 16,.t 17],l 19 9 3 true 9,c 20 266 [.t 18,.k (.i 54),.t 19],⟨some 21,.pur (.buildSl 3 1 Z [0]),[.t 20],none⟩,⟨some 22,.call 63,[.k (.s ⟨#[99,104,97,108,108,101,110,103,101]⟩),.t 21],none⟩,s 8 3 8 22]<|.ret
def f150:AFunc:=⟨23,f150b,[.cell 8 3 true]⟩
def f151b:ACode:=.q [x 5 0,x 6 1,x 7 2,x 8 3,i 10 0]<|.q [l 21 8 3 true 8,⟨some 22,.call 79,[.k (.s ⟨#[99,104,97,108,108,101,110,103,101]⟩),.k (.i 1),.t 21],none⟩,
 m 20 22,e 23 0 20,e 24 1 20,m 11 23,m 12 24]<|.seq (.q [m 25 12,o 26 (.un .not) 25]<|.cond (.t 26) (.q [i 10 2]<|.ret) (.skip))<|
 .q [l 28 5 3 true 5,l 29 6 3 true 6,c 30 267 [.t 28,.t 29],m 31 11,p 32 (.iaddr 3) [.t 31,.k (.i 0)],h 33 3 true 32,c 34 268 [.t 30,.k (.i 54),.t 33],m 27 34,
 e 35 0 27,e 36 1 27,⟨some 13,.alloc .reg Z,[],none⟩,s 13 3 13 35,m 14 36]<|.seq (.q [m 37 14,p 38 (.bin .eql) [.t 37,.k (.i 4)]]<|.cond (.t 38) (.q [
 i 10 6]<|.ret) (.skip))<|.seq (.q [m 39 14,p 40 (.bin .neq) [.t 39,.k (.i 0)]]<|.cond (.t 40) (.q [m 41 14,m 10 41]<|.ret) (.skip))<|.q [l 43 13 3 true 13,
 ⟨some 44,.call 79,[.k (.s ⟨#[116,105,109,101]⟩),.k (.i 2),.t 43],none⟩,m 42 44,e 45 0 42,e 46 1 42,m 15 45,m 16 46]<|.seq (.q [m 47 16,o 48 (.un .not) 47]<|
 .cond (.t 48) (.q [i 10 2]<|.ret) (.skip))<|.q [m 50 15,p 51 (.iaddr 3) [.t 50,.k (.i 0)],h 52 3 true 51,c 53 88 [.t 52],m 49 53,e 54 0 49,
 e 55 1 49,m 17 54,m 18 55]<|.seq (.q [m 56 18,o 57 (.un .not) 56]<|.cond (.t 57) (.q [i 10 2]<|.ret) (.skip))<|.q [m 58 15,
 p 59 (.iaddr 3) [.t 58,.k (.i 1)],h 60 3 true 59,l 61 7 3 true 7,c 62 265 [.t 61],c 63 61 [.t 60,.t 62],m 19 63]<|.seq (.q [m 64 19,o 65 (.un .not) 64]<|.cond (.t 65) (.q [
 i 10 6]<|.ret) (.skip))<|.seq (.q [m 66 17,m 67 4,p 68 (.bin .lss) [.t 66,.t 67],m 69 68,w 70 .mov [.t 4] 69 true,w 71 .mov [.t 17] 69 true,
 w 72 (.bin .sub) [.t 70,.t 71] 69 true,w 73 (.bin .gtr) [.t 72,.k (.i 5)] 69 true,p 74 .pick [.t 69,.t 73,.k (.b false)],m 75 74,w 76 .mov [.t 17] 75 false,w 77 .mov [.t 4] 75 false,w 78 (.bin .gtr) [.t 76,.t 77] 75 false,
 w 79 .mov [.t 78] 75 false,w 80 .mov [.t 17] 79 true,w 81 .mov [.t 4] 79 true,w 82 (.bin .sub) [.t 80,.t 81] 79 true,w 83 (.bin .gtr) [.t 82,.k (.i 5)] 79 true,w 84 .pick [.t 79,.t 83,.k (.b false)] 75 false,
 p 85 .pick [.t 75,.k (.b true),.t 84]]<|.cond (.t 85) (.q [i 10 5]<|.ret) (.skip))<|.q [i 10 0]<|.ret
def f151:AFunc:=⟨86,f151b,[.tmp 10]⟩
def f154b:ACode:=.q [x 4 0,x 5 1,x 6 2,x 7 3,⟨some 8,.alloc .reg Z,[],none⟩,⟨some 9,.alloc .reg Z,[],none⟩,i 10 0]<|.q [
 l 17 6 3 true 6,⟨some 18,.call 78,[.k (.s ⟨#[115,112,97,107,101]⟩),.k (.i 1),.t 17],none⟩,m 16 18,e 19 0 16,e 20 1 16,m 11 19,m 12 20]<|.seq (.q [m 21 12,
 o 22 (.un .not) 21]<|.cond (.t 22) (.q [⟨some 23,.pur (.build Z []),[],none⟩,⟨some 24,.pur (.build Z []),[],none⟩,s 8 3 8 23,s 9 3 9 24,i 10 2]<|.ret) (.skip))<|.q [
 m 26 11,p 27 (.iaddr 3) [.t 26,.k (.i 0)],h 28 3 true 27,l 29 4 3 true 4,c 30 270 [.t 28,.t 29],m 25 30,e 31 0 25,e 32 1 25,
 ⟨some 13,.alloc .reg Z,[],none⟩,s 13 3 13 31,m 14 32]<|.seq (.q [m 33 14,p 34 (.bin .neq) [.t 33,.k (.i 0)]]<|.cond (.t 34) (.q [⟨some 35,.pur (.build Z []),[],none⟩,
 ⟨some 36,.pur (.build Z []),[],none⟩,m 37 14,s 8 3 8 35,s 9 3 9 36,m 10 37]<|.ret) (.skip))<|.q [l 38 7 3 true 7,l 39 13 3 true 13,
 l 40 4 3 true 4,m 41 11,p 42 (.iaddr 3) [.t 41,.k (.i 0)],h 43 3 true 42,l 44 7 3 true 7,l 45 4 3 true 4,c 46 269 [.t 44,.t 45],l 47 5 3 true 5,
 ⟨some 48,.pur (.build [.i 0,E,N,.i 0,E,N,.i 0,E,N,.i 0,E,N,.i 0,E,N,.i 0,E,N] [(0,3),(3,3),(6,3),(9,3),(12,3),(15,3)]),[.t 38,.t 39,.t 40,.t 43,.t 46,.t 47],none⟩,
 ⟨some 15,.alloc .reg [.i 0,E,N,.i 0,E,N,.i 0,E,N,.i 0,E,N,.i 0,E,N,.i 0,E,N],[],none⟩,s 15 18 15 48]<|.q [f 49 12 15,l 50 15 3 true 49,
 l 51 15 18 true 15,c 52 271 [.t 51],⟨some 53,.pur (.buildSl 3 2 Z [0,1]),[.t 50,.t 52],none⟩,⟨some 54,.call 62,[.k (.s ⟨#[115,112,97,107,101]⟩),.t 53],none⟩,l 55 15 18 true 15,c 56 272 [.t 55,.k (.i 0)],s 8 3 8 54,
 s 9 3 9 56,i 10 0]<|.ret
def f154:AFunc:=⟨57,f154b,[.cell 8 3 true,.cell 9 3 true,.tmp 10]⟩
def f156b:ACode:=.q [x 3 0,x 4 1,x 5 2,⟨some 6,.alloc .reg Z,[],none⟩,i 7 0]<|.q [l 11 4 3 true 4,⟨some 12,.call 78,[.k (.s ⟨#[111,116,112]⟩),.k (.i 1),.t 11],none⟩,
 m 10 12,e 13 0 10,e 14 1 10,m 8 13,m 9 14]<|.seq (.q [m 15 9,o 16 (.un .not) 15]<|.cond (.t 16) (.q [
 ⟨some 17,.pur (.build Z []),[],none⟩,s 6 3 6 17,i 7 2]<|.ret) (.skip))<|.q [l 18 3 3 true 3,m 19 8,p 20 (.iaddr 3) [.t 19,.k (.i 0)],h 21 3 true 20,
 l 22 5 3 true 5,⟨some 23,.pur (.buildSl 3 2 Z [0,1]),[.t 21,.t 22],none⟩,⟨some 24,.call 62,[.k (.s ⟨#[99,111,100,101]⟩),.t 23],none⟩,c 25 261 [.t 18,.k (.i 45),.t 24],⟨some 26,.pur (.buildSl 3 1 Z [0]),[.t 25],none⟩,
 ⟨some 27,.call 62,[.k (.s ⟨#[111,116,112]⟩),.t 26],none⟩,s 6 3 6 27,i 7 0]<|.ret
def f156:AFunc:=⟨28,f156b,[.cell 6 3 true,.tmp 7]⟩
def f158b:ACode:=.q [x 2 0,⟨some 4,.alloc .reg Z,[],none⟩]<|.q [l 5 2 3 true 2,m 6 1,c 7 139 [.t 6],⟨some 8,.pur (.bin .add),[.k (.s ⟨#[111,116,112,32]⟩),.t 7],none⟩,c 9 259 [.t 5,.t 8],
 s 4 3 4 9]<|.ret
def f158:AFunc:=⟨10,f158b,[.cell 4 3 true]⟩
def f161b:ACode:=.q [⟨some 2,.alloc .reg Z,[],none⟩]<|.q [m 3 0,⟨some 4,.pur (.build Z [(0,1),(1,1)]),[.k (.i 1),.t 3],none⟩,s 2 3 2 4]<|.ret
def f161:AFunc:=⟨5,f161b,[.cell 2 3 true]⟩
def f172b:ACode:=.q [x 2 0,x 3 1,⟨some 4,.alloc .reg Z,[],none⟩]<|.q [l 5 2 3 true 2,l 6 3 3 true 3,⟨some 7,.pur (.buildSl 3 2 Z [0,1]),[.t 5,.t 6],none⟩,
 ⟨some 8,.pur (.build Z [(0,1),(2,1)]),[.k (.i 10),.t 7],none⟩,s 4 3 4 8]<|.ret
def f172:AFunc:=⟨9,f172b,[.cell 4 3 true]⟩
def f173b:ACode:=.q [x 1 0,⟨some 2,.alloc .reg Z,[],none⟩]<|.q [l 3 1 3 true 1,⟨some 4,.pur (.buildSl 3 1 Z [0]),[.t 3],none⟩,⟨some 5,.pur (.build Z [(0,1),(2,1)]),[.k (.i 8),.t 4],none⟩,
 s 2 3 2 5]<|.ret
def f173:AFunc:=⟨6,f173b,[.cell 2 3 true]⟩
def f175b:ACode:=.q [x 2 0,x 3 1,⟨some 4,.alloc .reg Z,[],none⟩]<|.q [l 5 2 3 true 2,l 6 3 3 true 3,
 ⟨some 7,.call 293,[.t 5,.t 6,.k (.s ⟨#[115,117,98,107,101,121,97,114,109,111,114]⟩),.k (.s ⟨#[116,105,99,107,101,116,97,114,109,111,114]⟩)],none⟩,s 4 3 4 7]<|.ret
def f175:AFunc:=⟨8,f175b,[.cell 4 3 true]⟩
def f191_l0:ACode:=.q [p 28 (.bin .lss) [.t 27,.t 26]]<|.seq (.cond (.t 28) (.skip) (.exit 2))<|.seq (.block 3 (.q [p 29 (.iaddr 1) [.t 25,.t 27],h 30 1 false 29,m 8 30]<|.ops [m 31 6,m 32 8,
 ⟨some 33,.append 3 48,[.t 31,.t 32],none⟩,m 6 33]))<|.ops [p 34 (.bin .add) [.t 27,.k (.i 1)],m 27 34]
def f191_l1:ACode:=.q [p 12 (.bin .lss) [.t 11,.t 10]]<|.seq (.cond (.t 12) (.skip) (.exit 0))<|.seq (.block 1 (.q [p 13 (.iaddr 1) [.t 9,.t 11],h 14 1 false 13,m 5 14]<|.q [m 15 3,m 16 5,
 o 17 .lenL 16,p 18 (.bin .add) [.t 15,.t 17],m 3 18]<|.q [m 19 3,p 20 (.bin .lss) [.t 19,.k (.i 0)]]<|.cond (.t 20) (.ops [⟨some 21,.bad,[],none⟩,⟨none,.bad,[],none⟩]) (.skip)))<|.ops [p 22 (.bin .add) [.t 11,.k (.i 1)],
 m 11 22]
def f191b:ACode:=.q [k 2 N]<|.q [i 3 0]<|.seq (.q [m 9 0,o 10 .lenL 9,i 11 0]<|.block 0 (.loop [5,12,13,14,15,16,17,18,19,20,21,22] [] f191_l1))<|.q [
 m 23 3,⟨some 24,.call 304,[.k N,.t 23],none⟩,m 6 24]<|.seq (.q [m 25 0,o 26 .lenL 25,i 27 0]<|.block 2 (.loop [8,28,29,30,31,32,33,34] [] f191_l0))<|.q [m 35 6,
 m 2 35]<|.ret
def f191:AFunc:=⟨36,f191b,[.tmp 2]⟩
def f192b:ACode:=.q [⟨some 2,.alloc .reg Z,[],none⟩]<|.q [m 3 0,⟨some 4,.call 228,[.k (.i 1),.t 3,.k N],none⟩,s 2 3 2 4]<|.ret
def f192:AFunc:=⟨5,f192b,[.cell 2 3 true]⟩
def f194b:ACode:=.q [x 1 0,⟨some 2,.pur .mov,[.k E],none⟩,k 3 (.b false)]<|.q [f 4 1 1,l 5 1 1 false 4,f 6 0 1,l 7 1 1 false 6,
 p 8 (.bin .eql) [.t 7,.k (.i 1)],m 9 8,w 10 (.faddr 2) [.t 1] 9 true,u 11 (.ld (some 1) 1 false) [.t 10] 9 true,w 12 .lenL [.t 11] 9 true,w 13 (.bin .eql) [.t 12,.k (.i 0)] 9 true,p 14 .pick [.t 9,.t 13,.k (.b false)],
 m 2 5,m 3 14]<|.ret
def f194:AFunc:=⟨15,f194b,[.tmp 2,.tmp 3]⟩
def f195b:ACode:=.q [⟨some 4,.pur .mov,[.k E],none⟩,k 5 (.b false)]<|.q [m 6 0,m 7 1,c 8 306 [.t 6,.t 7],e 9 0 8,e 10 1 8,m 4 9,
 m 5 10]<|.ret
def f195:AFunc:=⟨11,f195b,[.tmp 4,.tmp 5]⟩
def f200b:ACode:=.q [x 2 0,⟨some 4,.alloc .reg Z,[],none⟩]<|.q [l 5 2 3 true 2,m 6 1,⟨some 7,.pur (.bin .add),[.k (.s ⟨#[108,111,110,103,32]⟩),.t 6],none⟩,c 8 312 [.t 5,.t 7],s 4 3 4 8]<|
 .ret
def f200:AFunc:=⟨9,f200b,[.cell 4 3 true]⟩
def f204b:ACode:=.q [x 1 0,k 2 (.sc (.pointer none))]<|.q [l 3 1 14 true 1,f 4 1 1,l 5 1 3 true 4,f 6 0 1,l 7 1 1 false 6,c 8 200 [.t 5,.t 7],
 ⟨some 9,.pur (.build [.b false,.b false,.b false,E,.i 0,E,N,.i 0,E,N,.i 0,E,N,.i 0,E,N,.i 0,E,N,E,.i 0,E,N,.i 0,E,N,.i 0,.i 0,E,N,.i 0,E,N,.i 0,E,N,N] [(19,14),(33,3)]),[.t 3,.t 8],none⟩,
 ⟨some 10,.box .heap,[.t 9],none⟩,m 2 10]<|.ret
def f204:AFunc:=⟨11,f204b,[.tmp 2]⟩
def f211b:ACode:=.q [x 1 0,k 2 (.b false)]<|.q [l 4 1 3 true 1,c 5 219 [.t 4],m 3 5]<|.q [m 6 3,m 7 6,u 8 (.ld (some 1) 3 true) [.t 1] 7 true,
 u 9 (.call 314) [.t 8,.k (.i 61)] 7 true,w 10 (.bin .leq) [.t 9,.k (.i 57)] 7 true,p 11 .pick [.t 7,.t 10,.k (.b false)],m 2 11]<|.ret
def f211:AFunc:=⟨12,f211b,[.tmp 2]⟩
def f212b:ACode:=.q [⟨some 2,.alloc .reg Z,[],none⟩]<|.q [m 3 0,⟨some 4,.pur (.build Z [(0,1),(1,1)]),[.k (.i 1),.t 3],none⟩,s 2 3 2 4]<|.ret
def f212:AFunc:=⟨5,f212b,[.cell 2 3 true]⟩
def f213b:ACode:=.q [⟨some 2,.pur .mov,[.k E],none⟩]<|.seq (.q [m 3 0,p 4 (.bin .lss) [.t 3,.k (.i 0)]]<|.cond (.t 4) (.seq (.q [m 5 0,p 6 (.bin .gtr) [.t 5,.k (.i (-10))]]<|.cond (.t 6) (.q [m 7 0,
 p 8 (.bin .sub) [.k (.i 48),.t 7],o 9 (.toInt .u8) 8,⟨some 10,.pur (.buildSl 1 1 [.sc (.int .u8 (0))] [0]),[.t 9],none⟩,o 11 .bytesStr 10,⟨some 12,.pur (.bin .add),[.k (.s ⟨#[45]⟩),.t 11],none⟩,m 2 12]<|.ret) (.skip))<|.q [m 13 0,
 p 14 (.bin .quo) [.t 13,.k (.i 10)],c 15 213 [.t 14],m 16 0,p 17 (.bin .rem) [.t 16,.k (.i 10)],p 18 (.bin .sub) [.k (.i 48),.t 17],o 19 (.toInt .u8) 18,⟨some 20,.pur (.buildSl 1 1 [.sc (.int .u8 (0))] [0]),[.t 19],none⟩,
 o 21 .bytesStr 20,p 22 (.bin .add) [.t 15,.t 21],m 2 22]<|.ret) (.skip))<|.seq (.q [m 23 0,p 24 (.bin .lss) [.t 23,.k (.i 10)]]<|.cond (.t 24) (.q [m 25 0,p 26 (.bin .add) [.k (.i 48),.t 25],
 o 27 (.toInt .u8) 26,⟨some 28,.pur (.buildSl 1 1 [.sc (.int .u8 (0))] [0]),[.t 27],none⟩,o 29 .bytesStr 28,m 2 29]<|.ret) (.skip))<|.q [m 30 0,p 31 (.bin .quo) [.t 30,.k (.i 10)],c 32 213 [.t 31],m 33 0,
 p 34 (.bin .rem) [.t 33,.k (.i 10)],p 35 (.bin .add) [.k (.i 48),.t 34],o 36 (.toInt .u8) 35,⟨some 37,.pur (.buildSl 1 1 [.sc (.int .u8 (0))] [0]),[.t 36],none⟩,o 38 .bytesStr 37,p 39 (.bin .add) [.t 32,.t 38],m 2 39]<|.ret
def f213:AFunc:=⟨40,f213b,[.tmp 2]⟩
def f219b:ACode:=.q [x 1 0,k 2 (.b false)]<|.q [l 3 1 3 true 1,c 4 243 [.t 3],⟨some 5,.pur (.bin .neq),[.t 4,.k E],none⟩,m 6 5,u 7 (.ld (some 1) 3 true) [.t 1] 6 true,u 8 (.call 316) [.t 7] 6 true,
 p 9 .pick [.t 6,.t 8,.k (.b false)],m 2 9]<|.ret
def f219:AFunc:=⟨10,f219b,[.tmp 2]⟩
def f220_l0:ACode:=.seq (.q [m 92 14,f 93 2 1,l 94 1 1 false 93,p 95 (.iaddr 3) [.t 94,.k (.i 3)],f 96 2 95,h 97 1 false 96,o 98 .lenL 97,
 p 99 (.bin .lss) [.t 92,.t 98]]<|.cond (.t 99) (.skip) (.exit 0))<|.seq (.block 1 (.q [f 103 2 1,l 104 1 1 false 103,p 105 (.iaddr 3) [.t 104,.k (.i 3)],f 106 2 105,h 107 1 false 106,m 108 14,
 p 109 (.iaddr 3) [.t 107,.t 108],h 110 3 true 109,⟨some 111,.call 317,[.t 110,.k (.s ⟨#[100]⟩)],none⟩,m 102 111,e 112 0 102,e 113 1 102,m 15 112,m 16 113]<|.q [
 m 114 13,m 115 114,w 116 .mov [.t 16] 115 true,p 117 .pick [.t 115,.t 116,.k (.b false)],m 13 117]<|.ops [f 118 2 4,l 119 4 1 false 118,m 120 15,
 ⟨some 121,.pur (.buildSl 1 1 [E] [0]),[.t 120],none⟩,⟨some 122,.append 1 16,[.t 119,.t 121],none⟩,f 123 2 4,s 4 1 123 122]))<|.ops [m 100 14,p 101 (.bin .add) [.t 100,.k (.i 1)],m 14 101]
def f220b:ACode:=.q [x 1 0,⟨some 2,.alloc .reg [E,E,N,.i 0,E,N,.i 0],[],none⟩,k 3 (.b false)]<|.q [⟨some 18,.pur (.build [E,E,N,.i 0,E,N,.i 0] []),[],none⟩,
 ⟨some 4,.alloc .reg [E,E,N,.i 0,E,N,.i 0],[],none⟩,s 4 7 4 18]<|.seq (.q [f 19 0 1,l 20 1 1 false 19,p 21 (.bin .neq) [.t 20,.k (.i 3)],m 22 21,
 w 23 (.faddr 2) [.t 1] 22 false,u 24 (.ld (some 1) 1 false) [.t 23] 22 false,w 25 .lenL [.t 24] 22 false,w 26 (.bin .neq) [.t 25,.k (.i 6)] 22 false,p 27 .pick [.t 22,.k (.b true),.t 26],m 28 27,w 29 (.faddr 2) [.t 1] 28 false,
 u 30 (.ld (some 1) 1 false) [.t 29] 28 false,w 31 (.iaddr 3) [.t 30,.k (.i 0)] 28 false,w 32 (.faddr 0) [.t 31] 28 false,u 33 (.ld none 1 false) [.t 32] 28 false,w 34 (.bin .neq) [.t 33,.k (.i 1)] 28 false,p 35 .pick [.t 28,.k (.b true),.t 34],
 m 36 35,w 37 (.faddr 2) [.t 1] 36 false,u 38 (.ld (some 1) 1 false) [.t 37] 36 false,w 39 (.iaddr 3) [.t 38,.k (.i 0)] 36 false,w 40 (.faddr 1) [.t 39] 36 false,u 41 (.ld none 1 false) [.t 40] 36 false,
 ⟨some 42,.pur (.bin .neq),[.t 41,.k (.s ⟨#[99,111,111,107,105,101]⟩)],some (36,false)⟩,p 43 .pick [.t 36,.k (.b true),.t 42],m 44 43,w 45 (.faddr 2) [.t 1] 44 false,u 46 (.ld (some 1) 1 false) [.t 45] 44 false,w 47 (.iaddr 3) [.t 46,.k (.i 3)] 44 false,
 w 48 (.faddr 0) [.t 47] 44 false,u 49 (.ld none 1 false) [.t 48] 44 false,w 50 (.bin .neq) [.t 49,.k (.i 3)] 44 false,p 51 .pick [.t 44,.k (.b true),.t 50]]<|.cond (.t 51) (.q [l 52 4 7 true 4,s 2 7 2 52,
 k 3 (.b false)]<|.ret) (.skip))<|.q [f 54 2 1,l 55 1 1 false 54,p 56 (.iaddr 3) [.t 55,.k (.i 1)],h 57 3 true 56,⟨some 58,.call 317,[.t 57,.k (.s ⟨#[99]⟩)],none⟩,m 53 58,
 e 59 0 53,e 60 1 53,m 5 59,m 6 60]<|.q [f 62 2 1,l 63 1 1 false 62,p 64 (.iaddr 3) [.t 63,.k (.i 2)],h 65 3 true 64,
 ⟨some 66,.call 317,[.t 65,.k (.s ⟨#[110]⟩)],none⟩,m 61 66,e 67 0 61,e 68 1 61,m 7 67,m 8 68]<|.q [f 70 2 1,l 71 1 1 false 70,
 p 72 (.iaddr 3) [.t 71,.k (.i 5)],h 73 3 true 72,⟨some 74,.call 317,[.t 73,.k (.s ⟨#[117]⟩)],none⟩,m 69 74,e 75 0 69,e 76 1 69,m 9 75,m 10 76]<|.q [
 m 78 9,c 79 318 [.t 78],m 77 79,e 80 0 77,e 81 1 77,m 11 80,m 12 81]<|.q [m 82 6,m 83 82,
 w 84 .mov [.t 8] 83 true,p 85 .pick [.t 83,.t 84,.k (.b false)],m 86 85,w 87 .mov [.t 10] 86 true,p 88 .pick [.t 86,.t 87,.k (.b false)],m 89 88,w 90 .mov [.t 12] 89 true,p 91 .pick [.t 89,.t 90,.k (.b false)],
 m 13 91]<|.seq (.q [i 14 0]<|.block 0 (.loop [15,16,92,93,94,95,96,97,98,99,100,101,102,103,104,105,106,107,108,109,110,111,112,113,114,115,116,117,118,119,120,121,122,123] [] f220_l0))<|.q [f 124 2 1,
 l 125 1 1 false 124,p 126 (.iaddr 3) [.t 125,.k (.i 4)],h 127 3 true 126,c 128 211 [.t 127],m 17 128]<|.q [m 129 5,f 130 0 4,s 4 1 130 129]<|.q [
 m 131 7,f 132 1 4,s 4 1 132 131]<|.q [m 133 11,f 134 6 4,s 4 1 134 133]<|.q [f 135 2 1,l 136 1 1 false 135,
 p 137 (.iaddr 3) [.t 136,.k (.i 4)],h 138 3 true 137,f 139 3 4,s 4 3 139 138]<|.q [l 140 4 7 true 4,m 141 13,m 142 141,w 143 .mov [.t 17] 142 true,
 p 144 .pick [.t 142,.t 143,.k (.b false)],s 2 7 2 140,m 3 144]<|.ret
def f220:AFunc:=⟨145,f220b,[.cell 2 7 true,.tmp 3]⟩
def f221b:ACode:=.q [x 2 0,o 3 .ibox 1,k 4 (.b false)]<|.seq (.q [h 6 1 false 3,p 7 (.bin .eql) [.t 6,.k (.i 0)],m 8 7,u 9 (.ld (some 2) 3 true) [.t 2] 8 false,
 u 10 (.call 319) [.t 9] 8 false,w 11 (.un .not) [.t 10] 8 false,p 12 .pick [.t 8,.k (.b true),.t 11],m 13 12,w 14 (.faddr 0) [.t 2] 13 false,u 15 (.ld (some 2) 1 false) [.t 14] 13 false,w 16 (.iaddrA 3 11) [.g 0,.t 15] 13 false,
 w 17 (.faddr 2) [.t 16] 13 false,u 18 (.ld none 1 false) [.t 17] 13 false,w 19 (.faddr 1) [.t 2] 13 false,u 20 (.ld (some 2) 1 false) [.t 19] 13 false,⟨some 21,.pur (.bin .eql),[.t 20,.k E],some (13,false)⟩,w 22 (.eqB false) [.t 18,.t 21] 13 false,
 p 23 .pick [.t 13,.k (.b true),.t 22]]<|.cond (.t 23) (.q [k 4 (.b false)]<|.ret) (.skip))<|.seq (.q [f 24 0 2,l 25 2 1 false 24,p 26 (.iaddrA 3 11) [.g 0,.t 25],f 27 1 26,
 h 28 1 false 27,m 5 28]<|.q [m 29 5,p 30 (.bin .geq) [.t 29,.k (.i 0)],m 31 30,w 32 (.faddr 2) [.t 2] 31 true,u 33 (.ld (some 2) 1 false) [.t 32] 31 true,w 34 .lenL [.t 33] 31 true,
 w 35 .mov [.t 5] 31 true,w 36 (.bin .neq) [.t 34,.t 35] 31 true,p 37 .pick [.t 31,.t 36,.k (.b false)]]<|.cond (.t 37) (.q [k 4 (.b false)]<|.ret) (.skip))<|.q [f 38 2 2,l 39 2 1 false 38,
 o 40 (.mkfn 321 0) 3,c 41 320 [.t 39,.t 40],o 42 (.un .not) 41,m 4 42]<|.ret
def f221:AFunc:=⟨43,f221b,[.tmp 4]⟩
def f224_l0:ACode:=.q [p 18 (.bin .lss) [.t 17,.t 16]]<|.seq (.cond (.t 18) (.skip) (.exit 0))<|.seq (.block 1 (.q [m 19 17,p 20 (.iaddr 3) [.t 15,.t 17],h 21 3 true 20,⟨some 8,.alloc .reg Z,[],none⟩,m 7 19,
 s 8 3 8 21]<|.q [m 22 1,m 23 7,p 24 (.iaddr 3) [.t 22,.t 23],h 25 3 true 24,⟨some 9,.alloc .reg Z,[],none⟩,s 9 3 9 25]<|.q [m 26 2,
 l 27 8 3 true 8,l 28 9 3 true 9,⟨some 29,.callv,[.t 26,.t 27,.t 28],none⟩,o 30 (.un .not) 29]<|.cond (.t 30) (.q [k 6 (.b false)]<|.ret) (.skip)))<|.ops [p 31 (.bin .add) [.t 17,.k (.i 1)],m 17 31]
def f224b:ACode:=.q [k 6 (.b false)]<|.seq (.q [m 10 0,o 11 .lenL 10,m 12 1,o 13 .lenL 12,p 14 (.bin .neq) [.t 11,.t 13]]<|.cond (.t 14) (.q [k 6 (.b false)]<|.ret) (.skip))<|
 .seq (.q [m 15 0,o 16 .lenL 15,i 17 0]<|.block 0 (.loop [6,7,8,9,18,19,20,21,22,23,24,25,26,27,28,29,30,31] [8,9] f224_l0))<|.q [k 6 (.b true)]<|.ret
def f224:AFunc:=⟨32,f224b,[.tmp 6]⟩
def f227_l0:ACode:=.q [p 39 (.bin .lss) [.t 38,.t 37]]<|.seq (.cond (.t 39) (.skip) (.exit 0))<|.seq (.block 1 (.q [p 40 (.iaddr 3) [.t 36,.t 38],h 41 3 true 40,⟨some 6,.alloc .reg Z,[],none⟩,s 6 3 6 41]<|.ops [
 m 42 4,l 43 6 3 true 6,c 44 227 [.t 43],⟨some 45,.pur (.buildSl 1 1 [E] [0]),[.t 44],none⟩,⟨some 46,.append 1 16,[.t 42,.t 45],none⟩,m 4 46]))<|.ops [p 47 (.bin .add) [.t 38,.k (.i 1)],m 38 47]
def f227b:ACode:=.q [x 1 0,⟨some 2,.pur .mov,[.k E],none⟩]<|.q [f 7 0 1,l 8 1 1 false 7,p 9 (.iaddrA 3 11) [.g 0,.t 8],f 10 0 9,h 11 1 false 10,m 3 11]<|
 .seq (.q [f 12 1 1,l 13 1 1 false 12,⟨some 14,.pur (.bin .neq),[.t 13,.k E],none⟩]<|.cond (.t 14) (.ops [m 15 3,f 16 1 1,l 17 1 1 false 16,o 18 .lenS 17,c 19 193 [.t 18],
 ⟨some 20,.pur (.bin .add),[.t 19,.k (.s ⟨#[58]⟩)],none⟩,f 21 1 1,l 22 1 1 false 21,p 23 (.bin .add) [.t 20,.t 22],p 24 (.bin .add) [.t 15,.t 23],m 3 24]) (.skip))<|.seq (.q [f 25 2 1,
 l 26 1 1 false 25,o 27 .lenL 26,p 28 (.bin .eql) [.t 27,.k (.i 0)],m 29 28,w 30 (.faddr 0) [.t 1] 29 true,u 31 (.ld (some 1) 1 false) [.t 30] 29 true,w 32 (.bin .neq) [.t 31,.k (.i 3)] 29 true,
 p 33 .pick [.t 29,.t 32,.k (.b false)]]<|.cond (.t 33) (.q [m 34 3,m 2 34]<|.ret) (.skip))<|.q [k 4 N]<|.seq (.q [f 35 2 1,l 36 1 1 false 35,o 37 .lenL 36,
 i 38 0]<|.block 0 (.loop [6,39,40,41,42,43,44,45,46,47] [6] f227_l0))<|.q [m 48 3,⟨some 49,.pur (.bin .add),[.t 48,.k (.s ⟨#[40]⟩)],none⟩,m 50 4,⟨some 51,.call 324,[.t 50,.k (.s ⟨#[44]⟩)],none⟩,p 52 (.bin .add) [.t 49,.t 51],
 ⟨some 53,.pur (.bin .add),[.t 52,.k (.s ⟨#[41]⟩)],none⟩,m 2 53]<|.ret
def f227:AFunc:=⟨54,f227b,[.tmp 2]⟩
def f228b:ACode:=.q [⟨some 6,.alloc .reg Z,[],none⟩]<|.q [m 7 0,m 8 1,m 9 2,c 10 256 [.t 9],⟨some 11,.pur (.build Z [(0,1),(1,1),(2,1)]),[.t 7,.t 8,.t 10],none⟩,
 s 6 3 6 11]<|.ret
def f228:AFunc:=⟨12,f228b,[.cell 6 3 true]⟩
def f229b:ACode:=.q [x 2 0,x 3 1,k 4 (.b false)]<|.q [l 5 2 3 true 2,c 6 121 [.t 5],l 7 3 3 true 3,c 8 121 [.t 7],p 9 (.bin .lss) [.t 6,.t 8],
 m 4 9]<|.ret
def f229:AFunc:=⟨10,f229b,[.tmp 4]⟩
def f232b:ACode:=.q [i 2 0]<|.q [m 3 0,o 4 .nilchk 3,f 5 19 4,f 6 7 5,h 7 1 false 6,m 2 7]<|.ret
def f232:AFunc:=⟨8,f232b,[.tmp 2]⟩
def f233b:ACode:=.q [⟨some 0,.alloc .reg Z,[],none⟩]<|.q [⟨some 1,.call 140,[.k (.s ⟨#[107,100,99]⟩)],none⟩,⟨some 2,.call 140,[.k (.s ⟨#[104,111,115,116]⟩)],none⟩,c 3 286 [.t 1,.t 2],s 0 3 0 3]<|.ret
def f233:AFunc:=⟨4,f233b,[.cell 0 3 true]⟩
def f234b:ACode:=.q [x 7 1,x 8 2,x 10 4,x 11 5,k 12 (.sc (.pointer none))]<|.q [m 13 0,l 14 7 3 true 7,m 15 0,
 c 16 145 [.t 14,.t 15],l 17 8 3 true 8,m 18 3,l 19 10 3 true 10,l 20 11 3 true 11,
 ⟨some 21,.pur (.build [E,.i 0,E,N,.i 0,E,N,.i 0,.i 0,E,N,.i 0,E,N,.b false,E,.i 0,E,N,.i 0,E,N,.i 0,E,N,.i 0,E,N,.b false,N,.i 0,E,N,.b false] [(0,1),(1,3),(4,3),(7,1),(8,3),(11,3)]),[.t 13,.t 16,.t 17,.t 18,.t 19,.t 20],none⟩,
 ⟨some 22,.box .heap,[.t 21],none⟩,m 12 22]<|.ret
def f234:AFunc:=⟨23,f234b,[.tmp 12]⟩
def f235b:ACode:=.q [x 4 0,x 5 1,k 8 (.sc (.pointer none)),i 9 0]<|.q [m 13 2,c 14 329 [.t 13],m 12 14,e 15 0 12,
 e 16 1 12,m 10 15,m 11 16]<|.seq (.q [m 17 11,p 18 (.bin .neq) [.t 17,.k (.i 0)]]<|.cond (.t 18) (.q [m 19 11,k 8 (.sc (.pointer none)),m 9 19]<|
 .ret) (.skip))<|.seq (.q [m 20 3,p 21 (.bin .lss) [.t 20,.k (.i 0)],m 22 21,w 23 .mov [.t 3] 22 false,w 24 (.bin .gtr) [.t 23,.k (.i 64)] 22 false,p 25 .pick [.t 22,.k (.b true),.t 24]]<|.cond (.t 25) (.q [
 k 8 (.sc (.pointer none)),i 9 1]<|.ret) (.skip))<|.q [l 26 4 3 true 4,l 27 5 3 true 5,m 28 10,m 29 3,m 30 3,c 31 54 [.t 30],
 ⟨some 32,.pur (.build [.i 0,E,N,.i 0,E,N,.sc (.pointer none),.i 0,.sc (.pointer none),.i 0,N] [(0,3),(3,3),(6,1),(7,1),(8,1)]),[.t 26,.t 27,.t 28,.t 29,.t 31],none⟩,⟨some 33,.box .heap,[.t 32],none⟩,m 8 33,i 9 0]<|.ret
def f235:AFunc:=⟨34,f235b,[.tmp 8,.tmp 9]⟩
def f236b:ACode:=.q [x 5 2,⟨some 6,.alloc .reg Z,[],none⟩]<|.q [m 7 0,o 8 .nilchk 7,f 9 14 8,⟨none,.st none 1,[.t 9,.k (.b true)],none⟩]<|.q [m 10 0,
 m 11 1,o 12 .nilchk 10,f 13 15 12,⟨none,.st none 1,[.t 13,.t 11],none⟩]<|.q [m 14 0,m 15 0,o 16 .nilchk 15,f 17 0 16,h 18 1 false 17,
 m 19 1,c 20 77 [.t 18,.t 19],o 21 .nilchk 14,f 22 16 21,⟨none,.st none 3,[.t 22,.t 20],none⟩]<|.q [m 23 0,m 24 0,o 25 .nilchk 24,f 26 8 25,
 h 27 3 true 26,m 28 0,o 29 .nilchk 28,f 30 11 29,h 31 3 true 30,l 32 5 3 true 5,c 33 285 [.t 27,.t 31,.t 32],o 34 .nilchk 23,f 35 19 34,
 ⟨none,.st none 3,[.t 35,.t 33],none⟩]<|.q [m 36 0,l 37 5 3 true 5,m 38 0,o 39 .nilchk 38,f 40 11 39,h 41 3 true 40,c 42 175 [.t 37,.t 41],o 43 .nilchk 36,
 f 44 22 43,⟨none,.st none 3,[.t 44,.t 42],none⟩]<|.q [m 45 0,o 46 .nilchk 45,f 47 28 46,⟨none,.st none 1,[.t 47,.k (.b false)],none⟩]<|.q [m 48 0,o 49 .nilchk 48,
 f 50 33 49,⟨none,.st none 1,[.t 50,.k (.b false)],none⟩]<|.q [m 51 0,c 52 75 [],c 53 75 [],c 54 330 [.t 51,.t 52,.t 53],s 6 3 6 54]<|.ret
def f236:AFunc:=⟨55,f236b,[.cell 6 3 true]⟩
def f237b:ACode:=.q [x 3 1,⟨some 4,.alloc .reg Z,[],none⟩]<|.q [m 13 0,o 14 .nilchk 13,f 15 1 14,h 16 1 false 15,o 17 .nilchk 16,f 18 15 17,
 h 19 1 false 18,m 5 19]<|.seq (.q [f 20 2 3,l 21 3 1 false 20,p 22 (.bin .eql) [.t 21,.k (.i 1)]]<|.cond (.t 22) (.ops [m 23 5,⟨some 24,.pur (.bin .add),[.t 23,.k (.s ⟨#[120]⟩)],none⟩,
 m 5 24]) (.skip))<|.q [m 25 0,o 26 .nilchk 25,f 27 1 26,h 28 1 false 27,o 29 .nilchk 28,f 30 22 29,h 31 3 true 30,
 ⟨some 6,.alloc .reg Z,[],none⟩,s 6 3 6 31]<|.seq (.q [f 32 2 3,l 33 3 1 false 32,p 34 (.bin .eql) [.t 33,.k (.i 2)]]<|.cond (.t 34) (.ops [⟨some 35,.call 140,[.k (.s ⟨#[101,118,105,108]⟩)],none⟩,
 s 6 3 6 35]) (.skip))<|.seq (.q [f 36 0 3,l 37 3 1 false 36,p 38 (.bin .eql) [.t 37,.k (.i 4)]]<|.cond (.t 38) (.q [⟨some 39,.call 63,[.k (.s ⟨#[99,104,97,108,108,101,110,103,101]⟩),.k N],none⟩,
 ⟨some 40,.call 140,[.k (.s ⟨#[110,111,110,99,101]⟩)],none⟩,c 41 283 [.t 40],⟨some 42,.call 140,[.k (.s ⟨#[112,97,115,115,119,111,114,100,32,97]⟩)],none⟩,⟨some 43,.call 145,[.t 42,.k (.s ⟨#[97]⟩)],none⟩,⟨some 44,.call 140,[.k (.s ⟨#[121]⟩)],none⟩,c 45 331 [.t 43,.t 44],⟨some 46,.call 140,[.k (.s ⟨#[110,111]⟩)],none⟩,
 ⟨some 47,.call 140,[.k (.s ⟨#[121]⟩)],none⟩,c 48 331 [.t 46,.t 47],c 49 75 [],⟨some 50,.call 63,[.k (.s ⟨#[111,116,112]⟩),.k N],none⟩,⟨some 51,.call 140,[.k (.s ⟨#[121]⟩)],none⟩,⟨some 52,.pur (.buildSl 3 1 Z [0]),[.t 51],none⟩,
 ⟨some 53,.call 63,[.k (.s ⟨#[115,112,97,107,101]⟩),.t 52],none⟩,⟨some 54,.call 140,[.k (.s ⟨#[122]⟩)],none⟩,⟨some 55,.pur (.buildSl 3 8 Z [0,1,2,3,4,5,6,7]),[.t 39,.t 41,.t 45,.t 48,.t 49,.t 50,.t 53,.t 54],none⟩,m 7 55]<|.q [l 56 6 3 true 6,
 m 57 5,m 58 7,f 59 1 3,l 60 3 1 false 59,p 61 (.bin .and) [.t 60,.k (.i 7)],p 62 (.iaddr 3) [.t 58,.t 61],h 63 3 true 62,⟨some 64,.call 140,[.k (.s ⟨#[99,111,111,107,105,101]⟩)],none⟩,
 ⟨some 65,.pur (.buildSl 3 2 Z [0,1]),[.t 63,.t 64],none⟩,⟨some 66,.call 63,[.k (.s ⟨#[109,111,114,101]⟩),.t 65],none⟩,c 67 332 [.t 56,.t 57,.t 66],s 4 3 4 67]<|.ret) (.skip))<|.q [⟨some 68,.call 140,[.k (.s ⟨#[116,105,99,107,101,116]⟩)],none⟩,
 ⟨some 8,.alloc .reg Z,[],none⟩,s 8 3 8 68]<|.q [l 69 8 3 true 8,c 70 265 [.t 69],⟨some 9,.alloc .reg Z,[],none⟩,s 9 3 9 70]<|.seq (.q [f 71 2 3,
 l 72 3 1 false 71,p 73 (.bin .eql) [.t 72,.k (.i 3)]]<|.cond (.t 73) (.ops [l 74 9 3 true 9,c 75 265 [.t 74],s 9 3 9 75]) (.skip))<|.q [m 76 0,o 77 .nilchk 76,
 f 78 1 77,h 79 1 false 78,o 80 .nilchk 79,f 81 25 80,h 82 3 true 81,⟨some 10,.alloc .reg Z,[],none⟩,s 10 3 10 82]<|.seq (.q [f 83 2 3,
 l 84 3 1 false 83,p 85 (.bin .eql) [.t 84,.k (.i 4)]]<|.cond (.t 85) (.ops [⟨some 86,.call 140,[.k (.s ⟨#[98,97,115,101]⟩)],none⟩,s 10 3 10 86]) (.skip))<|.q [⟨some 87,.call 140,[.k (.s ⟨#[115,101,115,115,105,111,110]⟩)],none⟩,m 88 0,
 o 89 .nilchk 88,f 90 1 89,h 91 1 false 90,o 92 .nilchk 91,f 93 15 92,h 94 1 false 93,c 95 65 [.t 94],l 96 8 3 true 8,c 97 265 [.t 96],
 ⟨some 98,.pur (.buildSl 3 3 Z [0,1,2]),[.t 87,.t 95,.t 97],none⟩,⟨some 99,.call 63,[.k (.s ⟨#[101,110,99]⟩),.t 98],none⟩,⟨some 11,.alloc .reg Z,[],none⟩,s 11 3 11 99]<|.seq (.q [f 100 2 3,l 101 3 1 false 100,
 p 102 (.bin .eql) [.t 101,.k (.i 5)]]<|.cond (.t 102) (.ops [⟨some 103,.call 140,[.k (.s ⟨#[115,101,115,115,105,111,110]⟩)],none⟩,⟨some 104,.call 65,[.k (.s ⟨#[111,116,104,101,114]⟩)],none⟩,l 105 8 3 true 8,c 106 265 [.t 105],
 ⟨some 107,.pur (.buildSl 3 3 Z [0,1,2]),[.t 103,.t 104,.t 106],none⟩,⟨some 108,.call 63,[.k (.s ⟨#[101,110,99]⟩),.t 107],none⟩,s 11 3 11 108]) (.skip))<|.seq (.q [f 109 2 3,l 110 3 1 false 109,
 p 111 (.bin .eql) [.t 110,.k (.i 6)]]<|.cond (.t 111) (.ops [⟨some 112,.call 140,[.k (.s ⟨#[115,101,115,115,105,111,110]⟩)],none⟩,⟨some 113,.pur (.buildSl 3 1 Z [0]),[.t 112],none⟩,⟨some 114,.call 63,[.k (.s ⟨#[101,110,99]⟩),.t 113],none⟩,s 11 3 11 114]) (.skip))<|.q [
 ⟨some 115,.call 140,[.k (.s ⟨#[115,116,114,101,110,103,116,104,101,110]⟩)],none⟩,l 116 9 3 true 9,⟨some 117,.pur (.buildSl 3 2 Z [0,1]),[.t 115,.t 116],none⟩,⟨some 118,.call 63,[.k (.s ⟨#[102,105,110,105,115,104]⟩),.t 117],none⟩,⟨some 12,.alloc .reg Z,[],none⟩,
 s 12 3 12 118]<|.seq (.q [f 119 2 3,l 120 3 1 false 119,p 121 (.bin .eql) [.t 120,.k (.i 7)]]<|.cond (.t 121) (.ops [⟨some 122,.call 140,[.k (.s ⟨#[102,105,110,105,115,104]⟩)],none⟩,s 12 3 12 122]) (.skip))<|.q [
 l 123 8 3 true 8,⟨some 124,.call 140,[.k (.s ⟨#[115,116,114,101,110,103,116,104,101,110]⟩)],none⟩,l 125 10 3 true 10,c 126 333 [.t 124,.t 125],l 127 11 3 true 11,c 128 266 [.t 126,.k (.i 3),.t 127],l 129 6 3 true 6,
 m 130 5,l 131 12 3 true 12,c 132 332 [.t 129,.t 130,.t 131],⟨some 133,.pur (.buildSl 3 3 Z [0,1,2]),[.t 123,.t 128,.t 132],none⟩,⟨some 134,.call 63,[.k (.s ⟨#[97,115,45,114,101,112]⟩),.t 133],none⟩,s 4 3 4 134]<|.ret
def f237:AFunc:=⟨135,f237b,[.cell 4 3 true]⟩
def f238b:ACode:=.q [x 5 1,x 7 3,⟨some 8,.alloc .reg Z,[],none⟩,i 9 0]<|.q [c 23 75 [],⟨some 10,.alloc .reg Z,[],none⟩,s 10 3 10 23]<|.seq (.q [
 m 24 0,o 25 .nilchk 24,f 26 14 25,h 27 1 false 26,o 28 (.un .not) 27]<|.cond (.t 28) (.q [l 29 10 3 true 10,s 8 3 8 29,i 9 11]<|.ret) (.skip))<|
 .q [l 31 5 3 true 5,c 32 97 [.t 31],m 30 32,e 33 0 30,e 34 1 30,m 11 33,m 12 34]<|.seq (.q [m 35 12]<|.cond (.t 35) (.q [
 m 36 0,o 37 .nilchk 36,f 38 14 37,⟨none,.st none 1,[.t 38,.k (.b false)],none⟩]<|.q [l 39 10 3 true 10,m 40 11,s 8 3 8 39,m 9 40]<|.ret) (.skip))<|.q [
 l 42 5 3 true 5,⟨some 43,.call 79,[.k (.s ⟨#[97,115,45,114,101,112]⟩),.k (.i 3),.t 42],none⟩,m 41 43,e 44 0 41,e 45 1 41,m 13 44,m 14 45]<|.seq (.q [m 46 14]<|
 .cond (.t 46) (.q [l 47 10 3 true 10,m 48 0,m 49 13,c 50 334 [.t 48,.t 49],s 8 3 8 47,m 9 50]<|.ret) (.skip))<|.q [m 52 0,o 53 .nilchk 52,
 f 54 22 53,h 55 3 true 54,m 56 0,o 57 .nilchk 56,f 58 15 57,h 59 1 false 58,l 60 5 3 true 5,c 61 335 [.t 55,.t 59,.t 60],m 51 61,
 e 62 0 51,e 63 1 51,⟨some 15,.alloc .reg Z,[],none⟩,s 15 3 15 62,m 16 63]<|.seq (.q [m 64 16,p 65 (.bin .neq) [.t 64,.k (.i 0)]]<|.cond (.t 65) (.q [
 l 66 10 3 true 10,m 67 16,s 8 3 8 66,m 9 67]<|.ret) (.skip))<|.q [l 69 15 3 true 15,⟨some 70,.call 79,[.k (.s ⟨#[109,111,114,101]⟩),.k (.i 2),.t 69],none⟩,m 68 70,
 e 71 0 68,e 72 1 68,m 17 71,m 18 72]<|.seq (.q [m 73 18,o 74 (.un .not) 73]<|.cond (.t 74) (.q [l 75 10 3 true 10,s 8 3 8 75,
 i 9 2]<|.ret) (.skip))<|.q [m 76 17,p 77 (.iaddr 3) [.t 76,.k (.i 0)],h 78 3 true 77,c 79 82 [.t 78],m 19 79]<|.q [l 80 10 3 true 10,
 ⟨some 20,.alloc .reg Z,[],none⟩,s 20 3 20 80]<|.q [m 81 0,o 82 .nilchk 81,f 83 1 82,h 84 3 true 83,⟨some 21,.alloc .reg Z,[],none⟩,
 s 21 3 21 84]<|.q [i 22 0]<|.seq (.q [m 85 19]<|.block 0 (.q [⟨some 87,.pur (.bin .eql),[.t 85,.k (.s ⟨#[99,104,97,108,108,101,110,103,101]⟩)],none⟩,m 86 87]<|.cond (.t 86) (.ops [m 88 0,
 o 89 .nilchk 88,f 90 22 89,h 91 3 true 90,m 92 0,o 93 .nilchk 92,f 94 1 93,h 95 3 true 94,m 96 0,o 97 .nilchk 96,
 f 98 16 97,h 99 3 true 98,m 100 2,c 101 150 [.t 91,.t 95,.t 99,.t 100],s 20 3 20 101]) (.q [⟨some 103,.pur (.bin .eql),[.t 85,.k (.s ⟨#[111,116,112]⟩)],none⟩,m 102 103]<|.cond (.t 102) (.q [
 m 105 0,o 106 .nilchk 105,f 107 22 106,h 108 3 true 107,m 109 17,p 110 (.iaddr 3) [.t 109,.k (.i 0)],h 111 3 true 110,m 112 0,o 113 .nilchk 112,
 f 114 4 113,h 115 3 true 114,m 116 0,o 117 .nilchk 116,f 118 7 117,h 119 1 false 118,c 120 158 [.t 115,.t 119],c 121 282 [.t 108,.t 111,.t 120],m 104 121,
 e 122 0 104,e 123 1 104,s 20 3 20 122,m 22 123]<|.ops [m 124 0,o 125 .nilchk 124,f 126 22 125,h 127 3 true 126,
 c 128 336 [.t 127,.k (.i 46)],s 21 3 21 128]) (.q [⟨some 130,.pur (.bin .eql),[.t 85,.k (.s ⟨#[115,112,97,107,101]⟩)],none⟩,m 129 130]<|.cond (.t 129) (.ops [m 132 0,o 133 .nilchk 132,f 134 1 133,
 h 135 3 true 134,m 136 0,o 137 .nilchk 136,f 138 16 137,h 139 3 true 138,m 140 17,p 141 (.iaddr 3) [.t 140,.k (.i 0)],h 142 3 true 141,
 l 143 7 3 true 7,c 144 284 [.t 135,.t 139,.t 142,.t 143],m 131 144,e 145 0 131,e 146 1 131,e 147 2 131,s 20 3 20 145,s 21 3 21 146,
 m 22 147]) (.ops [i 22 2])))))<|.seq (.q [m 148 22,p 149 (.bin .neq) [.t 148,.k (.i 0)]]<|.cond (.t 149) (.q [l 150 10 3 true 10,m 151 22,s 8 3 8 150,
 m 9 151]<|.ret) (.skip))<|.seq (.q [m 152 19,⟨some 153,.pur (.bin .eql),[.t 152,.k (.s ⟨#[111,116,112]⟩)],none⟩]<|.cond (.t 153) (.ops [m 154 0,o 155 .nilchk 154,f 156 7 155,h 157 1 false 156,
 p 158 (.bin .add) [.t 157,.k (.i 1)],o 159 .nilchk 154,f 160 7 159,⟨none,.st none 1,[.t 160,.t 158],none⟩]) (.skip))<|.q [m 161 0,l 162 21 3 true 21,o 163 .nilchk 161,f 164 25 163,
 ⟨none,.st none 3,[.t 164,.t 162],none⟩]<|.q [m 165 0,o 166 .nilchk 165,f 167 28 166,⟨none,.st none 1,[.t 167,.k (.b true)],none⟩]<|.q [m 168 0,m 169 0,o 170 .nilchk 169,
 f 171 29 170,h 172 1 false 171,m 173 19,m 174 0,o 175 .nilchk 174,f 176 15 175,h 177 1 false 176,⟨some 178,.pur (.build [E,E] [(0,1),(1,1)]),[.t 173,.t 177],none⟩,
 ⟨some 179,.pur (.buildSl 2 1 [E,E] [0]),[.t 178],none⟩,⟨some 180,.append 2 32,[.t 172,.t 179],none⟩,o 181 .nilchk 168,f 182 29 181,⟨none,.st none 1,[.t 182,.t 180],none⟩]<|.q [m 183 0,l 184 20 3 true 20,m 185 17,
 p 186 (.iaddr 3) [.t 185,.k (.i 1)],h 187 3 true 186,c 188 330 [.t 183,.t 184,.t 187],s 8 3 8 188,i 9 0]<|.ret
def f238:AFunc:=⟨189,f238b,[.cell 8 3 true,.tmp 9]⟩
def f239b:ACode:=.q [x 4 1,
 ⟨some 6,.alloc .reg [.i 0,E,N,.i 0,E,N,E,E,N,.i 0,E,N,.i 0,E,.i 0,E,N,N,.i 0,E,N,.i 0,.i 0,.i 0,.i 0,.i 0,.i 0,.i 0,.i 0],[],none⟩,
 ⟨some 7,.alloc .reg Z,[],none⟩,i 8 0]<|.q [
 ⟨some 27,.pur (.build [.i 0,E,N,.i 0,E,N,E,E,N,.i 0,E,N,.i 0,E,.i 0,E,N,N,.i 0,E,N,.i 0,.i 0,.i 0,.i 0,.i 0,.i 0,.i 0,.i 0] []),[],none⟩,
 ⟨some 9,.alloc .reg [.i 0,E,N,.i 0,E,N,E,E,N,.i 0,E,N,.i 0,E,.i 0,E,N,N,.i 0,E,N,.i 0,.i 0,.i 0,.i 0,.i 0,.i 0,.i 0,.i 0],[],none⟩,s 9 29 9 27]<|.q [
 l 29 4 3 true 4,c 30 95 [.t 29],m 28 30,e 31 0 28,e 32 1 28,e 33 2 28,e 34 3 28,⟨some 10,.alloc .reg Z,[],none⟩,
 ⟨some 11,.alloc .reg Z,[],none⟩,⟨some 12,.alloc .reg Z,[],none⟩,s 10 3 10 31,s 11 3 11 32,s 12 3 12 33,m 13 34]<|.q [l 36 10 3 true 10,
 c 37 93 [.t 36],m 35 37,e 38 0 35,e 39 1 35,e 40 2 35,m 14 38,m 15 39,m 16 40]<|.seq (.q [m 41 13,
 o 42 (.un .not) 41,m 43 42,w 44 .mov [.t 16] 43 false,w 45 (.un .not) [.t 44] 43 false,p 46 .pick [.t 43,.k (.b true),.t 45]]<|.cond (.t 46) (.q [l 47 9 29 true 9,l 48 4 3 true 4,
 s 6 29 6 47,s 7 3 7 48,i 8 2]<|.ret) (.skip))<|.q [m 50 0,o 51 .nilchk 50,f 52 0 51,h 53 3 true 52,l 54 11 3 true 11,
 c 55 337 [.t 53,.t 54],m 49 55,e 56 0 49,e 57 1 49,⟨some 17,.alloc .reg Z,[],none⟩,s 17 3 17 56,m 18 57]<|.seq (.q [m 58 18,
 p 59 (.bin .neq) [.t 58,.k (.i 0)]]<|.cond (.t 59) (.q [l 60 9 29 true 9,l 61 4 3 true 4,m 62 18,s 6 29 6 60,s 7 3 7 61,m 8 62]<|.ret) (.skip))<|.q [
 l 64 17 3 true 17,l 65 10 3 true 10,l 66 12 3 true 12,c 67 338 [.t 64,.t 65,.t 66],m 63 67,e 68 0 63,e 69 1 63,e 70 2 63,
 ⟨some 19,.alloc .reg Z,[],none⟩,⟨some 20,.alloc .reg Z,[],none⟩,s 19 3 19 68,s 20 3 20 69,m 21 70]<|.seq (.q [m 71 21,p 72 (.bin .neq) [.t 71,.k (.i 0)]]<|
 .cond (.t 72) (.q [l 73 9 29 true 9,l 74 4 3 true 4,m 75 21,s 6 29 6 73,s 7 3 7 74,m 8 75]<|.ret) (.skip))<|.q [m 77 0,o 78 .nilchk 77,
 f 79 6 78,h 80 1 false 79,m 81 14,c 82 339 [.t 80,.t 81],m 76 82,e 83 0 76,e 84 1 76,
 ⟨some 22,.alloc .reg [E,.i 0,E,N,N,.i 0,E,N,.i 0,.i 0,.i 0,.i 0,.i 0,.i 0,.i 0],[],none⟩,s 22 15 22 83,m 23 84]<|.seq (.q [m 85 23,o 86 (.un .not) 85]<|
 .cond (.t 86) (.q [l 87 9 29 true 9,l 88 4 3 true 4,s 6 29 6 87,s 7 3 7 88,i 8 3]<|.ret) (.skip))<|.q [l 89 17 3 true 17,l 90 10 3 true 10,
 l 91 22 15 true 22,m 92 2,m 93 14,m 94 15,c 95 75 [],⟨some 96,.pur (.build [E,E,N,.i 0,E,N,.i 0] [(0,1),(1,1),(3,3)]),[.t 93,.t 94,.t 95],none⟩,
 ⟨some 97,.pur (.build [.i 0,E,N,.i 0,E,N,E,E,N,.i 0,E,N,.i 0,E,.i 0,E,N,N,.i 0,E,N,.i 0,.i 0,.i 0,.i 0,.i 0,.i 0,.i 0,.i 0] [(0,3),(3,3),(13,15),(28,1),(6,7)]),[.t 89,.t 90,.t 91,.t 92,.t 96],none⟩,
 ⟨some 24,.alloc .reg [.i 0,E,N,.i 0,E,N,E,E,N,.i 0,E,N,.i 0,E,.i 0,E,N,N,.i 0,E,N,.i 0,.i 0,.i 0,.i 0,.i 0,.i 0,.i 0,.i 0],[],none⟩,s 24 29 24 97]<|
 .seq (.q [l 98 20 3 true 20,c 99 84 [.t 98],o 100 (.un .not) 99]<|.cond (.t 100) (.q [m 102 0,o 103 .nilchk 102,f 104 3 103,h 105 3 true 104,l 106 20 3 true 20,
 m 107 2,c 108 113 [.t 105,.t 106,.t 107],m 101 108,e 109 0 101,e 110 1 101,⟨some 25,.alloc .reg [E,E,N,.i 0,E,N,.i 0],[],none⟩,s 25 7 25 109,
 m 26 110]<|.seq (.q [m 111 26,p 112 (.bin .neq) [.t 111,.k (.i 0)]]<|.cond (.t 112) (.q [l 113 9 29 true 9,l 114 4 3 true 4,m 115 26,s 6 29 6 113,
 s 7 3 7 114,m 8 115]<|.ret) (.skip))<|.seq (.q [f 116 0 25,l 117 25 1 false 116,m 118 14,p 119 (.bin .neq) [.t 117,.t 118],m 120 119,
 w 121 (.faddr 1) [.t 25] 120 false,u 122 (.ld (some 25) 1 false) [.t 121] 120 false,w 123 .mov [.t 15] 120 false,w 124 (.bin .neq) [.t 122,.t 123] 120 false,p 125 .pick [.t 120,.k (.b true),.t 124],m 126 125,w 127 (.faddr 2) [.t 25] 126 false,
 u 128 (.ld (some 25) 1 false) [.t 127] 126 false,w 129 (.faddr 4) [.t 22] 126 false,u 130 (.ld (some 22) 1 false) [.t 129] 126 false,u 131 (.call 340) [.t 128,.t 130] 126 false,w 132 (.un .not) [.t 131] 126 false,p 133 .pick [.t 126,.k (.b true),.t 132]]<|.cond (.t 133) (.q [
 l 134 9 29 true 9,l 135 4 3 true 4,s 6 29 6 134,s 7 3 7 135,i 8 11]<|.ret) (.skip))<|.ops [l 136 25 7 true 25,f 137 6 24,
 s 24 7 137 136]) (.skip))<|.seq (.q [m 138 0,o 139 .nilchk 138,f 140 6 139,h 141 1 false 140,m 142 14,c 143 341 [.t 141,.t 142]]<|.cond (.t 143) (.q [
 l 144 9 29 true 9,l 145 4 3 true 4,s 6 29 6 144,s 7 3 7 145,i 8 7]<|.ret) (.skip))<|.q [l 146 24 29 true 24,l 147 19 3 true 19,
 s 6 29 6 146,s 7 3 7 147,i 8 0]<|.ret
def f239:AFunc:=⟨148,f239b,[.cell 6 29 true,.cell 7 3 true,.tmp 8]⟩
def f240b:ACode:=.q [x 3 1,⟨some 4,.alloc .reg Z,[],none⟩]<|.q [⟨some 7,.call 63,[.k (.s ⟨#[99,104,97,108,108,101,110,103,101]⟩),.k N],none⟩,⟨some 5,.alloc .reg Z,[],none⟩,s 5 3 5 7]<|.q [
 c 8 75 [],f 9 6 3,f 10 3 9,s 3 3 10 8]<|.q [f 11 13 3,f 12 4 11,l 13 3 1 false 12,f 14 6 3,f 15 2 14,
 l 16 3 1 false 15,o 17 .lenL 16,p 18 (.iaddr 1) [.t 13,.t 17],h 19 1 false 18,m 6 19]<|.seq (.q [m 20 6,⟨some 21,.pur (.bin .neq),[.t 20,.k (.s ⟨#[99,104,97,108,108,101,110,103,101]⟩)],none⟩]<|
 .cond (.t 21) (.q [m 22 0,c 23 342 [.t 22],f 24 6 3,f 25 3 24,s 3 3 25 23]<|.q [f 26 6 3,f 27 3 26,l 28 3 3 true 27,
 c 29 283 [.t 28],s 5 3 5 29]<|.q [m 30 6,⟨some 31,.pur (.bin .eql),[.t 30,.k (.s ⟨#[115,112,97,107,101]⟩)],none⟩]<|.cond (.t 31) (.ops [f 32 13 3,f 33 1 32,l 34 3 3 true 33,
 f 35 6 3,f 36 3 35,l 37 3 3 true 36,c 38 331 [.t 34,.t 37],s 5 3 5 38]) (.skip)) (.skip))<|.q [f 39 28 3,l 40 3 1 false 39,
 p 41 (.bin .add) [.t 40,.k (.i 100)],f 42 6 3,f 43 6 42,s 3 1 43 41]<|.q [f 44 0 3,l 45 3 3 true 44,f 46 6 3,f 47 1 46,
 l 48 3 1 false 47,l 49 5 3 true 5,m 50 0,o 51 .nilchk 50,f 52 3 51,h 53 3 true 52,f 54 6 3,l 55 3 7 true 54,c 56 111 [.t 53,.t 55],
 ⟨some 57,.pur (.buildSl 3 2 Z [0,1]),[.t 49,.t 56],none⟩,⟨some 58,.call 63,[.k (.s ⟨#[109,111,114,101]⟩),.t 57],none⟩,c 59 332 [.t 45,.t 48,.t 58],s 4 3 4 59]<|.ret
def f240:AFunc:=⟨60,f240b,[.cell 4 3 true]⟩
def f241b:ACode:=.q [x 3 0,x 4 1,⟨some 6,.alloc .reg Z,[],none⟩,k 7 N,i 8 0]<|.seq (.q [m 13 2]<|.block 0 (.q [
 ⟨some 15,.pur (.bin .eql),[.t 13,.k (.s ⟨#[111,116,112]⟩)],none⟩,m 14 15]<|.cond (.t 14) (.q [f 17 0 3,l 18 3 3 true 17,f 19 6 3,f 20 3 19,l 21 3 3 true 20,
 l 22 4 3 true 4,f 23 13 3,f 24 5 23,l 25 3 3 true 24,f 26 13 3,f 27 8 26,l 28 3 6 true 27,c 29 343 [.t 18,.t 21,.t 22,.t 25,.t 28],
 m 16 29,e 30 0 16,e 31 1 16,m 9 30,m 10 31]<|.q [f 32 0 3,l 33 3 3 true 32,c 34 336 [.t 33,.k (.i 46)],m 35 9,
 m 36 10,s 6 3 6 34,m 7 35,m 8 36]<|.ret) (.q [⟨some 38,.pur (.bin .eql),[.t 13,.k (.s ⟨#[115,112,97,107,101]⟩)],none⟩,m 37 38]<|.cond (.t 37) (.q [f 40 13 3,
 f 41 1 40,l 42 3 3 true 41,f 43 3 3,l 44 3 3 true 43,f 45 6 3,f 46 3 45,l 47 3 3 true 46,l 48 4 3 true 4,
 c 49 344 [.t 42,.t 44,.t 47,.t 48],m 39 49,e 50 0 39,e 51 1 39,⟨some 11,.alloc .reg Z,[],none⟩,s 11 3 11 50,m 12 51]<|.q [
 l 52 11 3 true 11,m 53 12,s 6 3 6 52,k 7 N,m 8 53]<|.ret) (.skip))))<|.q [f 54 13 3,f 55 1 54,l 56 3 3 true 55,
 f 57 0 3,l 58 3 3 true 57,f 59 13 3,f 60 1 59,l 61 3 3 true 60,f 62 3 3,l 63 3 3 true 62,l 64 4 3 true 4,f 65 28 3,
 l 66 3 1 false 65,c 67 151 [.t 58,.t 61,.t 63,.t 64,.t 66],s 6 3 6 56,k 7 N,m 8 67]<|.ret
def f241:AFunc:=⟨68,f241b,[.cell 6 3 true,.tmp 7,.tmp 8]⟩
def f242b:ACode:=.q [i 4 0]<|.q [m 6 0,m 7 1,c 8 345 [.t 6,.t 7],m 5 8]<|.seq (.q [m 9 5,p 10 (.bin .lss) [.t 9,.k (.i 0)]]<|.cond (.t 10) (.q [
 i 4 3]<|.ret) (.skip))<|.q [m 11 0,o 12 .nilchk 11,f 13 0 12,h 14 1 false 13,m 15 5,p 16 (.iaddr 15) [.t 14,.t 15],f 17 14 16,
 h 18 1 false 17,p 19 (.bin .add) [.t 18,.k (.i 1)],p 20 (.iaddr 15) [.t 14,.t 15],f 21 14 20,⟨none,.st none 1,[.t 21,.t 19],none⟩]<|.q [i 4 0]<|.ret
def f242:AFunc:=⟨22,f242b,[.tmp 4]⟩
def f243b:ACode:=.q [x 1 0,⟨some 2,.pur .mov,[.k E],none⟩]<|.seq (.q [l 4 1 3 true 1,c 5 314 [.t 4,.k (.i 61)],p 6 (.bin .gtr) [.t 5,.k (.i 60)]]<|.cond (.t 6) (.q [⟨some 2,.pur .mov,[.k E],none⟩]<|.ret) (.skip))<|.q [
 l 7 1 3 true 1,c 8 346 [.t 7],m 3 8]<|.seq (.q [m 9 3,o 10 (.un .not) 9]<|.cond (.t 10) (.q [⟨some 2,.pur .mov,[.k E],none⟩]<|.ret) (.skip))<|.q [l 11 1 3 true 1,
 c 12 347 [.t 11],m 2 12]<|.ret
def f243:AFunc:=⟨13,f243b,[.tmp 2]⟩
def f244b:ACode:=.q [i 6 0,i 7 0]<|.q [m 12 0,m 13 1,c 14 345 [.t 12,.t 13],m 8 14]<|.seq (.q [m 15 8,
 p 16 (.bin .lss) [.t 15,.k (.i 0)]]<|.cond (.t 16) (.q [i 6 0,i 7 3]<|.ret) (.skip))<|.seq (.q [m 17 0,o 18 .nilchk 17,f 19 0 18,h 20 1 false 19,
 m 21 8,p 22 (.iaddr 15) [.t 20,.t 21],f 23 14 22,h 24 1 false 23,p 25 (.bin .geq) [.t 24,.k (.i 5)]]<|.cond (.t 25) (.q [i 6 0,i 7 7]<|.ret) (.skip))<|.q [
 m 27 0,o 28 .nilchk 27,f 29 0 28,h 30 1 false 29,m 31 8,p 32 (.iaddr 15) [.t 30,.t 31],f 33 8 32,h 34 6 true 33,m 35 2,
 c 36 348 [.t 34,.t 35],m 26 36,e 37 0 26,e 38 1 26,e 39 2 26,⟨some 9,.alloc .reg [.i 0,.i 0,.i 0,.i 0,.i 0,.i 0],[],none⟩,s 9 6 9 37,m 10 38,
 m 11 39]<|.q [m 40 0,o 41 .nilchk 40,f 42 0 41,h 43 1 false 42,m 44 8,l 45 9 6 true 9,p 46 (.iaddr 15) [.t 43,.t 44],f 47 8 46,
 ⟨none,.st none 6,[.t 47,.t 45],none⟩]<|.q [m 48 10,m 49 11,m 6 48,m 7 49]<|.ret
def f244:AFunc:=⟨50,f244b,[.tmp 6,.tmp 7]⟩
def f245b:ACode:=.q [x 4 1,x 5 2,⟨some 6,.alloc .reg Z,[],none⟩]<|.q [m 12 0,c 13 342 [.t 12],⟨some 7,.alloc .reg Z,[],none⟩,s 7 3 7 13]<|.q [
 m 14 0,c 15 342 [.t 14],⟨some 8,.alloc .reg Z,[],none⟩,s 8 3 8 15]<|.q [m 16 0,o 17 .nilchk 16,f 18 6 17,h 19 1 false 18,
 f 20 6 4,f 21 0 20,l 22 4 1 false 21,c 23 349 [.t 19,.t 22]]<|.q [m 24 0,m 25 0,o 26 .nilchk 25,f 27 10 26,h 28 1 false 27,
 f 29 6 4,f 30 0 29,l 31 4 1 false 30,f 32 6 4,f 33 1 32,l 34 4 1 false 33,f 35 6 4,f 36 2 35,l 37 4 1 false 36,
 l 38 7 3 true 7,⟨some 39,.pur (.build [E,E,N,.i 0,E,N] [(0,1),(1,1),(2,1),(3,3)]),[.t 31,.t 34,.t 37,.t 38],none⟩,⟨some 40,.pur (.buildSl 6 1 [E,E,N,.i 0,E,N] [0]),[.t 39],none⟩,⟨some 41,.append 6 104,[.t 28,.t 40],none⟩,
 o 42 .nilchk 24,f 43 10 42,⟨none,.st none 1,[.t 43,.t 41],none⟩]<|.q [m 44 0,o 45 .nilchk 44,f 46 0 45,h 47 3 true 46,f 48 6 4,f 49 0 48,
 l 50 4 1 false 49,c 51 65 [.t 50],l 52 7 3 true 7,f 53 6 4,f 54 2 53,l 55 4 1 false 54,c 56 69 [.t 55],f 57 28 4,l 58 4 1 false 57,
 c 59 67 [.t 58],⟨some 60,.pur (.buildSl 3 4 Z [0,1,2,3]),[.t 51,.t 52,.t 56,.t 59],none⟩,⟨some 61,.call 63,[.k (.s ⟨#[116,105,99,107,101,116]⟩),.t 60],none⟩,c 62 266 [.t 47,.k (.i 3),.t 61],⟨some 9,.alloc .reg Z,[],none⟩,
 s 9 3 9 62]<|.q [l 63 9 3 true 9,c 64 265 [.t 63],⟨some 10,.alloc .reg Z,[],none⟩,s 10 3 10 64]<|.q [l 65 8 3 true 8,l 66 5 3 true 5,
 c 67 333 [.t 65,.t 66],l 68 7 3 true 7,f 69 6 4,f 70 1 69,l 71 4 1 false 70,c 72 65 [.t 71],l 73 10 3 true 10,
 ⟨some 74,.pur (.buildSl 3 3 Z [0,1,2]),[.t 68,.t 72,.t 73],none⟩,⟨some 75,.call 63,[.k (.s ⟨#[101,110,99]⟩),.t 74],none⟩,c 76 266 [.t 67,.k (.i 3),.t 75],⟨some 11,.alloc .reg Z,[],none⟩,s 11 3 11 76]<|.q [
 l 77 9 3 true 9,l 78 11 3 true 11,f 79 0 4,l 80 4 3 true 79,f 81 6 4,f 82 1 81,l 83 4 1 false 82,l 84 8 3 true 8,
 l 85 10 3 true 10,⟨some 86,.pur (.buildSl 3 2 Z [0,1]),[.t 84,.t 85],none⟩,⟨some 87,.call 63,[.k (.s ⟨#[102,105,110,105,115,104]⟩),.t 86],none⟩,c 88 332 [.t 80,.t 83,.t 87],⟨some 89,.pur (.buildSl 3 3 Z [0,1,2]),[.t 77,.t 78,.t 88],none⟩,
 ⟨some 90,.call 63,[.k (.s ⟨#[97,115,45,114,101,112]⟩),.t 89],none⟩,s 6 3 6 90]<|.ret
def f245:AFunc:=⟨91,f245b,[.cell 6 3 true]⟩
def f246b:ACode:=.q [x 3 0,x 4 1,x 5 2,⟨some 6,.alloc .reg Z,[],none⟩]<|.q [l 7 3 3 true 3,l 8 4 3 true 4,l 9 5 3 true 5,
 ⟨some 10,.pur (.buildSl 3 1 Z [0]),[.t 9],none⟩,⟨some 11,.call 62,[.k (.s ⟨#[97,117,116,104]⟩),.t 10],none⟩,c 12 261 [.t 8,.k (.i 11),.t 11],⟨some 13,.pur (.buildSl 3 2 Z [0,1]),[.t 7,.t 12],none⟩,⟨some 14,.call 62,[.k (.s ⟨#[97,114,109,111,114]⟩),.t 13],none⟩,
 s 6 3 6 14]<|.ret
def f246:AFunc:=⟨15,f246b,[.cell 6 3 true]⟩
def f247b:ACode:=.q [x 2 0,x 3 1,⟨some 4,.alloc .reg Z,[],none⟩]<|.q [l 5 2 3 true 2,l 6 3 3 true 3,
 ⟨some 7,.call 350,[.t 5,.t 6,.k (.s ⟨#[115,117,98,107,101,121,97,114,109,111,114]⟩),.k (.s ⟨#[116,105,99,107,101,116,97,114,109,111,114]⟩)],none⟩,s 4 3 4 7]<|.ret
def f247:AFunc:=⟨8,f247b,[.cell 4 3 true]⟩
def f248b:ACode:=.q [x 4 1,x 5 2,⟨some 6,.alloc .reg Z,[],none⟩]<|.q [m 7 0,o 8 .nilchk 7,f 9 4 8,h 10 3 true 9,m 11 0,
 o 12 .nilchk 11,f 13 7 12,h 14 3 true 13,m 15 0,o 16 .nilchk 15,f 17 10 16,h 18 3 true 17,m 19 0,o 20 .nilchk 19,
 f 21 4 20,h 22 3 true 21,l 23 4 3 true 4,l 24 5 3 true 5,c 25 351 [.t 18,.t 22,.t 23,.t 24],c 26 70 [.t 10,.t 14,.t 25],s 6 3 6 26]<|.ret
def f248:AFunc:=⟨27,f248b,[.cell 6 3 true]⟩
def f249_l0:ACode:=.seq (.q [m 5 4,p 6 (.bin .lss) [.t 5,.k (.i 20)],m 7 6,w 8 .mov [.t 4] 7 true,w 9 (.bin .eql) [.t 8,.k (.i 0)] 7 true,w 10 .mov [.t 9] 7 true,w 11 .mov [.t 0] 10 false,
 w 12 (.bin .gtr) [.t 11,.k (.i 0)] 10 false,w 13 .pick [.t 10,.k (.b true),.t 12] 7 true,p 14 .pick [.t 7,.t 13,.k (.b false)]]<|.cond (.t 14) (.skip) (.exit 0))<|.seq (.block 1 (.q [m 17 0,p 18 (.bin .rem) [.t 17,.k (.i 10)],
 p 19 (.bin .add) [.k (.i 48),.t 18],o 20 (.toInt .u8) 19,⟨some 21,.pur (.buildSl 1 1 [.sc (.int .u8 (0))] [0]),[.t 20],none⟩,o 22 .bytesStr 21,m 23 3,p 24 (.bin .add) [.t 22,.t 23],m 3 24]<|.ops [m 25 0,
 p 26 (.bin .quo) [.t 25,.k (.i 10)],m 0 26]))<|.ops [m 15 4,p 16 (.bin .add) [.t 15,.k (.i 1)],m 4 16]
def f249b:ACode:=.q [⟨some 2,.pur .mov,[.k E],none⟩]<|.q [⟨some 3,.pur .mov,[.k E],none⟩]<|.seq (.q [i 4 0]<|.block 0 (.loop [5,6,7,8,9,10,11,12,13,14,15,16,17,18,19,20,21,22,23,24,25,26] [] f249_l0))<|.q [m 27 3,
 m 2 27]<|.ret
def f249:AFunc:=⟨28,f249b,[.tmp 2]⟩
def f250b:ACode:=.q [x 5 1,x 6 2,x 7 3,i 8 0]<|.seq (.q [m 14 0,o 15 .nilchk 14,f 16 1 15,h 17 1 false 16,
 o 18 (.un .not) 17]<|.cond (.t 18) (.q [i 8 11]<|.ret) (.skip))<|.q [m 20 0,o 21 .nilchk 20,f 22 10 21,h 23 3 true 22,m 24 0,o 25 .nilchk 24,
 f 26 3 25,h 27 1 false 26,l 28 7 3 true 7,c 29 251 [.t 23,.t 27,.t 28],m 19 29,e 30 0 19,e 31 1 19,⟨some 9,.alloc .reg Z,[],none⟩,
 s 9 3 9 30,m 10 31]<|.q [l 33 9 3 true 9,m 34 10,⟨some 35,.call 252,[.t 33,.t 34,.k (.s ⟨#[102,105,110,105,115,104]⟩),.k (.i 2)],none⟩,m 32 35,e 36 0 32,
 e 37 1 32,m 11 36,m 10 37]<|.q [l 38 5 3 true 5,c 39 124 [.t 38],⟨some 12,.alloc .reg Z,[],none⟩,s 12 3 12 39]<|.seq (.block 0 (.q [
 m 41 10,p 42 (.bin .neq) [.t 41,.k (.i 0)],m 40 42]<|.cond (.t 40) (.q [m 43 10,m 8 43]<|.ret) (.q [m 45 11,p 46 (.iaddr 3) [.t 45,.k (.i 1)],h 47 3 true 46,
 l 48 12 3 true 12,c 49 118 [.t 47,.t 48],o 50 (.un .not) 49,m 44 50]<|.cond (.t 44) (.q [i 8 6]<|.ret) (.skip))))<|.q [m 52 11,p 53 (.iaddr 3) [.t 52,.k (.i 0)],
 h 54 3 true 53,m 55 0,o 56 .nilchk 55,f 57 13 56,h 58 3 true 57,c 59 352 [.t 54,.t 58],l 60 6 3 true 6,c 61 263 [.t 59,.k (.i 3),.t 60],m 51 61,
 e 62 0 51,e 63 1 51,s 9 3 9 62,m 10 63]<|.q [l 65 9 3 true 9,m 66 10,⟨some 67,.call 252,[.t 65,.t 66,.k (.s ⟨#[101,110,99]⟩),.k (.i 3)],none⟩,m 64 67,
 e 68 0 64,e 69 1 64,m 13 68,m 10 69]<|.seq (.block 1 (.q [m 71 10,p 72 (.bin .neq) [.t 71,.k (.i 0)],m 70 72]<|.cond (.t 70) (.q [m 73 10,
 m 8 73]<|.ret) (.q [m 75 13,p 76 (.iaddr 3) [.t 75,.k (.i 1)],h 77 3 true 76,m 78 0,o 79 .nilchk 78,f 80 3 79,h 81 1 false 80,c 82 64 [.t 81],
 c 83 118 [.t 77,.t 82],o 84 (.un .not) 83,m 85 84,w 86 .mov [.t 13] 85 false,w 87 (.iaddr 3) [.t 86,.k (.i 2)] 85 false,u 88 (.ld none 3 true) [.t 87] 85 false,u 89 (.ld (some 12) 3 true) [.t 12] 85 false,
 u 90 (.call 118) [.t 88,.t 89] 85 false,w 91 (.un .not) [.t 90] 85 false,p 92 .pick [.t 85,.k (.b true),.t 91],m 74 92]<|.cond (.t 74) (.q [i 8 6]<|.ret) (.skip))))<|.q [m 93 0,m 94 0,
 m 95 0,m 96 13,p 97 (.iaddr 3) [.t 96,.k (.i 0)],h 98 3 true 97,o 99 .nilchk 93,f 100 16 99,⟨none,.st none 3,[.t 100,.t 98],none⟩,o 101 .nilchk 94,f 102 2 101,
 ⟨none,.st none 1,[.t 102,.k (.b true)],none⟩,o 103 .nilchk 95,f 104 0 103,⟨none,.st none 1,[.t 104,.k (.b false)],none⟩]<|.q [i 8 0]<|.ret
def f250:AFunc:=⟨105,f250b,[.tmp 8]⟩
def f251b:ACode:=.q [x 3 0,x 5 2,⟨some 6,.alloc .reg Z,[],none⟩,i 7 0]<|.q [l 11 3 3 true 3,l 12 5 3 true 5,
 ⟨some 13,.call 353,[.t 11,.k (.i 52),.t 12,.k (.s ⟨#[97,110,115,119,101,114]⟩),.k (.i 2)],none⟩,m 10 13,e 14 0 10,e 15 1 10,m 8 14,m 9 15]<|.seq (.block 0 (.q [m 17 9,
 p 18 (.bin .neq) [.t 17,.k (.i 0)],m 16 18]<|.cond (.t 16) (.q [⟨some 19,.pur (.build Z []),[],none⟩,m 20 9,s 6 3 6 19,m 7 20]<|.ret) (.q [m 22 8,
 p 23 (.iaddr 3) [.t 22,.k (.i 0)],h 24 3 true 23,m 25 1,c 26 64 [.t 25],c 27 118 [.t 24,.t 26],o 28 (.un .not) 27,m 21 28]<|.cond (.t 21) (.q [⟨some 29,.pur (.build Z []),[],none⟩,
 s 6 3 6 29,i 7 6]<|.ret) (.skip))))<|.q [m 30 8,p 31 (.iaddr 3) [.t 30,.k (.i 1)],h 32 3 true 31,s 6 3 6 32,i 7 0]<|.ret
def f251:AFunc:=⟨33,f251b,[.cell 6 3 true,.tmp 7]⟩
def f252b:ACode:=.q [x 4 0,k 8 N,i 9 0]<|.seq (.q [m 12 1,p 13 (.bin .neq) [.t 12,.k (.i 0)]]<|.cond (.t 13) (.q [m 14 1,k 8 N,
 m 9 14]<|.ret) (.skip))<|.q [m 16 2,m 17 3,l 18 4 3 true 4,c 19 78 [.t 16,.t 17,.t 18],m 15 19,e 20 0 15,e 21 1 15,
 m 10 20,m 11 21]<|.seq (.q [m 22 11,o 23 (.un .not) 22]<|.cond (.t 23) (.q [k 8 N,i 9 2]<|.ret) (.skip))<|.q [m 24 10,
 m 8 24,i 9 0]<|.ret
def f252:AFunc:=⟨25,f252b,[.tmp 8,.tmp 9]⟩
def f253b:ACode:=.q [x 5 1,x 7 3,⟨some 8,.alloc .reg Z,[],none⟩,⟨some 9,.alloc .reg Z,[],none⟩,i 10 0]<|.seq (.q [l 11 5 3 true 5,c 12 81 [.t 11]]<|
 .block 0 (.q [⟨some 14,.pur (.bin .eql),[.t 12,.k (.s ⟨#[99,104,97,108,108,101,110,103,101]⟩)],none⟩,m 13 14]<|.cond (.t 13) (.q [m 15 0,o 16 .nilchk 15,f 17 0 16,f 18 10 17,h 19 3 true 18,
 m 20 0,o 21 .nilchk 20,f 22 33 21,h 23 3 true 22,m 24 0,o 25 .nilchk 24,f 26 0 25,f 27 4 26,h 28 3 true 27,
 m 29 2,c 30 148 [.t 19,.t 23,.t 28,.t 29],m 31 0,o 32 .nilchk 31,f 33 33 32,h 34 3 true 33,s 8 3 8 30,s 9 3 9 34,i 10 0]<|
 .ret) (.q [⟨some 36,.pur (.bin .eql),[.t 12,.k (.s ⟨#[111,116,112]⟩)],none⟩,m 35 36]<|.cond (.t 35) (.q [m 38 0,o 39 .nilchk 38,f 40 0 39,f 41 10 40,h 42 3 true 41,
 l 43 5 3 true 5,m 44 0,o 45 .nilchk 44,f 46 19 45,f 47 4 46,h 48 3 true 47,m 49 0,o 50 .nilchk 49,f 51 19 50,
 f 52 7 51,h 53 1 false 52,c 54 278 [.t 48,.t 53],c 55 156 [.t 42,.t 43,.t 54],m 37 55,e 56 0 37,e 57 1 37,s 8 3 8 56,m 10 57]<|
 .seq (.q [m 58 10,p 59 (.bin .eql) [.t 58,.k (.i 0)]]<|.cond (.t 59) (.ops [m 60 0,o 61 .nilchk 60,f 62 19 61,f 63 7 62,h 64 1 false 63,
 p 65 (.bin .add) [.t 64,.k (.i 1)],o 66 .nilchk 60,f 67 19 66,f 68 7 67,⟨none,.st none 1,[.t 68,.t 65],none⟩]) (.skip))<|.q [l 69 8 3 true 8,m 70 0,o 71 .nilchk 70,
 f 72 0 71,f 73 10 72,h 74 3 true 73,c 75 354 [.t 74,.k (.i 46)],m 76 10,s 8 3 8 69,s 9 3 9 75,m 10 76]<|.ret) (.q [
 ⟨some 78,.pur (.bin .eql),[.t 12,.k (.s ⟨#[115,112,97,107,101]⟩)],none⟩,m 77 78]<|.cond (.t 77) (.q [m 79 0,o 80 .nilchk 79,f 81 33 80,h 82 3 true 81,m 83 0,o 84 .nilchk 83,
 f 85 0 84,f 86 4 85,h 87 3 true 86,l 88 5 3 true 5,l 89 7 3 true 7,c 90 154 [.t 82,.t 87,.t 88,.t 89],e 91 0 90,e 92 1 90,
 e 93 2 90,s 8 3 8 91,s 9 3 9 92,m 10 93]<|.ret) (.skip)))))<|.q [l 94 8 3 true 8,l 95 9 3 true 9,s 8 3 8 94,s 9 3 9 95,
 i 10 2]<|.ret
def f253:AFunc:=⟨96,f253b,[.cell 8 3 true,.cell 9 3 true,.tmp 10]⟩
end Abs
