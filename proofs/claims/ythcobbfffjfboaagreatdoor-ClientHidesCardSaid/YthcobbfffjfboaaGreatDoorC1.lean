/- The code of functions (printed by gen/Gen.lean). -/
import Derived.Test.YthcobbfffjfboaaGreatDoorE3
set_option linter.unusedVariables false
set_option linter.unusedSimpArgs false
set_option linter.unusedSectionVars false
namespace Abs
open Go I
def zmH:ACode:=.q [p 104 (.bin .lss) [.t 103,.t 102]]<|.seq (.cond (.t 104) (.skip) (.exit 2))<|.seq (.block 3 (.q [p 105 (.iaddr 3) [.t 101,.t 103],h 106 3 true 105,⟨some 21,.alloc .reg Z,[],none⟩,s 21 3 21 106]<|.q [
 m 107 10,l 108 21 3 true 21,c 109 129 [.t 107,.t 108]]<|.cond (.t 109) (.q [k 4 (.b false)]<|.ret) (.skip)))<|.ops [p 110 (.bin .add) [.t 103,.k (.i 1)],m 103 110]
def zjy:ACode:=.seq (.q [m 53 11,m 54 0,c 55 134 [.t 54],o 56 .lenL 55,p 57 (.bin .leq) [.t 53,.t 56]]<|.cond (.t 57) (.skip) (.exit 0))<|.seq (.block 1 (.q [m 60 8,l 61 9 3 true 9,
 c 62 137 [.t 60,.t 61,.k (.i 0)],⟨some 12,.alloc .reg Z,[],none⟩,s 12 3 12 62]<|.q [m 64 6,l 65 12 3 true 12,⟨some 66,.call 140,[.k (.s ⟨#[120]⟩)],none⟩,c 67 141 [.t 64,.t 65,.k (.i 0),.t 66],
 m 63 67,e 68 0 63,e 69 1 63,⟨some 13,.alloc .reg Z,[],none⟩,s 13 3 13 68,m 14 69]<|.seq (.q [m 70 14,p 71 (.bin .neq) [.t 70,.k (.i 0)]]<|
 .cond (.t 71) (.q [k 4 (.b false)]<|.ret) (.skip))<|.q [m 72 10,l 73 12 3 true 12,l 74 13 3 true 13,⟨some 75,.pur (.buildSl 3 2 Z [0,1]),[.t 73,.t 74],none⟩,⟨some 76,.append 3 48,[.t 72,.t 75],none⟩,
 m 10 76]<|.ops [l 77 13 3 true 13,s 9 3 9 77]))<|.ops [m 58 11,p 59 (.bin .add) [.t 58,.k (.i 1)],m 11 59]
def zsB:ACode:=.q [k 4 (.b false)]<|.q [c 23 131 [],m 5 23]<|.q [c 25 132 [],m 24 25,e 26 0 24,e 27 1 24,m 6 26,
 m 7 27]<|.q [m 28 0,c 29 134 [.t 28],c 30 133 [.t 29],m 8 30]<|.seq (.q [m 31 5,o 32 (.un .not) 31,m 33 32,w 34 .mov [.t 6] 33 false,
 w 35 (.nilP false) [.t 34] 33 false,p 36 .pick [.t 33,.k (.b true),.t 35],m 37 36,w 38 .mov [.t 8] 37 false,w 39 (.nilP false) [.t 38] 37 false,p 40 .pick [.t 37,.k (.b true),.t 39]]<|.cond (.t 40) (.q [k 4 (.b false)]<|
 .ret) (.skip))<|.q [m 41 1,m 42 1,o 43 .lenS 42,p 44 .min [.t 43,.k (.i 20)],p 45 (.sliceS false true) [.t 41,.t 44],⟨some 46,.pur (.bin .add),[.k (.s ⟨#[110]⟩),.t 45],none⟩,m 1 46]<|.q [
 m 47 6,m 48 1,⟨some 49,.call 140,[.k (.s ⟨#[115,117,98]⟩)],none⟩,c 50 138 [.t 47,.t 48,.t 49],⟨some 9,.alloc .reg Z,[],none⟩,s 9 3 9 50]<|.q [l 51 9 3 true 9,
 ⟨some 52,.pur (.buildSl 3 1 Z [0]),[.t 51],none⟩,m 10 52]<|.seq (.q [i 11 0]<|.block 0 (.loop [4,12,13,14,53,54,55,56,57,58,59,60,61,62,63,64,65,66,67,68,69,70,71,72,73,74,75,76,77] [12,13] zjy))<|.q [m 79 6,
 c 80 104 [.t 79],m 78 80,e 81 0 78,e 82 1 78,e 83 2 78,⟨some 15,.alloc .reg Z,[],none⟩,s 15 3 15 81,m 16 82,
 m 17 83]<|.q [m 85 10,⟨some 86,.call 140,[.k (.s ⟨#[112,97,115,115,119,111,114,100,32,97]⟩)],none⟩,c 87 144 [.t 85,.t 86],m 84 87,e 88 0 84,e 89 1 84,
 ⟨some 18,.alloc .reg Z,[],none⟩,s 18 3 18 88,m 19 89]<|.seq (.q [m 90 17,o 91 (.un .not) 90,m 92 91,w 93 .mov [.t 19] 92 false,
 p 94 .pick [.t 92,.k (.b true),.t 93]]<|.cond (.t 94) (.q [k 4 (.b false)]<|.ret) (.skip))<|.seq (.q [⟨some 95,.call 140,[.k (.s ⟨#[112,97,115,115,119,111,114,100,32,97]⟩)],none⟩,⟨some 96,.call 140,[.k (.s ⟨#[115,101,101,100,32,97]⟩)],none⟩,⟨some 97,.call 140,[.k (.s ⟨#[104,111,115,116]⟩)],none⟩,
 l 98 15 3 true 15,⟨some 99,.call 140,[.k (.s ⟨#[112,97,115,115,119,111,114,100,32,97]⟩)],none⟩,⟨some 100,.call 145,[.t 99,.k (.s ⟨#[97]⟩)],none⟩,⟨some 101,.pur (.buildSl 3 5 Z [0,1,2,3,4]),[.t 95,.t 96,.t 97,.t 98,.t 100],none⟩,o 102 .lenL 101,
 i 103 0]<|.block 2 (.loop [4,21,104,105,106,107,108,109,110] [21] zmH))<|.q [m 111 10,⟨some 112,.call 140,[.k (.s ⟨#[104,111,115,116]⟩)],none⟩,⟨some 113,.pur (.buildSl 3 1 Z [0]),[.t 112],none⟩,⟨some 114,.append 3 48,[.t 111,.t 113],none⟩,
 m 10 114]<|.q [m 115 0,c 116 134 [.t 115],m 117 0,c 118 134 [.t 117],o 119 .lenL 118,p 120 (.bin .sub) [.t 119,.k (.i 1)],p 121 (.iaddr 1) [.t 116,.t 120],
 h 122 1 false 121,m 22 122]<|.q [m 123 10,l 124 15 3 true 15,c 125 129 [.t 123,.t 124],m 126 22,⟨some 127,.pur (.bin .eql),[.t 126,.k (.s ⟨#[111,116,112]⟩)],none⟩,
 p 128 (.eqB false) [.t 125,.t 127],m 129 128,w 130 .mov [.t 10] 129 true,⟨some 131,.call 140,[.k (.s ⟨#[112,97,115,115,119,111,114,100,32,97]⟩)],some (129,true)⟩,u 132 (.call 129) [.t 130,.t 131] 129 true,w 133 (.un .not) [.t 132] 129 true,
 p 134 .pick [.t 129,.t 133,.k (.b false)],m 135 134,w 136 .mov [.t 10] 135 true,⟨some 137,.call 140,[.k (.s ⟨#[115,101,101,100,32,97]⟩)],some (135,true)⟩,u 138 (.call 129) [.t 136,.t 137] 135 true,w 139 (.un .not) [.t 138] 135 true,
 p 140 .pick [.t 135,.t 139,.k (.b false)],m 4 140]<|.ret
def f31:zd:=⟨141,zsB,[.tmp 4]⟩
def zjP:ACode:=.q [k 2 (.sc (.pointer none))]<|.seq (.q [m 3 0,p 4 (.bin .lss) [.t 3,.k (.i 0)]]<|.cond (.t 4) (.ops [i 0 0]) (.skip))<|.q [m 5 0,⟨some 6,.pur (.build [.i 0,N] [(0,1)]),[.t 5],none⟩,
 ⟨some 7,.box .heap,[.t 6],none⟩,m 2 7]<|.ret
def f54:zd:=⟨8,zjP,[.tmp 2]⟩
def zb3:ACode:=.seq (.q [m 9 6,m 10 0,o 11 .nilchk 10,f 12 1 11,h 13 1 false 12,o 14 .lenL 13,p 15 (.bin .lss) [.t 9,.t 14]]<|.cond (.t 15) (.skip) (.exit 0))<|.seq (.block 1 (.q [
 m 18 0,o 19 .nilchk 18,f 20 1 19,h 21 1 false 20,m 22 6,p 23 (.iaddr 2) [.t 21,.t 22],f 24 1 23,h 25 1 false 24,m 26 1,
 p 27 (.bin .gtr) [.t 25,.t 26]]<|.cond (.t 27) (.ops [m 28 5,m 29 0,o 30 .nilchk 29,f 31 1 30,h 32 1 false 31,m 33 6,p 34 (.iaddr 2) [.t 32,.t 33],
 h 35 2 true 34,⟨some 36,.pur (.buildSl 2 1 [E,.i 0] [0]),[.t 35],none⟩,⟨some 37,.append 2 24,[.t 28,.t 36],none⟩,m 5 37]) (.skip)))<|.ops [m 16 6,p 17 (.bin .add) [.t 16,.k (.i 1)],m 6 17]
def zpY:ACode:=.q [i 4 0]<|.q [⟨some 8,.pur (.buildSl 2 0 [E,.i 0] []),[],none⟩,m 5 8]<|.seq (.q [i 6 0]<|
 .block 0 (.loop [9,10,11,12,13,14,15,16,17,18,19,20,21,22,23,24,25,26,27,28,29,30,31,32,33,34,35,36,37] [] zb3))<|.q [m 38 0,o 39 .nilchk 38,f 40 1 39,h 41 1 false 40,o 42 .lenL 41,m 43 5,
 o 44 .lenL 43,p 45 (.bin .sub) [.t 42,.t 44],m 7 45]<|.q [m 46 0,m 47 5,o 48 .nilchk 46,f 49 1 48,⟨none,.st none 1,[.t 49,.t 47],none⟩]<|.q [m 50 7,
 m 4 50]<|.ret
def f55:zd:=⟨51,zpY,[.tmp 4]⟩
def zbi:ACode:=.seq (.q [m 18 10,m 19 0,o 20 .nilchk 19,f 21 1 20,h 22 1 false 21,o 23 .lenL 22,p 24 (.bin .lss) [.t 18,.t 23]]<|.cond (.t 24) (.skip) (.exit 0))<|
 .seq (.block 1 (.seq (.q [m 27 0,o 28 .nilchk 27,f 29 1 28,h 30 1 false 29,m 31 10,p 32 (.iaddr 2) [.t 30,.t 31],f 33 0 32,h 34 1 false 33,
 m 35 1,p 36 (.bin .eql) [.t 34,.t 35]]<|.cond (.t 36) (.q [m 37 0,o 38 .nilchk 37,f 39 1 38,h 40 1 false 39,m 41 10,m 42 0,o 43 .nilchk 42,
 f 44 1 43,h 45 1 false 44,m 46 10,p 47 (.iaddr 2) [.t 45,.t 46],f 48 1 47,h 49 1 false 48,m 50 2,p 51 .max [.t 49,.t 50],p 52 (.iaddr 2) [.t 40,.t 41],
 f 53 1 52,⟨none,.st none 1,[.t 53,.t 51],none⟩]<|.q [i 8 9]<|.ret) (.skip))<|.q [m 54 0,o 55 .nilchk 54,f 56 1 55,h 57 1 false 56,m 58 10,
 p 59 (.iaddr 2) [.t 57,.t 58],f 60 0 59,h 61 1 false 60,m 62 1,p 63 (.bin .lss) [.t 61,.t 62]]<|.cond (.t 63) (.ops [m 64 10,p 65 (.bin .add) [.t 64,.k (.i 1)],m 9 65]) (.skip)))<|.ops [
 m 25 10,p 26 (.bin .add) [.t 25,.k (.i 1)],m 10 26]
def zld:ACode:=.q [i 8 0]<|.seq (.q [m 12 2,m 13 3,p 14 (.bin .leq) [.t 12,.t 13]]<|.cond (.t 14) (.q [i 8 5]<|.ret) (.skip))<|.q [m 15 0,m 16 3,
 c 17 55 [.t 15,.t 16]]<|.q [i 9 0]<|.seq (.q [i 10 0]<|.block 0 (.loop [8,18,19,20,21,22,23,24,25,26,27,28,29,30,31,32,33,34,35,36,37,38,39,40,41,42,43,44,45,46,47,48,49,50,51,52,53,54,55,56,57,58,59,60,61,62,63,64,65] [] zbi))<|
 .seq (.q [m 66 0,o 67 .nilchk 66,f 68 1 67,h 69 1 false 68,o 70 .lenL 69,m 71 0,o 72 .nilchk 71,f 73 0 72,h 74 1 false 73,
 p 75 (.bin .geq) [.t 70,.t 74]]<|.cond (.t 75) (.q [i 8 10]<|.ret) (.skip))<|.q [⟨some 76,.pur (.buildSl 2 0 [E,.i 0] []),[],none⟩,m 77 0,o 78 .nilchk 77,f 79 1 78,h 80 1 false 79,
 m 81 9,p 82 (.sliceL 2 false true false) [.t 80,.t 81],⟨some 83,.append 2 24,[.t 76,.t 82],none⟩,m 84 1,m 85 2,⟨some 86,.pur (.build [E,.i 0] [(0,1),(1,1)]),[.t 84,.t 85],none⟩,⟨some 87,.pur (.buildSl 2 1 [E,.i 0] [0]),[.t 86],none⟩,
 ⟨some 88,.append 2 24,[.t 83,.t 87],none⟩,m 11 88]<|.q [m 89 0,m 90 11,m 91 0,o 92 .nilchk 91,f 93 1 92,h 94 1 false 93,m 95 9,
 p 96 (.sliceL 2 true false false) [.t 94,.t 95],⟨some 97,.append 2 24,[.t 90,.t 96],none⟩,o 98 .nilchk 89,f 99 1 98,⟨none,.st none 1,[.t 99,.t 97],none⟩]<|.q [i 8 0]<|.ret
def f56:zd:=⟨100,zld,[.tmp 8]⟩
def zcH:ACode:=.seq (.q [m 28 5,f 29 2 2,l 30 2 1 false 29,o 31 .lenL 30,p 32 (.bin .lss) [.t 28,.t 31]]<|.cond (.t 32) (.skip) (.exit 0))<|.seq (.block 1 (.q [f 35 2 2,
 l 36 2 1 false 35,m 37 5,p 38 (.iaddr 3) [.t 36,.t 37],h 39 3 true 38,f 40 2 3,l 41 3 1 false 40,m 42 5,p 43 (.iaddr 3) [.t 41,.t 42],h 44 3 true 43,
 c 45 61 [.t 39,.t 44],m 6 45]<|.q [m 46 6,o 47 (.un .not) 46]<|.cond (.t 47) (.q [k 4 (.b false)]<|.ret) (.skip)))<|.ops [m 33 5,p 34 (.bin .add) [.t 33,.k (.i 1)],
 m 5 34]
def zf9:ACode:=.q [x 2 0,x 3 1,k 4 (.b false)]<|.seq (.q [f 7 0 2,l 8 2 1 false 7,f 9 0 3,l 10 3 1 false 9,p 11 (.bin .neq) [.t 8,.t 10],
 m 12 11,w 13 (.faddr 1) [.t 2] 12 false,u 14 (.ld (some 2) 1 false) [.t 13] 12 false,w 15 (.faddr 1) [.t 3] 12 false,u 16 (.ld (some 3) 1 false) [.t 15] 12 false,w 17 (.bin .neq) [.t 14,.t 16] 12 false,p 18 .pick [.t 12,.k (.b true),.t 17],
 m 19 18,w 20 (.faddr 2) [.t 2] 19 false,u 21 (.ld (some 2) 1 false) [.t 20] 19 false,w 22 .lenL [.t 21] 19 false,w 23 (.faddr 2) [.t 3] 19 false,u 24 (.ld (some 3) 1 false) [.t 23] 19 false,w 25 .lenL [.t 24] 19 false,
 w 26 (.bin .neq) [.t 22,.t 25] 19 false,p 27 .pick [.t 19,.k (.b true),.t 26]]<|.cond (.t 27) (.q [k 4 (.b false)]<|.ret) (.skip))<|.seq (.q [i 5 0]<|
 .block 0 (.loop [4,6,28,29,30,31,32,33,34,35,36,37,38,39,40,41,42,43,44,45,46,47] [] zcH))<|.q [k 4 (.b true)]<|.ret
def f61:zd:=⟨48,zf9,[.tmp 4]⟩
def zt1:ACode:=.q [⟨some 4,.alloc .reg Z,[],none⟩]<|.q [m 5 0,c 6 192 [.t 5],⟨some 7,.pur (.buildSl 3 1 Z [0]),[.t 6],none⟩,m 8 1,p 9 (.buildSl 1 2 [N] [0,1]) [.t 7,.t 8],
 c 10 191 [.t 9],c 11 126 [.t 10],s 4 3 4 11]<|.ret
def f62:zd:=⟨12,zt1,[.cell 4 3 true]⟩
def zkd:ACode:=.seq (.q [m 11 6,m 12 1,o 13 .lenL 12,p 14 (.bin .lss) [.t 11,.t 13]]<|.cond (.t 14) (.skip) (.exit 0))<|.seq (.block 1 (.ops [f 17 2 5,l 18 5 1 false 17,m 19 1,
 m 20 6,p 21 (.iaddr 3) [.t 19,.t 20],h 22 3 true 21,⟨some 23,.pur (.buildSl 3 1 Z [0]),[.t 22],none⟩,⟨some 24,.append 3 48,[.t 18,.t 23],none⟩,f 25 2 5,s 5 1 25 24]))<|.ops [m 15 6,
 p 16 (.bin .add) [.t 15,.k (.i 1)],m 6 16]
def ztx:ACode:=.q [⟨some 4,.alloc .reg Z,[],none⟩]<|.q [m 7 0,c 8 161 [.t 7],⟨some 9,.pur (.buildSl 3 1 Z [0]),[.t 8],none⟩,⟨some 10,.pur (.build Z [(0,1),(2,1)]),[.k (.i 3),.t 9],none⟩,
 ⟨some 5,.alloc .reg Z,[],none⟩,s 5 3 5 10]<|.seq (.q [i 6 0]<|.block 0 (.loop [11,12,13,14,15,16,17,18,19,20,21,22,23,24,25] [] zkd))<|.q [l 26 5 3 true 5,s 4 3 4 26]<|.ret
def f63:zd:=⟨27,ztx,[.cell 4 3 true]⟩
def zqr:ACode:=.q [⟨some 2,.alloc .reg Z,[],none⟩]<|.q [m 3 0,⟨some 4,.pur (.bin .add),[.k (.s ⟨#[61]⟩),.t 3],none⟩,c 5 192 [.t 4],s 2 3 2 5]<|.ret
def f64:zd:=⟨6,zqr,[.cell 2 3 true]⟩
def znr:ACode:=.q [⟨some 2,.alloc .reg Z,[],none⟩]<|.q [m 3 0,⟨some 4,.pur (.bin .add),[.k (.s ⟨#[61]⟩),.t 3],none⟩,c 5 161 [.t 4],s 2 3 2 5]<|.ret
def f65:zd:=⟨6,znr,[.cell 2 3 true]⟩
def zry:ACode:=.q [⟨some 2,.alloc .reg Z,[],none⟩]<|.q [m 3 0,c 4 193 [.t 3],c 5 64 [.t 4],s 2 3 2 5]<|.ret
def f66:zd:=⟨6,zry,[.cell 2 3 true]⟩
def zt0:ACode:=.q [⟨some 2,.alloc .reg Z,[],none⟩]<|.q [m 3 0,c 4 139 [.t 3],c 5 65 [.t 4],s 2 3 2 5]<|.ret
def f67:zd:=⟨6,zt0,[.cell 2 3 true]⟩
def zmF:ACode:=.seq (.q [m 6 4,m 7 0,o 8 .lenL 7,p 9 (.bin .lss) [.t 6,.t 8]]<|.cond (.t 9) (.skip) (.exit 0))<|.seq (.block 1 (.ops [f 12 2 3,l 13 3 1 false 12,m 14 0,
 m 15 4,p 16 (.iaddr 1) [.t 14,.t 15],h 17 1 false 16,c 18 65 [.t 17],⟨some 19,.pur (.buildSl 3 1 Z [0]),[.t 18],none⟩,⟨some 20,.append 3 48,[.t 13,.t 19],none⟩,f 21 2 3,s 3 1 21 20]))<|.ops [
 m 10 4,p 11 (.bin .add) [.t 10,.k (.i 1)],m 4 11]
def zqY:ACode:=.q [⟨some 2,.alloc .reg Z,[],none⟩]<|.q [⟨some 5,.pur (.build Z [(0,1)]),[.k (.i 3)],none⟩,⟨some 3,.alloc .reg Z,[],none⟩,s 3 3 3 5]<|.seq (.q [i 4 0]<|
 .block 0 (.loop [6,7,8,9,10,11,12,13,14,15,16,17,18,19,20,21] [] zmF))<|.q [l 22 3 3 true 3,s 2 3 2 22]<|.ret
def f69:zd:=⟨23,zqY,[.cell 2 3 true]⟩
def zrm:ACode:=.q [x 3 0,x 4 1,x 5 2,⟨some 6,.alloc .reg Z,[],none⟩]<|.q [l 7 3 3 true 3,l 8 4 3 true 4,l 9 5 3 true 5,
 ⟨some 10,.pur (.buildSl 3 3 Z [0,1,2]),[.t 7,.t 8,.t 9],none⟩,⟨some 11,.call 62,[.k (.s ⟨#[97,115,45,114,101,113]⟩),.t 10],none⟩,s 6 3 6 11]<|.ret
def f70:zd:=⟨12,zrm,[.cell 6 3 true]⟩
def ztD:ACode:=.q [⟨some 2,.alloc .reg Z,[],none⟩]<|.q [m 3 0,c 4 67 [.t 3],⟨some 5,.pur (.buildSl 3 1 Z [0]),[.t 4],none⟩,⟨some 6,.call 63,[.k (.s ⟨#[101,114,114,111,114]⟩),.t 5],none⟩,s 2 3 2 6]<|.ret
def f73:zd:=⟨7,ztD,[.cell 2 3 true]⟩
def zok:ACode:=.q [⟨some 0,.alloc .reg Z,[],none⟩]<|.q [⟨some 1,.call 62,[.k (.s ⟨#[110,111,110,101]⟩),.k N],none⟩,s 0 3 0 1]<|.ret
def f74:zd:=⟨2,zok,[.cell 0 3 true]⟩
def ztH:ACode:=.q [⟨some 0,.alloc .reg Z,[],none⟩]<|.q [⟨some 1,.call 63,[.k (.s ⟨#[110,111,110,101]⟩),.k N],none⟩,s 0 3 0 1]<|.ret
def f75:zd:=⟨2,ztH,[.cell 0 3 true]⟩
def zqt:ACode:=.q [⟨some 4,.alloc .reg Z,[],none⟩]<|.q [m 5 0,c 6 64 [.t 5],m 7 1,c 8 64 [.t 7],⟨some 9,.pur (.buildSl 3 2 Z [0,1]),[.t 6,.t 8],none⟩,
 ⟨some 10,.call 62,[.k (.s ⟨#[98,111,100,121]⟩),.t 9],none⟩,s 4 3 4 10]<|.ret
def f76:zd:=⟨11,zqt,[.cell 4 3 true]⟩
def zes:ACode:=.q [x 5 2,k 6 N,k 7 (.b false)]<|.seq (.q [m 8 0,⟨some 9,.pur (.bin .eql),[.t 8,.k E],none⟩,m 10 9,u 11 (.ld (some 5) 3 true) [.t 5] 10 false,
 u 12 (.call 81) [.t 11] 10 false,w 13 .mov [.t 0] 10 false,w 14 (.bin .neq) [.t 12,.t 13] 10 false,p 15 .pick [.t 10,.k (.b true),.t 14],m 16 15,w 17 (.faddr 2) [.t 5] 16 false,u 18 (.ld (some 5) 1 false) [.t 17] 16 false,
 w 19 .lenL [.t 18] 16 false,w 20 (.bin .sub) [.t 19,.k (.i 1)] 16 false,w 21 .mov [.t 1] 16 false,w 22 (.bin .neq) [.t 20,.t 21] 16 false,p 23 .pick [.t 16,.k (.b true),.t 22]]<|.cond (.t 23) (.q [k 6 N,
 k 7 (.b false)]<|.ret) (.skip))<|.q [f 24 2 5,l 25 5 1 false 24,o 26 .lenL 25,m 1 26]<|.q [f 27 2 5,l 28 5 1 false 27,m 29 1,
 m 30 1,p 31 (.sliceL 3 true true true) [.t 28,.k (.i 1),.t 29,.t 30],m 6 31,k 7 (.b true)]<|.ret
def f78:zd:=⟨32,zes,[.tmp 6,.tmp 7]⟩
def zeV:ACode:=.q [x 5 2,k 6 N,k 7 (.b false)]<|.q [l 9 5 3 true 5,c 10 82 [.t 9],m 8 10]<|.seq (.q [m 11 0,
 ⟨some 12,.pur (.bin .eql),[.t 11,.k E],none⟩,m 13 12,w 14 .mov [.t 8] 13 false,w 15 .mov [.t 0] 13 false,w 16 (.bin .neq) [.t 14,.t 15] 13 false,p 17 .pick [.t 13,.k (.b true),.t 16],m 18 17,
 w 19 (.faddr 2) [.t 5] 18 false,u 20 (.ld (some 5) 1 false) [.t 19] 18 false,w 21 .lenL [.t 20] 18 false,w 22 .mov [.t 1] 18 false,w 23 (.bin .add) [.t 22,.k (.i 1)] 18 false,w 24 (.bin .neq) [.t 21,.t 23] 18 false,
 p 25 .pick [.t 18,.k (.b true),.t 24]]<|.cond (.t 25) (.q [k 6 N,k 7 (.b false)]<|.ret) (.skip))<|.q [f 26 2 5,l 27 5 1 false 26,p 28 (.sliceL 3 true false false) [.t 27,.k (.i 1)],
 m 6 28,k 7 (.b true)]<|.ret
def f79:zd:=⟨29,zeV,[.tmp 6,.tmp 7]⟩
def zcU:ACode:=.q [x 1 0,⟨some 2,.pur .mov,[.k E],none⟩]<|.seq (.q [f 5 0 1,l 6 1 1 false 5,p 7 (.bin .eql) [.t 6,.k (.i 3)],m 8 7,w 9 (.faddr 1) [.t 1] 8 true,
 u 10 (.ld (some 1) 1 false) [.t 9] 8 true,⟨some 11,.pur (.bin .eql),[.t 10,.k E],some (8,true)⟩,p 12 .pick [.t 8,.t 11,.k (.b false)],m 13 12,w 14 (.faddr 2) [.t 1] 13 true,u 15 (.ld (some 1) 1 false) [.t 14] 13 true,w 16 .lenL [.t 15] 13 true,
 w 17 (.bin .gtr) [.t 16,.k (.i 0)] 13 true,p 18 .pick [.t 13,.t 17,.k (.b false)]]<|.cond (.t 18) (.q [f 20 2 1,l 21 1 1 false 20,p 22 (.iaddr 3) [.t 21,.k (.i 0)],h 23 3 true 22,c 24 194 [.t 23],
 m 19 24,e 25 0 19,e 26 1 19,m 3 25,m 4 26]<|.q [m 27 4]<|.cond (.t 27) (.q [m 28 3,m 2 28]<|.ret) (.skip)) (.skip))<|.q [
 ⟨some 2,.pur .mov,[.k E],none⟩]<|.ret
def f81:zd:=⟨29,zcU,[.tmp 2]⟩
def zcF:ACode:=.q [x 1 0,⟨some 2,.pur .mov,[.k E],none⟩]<|.seq (.q [f 3 0 1,l 4 1 1 false 3,p 5 (.bin .neq) [.t 4,.k (.i 3)],m 6 5,w 7 (.faddr 1) [.t 1] 6 false,
 u 8 (.ld (some 1) 1 false) [.t 7] 6 false,⟨some 9,.pur (.bin .neq),[.t 8,.k E],some (6,false)⟩,p 10 .pick [.t 6,.k (.b true),.t 9],m 11 10,w 12 (.faddr 2) [.t 1] 11 false,u 13 (.ld (some 1) 1 false) [.t 12] 11 false,w 14 .lenL [.t 13] 11 false,
 w 15 (.bin .eql) [.t 14,.k (.i 0)] 11 false,p 16 .pick [.t 11,.k (.b true),.t 15],m 17 16,w 18 (.faddr 2) [.t 1] 17 false,u 19 (.ld (some 1) 1 false) [.t 18] 17 false,w 20 (.iaddr 3) [.t 19,.k (.i 0)] 17 false,
 w 21 (.faddr 0) [.t 20] 17 false,u 22 (.ld none 1 false) [.t 21] 17 false,w 23 (.bin .neq) [.t 22,.k (.i 1)] 17 false,p 24 .pick [.t 17,.k (.b true),.t 23],m 25 24,w 26 (.faddr 2) [.t 1] 25 false,u 27 (.ld (some 1) 1 false) [.t 26] 25 false,
 w 28 (.iaddr 3) [.t 27,.k (.i 0)] 25 false,w 29 (.faddr 2) [.t 28] 25 false,u 30 (.ld none 1 false) [.t 29] 25 false,w 31 .lenL [.t 30] 25 false,w 32 (.bin .gtr) [.t 31,.k (.i 0)] 25 false,p 33 .pick [.t 25,.k (.b true),.t 32]]<|.cond (.t 33) (.q [
 ⟨some 2,.pur .mov,[.k E],none⟩]<|.ret) (.skip))<|.q [f 34 2 1,l 35 1 1 false 34,p 36 (.iaddr 3) [.t 35,.k (.i 0)],f 37 1 36,h 38 1 false 37,m 2 38]<|.ret
def f82:zd:=⟨39,zcF,[.tmp 2]⟩
def zqK:ACode:=.q [x 1 0,k 2 (.b false)]<|.q [l 6 1 3 true 1,⟨some 7,.call 79,[.k (.s ⟨#[110,111,110,101]⟩),.k (.i 0),.t 6],none⟩,m 5 7,e 8 0 5,e 9 1 5,
 m 3 8,m 4 9]<|.q [m 10 4,m 2 10]<|.ret
def f84:zd:=⟨11,zqK,[.tmp 2]⟩
def zfc:ACode:=.q [x 1 0,⟨some 2,.pur .mov,[.k E],none⟩,k 3 (.b false)]<|.q [l 8 1 3 true 1,c 9 194 [.t 8],m 7 9,e 10 0 7,e 11 1 7,
 m 4 10,m 5 11]<|.q [m 13 4,⟨some 14,.call 195,[.t 13,.k (.s ⟨#[61]⟩)],none⟩,m 12 14,e 15 0 12,e 16 1 12,m 4 15,m 6 16]<|.seq (.q [
 m 17 5,o 18 (.un .not) 17,m 19 18,w 20 .mov [.t 6] 19 false,w 21 (.un .not) [.t 20] 19 false,p 22 .pick [.t 19,.k (.b true),.t 21]]<|.cond (.t 22) (.q [⟨some 2,.pur .mov,[.k E],none⟩,
 k 3 (.b false)]<|.ret) (.skip))<|.q [m 23 4,m 2 23,k 3 (.b true)]<|.ret
def f85:zd:=⟨24,zfc,[.tmp 2,.tmp 3]⟩
def zdn:ACode:=.q [x 1 0,⟨some 2,.pur .mov,[.k E],none⟩,k 3 (.b false)]<|.seq (.q [f 4 0 1,l 5 1 1 false 4,p 6 (.bin .neq) [.t 5,.k (.i 1)],m 7 6,
 w 8 (.faddr 2) [.t 1] 7 false,u 9 (.ld (some 1) 1 false) [.t 8] 7 false,w 10 .lenL [.t 9] 7 false,w 11 (.bin .gtr) [.t 10,.k (.i 0)] 7 false,p 12 .pick [.t 7,.k (.b true),.t 11],m 13 12,w 14 (.faddr 1) [.t 1] 13 false,
 u 15 (.ld (some 1) 1 false) [.t 14] 13 false,⟨some 16,.pur (.bin .eql),[.t 15,.k E],some (13,false)⟩,p 17 .pick [.t 13,.k (.b true),.t 16],m 18 17,w 19 (.faddr 1) [.t 1] 18 false,u 20 (.ld (some 1) 1 false) [.t 19] 18 false,
 w 21 .indexS [.t 20,.k (.i 0)] 18 false,w 22 (.bin .neq) [.t 21,.k (.sc (.int .u8 (61)))] 18 false,p 23 .pick [.t 18,.k (.b true),.t 22]]<|.cond (.t 23) (.q [⟨some 2,.pur .mov,[.k E],none⟩,k 3 (.b false)]<|.ret) (.skip))<|.q [
 f 24 1 1,l 25 1 1 false 24,p 26 (.sliceS true false) [.t 25,.k (.i 1)],m 2 26,k 3 (.b true)]<|.ret
def f86:zd:=⟨27,zdn,[.tmp 2,.tmp 3]⟩
def zbZ:ACode:=.q [x 1 0,i 2 0,k 3 (.b false)]<|.q [l 9 1 3 true 1,c 10 85 [.t 9],m 8 10,e 11 0 8,e 12 1 8,
 m 4 11,m 5 12]<|.q [m 14 4,c 15 196 [.t 14],m 13 15,e 16 0 13,e 17 1 13,m 6 16,m 7 17]<|.seq (.q [
 m 18 5,o 19 (.un .not) 18,m 20 19,w 21 .mov [.t 7] 20 false,w 22 (.nilI true) [.t 21] 20 false,p 23 .pick [.t 20,.k (.b true),.t 22],m 24 23,w 25 .mov [.t 4] 24 false,
 w 26 .lenS [.t 25] 24 false,w 27 (.bin .gtr) [.t 26,.k (.i 18)] 24 false,p 28 .pick [.t 24,.k (.b true),.t 27],m 29 28,w 30 .mov [.t 6] 29 false,u 31 (.call 193) [.t 30] 29 false,w 32 .mov [.t 4] 29 false,
 w 33 (.bin .neq) [.t 31,.t 32] 29 false,p 34 .pick [.t 29,.k (.b true),.t 33]]<|.cond (.t 34) (.q [i 2 0,k 3 (.b false)]<|.ret) (.skip))<|.q [m 35 6,m 2 35,k 3 (.b true)]<|.ret
def f87:zd:=⟨36,zbZ,[.tmp 2,.tmp 3]⟩
def zaX:ACode:=.seq (.q [m 24 7,m 25 4,o 26 .lenS 25,p 27 (.bin .lss) [.t 24,.t 26]]<|.cond (.t 27) (.skip) (.exit 0))<|.seq (.block 1 (.seq (.q [m 30 7,p 31 (.bin .eql) [.t 30,.k (.i 0)],
 m 32 31,w 33 .mov [.t 4] 32 true,w 34 .mov [.t 7] 32 true,w 35 .indexS [.t 33,.t 34] 32 true,w 36 (.bin .eql) [.t 35,.k (.sc (.int .u8 (45)))] 32 true,p 37 .pick [.t 32,.t 36,.k (.b false)]]<|.cond (.t 37) (.exit 1) (.skip))<|.seq (.q [
 m 38 4,m 39 7,p 40 .indexS [.t 38,.t 39],p 41 (.bin .lss) [.t 40,.k (.sc (.int .u8 (48)))],m 42 41,w 43 .mov [.t 4] 42 false,w 44 .mov [.t 7] 42 false,w 45 .indexS [.t 43,.t 44] 42 false,
 w 46 (.bin .gtr) [.t 45,.k (.sc (.int .u8 (57)))] 42 false,p 47 .pick [.t 42,.k (.b true),.t 46]]<|.cond (.t 47) (.q [i 2 0,k 3 (.b false)]<|.ret) (.skip))<|.ops [m 48 6,p 49 (.bin .mul) [.t 48,.k (.i 10)],
 m 50 4,m 51 7,p 52 .indexS [.t 50,.t 51],o 53 (.toInt .i64) 52,p 54 (.bin .add) [.t 49,.t 53],p 55 (.bin .sub) [.t 54,.k (.i 48)],m 6 55]))<|.ops [m 28 7,
 p 29 (.bin .add) [.t 28,.k (.i 1)],m 7 29]
def zev:ACode:=.q [x 1 0,i 2 0,k 3 (.b false)]<|.q [l 9 1 3 true 1,c 10 86 [.t 9],m 8 10,e 11 0 8,e 12 1 8,
 m 4 11,m 5 12]<|.seq (.q [m 13 5,o 14 (.un .not) 13,m 15 14,w 16 .mov [.t 4] 15 false,⟨some 17,.pur (.bin .eql),[.t 16,.k E],some (15,false)⟩,p 18 .pick [.t 15,.k (.b true),.t 17],
 m 19 18,w 20 .mov [.t 4] 19 false,w 21 .lenS [.t 20] 19 false,w 22 (.bin .gtr) [.t 21,.k (.i 18)] 19 false,p 23 .pick [.t 19,.k (.b true),.t 22]]<|.cond (.t 23) (.q [i 2 0,k 3 (.b false)]<|
 .ret) (.skip))<|.q [i 6 0]<|.seq (.q [i 7 0]<|.block 0 (.loop [2,3,24,25,26,27,28,29,30,31,32,33,34,35,36,37,38,39,40,41,42,43,44,45,46,47,48,49,50,51,52,53,54,55] [] zaX))<|.seq (.q [m 56 4,
 p 57 .indexS [.t 56,.k (.i 0)],p 58 (.bin .eql) [.t 57,.k (.sc (.int .u8 (45)))]]<|.cond (.t 58) (.ops [m 59 6,o 60 (.un .neg) 59,m 6 60]) (.skip))<|.seq (.q [m 61 6,c 62 139 [.t 61],
 m 63 4,p 64 (.bin .neq) [.t 62,.t 63]]<|.cond (.t 64) (.q [i 2 0,k 3 (.b false)]<|.ret) (.skip))<|.q [m 65 6,m 2 65,k 3 (.b true)]<|.ret
def f88:zd:=⟨66,zev,[.tmp 2,.tmp 3]⟩
def zb9:ACode:=.q [x 1 0,⟨some 2,.pur .mov,[.k E],none⟩,⟨some 3,.pur .mov,[.k E],none⟩,k 4 (.b false)]<|.q [l 12 1 3 true 1,⟨some 13,.call 79,[.k (.s ⟨#[98,111,100,121]⟩),.k (.i 2),.t 12],none⟩,m 11 13,
 e 14 0 11,e 15 1 11,m 5 14,m 6 15]<|.seq (.q [m 16 6,o 17 (.un .not) 16]<|.cond (.t 17) (.q [⟨some 2,.pur .mov,[.k E],none⟩,⟨some 3,.pur .mov,[.k E],none⟩,
 k 4 (.b false)]<|.ret) (.skip))<|.q [m 19 5,p 20 (.iaddr 3) [.t 19,.k (.i 0)],h 21 3 true 20,c 22 86 [.t 21],m 18 22,e 23 0 18,e 24 1 18,
 m 7 23,m 8 24]<|.q [m 26 5,p 27 (.iaddr 3) [.t 26,.k (.i 1)],h 28 3 true 27,c 29 86 [.t 28],m 25 29,e 30 0 25,e 31 1 25,
 m 9 30,m 10 31]<|.seq (.q [m 32 8,o 33 (.un .not) 32,m 34 33,w 35 .mov [.t 10] 34 false,w 36 (.un .not) [.t 35] 34 false,p 37 .pick [.t 34,.k (.b true),.t 36],
 m 38 37,w 39 .mov [.t 7] 38 false,⟨some 40,.pur (.bin .eql),[.t 39,.k E],some (38,false)⟩,p 41 .pick [.t 38,.k (.b true),.t 40],m 42 41,w 43 .mov [.t 9] 42 false,⟨some 44,.pur (.bin .eql),[.t 43,.k E],some (42,false)⟩,
 p 45 .pick [.t 42,.k (.b true),.t 44]]<|.cond (.t 45) (.q [⟨some 2,.pur .mov,[.k E],none⟩,⟨some 3,.pur .mov,[.k E],none⟩,k 4 (.b false)]<|.ret) (.skip))<|.q [m 46 7,m 47 9,m 2 46,
 m 3 47,k 4 (.b true)]<|.ret
def f93:zd:=⟨48,zb9,[.tmp 2,.tmp 3,.tmp 4]⟩
def zmK:ACode:=.q [x 1 0,⟨some 2,.alloc .reg Z,[],none⟩,⟨some 3,.alloc .reg Z,[],none⟩,⟨some 4,.alloc .reg Z,[],none⟩,k 5 (.b false)]<|.q [l 9 1 3 true 1,
 ⟨some 10,.call 79,[.k (.s ⟨#[97,115,45,114,101,113]⟩),.k (.i 3),.t 9],none⟩,m 8 10,e 11 0 8,e 12 1 8,m 6 11,m 7 12]<|.seq (.q [m 13 7,o 14 (.un .not) 13]<|
 .cond (.t 14) (.q [⟨some 15,.pur (.build Z []),[],none⟩,⟨some 16,.pur (.build Z []),[],none⟩,⟨some 17,.pur (.build Z []),[],none⟩,s 2 3 2 15,s 3 3 3 16,s 4 3 4 17,
 k 5 (.b false)]<|.ret) (.skip))<|.q [m 18 6,p 19 (.iaddr 3) [.t 18,.k (.i 0)],h 20 3 true 19,m 21 6,p 22 (.iaddr 3) [.t 21,.k (.i 1)],h 23 3 true 22,m 24 6,
 p 25 (.iaddr 3) [.t 24,.k (.i 2)],h 26 3 true 25,s 2 3 2 20,s 3 3 3 23,s 4 3 4 26,k 5 (.b true)]<|.ret
def f95:zd:=⟨27,zmK,[.cell 2 3 true,.cell 3 3 true,.cell 4 3 true,.tmp 5]⟩
def zf7:ACode:=.q [x 1 0,i 2 0,k 3 (.b false)]<|.q [l 8 1 3 true 1,⟨some 9,.call 78,[.k (.s ⟨#[101,114,114,111,114]⟩),.k (.i 1),.t 8],none⟩,m 7 9,e 10 0 7,
 e 11 1 7,m 4 10,m 5 11]<|.seq (.q [m 12 5,o 13 (.un .not) 12]<|.cond (.t 13) (.q [i 2 0,k 3 (.b false)]<|.ret) (.skip))<|.q [
 m 15 4,p 16 (.iaddr 3) [.t 15,.k (.i 0)],h 17 3 true 16,c 18 87 [.t 17],m 14 18,e 19 0 14,e 20 1 14,m 6 19,m 5 20]<|.seq (.q [
 m 21 5,o 22 (.un .not) 21,m 23 22,w 24 .mov [.t 6] 23 false,w 25 (.bin .lss) [.t 24,.k (.i 1)] 23 false,p 26 .pick [.t 23,.k (.b true),.t 25]]<|.cond (.t 26) (.q [i 2 0,
 k 3 (.b false)]<|.ret) (.skip))<|.q [m 27 6,m 2 27,k 3 (.b true)]<|.ret
def f96:zd:=⟨28,zf7,[.tmp 2,.tmp 3]⟩
def zjU:ACode:=.q [⟨some 2,.alloc .reg Z,[],none⟩,⟨some 3,.pur .mov,[.k E],none⟩,k 4 (.b false)]<|.seq (.q [m 5 0,o 6 .nilchk 5,f 7 0 6,f 8 2 7,
 h 9 1 false 8,o 10 (.un .not) 9]<|.cond (.t 10) (.q [⟨some 11,.pur (.build Z []),[],none⟩,s 2 3 2 11,⟨some 3,.pur .mov,[.k E],none⟩,k 4 (.b false)]<|.ret) (.skip))<|.q [m 12 0,
 o 13 .nilchk 12,f 14 0 13,f 15 16 14,h 16 3 true 15,m 17 0,o 18 .nilchk 17,f 19 0 18,f 20 3 19,h 21 1 false 20,
 s 2 3 2 16,m 3 21,k 4 (.b true)]<|.ret
def zfN:zd:=⟨22,zjU,[.cell 2 3 true,.tmp 3,.tmp 4]⟩
def zlL:ACode:=.seq (.q [m 23 8,f 24 2 3,l 25 3 1 false 24,o 26 .lenL 25,p 27 (.bin .lss) [.t 23,.t 26]]<|.cond (.t 27) (.skip) (.exit 0))<|.seq (.block 1 (.ops [m 30 7,f 31 2 3,
 l 32 3 1 false 31,m 33 8,p 34 (.iaddr 1) [.t 32,.t 33],h 35 1 false 34,⟨some 36,.pur (.bin .add),[.k (.s ⟨#[100]⟩),.t 35],none⟩,c 37 212 [.t 36],⟨some 38,.pur (.buildSl 3 1 Z [0]),[.t 37],none⟩,
 ⟨some 39,.append 3 48,[.t 30,.t 38],none⟩,m 7 39]))<|.ops [m 28 8,p 29 (.bin .add) [.t 28,.k (.i 1)],m 8 29]
def zey:ACode:=.q [x 2 0,x 3 1,⟨some 4,.alloc .reg Z,[],none⟩]<|.q [l 10 2 3 true 2,c 11 211 [.t 10],m 5 11]<|.q [f 12 3 3,
 l 13 3 3 true 12,c 14 211 [.t 13],m 6 14]<|.seq (.q [m 15 5,o 16 (.un .not) 15,m 17 16,w 18 .mov [.t 6] 17 false,w 19 (.un .not) [.t 18] 17 false,
 p 20 .pick [.t 17,.k (.b true),.t 19]]<|.cond (.t 20) (.q [⟨some 21,.pur (.build Z []),[],none⟩,s 4 3 4 21]<|.ret) (.skip))<|.q [⟨some 22,.pur (.buildSl 3 0 Z []),[],none⟩,m 7 22]<|.seq (.q [
 i 8 0]<|.block 0 (.loop [23,24,25,26,27,28,29,30,31,32,33,34,35,36,37,38,39] [] zlL))<|.q [⟨some 40,.call 212,[.k (.s ⟨#[99,111,111,107,105,101]⟩)],none⟩,f 41 0 3,l 42 3 1 false 41,⟨some 43,.pur (.bin .add),[.k (.s ⟨#[99]⟩),.t 42],none⟩,
 c 44 212 [.t 43],f 45 1 3,l 46 3 1 false 45,⟨some 47,.pur (.bin .add),[.k (.s ⟨#[110]⟩),.t 46],none⟩,c 48 212 [.t 47],m 49 7,⟨some 50,.pur (.build Z [(0,1),(2,1)]),[.k (.i 3),.t 49],none⟩,
 f 51 3 3,l 52 3 3 true 51,f 53 6 3,l 54 3 1 false 53,c 55 213 [.t 54],⟨some 56,.pur (.bin .add),[.k (.s ⟨#[117]⟩),.t 55],none⟩,c 57 212 [.t 56],
 ⟨some 58,.pur (.buildSl 3 6 Z [0,1,2,3,4,5]),[.t 40,.t 44,.t 48,.t 50,.t 52,.t 57],none⟩,m 9 58]<|.q [l 59 2 3 true 2,m 60 9,⟨some 61,.pur (.build Z [(0,1),(2,1)]),[.k (.i 3),.t 60],none⟩,
 ⟨some 62,.pur (.buildSl 3 2 Z [0,1]),[.t 59,.t 61],none⟩,⟨some 63,.pur (.build Z [(0,1),(2,1)]),[.k (.i 4),.t 62],none⟩,s 4 3 4 63]<|.ret
def zcx:zd:=⟨64,zey,[.cell 4 3 true]⟩
def wC:ACode:=.q [x 3 0,x 4 1,⟨some 6,.alloc .reg [E,E,N,.i 0,E,N,.i 0],[],none⟩,i 7 0]<|.q [l 13 4 3 true 4,c 14 219 [.t 13],m 8 14]<|
 .seq (.q [m 15 8,o 16 (.un .not) 15,m 17 16,w 18 (.faddr 0) [.t 4] 17 false,u 19 (.ld (some 4) 1 false) [.t 18] 17 false,w 20 (.bin .neq) [.t 19,.k (.i 4)] 17 false,p 21 .pick [.t 17,.k (.b true),.t 20]]<|
 .cond (.t 21) (.q [⟨some 22,.pur (.build [E,E,N,.i 0,E,N,.i 0] []),[],none⟩,s 6 7 6 22,i 7 2]<|.ret) (.skip))<|.q [f 23 2 4,l 24 4 1 false 23,
 p 25 (.iaddr 3) [.t 24,.k (.i 0)],h 26 3 true 25,l 27 3 3 true 3,c 28 114 [.t 26,.t 27],m 9 28]<|.seq (.q [m 29 9,o 30 (.un .not) 29]<|.cond (.t 30) (.q [
 ⟨some 31,.pur (.build [E,E,N,.i 0,E,N,.i 0] []),[],none⟩,s 6 7 6 31,i 7 4]<|.ret) (.skip))<|.q [l 32 3 3 true 3,c 33 211 [.t 32],m 10 33]<|.q [
 f 35 2 4,l 36 4 1 false 35,p 37 (.iaddr 3) [.t 36,.k (.i 1)],h 38 3 true 37,c 39 220 [.t 38],m 34 39,e 40 0 34,e 41 1 34,
 ⟨some 11,.alloc .reg [E,E,N,.i 0,E,N,.i 0],[],none⟩,s 11 7 11 40,m 12 41]<|.seq (.q [m 42 10,o 43 (.un .not) 42,m 44 43,w 45 .mov [.t 12] 44 false,
 w 46 (.un .not) [.t 45] 44 false,p 47 .pick [.t 44,.k (.b true),.t 46]]<|.cond (.t 47) (.q [⟨some 48,.pur (.build [E,E,N,.i 0,E,N,.i 0] []),[],none⟩,s 6 7 6 48,i 7 2]<|.ret) (.skip))<|.seq (.q [
 m 49 2,f 50 6 11,l 51 11 1 false 50,p 52 (.bin .gtr) [.t 49,.t 51]]<|.cond (.t 52) (.q [⟨some 53,.pur (.build [E,E,N,.i 0,E,N,.i 0] []),[],none⟩,s 6 7 6 53,
 i 7 5]<|.ret) (.skip))<|.q [l 54 11 7 true 11,s 6 7 6 54,i 7 0]<|.ret
def vW:zd:=⟨55,wC,[.cell 6 7 true,.tmp 7]⟩
def zck:ACode:=.seq (.q [m 28 5,f 29 2 2,l 30 2 1 false 29,o 31 .lenL 30,p 32 (.bin .lss) [.t 28,.t 31]]<|.cond (.t 32) (.skip) (.exit 0))<|.seq (.block 1 (.q [f 35 2 2,
 l 36 2 1 false 35,m 37 5,p 38 (.iaddr 3) [.t 36,.t 37],h 39 3 true 38,f 40 2 3,l 41 3 1 false 40,m 42 5,p 43 (.iaddr 3) [.t 41,.t 42],h 44 3 true 43,
 c 45 114 [.t 39,.t 44],m 6 45]<|.q [m 46 6,o 47 (.un .not) 46]<|.cond (.t 47) (.q [k 4 (.b false)]<|.ret) (.skip)))<|.ops [m 33 5,p 34 (.bin .add) [.t 33,.k (.i 1)],
 m 5 34]
def zeS:ACode:=.q [x 2 0,x 3 1,k 4 (.b false)]<|.seq (.q [f 7 0 2,l 8 2 1 false 7,f 9 0 3,l 10 3 1 false 9,p 11 (.bin .neq) [.t 8,.t 10],
 m 12 11,w 13 (.faddr 1) [.t 2] 12 false,u 14 (.ld (some 2) 1 false) [.t 13] 12 false,w 15 (.faddr 1) [.t 3] 12 false,u 16 (.ld (some 3) 1 false) [.t 15] 12 false,w 17 (.bin .neq) [.t 14,.t 16] 12 false,p 18 .pick [.t 12,.k (.b true),.t 17],
 m 19 18,w 20 (.faddr 2) [.t 2] 19 false,u 21 (.ld (some 2) 1 false) [.t 20] 19 false,w 22 .lenL [.t 21] 19 false,w 23 (.faddr 2) [.t 3] 19 false,u 24 (.ld (some 3) 1 false) [.t 23] 19 false,w 25 .lenL [.t 24] 19 false,
 w 26 (.bin .neq) [.t 22,.t 25] 19 false,p 27 .pick [.t 19,.k (.b true),.t 26]]<|.cond (.t 27) (.q [k 4 (.b false)]<|.ret) (.skip))<|.seq (.q [i 5 0]<|
 .block 0 (.loop [4,6,28,29,30,31,32,33,34,35,36,37,38,39,40,41,42,43,44,45,46,47] [] zck))<|.q [k 4 (.b true)]<|.ret
def zhZ:zd:=⟨48,zeS,[.tmp 4]⟩
def zmL:ACode:=.q [x 1 0,k 2 (.b false)]<|.q [l 3 1 3 true 1,c 4 221 [.t 3,.k (.i 60)],m 5 4,u 6 (.ld (some 1) 3 true) [.t 1] 5 true,u 7 (.call 222) [.t 6] 5 true,
 p 8 .pick [.t 5,.t 7,.k (.b false)],m 2 8]<|.ret
def zff:zd:=⟨9,zmL,[.tmp 2]⟩
def zgH:ACode:=.q [x 2 0,x 3 1,k 4 (.b false)]<|.q [f 5 0 2,l 6 2 1 false 5,f 7 0 3,l 8 3 1 false 7,p 9 (.bin .eql) [.t 6,.t 8],
 m 10 9,w 11 (.faddr 1) [.t 2] 10 true,u 12 (.ld (some 2) 1 false) [.t 11] 10 true,w 13 (.faddr 1) [.t 3] 10 true,u 14 (.ld (some 3) 1 false) [.t 13] 10 true,w 15 (.bin .eql) [.t 12,.t 14] 10 true,p 16 .pick [.t 10,.t 15,.k (.b false)],
 m 17 16,w 18 (.faddr 2) [.t 2] 17 true,u 19 (.ld (some 2) 1 false) [.t 18] 17 true,w 20 (.faddr 2) [.t 3] 17 true,u 21 (.ld (some 3) 1 false) [.t 20] 17 true,⟨some 22,.call 224,[.t 19,.t 21,.k (.fn 118 [] [])],some (17,true)⟩,p 23 .pick [.t 17,.t 22,.k (.b false)],
 m 4 23]<|.ret
def zdv:zd:=⟨24,zgH,[.tmp 4]⟩
def ztO:ACode:=.q [k 2 N]<|.q [m 3 0,o 4 .nilchk 3,f 5 36 4,h 6 1 false 5,c 7 226 [.t 6],m 2 7]<|.ret
def ziw:zd:=⟨8,ztO,[.tmp 2]⟩
def zl4:ACode:=.q [x 1 0,⟨some 2,.pur .mov,[.k E],none⟩]<|.seq (.q [l 3 1 3 true 1,c 4 221 [.t 3,.k (.i 60)],o 5 (.un .not) 4]<|.cond (.t 5) (.q [⟨some 2,.pur .mov,[.k E],none⟩]<|.ret) (.skip))<|.q [
 l 6 1 3 true 1,c 7 227 [.t 6],m 2 7]<|.ret
def zfy:zd:=⟨8,zl4,[.tmp 2]⟩
def zqo:ACode:=.q [x 1 0,⟨some 2,.alloc .reg Z,[],none⟩]<|.q [l 3 1 3 true 1,⟨some 4,.pur (.buildSl 3 1 Z [0]),[.t 3],none⟩,⟨some 5,.call 228,[.k (.i 6),.k E,.t 4],none⟩,s 2 3 2 5]<|.ret
def zg6:zd:=⟨6,zqo,[.cell 2 3 true]⟩
def zpd:ACode:=.q [x 2 0,x 3 1,⟨some 4,.alloc .reg Z,[],none⟩]<|.q [l 5 2 3 true 2,l 6 3 3 true 3,⟨some 7,.pur (.buildSl 3 2 Z [0,1]),[.t 5,.t 6],none⟩,
 ⟨some 8,.call 228,[.k (.i 10),.k E,.t 7],none⟩,s 4 3 4 8]<|.ret
def zif:zd:=⟨9,zpd,[.cell 4 3 true]⟩
def zsP:ACode:=.q [⟨some 2,.alloc .reg Z,[],none⟩]<|.q [m 3 0,⟨some 4,.call 228,[.k (.i 3),.k E,.t 3],none⟩,s 2 3 2 4]<|.ret
def zgQ:zd:=⟨5,zsP,[.cell 2 3 true]⟩
def zlo:ACode:=.q [x 2 0,x 3 1,⟨some 4,.alloc .reg Z,[],none⟩]<|.seq (.q [l 5 3 3 true 3,l 6 2 3 true 2,c 7 229 [.t 5,.t 6]]<|.cond (.t 7) (.ops [l 8 3 3 true 3,
 l 9 2 3 true 2,s 2 3 2 8,s 3 3 3 9]) (.skip))<|.q [l 10 2 3 true 2,l 11 3 3 true 3,⟨some 12,.pur (.buildSl 3 2 Z [0,1]),[.t 10,.t 11],none⟩,
 ⟨some 13,.call 228,[.k (.i 9),.k E,.t 12],none⟩,s 4 3 4 13]<|.ret
def zeQ:zd:=⟨14,zlo,[.cell 4 3 true]⟩
def zqh:ACode:=.q [x 2 0,x 3 1,⟨some 4,.alloc .reg Z,[],none⟩]<|.q [l 5 2 3 true 2,l 6 3 3 true 3,⟨some 7,.pur (.buildSl 3 2 Z [0,1]),[.t 5,.t 6],none⟩,
 ⟨some 8,.call 228,[.k (.i 4),.k E,.t 7],none⟩,s 4 3 4 8]<|.ret
def zgw:zd:=⟨9,zqh,[.cell 4 3 true]⟩
def znA:ACode:=.q [x 3 1,k 4 (.b false)]<|.q [m 5 0,c 6 230 [.t 5],l 7 3 3 true 3,c 8 231 [.t 6,.t 7],m 4 8]<|.ret
def f129:zd:=⟨9,znA,[.tmp 4]⟩
def zn5:ACode:=.q [⟨some 2,.alloc .reg Z,[],none⟩]<|.q [m 3 0,⟨some 4,.pur (.build Z [(0,1),(1,1)]),[.k (.i 2),.t 3],none⟩,s 2 3 2 4]<|.ret
def zil:zd:=⟨5,zn5,[.cell 2 3 true]⟩
def zkE:ACode:=.seq (.q [m 28 5,p 29 (.bin .lss) [.t 28,.k (.i 3)]]<|.cond (.t 29) (.skip) (.exit 0))<|.seq (.block 1 (.q [m 33 1,m 34 3,l 35 4 3 true 4,c 36 137 [.t 34,.t 35,.k (.i 0)],
 ⟨some 37,.call 140,[.k (.s ⟨#[120]⟩)],none⟩,c 38 141 [.t 33,.t 36,.k (.i 0),.t 37],m 32 38,e 39 0 32,e 40 1 32,⟨some 6,.alloc .reg Z,[],none⟩,s 6 3 6 39,m 7 40]<|
 .seq (.q [m 41 7,p 42 (.bin .neq) [.t 41,.k (.i 0)]]<|.cond (.t 42) (.q [k 0 (.b false)]<|.ret) (.skip))<|.ops [l 43 6 3 true 6,s 4 3 4 43]))<|.ops [m 30 5,
 p 31 (.bin .add) [.t 30,.k (.i 1)],m 5 31]
def zsL:ACode:=.q [k 0 (.b false)]<|.q [c 14 132 [],m 13 14,e 15 0 13,e 16 1 13,m 1 15,m 2 16]<|.q [c 17 134 [.k (.i 7)],
 c 18 133 [.t 17],m 3 18]<|.seq (.q [m 19 1,o 20 (.nilP false) 19,m 21 20,w 22 .mov [.t 3] 21 false,w 23 (.nilP false) [.t 22] 21 false,p 24 .pick [.t 21,.k (.b true),.t 23]]<|
 .cond (.t 24) (.q [k 0 (.b false)]<|.ret) (.skip))<|.q [m 25 1,⟨some 26,.call 140,[.k (.s ⟨#[115,117,98]⟩)],none⟩,⟨some 27,.call 138,[.t 25,.k (.s ⟨#[110]⟩),.t 26],none⟩,⟨some 4,.alloc .reg Z,[],none⟩,s 4 3 4 27]<|.seq (.q [
 i 5 0]<|.block 0 (.loop [0,6,7,28,29,30,31,32,33,34,35,36,37,38,39,40,41,42,43] [6] zkE))<|.q [m 45 1,m 46 3,l 47 4 3 true 4,c 48 137 [.t 46,.t 47,.k (.i 0)],⟨some 49,.call 140,[.k (.s ⟨#[120]⟩)],none⟩,
 c 50 141 [.t 45,.t 48,.k (.i 0),.t 49],m 44 50,e 51 0 44,e 52 1 44,⟨some 8,.alloc .reg Z,[],none⟩,s 8 3 8 51,m 9 52]<|.q [m 54 1,
 c 55 104 [.t 54],m 53 55,e 56 0 53,e 57 1 53,e 58 2 53,⟨some 10,.alloc .reg Z,[],none⟩,s 10 3 10 56,m 11 57,
 m 12 58]<|.q [m 59 9,p 60 (.bin .eql) [.t 59,.k (.i 0)],m 61 60,u 62 (.ld (some 8) 3 true) [.t 8] 61 true,u 63 (.call 84) [.t 62] 61 true,p 64 .pick [.t 61,.t 63,.k (.b false)],m 65 64,
 w 66 .mov [.t 12] 65 true,p 67 .pick [.t 65,.t 66,.k (.b false)],m 68 67,w 69 .mov [.t 11] 68 true,⟨some 70,.pur (.bin .eql),[.t 69,.k (.s ⟨#[110]⟩)],some (68,true)⟩,p 71 .pick [.t 68,.t 70,.k (.b false)],m 72 71,
 w 73 .mov [.t 3] 72 true,w 74 .nilchk [.t 73] 72 true,w 75 (.faddr 10) [.t 74] 72 true,u 76 (.ld none 1 false) [.t 75] 72 true,w 77 .lenL [.t 76] 72 true,w 78 (.bin .eql) [.t 77,.k (.i 1)] 72 true,p 79 .pick [.t 72,.t 78,.k (.b false)],
 m 80 79,u 81 (.ld (some 10) 3 true) [.t 10] 80 true,w 82 .mov [.t 3] 80 true,w 83 .nilchk [.t 82] 80 true,w 84 (.faddr 10) [.t 83] 80 true,u 85 (.ld none 1 false) [.t 84] 80 true,w 86 (.iaddr 6) [.t 85,.k (.i 0)] 80 true,
 w 87 (.faddr 3) [.t 86] 80 true,u 88 (.ld none 3 true) [.t 87] 80 true,u 89 (.call 61) [.t 81,.t 88] 80 true,p 90 .pick [.t 80,.t 89,.k (.b false)],m 91 90,w 92 .mov [.t 1] 91 true,u 93 (.call 120) [.t 92] 91 true,
 w 94 .lenL [.t 93] 91 true,w 95 (.bin .eql) [.t 94,.k (.i 3)] 91 true,p 96 .pick [.t 91,.t 95,.k (.b false)],m 97 96,w 98 .mov [.t 1] 97 true,u 99 (.call 232) [.t 98] 97 true,w 100 (.bin .eql) [.t 99,.k (.i 3)] 97 true,
 p 101 .pick [.t 97,.t 100,.k (.b false)],m 0 101]<|.ret
def zh5:zd:=⟨102,zsL,[.tmp 0]⟩
def zqj:ACode:=.q [k 0 (.sc (.pointer none)),k 1 (.sc (.pointer none))]<|.q [⟨some 4,.call 140,[.k (.s ⟨#[112,97,115,115,119,111,114,100,32,97]⟩)],none⟩,⟨some 5,.call 140,[.k (.s ⟨#[115,101,101,100,32,97]⟩)],none⟩,c 6 233 [],
 ⟨some 7,.call 140,[.k (.s ⟨#[104,111,115,116]⟩)],none⟩,⟨some 8,.pur (.build [E,.i 0,E,N,.i 0,E,N,.i 0,.i 0,E,N,.i 0,E,N] [(0,1),(1,3),(4,3),(7,1),(8,3),(11,3)]),[.k (.s ⟨#[97]⟩),.t 4,.t 5,.k (.i 2),.t 6,.t 7],none⟩,c 9 204 [.t 8],
 m 2 9]<|.q [⟨some 10,.call 140,[.k (.s ⟨#[112,97,115,115,119,111,114,100,32,97]⟩)],none⟩,⟨some 11,.call 140,[.k (.s ⟨#[115,101,101,100,32,97]⟩)],none⟩,c 12 233 [],⟨some 13,.call 140,[.k (.s ⟨#[104,111,115,116]⟩)],none⟩,⟨some 14,.call 234,[.k (.s ⟨#[97]⟩),.t 10,.t 11,.k (.i 2),.t 12,.t 13],none⟩,
 m 3 14]<|.q [m 15 2,m 16 3,m 0 15,m 1 16]<|.ret
def ziY:zd:=⟨17,zqj,[.tmp 0,.tmp 1]⟩
def zuv:ACode:=.q [k 2 (.sc (.pointer none))]<|.q [⟨some 6,.call 140,[.k (.s ⟨#[112,97,115,115,119,111,114,100,32,97]⟩)],none⟩,⟨some 7,.call 145,[.t 6,.k (.s ⟨#[97]⟩)],none⟩,m 8 0,⟨some 9,.call 140,[.k (.s ⟨#[115,101,101,100,32,97]⟩)],none⟩,
 ⟨some 10,.pur (.build [.i 0,.i 0,.i 0,.i 0,.i 0,.i 0] [(0,1),(1,1),(2,1),(5,1)]),[.k (.i 1),.k (.i 3),.k (.i 10),.k (.i 5)],none⟩,
 ⟨some 11,.pur (.build [E,.i 0,E,N,N,.i 0,E,N,.i 0,.i 0,.i 0,.i 0,.i 0,.i 0,.i 0] [(0,1),(1,3),(4,1),(5,3),(8,6)]),[.k (.s ⟨#[97]⟩),.t 7,.t 8,.t 9,.t 10],none⟩,
 ⟨some 3,.alloc .reg [E,.i 0,E,N,N,.i 0,E,N,.i 0,.i 0,.i 0,.i 0,.i 0,.i 0,.i 0],[],none⟩,s 3 15 3 11]<|.q [⟨some 13,.call 140,[.k (.s ⟨#[107,100,99]⟩)],none⟩,⟨some 14,.call 140,[.k (.s ⟨#[99,111,111,107,105,101]⟩)],none⟩,
 l 15 3 15 true 3,⟨some 16,.pur (.buildSl 15 1 [E,.i 0,E,N,N,.i 0,E,N,.i 0,.i 0,.i 0,.i 0,.i 0,.i 0,.i 0] [0]),[.t 15],none⟩,c 17 235 [.t 13,.t 14,.t 16,.k (.i 16)],m 12 17,e 18 0 12,
 e 19 1 12,m 4 18,m 5 19]<|.q [m 20 4,m 2 20]<|.ret
def zi0:zd:=⟨21,zuv,[.tmp 2]⟩
def zaK:ACode:=.q [k 2 N]<|.q [⟨some 3,.pur .mov,[.k (.s ⟨#[99,104,97,108,108,101,110,103,101]⟩)],none⟩]<|.q [⟨some 4,.pur .mov,[.k (.s ⟨#[111,116,112]⟩)],none⟩]<|.q [⟨some 5,.pur .mov,[.k (.s ⟨#[115,112,97,107,101]⟩)],none⟩]<|.q [m 7 3,
 ⟨some 8,.pur (.buildSl 1 1 [E] [0]),[.t 7],none⟩,m 9 4,⟨some 10,.pur (.buildSl 1 1 [E] [0]),[.t 9],none⟩,m 11 5,⟨some 12,.pur (.buildSl 1 1 [E] [0]),[.t 11],none⟩,m 13 3,m 14 4,⟨some 15,.pur (.buildSl 1 2 [E] [0,1]),[.t 13,.t 14],none⟩,
 m 16 4,m 17 5,⟨some 18,.pur (.buildSl 1 2 [E] [0,1]),[.t 16,.t 17],none⟩,m 19 5,m 20 3,⟨some 21,.pur (.buildSl 1 2 [E] [0,1]),[.t 19,.t 20],none⟩,m 22 3,m 23 4,m 24 5,
 ⟨some 25,.pur (.buildSl 1 3 [E] [0,1,2]),[.t 22,.t 23,.t 24],none⟩,m 26 5,m 27 4,m 28 3,⟨some 29,.pur (.buildSl 1 3 [E] [0,1,2]),[.t 26,.t 27,.t 28],none⟩,
 p 30 (.buildSl 1 8 [N] [0,1,2,3,4,5,6,7]) [.t 8,.t 10,.t 12,.t 15,.t 18,.t 21,.t 25,.t 29],m 6 30]<|.q [m 31 6,m 32 0,p 33 (.bin .and) [.t 32,.k (.i 7)],p 34 (.iaddr 1) [.t 31,.t 33],
 h 35 1 false 34,m 2 35]<|.ret
def wk:zd:=⟨36,zaK,[.tmp 2]⟩
def qo:ACode:=.q [x 4 1,⟨some 6,.alloc .reg Z,[],none⟩]<|.q [m 18 0,l 19 4 3 true 4,m 20 2,c 21 239 [.t 18,.t 19,.t 20],m 17 21,
 e 22 0 17,e 23 1 17,e 24 2 17,
 ⟨some 7,.alloc .reg [.i 0,E,N,.i 0,E,N,E,E,N,.i 0,E,N,.i 0,E,.i 0,E,N,N,.i 0,E,N,.i 0,.i 0,.i 0,.i 0,.i 0,.i 0,.i 0,.i 0],[],none⟩,
 ⟨some 8,.alloc .reg Z,[],none⟩,s 7 29 7 22,s 8 3 8 23,m 9 24]<|.seq (.q [m 25 9,p 26 (.bin .neq) [.t 25,.k (.i 0)]]<|.cond (.t 26) (.q [m 27 9,
 c 28 73 [.t 27],s 6 3 6 28]<|.ret) (.skip))<|.seq (.q [l 29 8 3 true 8,c 30 84 [.t 29]]<|.cond (.t 30) (.q [m 31 0,l 32 7 29 true 7,c 33 240 [.t 31,.t 32],
 s 6 3 6 33]<|.ret) (.skip))<|.q [f 34 13 7,f 35 4 34,l 36 7 1 false 35,f 37 6 7,f 38 2 37,l 39 7 1 false 38,o 40 .lenL 39,
 p 41 (.iaddr 1) [.t 36,.t 40],h 42 1 false 41,m 10 42]<|.seq (.q [l 43 8 3 true 8,c 44 82 [.t 43],m 45 10,p 46 (.bin .neq) [.t 44,.t 45],m 47 46,
 w 48 .mov [.t 10] 47 false,⟨some 49,.pur (.bin .neq),[.t 48,.k (.s ⟨#[99,104,97,108,108,101,110,103,101]⟩)],some (47,false)⟩,w 50 .mov [.t 49] 47 false,w 51 (.faddr 6) [.t 7] 50 true,w 52 (.faddr 3) [.t 51] 50 true,u 53 (.ld (some 7) 3 true) [.t 52] 50 true,
 u 54 (.call 84) [.t 53] 50 true,w 55 .pick [.t 50,.t 54,.k (.b false)] 47 false,p 56 .pick [.t 47,.k (.b true),.t 55]]<|.cond (.t 56) (.q [c 57 73 [.k (.i 11)],s 6 3 6 57]<|.ret) (.skip))<|.q [l 59 7 29 true 7,
 l 60 8 3 true 8,m 61 10,c 62 241 [.t 59,.t 60,.t 61],m 58 62,e 63 0 58,e 64 1 58,e 65 2 58,⟨some 11,.alloc .reg Z,[],none⟩,
 s 11 3 11 63,m 12 64,m 13 65]<|.seq (.q [m 66 13,p 67 (.bin .eql) [.t 66,.k (.i 6)]]<|.cond (.t 67) (.ops [m 68 0,o 69 .nilchk 68,f 70 6 69,
 h 71 1 false 70,f 72 6 7,f 73 0 72,l 74 7 1 false 73,c 75 242 [.t 71,.t 74]]) (.skip))<|.seq (.q [m 76 13,p 77 (.bin .neq) [.t 76,.k (.i 0)]]<|.cond (.t 77) (.q [
 m 78 13,c 79 73 [.t 78],s 6 3 6 79]<|.ret) (.skip))<|.q [m 80 0,o 81 .nilchk 80,f 82 8 81,h 83 1 false 82,l 84 8 3 true 8,c 85 243 [.t 84],
 m 86 2,p 87 (.bin .add) [.t 86,.k (.i 100)],p 88 (.bin .add) [.t 87,.k (.i 1)],m 89 2,c 90 56 [.t 83,.t 85,.t 88,.t 89],m 14 90]<|.seq (.q [m 91 14,
 p 92 (.bin .neq) [.t 91,.k (.i 0)]]<|.cond (.t 92) (.q [m 93 14,c 94 73 [.t 93],s 6 3 6 94]<|.ret) (.skip))<|.seq (.q [m 95 10,⟨some 96,.pur (.bin .eql),[.t 95,.k (.s ⟨#[111,116,112]⟩)],none⟩]<|.cond (.t 96) (.q [
 m 98 0,o 99 .nilchk 98,f 100 6 99,h 101 1 false 100,f 102 6 7,f 103 0 102,l 104 7 1 false 103,m 105 12,c 106 244 [.t 101,.t 104,.t 105],
 m 97 106,e 107 0 97,e 108 1 97,m 15 107,m 16 108]<|.q [m 109 16,p 110 (.bin .neq) [.t 109,.k (.i 0)]]<|.cond (.t 110) (.q [m 111 16,
 c 112 73 [.t 111],s 6 3 6 112]<|.ret) (.skip)) (.skip))<|.q [⟨some 113,.pur (.buildSl 1 0 [E] []),[],none⟩,f 114 6 7,f 115 2 114,l 116 7 1 false 115,⟨some 117,.append 1 16,[.t 113,.t 116],none⟩,
 m 118 10,⟨some 119,.pur (.buildSl 1 1 [E] [0]),[.t 118],none⟩,⟨some 120,.append 1 16,[.t 117,.t 119],none⟩,f 121 6 7,f 122 2 121,s 7 1 122 120]<|.seq (.q [f 123 6 7,f 124 2 123,
 l 125 7 1 false 124,o 126 .lenL 125,f 127 13 7,f 128 4 127,l 129 7 1 false 128,o 130 .lenL 129,p 131 (.bin .eql) [.t 126,.t 130]]<|.cond (.t 131) (.q [m 132 0,
 l 133 7 29 true 7,l 134 11 3 true 11,c 135 245 [.t 132,.t 133,.t 134],s 6 3 6 135]<|.ret) (.skip))<|.q [m 136 0,l 137 7 29 true 7,c 138 240 [.t 136,.t 137],
 s 6 3 6 138]<|.ret
def jV:zd:=⟨139,qo,[.cell 6 3 true]⟩
def znO:ACode:=.q [x 5 2,⟨some 6,.alloc .reg Z,[],none⟩]<|.q [m 7 0,m 8 1,m 9 0,o 10 .nilchk 9,f 11 19 10,f 12 0 11,
 h 13 1 false 12,m 14 1,c 15 76 [.t 13,.t 14],m 16 0,o 17 .nilchk 16,f 18 19 17,f 19 8 18,h 20 3 true 19,m 21 0,
 o 22 .nilchk 21,f 23 19 22,f 24 11 23,h 25 3 true 24,l 26 5 3 true 5,c 27 246 [.t 20,.t 25,.t 26],l 28 5 3 true 5,m 29 0,o 30 .nilchk 29,
 f 31 19 30,f 32 11 31,h 33 3 true 32,c 34 247 [.t 28,.t 33],
 ⟨some 35,.pur (.build [.b false,.b false,.b false,E,.i 0,E,N,.i 0,E,N,.i 0,E,N,.i 0,E,N,.i 0,E,N] [(0,1),(3,1),(4,3),(7,3),(10,3)]),[.k (.b true),.t 8,.t 15,.t 27,.t 34],none⟩,o 36 .nilchk 7,
 f 37 0 36,⟨none,.st none 19,[.t 37,.t 35],none⟩]<|.q [m 38 0,o 39 .nilchk 38,f 40 0 39,c 41 74 [],c 42 74 [],c 43 248 [.t 40,.t 41,.t 42],s 6 3 6 43]<|.ret
def zii:zd:=⟨44,znO,[.cell 6 3 true]⟩
def zmb:ACode:=.q [⟨some 2,.pur .mov,[.k E],none⟩]<|.seq (.q [m 3 0,p 4 (.bin .lss) [.t 3,.k (.i 0)]]<|.cond (.t 4) (.q [m 5 0,o 6 (.un .neg) 5,c 7 249 [.t 6],⟨some 8,.pur (.bin .add),[.k (.s ⟨#[45]⟩),.t 7],none⟩,
 m 2 8]<|.ret) (.skip))<|.q [m 9 0,c 10 249 [.t 9],m 2 10]<|.ret
def zjx:zd:=⟨11,zmb,[.tmp 2]⟩
def zpu:ACode:=.q [⟨some 2,.alloc .reg Z,[],none⟩]<|.q [m 3 0,c 4 130 [.t 3],s 2 3 2 4]<|.ret
def zi8:zd:=⟨5,zpu,[.cell 2 3 true]⟩
def zb7:ACode:=.q [x 5 1,x 7 3,⟨some 8,.alloc .reg Z,[],none⟩,i 9 0]<|.seq (.q [m 19 0,o 20 .nilchk 19,f 21 0 20,f 22 0 21,
 h 23 1 false 22,o 24 (.un .not) 23]<|.cond (.t 24) (.q [c 25 74 [],s 8 3 8 25,i 9 11]<|.ret) (.skip))<|.seq (.q [l 27 5 3 true 5,c 28 96 [.t 27],m 26 28,
 e 29 0 26,e 30 1 26,m 10 29,m 11 30]<|.q [m 31 11]<|.cond (.t 31) (.q [m 32 0,o 33 .nilchk 32,f 34 0 33,
 f 35 0 34,⟨none,.st none 1,[.t 35,.k (.b false)],none⟩]<|.q [c 36 74 [],m 37 10,s 8 3 8 36,m 9 37]<|.ret) (.skip))<|.seq (.q [l 39 5 3 true 5,
 ⟨some 40,.call 78,[.k (.s ⟨#[97,115,45,114,101,112]⟩),.k (.i 3),.t 39],none⟩,m 38 40,e 41 0 38,e 42 1 38,m 12 41,m 13 42]<|.q [m 43 13]<|.cond (.t 43) (.q [
 c 44 74 [],m 45 0,o 46 .nilchk 45,f 47 0 46,m 48 12,p 49 (.iaddr 3) [.t 48,.k (.i 0)],h 50 3 true 49,m 51 12,p 52 (.iaddr 3) [.t 51,.k (.i 1)],
 h 53 3 true 52,m 54 12,p 55 (.iaddr 3) [.t 54,.k (.i 2)],h 56 3 true 55,c 57 250 [.t 47,.t 50,.t 53,.t 56],s 8 3 8 44,m 9 57]<|.ret) (.skip))<|.q [m 59 0,
 o 60 .nilchk 59,f 61 0 60,f 62 10 61,h 63 3 true 62,m 64 0,o 65 .nilchk 64,f 66 0 65,f 67 3 66,h 68 1 false 67,
 l 69 5 3 true 5,c 70 251 [.t 63,.t 68,.t 69],m 58 70,e 71 0 58,e 72 1 58,⟨some 14,.alloc .reg Z,[],none⟩,s 14 3 14 71,m 15 72]<|.q [
 l 74 14 3 true 14,m 75 15,⟨some 76,.call 252,[.t 74,.t 75,.k (.s ⟨#[109,111,114,101]⟩),.k (.i 2)],none⟩,m 73 76,e 77 0 73,e 78 1 73,m 16 77,m 15 78]<|.seq (.q [
 m 79 15,p 80 (.bin .neq) [.t 79,.k (.i 0)]]<|.cond (.t 80) (.q [c 81 74 [],m 82 15,s 8 3 8 81,m 9 82]<|.ret) (.skip))<|.q [m 84 0,m 85 16,
 p 86 (.iaddr 3) [.t 85,.k (.i 0)],h 87 3 true 86,m 88 2,l 89 7 3 true 7,c 90 253 [.t 84,.t 87,.t 88,.t 89],m 83 90,e 91 0 83,e 92 1 83,
 e 93 2 83,⟨some 17,.alloc .reg Z,[],none⟩,⟨some 18,.alloc .reg Z,[],none⟩,s 17 3 17 91,s 18 3 18 92,m 15 93]<|.seq (.q [m 94 15,
 p 95 (.bin .neq) [.t 94,.k (.i 0)]]<|.cond (.t 95) (.q [c 96 74 [],m 97 15,s 8 3 8 96,m 9 97]<|.ret) (.skip))<|.q [m 98 0,m 99 0,l 100 18 3 true 18,
 o 101 .nilchk 98,f 102 0 101,f 103 13 102,⟨none,.st none 3,[.t 103,.t 100],none⟩,o 104 .nilchk 99,f 105 0 104,f 106 1 105,⟨none,.st none 1,[.t 106,.k (.b true)],none⟩]<|.q [
 m 107 0,m 108 0,o 109 .nilchk 108,f 110 36 109,h 111 1 false 110,m 112 16,p 113 (.iaddr 3) [.t 112,.k (.i 0)],h 114 3 true 113,c 115 81 [.t 114],
 m 116 0,o 117 .nilchk 116,f 118 0 117,f 119 3 118,h 120 1 false 119,⟨some 121,.pur (.build [E,E] [(0,1),(1,1)]),[.t 115,.t 120],none⟩,⟨some 122,.pur (.buildSl 2 1 [E,E] [0]),[.t 121],none⟩,
 ⟨some 123,.append 2 32,[.t 111,.t 122],none⟩,o 124 .nilchk 107,f 125 36 124,⟨none,.st none 1,[.t 125,.t 123],none⟩]<|.q [m 126 0,o 127 .nilchk 126,f 128 0 127,l 129 17 3 true 17,
 m 130 16,p 131 (.iaddr 3) [.t 130,.k (.i 1)],h 132 3 true 131,c 133 248 [.t 128,.t 129,.t 132],s 8 3 8 133,i 9 0]<|.ret
def zag:zd:=⟨134,zb7,[.cell 8 3 true,.tmp 9]⟩
def zex:ACode:=.q [p 56 (.bin .lss) [.t 55,.t 54]]<|.seq (.cond (.t 56) (.skip) (.exit 2))<|.seq (.block 3 (.q [p 57 (.iaddr 3) [.t 53,.t 55],h 58 3 true 57,⟨some 13,.alloc .reg Z,[],none⟩,s 13 3 13 58]<|.q [
 m 59 11,f 60 0 13,l 61 13 1 false 60,⟨some 62,.lookup false (.sc .nilFunc) false,[.t 59,.t 61],none⟩,m 14 62]<|.q [m 63 14,o 64 (.nilF true) 63,m 65 64,
 w 66 .mov [.t 14] 65 true,u 67 (.ld (some 13) 3 true) [.t 13] 65 true,⟨some 68,.callv,[.t 66,.t 67],some (65,true)⟩,p 69 .pick [.t 65,.t 68,.k (.b false)]]<|.cond (.t 69) (.q [l 70 13 3 true 13,s 4 3 4 70,k 5 (.b true)]<|
 .ret) (.skip)))<|.ops [p 71 (.bin .add) [.t 55,.k (.i 1)],m 55 71]
def zk2:ACode:=.q [p 43 (.bin .lss) [.t 42,.t 41]]<|.seq (.cond (.t 43) (.skip) (.exit 0))<|.seq (.block 1 (.q [p 44 (.iaddr 3) [.t 40,.t 42],h 45 3 true 44,⟨some 10,.alloc .reg Z,[],none⟩,s 10 3 10 45]<|.ops [
 f 46 2 8,l 47 8 1 false 46,l 48 10 3 true 10,c 49 121 [.t 48],⟨none,.mapset true,[.t 47,.t 49,.k (.b true)],none⟩]))<|.ops [p 50 (.bin .add) [.t 42,.k (.i 1)],m 42 50]
def zmh:ACode:=.q [x 3 1,⟨some 4,.alloc .reg Z,[],none⟩,k 5 (.b false)]<|.q [l 15 3 3 true 3,c 16 254 [.t 15],s 3 3 3 16]<|.seq (.q [l 17 3 3 true 3,
 c 18 116 [.t 17],o 19 (.un .not) 18]<|.cond (.t 19) (.q [⟨some 20,.pur (.build Z []),[],none⟩,s 4 3 4 20,k 5 (.b false)]<|.ret) (.skip))<|.q [m 21 0,c 22 255 [.t 21],
 m 23 0,c 24 256 [.t 23],l 25 3 3 true 3,⟨some 26,.pur (.buildSl 3 1 Z [0]),[.t 25],none⟩,⟨some 27,.append 3 48,[.t 24,.t 26],none⟩,c 28 255 [.t 27],m 6 22,m 7 28]<|.q [
 m 29 6,c 30 257 [.t 29],m 31 7,c 32 257 [.t 31],⟨some 33,.mkmap,[],none⟩,⟨some 34,.pur (.build [.sc (.pointer none),.sc (.pointer none),.sc (.map none)] [(0,1),(1,1),(2,1)]),[.t 30,.t 32,.t 33],none⟩,
 ⟨some 8,.alloc .reg [.sc (.pointer none),.sc (.pointer none),.sc (.map none)],[],none⟩,s 8 3 8 34]<|.seq (.q [f 35 0 8,l 36 8 1 false 35,l 37 3 3 true 3,c 38 231 [.t 36,.t 37]]<|.cond (.t 38) (.q [
 l 39 3 3 true 3,s 4 3 4 39,k 5 (.b true)]<|.ret) (.skip))<|.seq (.q [m 40 6,o 41 .lenL 40,i 42 0]<|.block 0 (.loop [10,43,44,45,46,47,48,49,50] [10] zk2))<|.q [
 l 51 8 3 true 8,c 52 258 [.t 51],m 11 52]<|.seq (.q [m 53 7,o 54 .lenL 53,i 55 0]<|.block 2 (.loop [5,13,14,56,57,58,59,60,61,62,63,64,65,66,67,68,69,70,71] [13] zex))<|.q [
 ⟨some 72,.pur (.build Z []),[],none⟩,s 4 3 4 72,k 5 (.b false)]<|.ret
def zfQ:zd:=⟨73,zmh,[.cell 4 3 true,.tmp 5]⟩
def znp:ACode:=.q [x 2 0,⟨some 4,.alloc .reg Z,[],none⟩]<|.q [l 5 2 3 true 2,m 6 1,⟨some 7,.pur (.bin .add),[.k (.s ⟨#[108,111,110,103,32]⟩),.t 6],none⟩,c 8 259 [.t 5,.t 7],s 4 3 4 8]<|
 .ret
def zh7:zd:=⟨9,znp,[.cell 4 3 true]⟩
def zt3:ACode:=.q [x 4 0,x 5 1,x 6 2,⟨some 8,.alloc .reg Z,[],none⟩]<|.q [m 10 3,c 11 66 [.t 10],l 12 6 3 true 6,c 13 124 [.t 12],
 ⟨some 14,.pur (.buildSl 3 2 Z [0,1]),[.t 11,.t 13],none⟩,⟨some 15,.call 62,[.k (.s ⟨#[116,105,109,101]⟩),.t 14],none⟩,⟨some 9,.alloc .reg Z,[],none⟩,s 9 3 9 15]<|.q [l 16 4 3 true 4,l 17 5 3 true 5,
 c 18 262 [.t 16,.t 17],l 19 9 3 true 9,c 20 261 [.t 18,.k (.i 54),.t 19],⟨some 21,.pur (.buildSl 3 1 Z [0]),[.t 20],none⟩,⟨some 22,.call 62,[.k (.s ⟨#[99,104,97,108,108,101,110,103,101]⟩),.t 21],none⟩,s 8 3 8 22]<|.ret
def zid:zd:=⟨23,zt3,[.cell 8 3 true]⟩
def kP:ACode:=.q [x 5 0,x 6 1,x 7 2,x 8 3,i 10 0]<|.q [l 21 8 3 true 8,⟨some 22,.call 79,[.k (.s ⟨#[99,104,97,108,108,101,110,103,101]⟩),.k (.i 1),.t 21],none⟩,
 m 20 22,e 23 0 20,e 24 1 20,m 11 23,m 12 24]<|.seq (.q [m 25 12,o 26 (.un .not) 25]<|.cond (.t 26) (.q [i 10 2]<|.ret) (.skip))<|
 .q [l 28 5 3 true 5,l 29 6 3 true 6,c 30 267 [.t 28,.t 29],m 31 11,p 32 (.iaddr 3) [.t 31,.k (.i 0)],h 33 3 true 32,c 34 268 [.t 30,.k (.i 54),.t 33],m 27 34,
 e 35 0 27,e 36 1 27,⟨some 13,.alloc .reg Z,[],none⟩,s 13 3 13 35,m 14 36]<|.seq (.q [m 37 14,p 38 (.bin .eql) [.t 37,.k (.i 4)]]<|.cond (.t 38) (.q [
 i 10 6]<|.ret) (.skip))<|.seq (.q [m 39 14,p 40 (.bin .neq) [.t 39,.k (.i 0)]]<|.cond (.t 40) (.q [m 41 14,m 10 41]<|.ret) (.skip))<|.q [l 43 13 3 true 13,
 ⟨some 44,.call 79,[.k (.s ⟨#[116,105,109,101]⟩),.k (.i 2),.t 43],none⟩,m 42 44,e 45 0 42,e 46 1 42,m 15 45,m 16 46]<|.seq (.q [m 47 16,o 48 (.un .not) 47]<|
 .cond (.t 48) (.q [i 10 2]<|.ret) (.skip))<|.q [m 50 15,p 51 (.iaddr 3) [.t 50,.k (.i 0)],h 52 3 true 51,c 53 88 [.t 52],m 49 53,e 54 0 49,
 e 55 1 49,m 17 54,m 18 55]<|.seq (.q [m 56 18,o 57 (.un .not) 56]<|.cond (.t 57) (.q [i 10 2]<|.ret) (.skip))<|.q [m 58 15,
 p 59 (.iaddr 3) [.t 58,.k (.i 1)],h 60 3 true 59,l 61 7 3 true 7,c 62 265 [.t 61],c 63 61 [.t 60,.t 62],m 19 63]<|.seq (.q [m 64 19,o 65 (.un .not) 64]<|.cond (.t 65) (.q [
 i 10 6]<|.ret) (.skip))<|.seq (.q [m 66 17,m 67 4,p 68 (.bin .lss) [.t 66,.t 67],m 69 68,w 70 .mov [.t 4] 69 true,w 71 .mov [.t 17] 69 true,
 w 72 (.bin .sub) [.t 70,.t 71] 69 true,w 73 (.bin .gtr) [.t 72,.k (.i 5)] 69 true,p 74 .pick [.t 69,.t 73,.k (.b false)],m 75 74,w 76 .mov [.t 17] 75 false,w 77 .mov [.t 4] 75 false,w 78 (.bin .gtr) [.t 76,.t 77] 75 false,
 w 79 .mov [.t 78] 75 false,w 80 .mov [.t 17] 79 true,w 81 .mov [.t 4] 79 true,w 82 (.bin .sub) [.t 80,.t 81] 79 true,w 83 (.bin .gtr) [.t 82,.k (.i 5)] 79 true,w 84 .pick [.t 79,.t 83,.k (.b false)] 75 false,
 p 85 .pick [.t 75,.k (.b true),.t 84]]<|.cond (.t 85) (.q [i 10 5]<|.ret) (.skip))<|.q [i 10 0]<|.ret
def vt:zd:=⟨86,kP,[.tmp 10]⟩
def zgC:ACode:=.q [x 4 0,x 5 1,x 6 2,x 7 3,⟨some 8,.alloc .reg Z,[],none⟩,⟨some 9,.alloc .reg Z,[],none⟩,i 10 0]<|.q [
 l 17 6 3 true 6,⟨some 18,.call 78,[.k (.s ⟨#[115,112,97,107,101]⟩),.k (.i 1),.t 17],none⟩,m 16 18,e 19 0 16,e 20 1 16,m 11 19,m 12 20]<|.seq (.q [m 21 12,
 o 22 (.un .not) 21]<|.cond (.t 22) (.q [⟨some 23,.pur (.build Z []),[],none⟩,⟨some 24,.pur (.build Z []),[],none⟩,s 8 3 8 23,s 9 3 9 24,i 10 2]<|.ret) (.skip))<|.q [
 m 26 11,p 27 (.iaddr 3) [.t 26,.k (.i 0)],h 28 3 true 27,l 29 4 3 true 4,c 30 270 [.t 28,.t 29],m 25 30,e 31 0 25,e 32 1 25,
 ⟨some 13,.alloc .reg Z,[],none⟩,s 13 3 13 31,m 14 32]<|.seq (.q [m 33 14,p 34 (.bin .neq) [.t 33,.k (.i 0)]]<|.cond (.t 34) (.q [⟨some 35,.pur (.build Z []),[],none⟩,
 ⟨some 36,.pur (.build Z []),[],none⟩,m 37 14,s 8 3 8 35,s 9 3 9 36,m 10 37]<|.ret) (.skip))<|.q [l 38 7 3 true 7,l 39 13 3 true 13,
 l 40 4 3 true 4,m 41 11,p 42 (.iaddr 3) [.t 41,.k (.i 0)],h 43 3 true 42,l 44 7 3 true 7,l 45 4 3 true 4,c 46 269 [.t 44,.t 45],l 47 5 3 true 5,
 ⟨some 48,.pur (.build [.i 0,E,N,.i 0,E,N,.i 0,E,N,.i 0,E,N,.i 0,E,N,.i 0,E,N] [(0,3),(3,3),(6,3),(9,3),(12,3),(15,3)]),[.t 38,.t 39,.t 40,.t 43,.t 46,.t 47],none⟩,
 ⟨some 15,.alloc .reg [.i 0,E,N,.i 0,E,N,.i 0,E,N,.i 0,E,N,.i 0,E,N,.i 0,E,N],[],none⟩,s 15 18 15 48]<|.q [f 49 12 15,l 50 15 3 true 49,
 l 51 15 18 true 15,c 52 271 [.t 51],⟨some 53,.pur (.buildSl 3 2 Z [0,1]),[.t 50,.t 52],none⟩,⟨some 54,.call 62,[.k (.s ⟨#[115,112,97,107,101]⟩),.t 53],none⟩,l 55 15 18 true 15,c 56 272 [.t 55,.k (.i 0)],s 8 3 8 54,
 s 9 3 9 56,i 10 0]<|.ret
def zd0:zd:=⟨57,zgC,[.cell 8 3 true,.cell 9 3 true,.tmp 10]⟩
def zkf:ACode:=.q [x 3 0,x 4 1,x 5 2,⟨some 6,.alloc .reg Z,[],none⟩,i 7 0]<|.q [l 11 4 3 true 4,⟨some 12,.call 78,[.k (.s ⟨#[111,116,112]⟩),.k (.i 1),.t 11],none⟩,
 m 10 12,e 13 0 10,e 14 1 10,m 8 13,m 9 14]<|.seq (.q [m 15 9,o 16 (.un .not) 15]<|.cond (.t 16) (.q [
 ⟨some 17,.pur (.build Z []),[],none⟩,s 6 3 6 17,i 7 2]<|.ret) (.skip))<|.q [l 18 3 3 true 3,m 19 8,p 20 (.iaddr 3) [.t 19,.k (.i 0)],h 21 3 true 20,
 l 22 5 3 true 5,⟨some 23,.pur (.buildSl 3 2 Z [0,1]),[.t 21,.t 22],none⟩,⟨some 24,.call 62,[.k (.s ⟨#[99,111,100,101]⟩),.t 23],none⟩,c 25 261 [.t 18,.k (.i 45),.t 24],⟨some 26,.pur (.buildSl 3 1 Z [0]),[.t 25],none⟩,
 ⟨some 27,.call 62,[.k (.s ⟨#[111,116,112]⟩),.t 26],none⟩,s 6 3 6 27,i 7 0]<|.ret
def f156:zd:=⟨28,zkf,[.cell 6 3 true,.tmp 7]⟩
def zsk:ACode:=.q [x 2 0,⟨some 4,.alloc .reg Z,[],none⟩]<|.q [l 5 2 3 true 2,m 6 1,c 7 139 [.t 6],⟨some 8,.pur (.bin .add),[.k (.s ⟨#[111,116,112,32]⟩),.t 7],none⟩,c 9 259 [.t 5,.t 8],
 s 4 3 4 9]<|.ret
def zgm:zd:=⟨10,zsk,[.cell 4 3 true]⟩
def zsS:ACode:=.q [⟨some 2,.alloc .reg Z,[],none⟩]<|.q [m 3 0,⟨some 4,.pur (.build Z [(0,1),(1,1)]),[.k (.i 1),.t 3],none⟩,s 2 3 2 4]<|.ret
def zhF:zd:=⟨5,zsS,[.cell 2 3 true]⟩
def ztG:ACode:=.q [x 2 0,x 3 1,⟨some 4,.alloc .reg Z,[],none⟩]<|.q [l 5 2 3 true 2,l 6 3 3 true 3,⟨some 7,.pur (.buildSl 3 2 Z [0,1]),[.t 5,.t 6],none⟩,
 ⟨some 8,.pur (.build Z [(0,1),(2,1)]),[.k (.i 10),.t 7],none⟩,s 4 3 4 8]<|.ret
def f172:zd:=⟨9,ztG,[.cell 4 3 true]⟩
def zng:ACode:=.q [x 1 0,⟨some 2,.alloc .reg Z,[],none⟩]<|.q [l 3 1 3 true 1,⟨some 4,.pur (.buildSl 3 1 Z [0]),[.t 3],none⟩,⟨some 5,.pur (.build Z [(0,1),(2,1)]),[.k (.i 8),.t 4],none⟩,
 s 2 3 2 5]<|.ret
def zgq:zd:=⟨6,zng,[.cell 2 3 true]⟩
def zpp:ACode:=.q [x 2 0,x 3 1,⟨some 4,.alloc .reg Z,[],none⟩]<|.q [l 5 2 3 true 2,l 6 3 3 true 3,
 ⟨some 7,.call 293,[.t 5,.t 6,.k (.s ⟨#[115,117,98,107,101,121,97,114,109,111,114]⟩),.k (.s ⟨#[116,105,99,107,101,116,97,114,109,111,114]⟩)],none⟩,s 4 3 4 7]<|.ret
def ziU:zd:=⟨8,zpp,[.cell 4 3 true]⟩
def zkr:ACode:=.q [p 28 (.bin .lss) [.t 27,.t 26]]<|.seq (.cond (.t 28) (.skip) (.exit 2))<|.seq (.block 3 (.q [p 29 (.iaddr 1) [.t 25,.t 27],h 30 1 false 29,m 8 30]<|.ops [m 31 6,m 32 8,
 ⟨some 33,.append 3 48,[.t 31,.t 32],none⟩,m 6 33]))<|.ops [p 34 (.bin .add) [.t 27,.k (.i 1)],m 27 34]
def zmE:ACode:=.q [p 12 (.bin .lss) [.t 11,.t 10]]<|.seq (.cond (.t 12) (.skip) (.exit 0))<|.seq (.block 1 (.q [p 13 (.iaddr 1) [.t 9,.t 11],h 14 1 false 13,m 5 14]<|.q [m 15 3,m 16 5,
 o 17 .lenL 16,p 18 (.bin .add) [.t 15,.t 17],m 3 18]<|.q [m 19 3,p 20 (.bin .lss) [.t 19,.k (.i 0)]]<|.cond (.t 20) (.ops [⟨some 21,.bad,[],none⟩,⟨none,.bad,[],none⟩]) (.skip)))<|.ops [p 22 (.bin .add) [.t 11,.k (.i 1)],
 m 11 22]
def zq7:ACode:=.q [k 2 N]<|.q [i 3 0]<|.seq (.q [m 9 0,o 10 .lenL 9,i 11 0]<|.block 0 (.loop [5,12,13,14,15,16,17,18,19,20,21,22] [] zmE))<|.q [
 m 23 3,⟨some 24,.call 304,[.k N,.t 23],none⟩,m 6 24]<|.seq (.q [m 25 0,o 26 .lenL 25,i 27 0]<|.block 2 (.loop [8,28,29,30,31,32,33,34] [] zkr))<|.q [m 35 6,
 m 2 35]<|.ret
def zh2:zd:=⟨36,zq7,[.tmp 2]⟩
def zqu:ACode:=.q [⟨some 2,.alloc .reg Z,[],none⟩]<|.q [m 3 0,⟨some 4,.call 228,[.k (.i 1),.t 3,.k N],none⟩,s 2 3 2 4]<|.ret
def zh3:zd:=⟨5,zqu,[.cell 2 3 true]⟩
def zjE:ACode:=.q [x 1 0,⟨some 2,.pur .mov,[.k E],none⟩,k 3 (.b false)]<|.q [f 4 1 1,l 5 1 1 false 4,f 6 0 1,l 7 1 1 false 6,
 p 8 (.bin .eql) [.t 7,.k (.i 1)],m 9 8,w 10 (.faddr 2) [.t 1] 9 true,u 11 (.ld (some 1) 1 false) [.t 10] 9 true,w 12 .lenL [.t 11] 9 true,w 13 (.bin .eql) [.t 12,.k (.i 0)] 9 true,p 14 .pick [.t 9,.t 13,.k (.b false)],
 m 2 5,m 3 14]<|.ret
def zdi:zd:=⟨15,zjE,[.tmp 2,.tmp 3]⟩
def zlf:ACode:=.q [⟨some 4,.pur .mov,[.k E],none⟩,k 5 (.b false)]<|.q [m 6 0,m 7 1,c 8 306 [.t 6,.t 7],e 9 0 8,e 10 1 8,m 4 9,
 m 5 10]<|.ret
def zfP:zd:=⟨11,zlf,[.tmp 4,.tmp 5]⟩
def zuw:ACode:=.q [x 2 0,⟨some 4,.alloc .reg Z,[],none⟩]<|.q [l 5 2 3 true 2,m 6 1,⟨some 7,.pur (.bin .add),[.k (.s ⟨#[108,111,110,103,32]⟩),.t 6],none⟩,c 8 312 [.t 5,.t 7],s 4 3 4 8]<|
 .ret
def ziC:zd:=⟨9,zuw,[.cell 4 3 true]⟩
def zpq:ACode:=.q [x 1 0,k 2 (.sc (.pointer none))]<|.q [l 3 1 14 true 1,f 4 1 1,l 5 1 3 true 4,f 6 0 1,l 7 1 1 false 6,c 8 200 [.t 5,.t 7],
 ⟨some 9,.pur (.build [.b false,.b false,.b false,E,.i 0,E,N,.i 0,E,N,.i 0,E,N,.i 0,E,N,.i 0,E,N,E,.i 0,E,N,.i 0,E,N,.i 0,.i 0,E,N,.i 0,E,N,.i 0,E,N,N] [(19,14),(33,3)]),[.t 3,.t 8],none⟩,
 ⟨some 10,.box .heap,[.t 9],none⟩,m 2 10]<|.ret
def ziS:zd:=⟨11,zpq,[.tmp 2]⟩
def zl7:ACode:=.q [x 1 0,k 2 (.b false)]<|.q [l 4 1 3 true 1,c 5 219 [.t 4],m 3 5]<|.q [m 6 3,m 7 6,u 8 (.ld (some 1) 3 true) [.t 1] 7 true,
 u 9 (.call 314) [.t 8,.k (.i 61)] 7 true,w 10 (.bin .leq) [.t 9,.k (.i 57)] 7 true,p 11 .pick [.t 7,.t 10,.k (.b false)],m 2 11]<|.ret
def zfn:zd:=⟨12,zl7,[.tmp 2]⟩
def zqs:ACode:=.q [⟨some 2,.alloc .reg Z,[],none⟩]<|.q [m 3 0,⟨some 4,.pur (.build Z [(0,1),(1,1)]),[.k (.i 1),.t 3],none⟩,s 2 3 2 4]<|.ret
def zg5:zd:=⟨5,zqs,[.cell 2 3 true]⟩
def zfI:ACode:=.q [⟨some 2,.pur .mov,[.k E],none⟩]<|.seq (.q [m 3 0,p 4 (.bin .lss) [.t 3,.k (.i 0)]]<|.cond (.t 4) (.seq (.q [m 5 0,p 6 (.bin .gtr) [.t 5,.k (.i (-10))]]<|.cond (.t 6) (.q [m 7 0,
 p 8 (.bin .sub) [.k (.i 48),.t 7],o 9 (.toInt .u8) 8,⟨some 10,.pur (.buildSl 1 1 [.sc (.int .u8 (0))] [0]),[.t 9],none⟩,o 11 .bytesStr 10,⟨some 12,.pur (.bin .add),[.k (.s ⟨#[45]⟩),.t 11],none⟩,m 2 12]<|.ret) (.skip))<|.q [m 13 0,
 p 14 (.bin .quo) [.t 13,.k (.i 10)],c 15 213 [.t 14],m 16 0,p 17 (.bin .rem) [.t 16,.k (.i 10)],p 18 (.bin .sub) [.k (.i 48),.t 17],o 19 (.toInt .u8) 18,⟨some 20,.pur (.buildSl 1 1 [.sc (.int .u8 (0))] [0]),[.t 19],none⟩,
 o 21 .bytesStr 20,p 22 (.bin .add) [.t 15,.t 21],m 2 22]<|.ret) (.skip))<|.seq (.q [m 23 0,p 24 (.bin .lss) [.t 23,.k (.i 10)]]<|.cond (.t 24) (.q [m 25 0,p 26 (.bin .add) [.k (.i 48),.t 25],
 o 27 (.toInt .u8) 26,⟨some 28,.pur (.buildSl 1 1 [.sc (.int .u8 (0))] [0]),[.t 27],none⟩,o 29 .bytesStr 28,m 2 29]<|.ret) (.skip))<|.q [m 30 0,p 31 (.bin .quo) [.t 30,.k (.i 10)],c 32 213 [.t 31],m 33 0,
 p 34 (.bin .rem) [.t 33,.k (.i 10)],p 35 (.bin .add) [.k (.i 48),.t 34],o 36 (.toInt .u8) 35,⟨some 37,.pur (.buildSl 1 1 [.sc (.int .u8 (0))] [0]),[.t 36],none⟩,o 38 .bytesStr 37,p 39 (.bin .add) [.t 32,.t 38],m 2 39]<|.ret
def zca:zd:=⟨40,zfI,[.tmp 2]⟩
def zkl:ACode:=.q [x 1 0,k 2 (.b false)]<|.q [l 3 1 3 true 1,c 4 243 [.t 3],⟨some 5,.pur (.bin .neq),[.t 4,.k E],none⟩,m 6 5,u 7 (.ld (some 1) 3 true) [.t 1] 6 true,u 8 (.call 316) [.t 7] 6 true,
 p 9 .pick [.t 6,.t 8,.k (.b false)],m 2 9]<|.ret
def zfU:zd:=⟨10,zkl,[.tmp 2]⟩
def zfh:ACode:=.seq (.q [m 92 14,f 93 2 1,l 94 1 1 false 93,p 95 (.iaddr 3) [.t 94,.k (.i 3)],f 96 2 95,h 97 1 false 96,o 98 .lenL 97,
 p 99 (.bin .lss) [.t 92,.t 98]]<|.cond (.t 99) (.skip) (.exit 0))<|.seq (.block 1 (.q [f 103 2 1,l 104 1 1 false 103,p 105 (.iaddr 3) [.t 104,.k (.i 3)],f 106 2 105,h 107 1 false 106,m 108 14,
 p 109 (.iaddr 3) [.t 107,.t 108],h 110 3 true 109,⟨some 111,.call 317,[.t 110,.k (.s ⟨#[100]⟩)],none⟩,m 102 111,e 112 0 102,e 113 1 102,m 15 112,m 16 113]<|.q [
 m 114 13,m 115 114,w 116 .mov [.t 16] 115 true,p 117 .pick [.t 115,.t 116,.k (.b false)],m 13 117]<|.ops [f 118 2 4,l 119 4 1 false 118,m 120 15,
 ⟨some 121,.pur (.buildSl 1 1 [E] [0]),[.t 120],none⟩,⟨some 122,.append 1 16,[.t 119,.t 121],none⟩,f 123 2 4,s 4 1 123 122]))<|.ops [m 100 14,p 101 (.bin .add) [.t 100,.k (.i 1)],m 14 101]
def za6:ACode:=.q [x 1 0,⟨some 2,.alloc .reg [E,E,N,.i 0,E,N,.i 0],[],none⟩,k 3 (.b false)]<|.q [⟨some 18,.pur (.build [E,E,N,.i 0,E,N,.i 0] []),[],none⟩,
 ⟨some 4,.alloc .reg [E,E,N,.i 0,E,N,.i 0],[],none⟩,s 4 7 4 18]<|.seq (.q [f 19 0 1,l 20 1 1 false 19,p 21 (.bin .neq) [.t 20,.k (.i 3)],m 22 21,
 w 23 (.faddr 2) [.t 1] 22 false,u 24 (.ld (some 1) 1 false) [.t 23] 22 false,w 25 .lenL [.t 24] 22 false,w 26 (.bin .neq) [.t 25,.k (.i 6)] 22 false,p 27 .pick [.t 22,.k (.b true),.t 26],m 28 27,w 29 (.faddr 2) [.t 1] 28 false,
 u 30 (.ld (some 1) 1 false) [.t 29] 28 false,w 31 (.iaddr 3) [.t 30,.k (.i 0)] 28 false,w 32 (.faddr 0) [.t 31] 28 false,u 33 (.ld none 1 false) [.t 32] 28 false,w 34 (.bin .neq) [.t 33,.k (.i 1)] 28 false,p 35 .pick [.t 28,.k (.b true),.t 34],
 m 36 35,w 37 (.faddr 2) [.t 1] 36 false,u 38 (.ld (some 1) 1 false) [.t 37] 36 false,w 39 (.iaddr 3) [.t 38,.k (.i 0)] 36 false,w 40 (.faddr 1) [.t 39] 36 false,u 41 (.ld none 1 false) [.t 40] 36 false,
 ⟨some 42,.pur (.bin .neq),[.t 41,.k (.s ⟨#[99,111,111,107,105,101]⟩)],some (36,false)⟩,p 43 .pick [.t 36,.k (.b true),.t 42],m 44 43,w 45 (.faddr 2) [.t 1] 44 false,u 46 (.ld (some 1) 1 false) [.t 45] 44 false,w 47 (.iaddr 3) [.t 46,.k (.i 3)] 44 false,
 w 48 (.faddr 0) [.t 47] 44 false,u 49 (.ld none 1 false) [.t 48] 44 false,w 50 (.bin .neq) [.t 49,.k (.i 3)] 44 false,p 51 .pick [.t 44,.k (.b true),.t 50]]<|.cond (.t 51) (.q [l 52 4 7 true 4,s 2 7 2 52,
 k 3 (.b false)]<|.ret) (.skip))<|.q [f 54 2 1,l 55 1 1 false 54,p 56 (.iaddr 3) [.t 55,.k (.i 1)],h 57 3 true 56,⟨some 58,.call 317,[.t 57,.k (.s ⟨#[99]⟩)],none⟩,m 53 58,
 e 59 0 53,e 60 1 53,m 5 59,m 6 60]<|.q [f 62 2 1,l 63 1 1 false 62,p 64 (.iaddr 3) [.t 63,.k (.i 2)],h 65 3 true 64,
 ⟨some 66,.call 317,[.t 65,.k (.s ⟨#[110]⟩)],none⟩,m 61 66,e 67 0 61,e 68 1 61,m 7 67,m 8 68]<|.q [f 70 2 1,l 71 1 1 false 70,
 p 72 (.iaddr 3) [.t 71,.k (.i 5)],h 73 3 true 72,⟨some 74,.call 317,[.t 73,.k (.s ⟨#[117]⟩)],none⟩,m 69 74,e 75 0 69,e 76 1 69,m 9 75,m 10 76]<|.q [
 m 78 9,c 79 318 [.t 78],m 77 79,e 80 0 77,e 81 1 77,m 11 80,m 12 81]<|.q [m 82 6,m 83 82,
 w 84 .mov [.t 8] 83 true,p 85 .pick [.t 83,.t 84,.k (.b false)],m 86 85,w 87 .mov [.t 10] 86 true,p 88 .pick [.t 86,.t 87,.k (.b false)],m 89 88,w 90 .mov [.t 12] 89 true,p 91 .pick [.t 89,.t 90,.k (.b false)],
 m 13 91]<|.seq (.q [i 14 0]<|.block 0 (.loop [15,16,92,93,94,95,96,97,98,99,100,101,102,103,104,105,106,107,108,109,110,111,112,113,114,115,116,117,118,119,120,121,122,123] [] zfh))<|.q [f 124 2 1,
 l 125 1 1 false 124,p 126 (.iaddr 3) [.t 125,.k (.i 4)],h 127 3 true 126,c 128 211 [.t 127],m 17 128]<|.q [m 129 5,f 130 0 4,s 4 1 130 129]<|.q [
 m 131 7,f 132 1 4,s 4 1 132 131]<|.q [m 133 11,f 134 6 4,s 4 1 134 133]<|.q [f 135 2 1,l 136 1 1 false 135,
 p 137 (.iaddr 3) [.t 136,.k (.i 4)],h 138 3 true 137,f 139 3 4,s 4 3 139 138]<|.q [l 140 4 7 true 4,m 141 13,m 142 141,w 143 .mov [.t 17] 142 true,
 p 144 .pick [.t 142,.t 143,.k (.b false)],s 2 7 2 140,m 3 144]<|.ret
def zae:zd:=⟨145,za6,[.cell 2 7 true,.tmp 3]⟩
def zcf:ACode:=.q [x 2 0,o 3 .ibox 1,k 4 (.b false)]<|.seq (.q [h 6 1 false 3,p 7 (.bin .eql) [.t 6,.k (.i 0)],m 8 7,u 9 (.ld (some 2) 3 true) [.t 2] 8 false,
 u 10 (.call 319) [.t 9] 8 false,w 11 (.un .not) [.t 10] 8 false,p 12 .pick [.t 8,.k (.b true),.t 11],m 13 12,w 14 (.faddr 0) [.t 2] 13 false,u 15 (.ld (some 2) 1 false) [.t 14] 13 false,w 16 (.iaddrA 3 11) [.g 0,.t 15] 13 false,
 w 17 (.faddr 2) [.t 16] 13 false,u 18 (.ld none 1 false) [.t 17] 13 false,w 19 (.faddr 1) [.t 2] 13 false,u 20 (.ld (some 2) 1 false) [.t 19] 13 false,⟨some 21,.pur (.bin .eql),[.t 20,.k E],some (13,false)⟩,w 22 (.eqB false) [.t 18,.t 21] 13 false,
 p 23 .pick [.t 13,.k (.b true),.t 22]]<|.cond (.t 23) (.q [k 4 (.b false)]<|.ret) (.skip))<|.seq (.q [f 24 0 2,l 25 2 1 false 24,p 26 (.iaddrA 3 11) [.g 0,.t 25],f 27 1 26,
 h 28 1 false 27,m 5 28]<|.q [m 29 5,p 30 (.bin .geq) [.t 29,.k (.i 0)],m 31 30,w 32 (.faddr 2) [.t 2] 31 true,u 33 (.ld (some 2) 1 false) [.t 32] 31 true,w 34 .lenL [.t 33] 31 true,
 w 35 .mov [.t 5] 31 true,w 36 (.bin .neq) [.t 34,.t 35] 31 true,p 37 .pick [.t 31,.t 36,.k (.b false)]]<|.cond (.t 37) (.q [k 4 (.b false)]<|.ret) (.skip))<|.q [f 38 2 2,l 39 2 1 false 38,
 o 40 (.mkfn 321 0) 3,c 41 320 [.t 39,.t 40],o 42 (.un .not) 41,m 4 42]<|.ret
def zau:zd:=⟨43,zcf,[.tmp 4]⟩
def zhS:ACode:=.q [x 1 0,k 2 (.b false)]<|.seq (.q [f 3 0 1,l 4 1 1 false 3,p 5 (.bin .eql) [.t 4,.k (.i 9)],m 6 5,w 7 (.faddr 2) [.t 1] 6 true,
 u 8 (.ld (some 1) 1 false) [.t 7] 6 true,w 9 (.iaddr 3) [.t 8,.k (.i 1)] 6 true,u 10 (.ld none 3 true) [.t 9] 6 true,u 11 (.call 227) [.t 10] 6 true,w 12 (.faddr 2) [.t 1] 6 true,u 13 (.ld (some 1) 1 false) [.t 12] 6 true,w 14 (.iaddr 3) [.t 13,.k (.i 0)] 6 true,
 u 15 (.ld none 3 true) [.t 14] 6 true,u 16 (.call 227) [.t 15] 6 true,w 17 (.bin .lss) [.t 11,.t 16] 6 true,p 18 .pick [.t 6,.t 17,.k (.b false)]]<|.cond (.t 18) (.q [k 2 (.b false)]<|.ret) (.skip))<|.q [f 19 2 1,
 l 20 1 1 false 19,⟨some 21,.call 320,[.t 20,.k (.fn 322 [] [])],none⟩,o 22 (.un .not) 21,m 2 22]<|.ret
def zcZ:zd:=⟨23,zhS,[.tmp 2]⟩
def ziW:ACode:=.q [p 18 (.bin .lss) [.t 17,.t 16]]<|.seq (.cond (.t 18) (.skip) (.exit 0))<|.seq (.block 1 (.q [m 19 17,p 20 (.iaddr 3) [.t 15,.t 17],h 21 3 true 20,⟨some 8,.alloc .reg Z,[],none⟩,m 7 19,
 s 8 3 8 21]<|.q [m 22 1,m 23 7,p 24 (.iaddr 3) [.t 22,.t 23],h 25 3 true 24,⟨some 9,.alloc .reg Z,[],none⟩,s 9 3 9 25]<|.q [m 26 2,
 l 27 8 3 true 8,l 28 9 3 true 9,⟨some 29,.callv,[.t 26,.t 27,.t 28],none⟩,o 30 (.un .not) 29]<|.cond (.t 30) (.q [k 6 (.b false)]<|.ret) (.skip)))<|.ops [p 31 (.bin .add) [.t 17,.k (.i 1)],m 17 31]
def zli:ACode:=.q [k 6 (.b false)]<|.seq (.q [m 10 0,o 11 .lenL 10,m 12 1,o 13 .lenL 12,p 14 (.bin .neq) [.t 11,.t 13]]<|.cond (.t 14) (.q [k 6 (.b false)]<|.ret) (.skip))<|
 .seq (.q [m 15 0,o 16 .lenL 15,i 17 0]<|.block 0 (.loop [6,7,8,9,18,19,20,21,22,23,24,25,26,27,28,29,30,31] [8,9] ziW))<|.q [k 6 (.b true)]<|.ret
def zgd:zd:=⟨32,zli,[.tmp 6]⟩
def zhg:ACode:=.q [p 39 (.bin .lss) [.t 38,.t 37]]<|.seq (.cond (.t 39) (.skip) (.exit 0))<|.seq (.block 1 (.q [p 40 (.iaddr 3) [.t 36,.t 38],h 41 3 true 40,⟨some 6,.alloc .reg Z,[],none⟩,s 6 3 6 41]<|.ops [
 m 42 4,l 43 6 3 true 6,c 44 227 [.t 43],⟨some 45,.pur (.buildSl 1 1 [E] [0]),[.t 44],none⟩,⟨some 46,.append 1 16,[.t 42,.t 45],none⟩,m 4 46]))<|.ops [p 47 (.bin .add) [.t 38,.k (.i 1)],m 38 47]
def zbX:ACode:=.q [x 1 0,⟨some 2,.pur .mov,[.k E],none⟩]<|.q [f 7 0 1,l 8 1 1 false 7,p 9 (.iaddrA 3 11) [.g 0,.t 8],f 10 0 9,h 11 1 false 10,m 3 11]<|
 .seq (.q [f 12 1 1,l 13 1 1 false 12,⟨some 14,.pur (.bin .neq),[.t 13,.k E],none⟩]<|.cond (.t 14) (.ops [m 15 3,f 16 1 1,l 17 1 1 false 16,o 18 .lenS 17,c 19 193 [.t 18],
 ⟨some 20,.pur (.bin .add),[.t 19,.k (.s ⟨#[58]⟩)],none⟩,f 21 1 1,l 22 1 1 false 21,p 23 (.bin .add) [.t 20,.t 22],p 24 (.bin .add) [.t 15,.t 23],m 3 24]) (.skip))<|.seq (.q [f 25 2 1,
 l 26 1 1 false 25,o 27 .lenL 26,p 28 (.bin .eql) [.t 27,.k (.i 0)],m 29 28,w 30 (.faddr 0) [.t 1] 29 true,u 31 (.ld (some 1) 1 false) [.t 30] 29 true,w 32 (.bin .neq) [.t 31,.k (.i 3)] 29 true,
 p 33 .pick [.t 29,.t 32,.k (.b false)]]<|.cond (.t 33) (.q [m 34 3,m 2 34]<|.ret) (.skip))<|.q [k 4 N]<|.seq (.q [f 35 2 1,l 36 1 1 false 35,o 37 .lenL 36,
 i 38 0]<|.block 0 (.loop [6,39,40,41,42,43,44,45,46,47] [6] zhg))<|.q [m 48 3,⟨some 49,.pur (.bin .add),[.t 48,.k (.s ⟨#[40]⟩)],none⟩,m 50 4,⟨some 51,.call 324,[.t 50,.k (.s ⟨#[44]⟩)],none⟩,p 52 (.bin .add) [.t 49,.t 51],
 ⟨some 53,.pur (.bin .add),[.t 52,.k (.s ⟨#[41]⟩)],none⟩,m 2 53]<|.ret
def zaJ:zd:=⟨54,zbX,[.tmp 2]⟩
def zm4:ACode:=.q [⟨some 6,.alloc .reg Z,[],none⟩]<|.q [m 7 0,m 8 1,m 9 2,c 10 256 [.t 9],⟨some 11,.pur (.build Z [(0,1),(1,1),(2,1)]),[.t 7,.t 8,.t 10],none⟩,
 s 6 3 6 11]<|.ret
def zhT:zd:=⟨12,zm4,[.cell 6 3 true]⟩
def zrN:ACode:=.q [x 2 0,x 3 1,k 4 (.b false)]<|.q [l 5 2 3 true 2,c 6 121 [.t 5],l 7 3 3 true 3,c 8 121 [.t 7],p 9 (.bin .lss) [.t 6,.t 8],
 m 4 9]<|.ret
def zix:zd:=⟨10,zrN,[.tmp 4]⟩
def zj3:ACode:=.q [p 63 (.bin .lss) [.t 62,.t 61]]<|.seq (.cond (.t 63) (.skip) (.exit 4))<|.seq (.block 5 (.q [p 64 (.iaddr 3) [.t 60,.t 62],h 65 3 true 64,⟨some 12,.alloc .reg Z,[],none⟩,s 12 3 12 65]<|.ops [
 m 66 3,l 67 12 3 true 12,c 68 327 [.t 66,.t 67]]))<|.ops [p 69 (.bin .add) [.t 62,.k (.i 1)],m 62 69]
def zfC:ACode:=.q [p 34 (.bin .lss) [.t 33,.t 32]]<|.seq (.cond (.t 34) (.skip) (.exit 2))<|.seq (.block 3 (.q [p 35 (.iaddr 3) [.t 31,.t 33],h 36 3 true 35,⟨some 8,.alloc .reg Z,[],none⟩,s 8 3 8 36]<|.q [
 m 38 4,f 39 0 8,l 40 8 1 false 39,⟨some 41,.lookup false (.agg [.sc .nilFunc,.sc .nilFunc]) true,[.t 38,.t 40],none⟩,m 37 41,e 42 0 37,e 43 1 37,
 ⟨some 9,.alloc .reg [.sc .nilFunc,.sc .nilFunc],[],none⟩,s 9 2 9 42,m 10 43]<|.q [m 44 10,m 45 44,w 46 .mov [.t 3] 45 true,w 47 (.faddr 0) [.t 9] 45 true,u 48 (.ld (some 9) 1 false) [.t 47] 45 true,
 u 49 (.ld (some 8) 3 true) [.t 8] 45 true,⟨some 50,.callv,[.t 48,.t 49],some (45,true)⟩,u 51 (.call 326) [.t 46,.t 50] 45 true,p 52 .pick [.t 45,.t 51,.k (.b false)]]<|.cond (.t 52) (.ops [m 53 6,f 54 1 9,l 55 9 1 false 54,
 l 56 8 3 true 8,⟨some 57,.callv,[.t 55,.t 56],none⟩,⟨some 58,.append 3 48,[.t 53,.t 57],none⟩,m 6 58]) (.skip)))<|.ops [p 59 (.bin .add) [.t 33,.k (.i 1)],m 33 59]
def zkt:ACode:=.seq (.q [m 16 5,m 17 3,o 18 .nilchk 17,f 19 0 18,h 20 1 false 19,o 21 .lenL 20,p 22 (.bin .lss) [.t 16,.t 21]]<|.cond (.t 22) (.skip) (.exit 0))<|.block 1 (.q [
 m 23 3,o 24 .nilchk 23,f 25 0 24,h 26 1 false 25,o 27 .lenL 26,m 5 27]<|.q [k 6 N]<|.seq (.q [m 28 3,
 o 29 .nilchk 28,f 30 0 29,h 31 1 false 30,o 32 .lenL 31,i 33 0]<|.block 2 (.loop [8,9,10,34,35,36,37,38,39,40,41,42,43,44,45,46,47,48,49,50,51,52,53,54,55,56,57,58,59] [8,9] zfC))<|.q [
 m 60 6,o 61 .lenL 60,i 62 0]<|.block 4 (.loop [12,63,64,65,66,67,68,69] [12] zj3))
def zqJ:ACode:=.q [k 2 (.sc (.pointer none))]<|.q [m 13 0,c 14 257 [.t 13],c 15 325 [],m 3 14,m 4 15]<|.seq (.q [k 5 (.i (-1))]<|
 .block 0 (.loop [6,8,9,10,12,16,17,18,19,20,21,22,23,24,25,26,27,28,29,30,31,32,33,34,35,36,37,38,39,40,41,42,43,44,45,46,47,48,49,50,51,52,53,54,55,56,57,58,59,60,61,62,63,64,65,66,67,68,69] [8,9,12] zkt))<|.q [m 70 3,m 2 70]<|.ret
def zg2:zd:=⟨71,zqJ,[.tmp 2]⟩
def zsn:ACode:=.q [x 3 1,k 4 (.b false)]<|.q [m 5 0,l 6 3 3 true 3,c 7 254 [.t 6],c 8 328 [.t 5,.t 7],m 4 8]<|.ret
def zgF:zd:=⟨9,zsn,[.tmp 4]⟩
def znQ:ACode:=.q [i 2 0]<|.q [m 3 0,o 4 .nilchk 3,f 5 19 4,f 6 7 5,h 7 1 false 6,m 2 7]<|.ret
def ziQ:zd:=⟨8,znQ,[.tmp 2]⟩
def ztE:ACode:=.q [⟨some 0,.alloc .reg Z,[],none⟩]<|.q [⟨some 1,.call 140,[.k (.s ⟨#[107,100,99]⟩)],none⟩,⟨some 2,.call 140,[.k (.s ⟨#[104,111,115,116]⟩)],none⟩,c 3 286 [.t 1,.t 2],s 0 3 0 3]<|.ret
def zjC:zd:=⟨4,ztE,[.cell 0 3 true]⟩
def zqF:ACode:=.q [x 7 1,x 8 2,x 10 4,x 11 5,k 12 (.sc (.pointer none))]<|.q [m 13 0,l 14 7 3 true 7,m 15 0,
 c 16 145 [.t 14,.t 15],l 17 8 3 true 8,m 18 3,l 19 10 3 true 10,l 20 11 3 true 11,
 ⟨some 21,.pur (.build [E,.i 0,E,N,.i 0,E,N,.i 0,.i 0,E,N,.i 0,E,N,.b false,E,.i 0,E,N,.i 0,E,N,.i 0,E,N,.i 0,E,N,.b false,N,.i 0,E,N,.b false] [(0,1),(1,3),(4,3),(7,1),(8,3),(11,3)]),[.t 13,.t 16,.t 17,.t 18,.t 19,.t 20],none⟩,
 ⟨some 22,.box .heap,[.t 21],none⟩,m 12 22]<|.ret
def zhr:zd:=⟨23,zqF,[.tmp 12]⟩
def zts:ACode:=.q [x 4 0,x 5 1,k 8 (.sc (.pointer none)),i 9 0]<|.q [m 13 2,c 14 329 [.t 13],m 12 14,e 15 0 12,
 e 16 1 12,m 10 15,m 11 16]<|.seq (.q [m 17 11,p 18 (.bin .neq) [.t 17,.k (.i 0)]]<|.cond (.t 18) (.q [m 19 11,k 8 (.sc (.pointer none)),m 9 19]<|
 .ret) (.skip))<|.seq (.q [m 20 3,p 21 (.bin .lss) [.t 20,.k (.i 0)],m 22 21,w 23 .mov [.t 3] 22 false,w 24 (.bin .gtr) [.t 23,.k (.i 64)] 22 false,p 25 .pick [.t 22,.k (.b true),.t 24]]<|.cond (.t 25) (.q [
 k 8 (.sc (.pointer none)),i 9 1]<|.ret) (.skip))<|.q [l 26 4 3 true 4,l 27 5 3 true 5,m 28 10,m 29 3,m 30 3,c 31 54 [.t 30],
 ⟨some 32,.pur (.build [.i 0,E,N,.i 0,E,N,.sc (.pointer none),.i 0,.sc (.pointer none),.i 0,N] [(0,3),(3,3),(6,1),(7,1),(8,1)]),[.t 26,.t 27,.t 28,.t 29,.t 31],none⟩,⟨some 33,.box .heap,[.t 32],none⟩,m 8 33,i 9 0]<|.ret
def zgA:zd:=⟨34,zts,[.tmp 8,.tmp 9]⟩
def vJ:ACode:=.q [x 4 1,
 ⟨some 6,.alloc .reg [.i 0,E,N,.i 0,E,N,E,E,N,.i 0,E,N,.i 0,E,.i 0,E,N,N,.i 0,E,N,.i 0,.i 0,.i 0,.i 0,.i 0,.i 0,.i 0,.i 0],[],none⟩,
 ⟨some 7,.alloc .reg Z,[],none⟩,i 8 0]<|.q [
 ⟨some 27,.pur (.build [.i 0,E,N,.i 0,E,N,E,E,N,.i 0,E,N,.i 0,E,.i 0,E,N,N,.i 0,E,N,.i 0,.i 0,.i 0,.i 0,.i 0,.i 0,.i 0,.i 0] []),[],none⟩,
 ⟨some 9,.alloc .reg [.i 0,E,N,.i 0,E,N,E,E,N,.i 0,E,N,.i 0,E,.i 0,E,N,N,.i 0,E,N,.i 0,.i 0,.i 0,.i 0,.i 0,.i 0,.i 0,.i 0],[],none⟩,s 9 29 9 27]<|.q [
 l 29 4 3 true 4,c 30 95 [.t 29],m 28 30,e 31 0 28,e 32 1 28,e 33 2 28,e 34 3 28,⟨some 10,.alloc .reg Z,[],none⟩,
 ⟨some 11,.alloc .reg Z,[],none⟩,⟨some 12,.alloc .reg Z,[],none⟩,s 10 3 10 31,s 11 3 11 32,s 12 3 12 33,m 13 34]<|.q [l 36 10 3 true 10,
 c 37 93 [.t 36],m 35 37,e 38 0 35,e 39 1 35,e 40 2 35,m 14 38,m 15 39,m 16 40]<|.seq (.q [m 41 13,
 o 42 (.un .not) 41,m 43 42,w 44 .mov [.t 16] 43 false,w 45 (.un .not) [.t 44] 43 false,p 46 .pick [.t 43,.k (.b true),.t 45]]<|.cond (.t 46) (.q [l 47 9 29 true 9,l 48 4 3 true 4,
 s 6 29 6 47,s 7 3 7 48,i 8 2]<|.ret) (.skip))<|.q [m 50 0,o 51 .nilchk 50,f 52 0 51,h 53 3 true 52,l 54 11 3 true 11,
 c 55 337 [.t 53,.t 54],m 49 55,e 56 0 49,e 57 1 49,⟨some 17,.alloc .reg Z,[],none⟩,s 17 3 17 56,m 18 57]<|.seq (.q [m 58 18,
 p 59 (.bin .neq) [.t 58,.k (.i 0)]]<|.cond (.t 59) (.q [l 60 9 29 true 9,l 61 4 3 true 4,m 62 18,s 6 29 6 60,s 7 3 7 61,m 8 62]<|.ret) (.skip))<|.q [
 l 64 17 3 true 17,l 65 10 3 true 10,l 66 12 3 true 12,c 67 338 [.t 64,.t 65,.t 66],m 63 67,e 68 0 63,e 69 1 63,e 70 2 63,
 ⟨some 19,.alloc .reg Z,[],none⟩,⟨some 20,.alloc .reg Z,[],none⟩,s 19 3 19 68,s 20 3 20 69,m 21 70]<|.seq (.q [m 71 21,p 72 (.bin .neq) [.t 71,.k (.i 0)]]<|
 .cond (.t 72) (.q [l 73 9 29 true 9,l 74 4 3 true 4,m 75 21,s 6 29 6 73,s 7 3 7 74,m 8 75]<|.ret) (.skip))<|.q [m 77 0,o 78 .nilchk 77,
 f 79 6 78,h 80 1 false 79,m 81 14,c 82 339 [.t 80,.t 81],m 76 82,e 83 0 76,e 84 1 76,
 ⟨some 22,.alloc .reg [E,.i 0,E,N,N,.i 0,E,N,.i 0,.i 0,.i 0,.i 0,.i 0,.i 0,.i 0],[],none⟩,s 22 15 22 83,m 23 84]<|.seq (.q [m 85 23,o 86 (.un .not) 85]<|
 .cond (.t 86) (.q [l 87 9 29 true 9,l 88 4 3 true 4,s 6 29 6 87,s 7 3 7 88,i 8 3]<|.ret) (.skip))<|.q [l 89 17 3 true 17,l 90 10 3 true 10,
 l 91 22 15 true 22,m 92 2,m 93 14,m 94 15,c 95 75 [],⟨some 96,.pur (.build [E,E,N,.i 0,E,N,.i 0] [(0,1),(1,1),(3,3)]),[.t 93,.t 94,.t 95],none⟩,
 ⟨some 97,.pur (.build [.i 0,E,N,.i 0,E,N,E,E,N,.i 0,E,N,.i 0,E,.i 0,E,N,N,.i 0,E,N,.i 0,.i 0,.i 0,.i 0,.i 0,.i 0,.i 0,.i 0] [(0,3),(3,3),(13,15),(28,1),(6,7)]),[.t 89,.t 90,.t 91,.t 92,.t 96],none⟩,
 ⟨some 24,.alloc .reg [.i 0,E,N,.i 0,E,N,E,E,N,.i 0,E,N,.i 0,E,.i 0,E,N,N,.i 0,E,N,.i 0,.i 0,.i 0,.i 0,.i 0,.i 0,.i 0,.i 0],[],none⟩,s 24 29 24 97]<|
 .seq (.q [l 98 20 3 true 20,c 99 84 [.t 98],o 100 (.un .not) 99]<|.cond (.t 100) (.q [m 102 0,o 103 .nilchk 102,f 104 3 103,h 105 3 true 104,l 106 20 3 true 20,
 m 107 2,c 108 113 [.t 105,.t 106,.t 107],m 101 108,e 109 0 101,e 110 1 101,⟨some 25,.alloc .reg [E,E,N,.i 0,E,N,.i 0],[],none⟩,s 25 7 25 109,
 m 26 110]<|.seq (.q [m 111 26,p 112 (.bin .neq) [.t 111,.k (.i 0)]]<|.cond (.t 112) (.q [l 113 9 29 true 9,l 114 4 3 true 4,m 115 26,s 6 29 6 113,
 s 7 3 7 114,m 8 115]<|.ret) (.skip))<|.seq (.q [f 116 0 25,l 117 25 1 false 116,m 118 14,p 119 (.bin .neq) [.t 117,.t 118],m 120 119,
 w 121 (.faddr 1) [.t 25] 120 false,u 122 (.ld (some 25) 1 false) [.t 121] 120 false,w 123 .mov [.t 15] 120 false,w 124 (.bin .neq) [.t 122,.t 123] 120 false,p 125 .pick [.t 120,.k (.b true),.t 124],m 126 125,w 127 (.faddr 2) [.t 25] 126 false,
 u 128 (.ld (some 25) 1 false) [.t 127] 126 false,w 129 (.faddr 4) [.t 22] 126 false,u 130 (.ld (some 22) 1 false) [.t 129] 126 false,u 131 (.call 340) [.t 128,.t 130] 126 false,w 132 (.un .not) [.t 131] 126 false,p 133 .pick [.t 126,.k (.b true),.t 132]]<|.cond (.t 133) (.q [
 l 134 9 29 true 9,l 135 4 3 true 4,s 6 29 6 134,s 7 3 7 135,i 8 11]<|.ret) (.skip))<|.ops [l 136 25 7 true 25,f 137 6 24,
 s 24 7 137 136]) (.skip))<|.seq (.q [m 138 0,o 139 .nilchk 138,f 140 6 139,h 141 1 false 140,m 142 14,c 143 341 [.t 141,.t 142]]<|.cond (.t 143) (.q [
 l 144 9 29 true 9,l 145 4 3 true 4,s 6 29 6 144,s 7 3 7 145,i 8 7]<|.ret) (.skip))<|.q [l 146 24 29 true 24,l 147 19 3 true 19,
 s 6 29 6 146,s 7 3 7 147,i 8 0]<|.ret
def qK:zd:=⟨148,vJ,[.cell 6 29 true,.cell 7 3 true,.tmp 8]⟩
def ziD:ACode:=.q [x 3 1,⟨some 4,.alloc .reg Z,[],none⟩]<|.q [⟨some 7,.call 63,[.k (.s ⟨#[99,104,97,108,108,101,110,103,101]⟩),.k N],none⟩,⟨some 5,.alloc .reg Z,[],none⟩,s 5 3 5 7]<|.q [
 c 8 75 [],f 9 6 3,f 10 3 9,s 3 3 10 8]<|.q [f 11 13 3,f 12 4 11,l 13 3 1 false 12,f 14 6 3,f 15 2 14,
 l 16 3 1 false 15,o 17 .lenL 16,p 18 (.iaddr 1) [.t 13,.t 17],h 19 1 false 18,m 6 19]<|.seq (.q [m 20 6,⟨some 21,.pur (.bin .neq),[.t 20,.k (.s ⟨#[99,104,97,108,108,101,110,103,101]⟩)],none⟩]<|
 .cond (.t 21) (.q [m 22 0,c 23 342 [.t 22],f 24 6 3,f 25 3 24,s 3 3 25 23]<|.q [f 26 6 3,f 27 3 26,l 28 3 3 true 27,
 c 29 283 [.t 28],s 5 3 5 29]<|.q [m 30 6,⟨some 31,.pur (.bin .eql),[.t 30,.k (.s ⟨#[115,112,97,107,101]⟩)],none⟩]<|.cond (.t 31) (.ops [f 32 13 3,f 33 1 32,l 34 3 3 true 33,
 f 35 6 3,f 36 3 35,l 37 3 3 true 36,c 38 331 [.t 34,.t 37],s 5 3 5 38]) (.skip)) (.skip))<|.q [f 39 28 3,l 40 3 1 false 39,
 p 41 (.bin .add) [.t 40,.k (.i 100)],f 42 6 3,f 43 6 42,s 3 1 43 41]<|.q [f 44 0 3,l 45 3 3 true 44,f 46 6 3,f 47 1 46,
 l 48 3 1 false 47,l 49 5 3 true 5,m 50 0,o 51 .nilchk 50,f 52 3 51,h 53 3 true 52,f 54 6 3,l 55 3 7 true 54,c 56 111 [.t 53,.t 55],
 ⟨some 57,.pur (.buildSl 3 2 Z [0,1]),[.t 49,.t 56],none⟩,⟨some 58,.call 63,[.k (.s ⟨#[109,111,114,101]⟩),.t 57],none⟩,c 59 332 [.t 45,.t 48,.t 58],s 4 3 4 59]<|.ret
def f240:zd:=⟨60,ziD,[.cell 4 3 true]⟩
def zhx:ACode:=.q [x 3 0,x 4 1,⟨some 6,.alloc .reg Z,[],none⟩,k 7 N,i 8 0]<|.seq (.q [m 13 2]<|.block 0 (.q [
 ⟨some 15,.pur (.bin .eql),[.t 13,.k (.s ⟨#[111,116,112]⟩)],none⟩,m 14 15]<|.cond (.t 14) (.q [f 17 0 3,l 18 3 3 true 17,f 19 6 3,f 20 3 19,l 21 3 3 true 20,
 l 22 4 3 true 4,f 23 13 3,f 24 5 23,l 25 3 3 true 24,f 26 13 3,f 27 8 26,l 28 3 6 true 27,c 29 343 [.t 18,.t 21,.t 22,.t 25,.t 28],
 m 16 29,e 30 0 16,e 31 1 16,m 9 30,m 10 31]<|.q [f 32 0 3,l 33 3 3 true 32,c 34 336 [.t 33,.k (.i 46)],m 35 9,
 m 36 10,s 6 3 6 34,m 7 35,m 8 36]<|.ret) (.q [⟨some 38,.pur (.bin .eql),[.t 13,.k (.s ⟨#[115,112,97,107,101]⟩)],none⟩,m 37 38]<|.cond (.t 37) (.q [f 40 13 3,
 f 41 1 40,l 42 3 3 true 41,f 43 3 3,l 44 3 3 true 43,f 45 6 3,f 46 3 45,l 47 3 3 true 46,l 48 4 3 true 4,
 c 49 344 [.t 42,.t 44,.t 47,.t 48],m 39 49,e 50 0 39,e 51 1 39,⟨some 11,.alloc .reg Z,[],none⟩,s 11 3 11 50,m 12 51]<|.q [
 l 52 11 3 true 11,m 53 12,s 6 3 6 52,k 7 N,m 8 53]<|.ret) (.skip))))<|.q [f 54 13 3,f 55 1 54,l 56 3 3 true 55,
 f 57 0 3,l 58 3 3 true 57,f 59 13 3,f 60 1 59,l 61 3 3 true 60,f 62 3 3,l 63 3 3 true 62,l 64 4 3 true 4,f 65 28 3,
 l 66 3 1 false 65,c 67 151 [.t 58,.t 61,.t 63,.t 64,.t 66],s 6 3 6 56,k 7 N,m 8 67]<|.ret
def f241:zd:=⟨68,zhx,[.cell 6 3 true,.tmp 7,.tmp 8]⟩
def znS:ACode:=.q [i 4 0]<|.q [m 6 0,m 7 1,c 8 345 [.t 6,.t 7],m 5 8]<|.seq (.q [m 9 5,p 10 (.bin .lss) [.t 9,.k (.i 0)]]<|.cond (.t 10) (.q [
 i 4 3]<|.ret) (.skip))<|.q [m 11 0,o 12 .nilchk 11,f 13 0 12,h 14 1 false 13,m 15 5,p 16 (.iaddr 15) [.t 14,.t 15],f 17 14 16,
 h 18 1 false 17,p 19 (.bin .add) [.t 18,.k (.i 1)],p 20 (.iaddr 15) [.t 14,.t 15],f 21 14 20,⟨none,.st none 1,[.t 21,.t 19],none⟩]<|.q [i 4 0]<|.ret
def ziG:zd:=⟨22,znS,[.tmp 4]⟩
def ziv:ACode:=.q [x 1 0,⟨some 2,.pur .mov,[.k E],none⟩]<|.seq (.q [l 4 1 3 true 1,c 5 314 [.t 4,.k (.i 61)],p 6 (.bin .gtr) [.t 5,.k (.i 60)]]<|.cond (.t 6) (.q [⟨some 2,.pur .mov,[.k E],none⟩]<|.ret) (.skip))<|.q [
 l 7 1 3 true 1,c 8 346 [.t 7],m 3 8]<|.seq (.q [m 9 3,o 10 (.un .not) 9]<|.cond (.t 10) (.q [⟨some 2,.pur .mov,[.k E],none⟩]<|.ret) (.skip))<|.q [l 11 1 3 true 1,
 c 12 347 [.t 11],m 2 12]<|.ret
def f243:zd:=⟨13,ziv,[.tmp 2]⟩
def zkz:ACode:=.q [i 6 0,i 7 0]<|.q [m 12 0,m 13 1,c 14 345 [.t 12,.t 13],m 8 14]<|.seq (.q [m 15 8,
 p 16 (.bin .lss) [.t 15,.k (.i 0)]]<|.cond (.t 16) (.q [i 6 0,i 7 3]<|.ret) (.skip))<|.seq (.q [m 17 0,o 18 .nilchk 17,f 19 0 18,h 20 1 false 19,
 m 21 8,p 22 (.iaddr 15) [.t 20,.t 21],f 23 14 22,h 24 1 false 23,p 25 (.bin .geq) [.t 24,.k (.i 5)]]<|.cond (.t 25) (.q [i 6 0,i 7 7]<|.ret) (.skip))<|.q [
 m 27 0,o 28 .nilchk 27,f 29 0 28,h 30 1 false 29,m 31 8,p 32 (.iaddr 15) [.t 30,.t 31],f 33 8 32,h 34 6 true 33,m 35 2,
 c 36 348 [.t 34,.t 35],m 26 36,e 37 0 26,e 38 1 26,e 39 2 26,⟨some 9,.alloc .reg [.i 0,.i 0,.i 0,.i 0,.i 0,.i 0],[],none⟩,s 9 6 9 37,m 10 38,
 m 11 39]<|.q [m 40 0,o 41 .nilchk 40,f 42 0 41,h 43 1 false 42,m 44 8,l 45 9 6 true 9,p 46 (.iaddr 15) [.t 43,.t 44],f 47 8 46,
 ⟨none,.st none 6,[.t 47,.t 45],none⟩]<|.q [m 48 10,m 49 11,m 6 48,m 7 49]<|.ret
def f244:zd:=⟨50,zkz,[.tmp 6,.tmp 7]⟩
def zn3:ACode:=.q [x 4 1,x 5 2,⟨some 6,.alloc .reg Z,[],none⟩]<|.q [m 12 0,c 13 342 [.t 12],⟨some 7,.alloc .reg Z,[],none⟩,s 7 3 7 13]<|.q [
 m 14 0,c 15 342 [.t 14],⟨some 8,.alloc .reg Z,[],none⟩,s 8 3 8 15]<|.q [m 16 0,o 17 .nilchk 16,f 18 6 17,h 19 1 false 18,
 f 20 6 4,f 21 0 20,l 22 4 1 false 21,c 23 349 [.t 19,.t 22]]<|.q [m 24 0,m 25 0,o 26 .nilchk 25,f 27 10 26,h 28 1 false 27,
 f 29 6 4,f 30 0 29,l 31 4 1 false 30,f 32 6 4,f 33 1 32,l 34 4 1 false 33,f 35 6 4,f 36 2 35,l 37 4 1 false 36,
 l 38 7 3 true 7,⟨some 39,.pur (.build [E,E,N,.i 0,E,N] [(0,1),(1,1),(2,1),(3,3)]),[.t 31,.t 34,.t 37,.t 38],none⟩,⟨some 40,.pur (.buildSl 6 1 [E,E,N,.i 0,E,N] [0]),[.t 39],none⟩,⟨some 41,.append 6 104,[.t 28,.t 40],none⟩,
 o 42 .nilchk 24,f 43 10 42,⟨none,.st none 1,[.t 43,.t 41],none⟩]<|.q [m 44 0,o 45 .nilchk 44,f 46 0 45,h 47 3 true 46,f 48 6 4,f 49 0 48,
 l 50 4 1 false 49,c 51 65 [.t 50],l 52 7 3 true 7,f 53 6 4,f 54 2 53,l 55 4 1 false 54,c 56 69 [.t 55],f 57 28 4,l 58 4 1 false 57,
 c 59 67 [.t 58],⟨some 60,.pur (.buildSl 3 4 Z [0,1,2,3]),[.t 51,.t 52,.t 56,.t 59],none⟩,⟨some 61,.call 63,[.k (.s ⟨#[116,105,99,107,101,116]⟩),.t 60],none⟩,c 62 266 [.t 47,.k (.i 3),.t 61],⟨some 9,.alloc .reg Z,[],none⟩,
 s 9 3 9 62]<|.q [l 63 9 3 true 9,c 64 265 [.t 63],⟨some 10,.alloc .reg Z,[],none⟩,s 10 3 10 64]<|.q [l 65 8 3 true 8,l 66 5 3 true 5,
 c 67 333 [.t 65,.t 66],l 68 7 3 true 7,f 69 6 4,f 70 1 69,l 71 4 1 false 70,c 72 65 [.t 71],l 73 10 3 true 10,
 ⟨some 74,.pur (.buildSl 3 3 Z [0,1,2]),[.t 68,.t 72,.t 73],none⟩,⟨some 75,.call 63,[.k (.s ⟨#[101,110,99]⟩),.t 74],none⟩,c 76 266 [.t 67,.k (.i 3),.t 75],⟨some 11,.alloc .reg Z,[],none⟩,s 11 3 11 76]<|.q [
 l 77 9 3 true 9,l 78 11 3 true 11,f 79 0 4,l 80 4 3 true 79,f 81 6 4,f 82 1 81,l 83 4 1 false 82,l 84 8 3 true 8,
 l 85 10 3 true 10,⟨some 86,.pur (.buildSl 3 2 Z [0,1]),[.t 84,.t 85],none⟩,⟨some 87,.call 63,[.k (.s ⟨#[102,105,110,105,115,104]⟩),.t 86],none⟩,c 88 332 [.t 80,.t 83,.t 87],⟨some 89,.pur (.buildSl 3 3 Z [0,1,2]),[.t 77,.t 78,.t 88],none⟩,
 ⟨some 90,.call 63,[.k (.s ⟨#[97,115,45,114,101,112]⟩),.t 89],none⟩,s 6 3 6 90]<|.ret
def f245:zd:=⟨91,zn3,[.cell 6 3 true]⟩
def zni:ACode:=.q [x 3 0,x 4 1,x 5 2,⟨some 6,.alloc .reg Z,[],none⟩]<|.q [l 7 3 3 true 3,l 8 4 3 true 4,l 9 5 3 true 5,
 ⟨some 10,.pur (.buildSl 3 1 Z [0]),[.t 9],none⟩,⟨some 11,.call 62,[.k (.s ⟨#[97,117,116,104]⟩),.t 10],none⟩,c 12 261 [.t 8,.k (.i 11),.t 11],⟨some 13,.pur (.buildSl 3 2 Z [0,1]),[.t 7,.t 12],none⟩,⟨some 14,.call 62,[.k (.s ⟨#[97,114,109,111,114]⟩),.t 13],none⟩,
 s 6 3 6 14]<|.ret
def f246:zd:=⟨15,zni,[.cell 6 3 true]⟩
def zrr:ACode:=.q [x 2 0,x 3 1,⟨some 4,.alloc .reg Z,[],none⟩]<|.q [l 5 2 3 true 2,l 6 3 3 true 3,
 ⟨some 7,.call 350,[.t 5,.t 6,.k (.s ⟨#[115,117,98,107,101,121,97,114,109,111,114]⟩),.k (.s ⟨#[116,105,99,107,101,116,97,114,109,111,114]⟩)],none⟩,s 4 3 4 7]<|.ret
def f247:zd:=⟨8,zrr,[.cell 4 3 true]⟩
def zqD:ACode:=.q [x 4 1,x 5 2,⟨some 6,.alloc .reg Z,[],none⟩]<|.q [m 7 0,o 8 .nilchk 7,f 9 4 8,h 10 3 true 9,m 11 0,
 o 12 .nilchk 11,f 13 7 12,h 14 3 true 13,m 15 0,o 16 .nilchk 15,f 17 10 16,h 18 3 true 17,m 19 0,o 20 .nilchk 19,
 f 21 4 20,h 22 3 true 21,l 23 4 3 true 4,l 24 5 3 true 5,c 25 351 [.t 18,.t 22,.t 23,.t 24],c 26 70 [.t 10,.t 14,.t 25],s 6 3 6 26]<|.ret
def zhz:zd:=⟨27,zqD,[.cell 6 3 true]⟩
def za7:ACode:=.seq (.q [m 5 4,p 6 (.bin .lss) [.t 5,.k (.i 20)],m 7 6,w 8 .mov [.t 4] 7 true,w 9 (.bin .eql) [.t 8,.k (.i 0)] 7 true,w 10 .mov [.t 9] 7 true,w 11 .mov [.t 0] 10 false,
 w 12 (.bin .gtr) [.t 11,.k (.i 0)] 10 false,w 13 .pick [.t 10,.k (.b true),.t 12] 7 true,p 14 .pick [.t 7,.t 13,.k (.b false)]]<|.cond (.t 14) (.skip) (.exit 0))<|.seq (.block 1 (.q [m 17 0,p 18 (.bin .rem) [.t 17,.k (.i 10)],
 p 19 (.bin .add) [.k (.i 48),.t 18],o 20 (.toInt .u8) 19,⟨some 21,.pur (.buildSl 1 1 [.sc (.int .u8 (0))] [0]),[.t 20],none⟩,o 22 .bytesStr 21,m 23 3,p 24 (.bin .add) [.t 22,.t 23],m 3 24]<|.ops [m 25 0,
 p 26 (.bin .quo) [.t 25,.k (.i 10)],m 0 26]))<|.ops [m 15 4,p 16 (.bin .add) [.t 15,.k (.i 1)],m 4 16]
def zqm:ACode:=.q [⟨some 2,.pur .mov,[.k E],none⟩]<|.q [⟨some 3,.pur .mov,[.k E],none⟩]<|.seq (.q [i 4 0]<|.block 0 (.loop [5,6,7,8,9,10,11,12,13,14,15,16,17,18,19,20,21,22,23,24,25,26] [] za7))<|.q [m 27 3,
 m 2 27]<|.ret
def zgT:zd:=⟨28,zqm,[.tmp 2]⟩
def za8:ACode:=.q [x 5 1,x 6 2,x 7 3,i 8 0]<|.seq (.q [m 14 0,o 15 .nilchk 14,f 16 1 15,h 17 1 false 16,
 o 18 (.un .not) 17]<|.cond (.t 18) (.q [i 8 11]<|.ret) (.skip))<|.q [m 20 0,o 21 .nilchk 20,f 22 10 21,h 23 3 true 22,m 24 0,o 25 .nilchk 24,
 f 26 3 25,h 27 1 false 26,l 28 7 3 true 7,c 29 251 [.t 23,.t 27,.t 28],m 19 29,e 30 0 19,e 31 1 19,⟨some 9,.alloc .reg Z,[],none⟩,
 s 9 3 9 30,m 10 31]<|.q [l 33 9 3 true 9,m 34 10,⟨some 35,.call 252,[.t 33,.t 34,.k (.s ⟨#[102,105,110,105,115,104]⟩),.k (.i 2)],none⟩,m 32 35,e 36 0 32,
 e 37 1 32,m 11 36,m 10 37]<|.q [l 38 5 3 true 5,c 39 124 [.t 38],⟨some 12,.alloc .reg Z,[],none⟩,s 12 3 12 39]<|.seq (.block 0 (.q [
 m 41 10,p 42 (.bin .neq) [.t 41,.k (.i 0)],m 40 42]<|.cond (.t 40) (.q [m 43 10,m 8 43]<|.ret) (.q [m 45 11,p 46 (.iaddr 3) [.t 45,.k (.i 1)],h 47 3 true 46,
 l 48 12 3 true 12,c 49 118 [.t 47,.t 48],o 50 (.un .not) 49,m 44 50]<|.cond (.t 44) (.q [i 8 6]<|.ret) (.skip))))<|.q [m 52 11,p 53 (.iaddr 3) [.t 52,.k (.i 0)],
 h 54 3 true 53,m 55 0,o 56 .nilchk 55,f 57 13 56,h 58 3 true 57,c 59 352 [.t 54,.t 58],l 60 6 3 true 6,c 61 263 [.t 59,.k (.i 3),.t 60],m 51 61,
 e 62 0 51,e 63 1 51,s 9 3 9 62,m 10 63]<|.q [l 65 9 3 true 9,m 66 10,⟨some 67,.call 252,[.t 65,.t 66,.k (.s ⟨#[101,110,99]⟩),.k (.i 3)],none⟩,m 64 67,
 e 68 0 64,e 69 1 64,m 13 68,m 10 69]<|.seq (.block 1 (.q [m 71 10,p 72 (.bin .neq) [.t 71,.k (.i 0)],m 70 72]<|.cond (.t 70) (.q [m 73 10,
 m 8 73]<|.ret) (.q [m 75 13,p 76 (.iaddr 3) [.t 75,.k (.i 1)],h 77 3 true 76,m 78 0,o 79 .nilchk 78,f 80 3 79,h 81 1 false 80,c 82 64 [.t 81],
 c 83 118 [.t 77,.t 82],o 84 (.un .not) 83,m 85 84,w 86 .mov [.t 13] 85 false,w 87 (.iaddr 3) [.t 86,.k (.i 2)] 85 false,u 88 (.ld none 3 true) [.t 87] 85 false,u 89 (.ld (some 12) 3 true) [.t 12] 85 false,
 u 90 (.call 118) [.t 88,.t 89] 85 false,w 91 (.un .not) [.t 90] 85 false,p 92 .pick [.t 85,.k (.b true),.t 91],m 74 92]<|.cond (.t 74) (.q [i 8 6]<|.ret) (.skip))))<|.q [m 93 0,m 94 0,
 m 95 0,m 96 13,p 97 (.iaddr 3) [.t 96,.k (.i 0)],h 98 3 true 97,o 99 .nilchk 93,f 100 16 99,⟨none,.st none 3,[.t 100,.t 98],none⟩,o 101 .nilchk 94,f 102 2 101,
 ⟨none,.st none 1,[.t 102,.k (.b true)],none⟩,o 103 .nilchk 95,f 104 0 103,⟨none,.st none 1,[.t 104,.k (.b false)],none⟩]<|.q [i 8 0]<|.ret
def wK:zd:=⟨105,za8,[.tmp 8]⟩
def zgN:ACode:=.q [x 3 0,x 5 2,⟨some 6,.alloc .reg Z,[],none⟩,i 7 0]<|.q [l 11 3 3 true 3,l 12 5 3 true 5,
 ⟨some 13,.call 353,[.t 11,.k (.i 52),.t 12,.k (.s ⟨#[97,110,115,119,101,114]⟩),.k (.i 2)],none⟩,m 10 13,e 14 0 10,e 15 1 10,m 8 14,m 9 15]<|.seq (.block 0 (.q [m 17 9,
 p 18 (.bin .neq) [.t 17,.k (.i 0)],m 16 18]<|.cond (.t 16) (.q [⟨some 19,.pur (.build Z []),[],none⟩,m 20 9,s 6 3 6 19,m 7 20]<|.ret) (.q [m 22 8,
 p 23 (.iaddr 3) [.t 22,.k (.i 0)],h 24 3 true 23,m 25 1,c 26 64 [.t 25],c 27 118 [.t 24,.t 26],o 28 (.un .not) 27,m 21 28]<|.cond (.t 21) (.q [⟨some 29,.pur (.build Z []),[],none⟩,
 s 6 3 6 29,i 7 6]<|.ret) (.skip))))<|.q [m 30 8,p 31 (.iaddr 3) [.t 30,.k (.i 1)],h 32 3 true 31,s 6 3 6 32,i 7 0]<|.ret
def zea:zd:=⟨33,zgN,[.cell 6 3 true,.tmp 7]⟩
def zjb:ACode:=.q [x 4 0,k 8 N,i 9 0]<|.seq (.q [m 12 1,p 13 (.bin .neq) [.t 12,.k (.i 0)]]<|.cond (.t 13) (.q [m 14 1,k 8 N,
 m 9 14]<|.ret) (.skip))<|.q [m 16 2,m 17 3,l 18 4 3 true 4,c 19 78 [.t 16,.t 17,.t 18],m 15 19,e 20 0 15,e 21 1 15,
 m 10 20,m 11 21]<|.seq (.q [m 22 11,o 23 (.un .not) 22]<|.cond (.t 23) (.q [k 8 N,i 9 2]<|.ret) (.skip))<|.q [m 24 10,
 m 8 24,i 9 0]<|.ret
def zdu:zd:=⟨25,zjb,[.tmp 8,.tmp 9]⟩
def zdg:ACode:=.q [x 5 1,x 7 3,⟨some 8,.alloc .reg Z,[],none⟩,⟨some 9,.alloc .reg Z,[],none⟩,i 10 0]<|.seq (.q [l 11 5 3 true 5,c 12 81 [.t 11]]<|
 .block 0 (.q [⟨some 14,.pur (.bin .eql),[.t 12,.k (.s ⟨#[99,104,97,108,108,101,110,103,101]⟩)],none⟩,m 13 14]<|.cond (.t 13) (.q [m 15 0,o 16 .nilchk 15,f 17 0 16,f 18 10 17,h 19 3 true 18,
 m 20 0,o 21 .nilchk 20,f 22 33 21,h 23 3 true 22,m 24 0,o 25 .nilchk 24,f 26 0 25,f 27 4 26,h 28 3 true 27,
 m 29 2,c 30 148 [.t 19,.t 23,.t 28,.t 29],m 31 0,o 32 .nilchk 31,f 33 33 32,h 34 3 true 33,s 8 3 8 30,s 9 3 9 34,i 10 0]<|
 .ret) (.q [⟨some 36,.pur (.bin .eql),[.t 12,.k (.s ⟨#[111,116,112]⟩)],none⟩,m 35 36]<|.cond (.t 35) (.q [m 38 0,o 39 .nilchk 38,f 40 0 39,f 41 10 40,h 42 3 true 41,
 l 43 5 3 true 5,m 44 0,o 45 .nilchk 44,f 46 19 45,f 47 4 46,h 48 3 true 47,m 49 0,o 50 .nilchk 49,f 51 19 50,
 f 52 7 51,h 53 1 false 52,c 54 278 [.t 48,.t 53],c 55 156 [.t 42,.t 43,.t 54],m 37 55,e 56 0 37,e 57 1 37,s 8 3 8 56,m 10 57]<|
 .seq (.q [m 58 10,p 59 (.bin .eql) [.t 58,.k (.i 0)]]<|.cond (.t 59) (.ops [m 60 0,o 61 .nilchk 60,f 62 19 61,f 63 7 62,h 64 1 false 63,
 p 65 (.bin .add) [.t 64,.k (.i 1)],o 66 .nilchk 60,f 67 19 66,f 68 7 67,⟨none,.st none 1,[.t 68,.t 65],none⟩]) (.skip))<|.q [l 69 8 3 true 8,m 70 0,o 71 .nilchk 70,
 f 72 0 71,f 73 10 72,h 74 3 true 73,c 75 354 [.t 74,.k (.i 46)],m 76 10,s 8 3 8 69,s 9 3 9 75,m 10 76]<|.ret) (.q [
 ⟨some 78,.pur (.bin .eql),[.t 12,.k (.s ⟨#[115,112,97,107,101]⟩)],none⟩,m 77 78]<|.cond (.t 77) (.q [m 79 0,o 80 .nilchk 79,f 81 33 80,h 82 3 true 81,m 83 0,o 84 .nilchk 83,
 f 85 0 84,f 86 4 85,h 87 3 true 86,l 88 5 3 true 5,l 89 7 3 true 7,c 90 154 [.t 82,.t 87,.t 88,.t 89],e 91 0 90,e 92 1 90,
 e 93 2 90,s 8 3 8 91,s 9 3 9 92,m 10 93]<|.ret) (.skip)))))<|.q [l 94 8 3 true 8,l 95 9 3 true 9,s 8 3 8 94,s 9 3 9 95,
 i 10 2]<|.ret
def zbm:zd:=⟨96,zdg,[.cell 8 3 true,.cell 9 3 true,.tmp 10]⟩
def zko:ACode:=.q [p 13 (.bin .lss) [.t 12,.t 11]]<|.seq (.cond (.t 13) (.skip) (.exit 0))<|.seq (.block 1 (.q [m 14 12,p 15 (.iaddr 3) [.t 10,.t 12],h 16 3 true 15,⟨some 4,.alloc .reg Z,[],none⟩,m 3 14,
 s 4 3 4 16]<|.ops [f 17 2 1,l 18 1 1 false 17,m 19 3,l 20 4 3 true 4,c 21 254 [.t 20],p 22 (.iaddr 3) [.t 18,.t 19],⟨none,.st none 3,[.t 22,.t 21],none⟩]))<|.ops [
 p 23 (.bin .add) [.t 12,.k (.i 1)],m 12 23]
def zpE:ACode:=.q [x 1 0,⟨some 2,.alloc .reg Z,[],none⟩]<|.q [f 5 2 1,l 6 1 1 false 5,c 7 256 [.t 6],f 8 2 1,s 1 1 8 7]<|.seq (.q [
 f 9 2 1,l 10 1 1 false 9,o 11 .lenL 10,i 12 0]<|.block 0 (.loop [3,4,13,14,15,16,17,18,19,20,21,22,23] [4] zko))<|.seq (.q [f 24 0 1,l 25 1 1 false 24,
 p 26 (.bin .eql) [.t 25,.k (.i 9)],m 27 26,w 28 (.faddr 2) [.t 1] 27 true,u 29 (.ld (some 1) 1 false) [.t 28] 27 true,w 30 .lenL [.t 29] 27 true,w 31 (.bin .eql) [.t 30,.k (.i 2)] 27 true,p 32 .pick [.t 27,.t 31,.k (.b false)],
 m 33 32,w 34 (.faddr 2) [.t 1] 33 true,u 35 (.ld (some 1) 1 false) [.t 34] 33 true,w 36 (.iaddr 3) [.t 35,.k (.i 1)] 33 true,u 37 (.ld none 3 true) [.t 36] 33 true,w 38 (.faddr 2) [.t 1] 33 true,u 39 (.ld (some 1) 1 false) [.t 38] 33 true,
 w 40 (.iaddr 3) [.t 39,.k (.i 0)] 33 true,u 41 (.ld none 3 true) [.t 40] 33 true,u 42 (.call 229) [.t 37,.t 41] 33 true,p 43 .pick [.t 33,.t 42,.k (.b false)]]<|.cond (.t 43) (.ops [f 44 2 1,l 45 1 1 false 44,
 c 46 355 [.t 45]]) (.skip))<|.q [l 47 1 3 true 1,s 2 3 2 47]<|.ret
def zhH:zd:=⟨48,zpE,[.cell 2 3 true]⟩
def zq8:ACode:=.q [k 2 N]<|.q [m 3 0,c 4 230 [.t 3],o 5 .nilchk 4,f 6 0 5,h 7 1 false 6,m 2 7]<|.ret
def zi9:zd:=⟨8,zq8,[.tmp 2]⟩
def zlI:ACode:=.q [p 13 (.bin .lss) [.t 12,.t 11]]<|.seq (.cond (.t 13) (.skip) (.exit 0))<|.seq (.block 1 (.q [p 14 (.iaddr 3) [.t 10,.t 12],h 15 3 true 14,⟨some 5,.alloc .reg Z,[],none⟩,s 5 3 5 15]<|.ops [
 m 16 3,l 17 5 3 true 5,c 18 327 [.t 16,.t 17]]))<|.ops [p 19 (.bin .add) [.t 12,.k (.i 1)],m 12 19]
def zso:ACode:=.q [k 2 (.sc (.pointer none))]<|.q [⟨some 6,.mkmap,[],none⟩,⟨some 7,.mkmap,[],none⟩,⟨some 8,.pur (.build [N,.sc (.map none),.sc (.map none)] [(1,1),(2,1)]),[.t 6,.t 7],none⟩,⟨some 9,.box .heap,[.t 8],none⟩,m 3 9]<|.seq (.q [
 m 10 0,o 11 .lenL 10,i 12 0]<|.block 0 (.loop [5,13,14,15,16,17,18,19] [5] zlI))<|.q [m 20 3,m 2 20]<|.ret
def zhh:zd:=⟨21,zso,[.tmp 2]⟩
def zrd:ACode:=.q [o 1 .ibox 0,k 2 (.sc (.map none))]<|.q [o 4 (.mkfn 356 0) 1,m 3 4]<|.q [⟨some 5,.mkmap,[],none⟩,o 6 (.mkfn 358 0) 1,⟨none,.mapset false,[.t 5,.k (.i 4),.t 6],none⟩,m 7 3,
 ⟨none,.mapset false,[.t 5,.k (.i 5),.t 7],none⟩,m 8 3,⟨none,.mapset false,[.t 5,.k (.i 6),.t 8],none⟩,m 9 3,⟨none,.mapset false,[.t 5,.k (.i 7),.t 9],none⟩,m 10 3,⟨none,.mapset false,[.t 5,.k (.i 8),.t 10],none⟩,o 11 (.mkfn 359 0) 1,
 ⟨none,.mapset false,[.t 5,.k (.i 9),.t 11],none⟩,o 12 (.mkfn 361 0) 1,⟨none,.mapset false,[.t 5,.k (.i 10),.t 12],none⟩,m 13 5,m 2 13]<|.ret
def zjd:zd:=⟨14,zrd,[.tmp 2]⟩
def zrf:ACode:=.q [x 2 0,⟨some 4,.alloc .reg Z,[],none⟩]<|.q [m 5 1,l 6 2 3 true 2,⟨some 7,.pur (.buildSl 3 1 Z [0]),[.t 6],none⟩,
 ⟨some 8,.pur (.build Z [(0,1),(1,1),(2,1)]),[.k (.i 7),.t 5,.t 7],none⟩,s 4 3 4 8]<|.ret
def ziR:zd:=⟨9,zrf,[.cell 4 3 true]⟩
def zsG:ACode:=.q [x 3 0,x 5 2,⟨some 6,.alloc .reg Z,[],none⟩]<|.q [l 7 3 3 true 3,m 8 1,c 9 354 [.t 7,.t 8],l 10 5 3 true 5,c 11 128 [.t 9,.t 10],
 s 6 3 6 11]<|.ret
def ziM:zd:=⟨12,zsG,[.cell 6 3 true]⟩
def znn:ACode:=.q [x 2 0,x 3 1,⟨some 4,.alloc .reg Z,[],none⟩]<|.q [l 5 2 3 true 2,l 6 3 3 true 3,
 ⟨some 7,.call 350,[.t 5,.t 6,.k (.s ⟨#[99,108,105,101,110,116,99,104,97,108,108,101,110,103,101,97,114,109,111,114]⟩),.k (.s ⟨#[99,104,97,108,108,101,110,103,101,108,111,110,103,116,101,114,109]⟩)],none⟩,s 4 3 4 7]<|.ret
def zha:zd:=⟨8,znn,[.cell 4 3 true]⟩
def zfD:ACode:=.q [x 3 0,x 5 2,⟨some 6,.alloc .reg Z,[],none⟩,i 7 0]<|.seq (.block 0 (.q [f 9 0 5,l 10 5 1 false 9,p 11 (.bin .neq) [.t 10,.k (.i 4)],
 m 12 11,w 13 (.faddr 2) [.t 5] 12 false,u 14 (.ld (some 5) 1 false) [.t 13] 12 false,w 15 .lenL [.t 14] 12 false,w 16 (.bin .neq) [.t 15,.k (.i 2)] 12 false,p 17 .pick [.t 12,.k (.b true),.t 16],m 8 17]<|.cond (.t 8) (.q [
 ⟨some 18,.pur (.build Z []),[],none⟩,s 6 3 6 18,i 7 2]<|.ret) (.q [f 20 2 5,l 21 5 1 false 20,p 22 (.iaddr 3) [.t 21,.k (.i 0)],h 23 3 true 22,
 l 24 3 3 true 3,m 25 1,c 26 354 [.t 24,.t 25],c 27 118 [.t 23,.t 26],o 28 (.un .not) 27,m 19 28]<|.cond (.t 19) (.q [⟨some 29,.pur (.build Z []),[],none⟩,s 6 3 6 29,
 i 7 4]<|.ret) (.skip))))<|.q [f 30 2 5,l 31 5 1 false 30,p 32 (.iaddr 3) [.t 31,.k (.i 1)],h 33 3 true 32,s 6 3 6 33,i 7 0]<|.ret
def zcO:zd:=⟨34,zfD,[.cell 6 3 true,.tmp 7]⟩
def zop:ACode:=.q [x 1 0,⟨some 2,.alloc .reg Z,[],none⟩]<|.q [l 3 1 3 true 1,⟨some 4,.pur (.buildSl 3 1 Z [0]),[.t 3],none⟩,⟨some 5,.pur (.build Z [(0,1),(2,1)]),[.k (.i 6),.t 4],none⟩,
 s 2 3 2 5]<|.ret
def zjH:zd:=⟨6,zop,[.cell 2 3 true]⟩
def zrv:ACode:=.q [x 3 0,x 5 2,⟨some 6,.alloc .reg Z,[],none⟩]<|.q [l 7 3 3 true 3,m 8 1,c 9 336 [.t 7,.t 8],l 10 5 3 true 5,c 11 362 [.t 9,.t 10],
 s 6 3 6 11]<|.ret
def zgO:zd:=⟨12,zrv,[.cell 6 3 true]⟩
def zon:ACode:=.q [x 2 0,x 3 1,⟨some 4,.alloc .reg Z,[],none⟩]<|.q [l 5 2 3 true 2,l 6 3 3 true 3,
 ⟨some 7,.call 293,[.t 5,.t 6,.k (.s ⟨#[99,108,105,101,110,116,99,104,97,108,108,101,110,103,101,97,114,109,111,114]⟩),.k (.s ⟨#[99,104,97,108,108,101,110,103,101,108,111,110,103,116,101,114,109]⟩)],none⟩,s 4 3 4 7]<|.ret
def zgi:zd:=⟨8,zon,[.cell 4 3 true]⟩
def zfi:ACode:=.q [x 3 0,x 5 2,⟨some 6,.alloc .reg Z,[],none⟩,i 7 0]<|.seq (.q [f 9 0 5,l 10 5 1 false 9,p 11 (.bin .neq) [.t 10,.k (.i 4)],
 m 12 11,w 13 (.faddr 2) [.t 5] 12 false,u 14 (.ld (some 5) 1 false) [.t 13] 12 false,w 15 .lenL [.t 14] 12 false,w 16 (.bin .neq) [.t 15,.k (.i 2)] 12 false,p 17 .pick [.t 12,.k (.b true),.t 16]]<|.cond (.t 17) (.q [
 ⟨some 18,.pur (.build Z []),[],none⟩,s 6 3 6 18,i 7 2]<|.ret) (.skip))<|.q [f 19 2 5,l 20 5 1 false 19,p 21 (.iaddr 3) [.t 20,.k (.i 0)],h 22 3 true 21,
 l 23 3 3 true 3,m 24 1,c 25 336 [.t 23,.t 24],c 26 61 [.t 22,.t 25],m 8 26]<|.seq (.q [m 27 8,o 28 (.un .not) 27]<|.cond (.t 28) (.q [
 ⟨some 29,.pur (.build Z []),[],none⟩,s 6 3 6 29,i 7 4]<|.ret) (.skip))<|.q [f 30 2 5,l 31 5 1 false 30,p 32 (.iaddr 3) [.t 31,.k (.i 1)],h 33 3 true 32,
 s 6 3 6 33,i 7 0]<|.ret
def zbY:zd:=⟨34,zfi,[.cell 6 3 true,.tmp 7]⟩
def zri:ACode:=.q [x 2 0,x 3 1,⟨some 4,.alloc .reg Z,[],none⟩]<|.q [l 5 2 3 true 2,c 6 360 [.t 5],l 7 3 3 true 3,c 8 363 [.t 7],c 9 125 [.t 6,.t 8],
 s 4 3 4 9]<|.ret
def zgS:zd:=⟨10,zri,[.cell 4 3 true]⟩
def zbL:ACode:=.q [x 2 0,x 3 1,⟨some 4,.alloc .reg Z,[],none⟩,i 5 0]<|.seq (.q [f 7 0 2,l 8 2 1 false 7,p 9 (.bin .neq) [.t 8,.k (.i 10)],
 m 10 9,w 11 (.faddr 2) [.t 2] 10 false,u 12 (.ld (some 2) 1 false) [.t 11] 10 false,w 13 .lenL [.t 12] 10 false,w 14 (.bin .neq) [.t 13,.k (.i 2)] 10 false,p 15 .pick [.t 10,.k (.b true),.t 14]]<|.cond (.t 15) (.q [
 ⟨some 16,.pur (.build Z []),[],none⟩,s 4 3 4 16,i 5 2]<|.ret) (.skip))<|.q [f 17 2 2,l 18 2 1 false 17,p 19 (.iaddr 3) [.t 18,.k (.i 0)],h 20 3 true 19,
 ⟨some 6,.alloc .reg Z,[],none⟩,s 6 3 6 20]<|.seq (.block 0 (.q [f 22 0 6,l 23 6 1 false 22,p 24 (.bin .neq) [.t 23,.k (.i 8)],m 25 24,w 26 (.faddr 2) [.t 6] 25 false,
 u 27 (.ld (some 6) 1 false) [.t 26] 25 false,w 28 .lenL [.t 27] 25 false,w 29 (.bin .neq) [.t 28,.k (.i 1)] 25 false,p 30 .pick [.t 25,.k (.b true),.t 29],m 21 30]<|.cond (.t 21) (.q [⟨some 31,.pur (.build Z []),[],none⟩,
 s 4 3 4 31,i 5 2]<|.ret) (.q [f 33 2 2,l 34 2 1 false 33,p 35 (.iaddr 3) [.t 34,.k (.i 1)],h 36 3 true 35,l 37 3 3 true 3,c 38 363 [.t 37],
 c 39 118 [.t 36,.t 38],o 40 (.un .not) 39,m 32 40]<|.cond (.t 32) (.q [⟨some 41,.pur (.build Z []),[],none⟩,s 4 3 4 41,i 5 6]<|.ret) (.skip))))<|.q [f 42 2 6,
 l 43 6 1 false 42,p 44 (.iaddr 3) [.t 43,.k (.i 0)],h 45 3 true 44,s 4 3 4 45,i 5 0]<|.ret
def zaZ:zd:=⟨46,zbL,[.cell 4 3 true,.tmp 5]⟩
def znF:ACode:=.q [x 1 0,⟨some 2,.alloc .reg Z,[],none⟩]<|.q [l 3 1 18 true 1,c 4 272 [.t 3,.k (.i 1)],⟨some 5,.call 62,[.k (.s ⟨#[102,97,99,116,111,114]⟩),.k N],none⟩,c 6 261 [.t 4,.k (.i 60),.t 5],
 s 2 3 2 6]<|.ret
def zht:zd:=⟨7,znF,[.cell 2 3 true]⟩
def zoQ:ACode:=.q [x 2 0,⟨some 4,.alloc .reg Z,[],none⟩]<|.q [f 5 0 2,l 6 2 3 true 5,f 7 3 2,l 8 2 3 true 7,c 9 127 [.t 6,.t 8],
 f 10 6 2,l 11 2 3 true 10,c 12 363 [.t 11],f 13 9 2,l 14 2 3 true 13,f 15 12 2,l 16 2 3 true 15,f 17 15 2,l 18 2 3 true 17,
 c 19 124 [.t 18],m 20 1,c 21 364 [.t 9,.t 12,.t 14,.t 16,.t 19,.t 20],s 4 3 4 21]<|.ret
def ziZ:zd:=⟨22,zoQ,[.cell 4 3 true]⟩
def zos:ACode:=.q [x 2 0,⟨some 4,.alloc .reg Z,[],none⟩]<|.q [l 5 2 3 true 2,m 6 1,⟨some 7,.call 368,[.t 5,.k (.s ⟨#[111,116,112]⟩),.t 6],none⟩,s 4 3 4 7]<|.ret
def zjw:zd:=⟨8,zos,[.cell 4 3 true]⟩
def zta:ACode:=.q [x 1 0,⟨some 2,.alloc .reg Z,[],none⟩]<|.q [l 3 1 3 true 1,⟨some 4,.pur (.buildSl 3 1 Z [0]),[.t 3],none⟩,⟨some 5,.call 63,[.k (.s ⟨#[111,116,112]⟩),.t 4],none⟩,s 2 3 2 5]<|.ret
def f283:zd:=⟨6,zta,[.cell 2 3 true]⟩
def zt6:ACode:=.q [x 2 0,x 3 1,⟨some 4,.alloc .reg Z,[],none⟩]<|.q [l 5 2 3 true 2,l 6 3 3 true 3,⟨some 7,.pur (.buildSl 3 1 Z [0]),[.t 6],none⟩,
 ⟨some 8,.call 63,[.k (.s ⟨#[104,111,115,116]⟩),.t 7],none⟩,c 9 266 [.t 5,.k (.i 2),.t 8],s 4 3 4 9]<|.ret
def f286:zd:=⟨10,zt6,[.cell 4 3 true]⟩
def zn8:ACode:=.q [x 4 0,x 5 1,⟨some 8,.alloc .reg Z,[],none⟩]<|.q [l 9 4 3 true 4,m 10 2,⟨some 11,.pur (.bin .add),[.k (.s ⟨#[106,111,105,110,32]⟩),.t 10],none⟩,c 12 259 [.t 9,.t 11],
 l 13 5 3 true 5,m 14 3,⟨some 15,.pur (.bin .add),[.k (.s ⟨#[106,111,105,110,32]⟩),.t 14],none⟩,c 16 259 [.t 13,.t 15],⟨some 17,.pur (.buildSl 3 2 Z [0,1]),[.t 12,.t 16],none⟩,c 18 385 [.t 17],c 19 265 [.t 18],
 s 8 3 8 19]<|.ret
def zgK:zd:=⟨20,zn8,[.cell 8 3 true]⟩
def zmi:ACode:=.q [k 4 N]<|.seq (.q [m 5 1,p 6 (.bin .lss) [.t 5,.k (.i 0)]]<|.cond (.t 6) (.ops [⟨some 7,.bad,[],none⟩,⟨none,.bad,[],none⟩]) (.skip))<|.seq (.q [m 8 1,m 9 0,
 o 10 .cap 9,m 11 0,o 12 .lenL 11,p 13 (.bin .sub) [.t 10,.t 12],p 14 (.bin .sub) [.t 8,.t 13],m 1 14]<|.q [m 15 1,p 16 (.bin .gtr) [.t 15,.k (.i 0)]]<|.cond (.t 16) (.ops [
 m 17 0,m 18 0,o 19 .cap 18,p 20 (.sliceL 3 false true false) [.t 17,.t 19],m 21 1,⟨some 22,.appendZ 3 48 Z,[.t 20,.t 21],none⟩,m 23 0,o 24 .lenL 23,
 p 25 (.sliceL 3 false true false) [.t 22,.t 24],m 0 25]) (.skip))<|.q [m 26 0,m 4 26]<|.ret
def zeC:zd:=⟨27,zmi,[.tmp 4]⟩
def zl3:ACode:=.q [⟨some 4,.pur .mov,[.k E],none⟩,k 5 (.b false)]<|.seq (.q [m 6 0,m 7 1,c 8 398 [.t 6,.t 7],o 9 (.un .not) 8]<|.cond (.t 9) (.q [m 10 0,m 4 10,
 k 5 (.b false)]<|.ret) (.skip))<|.q [m 11 0,m 12 1,o 13 .lenS 12,p 14 (.sliceS true false) [.t 11,.t 13],m 4 14,k 5 (.b true)]<|.ret
def zeY:zd:=⟨15,zl3,[.tmp 4,.tmp 5]⟩
def zsd:ACode:=.q [x 2 0,⟨some 4,.alloc .reg Z,[],none⟩]<|.q [m 5 1,l 6 2 3 true 2,⟨some 7,.pur (.buildSl 3 1 Z [0]),[.t 6],none⟩,c 8 228 [.k (.i 7),.t 5,.t 7],
 s 4 3 4 8]<|.ret
def zg9:zd:=⟨9,zsd,[.cell 4 3 true]⟩
def zkX:ACode:=.seq (.q [m 11 6,f 12 2 2,l 13 2 1 false 12,o 14 .lenL 13,p 15 (.bin .lss) [.t 11,.t 14]]<|.cond (.t 15) (.skip) (.exit 0))<|.seq (.block 1 (.q [f 18 2 2,
 l 19 2 1 false 18,m 20 6,p 21 (.iaddr 3) [.t 19,.t 20],h 22 3 true 21,m 23 1,p 24 (.bin .sub) [.t 23,.k (.i 1)],c 25 314 [.t 22,.t 24],m 7 25]<|.ops [m 26 5,
 m 27 7,p 28 .max [.t 26,.t 27],m 5 28]))<|.ops [m 16 6,p 17 (.bin .add) [.t 16,.k (.i 1)],m 6 17]
def zhf:ACode:=.q [x 2 0,i 4 0]<|.seq (.q [m 8 1,p 9 (.bin .leq) [.t 8,.k (.i 1)]]<|.cond (.t 9) (.q [m 10 1,m 4 10]<|.ret) (.skip))<|.q [
 i 5 0]<|.seq (.q [i 6 0]<|.block 0 (.loop [7,11,12,13,14,15,16,17,18,19,20,21,22,23,24,25,26,27,28] [] zkX))<|.q [m 29 5,p 30 (.bin .add) [.t 29,.k (.i 1)],m 4 30]<|.ret
def zek:zd:=⟨31,zhf,[.tmp 4]⟩
def zfM:ACode:=.seq (.q [m 5 3,f 6 2 1,l 7 1 1 false 6,o 8 .lenL 7,p 9 (.bin .lss) [.t 5,.t 8]]<|.cond (.t 9) (.skip) (.exit 0))<|.seq (.block 1 (.q [f 12 2 1,
 l 13 1 1 false 12,m 14 3,p 15 (.iaddr 3) [.t 13,.t 14],h 16 3 true 15,c 17 316 [.t 16],m 4 17]<|.q [m 18 4,o 19 (.un .not) 18]<|.cond (.t 19) (.q [
 k 2 (.b false)]<|.ret) (.skip)))<|.ops [m 10 3,p 11 (.bin .add) [.t 10,.k (.i 1)],m 3 11]
def zpg:ACode:=.q [x 1 0,k 2 (.b false)]<|.seq (.q [i 3 0]<|.block 0 (.loop [2,4,5,6,7,8,9,10,11,12,13,14,15,16,17,18,19] [] zfM))<|.q [f 20 0 1,l 21 1 1 false 20,
 p 22 (.bin .neq) [.t 21,.k (.i 9)],m 23 22,w 24 (.faddr 2) [.t 1] 23 false,u 25 (.ld (some 1) 1 false) [.t 24] 23 false,w 26 (.iaddr 3) [.t 25,.k (.i 0)] 23 false,u 27 (.ld none 3 true) [.t 26] 23 false,u 28 (.call 243) [.t 27] 23 false,
 w 29 (.faddr 2) [.t 1] 23 false,u 30 (.ld (some 1) 1 false) [.t 29] 23 false,w 31 (.iaddr 3) [.t 30,.k (.i 1)] 23 false,u 32 (.ld none 3 true) [.t 31] 23 false,u 33 (.call 243) [.t 32] 23 false,w 34 (.bin .leq) [.t 28,.t 33] 23 false,
 p 35 .pick [.t 23,.k (.b true),.t 34],m 2 35]<|.ret
def f316:zd:=⟨36,zpg,[.tmp 2]⟩
end Abs
