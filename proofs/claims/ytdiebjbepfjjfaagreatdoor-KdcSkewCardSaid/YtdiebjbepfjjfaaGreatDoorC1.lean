/- The code of functions (printed by gen/Gen.lean). -/
import Derived.Test.YtdiebjbepfjjfaaGreatDoorE3
set_option linter.unusedVariables false
set_option linter.unusedSimpArgs false
set_option linter.unusedSectionVars false
namespace Abs
open Go I
def ziv:ACode:=.q [k 4 (.b false)]<|.q [c 14 163 [],m 5 14]<|.q [⟨some 16,.pur (.buildSl 1 1 [E] [0]),[.k (.s ⟨#[99,104,97,108,108,101,110,103,101]⟩)],none⟩,m 17 1,c 18 165 [.t 17],
 c 19 164 [.t 16,.t 18,.k (.i 16)],m 15 19,e 20 0 15,e 21 1 15,e 22 2 15,m 6 20,m 7 21,m 8 22]<|.seq (.q [m 23 5,
 o 24 (.un .not) 23,m 25 24,w 26 .mov [.t 8] 25 false,w 27 (.un .not) [.t 26] 25 false,p 28 .pick [.t 25,.k (.b true),.t 27]]<|.cond (.t 28) (.q [k 4 (.b false)]<|.ret) (.skip))<|.q [m 29 6,
 m 30 7,⟨some 31,.pur (.build [.sc (.pointer none),.sc (.pointer none),N,.i 0,.i 0,E,N] [(0,1),(1,1),(3,1)]),[.t 29,.t 30,.k (.i 50)],none⟩,⟨some 32,.box .heap,[.t 31],none⟩,m 9 32]<|.q [m 33 9,
 ⟨some 34,.pur (.build [.i 0,.i 0,.i 0,.i 0,.i 0,.i 0,.i 0,.i 0,E,N,.b false] [(4,1)]),[.k (.i 7)],none⟩,c 35 166 [.t 33,.t 34]]<|.q [m 36 0,p 37 (.bin .and) [.t 36,.k (.i 15)],p 38 (.bin .sub) [.t 37,.k (.i 8)],
 m 10 38]<|.q [m 39 6,m 40 9,m 41 0,⟨some 42,.pur (.build [.i 0,.i 0,.i 0,.i 0,.i 0,.i 0,.i 0,.i 0,E,N,.b false] [(2,1),(3,1)]),[.k (.i 1),.t 41],none⟩,c 43 167 [.t 40,.t 42],
 c 44 168 [.t 39,.t 43,.k (.i 50)],c 45 170 [.t 44],m 11 45]<|.q [m 46 10,p 47 (.bin .geq) [.t 46,.k (.i (-5))],m 48 47,w 49 .mov [.t 10] 48 true,w 50 (.bin .leq) [.t 49,.k (.i 5)] 48 true,
 p 51 .pick [.t 48,.t 50,.k (.b false)],m 12 51]<|.q [m 52 6,c 53 119 [.t 52],m 13 53]<|.q [m 54 11,p 55 (.bin .eql) [.t 54,.k (.i 0)],m 56 12,
 p 57 (.eqB false) [.t 55,.t 56],m 58 57,w 59 .mov [.t 12] 58 true,w 60 .mov [.t 59] 58 true,w 61 .mov [.t 11] 60 false,w 62 (.bin .eql) [.t 61,.k (.i 5)] 60 false,w 63 .pick [.t 60,.k (.b true),.t 62] 58 true,
 p 64 .pick [.t 58,.t 63,.k (.b false)],m 65 64,w 66 .mov [.t 6] 65 true,u 67 (.call 102) [.t 66] 65 true,w 68 .lenL [.t 67] 65 true,w 69 (.bin .eql) [.t 68,.k (.i 1)] 65 true,w 70 .mov [.t 12] 65 true,
 w 71 (.eqB false) [.t 69,.t 70] 65 true,p 72 .pick [.t 65,.t 71,.k (.b false)],m 73 72,w 74 .mov [.t 13] 73 true,w 75 .lenL [.t 74] 73 true,w 76 (.bin .eql) [.t 75,.k (.i 2)] 73 true,p 77 .pick [.t 73,.t 76,.k (.b false)],
 m 78 77,w 79 .mov [.t 13] 78 true,w 80 (.iaddr 15) [.t 79,.k (.i 0)] 78 true,w 81 (.faddr 14) [.t 80] 78 true,u 82 (.ld none 1 false) [.t 81] 78 true,w 83 (.bin .eql) [.t 82,.k (.i 0)] 78 true,p 84 .pick [.t 78,.t 83,.k (.b false)],
 m 4 84]<|.ret
def f42:za:=⟨85,ziv,[.tmp 4]⟩
def zqU:ACode:=.q [k 2 (.sc (.pointer none))]<|.q [m 3 0,p 4 .max [.t 3,.k (.i 0)],⟨some 5,.mkmap,[],none⟩,⟨some 6,.pur (.build [.i 0,.sc (.map none)] [(0,1),(1,1)]),[.t 4,.t 5],none⟩,⟨some 7,.box .heap,[.t 6],none⟩,m 2 7]<|.ret
def f50:za:=⟨8,zqU,[.tmp 2]⟩
def zaI:ACode:=.q [i 9 5]<|.q [i 10 0]<|.q [k 11 (.b false)]<|.seq (.q [m 12 2,m 13 3,p 14 (.bin .leq) [.t 12,.t 13]]<|.cond (.t 14) (.goto 0) (.skip))<|.q [
 m 15 0,m 16 3,c 17 53 [.t 15,.t 16]]<|.seq (.q [m 19 0,o 20 .nilchk 19,f 21 1 20,h 22 1 false 21,m 23 1,⟨some 24,.lookup true (.i 0) true,[.t 22,.t 23],none⟩,
 m 18 24,e 25 0 18,e 26 1 18,m 10 25,m 11 26]<|.q [m 27 11]<|.cond (.t 27) (.q [m 28 0,o 29 .nilchk 28,
 f 30 1 29,h 31 1 false 30,m 32 1,m 33 10,m 34 2,p 35 .max [.t 33,.t 34],⟨none,.mapset true,[.t 31,.t 32,.t 35],none⟩]<|.q [i 9 9]<|.goto 0) (.skip))<|.seq (.q [
 i 9 10]<|.q [m 36 0,o 37 .nilchk 36,f 38 1 37,h 39 1 false 38,⟨some 40,.lenM,[.t 39],none⟩,m 41 0,o 42 .nilchk 41,f 43 0 42,
 h 44 1 false 43,p 45 (.bin .geq) [.t 40,.t 44]]<|.cond (.t 45) (.goto 0) (.skip))<|.q [m 46 0,o 47 .nilchk 46,f 48 1 47,h 49 1 false 48,m 50 1,m 51 2,
 ⟨none,.mapset true,[.t 49,.t 50,.t 51],none⟩]<|.q [i 9 0]<|.seq (.label 0)<|.q [m 52 9,m 8 52]<|.ret
def zAz:ACode:=.q [i 8 0]<|.scope zaI zaI
def f51:za:=⟨53,zAz,[.tmp 8]⟩
def zlv:ACode:=.q [k 2 (.sc (.pointer none))]<|.seq (.q [m 3 0,p 4 (.bin .lss) [.t 3,.k (.i 0)]]<|.cond (.t 4) (.ops [i 0 0]) (.skip))<|.q [m 5 0,⟨some 6,.pur (.build [.i 0,N] [(0,1)]),[.t 5],none⟩,
 ⟨some 7,.box .heap,[.t 6],none⟩,m 2 7]<|.ret
def f54:za:=⟨8,zlv,[.tmp 2]⟩
def zcm:ACode:=.seq (.q [m 9 6,m 10 0,o 11 .nilchk 10,f 12 1 11,h 13 1 false 12,o 14 .lenL 13,p 15 (.bin .lss) [.t 9,.t 14]]<|.cond (.t 15) (.skip) (.exit 0))<|.seq (.block 1 (.q [
 m 18 0,o 19 .nilchk 18,f 20 1 19,h 21 1 false 20,m 22 6,p 23 (.iaddr 2) [.t 21,.t 22],f 24 1 23,h 25 1 false 24,m 26 1,
 p 27 (.bin .gtr) [.t 25,.t 26]]<|.cond (.t 27) (.ops [m 28 5,m 29 0,o 30 .nilchk 29,f 31 1 30,h 32 1 false 31,m 33 6,p 34 (.iaddr 2) [.t 32,.t 33],
 h 35 2 true 34,⟨some 36,.pur (.buildSl 2 1 [E,.i 0] [0]),[.t 35],none⟩,⟨some 37,.append 2 24,[.t 28,.t 36],none⟩,m 5 37]) (.skip)))<|.ops [m 16 6,p 17 (.bin .add) [.t 16,.k (.i 1)],m 6 17]
def zqV:ACode:=.q [i 4 0]<|.q [⟨some 8,.pur (.buildSl 2 0 [E,.i 0] []),[],none⟩,m 5 8]<|.seq (.q [i 6 0]<|
 .block 0 (.loop [9,10,11,12,13,14,15,16,17,18,19,20,21,22,23,24,25,26,27,28,29,30,31,32,33,34,35,36,37] [] zcm))<|.q [m 38 0,o 39 .nilchk 38,f 40 1 39,h 41 1 false 40,o 42 .lenL 41,m 43 5,
 o 44 .lenL 43,p 45 (.bin .sub) [.t 42,.t 44],m 7 45]<|.q [m 46 0,m 47 5,o 48 .nilchk 46,f 49 1 48,⟨none,.st none 1,[.t 49,.t 47],none⟩]<|.q [m 50 7,
 m 4 50]<|.ret
def f55:za:=⟨51,zqV,[.tmp 4]⟩
def zbs:ACode:=.seq (.q [m 18 10,m 19 0,o 20 .nilchk 19,f 21 1 20,h 22 1 false 21,o 23 .lenL 22,p 24 (.bin .lss) [.t 18,.t 23]]<|.cond (.t 24) (.skip) (.exit 0))<|
 .seq (.block 1 (.seq (.q [m 27 0,o 28 .nilchk 27,f 29 1 28,h 30 1 false 29,m 31 10,p 32 (.iaddr 2) [.t 30,.t 31],f 33 0 32,h 34 1 false 33,
 m 35 1,p 36 (.bin .eql) [.t 34,.t 35]]<|.cond (.t 36) (.q [m 37 0,o 38 .nilchk 37,f 39 1 38,h 40 1 false 39,m 41 10,m 42 0,o 43 .nilchk 42,
 f 44 1 43,h 45 1 false 44,m 46 10,p 47 (.iaddr 2) [.t 45,.t 46],f 48 1 47,h 49 1 false 48,m 50 2,p 51 .max [.t 49,.t 50],p 52 (.iaddr 2) [.t 40,.t 41],
 f 53 1 52,⟨none,.st none 1,[.t 53,.t 51],none⟩]<|.q [i 8 9]<|.ret) (.skip))<|.q [m 54 0,o 55 .nilchk 54,f 56 1 55,h 57 1 false 56,m 58 10,
 p 59 (.iaddr 2) [.t 57,.t 58],f 60 0 59,h 61 1 false 60,m 62 1,p 63 (.bin .lss) [.t 61,.t 62]]<|.cond (.t 63) (.ops [m 64 10,p 65 (.bin .add) [.t 64,.k (.i 1)],m 9 65]) (.skip)))<|.ops [
 m 25 10,p 26 (.bin .add) [.t 25,.k (.i 1)],m 10 26]
def zlw:ACode:=.q [i 8 0]<|.seq (.q [m 12 2,m 13 3,p 14 (.bin .leq) [.t 12,.t 13]]<|.cond (.t 14) (.q [i 8 5]<|.ret) (.skip))<|.q [m 15 0,m 16 3,
 c 17 55 [.t 15,.t 16]]<|.q [i 9 0]<|.seq (.q [i 10 0]<|.block 0 (.loop [8,18,19,20,21,22,23,24,25,26,27,28,29,30,31,32,33,34,35,36,37,38,39,40,41,42,43,44,45,46,47,48,49,50,51,52,53,54,55,56,57,58,59,60,61,62,63,64,65] [] zbs))<|
 .seq (.q [m 66 0,o 67 .nilchk 66,f 68 1 67,h 69 1 false 68,o 70 .lenL 69,m 71 0,o 72 .nilchk 71,f 73 0 72,h 74 1 false 73,
 p 75 (.bin .geq) [.t 70,.t 74]]<|.cond (.t 75) (.q [i 8 10]<|.ret) (.skip))<|.q [⟨some 76,.pur (.buildSl 2 0 [E,.i 0] []),[],none⟩,m 77 0,o 78 .nilchk 77,f 79 1 78,h 80 1 false 79,
 m 81 9,p 82 (.sliceL 2 false true false) [.t 80,.t 81],⟨some 83,.append 2 24,[.t 76,.t 82],none⟩,m 84 1,m 85 2,⟨some 86,.pur (.build [E,.i 0] [(0,1),(1,1)]),[.t 84,.t 85],none⟩,⟨some 87,.pur (.buildSl 2 1 [E,.i 0] [0]),[.t 86],none⟩,
 ⟨some 88,.append 2 24,[.t 83,.t 87],none⟩,m 11 88]<|.q [m 89 0,m 90 11,m 91 0,o 92 .nilchk 91,f 93 1 92,h 94 1 false 93,m 95 9,
 p 96 (.sliceL 2 true false false) [.t 94,.t 95],⟨some 97,.append 2 24,[.t 90,.t 96],none⟩,o 98 .nilchk 89,f 99 1 98,⟨none,.st none 1,[.t 99,.t 97],none⟩]<|.q [i 8 0]<|.ret
def f56:za:=⟨100,zlw,[.tmp 8]⟩
def zcn:ACode:=.seq (.q [m 28 5,f 29 2 2,l 30 2 1 false 29,o 31 .lenL 30,p 32 (.bin .lss) [.t 28,.t 31]]<|.cond (.t 32) (.skip) (.exit 0))<|.seq (.block 1 (.q [f 35 2 2,
 l 36 2 1 false 35,m 37 5,p 38 (.iaddr 3) [.t 36,.t 37],h 39 3 true 38,f 40 2 3,l 41 3 1 false 40,m 42 5,p 43 (.iaddr 3) [.t 41,.t 42],h 44 3 true 43,
 c 45 61 [.t 39,.t 44],m 6 45]<|.q [m 46 6,o 47 (.un .not) 46]<|.cond (.t 47) (.q [k 4 (.b false)]<|.ret) (.skip)))<|.ops [m 33 5,p 34 (.bin .add) [.t 33,.k (.i 1)],
 m 5 34]
def zff:ACode:=.q [x 2 0,x 3 1,k 4 (.b false)]<|.seq (.q [f 7 0 2,l 8 2 1 false 7,f 9 0 3,l 10 3 1 false 9,p 11 (.bin .neq) [.t 8,.t 10],
 m 12 11,w 13 (.faddr 1) [.t 2] 12 false,u 14 (.ld (some 2) 1 false) [.t 13] 12 false,w 15 (.faddr 1) [.t 3] 12 false,u 16 (.ld (some 3) 1 false) [.t 15] 12 false,w 17 (.bin .neq) [.t 14,.t 16] 12 false,p 18 .pick [.t 12,.k (.b true),.t 17],
 m 19 18,w 20 (.faddr 2) [.t 2] 19 false,u 21 (.ld (some 2) 1 false) [.t 20] 19 false,w 22 .lenL [.t 21] 19 false,w 23 (.faddr 2) [.t 3] 19 false,u 24 (.ld (some 3) 1 false) [.t 23] 19 false,w 25 .lenL [.t 24] 19 false,
 w 26 (.bin .neq) [.t 22,.t 25] 19 false,p 27 .pick [.t 19,.k (.b true),.t 26]]<|.cond (.t 27) (.q [k 4 (.b false)]<|.ret) (.skip))<|.seq (.q [i 5 0]<|
 .block 0 (.loop [4,6,28,29,30,31,32,33,34,35,36,37,38,39,40,41,42,43,44,45,46,47] [] zcn))<|.q [k 4 (.b true)]<|.ret
def f61:za:=⟨48,zff,[.tmp 4]⟩
def zqW:ACode:=.q [⟨some 4,.alloc .reg Z,[],none⟩]<|.q [m 5 0,c 6 192 [.t 5],⟨some 7,.pur (.buildSl 3 1 Z [0]),[.t 6],none⟩,m 8 1,p 9 (.buildSl 1 2 [N] [0,1]) [.t 7,.t 8],
 c 10 191 [.t 9],c 11 126 [.t 10],s 4 3 4 11]<|.ret
def f62:za:=⟨12,zqW,[.cell 4 3 true]⟩
def zlx:ACode:=.seq (.q [m 11 6,m 12 1,o 13 .lenL 12,p 14 (.bin .lss) [.t 11,.t 13]]<|.cond (.t 14) (.skip) (.exit 0))<|.seq (.block 1 (.ops [f 17 2 5,l 18 5 1 false 17,m 19 1,
 m 20 6,p 21 (.iaddr 3) [.t 19,.t 20],h 22 3 true 21,⟨some 23,.pur (.buildSl 3 1 Z [0]),[.t 22],none⟩,⟨some 24,.append 3 48,[.t 18,.t 23],none⟩,f 25 2 5,s 5 1 25 24]))<|.ops [m 15 6,
 p 16 (.bin .add) [.t 15,.k (.i 1)],m 6 16]
def zqX:ACode:=.q [⟨some 4,.alloc .reg Z,[],none⟩]<|.q [m 7 0,c 8 161 [.t 7],⟨some 9,.pur (.buildSl 3 1 Z [0]),[.t 8],none⟩,⟨some 10,.pur (.build Z [(0,1),(2,1)]),[.k (.i 3),.t 9],none⟩,
 ⟨some 5,.alloc .reg Z,[],none⟩,s 5 3 5 10]<|.seq (.q [i 6 0]<|.block 0 (.loop [11,12,13,14,15,16,17,18,19,20,21,22,23,24,25] [] zlx))<|.q [l 26 5 3 true 5,s 4 3 4 26]<|.ret
def f63:za:=⟨27,zqX,[.cell 4 3 true]⟩
def zqY:ACode:=.q [⟨some 2,.alloc .reg Z,[],none⟩]<|.q [m 3 0,⟨some 4,.pur (.bin .add),[.k (.s ⟨#[61]⟩),.t 3],none⟩,c 5 192 [.t 4],s 2 3 2 5]<|.ret
def f64:za:=⟨6,zqY,[.cell 2 3 true]⟩
def zqZ:ACode:=.q [⟨some 2,.alloc .reg Z,[],none⟩]<|.q [m 3 0,⟨some 4,.pur (.bin .add),[.k (.s ⟨#[61]⟩),.t 3],none⟩,c 5 161 [.t 4],s 2 3 2 5]<|.ret
def f65:za:=⟨6,zqZ,[.cell 2 3 true]⟩
def zq0:ACode:=.q [⟨some 2,.alloc .reg Z,[],none⟩]<|.q [m 3 0,c 4 193 [.t 3],c 5 64 [.t 4],s 2 3 2 5]<|.ret
def f66:za:=⟨6,zq0,[.cell 2 3 true]⟩
def zq1:ACode:=.q [⟨some 2,.alloc .reg Z,[],none⟩]<|.q [m 3 0,c 4 139 [.t 3],c 5 65 [.t 4],s 2 3 2 5]<|.ret
def f67:za:=⟨6,zq1,[.cell 2 3 true]⟩
def zly:ACode:=.q [p 9 (.bin .lss) [.t 8,.t 7]]<|.seq (.cond (.t 9) (.skip) (.exit 0))<|.seq (.block 1 (.q [p 10 (.iaddr 1) [.t 6,.t 8],h 11 1 false 10,m 5 11]<|.ops [m 12 3,m 13 5,
 c 14 64 [.t 13],⟨some 15,.pur (.buildSl 3 1 Z [0]),[.t 14],none⟩,⟨some 16,.append 3 48,[.t 12,.t 15],none⟩,m 3 16]))<|.ops [p 17 (.bin .add) [.t 8,.k (.i 1)],m 8 17]
def zq2:ACode:=.q [⟨some 2,.alloc .reg Z,[],none⟩]<|.q [k 3 N]<|.seq (.q [m 6 0,o 7 .lenL 6,i 8 0]<|.block 0 (.loop [5,9,10,11,12,13,14,15,16,17] [] zly))<|.q [
 m 18 3,c 19 126 [.t 18],s 2 3 2 19]<|.ret
def f68:za:=⟨20,zq2,[.cell 2 3 true]⟩
def zlz:ACode:=.seq (.q [m 6 4,m 7 0,o 8 .lenL 7,p 9 (.bin .lss) [.t 6,.t 8]]<|.cond (.t 9) (.skip) (.exit 0))<|.seq (.block 1 (.ops [f 12 2 3,l 13 3 1 false 12,m 14 0,
 m 15 4,p 16 (.iaddr 1) [.t 14,.t 15],h 17 1 false 16,c 18 65 [.t 17],⟨some 19,.pur (.buildSl 3 1 Z [0]),[.t 18],none⟩,⟨some 20,.append 3 48,[.t 13,.t 19],none⟩,f 21 2 3,s 3 1 21 20]))<|.ops [
 m 10 4,p 11 (.bin .add) [.t 10,.k (.i 1)],m 4 11]
def zq3:ACode:=.q [⟨some 2,.alloc .reg Z,[],none⟩]<|.q [⟨some 5,.pur (.build Z [(0,1)]),[.k (.i 3)],none⟩,⟨some 3,.alloc .reg Z,[],none⟩,s 3 3 3 5]<|.seq (.q [i 4 0]<|
 .block 0 (.loop [6,7,8,9,10,11,12,13,14,15,16,17,18,19,20,21] [] zlz))<|.q [l 22 3 3 true 3,s 2 3 2 22]<|.ret
def f69:za:=⟨23,zq3,[.cell 2 3 true]⟩
def zq4:ACode:=.q [x 3 0,x 4 1,x 5 2,⟨some 6,.alloc .reg Z,[],none⟩]<|.q [l 7 3 3 true 3,l 8 4 3 true 4,l 9 5 3 true 5,
 ⟨some 10,.pur (.buildSl 3 3 Z [0,1,2]),[.t 7,.t 8,.t 9],none⟩,⟨some 11,.call 63,[.k (.s ⟨#[97,115,45,114,101,113]⟩),.t 10],none⟩,s 6 3 6 11]<|.ret
def f71:za:=⟨12,zq4,[.cell 6 3 true]⟩
def zq5:ACode:=.q [⟨some 2,.alloc .reg Z,[],none⟩]<|.q [m 3 0,c 4 66 [.t 3],⟨some 5,.pur (.buildSl 3 1 Z [0]),[.t 4],none⟩,⟨some 6,.call 62,[.k (.s ⟨#[101,114,114,111,114]⟩),.t 5],none⟩,s 2 3 2 6]<|.ret
def f72:za:=⟨7,zq5,[.cell 2 3 true]⟩
def zq6:ACode:=.q [⟨some 2,.alloc .reg Z,[],none⟩]<|.q [m 3 0,c 4 67 [.t 3],⟨some 5,.pur (.buildSl 3 1 Z [0]),[.t 4],none⟩,⟨some 6,.call 63,[.k (.s ⟨#[101,114,114,111,114]⟩),.t 5],none⟩,s 2 3 2 6]<|.ret
def f73:za:=⟨7,zq6,[.cell 2 3 true]⟩
def zq7:ACode:=.q [⟨some 0,.alloc .reg Z,[],none⟩]<|.q [⟨some 1,.call 62,[.k (.s ⟨#[110,111,110,101]⟩),.k N],none⟩,s 0 3 0 1]<|.ret
def f74:za:=⟨2,zq7,[.cell 0 3 true]⟩
def zq8:ACode:=.q [⟨some 0,.alloc .reg Z,[],none⟩]<|.q [⟨some 1,.call 63,[.k (.s ⟨#[110,111,110,101]⟩),.k N],none⟩,s 0 3 0 1]<|.ret
def f75:za:=⟨2,zq8,[.cell 0 3 true]⟩
def zq9:ACode:=.q [⟨some 4,.alloc .reg Z,[],none⟩]<|.q [m 5 0,c 6 65 [.t 5],m 7 1,c 8 65 [.t 7],⟨some 9,.pur (.buildSl 3 2 Z [0,1]),[.t 6,.t 8],none⟩,
 ⟨some 10,.call 63,[.k (.s ⟨#[98,111,100,121]⟩),.t 9],none⟩,s 4 3 4 10]<|.ret
def f77:za:=⟨11,zq9,[.cell 4 3 true]⟩
def zfg:ACode:=.q [x 5 2,k 6 N,k 7 (.b false)]<|.seq (.q [m 8 0,⟨some 9,.pur (.bin .eql),[.t 8,.k E],none⟩,m 10 9,u 11 (.ld (some 5) 3 true) [.t 5] 10 false,
 u 12 (.call 81) [.t 11] 10 false,w 13 .mov [.t 0] 10 false,w 14 (.bin .neq) [.t 12,.t 13] 10 false,p 15 .pick [.t 10,.k (.b true),.t 14],m 16 15,w 17 (.faddr 2) [.t 5] 16 false,u 18 (.ld (some 5) 1 false) [.t 17] 16 false,
 w 19 .lenL [.t 18] 16 false,w 20 (.bin .sub) [.t 19,.k (.i 1)] 16 false,w 21 .mov [.t 1] 16 false,w 22 (.bin .neq) [.t 20,.t 21] 16 false,p 23 .pick [.t 16,.k (.b true),.t 22]]<|.cond (.t 23) (.q [k 6 N,
 k 7 (.b false)]<|.ret) (.skip))<|.q [f 24 2 5,l 25 5 1 false 24,o 26 .lenL 25,m 1 26]<|.q [f 27 2 5,l 28 5 1 false 27,m 29 1,
 m 30 1,p 31 (.sliceL 3 true true true) [.t 28,.k (.i 1),.t 29,.t 30],m 6 31,k 7 (.b true)]<|.ret
def f78:za:=⟨32,zfg,[.tmp 6,.tmp 7]⟩
def zfh:ACode:=.q [x 5 2,k 6 N,k 7 (.b false)]<|.q [l 9 5 3 true 5,c 10 82 [.t 9],m 8 10]<|.seq (.q [m 11 0,
 ⟨some 12,.pur (.bin .eql),[.t 11,.k E],none⟩,m 13 12,w 14 .mov [.t 8] 13 false,w 15 .mov [.t 0] 13 false,w 16 (.bin .neq) [.t 14,.t 15] 13 false,p 17 .pick [.t 13,.k (.b true),.t 16],m 18 17,
 w 19 (.faddr 2) [.t 5] 18 false,u 20 (.ld (some 5) 1 false) [.t 19] 18 false,w 21 .lenL [.t 20] 18 false,w 22 .mov [.t 1] 18 false,w 23 (.bin .add) [.t 22,.k (.i 1)] 18 false,w 24 (.bin .neq) [.t 21,.t 23] 18 false,
 p 25 .pick [.t 18,.k (.b true),.t 24]]<|.cond (.t 25) (.q [k 6 N,k 7 (.b false)]<|.ret) (.skip))<|.q [f 26 2 5,l 27 5 1 false 26,p 28 (.sliceL 3 true false false) [.t 27,.k (.i 1)],
 m 6 28,k 7 (.b true)]<|.ret
def f79:za:=⟨29,zfh,[.tmp 6,.tmp 7]⟩
def zdu:ACode:=.q [x 1 0,⟨some 2,.pur .mov,[.k E],none⟩]<|.seq (.q [f 5 0 1,l 6 1 1 false 5,p 7 (.bin .eql) [.t 6,.k (.i 3)],m 8 7,w 9 (.faddr 1) [.t 1] 8 true,
 u 10 (.ld (some 1) 1 false) [.t 9] 8 true,⟨some 11,.pur (.bin .eql),[.t 10,.k E],some (8,true)⟩,p 12 .pick [.t 8,.t 11,.k (.b false)],m 13 12,w 14 (.faddr 2) [.t 1] 13 true,u 15 (.ld (some 1) 1 false) [.t 14] 13 true,w 16 .lenL [.t 15] 13 true,
 w 17 (.bin .gtr) [.t 16,.k (.i 0)] 13 true,p 18 .pick [.t 13,.t 17,.k (.b false)]]<|.cond (.t 18) (.q [f 20 2 1,l 21 1 1 false 20,p 22 (.iaddr 3) [.t 21,.k (.i 0)],h 23 3 true 22,c 24 194 [.t 23],
 m 19 24,e 25 0 19,e 26 1 19,m 3 25,m 4 26]<|.q [m 27 4]<|.cond (.t 27) (.q [m 28 3,m 2 28]<|.ret) (.skip)) (.skip))<|.q [
 ⟨some 2,.pur .mov,[.k E],none⟩]<|.ret
def f81:za:=⟨29,zdu,[.tmp 2]⟩
def zco:ACode:=.q [x 1 0,⟨some 2,.pur .mov,[.k E],none⟩]<|.seq (.q [f 3 0 1,l 4 1 1 false 3,p 5 (.bin .neq) [.t 4,.k (.i 3)],m 6 5,w 7 (.faddr 1) [.t 1] 6 false,
 u 8 (.ld (some 1) 1 false) [.t 7] 6 false,⟨some 9,.pur (.bin .neq),[.t 8,.k E],some (6,false)⟩,p 10 .pick [.t 6,.k (.b true),.t 9],m 11 10,w 12 (.faddr 2) [.t 1] 11 false,u 13 (.ld (some 1) 1 false) [.t 12] 11 false,w 14 .lenL [.t 13] 11 false,
 w 15 (.bin .eql) [.t 14,.k (.i 0)] 11 false,p 16 .pick [.t 11,.k (.b true),.t 15],m 17 16,w 18 (.faddr 2) [.t 1] 17 false,u 19 (.ld (some 1) 1 false) [.t 18] 17 false,w 20 (.iaddr 3) [.t 19,.k (.i 0)] 17 false,
 w 21 (.faddr 0) [.t 20] 17 false,u 22 (.ld none 1 false) [.t 21] 17 false,w 23 (.bin .neq) [.t 22,.k (.i 1)] 17 false,p 24 .pick [.t 17,.k (.b true),.t 23],m 25 24,w 26 (.faddr 2) [.t 1] 25 false,u 27 (.ld (some 1) 1 false) [.t 26] 25 false,
 w 28 (.iaddr 3) [.t 27,.k (.i 0)] 25 false,w 29 (.faddr 2) [.t 28] 25 false,u 30 (.ld none 1 false) [.t 29] 25 false,w 31 .lenL [.t 30] 25 false,w 32 (.bin .gtr) [.t 31,.k (.i 0)] 25 false,p 33 .pick [.t 25,.k (.b true),.t 32]]<|.cond (.t 33) (.q [
 ⟨some 2,.pur .mov,[.k E],none⟩]<|.ret) (.skip))<|.q [f 34 2 1,l 35 1 1 false 34,p 36 (.iaddr 3) [.t 35,.k (.i 0)],f 37 1 36,h 38 1 false 37,m 2 38]<|.ret
def f82:za:=⟨39,zco,[.tmp 2]⟩
def zra:ACode:=.q [x 1 0,k 2 (.b false)]<|.q [l 6 1 3 true 1,⟨some 7,.call 78,[.k (.s ⟨#[110,111,110,101]⟩),.k (.i 0),.t 6],none⟩,m 5 7,e 8 0 5,e 9 1 5,
 m 3 8,m 4 9]<|.q [m 10 4,m 2 10]<|.ret
def f83:za:=⟨11,zra,[.tmp 2]⟩
def zrb:ACode:=.q [x 1 0,k 2 (.b false)]<|.q [l 6 1 3 true 1,⟨some 7,.call 79,[.k (.s ⟨#[110,111,110,101]⟩),.k (.i 0),.t 6],none⟩,m 5 7,e 8 0 5,e 9 1 5,
 m 3 8,m 4 9]<|.q [m 10 4,m 2 10]<|.ret
def f84:za:=⟨11,zrb,[.tmp 2]⟩
def zfi:ACode:=.q [x 1 0,⟨some 2,.pur .mov,[.k E],none⟩,k 3 (.b false)]<|.q [l 8 1 3 true 1,c 9 194 [.t 8],m 7 9,e 10 0 7,e 11 1 7,
 m 4 10,m 5 11]<|.q [m 13 4,⟨some 14,.call 195,[.t 13,.k (.s ⟨#[61]⟩)],none⟩,m 12 14,e 15 0 12,e 16 1 12,m 4 15,m 6 16]<|.seq (.q [
 m 17 5,o 18 (.un .not) 17,m 19 18,w 20 .mov [.t 6] 19 false,w 21 (.un .not) [.t 20] 19 false,p 22 .pick [.t 19,.k (.b true),.t 21]]<|.cond (.t 22) (.q [⟨some 2,.pur .mov,[.k E],none⟩,
 k 3 (.b false)]<|.ret) (.skip))<|.q [m 23 4,m 2 23,k 3 (.b true)]<|.ret
def f85:za:=⟨24,zfi,[.tmp 2,.tmp 3]⟩
def zdv:ACode:=.q [x 1 0,⟨some 2,.pur .mov,[.k E],none⟩,k 3 (.b false)]<|.seq (.q [f 4 0 1,l 5 1 1 false 4,p 6 (.bin .neq) [.t 5,.k (.i 1)],m 7 6,
 w 8 (.faddr 2) [.t 1] 7 false,u 9 (.ld (some 1) 1 false) [.t 8] 7 false,w 10 .lenL [.t 9] 7 false,w 11 (.bin .gtr) [.t 10,.k (.i 0)] 7 false,p 12 .pick [.t 7,.k (.b true),.t 11],m 13 12,w 14 (.faddr 1) [.t 1] 13 false,
 u 15 (.ld (some 1) 1 false) [.t 14] 13 false,⟨some 16,.pur (.bin .eql),[.t 15,.k E],some (13,false)⟩,p 17 .pick [.t 13,.k (.b true),.t 16],m 18 17,w 19 (.faddr 1) [.t 1] 18 false,u 20 (.ld (some 1) 1 false) [.t 19] 18 false,
 w 21 .indexS [.t 20,.k (.i 0)] 18 false,w 22 (.bin .neq) [.t 21,.k (.sc (.int .u8 (61)))] 18 false,p 23 .pick [.t 18,.k (.b true),.t 22]]<|.cond (.t 23) (.q [⟨some 2,.pur .mov,[.k E],none⟩,k 3 (.b false)]<|.ret) (.skip))<|.q [
 f 24 1 1,l 25 1 1 false 24,p 26 (.sliceS true false) [.t 25,.k (.i 1)],m 2 26,k 3 (.b true)]<|.ret
def f86:za:=⟨27,zdv,[.tmp 2,.tmp 3]⟩
def zcp:ACode:=.q [x 1 0,i 2 0,k 3 (.b false)]<|.q [l 9 1 3 true 1,c 10 85 [.t 9],m 8 10,e 11 0 8,e 12 1 8,
 m 4 11,m 5 12]<|.q [m 14 4,c 15 196 [.t 14],m 13 15,e 16 0 13,e 17 1 13,m 6 16,m 7 17]<|.seq (.q [
 m 18 5,o 19 (.un .not) 18,m 20 19,w 21 .mov [.t 7] 20 false,w 22 (.nilI true) [.t 21] 20 false,p 23 .pick [.t 20,.k (.b true),.t 22],m 24 23,w 25 .mov [.t 4] 24 false,
 w 26 .lenS [.t 25] 24 false,w 27 (.bin .gtr) [.t 26,.k (.i 18)] 24 false,p 28 .pick [.t 24,.k (.b true),.t 27],m 29 28,w 30 .mov [.t 6] 29 false,u 31 (.call 193) [.t 30] 29 false,w 32 .mov [.t 4] 29 false,
 w 33 (.bin .neq) [.t 31,.t 32] 29 false,p 34 .pick [.t 29,.k (.b true),.t 33]]<|.cond (.t 34) (.q [i 2 0,k 3 (.b false)]<|.ret) (.skip))<|.q [m 35 6,m 2 35,k 3 (.b true)]<|.ret
def f87:za:=⟨36,zcp,[.tmp 2,.tmp 3]⟩
def zaJ:ACode:=.seq (.q [m 24 7,m 25 4,o 26 .lenS 25,p 27 (.bin .lss) [.t 24,.t 26]]<|.cond (.t 27) (.skip) (.exit 0))<|.seq (.block 1 (.seq (.q [m 30 7,p 31 (.bin .eql) [.t 30,.k (.i 0)],
 m 32 31,w 33 .mov [.t 4] 32 true,w 34 .mov [.t 7] 32 true,w 35 .indexS [.t 33,.t 34] 32 true,w 36 (.bin .eql) [.t 35,.k (.sc (.int .u8 (45)))] 32 true,p 37 .pick [.t 32,.t 36,.k (.b false)]]<|.cond (.t 37) (.exit 1) (.skip))<|.seq (.q [
 m 38 4,m 39 7,p 40 .indexS [.t 38,.t 39],p 41 (.bin .lss) [.t 40,.k (.sc (.int .u8 (48)))],m 42 41,w 43 .mov [.t 4] 42 false,w 44 .mov [.t 7] 42 false,w 45 .indexS [.t 43,.t 44] 42 false,
 w 46 (.bin .gtr) [.t 45,.k (.sc (.int .u8 (57)))] 42 false,p 47 .pick [.t 42,.k (.b true),.t 46]]<|.cond (.t 47) (.q [i 2 0,k 3 (.b false)]<|.ret) (.skip))<|.ops [m 48 6,p 49 (.bin .mul) [.t 48,.k (.i 10)],
 m 50 4,m 51 7,p 52 .indexS [.t 50,.t 51],o 53 (.toInt .i64) 52,p 54 (.bin .add) [.t 49,.t 53],p 55 (.bin .sub) [.t 54,.k (.i 48)],m 6 55]))<|.ops [m 28 7,
 p 29 (.bin .add) [.t 28,.k (.i 1)],m 7 29]
def zfj:ACode:=.q [x 1 0,i 2 0,k 3 (.b false)]<|.q [l 9 1 3 true 1,c 10 86 [.t 9],m 8 10,e 11 0 8,e 12 1 8,
 m 4 11,m 5 12]<|.seq (.q [m 13 5,o 14 (.un .not) 13,m 15 14,w 16 .mov [.t 4] 15 false,⟨some 17,.pur (.bin .eql),[.t 16,.k E],some (15,false)⟩,p 18 .pick [.t 15,.k (.b true),.t 17],
 m 19 18,w 20 .mov [.t 4] 19 false,w 21 .lenS [.t 20] 19 false,w 22 (.bin .gtr) [.t 21,.k (.i 18)] 19 false,p 23 .pick [.t 19,.k (.b true),.t 22]]<|.cond (.t 23) (.q [i 2 0,k 3 (.b false)]<|
 .ret) (.skip))<|.q [i 6 0]<|.seq (.q [i 7 0]<|.block 0 (.loop [2,3,24,25,26,27,28,29,30,31,32,33,34,35,36,37,38,39,40,41,42,43,44,45,46,47,48,49,50,51,52,53,54,55] [] zaJ))<|.seq (.q [m 56 4,
 p 57 .indexS [.t 56,.k (.i 0)],p 58 (.bin .eql) [.t 57,.k (.sc (.int .u8 (45)))]]<|.cond (.t 58) (.ops [m 59 6,o 60 (.un .neg) 59,m 6 60]) (.skip))<|.seq (.q [m 61 6,c 62 139 [.t 61],
 m 63 4,p 64 (.bin .neq) [.t 62,.t 63]]<|.cond (.t 64) (.q [i 2 0,k 3 (.b false)]<|.ret) (.skip))<|.q [m 65 6,m 2 65,k 3 (.b true)]<|.ret
def f88:za:=⟨66,zfj,[.tmp 2,.tmp 3]⟩
def zcq:ACode:=.q [x 1 0,⟨some 2,.pur .mov,[.k E],none⟩,⟨some 3,.pur .mov,[.k E],none⟩,k 4 (.b false)]<|.q [l 12 1 3 true 1,⟨some 13,.call 78,[.k (.s ⟨#[98,111,100,121]⟩),.k (.i 2),.t 12],none⟩,m 11 13,
 e 14 0 11,e 15 1 11,m 5 14,m 6 15]<|.seq (.q [m 16 6,o 17 (.un .not) 16]<|.cond (.t 17) (.q [⟨some 2,.pur .mov,[.k E],none⟩,⟨some 3,.pur .mov,[.k E],none⟩,
 k 4 (.b false)]<|.ret) (.skip))<|.q [m 19 5,p 20 (.iaddr 3) [.t 19,.k (.i 0)],h 21 3 true 20,c 22 85 [.t 21],m 18 22,e 23 0 18,e 24 1 18,
 m 7 23,m 8 24]<|.q [m 26 5,p 27 (.iaddr 3) [.t 26,.k (.i 1)],h 28 3 true 27,c 29 85 [.t 28],m 25 29,e 30 0 25,e 31 1 25,
 m 9 30,m 10 31]<|.seq (.q [m 32 8,o 33 (.un .not) 32,m 34 33,w 35 .mov [.t 10] 34 false,w 36 (.un .not) [.t 35] 34 false,p 37 .pick [.t 34,.k (.b true),.t 36],
 m 38 37,w 39 .mov [.t 7] 38 false,⟨some 40,.pur (.bin .eql),[.t 39,.k E],some (38,false)⟩,p 41 .pick [.t 38,.k (.b true),.t 40],m 42 41,w 43 .mov [.t 9] 42 false,⟨some 44,.pur (.bin .eql),[.t 43,.k E],some (42,false)⟩,
 p 45 .pick [.t 42,.k (.b true),.t 44]]<|.cond (.t 45) (.q [⟨some 2,.pur .mov,[.k E],none⟩,⟨some 3,.pur .mov,[.k E],none⟩,k 4 (.b false)]<|.ret) (.skip))<|.q [m 46 7,m 47 9,m 2 46,
 m 3 47,k 4 (.b true)]<|.ret
def f92:za:=⟨48,zcq,[.tmp 2,.tmp 3,.tmp 4]⟩
def zcr:ACode:=.q [x 1 0,⟨some 2,.pur .mov,[.k E],none⟩,⟨some 3,.pur .mov,[.k E],none⟩,k 4 (.b false)]<|.q [l 12 1 3 true 1,⟨some 13,.call 79,[.k (.s ⟨#[98,111,100,121]⟩),.k (.i 2),.t 12],none⟩,m 11 13,
 e 14 0 11,e 15 1 11,m 5 14,m 6 15]<|.seq (.q [m 16 6,o 17 (.un .not) 16]<|.cond (.t 17) (.q [⟨some 2,.pur .mov,[.k E],none⟩,⟨some 3,.pur .mov,[.k E],none⟩,
 k 4 (.b false)]<|.ret) (.skip))<|.q [m 19 5,p 20 (.iaddr 3) [.t 19,.k (.i 0)],h 21 3 true 20,c 22 86 [.t 21],m 18 22,e 23 0 18,e 24 1 18,
 m 7 23,m 8 24]<|.q [m 26 5,p 27 (.iaddr 3) [.t 26,.k (.i 1)],h 28 3 true 27,c 29 86 [.t 28],m 25 29,e 30 0 25,e 31 1 25,
 m 9 30,m 10 31]<|.seq (.q [m 32 8,o 33 (.un .not) 32,m 34 33,w 35 .mov [.t 10] 34 false,w 36 (.un .not) [.t 35] 34 false,p 37 .pick [.t 34,.k (.b true),.t 36],
 m 38 37,w 39 .mov [.t 7] 38 false,⟨some 40,.pur (.bin .eql),[.t 39,.k E],some (38,false)⟩,p 41 .pick [.t 38,.k (.b true),.t 40],m 42 41,w 43 .mov [.t 9] 42 false,⟨some 44,.pur (.bin .eql),[.t 43,.k E],some (42,false)⟩,
 p 45 .pick [.t 42,.k (.b true),.t 44]]<|.cond (.t 45) (.q [⟨some 2,.pur .mov,[.k E],none⟩,⟨some 3,.pur .mov,[.k E],none⟩,k 4 (.b false)]<|.ret) (.skip))<|.q [m 46 7,m 47 9,m 2 46,
 m 3 47,k 4 (.b true)]<|.ret
def f93:za:=⟨48,zcr,[.tmp 2,.tmp 3,.tmp 4]⟩
def zlA:ACode:=.q [x 1 0,⟨some 2,.alloc .reg Z,[],none⟩,⟨some 3,.alloc .reg Z,[],none⟩,⟨some 4,.alloc .reg Z,[],none⟩,k 5 (.b false)]<|.q [l 8 1 3 true 1,
 ⟨some 9,.call 78,[.k (.s ⟨#[97,115,45,114,101,113]⟩),.k (.i 3),.t 8],none⟩,m 7 9,e 10 0 7,e 11 1 7,m 6 10,m 5 11]<|.seq (.q [m 12 5,o 13 (.un .not) 12]<|
 .cond (.t 13) (.q [l 14 2 3 true 2,l 15 3 3 true 3,l 16 4 3 true 4,s 2 3 2 14,s 3 3 3 15,s 4 3 4 16,k 5 (.b false)]<|.ret) (.skip))<|.q [
 m 17 6,p 18 (.iaddr 3) [.t 17,.k (.i 0)],h 19 3 true 18,m 20 6,p 21 (.iaddr 3) [.t 20,.k (.i 1)],h 22 3 true 21,m 23 6,p 24 (.iaddr 3) [.t 23,.k (.i 2)],
 h 25 3 true 24,s 2 3 2 19,s 3 3 3 22,s 4 3 4 25,k 5 (.b true)]<|.ret
def f94:za:=⟨26,zlA,[.cell 2 3 true,.cell 3 3 true,.cell 4 3 true,.tmp 5]⟩
def zlB:ACode:=.q [x 1 0,⟨some 2,.alloc .reg Z,[],none⟩,⟨some 3,.alloc .reg Z,[],none⟩,⟨some 4,.alloc .reg Z,[],none⟩,k 5 (.b false)]<|.q [l 9 1 3 true 1,
 ⟨some 10,.call 79,[.k (.s ⟨#[97,115,45,114,101,113]⟩),.k (.i 3),.t 9],none⟩,m 8 10,e 11 0 8,e 12 1 8,m 6 11,m 7 12]<|.seq (.q [m 13 7,o 14 (.un .not) 13]<|
 .cond (.t 14) (.q [⟨some 15,.pur (.build Z []),[],none⟩,⟨some 16,.pur (.build Z []),[],none⟩,⟨some 17,.pur (.build Z []),[],none⟩,s 2 3 2 15,s 3 3 3 16,s 4 3 4 17,
 k 5 (.b false)]<|.ret) (.skip))<|.q [m 18 6,p 19 (.iaddr 3) [.t 18,.k (.i 0)],h 20 3 true 19,m 21 6,p 22 (.iaddr 3) [.t 21,.k (.i 1)],h 23 3 true 22,m 24 6,
 p 25 (.iaddr 3) [.t 24,.k (.i 2)],h 26 3 true 25,s 2 3 2 20,s 3 3 3 23,s 4 3 4 26,k 5 (.b true)]<|.ret
def f95:za:=⟨27,zlB,[.cell 2 3 true,.cell 3 3 true,.cell 4 3 true,.tmp 5]⟩
def zfk:ACode:=.q [x 1 0,i 2 0,k 3 (.b false)]<|.q [l 9 1 3 true 1,⟨some 10,.call 79,[.k (.s ⟨#[101,114,114,111,114]⟩),.k (.i 1),.t 9],none⟩,m 8 10,e 11 0 8,
 e 12 1 8,m 4 11,m 5 12]<|.seq (.q [m 13 5,o 14 (.un .not) 13]<|.cond (.t 14) (.q [i 2 0,k 3 (.b false)]<|.ret) (.skip))<|.q [
 m 16 4,p 17 (.iaddr 3) [.t 16,.k (.i 0)],h 18 3 true 17,c 19 88 [.t 18],m 15 19,e 20 0 15,e 21 1 15,m 6 20,m 7 21]<|.seq (.q [
 m 22 7,o 23 (.un .not) 22,m 24 23,w 25 .mov [.t 6] 24 false,w 26 (.bin .lss) [.t 25,.k (.i 1)] 24 false,p 27 .pick [.t 24,.k (.b true),.t 26]]<|.cond (.t 27) (.q [i 2 0,
 k 3 (.b false)]<|.ret) (.skip))<|.q [m 28 6,m 2 28,k 3 (.b true)]<|.ret
def f97:za:=⟨29,zfk,[.tmp 2,.tmp 3]⟩
def zkM:ACode:=.q [p 13 (.bin .lss) [.t 12,.t 11]]<|.seq (.cond (.t 13) (.skip) (.exit 0))<|.seq (.block 1 (.q [m 14 12,m 4 14]<|.ops [m 15 3,m 16 4,m 17 3,m 18 4,
 p 19 (.iaddr 6) [.t 17,.t 18],f 20 2 19,h 21 1 false 20,c 22 202 [.t 21],p 23 (.iaddr 6) [.t 15,.t 16],f 24 2 23,⟨none,.st none 1,[.t 24,.t 22],none⟩]))<|.ops [p 25 (.bin .add) [.t 12,.k (.i 1)],
 m 12 25]
def zpb:ACode:=.q [k 2 N]<|.q [m 5 0,o 6 .nilchk 5,f 7 10 6,h 8 1 false 7,c 9 207 [.t 8],m 3 9]<|.seq (.q [m 10 3,
 o 11 .lenL 10,i 12 0]<|.block 0 (.loop [4,13,14,15,16,17,18,19,20,21,22,23,24,25] [] zkM))<|.q [m 26 3,m 2 26]<|.ret
def zgH:za:=⟨27,zpb,[.tmp 2]⟩
def zkN:ACode:=.q [p 23 (.bin .lss) [.t 22,.t 21]]<|.seq (.cond (.t 23) (.skip) (.exit 0))<|.seq (.block 1 (.q [p 24 (.iaddr 1) [.t 20,.t 22],h 25 1 false 24,m 7 25]<|.ops [m 26 5,m 27 7,
 ⟨some 28,.pur (.bin .add),[.k (.s ⟨#[100]⟩),.t 27],none⟩,c 29 192 [.t 28],⟨some 30,.pur (.buildSl 3 1 Z [0]),[.t 29],none⟩,⟨some 31,.append 3 48,[.t 26,.t 30],none⟩,m 5 31]))<|.ops [p 32 (.bin .add) [.t 22,.k (.i 1)],m 22 32]
def zgI:ACode:=.q [x 2 0,x 3 1,⟨some 4,.alloc .reg Z,[],none⟩]<|.seq (.q [l 9 2 3 true 2,c 10 210 [.t 9],o 11 (.un .not) 10,m 12 11,
 w 13 (.faddr 3) [.t 3] 12 false,u 14 (.ld (some 3) 3 true) [.t 13] 12 false,u 15 (.call 210) [.t 14] 12 false,w 16 (.un .not) [.t 15] 12 false,p 17 .pick [.t 12,.k (.b true),.t 16]]<|.cond (.t 17) (.q [⟨some 18,.pur (.build Z []),[],none⟩,
 s 4 3 4 18]<|.ret) (.skip))<|.q [k 5 N]<|.seq (.q [f 19 2 3,l 20 3 1 false 19,o 21 .lenL 20,i 22 0]<|
 .block 0 (.loop [7,23,24,25,26,27,28,29,30,31,32] [] zkN))<|.q [f 33 6 3,l 34 3 1 false 33,c 35 193 [.t 34],⟨some 36,.pur (.bin .add),[.k (.s ⟨#[117]⟩),.t 35],none⟩,c 37 192 [.t 36],⟨some 8,.alloc .reg Z,[],none⟩,
 s 8 3 8 37]<|.q [l 38 2 3 true 2,⟨some 39,.call 192,[.k (.s ⟨#[99,111,111,107,105,101]⟩)],none⟩,f 40 0 3,l 41 3 1 false 40,⟨some 42,.pur (.bin .add),[.k (.s ⟨#[99]⟩),.t 41],none⟩,c 43 192 [.t 42],
 f 44 1 3,l 45 3 1 false 44,⟨some 46,.pur (.bin .add),[.k (.s ⟨#[110]⟩),.t 45],none⟩,c 47 192 [.t 46],m 48 5,c 49 126 [.t 48],f 50 3 3,l 51 3 3 true 50,l 52 8 3 true 8,
 ⟨some 53,.pur (.buildSl 3 6 Z [0,1,2,3,4,5]),[.t 39,.t 43,.t 47,.t 49,.t 51,.t 52],none⟩,c 54 126 [.t 53],c 55 128 [.t 38,.t 54],s 4 3 4 55]<|.ret
def zc8:za:=⟨56,zgI,[.cell 4 3 true]⟩
def zkO:ACode:=.seq (.q [m 23 8,f 24 2 3,l 25 3 1 false 24,o 26 .lenL 25,p 27 (.bin .lss) [.t 23,.t 26]]<|.cond (.t 27) (.skip) (.exit 0))<|.seq (.block 1 (.ops [m 30 7,f 31 2 3,
 l 32 3 1 false 31,m 33 8,p 34 (.iaddr 1) [.t 32,.t 33],h 35 1 false 34,⟨some 36,.pur (.bin .add),[.k (.s ⟨#[100]⟩),.t 35],none⟩,c 37 212 [.t 36],⟨some 38,.pur (.buildSl 3 1 Z [0]),[.t 37],none⟩,
 ⟨some 39,.append 3 48,[.t 30,.t 38],none⟩,m 7 39]))<|.ops [m 28 8,p 29 (.bin .add) [.t 28,.k (.i 1)],m 8 29]
def zeG:ACode:=.q [x 2 0,x 3 1,⟨some 4,.alloc .reg Z,[],none⟩]<|.q [l 10 2 3 true 2,c 11 211 [.t 10],m 5 11]<|.q [f 12 3 3,
 l 13 3 3 true 12,c 14 211 [.t 13],m 6 14]<|.seq (.q [m 15 5,o 16 (.un .not) 15,m 17 16,w 18 .mov [.t 6] 17 false,w 19 (.un .not) [.t 18] 17 false,
 p 20 .pick [.t 17,.k (.b true),.t 19]]<|.cond (.t 20) (.q [⟨some 21,.pur (.build Z []),[],none⟩,s 4 3 4 21]<|.ret) (.skip))<|.q [⟨some 22,.pur (.buildSl 3 0 Z []),[],none⟩,m 7 22]<|.seq (.q [
 i 8 0]<|.block 0 (.loop [23,24,25,26,27,28,29,30,31,32,33,34,35,36,37,38,39] [] zkO))<|.q [⟨some 40,.call 212,[.k (.s ⟨#[99,111,111,107,105,101]⟩)],none⟩,f 41 0 3,l 42 3 1 false 41,⟨some 43,.pur (.bin .add),[.k (.s ⟨#[99]⟩),.t 42],none⟩,
 c 44 212 [.t 43],f 45 1 3,l 46 3 1 false 45,⟨some 47,.pur (.bin .add),[.k (.s ⟨#[110]⟩),.t 46],none⟩,c 48 212 [.t 47],m 49 7,⟨some 50,.pur (.build Z [(0,1),(2,1)]),[.k (.i 3),.t 49],none⟩,
 f 51 3 3,l 52 3 3 true 51,f 53 6 3,l 54 3 1 false 53,c 55 213 [.t 54],⟨some 56,.pur (.bin .add),[.k (.s ⟨#[117]⟩),.t 55],none⟩,c 57 212 [.t 56],
 ⟨some 58,.pur (.buildSl 3 6 Z [0,1,2,3,4,5]),[.t 40,.t 44,.t 48,.t 50,.t 52,.t 57],none⟩,m 9 58]<|.q [l 59 2 3 true 2,m 60 9,⟨some 61,.pur (.build Z [(0,1),(2,1)]),[.k (.i 3),.t 60],none⟩,
 ⟨some 62,.pur (.buildSl 3 2 Z [0,1]),[.t 59,.t 61],none⟩,⟨some 63,.pur (.build Z [(0,1),(2,1)]),[.k (.i 4),.t 62],none⟩,s 4 3 4 63]<|.ret
def zb4:za:=⟨64,zeG,[.cell 4 3 true]⟩
def kz:ACode:=.q [p 43 (.bin .lss) [.t 42,.t 41]]<|.seq (.cond (.t 43) (.skip) (.exit 0))<|.seq (.block 1 (.q [p 44 (.iaddr 1) [.t 40,.t 42],h 45 1 false 44,m 11 45]<|.ops [m 46 11,l 47 8 3 true 8,
 ⟨some 48,.callv,[.t 46,.t 47,.t 9],none⟩]))<|.ops [p 49 (.bin .add) [.t 42,.k (.i 1)],m 42 49]
def zc9:ACode:=.q [x 3 0,x 4 1,⟨some 6,.alloc .reg [E,E,N,.i 0,E,N,.i 0],[],none⟩,i 7 0]<|.seq (.q [l 12 4 3 true 4,c 13 116 [.t 12],
 o 14 (.un .not) 13,m 15 14,w 16 (.faddr 0) [.t 4] 15 false,u 17 (.ld (some 4) 1 false) [.t 16] 15 false,w 18 (.bin .neq) [.t 17,.k (.i 4)] 15 false,p 19 .pick [.t 15,.k (.b true),.t 18]]<|.cond (.t 19) (.q [
 ⟨some 20,.pur (.build [E,E,N,.i 0,E,N,.i 0] []),[],none⟩,s 6 7 6 20,i 7 2]<|.ret) (.skip))<|.seq (.q [f 21 2 4,l 22 4 1 false 21,p 23 (.iaddr 3) [.t 22,.k (.i 0)],
 h 24 3 true 23,l 25 3 3 true 3,c 26 118 [.t 24,.t 25],o 27 (.un .not) 26]<|.cond (.t 27) (.q [⟨some 28,.pur (.build [E,E,N,.i 0,E,N,.i 0] []),[],none⟩,s 6 7 6 28,
 i 7 4]<|.ret) (.skip))<|.q [f 29 2 4,l 30 4 1 false 29,p 31 (.iaddr 3) [.t 30,.k (.i 1)],h 32 3 true 31,⟨some 33,.pur (.build Z [(0,3)]),[.t 32],none⟩,
 ⟨some 8,.alloc .reg Z,[],none⟩,s 8 3 8 33]<|.seq (.q [f 34 0 8,f 35 2 34,l 36 8 1 false 35,o 37 .lenL 36,p 38 (.bin .neq) [.t 37,.k (.i 6)]]<|.cond (.t 38) (.q [
 ⟨some 39,.pur (.build [E,E,N,.i 0,E,N,.i 0] []),[],none⟩,s 6 7 6 39,i 7 2]<|.ret) (.skip))<|.q [⟨some 9,.alloc .heap [E,E,N,.i 0,E,N,.i 0],[],none⟩]<|.seq (.q [
 ⟨some 40,.pur (.buildSl 1 5 [.sc .nilFunc] [0,1,2,3,4]),[.k (.fn 214 [] []),.k (.fn 215 [] []),.k (.fn 216 [] []),.k (.fn 217 [] []),.k (.fn 218 [] [])],none⟩,o 41 .lenL 40,i 42 0]<|.block 0 (.loop [11,43,44,45,46,47,48,49] [] kz))<|.seq (.q [l 50 3 3 true 3,
 h 51 7 true 9,c 52 109 [.t 50,.t 51],l 53 4 3 true 4,c 54 118 [.t 52,.t 53],o 55 (.un .not) 54]<|.cond (.t 55) (.q [⟨some 56,.pur (.build [E,E,N,.i 0,E,N,.i 0] []),[],none⟩,
 s 6 7 6 56,i 7 2]<|.ret) (.skip))<|.seq (.q [m 57 2,f 58 6 9,h 59 1 false 58,p 60 (.bin .gtr) [.t 57,.t 59]]<|.cond (.t 60) (.q [
 ⟨some 61,.pur (.build [E,E,N,.i 0,E,N,.i 0] []),[],none⟩,s 6 7 6 61,i 7 5]<|.ret) (.skip))<|.q [h 62 7 true 9,s 6 7 6 62,i 7 0]<|.ret
def zbm:za:=⟨63,zc9,[.cell 6 7 true,.tmp 7]⟩
def ww:ACode:=.q [x 3 0,x 4 1,⟨some 6,.alloc .reg [E,E,N,.i 0,E,N,.i 0],[],none⟩,i 7 0]<|.q [l 13 4 3 true 4,c 14 219 [.t 13],m 8 14]<|
 .seq (.q [m 15 8,o 16 (.un .not) 15,m 17 16,w 18 (.faddr 0) [.t 4] 17 false,u 19 (.ld (some 4) 1 false) [.t 18] 17 false,w 20 (.bin .neq) [.t 19,.k (.i 4)] 17 false,p 21 .pick [.t 17,.k (.b true),.t 20]]<|
 .cond (.t 21) (.q [⟨some 22,.pur (.build [E,E,N,.i 0,E,N,.i 0] []),[],none⟩,s 6 7 6 22,i 7 2]<|.ret) (.skip))<|.q [f 23 2 4,l 24 4 1 false 23,
 p 25 (.iaddr 3) [.t 24,.k (.i 0)],h 26 3 true 25,l 27 3 3 true 3,c 28 114 [.t 26,.t 27],m 9 28]<|.seq (.q [m 29 9,o 30 (.un .not) 29]<|.cond (.t 30) (.q [
 ⟨some 31,.pur (.build [E,E,N,.i 0,E,N,.i 0] []),[],none⟩,s 6 7 6 31,i 7 4]<|.ret) (.skip))<|.q [l 32 3 3 true 3,c 33 211 [.t 32],m 10 33]<|.q [
 f 35 2 4,l 36 4 1 false 35,p 37 (.iaddr 3) [.t 36,.k (.i 1)],h 38 3 true 37,c 39 220 [.t 38],m 34 39,e 40 0 34,e 41 1 34,
 ⟨some 11,.alloc .reg [E,E,N,.i 0,E,N,.i 0],[],none⟩,s 11 7 11 40,m 12 41]<|.seq (.q [m 42 10,o 43 (.un .not) 42,m 44 43,w 45 .mov [.t 12] 44 false,
 w 46 (.un .not) [.t 45] 44 false,p 47 .pick [.t 44,.k (.b true),.t 46]]<|.cond (.t 47) (.q [⟨some 48,.pur (.build [E,E,N,.i 0,E,N,.i 0] []),[],none⟩,s 6 7 6 48,i 7 2]<|.ret) (.skip))<|.seq (.q [
 m 49 2,f 50 6 11,l 51 11 1 false 50,p 52 (.bin .gtr) [.t 49,.t 51]]<|.cond (.t 52) (.q [⟨some 53,.pur (.build [E,E,N,.i 0,E,N,.i 0] []),[],none⟩,s 6 7 6 53,
 i 7 5]<|.ret) (.skip))<|.q [l 54 11 7 true 11,s 6 7 6 54,i 7 0]<|.ret
def kB:za:=⟨55,ww,[.cell 6 7 true,.tmp 7]⟩
def zb5:ACode:=.seq (.q [m 28 5,f 29 2 2,l 30 2 1 false 29,o 31 .lenL 30,p 32 (.bin .lss) [.t 28,.t 31]]<|.cond (.t 32) (.skip) (.exit 0))<|.seq (.block 1 (.q [f 35 2 2,
 l 36 2 1 false 35,m 37 5,p 38 (.iaddr 3) [.t 36,.t 37],h 39 3 true 38,f 40 2 3,l 41 3 1 false 40,m 42 5,p 43 (.iaddr 3) [.t 41,.t 42],h 44 3 true 43,
 c 45 114 [.t 39,.t 44],m 6 45]<|.q [m 46 6,o 47 (.un .not) 46]<|.cond (.t 47) (.q [k 4 (.b false)]<|.ret) (.skip)))<|.ops [m 33 5,p 34 (.bin .add) [.t 33,.k (.i 1)],
 m 5 34]
def zeH:ACode:=.q [x 2 0,x 3 1,k 4 (.b false)]<|.seq (.q [f 7 0 2,l 8 2 1 false 7,f 9 0 3,l 10 3 1 false 9,p 11 (.bin .neq) [.t 8,.t 10],
 m 12 11,w 13 (.faddr 1) [.t 2] 12 false,u 14 (.ld (some 2) 1 false) [.t 13] 12 false,w 15 (.faddr 1) [.t 3] 12 false,u 16 (.ld (some 3) 1 false) [.t 15] 12 false,w 17 (.bin .neq) [.t 14,.t 16] 12 false,p 18 .pick [.t 12,.k (.b true),.t 17],
 m 19 18,w 20 (.faddr 2) [.t 2] 19 false,u 21 (.ld (some 2) 1 false) [.t 20] 19 false,w 22 .lenL [.t 21] 19 false,w 23 (.faddr 2) [.t 3] 19 false,u 24 (.ld (some 3) 1 false) [.t 23] 19 false,w 25 .lenL [.t 24] 19 false,
 w 26 (.bin .neq) [.t 22,.t 25] 19 false,p 27 .pick [.t 19,.k (.b true),.t 26]]<|.cond (.t 27) (.q [k 4 (.b false)]<|.ret) (.skip))<|.seq (.q [i 5 0]<|
 .block 0 (.loop [4,6,28,29,30,31,32,33,34,35,36,37,38,39,40,41,42,43,44,45,46,47] [] zb5))<|.q [k 4 (.b true)]<|.ret
def zgJ:za:=⟨48,zeH,[.tmp 4]⟩
def zkP:ACode:=.q [x 1 0,k 2 (.b false)]<|.q [l 3 1 3 true 1,c 4 221 [.t 3,.k (.i 60)],m 5 4,u 6 (.ld (some 1) 3 true) [.t 1] 5 true,u 7 (.call 222) [.t 6] 5 true,
 p 8 .pick [.t 5,.t 7,.k (.b false)],m 2 8]<|.ret
def zeI:za:=⟨9,zkP,[.tmp 2]⟩
def zpc:ACode:=.q [x 1 0,i 2 0]<|.q [l 3 1 3 true 1,c 4 223 [.t 3,.k (.i 61)],m 2 4]<|.ret
def zgK:za:=⟨5,zpc,[.tmp 2]⟩
def zgL:ACode:=.q [x 2 0,x 3 1,k 4 (.b false)]<|.q [f 5 0 2,l 6 2 1 false 5,f 7 0 3,l 8 3 1 false 7,p 9 (.bin .eql) [.t 6,.t 8],
 m 10 9,w 11 (.faddr 1) [.t 2] 10 true,u 12 (.ld (some 2) 1 false) [.t 11] 10 true,w 13 (.faddr 1) [.t 3] 10 true,u 14 (.ld (some 3) 1 false) [.t 13] 10 true,w 15 (.bin .eql) [.t 12,.t 14] 10 true,p 16 .pick [.t 10,.t 15,.k (.b false)],
 m 17 16,w 18 (.faddr 2) [.t 2] 17 true,u 19 (.ld (some 2) 1 false) [.t 18] 17 true,w 20 (.faddr 2) [.t 3] 17 true,u 21 (.ld (some 3) 1 false) [.t 20] 17 true,⟨some 22,.call 224,[.t 19,.t 21,.k (.fn 118 [] [])],some (17,true)⟩,p 23 .pick [.t 17,.t 22,.k (.b false)],
 m 4 23]<|.ret
def zda:za:=⟨24,zgL,[.tmp 4]⟩
def zpd:ACode:=.q [k 2 N]<|.q [m 3 0,o 4 .nilchk 3,f 5 6 4,h 6 1 false 5,c 7 225 [.t 6],m 2 7]<|.ret
def zgM:za:=⟨8,zpd,[.tmp 2]⟩
def zkQ:ACode:=.q [x 1 0,⟨some 2,.pur .mov,[.k E],none⟩]<|.seq (.q [l 3 1 3 true 1,c 4 221 [.t 3,.k (.i 60)],o 5 (.un .not) 4]<|.cond (.t 5) (.q [⟨some 2,.pur .mov,[.k E],none⟩]<|.ret) (.skip))<|.q [
 l 6 1 3 true 1,c 7 227 [.t 6],m 2 7]<|.ret
def zeJ:za:=⟨8,zkQ,[.tmp 2]⟩
def zpe:ACode:=.q [⟨some 2,.alloc .reg Z,[],none⟩]<|.q [m 3 0,⟨some 4,.call 228,[.k (.i 2),.t 3,.k N],none⟩,s 2 3 2 4]<|.ret
def zgN:za:=⟨5,zpe,[.cell 2 3 true]⟩
def zpf:ACode:=.q [x 1 0,⟨some 2,.alloc .reg Z,[],none⟩]<|.q [l 3 1 3 true 1,⟨some 4,.pur (.buildSl 3 1 Z [0]),[.t 3],none⟩,⟨some 5,.call 228,[.k (.i 6),.k E,.t 4],none⟩,s 2 3 2 5]<|.ret
def zgO:za:=⟨6,zpf,[.cell 2 3 true]⟩
def zpg:ACode:=.q [x 2 0,x 3 1,⟨some 4,.alloc .reg Z,[],none⟩]<|.q [l 5 2 3 true 2,l 6 3 3 true 3,⟨some 7,.pur (.buildSl 3 2 Z [0,1]),[.t 5,.t 6],none⟩,
 ⟨some 8,.call 228,[.k (.i 10),.k E,.t 7],none⟩,s 4 3 4 8]<|.ret
def f125:za:=⟨9,zpg,[.cell 4 3 true]⟩
def zph:ACode:=.q [⟨some 2,.alloc .reg Z,[],none⟩]<|.q [m 3 0,⟨some 4,.call 228,[.k (.i 3),.k E,.t 3],none⟩,s 2 3 2 4]<|.ret
def zgP:za:=⟨5,zph,[.cell 2 3 true]⟩
def zkR:ACode:=.q [x 2 0,x 3 1,⟨some 4,.alloc .reg Z,[],none⟩]<|.seq (.q [l 5 3 3 true 3,l 6 2 3 true 2,c 7 229 [.t 5,.t 6]]<|.cond (.t 7) (.ops [l 8 3 3 true 3,
 l 9 2 3 true 2,s 2 3 2 8,s 3 3 3 9]) (.skip))<|.q [l 10 2 3 true 2,l 11 3 3 true 3,⟨some 12,.pur (.buildSl 3 2 Z [0,1]),[.t 10,.t 11],none⟩,
 ⟨some 13,.call 228,[.k (.i 9),.k E,.t 12],none⟩,s 4 3 4 13]<|.ret
def zeK:za:=⟨14,zkR,[.cell 4 3 true]⟩
def zpi:ACode:=.q [x 2 0,x 3 1,⟨some 4,.alloc .reg Z,[],none⟩]<|.q [l 5 2 3 true 2,l 6 3 3 true 3,⟨some 7,.pur (.buildSl 3 2 Z [0,1]),[.t 5,.t 6],none⟩,
 ⟨some 8,.call 228,[.k (.i 4),.k E,.t 7],none⟩,s 4 3 4 8]<|.ret
def f128:za:=⟨9,zpi,[.cell 4 3 true]⟩
def zpj:ACode:=.q [⟨some 2,.alloc .reg Z,[],none⟩]<|.q [m 3 0,⟨some 4,.pur (.build Z [(0,1),(1,1)]),[.k (.i 2),.t 3],none⟩,s 2 3 2 4]<|.ret
def zgQ:za:=⟨5,zpj,[.cell 2 3 true]⟩
def qw:ACode:=.q [x 4 1,⟨some 6,.alloc .reg Z,[],none⟩]<|.q [m 18 0,l 19 4 3 true 4,m 20 2,c 21 239 [.t 18,.t 19,.t 20],m 17 21,
 e 22 0 17,e 23 1 17,e 24 2 17,
 ⟨some 7,.alloc .reg [.i 0,E,N,.i 0,E,N,E,E,N,.i 0,E,N,.i 0,E,.i 0,E,N,N,.i 0,E,N,.i 0,.i 0,.i 0,.i 0,.i 0,.i 0,.i 0,.i 0],[],none⟩,
 ⟨some 8,.alloc .reg Z,[],none⟩,s 7 29 7 22,s 8 3 8 23,m 9 24]<|.seq (.q [m 25 9,p 26 (.bin .neq) [.t 25,.k (.i 0)]]<|.cond (.t 26) (.q [m 27 9,
 c 28 73 [.t 27],s 6 3 6 28]<|.ret) (.skip))<|.seq (.q [l 29 8 3 true 8,c 30 84 [.t 29]]<|.cond (.t 30) (.q [m 31 0,l 32 7 29 true 7,c 33 240 [.t 31,.t 32],
 s 6 3 6 33]<|.ret) (.skip))<|.q [f 34 13 7,f 35 4 34,l 36 7 1 false 35,f 37 6 7,f 38 2 37,l 39 7 1 false 38,o 40 .lenL 39,
 p 41 (.iaddr 1) [.t 36,.t 40],h 42 1 false 41,m 10 42]<|.seq (.q [l 43 8 3 true 8,c 44 82 [.t 43],m 45 10,p 46 (.bin .neq) [.t 44,.t 45],m 47 46,
 w 48 .mov [.t 10] 47 false,⟨some 49,.pur (.bin .neq),[.t 48,.k (.s ⟨#[99,104,97,108,108,101,110,103,101]⟩)],some (47,false)⟩,w 50 .mov [.t 49] 47 false,w 51 (.faddr 6) [.t 7] 50 true,w 52 (.faddr 3) [.t 51] 50 true,u 53 (.ld (some 7) 3 true) [.t 52] 50 true,
 u 54 (.call 84) [.t 53] 50 true,w 55 .pick [.t 50,.t 54,.k (.b false)] 47 false,p 56 .pick [.t 47,.k (.b true),.t 55]]<|.cond (.t 56) (.q [c 57 73 [.k (.i 11)],s 6 3 6 57]<|.ret) (.skip))<|.q [l 59 7 29 true 7,
 l 60 8 3 true 8,m 61 10,c 62 241 [.t 59,.t 60,.t 61],m 58 62,e 63 0 58,e 64 1 58,e 65 2 58,⟨some 11,.alloc .reg Z,[],none⟩,
 s 11 3 11 63,m 12 64,m 13 65]<|.seq (.q [m 66 13,p 67 (.bin .eql) [.t 66,.k (.i 6)]]<|.cond (.t 67) (.ops [m 68 0,o 69 .nilchk 68,f 70 6 69,
 h 71 1 false 70,f 72 6 7,f 73 0 72,l 74 7 1 false 73,c 75 242 [.t 71,.t 74]]) (.skip))<|.seq (.q [m 76 13,p 77 (.bin .neq) [.t 76,.k (.i 0)]]<|.cond (.t 77) (.q [
 m 78 13,c 79 73 [.t 78],s 6 3 6 79]<|.ret) (.skip))<|.q [m 80 0,o 81 .nilchk 80,f 82 8 81,h 83 1 false 82,l 84 8 3 true 8,c 85 243 [.t 84],
 m 86 2,p 87 (.bin .add) [.t 86,.k (.i 100)],p 88 (.bin .add) [.t 87,.k (.i 1)],m 89 2,c 90 56 [.t 83,.t 85,.t 88,.t 89],m 14 90]<|.seq (.q [m 91 14,
 p 92 (.bin .neq) [.t 91,.k (.i 0)]]<|.cond (.t 92) (.q [m 93 14,c 94 73 [.t 93],s 6 3 6 94]<|.ret) (.skip))<|.seq (.q [m 95 10,⟨some 96,.pur (.bin .eql),[.t 95,.k (.s ⟨#[111,116,112]⟩)],none⟩]<|.cond (.t 96) (.q [
 m 98 0,o 99 .nilchk 98,f 100 6 99,h 101 1 false 100,f 102 6 7,f 103 0 102,l 104 7 1 false 103,m 105 12,c 106 244 [.t 101,.t 104,.t 105],
 m 97 106,e 107 0 97,e 108 1 97,m 15 107,m 16 108]<|.q [m 109 16,p 110 (.bin .neq) [.t 109,.k (.i 0)]]<|.cond (.t 110) (.q [m 111 16,
 c 112 73 [.t 111],s 6 3 6 112]<|.ret) (.skip)) (.skip))<|.q [⟨some 113,.pur (.buildSl 1 0 [E] []),[],none⟩,f 114 6 7,f 115 2 114,l 116 7 1 false 115,⟨some 117,.append 1 16,[.t 113,.t 116],none⟩,
 m 118 10,⟨some 119,.pur (.buildSl 1 1 [E] [0]),[.t 118],none⟩,⟨some 120,.append 1 16,[.t 117,.t 119],none⟩,f 121 6 7,f 122 2 121,s 7 1 122 120]<|.seq (.q [f 123 6 7,f 124 2 123,
 l 125 7 1 false 124,o 126 .lenL 125,f 127 13 7,f 128 4 127,l 129 7 1 false 128,o 130 .lenL 129,p 131 (.bin .eql) [.t 126,.t 130]]<|.cond (.t 131) (.q [m 132 0,
 l 133 7 29 true 7,l 134 11 3 true 11,c 135 245 [.t 132,.t 133,.t 134],s 6 3 6 135]<|.ret) (.skip))<|.q [m 136 0,l 137 7 29 true 7,c 138 240 [.t 136,.t 137],
 s 6 3 6 138]<|.ret
def qa:za:=⟨139,qw,[.cell 6 3 true]⟩
def zkS:ACode:=.q [⟨some 2,.pur .mov,[.k E],none⟩]<|.seq (.q [m 3 0,p 4 (.bin .lss) [.t 3,.k (.i 0)]]<|.cond (.t 4) (.q [m 5 0,o 6 (.un .neg) 5,c 7 249 [.t 6],⟨some 8,.pur (.bin .add),[.k (.s ⟨#[45]⟩),.t 7],none⟩,
 m 2 8]<|.ret) (.skip))<|.q [m 9 0,c 10 249 [.t 9],m 2 10]<|.ret
def zgR:za:=⟨11,zkS,[.tmp 2]⟩
def zdb:ACode:=.seq (.q [m 5 4,f 6 2 1,l 7 1 1 false 6,o 8 .lenL 7,p 9 (.bin .lss) [.t 5,.t 8]]<|.cond (.t 9) (.skip) (.exit 0))<|.seq (.block 1 (.ops [m 12 3,f 13 2 1,
 l 14 1 1 false 13,m 15 4,p 16 (.iaddr 3) [.t 14,.t 15],h 17 3 true 16,c 18 142 [.t 17],p 19 (.bin .add) [.t 12,.t 18],m 3 19]))<|.ops [m 10 4,
 p 11 (.bin .add) [.t 10,.k (.i 1)],m 4 11]
def zpk:ACode:=.q [x 1 0,i 2 0]<|.q [i 3 1]<|.seq (.q [i 4 0]<|.block 0 (.loop [5,6,7,8,9,10,11,12,13,14,15,16,17,18,19] [] zdb))<|.q [m 20 3,
 m 2 20]<|.ret
def zgS:za:=⟨21,zpk,[.tmp 2]⟩
def zpl:ACode:=.q [x 2 0,⟨some 4,.alloc .reg Z,[],none⟩]<|.q [l 5 2 3 true 2,m 6 1,⟨some 7,.pur (.bin .add),[.k (.s ⟨#[108,111,110,103,32]⟩),.t 6],none⟩,c 8 259 [.t 5,.t 7],s 4 3 4 8]<|
 .ret
def zgT:za:=⟨9,zpl,[.cell 4 3 true]⟩
def zay:ACode:=.q [x 5 0,x 6 1,x 7 2,x 8 3,i 10 0]<|.q [l 18 8 3 true 8,⟨some 19,.call 78,[.k (.s ⟨#[99,104,97,108,108,101,110,103,101]⟩),.k (.i 1),.t 18],none⟩,
 m 17 19,e 20 0 17,e 21 1 17,m 11 20,m 12 21]<|.seq (.q [m 22 12,o 23 (.un .not) 22]<|.cond (.t 23) (.q [i 10 2]<|.ret) (.skip))<|
 .q [l 25 5 3 true 5,l 26 6 3 true 6,c 27 262 [.t 25,.t 26],m 28 11,p 29 (.iaddr 3) [.t 28,.k (.i 0)],h 30 3 true 29,c 31 263 [.t 27,.k (.i 54),.t 30],m 24 31,
 e 32 0 24,e 33 1 24,⟨some 13,.alloc .reg Z,[],none⟩,s 13 3 13 32,m 14 33]<|.seq (.q [m 34 14]<|.block 0 (.q [p 37 (.bin .eql) [.t 34,.k (.i 4)],
 m 36 37]<|.cond (.t 36) (.q [i 10 6]<|.ret) (.q [p 39 (.bin .eql) [.t 34,.k (.i 0)],m 38 39]<|.cond (.t 38) (.skip) (.q [m 35 14,m 10 35]<|.ret))))<|.q [
 l 41 13 3 true 13,⟨some 42,.call 78,[.k (.s ⟨#[116,105,109,101]⟩),.k (.i 2),.t 41],none⟩,m 40 42,e 43 0 40,e 44 1 40,m 15 43,m 12 44]<|.seq (.q [m 45 12,
 o 46 (.un .not) 45]<|.cond (.t 46) (.q [i 10 2]<|.ret) (.skip))<|.q [m 48 15,p 49 (.iaddr 3) [.t 48,.k (.i 0)],h 50 3 true 49,c 51 87 [.t 50],m 47 51,
 e 52 0 47,e 53 1 47,m 16 52,m 12 53]<|.seq (.block 1 (.q [m 55 12,o 56 (.un .not) 55,m 54 56]<|.cond (.t 54) (.q [i 10 2]<|
 .ret) (.q [m 58 15,p 59 (.iaddr 3) [.t 58,.k (.i 1)],h 60 3 true 59,l 61 7 3 true 7,c 62 124 [.t 61],c 63 118 [.t 60,.t 62],o 64 (.un .not) 63,m 57 64]<|.cond (.t 57) (.q [
 i 10 6]<|.ret) (.q [m 66 16,m 67 4,c 68 264 [.t 66,.t 67],p 69 (.bin .gtr) [.t 68,.k (.i 5)],m 65 69]<|.cond (.t 65) (.q [i 10 5]<|.ret) (.skip)))))<|.q [
 i 10 0]<|.ret
def wz:za:=⟨70,zay,[.tmp 10]⟩
def zpm:ACode:=.q [x 4 0,x 5 1,x 6 2,⟨some 8,.alloc .reg Z,[],none⟩]<|.q [m 10 3,c 11 67 [.t 10],l 12 6 3 true 6,c 13 265 [.t 12],
 ⟨some 14,.pur (.buildSl 3 2 Z [0,1]),[.t 11,.t 13],none⟩,⟨some 15,.call 63,[.k (.s ⟨#[116,105,109,101]⟩),.t 14],none⟩,⟨some 9,.alloc .reg Z,[],none⟩,s 9 3 9 15]<|.q [l 16 4 3 true 4,l 17 5 3 true 5,
 c 18 267 [.t 16,.t 17],l 19 9 3 true 9,c 20 266 [.t 18,.k (.i 54),.t 19],⟨some 21,.pur (.buildSl 3 1 Z [0]),[.t 20],none⟩,⟨some 22,.call 63,[.k (.s ⟨#[99,104,97,108,108,101,110,103,101]⟩),.t 21],none⟩,s 8 3 8 22]<|.ret
def zgU:za:=⟨23,zpm,[.cell 8 3 true]⟩
def kV:ACode:=.q [x 5 0,x 6 1,x 7 2,x 8 3,i 10 0]<|.q [l 21 8 3 true 8,⟨some 22,.call 79,[.k (.s ⟨#[99,104,97,108,108,101,110,103,101]⟩),.k (.i 1),.t 21],none⟩,
 m 20 22,e 23 0 20,e 24 1 20,m 11 23,m 12 24]<|.seq (.q [m 25 12,o 26 (.un .not) 25]<|.cond (.t 26) (.q [i 10 2]<|.ret) (.skip))<|
 .q [l 28 5 3 true 5,l 29 6 3 true 6,c 30 267 [.t 28,.t 29],m 31 11,p 32 (.iaddr 3) [.t 31,.k (.i 0)],h 33 3 true 32,c 34 268 [.t 30,.k (.i 54),.t 33],m 27 34,
 e 35 0 27,e 36 1 27,⟨some 13,.alloc .reg Z,[],none⟩,s 13 3 13 35,m 14 36]<|.seq (.q [m 37 14,p 38 (.bin .eql) [.t 37,.k (.i 4)]]<|.cond (.t 38) (.q [
 i 10 6]<|.ret) (.skip))<|.seq (.q [m 39 14,p 40 (.bin .neq) [.t 39,.k (.i 0)]]<|.cond (.t 40) (.q [m 41 14,m 10 41]<|.ret) (.skip))<|.q [l 43 13 3 true 13,
 ⟨some 44,.call 79,[.k (.s ⟨#[116,105,109,101]⟩),.k (.i 2),.t 43],none⟩,m 42 44,e 45 0 42,e 46 1 42,m 15 45,m 16 46]<|.seq (.q [m 47 16,o 48 (.un .not) 47]<|
 .cond (.t 48) (.q [i 10 2]<|.ret) (.skip))<|.q [m 50 15,p 51 (.iaddr 3) [.t 50,.k (.i 0)],h 52 3 true 51,c 53 88 [.t 52],m 49 53,e 54 0 49,
 e 55 1 49,m 17 54,m 18 55]<|.seq (.q [m 56 18,o 57 (.un .not) 56]<|.cond (.t 57) (.q [i 10 2]<|.ret) (.skip))<|.q [m 58 15,
 p 59 (.iaddr 3) [.t 58,.k (.i 1)],h 60 3 true 59,l 61 7 3 true 7,c 62 265 [.t 61],c 63 61 [.t 60,.t 62],m 19 63]<|.seq (.q [m 64 19,o 65 (.un .not) 64]<|.cond (.t 65) (.q [
 i 10 6]<|.ret) (.skip))<|.seq (.q [m 66 17,m 67 4,p 68 (.bin .lss) [.t 66,.t 67],m 69 68,w 70 .mov [.t 4] 69 true,w 71 .mov [.t 17] 69 true,
 w 72 (.bin .sub) [.t 70,.t 71] 69 true,w 73 (.bin .gtr) [.t 72,.k (.i 5)] 69 true,p 74 .pick [.t 69,.t 73,.k (.b false)],m 75 74,w 76 .mov [.t 17] 75 false,w 77 .mov [.t 4] 75 false,w 78 (.bin .gtr) [.t 76,.t 77] 75 false,
 w 79 .mov [.t 78] 75 false,w 80 .mov [.t 17] 79 true,w 81 .mov [.t 4] 79 true,w 82 (.bin .sub) [.t 80,.t 81] 79 true,w 83 (.bin .gtr) [.t 82,.k (.i 5)] 79 true,w 84 .pick [.t 79,.t 83,.k (.b false)] 75 false,
 p 85 .pick [.t 75,.k (.b true),.t 84]]<|.cond (.t 85) (.q [i 10 5]<|.ret) (.skip))<|.q [i 10 0]<|.ret
def vX:za:=⟨86,kV,[.tmp 10]⟩
def zpn:ACode:=.q [x 2 0,x 3 1,⟨some 4,.alloc .reg Z,[],none⟩]<|.q [l 5 3 3 true 3,l 6 2 3 true 2,c 7 269 [.t 5,.t 6],
 ⟨some 8,.pur (.buildSl 3 1 Z [0]),[.t 7],none⟩,⟨some 9,.call 62,[.k (.s ⟨#[115,112,97,107,101]⟩),.t 8],none⟩,s 4 3 4 9]<|.ret
def zgV:za:=⟨10,zpn,[.cell 4 3 true]⟩
def zeL:ACode:=.q [x 4 0,x 5 1,x 6 2,x 7 3,⟨some 8,.alloc .reg Z,[],none⟩,i 9 0]<|.q [l 16 7 3 true 7,
 ⟨some 17,.call 78,[.k (.s ⟨#[115,112,97,107,101]⟩),.k (.i 2),.t 16],none⟩,m 15 17,e 18 0 15,e 19 1 15,m 10 18,m 11 19]<|.seq (.q [m 20 11,o 21 (.un .not) 20]<|
 .cond (.t 21) (.q [⟨some 22,.pur (.build Z []),[],none⟩,s 8 3 8 22,i 9 2]<|.ret) (.skip))<|.q [m 24 10,p 25 (.iaddr 3) [.t 24,.k (.i 0)],h 26 3 true 25,
 l 27 4 3 true 4,c 28 270 [.t 26,.t 27],m 23 28,e 29 0 23,e 30 1 23,⟨some 12,.alloc .reg Z,[],none⟩,s 12 3 12 29,m 13 30]<|.seq (.q [
 m 31 13,p 32 (.bin .neq) [.t 31,.k (.i 0)]]<|.cond (.t 32) (.q [⟨some 33,.pur (.build Z []),[],none⟩,m 34 13,s 8 3 8 33,m 9 34]<|.ret) (.skip))<|.q [l 35 12 3 true 12,
 l 36 6 3 true 6,l 37 4 3 true 4,l 38 6 3 true 6,l 39 4 3 true 4,c 40 269 [.t 38,.t 39],m 41 10,p 42 (.iaddr 3) [.t 41,.k (.i 0)],h 43 3 true 42,
 l 44 5 3 true 5,⟨some 45,.pur (.build [.i 0,E,N,.i 0,E,N,.i 0,E,N,.i 0,E,N,.i 0,E,N,.i 0,E,N] [(0,3),(3,3),(6,3),(9,3),(12,3),(15,3)]),[.t 35,.t 36,.t 37,.t 40,.t 43,.t 44],none⟩,
 ⟨some 14,.alloc .reg [.i 0,E,N,.i 0,E,N,.i 0,E,N,.i 0,E,N,.i 0,E,N,.i 0,E,N],[],none⟩,s 14 18 14 45]<|.seq (.q [m 46 10,
 p 47 (.iaddr 3) [.t 46,.k (.i 1)],h 48 3 true 47,l 49 14 18 true 14,c 50 271 [.t 49],c 51 118 [.t 48,.t 50],o 52 (.un .not) 51]<|.cond (.t 52) (.q [⟨some 53,.pur (.build Z []),[],none⟩,
 s 8 3 8 53,i 9 6]<|.ret) (.skip))<|.q [l 54 14 18 true 14,c 55 272 [.t 54,.k (.i 0)],s 8 3 8 55,i 9 0]<|.ret
def zb6:za:=⟨56,zeL,[.cell 8 3 true,.tmp 9]⟩
def zpo:ACode:=.q [x 1 0,⟨some 2,.alloc .reg Z,[],none⟩]<|.q [l 3 1 3 true 1,⟨some 4,.pur (.buildSl 3 1 Z [0]),[.t 3],none⟩,⟨some 5,.call 62,[.k (.s ⟨#[111,116,112]⟩),.t 4],none⟩,s 2 3 2 5]<|.ret
def zgW:za:=⟨6,zpo,[.cell 2 3 true]⟩
def zpp:ACode:=.q [x 2 0,⟨some 4,.alloc .reg Z,[],none⟩]<|.q [l 5 2 3 true 2,m 6 1,c 7 139 [.t 6],⟨some 8,.pur (.bin .add),[.k (.s ⟨#[111,116,112,32]⟩),.t 7],none⟩,c 9 259 [.t 5,.t 8],
 s 4 3 4 9]<|.ret
def zgX:za:=⟨10,zpp,[.cell 4 3 true]⟩
def zkT:ACode:=.seq (.q [m 61 18,f 62 0 9,l 63 9 1 false 62,f 64 1 9,l 65 9 1 false 64,p 66 (.bin .add) [.t 63,.t 65],f 67 2 9,l 68 9 1 false 67,
 p 69 (.bin .add) [.t 66,.t 68],p 70 (.bin .leq) [.t 61,.t 69]]<|.cond (.t 70) (.skip) (.exit 1))<|.seq (.block 2 (.ops [m 73 17,m 74 18,⟨some 75,.pur (.buildSl 1 1 [.i 0] [0]),[.t 74],none⟩,⟨some 76,.append 1 8,[.t 73,.t 75],none⟩,m 17 76]))<|.ops [
 m 71 18,p 72 (.bin .add) [.t 71,.k (.i 1)],m 18 72]
def zb7:ACode:=.q [x 5 0,x 6 1,x 7 2,o 8 .ibox 3,x 9 4,k 10 N,i 11 0]<|.q [l 20 7 3 true 7,
 ⟨some 21,.call 78,[.k (.s ⟨#[111,116,112]⟩),.k (.i 1),.t 20],none⟩,m 19 21,e 22 0 19,e 23 1 19,m 12 22,m 13 23]<|.seq (.q [m 24 13,o 25 (.un .not) 24]<|
 .cond (.t 25) (.q [k 10 N,i 11 2]<|.ret) (.skip))<|.q [l 27 5 3 true 5,m 28 12,p 29 (.iaddr 3) [.t 28,.k (.i 0)],h 30 3 true 29,c 31 263 [.t 27,.k (.i 45),.t 30],
 m 26 31,e 32 0 26,e 33 1 26,⟨some 14,.alloc .reg Z,[],none⟩,s 14 3 14 32,m 15 33]<|.seq (.q [m 34 15,p 35 (.bin .neq) [.t 34,.k (.i 0)]]<|
 .cond (.t 35) (.q [m 36 15,k 10 N,m 11 36]<|.ret) (.skip))<|.q [l 38 14 3 true 14,⟨some 39,.call 78,[.k (.s ⟨#[99,111,100,101]⟩),.k (.i 2),.t 38],none⟩,m 37 39,e 40 0 37,
 e 41 1 37,⟨some 16,.alloc .heap [N],[],none⟩,⟨none,.st none 1,[.t 16,.t 40],none⟩,m 13 41]<|.seq (.block 0 (.q [m 43 13,o 44 (.un .not) 43,m 42 44]<|.cond (.t 42) (.q [
 k 10 N,i 11 2]<|.ret) (.q [h 46 1 false 16,p 47 (.iaddr 3) [.t 46,.k (.i 0)],h 48 3 true 47,l 49 6 3 true 6,c 50 118 [.t 48,.t 49],o 51 (.un .not) 50,
 m 45 51]<|.cond (.t 45) (.q [k 10 N,i 11 6]<|.ret) (.q [l 53 9 6 true 9,c 54 273 [.t 53],o 55 (.un .not) 54,m 52 55]<|.cond (.t 52) (.q [
 k 10 N,i 11 0]<|.ret) (.skip)))))<|.q [f 56 3 9,l 57 9 1 false 56,⟨some 58,.pur (.buildSl 1 1 [.i 0] [0]),[.t 57],none⟩,m 17 58]<|.seq (.q [f 59 0 9,
 l 60 9 1 false 59,m 18 60]<|.block 1 (.loop [61,62,63,64,65,66,67,68,69,70,71,72,73,74,75,76] [] zkT))<|.q [m 77 17,c 78 274 [.t 77]]<|.q [m 79 17,c 80 276 [.t 79],
 p 81 (.mkfn 277 0) [.t 16,.t 8],c 82 275 [.t 80,.t 81],m 10 82,i 11 0]<|.ret
def zaz:za:=⟨83,zb7,[.tmp 10,.tmp 11]⟩
def zpq:ACode:=.q [⟨some 2,.alloc .reg Z,[],none⟩]<|.q [m 3 0,⟨some 4,.pur (.build Z [(0,1),(1,1)]),[.k (.i 1),.t 3],none⟩,s 2 3 2 4]<|.ret
def zgY:za:=⟨5,zpq,[.cell 2 3 true]⟩
def zpr:ACode:=.q [k 0 (.b false)]<|.q [⟨some 12,.pur (.buildSl 1 1 [E] [0]),[.k (.s ⟨#[99,104,97,108,108,101,110,103,101]⟩)],none⟩,⟨some 13,.pur (.buildSl 1 1 [E] [0]),[.k (.s ⟨#[111,116,112]⟩)],none⟩,c 14 164 [.t 12,.t 13,.k (.i 8)],m 11 14,
 e 15 0 11,e 16 1 11,e 17 2 11,m 1 15,m 2 16,m 3 17]<|.seq (.q [m 18 3,o 19 (.un .not) 18]<|.cond (.t 19) (.q [
 k 0 (.b false)]<|.ret) (.skip))<|.q [m 20 1,m 21 2,⟨some 22,.pur (.build [.sc (.pointer none),.sc (.pointer none),N,.i 0,.i 0,E,N] [(0,1),(1,1)]),[.t 20,.t 21],none⟩,⟨some 23,.box .heap,[.t 22],none⟩,m 4 23]<|
 .q [m 24 1,⟨some 25,.call 174,[.k (.s ⟨#[120]⟩)],none⟩,c 26 168 [.t 24,.t 25,.k (.i 0)],⟨some 5,.alloc .reg Z,[],none⟩,s 5 3 5 26]<|.q [m 27 2,⟨some 28,.call 174,[.k (.s ⟨#[120]⟩)],none⟩,
 c 29 137 [.t 27,.t 28,.k (.i 0)]]<|.q [l 31 5 3 true 5,c 32 97 [.t 31],m 30 32,e 33 0 30,e 34 1 30,m 6 33,m 7 34]<|.q [
 m 35 4,⟨some 36,.pur (.build [.i 0,.i 0,.i 0,.i 0,.i 0,.i 0,.i 0,.i 0,E,N,.b false] [(4,1)]),[.k (.i 7)],none⟩,c 37 166 [.t 35,.t 36],m 8 37]<|.q [m 38 4,
 ⟨some 39,.pur (.build [.i 0,.i 0,.i 0,.i 0,.i 0,.i 0,.i 0,.i 0,E,N,.b false] [(2,1),(3,1)]),[.k (.i 1),.k (.i 8)],none⟩,c 40 166 [.t 38,.t 39],m 9 40]<|.q [m 41 1,c 42 102 [.t 41],m 10 42]<|
 .q [m 43 6,p 44 (.bin .eql) [.t 43,.k (.i 2)],m 45 44,w 46 .mov [.t 7] 45 true,p 47 .pick [.t 45,.t 46,.k (.b false)],m 48 47,w 49 .mov [.t 8] 48 true,p 50 .pick [.t 48,.t 49,.k (.b false)],
 m 51 50,w 52 .mov [.t 9] 51 true,p 53 .pick [.t 51,.t 52,.k (.b false)],m 54 53,w 55 .mov [.t 10] 54 true,w 56 .lenL [.t 55] 54 true,w 57 (.bin .eql) [.t 56,.k (.i 1)] 54 true,
 p 58 .pick [.t 54,.t 57,.k (.b false)],m 59 58,w 60 .mov [.t 10] 59 true,w 61 (.iaddr 6) [.t 60,.k (.i 0)] 59 true,w 62 (.faddr 0) [.t 61] 59 true,u 63 (.ld none 1 false) [.t 62] 59 true,⟨some 64,.pur (.bin .eql),[.t 63,.k (.s ⟨#[97]⟩)],some (59,true)⟩,
 p 65 .pick [.t 59,.t 64,.k (.b false)],m 66 65,w 67 .mov [.t 10] 66 true,w 68 (.iaddr 6) [.t 67,.k (.i 0)] 66 true,w 69 (.faddr 2) [.t 68] 66 true,u 70 (.ld none 1 false) [.t 69] 66 true,w 71 .lenL [.t 70] 66 true,
 w 72 (.bin .eql) [.t 71,.k (.i 1)] 66 true,p 73 .pick [.t 66,.t 72,.k (.b false)],m 0 73]<|.ret
def zgZ:za:=⟨74,zpr,[.tmp 0]⟩
def zps:ACode:=.q [k 6 (.sc (.pointer none)),k 7 (.sc (.pointer none)),k 8 (.b false)]<|.q [m 14 0,⟨some 15,.call 279,[.k (.s ⟨#[97]⟩),.t 14],none⟩,m 16 1,⟨some 17,.call 279,[.k (.s ⟨#[98]⟩),.t 16],none⟩,
 ⟨some 18,.pur (.buildSl 15 2 [E,.i 0,E,N,N,.i 0,E,N,.i 0,.i 0,.i 0,.i 0,.i 0,.i 0,.i 0] [0,1]),[.t 15,.t 17],none⟩,m 9 18]<|.q [⟨some 20,.call 174,[.k (.s ⟨#[107,100,99]⟩)],none⟩,⟨some 21,.call 174,[.k (.s ⟨#[99,111,111,107,105,101]⟩)],none⟩,
 m 22 9,m 23 2,c 24 205 [.t 20,.t 21,.t 22,.t 23],m 19 24,e 25 0 19,e 26 1 19,m 10 25,m 11 26]<|.q [
 ⟨some 28,.call 174,[.k (.s ⟨#[107,100,99]⟩)],none⟩,⟨some 29,.call 174,[.k (.s ⟨#[99,111,111,107,105,101]⟩)],none⟩,m 30 9,m 31 2,c 32 235 [.t 28,.t 29,.t 30,.t 31],m 27 32,e 33 0 27,e 34 1 27,
 m 12 33,m 13 34]<|.q [m 35 10,m 36 12,m 37 10,o 38 (.nilP true) 37,m 39 38,w 40 .mov [.t 12] 39 true,w 41 (.nilP true) [.t 40] 39 true,
 p 42 .pick [.t 39,.t 41,.k (.b false)],m 43 42,w 44 .mov [.t 11] 43 true,w 45 (.bin .eql) [.t 44,.k (.i 0)] 43 true,p 46 .pick [.t 43,.t 45,.k (.b false)],m 47 46,w 48 .mov [.t 13] 47 true,
 w 49 (.bin .eql) [.t 48,.k (.i 0)] 47 true,p 50 .pick [.t 47,.t 49,.k (.b false)],m 6 35,m 7 36,m 8 50]<|.ret
def zg0:za:=⟨51,zps,[.tmp 6,.tmp 7,.tmp 8]⟩
def zaA:ACode:=.q [k 2 N]<|.q [⟨some 3,.pur .mov,[.k (.s ⟨#[99,104,97,108,108,101,110,103,101]⟩)],none⟩]<|.q [⟨some 4,.pur .mov,[.k (.s ⟨#[111,116,112]⟩)],none⟩]<|.q [⟨some 5,.pur .mov,[.k (.s ⟨#[115,112,97,107,101]⟩)],none⟩]<|.q [m 7 3,
 ⟨some 8,.pur (.buildSl 1 1 [E] [0]),[.t 7],none⟩,m 9 4,⟨some 10,.pur (.buildSl 1 1 [E] [0]),[.t 9],none⟩,m 11 5,⟨some 12,.pur (.buildSl 1 1 [E] [0]),[.t 11],none⟩,m 13 3,m 14 4,⟨some 15,.pur (.buildSl 1 2 [E] [0,1]),[.t 13,.t 14],none⟩,
 m 16 4,m 17 5,⟨some 18,.pur (.buildSl 1 2 [E] [0,1]),[.t 16,.t 17],none⟩,m 19 5,m 20 3,⟨some 21,.pur (.buildSl 1 2 [E] [0,1]),[.t 19,.t 20],none⟩,m 22 3,m 23 4,m 24 5,
 ⟨some 25,.pur (.buildSl 1 3 [E] [0,1,2]),[.t 22,.t 23,.t 24],none⟩,m 26 5,m 27 4,m 28 3,⟨some 29,.pur (.buildSl 1 3 [E] [0,1,2]),[.t 26,.t 27,.t 28],none⟩,
 p 30 (.buildSl 1 8 [N] [0,1,2,3,4,5,6,7]) [.t 8,.t 10,.t 12,.t 15,.t 18,.t 21,.t 25,.t 29],m 6 30]<|.q [m 31 6,m 32 0,p 33 (.bin .and) [.t 32,.k (.i 7)],p 34 (.iaddr 1) [.t 31,.t 33],
 h 35 1 false 34,m 2 35]<|.ret
def f165:za:=⟨36,zaA,[.tmp 2]⟩
def zpt:ACode:=.q [x 3 1,k 4 (.b false)]<|.q [m 8 0,m 9 0,o 10 .nilchk 9,f 11 3 10,h 12 1 false 11,f 13 6 3,
 l 14 3 1 false 13,p 15 (.bin .and) [.t 14,.k (.i 31)],p 16 (.bin .add) [.t 12,.t 15],o 17 .nilchk 8,f 18 3 17,⟨none,.st none 1,[.t 18,.t 16],none⟩]<|.seq (.q [f 19 10 3,l 20 3 1 false 19]<|
 .cond (.t 20) (.q [m 21 0,o 22 .nilchk 21,f 23 0 22,h 24 1 false 23,c 25 169 [.t 24]]<|.ops [m 26 0,o 27 .nilchk 26,f 28 1 27,
 h 29 1 false 28,c 30 280 [.t 29]]) (.skip))<|.q [m 31 0,l 32 3 11 true 3,c 33 167 [.t 31,.t 32],⟨some 5,.alloc .reg Z,[],none⟩,s 5 3 5 33]<|.q [m 34 0,
 o 35 .nilchk 34,f 36 0 35,h 37 1 false 36,l 38 5 3 true 5,m 39 0,o 40 .nilchk 39,f 41 3 40,h 42 1 false 41,c 43 168 [.t 37,.t 38,.t 42],
 ⟨some 6,.alloc .reg Z,[],none⟩,s 6 3 6 43]<|.q [m 44 0,o 45 .nilchk 44,f 46 1 45,h 47 1 false 46,l 48 5 3 true 5,m 49 0,
 o 50 .nilchk 49,f 51 3 50,h 52 1 false 51,c 53 137 [.t 47,.t 48,.t 52],⟨some 7,.alloc .reg Z,[],none⟩,s 7 3 7 53]<|.q [m 54 0,l 55 5 3 true 5,
 o 56 .nilchk 54,f 57 4 56,⟨none,.st none 3,[.t 57,.t 55],none⟩]<|.q [m 58 0,l 59 3 11 true 3,l 60 7 3 true 7,c 61 281 [.t 58,.t 59,.t 60]]<|.q [l 62 6 3 true 6,
 l 63 7 3 true 7,c 64 61 [.t 62,.t 63],m 4 64]<|.ret
def f166:za:=⟨65,zpt,[.tmp 4]⟩
def vu:ACode:=.q [x 3 1,⟨some 4,.alloc .reg Z,[],none⟩]<|.q [⟨some 22,.pur (.buildSl 1 3 [E] [0,1,2]),[.k (.s ⟨#[97]⟩),.k (.s ⟨#[98]⟩),.k (.s ⟨#[99]⟩)],none⟩,f 23 0 3,l 24 3 1 false 23,
 p 25 (.bin .and) [.t 24,.k (.i 255)],p 26 (.bin .rem) [.t 25,.k (.i 3)],p 27 (.iaddr 1) [.t 22,.t 26],h 28 1 false 27,m 5 28]<|.q [f 29 1 3,l 30 3 1 false 29,
 p 31 (.bin .and) [.t 30,.k (.i 3)],c 32 139 [.t 31],⟨some 33,.pur (.bin .add),[.k (.s ⟨#[110]⟩),.t 32],none⟩,m 6 33]<|.q [m 34 6,⟨some 35,.pur (.bin .add),[.k (.s ⟨#[115,117,98,32]⟩),.t 34],none⟩,c 36 174 [.t 35],
 ⟨some 7,.alloc .reg Z,[],none⟩,s 7 3 7 36]<|.q [⟨some 37,.call 174,[.k (.s ⟨#[104,111,115,116]⟩)],none⟩,⟨some 8,.alloc .reg Z,[],none⟩,s 8 3 8 37]<|.q [m 38 5,
 ⟨some 39,.pur (.bin .add),[.k (.s ⟨#[112,97,115,115,119,111,114,100,32]⟩),.t 38],none⟩,c 40 174 [.t 39],m 41 5,c 42 145 [.t 40,.t 41],⟨some 9,.alloc .reg Z,[],none⟩,s 9 3 9 42]<|.q [l 43 7 3 true 7,
 l 44 8 3 true 8,c 45 175 [.t 43,.t 44],⟨some 10,.alloc .reg Z,[],none⟩,s 10 3 10 45]<|.q [m 46 5,m 47 6,c 48 77 [.t 46,.t 47],
 ⟨some 11,.alloc .reg Z,[],none⟩,s 11 3 11 48]<|.q [c 49 75 [],⟨some 12,.alloc .reg Z,[],none⟩,s 12 3 12 49]<|.q [c 50 75 [],⟨some 13,.alloc .reg Z,[],none⟩,
 s 13 3 13 50]<|.q [c 51 75 [],⟨some 14,.alloc .reg Z,[],none⟩,s 14 3 14 51]<|.q [c 52 75 [],⟨some 15,.alloc .reg Z,[],none⟩,s 15 3 15 52]<|.seq (.q [
 m 53 0,o 54 .nilchk 53,f 55 2 54,h 56 1 false 55,o 57 .lenL 56,p 58 (.bin .gtr) [.t 57,.k (.i 0)],m 59 58,w 60 (.faddr 4) [.t 3] 59 true,
 u 61 (.ld (some 3) 1 false) [.t 60] 59 true,w 62 (.bin .and) [.t 61,.k (.i 7)] 59 true,w 63 (.bin .neq) [.t 62,.k (.i 7)] 59 true,p 64 .pick [.t 59,.t 63,.k (.b false)]]<|.cond (.t 64) (.q [m 65 0,o 66 .nilchk 65,
 f 67 2 66,h 68 1 false 67,m 69 0,o 70 .nilchk 69,f 71 2 70,h 72 1 false 71,o 73 .lenL 72,p 74 (.bin .sub) [.t 73,.k (.i 1)],f 75 4 3,
 l 76 3 1 false 75,p 77 (.bin .and) [.t 76,.k (.i 7)],m 78 0,o 79 .nilchk 78,f 80 2 79,h 81 1 false 80,o 82 .lenL 81,p 83 (.bin .rem) [.t 77,.t 82],
 p 84 (.bin .sub) [.t 74,.t 83],p 85 (.iaddr 9) [.t 68,.t 84],h 86 9 true 85,⟨some 16,.alloc .reg [.i 0,E,N,.i 0,E,N,.i 0,E,N],[],none⟩,s 16 9 16 86]<|.q [f 87 0 16,
 l 88 16 3 true 87,s 14 3 14 88]<|.q [f 89 3 16,l 90 16 3 true 89,s 13 3 13 90]<|.ops [f 91 6 16,l 92 16 3 true 91,
 s 15 3 15 92]) (.skip))<|.seq (.q [f 93 2 3,l 94 3 1 false 93]<|.block 0 (.q [p 96 (.bin .eql) [.t 94,.k (.i 1)],m 95 96]<|.cond (.t 95) (.ops [l 97 10 3 true 10,
 l 98 9 3 true 9,l 99 11 3 true 11,m 100 0,o 101 .nilchk 100,f 102 3 101,h 103 1 false 102,f 104 3 3,l 105 3 1 false 104,
 p 106 (.bin .and) [.t 105,.k (.i 15)],p 107 (.bin .add) [.t 103,.t 106],p 108 (.bin .sub) [.t 107,.k (.i 8)],c 109 150 [.t 97,.t 98,.t 99,.t 108],s 12 3 12 109]) (.q [p 111 (.bin .eql) [.t 94,.k (.i 2)],m 110 111]<|
 .cond (.t 110) (.ops [l 113 10 3 true 10,l 114 15 3 true 15,c 115 283 [.t 114],m 116 5,⟨some 117,.pur (.bin .add),[.k (.s ⟨#[115,101,101,100,32]⟩),.t 116],none⟩,c 118 174 [.t 117],f 119 3 3,
 l 120 3 1 false 119,p 121 (.bin .and) [.t 120,.k (.i 31)],c 122 158 [.t 118,.t 121],c 123 282 [.t 113,.t 115,.t 122],m 112 123,e 124 0 112,e 125 1 112,
 s 12 3 12 124]) (.q [p 127 (.bin .eql) [.t 94,.k (.i 3)],m 126 127]<|.cond (.t 126) (.q [l 129 9 3 true 9,l 130 11 3 true 11,l 131 14 3 true 14,⟨some 132,.call 174,[.k (.s ⟨#[120]⟩)],none⟩,
 c 133 284 [.t 129,.t 130,.t 131,.t 132],m 128 133,e 134 0 128,e 135 1 128,e 136 2 128,⟨some 17,.alloc .reg Z,[],none⟩,⟨some 18,.alloc .reg Z,[],none⟩,
 s 17 3 17 134,s 18 3 18 135,m 19 136]<|.q [m 137 19,p 138 (.bin .eql) [.t 137,.k (.i 0)]]<|.cond (.t 138) (.ops [l 139 17 3 true 17,s 12 3 12 139]) (.skip)) (.q [
 p 141 (.bin .eql) [.t 94,.k (.i 4)],m 140 141]<|.cond (.t 140) (.q [f 142 7 3,l 143 3 3 true 142,c 144 142 [.t 143],p 145 (.bin .leq) [.t 144,.k (.i 100)]]<|.cond (.t 145) (.ops [f 146 7 3,
 l 147 3 3 true 146,s 12 3 12 147]) (.skip)) (.skip))))))<|.q [⟨some 148,.call 174,[.k (.s ⟨#[107,100,99]⟩)],none⟩,l 149 8 3 true 8,c 150 286 [.t 148,.t 149],l 151 8 3 true 8,l 152 7 3 true 7,
 c 153 285 [.t 150,.t 151,.t 152],⟨some 20,.alloc .reg Z,[],none⟩,s 20 3 20 153]<|.q [l 154 10 3 true 10,l 155 11 3 true 11,l 156 12 3 true 12,l 157 13 3 true 13,
 c 158 287 [.t 154,.t 155,.t 156,.t 157],⟨some 21,.alloc .reg Z,[],none⟩,s 21 3 21 158]<|.seq (.q [f 159 5 3,l 160 3 1 false 159]<|.block 1 (.q [p 162 (.bin .eql) [.t 160,.k (.i 1)],
 m 161 162]<|.cond (.t 161) (.ops [l 163 7 3 true 7,l 164 11 3 true 11,l 165 12 3 true 12,l 166 13 3 true 13,c 167 287 [.t 163,.t 164,.t 165,.t 166],s 21 3 21 167]) (.q [
 p 169 (.bin .eql) [.t 160,.k (.i 2)],m 168 169]<|.cond (.t 168) (.ops [l 170 8 3 true 8,l 171 8 3 true 8,c 172 286 [.t 170,.t 171],l 173 8 3 true 8,l 174 7 3 true 7,
 c 175 285 [.t 172,.t 173,.t 174],s 20 3 20 175]) (.q [p 177 (.bin .eql) [.t 160,.k (.i 3)],m 176 177]<|.cond (.t 176) (.ops [l 178 10 3 true 10,l 179 7 3 true 7,l 180 12 3 true 12,
 l 181 13 3 true 13,c 182 287 [.t 178,.t 179,.t 180,.t 181],s 21 3 21 182]) (.q [p 184 (.bin .eql) [.t 160,.k (.i 4)],m 183 184]<|.cond (.t 183) (.q [f 185 7 3,l 186 3 3 true 185,
 s 4 3 4 186]<|.ret) (.q [p 188 (.bin .eql) [.t 160,.k (.i 5)],m 187 188]<|.cond (.t 187) (.q [m 189 0,o 190 .nilchk 189,f 191 4 190,f 192 0 191,
 h 193 1 false 192,p 194 (.bin .neq) [.t 193,.k (.i 0)]]<|.cond (.t 194) (.q [m 195 0,o 196 .nilchk 195,f 197 4 196,h 198 3 true 197,s 4 3 4 198]<|.ret) (.skip)) (.q [
 p 200 (.bin .eql) [.t 160,.k (.i 6)],m 199 200]<|.cond (.t 199) (.ops [l 201 10 3 true 10,l 202 11 3 true 11,l 203 12 3 true 12,l 204 7 3 true 7,m 205 5,m 206 6,
 l 207 15 3 true 15,⟨some 208,.pur (.build [E,E,N,.i 0,E,N,.i 0] [(0,1),(1,1),(3,3),(6,1)]),[.t 205,.t 206,.t 207,.k (.i 1000)],none⟩,c 209 111 [.t 204,.t 208],c 210 287 [.t 201,.t 202,.t 203,.t 209],
 s 21 3 21 210]) (.skip))))))))<|.q [l 211 11 3 true 11,l 212 20 3 true 20,l 213 21 3 true 21,c 214 71 [.t 211,.t 212,.t 213],s 4 3 4 214]<|.ret
def qb:za:=⟨215,vu,[.cell 4 3 true]⟩
def zdc:ACode:=.q [x 4 1,⟨some 6,.alloc .reg Z,[],none⟩]<|.q [m 11 0,l 12 4 3 true 4,m 13 2,c 14 288 [.t 11,.t 12,.t 13],m 10 14,
 e 15 0 10,e 16 1 10,
 ⟨some 7,.alloc .reg [E,E,N,.i 0,E,N,.i 0,.i 0,E,N,.i 0,E,N,.i 0,E,N,E,.i 0,E,N,N,.i 0,E,N,.i 0,.i 0,.i 0,.i 0,.i 0,.i 0,.i 0,.i 0],[],none⟩,
 s 7 32 7 15,m 8 16]<|.seq (.q [m 17 8,p 18 (.bin .neq) [.t 17,.k (.i 0)]]<|.cond (.t 18) (.q [m 19 8,c 20 72 [.t 19],s 6 3 6 20]<|.ret) (.skip))<|.seq (.q [
 f 21 13 7,l 22 7 3 true 21,c 23 83 [.t 22]]<|.cond (.t 23) (.q [m 24 0,l 25 7 32 true 7,c 26 289 [.t 24,.t 25],s 6 3 6 26]<|.ret) (.skip))<|.q [m 28 0,
 l 29 7 32 true 7,c 30 290 [.t 28,.t 29],m 27 30,e 31 0 27,e 32 1 27,⟨some 9,.alloc .reg [.i 0,E,N,N],[],none⟩,s 9 4 9 31,m 8 32]<|
 .seq (.q [m 33 8,p 34 (.bin .neq) [.t 33,.k (.i 0)]]<|.cond (.t 34) (.q [m 35 8,c 36 72 [.t 35],s 6 3 6 36]<|.ret) (.skip))<|.q [f 37 0 7,f 38 2 37,
 l 39 7 1 false 38,c 40 202 [.t 39],l 41 7 32 true 7,c 42 291 [.t 41],⟨some 43,.pur (.buildSl 1 1 [E] [0]),[.t 42],none⟩,⟨some 44,.append 1 16,[.t 40,.t 43],none⟩,f 45 0 7,f 46 2 45,
 s 7 1 46 44]<|.seq (.q [f 47 0 7,f 48 2 47,l 49 7 1 false 48,o 50 .lenL 49,f 51 16 7,f 52 4 51,l 53 7 1 false 52,
 o 54 .lenL 53,p 55 (.bin .eql) [.t 50,.t 54]]<|.cond (.t 55) (.q [m 56 0,l 57 7 32 true 7,f 58 0 9,l 59 9 3 true 58,c 60 292 [.t 56,.t 57,.t 59],s 6 3 6 60]<|
 .ret) (.skip))<|.q [m 61 0,l 62 7 32 true 7,c 63 289 [.t 61,.t 62],s 6 3 6 63]<|.ret
def zbn:za:=⟨64,zdc,[.cell 6 3 true]⟩
def zpu:ACode:=.ops [m 2 0,m 3 0,o 4 .nilchk 3,f 5 7 4,h 6 1 false 5,c 7 50 [.t 6],o 8 .nilchk 2,f 9 8 8,⟨none,.st none 1,[.t 9,.t 7],none⟩]
def f169:za:=⟨10,zpu,[]⟩
def zkU:ACode:=.q [x 1 0,i 2 0]<|.q [l 6 1 3 true 1,c 7 97 [.t 6],m 5 7,e 8 0 5,e 9 1 5,m 3 8,m 4 9]<|
 .seq (.q [m 10 4,o 11 (.un .not) 10]<|.cond (.t 11) (.q [i 2 0]<|.ret) (.skip))<|.q [m 12 3,m 2 12]<|.ret
def zeM:za:=⟨13,zkU,[.tmp 2]⟩
def zpv:ACode:=.q [x 2 0,x 3 1,⟨some 4,.alloc .reg Z,[],none⟩]<|.q [l 5 2 3 true 2,l 6 3 3 true 3,⟨some 7,.pur (.buildSl 3 2 Z [0,1]),[.t 5,.t 6],none⟩,
 ⟨some 8,.pur (.build Z [(0,1),(2,1)]),[.k (.i 10),.t 7],none⟩,s 4 3 4 8]<|.ret
def f172:za:=⟨9,zpv,[.cell 4 3 true]⟩
def zpw:ACode:=.q [x 1 0,⟨some 2,.alloc .reg Z,[],none⟩]<|.q [l 3 1 3 true 1,⟨some 4,.pur (.buildSl 3 1 Z [0]),[.t 3],none⟩,⟨some 5,.pur (.build Z [(0,1),(2,1)]),[.k (.i 8),.t 4],none⟩,
 s 2 3 2 5]<|.ret
def zg1:za:=⟨6,zpw,[.cell 2 3 true]⟩
def zpx:ACode:=.q [⟨some 2,.alloc .reg Z,[],none⟩]<|.q [m 3 0,c 4 130 [.t 3],s 2 3 2 4]<|.ret
def zg2:za:=⟨5,zpx,[.cell 2 3 true]⟩
def zpy:ACode:=.q [x 2 0,x 3 1,⟨some 4,.alloc .reg Z,[],none⟩]<|.q [l 5 2 3 true 2,l 6 3 3 true 3,
 ⟨some 7,.call 293,[.t 5,.t 6,.k (.s ⟨#[115,117,98,107,101,121,97,114,109,111,114]⟩),.k (.s ⟨#[116,105,99,107,101,116,97,114,109,111,114]⟩)],none⟩,s 4 3 4 7]<|.ret
def zg3:za:=⟨8,zpy,[.cell 4 3 true]⟩
def zkV:ACode:=.q [p 28 (.bin .lss) [.t 27,.t 26]]<|.seq (.cond (.t 28) (.skip) (.exit 2))<|.seq (.block 3 (.q [p 29 (.iaddr 1) [.t 25,.t 27],h 30 1 false 29,m 8 30]<|.ops [m 31 6,m 32 8,
 ⟨some 33,.append 3 48,[.t 31,.t 32],none⟩,m 6 33]))<|.ops [p 34 (.bin .add) [.t 27,.k (.i 1)],m 27 34]
def zkW:ACode:=.q [p 12 (.bin .lss) [.t 11,.t 10]]<|.seq (.cond (.t 12) (.skip) (.exit 0))<|.seq (.block 1 (.q [p 13 (.iaddr 1) [.t 9,.t 11],h 14 1 false 13,m 5 14]<|.q [m 15 3,m 16 5,
 o 17 .lenL 16,p 18 (.bin .add) [.t 15,.t 17],m 3 18]<|.q [m 19 3,p 20 (.bin .lss) [.t 19,.k (.i 0)]]<|.cond (.t 20) (.ops [⟨some 21,.bad,[],none⟩,⟨none,.bad,[],none⟩]) (.skip)))<|.ops [p 22 (.bin .add) [.t 11,.k (.i 1)],
 m 11 22]
def zpz:ACode:=.q [k 2 N]<|.q [i 3 0]<|.seq (.q [m 9 0,o 10 .lenL 9,i 11 0]<|.block 0 (.loop [5,12,13,14,15,16,17,18,19,20,21,22] [] zkW))<|.q [
 m 23 3,⟨some 24,.call 304,[.k N,.t 23],none⟩,m 6 24]<|.seq (.q [m 25 0,o 26 .lenL 25,i 27 0]<|.block 2 (.loop [8,28,29,30,31,32,33,34] [] zkV))<|.q [m 35 6,
 m 2 35]<|.ret
def zg4:za:=⟨36,zpz,[.tmp 2]⟩
def zpA:ACode:=.q [⟨some 2,.alloc .reg Z,[],none⟩]<|.q [m 3 0,⟨some 4,.call 228,[.k (.i 1),.t 3,.k N],none⟩,s 2 3 2 4]<|.ret
def zg5:za:=⟨5,zpA,[.cell 2 3 true]⟩
def zg6:ACode:=.q [x 1 0,⟨some 2,.pur .mov,[.k E],none⟩,k 3 (.b false)]<|.q [f 4 1 1,l 5 1 1 false 4,f 6 0 1,l 7 1 1 false 6,
 p 8 (.bin .eql) [.t 7,.k (.i 1)],m 9 8,w 10 (.faddr 2) [.t 1] 9 true,u 11 (.ld (some 1) 1 false) [.t 10] 9 true,w 12 .lenL [.t 11] 9 true,w 13 (.bin .eql) [.t 12,.k (.i 0)] 9 true,p 14 .pick [.t 9,.t 13,.k (.b false)],
 m 2 5,m 3 14]<|.ret
def zdd:za:=⟨15,zg6,[.tmp 2,.tmp 3]⟩
def zkX:ACode:=.q [⟨some 4,.pur .mov,[.k E],none⟩,k 5 (.b false)]<|.q [m 6 0,m 7 1,c 8 306 [.t 6,.t 7],e 9 0 8,e 10 1 8,m 4 9,
 m 5 10]<|.ret
def zeN:za:=⟨11,zkX,[.tmp 4,.tmp 5]⟩
def zpB:ACode:=.q [x 4 0,x 5 1,k 8 (.sc (.pointer none)),i 9 0]<|.q [m 14 2,c 15 313 [.t 14],m 13 15,e 16 0 13,
 e 17 1 13,m 10 16,m 11 17]<|.seq (.block 0 (.q [m 19 11,p 20 (.bin .neq) [.t 19,.k (.i 0)],m 18 20]<|.cond (.t 18) (.q [m 21 11,
 k 8 (.sc (.pointer none)),m 9 21]<|.ret) (.q [m 23 3,p 24 (.bin .lss) [.t 23,.k (.i 0)],m 25 24,w 26 .mov [.t 3] 25 false,w 27 (.bin .gtr) [.t 26,.k (.i 64)] 25 false,
 p 28 .pick [.t 25,.k (.b true),.t 27],m 22 28]<|.cond (.t 22) (.q [k 8 (.sc (.pointer none)),i 9 1]<|.ret) (.skip))))<|.q [l 29 4 3 true 4,l 30 5 3 true 5,m 31 10,
 m 32 3,⟨some 33,.pur (.build [.i 0,E,N,.i 0,E,N,.sc (.pointer none),.i 0,.sc (.pointer none),.i 0,N] [(0,3),(3,3),(6,1),(7,1)]),[.t 29,.t 30,.t 31,.t 32],none⟩,⟨some 34,.box .heap,[.t 33],none⟩,m 12 34]<|.q [
 m 35 12,c 36 169 [.t 35]]<|.q [m 37 12,m 8 37,i 9 0]<|.ret
def f205:za:=⟨38,zpB,[.tmp 8,.tmp 9]⟩
def zkY:ACode:=.q [x 1 0,k 2 (.b false)]<|.q [l 3 1 3 true 1,c 4 116 [.t 3],m 5 4,u 6 (.ld (some 1) 3 true) [.t 1] 5 true,u 7 (.call 117) [.t 6] 5 true,
 w 8 (.bin .leq) [.t 7,.k (.i 57)] 5 true,p 9 .pick [.t 5,.t 8,.k (.b false)],m 2 9]<|.ret
def zeO:za:=⟨10,zkY,[.tmp 2]⟩
def zkZ:ACode:=.q [x 1 0,k 2 (.b false)]<|.q [l 4 1 3 true 1,c 5 219 [.t 4],m 3 5]<|.q [m 6 3,m 7 6,u 8 (.ld (some 1) 3 true) [.t 1] 7 true,
 u 9 (.call 314) [.t 8,.k (.i 61)] 7 true,w 10 (.bin .leq) [.t 9,.k (.i 57)] 7 true,p 11 .pick [.t 7,.t 10,.k (.b false)],m 2 11]<|.ret
def zeP:za:=⟨12,zkZ,[.tmp 2]⟩
def zpC:ACode:=.q [⟨some 2,.alloc .reg Z,[],none⟩]<|.q [m 3 0,⟨some 4,.pur (.build Z [(0,1),(1,1)]),[.k (.i 1),.t 3],none⟩,s 2 3 2 4]<|.ret
def zg7:za:=⟨5,zpC,[.cell 2 3 true]⟩
def zeQ:ACode:=.q [⟨some 2,.pur .mov,[.k E],none⟩]<|.seq (.q [m 3 0,p 4 (.bin .lss) [.t 3,.k (.i 0)]]<|.cond (.t 4) (.seq (.q [m 5 0,p 6 (.bin .gtr) [.t 5,.k (.i (-10))]]<|.cond (.t 6) (.q [m 7 0,
 p 8 (.bin .sub) [.k (.i 48),.t 7],o 9 (.toInt .u8) 8,⟨some 10,.pur (.buildSl 1 1 [.sc (.int .u8 (0))] [0]),[.t 9],none⟩,o 11 .bytesStr 10,⟨some 12,.pur (.bin .add),[.k (.s ⟨#[45]⟩),.t 11],none⟩,m 2 12]<|.ret) (.skip))<|.q [m 13 0,
 p 14 (.bin .quo) [.t 13,.k (.i 10)],c 15 213 [.t 14],m 16 0,p 17 (.bin .rem) [.t 16,.k (.i 10)],p 18 (.bin .sub) [.k (.i 48),.t 17],o 19 (.toInt .u8) 18,⟨some 20,.pur (.buildSl 1 1 [.sc (.int .u8 (0))] [0]),[.t 19],none⟩,
 o 21 .bytesStr 20,p 22 (.bin .add) [.t 15,.t 21],m 2 22]<|.ret) (.skip))<|.seq (.q [m 23 0,p 24 (.bin .lss) [.t 23,.k (.i 10)]]<|.cond (.t 24) (.q [m 25 0,p 26 (.bin .add) [.k (.i 48),.t 25],
 o 27 (.toInt .u8) 26,⟨some 28,.pur (.buildSl 1 1 [.sc (.int .u8 (0))] [0]),[.t 27],none⟩,o 29 .bytesStr 28,m 2 29]<|.ret) (.skip))<|.q [m 30 0,p 31 (.bin .quo) [.t 30,.k (.i 10)],c 32 213 [.t 31],m 33 0,
 p 34 (.bin .rem) [.t 33,.k (.i 10)],p 35 (.bin .add) [.k (.i 48),.t 34],o 36 (.toInt .u8) 35,⟨some 37,.pur (.buildSl 1 1 [.sc (.int .u8 (0))] [0]),[.t 36],none⟩,o 38 .bytesStr 37,p 39 (.bin .add) [.t 32,.t 38],m 2 39]<|.ret
def zb8:za:=⟨40,zeQ,[.tmp 2]⟩
def zpD:ACode:=.q [x 2 0]<|.ops [m 4 1,l 5 2 3 true 2,⟨some 6,.call 315,[.t 5,.k (.i 1),.k (.s ⟨#[99]⟩)],none⟩,o 7 .nilchk 4,f 8 0 7,⟨none,.st none 1,[.t 8,.t 6],none⟩]
def zg8:za:=⟨9,zpD,[]⟩
def zpE:ACode:=.q [x 2 0]<|.ops [m 4 1,l 5 2 3 true 2,⟨some 6,.call 315,[.t 5,.k (.i 2),.k (.s ⟨#[110]⟩)],none⟩,o 7 .nilchk 4,f 8 1 7,⟨none,.st none 1,[.t 8,.t 6],none⟩]
def f215:za:=⟨9,zpE,[]⟩
def zk0:ACode:=.q [p 16 (.bin .lss) [.t 15,.t 14]]<|.seq (.cond (.t 16) (.skip) (.exit 0))<|.seq (.block 1 (.q [p 17 (.iaddr 3) [.t 13,.t 15],h 18 3 true 17,⟨some 5,.alloc .reg Z,[],none⟩,s 5 3 5 18]<|.q [
 f 20 1 5,l 21 5 1 false 20,⟨some 22,.call 195,[.t 21,.k (.s ⟨#[100]⟩)],none⟩,m 19 22,e 23 0 19,e 24 1 19,m 6 23,m 7 24]<|.ops [m 25 1,
 m 26 1,o 27 .nilchk 26,f 28 2 27,h 29 1 false 28,m 30 6,⟨some 31,.pur (.buildSl 1 1 [E] [0]),[.t 30],none⟩,⟨some 32,.append 1 16,[.t 29,.t 31],none⟩,o 33 .nilchk 25,f 34 2 33,
 ⟨none,.st none 1,[.t 34,.t 32],none⟩]))<|.ops [p 35 (.bin .add) [.t 15,.k (.i 1)],m 15 35]
def zpF:ACode:=.q [x 2 0]<|.q [f 8 0 2,f 9 2 8,l 10 2 1 false 9,p 11 (.iaddr 3) [.t 10,.k (.i 3)],f 12 2 11,h 13 1 false 12,o 14 .lenL 13,
 i 15 0]<|.block 0 (.loop [5,6,7,16,17,18,19,20,21,22,23,24,25,26,27,28,29,30,31,32,33,34,35] [5] zk0)
def f216:za:=⟨36,zpF,[]⟩
def zpG:ACode:=.q [x 2 0]<|.ops [m 4 1,f 5 0 2,f 6 2 5,l 7 2 1 false 6,p 8 (.iaddr 3) [.t 7,.k (.i 4)],h 9 3 true 8,o 10 .nilchk 4,
 f 11 3 10,⟨none,.st none 3,[.t 11,.t 9],none⟩]
def zg9:za:=⟨12,zpG,[]⟩
def zha:ACode:=.q [x 2 0]<|.ops [m 5 1,l 6 2 3 true 2,⟨some 7,.call 315,[.t 6,.k (.i 5),.k (.s ⟨#[117]⟩)],none⟩,c 8 196 [.t 7],m 4 8,e 9 0 4,e 10 1 4,
 o 11 .nilchk 5,f 12 6 11,⟨none,.st none 1,[.t 12,.t 9],none⟩]
def zde:za:=⟨13,zha,[]⟩
def zk1:ACode:=.q [x 1 0,k 2 (.b false)]<|.q [l 3 1 3 true 1,c 4 243 [.t 3],⟨some 5,.pur (.bin .neq),[.t 4,.k E],none⟩,m 6 5,u 7 (.ld (some 1) 3 true) [.t 1] 6 true,u 8 (.call 316) [.t 7] 6 true,
 p 9 .pick [.t 6,.t 8,.k (.b false)],m 2 9]<|.ret
def zeR:za:=⟨10,zk1,[.tmp 2]⟩
def zeS:ACode:=.seq (.q [m 92 14,f 93 2 1,l 94 1 1 false 93,p 95 (.iaddr 3) [.t 94,.k (.i 3)],f 96 2 95,h 97 1 false 96,o 98 .lenL 97,
 p 99 (.bin .lss) [.t 92,.t 98]]<|.cond (.t 99) (.skip) (.exit 0))<|.seq (.block 1 (.q [f 103 2 1,l 104 1 1 false 103,p 105 (.iaddr 3) [.t 104,.k (.i 3)],f 106 2 105,h 107 1 false 106,m 108 14,
 p 109 (.iaddr 3) [.t 107,.t 108],h 110 3 true 109,⟨some 111,.call 317,[.t 110,.k (.s ⟨#[100]⟩)],none⟩,m 102 111,e 112 0 102,e 113 1 102,m 15 112,m 16 113]<|.q [
 m 114 13,m 115 114,w 116 .mov [.t 16] 115 true,p 117 .pick [.t 115,.t 116,.k (.b false)],m 13 117]<|.ops [f 118 2 4,l 119 4 1 false 118,m 120 15,
 ⟨some 121,.pur (.buildSl 1 1 [E] [0]),[.t 120],none⟩,⟨some 122,.append 1 16,[.t 119,.t 121],none⟩,f 123 2 4,s 4 1 123 122]))<|.ops [m 100 14,p 101 (.bin .add) [.t 100,.k (.i 1)],m 14 101]
def zbo:ACode:=.q [x 1 0,⟨some 2,.alloc .reg [E,E,N,.i 0,E,N,.i 0],[],none⟩,k 3 (.b false)]<|.q [⟨some 18,.pur (.build [E,E,N,.i 0,E,N,.i 0] []),[],none⟩,
 ⟨some 4,.alloc .reg [E,E,N,.i 0,E,N,.i 0],[],none⟩,s 4 7 4 18]<|.seq (.q [f 19 0 1,l 20 1 1 false 19,p 21 (.bin .neq) [.t 20,.k (.i 3)],m 22 21,
 w 23 (.faddr 2) [.t 1] 22 false,u 24 (.ld (some 1) 1 false) [.t 23] 22 false,w 25 .lenL [.t 24] 22 false,w 26 (.bin .neq) [.t 25,.k (.i 6)] 22 false,p 27 .pick [.t 22,.k (.b true),.t 26],m 28 27,w 29 (.faddr 2) [.t 1] 28 false,
 u 30 (.ld (some 1) 1 false) [.t 29] 28 false,w 31 (.iaddr 3) [.t 30,.k (.i 0)] 28 false,w 32 (.faddr 0) [.t 31] 28 false,u 33 (.ld none 1 false) [.t 32] 28 false,w 34 (.bin .neq) [.t 33,.k (.i 1)] 28 false,p 35 .pick [.t 28,.k (.b true),.t 34],
 m 36 35,w 37 (.faddr 2) [.t 1] 36 false,u 38 (.ld (some 1) 1 false) [.t 37] 36 false,w 39 (.iaddr 3) [.t 38,.k (.i 0)] 36 false,w 40 (.faddr 1) [.t 39] 36 false,u 41 (.ld none 1 false) [.t 40] 36 false,
 ⟨some 42,.pur (.bin .neq),[.t 41,.k (.s ⟨#[99,111,111,107,105,101]⟩)],some (36,false)⟩,p 43 .pick [.t 36,.k (.b true),.t 42],m 44 43,w 45 (.faddr 2) [.t 1] 44 false,u 46 (.ld (some 1) 1 false) [.t 45] 44 false,w 47 (.iaddr 3) [.t 46,.k (.i 3)] 44 false,
 w 48 (.faddr 0) [.t 47] 44 false,u 49 (.ld none 1 false) [.t 48] 44 false,w 50 (.bin .neq) [.t 49,.k (.i 3)] 44 false,p 51 .pick [.t 44,.k (.b true),.t 50]]<|.cond (.t 51) (.q [l 52 4 7 true 4,s 2 7 2 52,
 k 3 (.b false)]<|.ret) (.skip))<|.q [f 54 2 1,l 55 1 1 false 54,p 56 (.iaddr 3) [.t 55,.k (.i 1)],h 57 3 true 56,⟨some 58,.call 317,[.t 57,.k (.s ⟨#[99]⟩)],none⟩,m 53 58,
 e 59 0 53,e 60 1 53,m 5 59,m 6 60]<|.q [f 62 2 1,l 63 1 1 false 62,p 64 (.iaddr 3) [.t 63,.k (.i 2)],h 65 3 true 64,
 ⟨some 66,.call 317,[.t 65,.k (.s ⟨#[110]⟩)],none⟩,m 61 66,e 67 0 61,e 68 1 61,m 7 67,m 8 68]<|.q [f 70 2 1,l 71 1 1 false 70,
 p 72 (.iaddr 3) [.t 71,.k (.i 5)],h 73 3 true 72,⟨some 74,.call 317,[.t 73,.k (.s ⟨#[117]⟩)],none⟩,m 69 74,e 75 0 69,e 76 1 69,m 9 75,m 10 76]<|.q [
 m 78 9,c 79 318 [.t 78],m 77 79,e 80 0 77,e 81 1 77,m 11 80,m 12 81]<|.q [m 82 6,m 83 82,
 w 84 .mov [.t 8] 83 true,p 85 .pick [.t 83,.t 84,.k (.b false)],m 86 85,w 87 .mov [.t 10] 86 true,p 88 .pick [.t 86,.t 87,.k (.b false)],m 89 88,w 90 .mov [.t 12] 89 true,p 91 .pick [.t 89,.t 90,.k (.b false)],
 m 13 91]<|.seq (.q [i 14 0]<|.block 0 (.loop [15,16,92,93,94,95,96,97,98,99,100,101,102,103,104,105,106,107,108,109,110,111,112,113,114,115,116,117,118,119,120,121,122,123] [] zeS))<|.q [f 124 2 1,
 l 125 1 1 false 124,p 126 (.iaddr 3) [.t 125,.k (.i 4)],h 127 3 true 126,c 128 211 [.t 127],m 17 128]<|.q [m 129 5,f 130 0 4,s 4 1 130 129]<|.q [
 m 131 7,f 132 1 4,s 4 1 132 131]<|.q [m 133 11,f 134 6 4,s 4 1 134 133]<|.q [f 135 2 1,l 136 1 1 false 135,
 p 137 (.iaddr 3) [.t 136,.k (.i 4)],h 138 3 true 137,f 139 3 4,s 4 3 139 138]<|.q [l 140 4 7 true 4,m 141 13,m 142 141,w 143 .mov [.t 17] 142 true,
 p 144 .pick [.t 142,.t 143,.k (.b false)],s 2 7 2 140,m 3 144]<|.ret
def wX:za:=⟨145,zbo,[.cell 2 7 true,.tmp 3]⟩
def zb9:ACode:=.q [x 2 0,o 3 .ibox 1,k 4 (.b false)]<|.seq (.q [h 6 1 false 3,p 7 (.bin .eql) [.t 6,.k (.i 0)],m 8 7,u 9 (.ld (some 2) 3 true) [.t 2] 8 false,
 u 10 (.call 319) [.t 9] 8 false,w 11 (.un .not) [.t 10] 8 false,p 12 .pick [.t 8,.k (.b true),.t 11],m 13 12,w 14 (.faddr 0) [.t 2] 13 false,u 15 (.ld (some 2) 1 false) [.t 14] 13 false,w 16 (.iaddrA 3 11) [.g 0,.t 15] 13 false,
 w 17 (.faddr 2) [.t 16] 13 false,u 18 (.ld none 1 false) [.t 17] 13 false,w 19 (.faddr 1) [.t 2] 13 false,u 20 (.ld (some 2) 1 false) [.t 19] 13 false,⟨some 21,.pur (.bin .eql),[.t 20,.k E],some (13,false)⟩,w 22 (.eqB false) [.t 18,.t 21] 13 false,
 p 23 .pick [.t 13,.k (.b true),.t 22]]<|.cond (.t 23) (.q [k 4 (.b false)]<|.ret) (.skip))<|.seq (.q [f 24 0 2,l 25 2 1 false 24,p 26 (.iaddrA 3 11) [.g 0,.t 25],f 27 1 26,
 h 28 1 false 27,m 5 28]<|.q [m 29 5,p 30 (.bin .geq) [.t 29,.k (.i 0)],m 31 30,w 32 (.faddr 2) [.t 2] 31 true,u 33 (.ld (some 2) 1 false) [.t 32] 31 true,w 34 .lenL [.t 33] 31 true,
 w 35 .mov [.t 5] 31 true,w 36 (.bin .neq) [.t 34,.t 35] 31 true,p 37 .pick [.t 31,.t 36,.k (.b false)]]<|.cond (.t 37) (.q [k 4 (.b false)]<|.ret) (.skip))<|.q [f 38 2 2,l 39 2 1 false 38,
 o 40 (.mkfn 321 0) 3,c 41 320 [.t 39,.t 40],o 42 (.un .not) 41,m 4 42]<|.ret
def zaB:za:=⟨43,zb9,[.tmp 4]⟩
def zhb:ACode:=.q [x 1 0,k 2 (.b false)]<|.seq (.q [f 3 0 1,l 4 1 1 false 3,p 5 (.bin .eql) [.t 4,.k (.i 9)],m 6 5,w 7 (.faddr 2) [.t 1] 6 true,
 u 8 (.ld (some 1) 1 false) [.t 7] 6 true,w 9 (.iaddr 3) [.t 8,.k (.i 1)] 6 true,u 10 (.ld none 3 true) [.t 9] 6 true,u 11 (.call 227) [.t 10] 6 true,w 12 (.faddr 2) [.t 1] 6 true,u 13 (.ld (some 1) 1 false) [.t 12] 6 true,w 14 (.iaddr 3) [.t 13,.k (.i 0)] 6 true,
 u 15 (.ld none 3 true) [.t 14] 6 true,u 16 (.call 227) [.t 15] 6 true,w 17 (.bin .lss) [.t 11,.t 16] 6 true,p 18 .pick [.t 6,.t 17,.k (.b false)]]<|.cond (.t 18) (.q [k 2 (.b false)]<|.ret) (.skip))<|.q [f 19 2 1,
 l 20 1 1 false 19,⟨some 21,.call 320,[.t 20,.k (.fn 322 [] [])],none⟩,o 22 (.un .not) 21,m 2 22]<|.ret
def zdf:za:=⟨23,zhb,[.tmp 2]⟩
def zk2:ACode:=.q [p 15 (.bin .lss) [.t 14,.t 13]]<|.seq (.cond (.t 15) (.skip) (.exit 0))<|.seq (.block 1 (.q [p 16 (.iaddr 3) [.t 12,.t 14],h 17 3 true 16,⟨some 7,.alloc .reg Z,[],none⟩,s 7 3 7 17]<|.ops [
 m 18 5,l 19 7 3 true 7,m 20 1,p 21 (.bin .sub) [.t 20,.k (.i 1)],c 22 223 [.t 19,.t 21],p 23 .max [.t 18,.t 22],m 5 23]))<|.ops [p 24 (.bin .add) [.t 14,.k (.i 1)],
 m 14 24]
def zhc:ACode:=.q [x 2 0,i 4 0]<|.seq (.q [m 8 1,p 9 (.bin .leq) [.t 8,.k (.i 1)]]<|.cond (.t 9) (.q [m 10 1,m 4 10]<|.ret) (.skip))<|.q [
 i 5 0]<|.seq (.q [f 11 2 2,l 12 2 1 false 11,o 13 .lenL 12,i 14 0]<|.block 0 (.loop [7,15,16,17,18,19,20,21,22,23,24] [7] zk2))<|.q [m 25 5,
 p 26 (.bin .add) [.t 25,.k (.i 1)],m 4 26]<|.ret
def zdg:za:=⟨27,zhc,[.tmp 4]⟩
def zhe:ACode:=.q [p 18 (.bin .lss) [.t 17,.t 16]]<|.seq (.cond (.t 18) (.skip) (.exit 0))<|.seq (.block 1 (.q [m 19 17,p 20 (.iaddr 3) [.t 15,.t 17],h 21 3 true 20,⟨some 8,.alloc .reg Z,[],none⟩,m 7 19,
 s 8 3 8 21]<|.q [m 22 1,m 23 7,p 24 (.iaddr 3) [.t 22,.t 23],h 25 3 true 24,⟨some 9,.alloc .reg Z,[],none⟩,s 9 3 9 25]<|.q [m 26 2,
 l 27 8 3 true 8,l 28 9 3 true 9,⟨some 29,.callv,[.t 26,.t 27,.t 28],none⟩,o 30 (.un .not) 29]<|.cond (.t 30) (.q [k 6 (.b false)]<|.ret) (.skip)))<|.ops [p 31 (.bin .add) [.t 17,.k (.i 1)],m 17 31]
def zk3:ACode:=.q [k 6 (.b false)]<|.seq (.q [m 10 0,o 11 .lenL 10,m 12 1,o 13 .lenL 12,p 14 (.bin .neq) [.t 11,.t 13]]<|.cond (.t 14) (.q [k 6 (.b false)]<|.ret) (.skip))<|
 .seq (.q [m 15 0,o 16 .lenL 15,i 17 0]<|.block 0 (.loop [6,7,8,9,18,19,20,21,22,23,24,25,26,27,28,29,30,31] [8,9] zhe))<|.q [k 6 (.b true)]<|.ret
def zhd:za:=⟨32,zk3,[.tmp 6]⟩
def zk4:ACode:=.q [p 12 (.bin .lss) [.t 11,.t 10]]<|.seq (.cond (.t 12) (.skip) (.exit 0))<|.seq (.block 1 (.q [p 13 (.iaddr 15) [.t 9,.t 11],h 14 15 true 13,
 ⟨some 5,.alloc .reg [E,.i 0,E,N,N,.i 0,E,N,.i 0,.i 0,.i 0,.i 0,.i 0,.i 0,.i 0],[],none⟩,s 5 15 5 14]<|.ops [m 15 3,l 16 5 15 true 5,c 17 323 [.t 16],
 ⟨some 18,.pur (.buildSl 15 1 [E,.i 0,E,N,N,.i 0,E,N,.i 0,.i 0,.i 0,.i 0,.i 0,.i 0,.i 0] [0]),[.t 17],none⟩,⟨some 19,.append 15 192,[.t 15,.t 18],none⟩,m 3 19]))<|.ops [p 20 (.bin .add) [.t 11,.k (.i 1)],m 11 20]
def zpH:ACode:=.q [k 2 N]<|.q [k 3 N]<|.seq (.q [m 6 0,o 7 .nilchk 6,f 8 0 7,h 9 1 false 8,o 10 .lenL 9,
 i 11 0]<|.block 0 (.loop [5,12,13,14,15,16,17,18,19,20] [5] zk4))<|.q [m 21 3,m 2 21]<|.ret
def zhf:za:=⟨22,zpH,[.tmp 2]⟩
def zhg:ACode:=.q [p 39 (.bin .lss) [.t 38,.t 37]]<|.seq (.cond (.t 39) (.skip) (.exit 0))<|.seq (.block 1 (.q [p 40 (.iaddr 3) [.t 36,.t 38],h 41 3 true 40,⟨some 6,.alloc .reg Z,[],none⟩,s 6 3 6 41]<|.ops [
 m 42 4,l 43 6 3 true 6,c 44 227 [.t 43],⟨some 45,.pur (.buildSl 1 1 [E] [0]),[.t 44],none⟩,⟨some 46,.append 1 16,[.t 42,.t 45],none⟩,m 4 46]))<|.ops [p 47 (.bin .add) [.t 38,.k (.i 1)],m 38 47]
def zca:ACode:=.q [x 1 0,⟨some 2,.pur .mov,[.k E],none⟩]<|.q [f 7 0 1,l 8 1 1 false 7,p 9 (.iaddrA 3 11) [.g 0,.t 8],f 10 0 9,h 11 1 false 10,m 3 11]<|
 .seq (.q [f 12 1 1,l 13 1 1 false 12,⟨some 14,.pur (.bin .neq),[.t 13,.k E],none⟩]<|.cond (.t 14) (.ops [m 15 3,f 16 1 1,l 17 1 1 false 16,o 18 .lenS 17,c 19 193 [.t 18],
 ⟨some 20,.pur (.bin .add),[.t 19,.k (.s ⟨#[58]⟩)],none⟩,f 21 1 1,l 22 1 1 false 21,p 23 (.bin .add) [.t 20,.t 22],p 24 (.bin .add) [.t 15,.t 23],m 3 24]) (.skip))<|.seq (.q [f 25 2 1,
 l 26 1 1 false 25,o 27 .lenL 26,p 28 (.bin .eql) [.t 27,.k (.i 0)],m 29 28,w 30 (.faddr 0) [.t 1] 29 true,u 31 (.ld (some 1) 1 false) [.t 30] 29 true,w 32 (.bin .neq) [.t 31,.k (.i 3)] 29 true,
 p 33 .pick [.t 29,.t 32,.k (.b false)]]<|.cond (.t 33) (.q [m 34 3,m 2 34]<|.ret) (.skip))<|.q [k 4 N]<|.seq (.q [f 35 2 1,l 36 1 1 false 35,o 37 .lenL 36,
 i 38 0]<|.block 0 (.loop [6,39,40,41,42,43,44,45,46,47] [6] zhg))<|.q [m 48 3,⟨some 49,.pur (.bin .add),[.t 48,.k (.s ⟨#[40]⟩)],none⟩,m 50 4,⟨some 51,.call 324,[.t 50,.k (.s ⟨#[44]⟩)],none⟩,p 52 (.bin .add) [.t 49,.t 51],
 ⟨some 53,.pur (.bin .add),[.t 52,.k (.s ⟨#[41]⟩)],none⟩,m 2 53]<|.ret
def zaC:za:=⟨54,zca,[.tmp 2]⟩
def zpI:ACode:=.q [⟨some 6,.alloc .reg Z,[],none⟩]<|.q [m 7 0,m 8 1,m 9 2,c 10 256 [.t 9],⟨some 11,.pur (.build Z [(0,1),(1,1),(2,1)]),[.t 7,.t 8,.t 10],none⟩,
 s 6 3 6 11]<|.ret
def zhh:za:=⟨12,zpI,[.cell 6 3 true]⟩
def zpJ:ACode:=.q [x 2 0,x 3 1,k 4 (.b false)]<|.q [l 5 2 3 true 2,c 6 121 [.t 5],l 7 3 3 true 3,c 8 121 [.t 7],p 9 (.bin .lss) [.t 6,.t 8],
 m 4 9]<|.ret
def zhi:za:=⟨10,zpJ,[.tmp 4]⟩
def zpK:ACode:=.q [x 4 0,x 5 1,k 8 (.sc (.pointer none)),i 9 0]<|.q [m 13 2,c 14 329 [.t 13],m 12 14,e 15 0 12,
 e 16 1 12,m 10 15,m 11 16]<|.seq (.q [m 17 11,p 18 (.bin .neq) [.t 17,.k (.i 0)]]<|.cond (.t 18) (.q [m 19 11,k 8 (.sc (.pointer none)),m 9 19]<|
 .ret) (.skip))<|.seq (.q [m 20 3,p 21 (.bin .lss) [.t 20,.k (.i 0)],m 22 21,w 23 .mov [.t 3] 22 false,w 24 (.bin .gtr) [.t 23,.k (.i 64)] 22 false,p 25 .pick [.t 22,.k (.b true),.t 24]]<|.cond (.t 25) (.q [
 k 8 (.sc (.pointer none)),i 9 1]<|.ret) (.skip))<|.q [l 26 4 3 true 4,l 27 5 3 true 5,m 28 10,m 29 3,m 30 3,c 31 54 [.t 30],
 ⟨some 32,.pur (.build [.i 0,E,N,.i 0,E,N,.sc (.pointer none),.i 0,.sc (.pointer none),.i 0,N] [(0,3),(3,3),(6,1),(7,1),(8,1)]),[.t 26,.t 27,.t 28,.t 29,.t 31],none⟩,⟨some 33,.box .heap,[.t 32],none⟩,m 8 33,i 9 0]<|.ret
def f235:za:=⟨34,zpK,[.tmp 8,.tmp 9]⟩
def vY:ACode:=.q [x 4 1,
 ⟨some 6,.alloc .reg [.i 0,E,N,.i 0,E,N,E,E,N,.i 0,E,N,.i 0,E,.i 0,E,N,N,.i 0,E,N,.i 0,.i 0,.i 0,.i 0,.i 0,.i 0,.i 0,.i 0],[],none⟩,
 ⟨some 7,.alloc .reg Z,[],none⟩,i 8 0]<|.q [
 ⟨some 27,.pur (.build [.i 0,E,N,.i 0,E,N,E,E,N,.i 0,E,N,.i 0,E,.i 0,E,N,N,.i 0,E,N,.i 0,.i 0,.i 0,.i 0,.i 0,.i 0,.i 0,.i 0] []),[],none⟩,
 ⟨some 9,.alloc .reg [.i 0,E,N,.i 0,E,N,E,E,N,.i 0,E,N,.i 0,E,.i 0,E,N,N,.i 0,E,N,.i 0,.i 0,.i 0,.i 0,.i 0,.i 0,.i 0,.i 0],[],none⟩,s 9 29 9 27]<|.q [
 l 29 4 3 true 4,c 30 95 [.t 29],m 28 30,e 31 0 28,e 32 1 28,e 33 2 28,e 34 3 28,⟨some 10,.alloc .reg Z,[],none⟩,
 ⟨some 11,.alloc .reg Z,[],none⟩,⟨some 12,.alloc .reg Z,[],none⟩,s 10 3 10 31,s 11 3 11 32,s 12 3 12 33,m 13 34]<|.q [l 36 10 3 true 10,
 c 37 93 [.t 36],m 35 37,e 38 0 35,e 39 1 35,e 40 2 35,m 14 38,m 15 39,m 16 40]<|.seq (.q [m 41 13,
 o 42 (.un .not) 41,m 43 42,w 44 .mov [.t 16] 43 false,w 45 (.un .not) [.t 44] 43 false,p 46 .pick [.t 43,.k (.b true),.t 45]]<|.cond (.t 46) (.q [l 47 9 29 true 9,l 48 4 3 true 4,
 s 6 29 6 47,s 7 3 7 48,i 8 2]<|.ret) (.skip))<|.q [m 50 0,o 51 .nilchk 50,f 52 0 51,h 53 3 true 52,l 54 11 3 true 11,
 c 55 337 [.t 53,.t 54],m 49 55,e 56 0 49,e 57 1 49,⟨some 17,.alloc .reg Z,[],none⟩,s 17 3 17 56,m 18 57]<|.seq (.q [m 58 18,
 p 59 (.bin .neq) [.t 58,.k (.i 0)]]<|.cond (.t 59) (.q [l 60 9 29 true 9,l 61 4 3 true 4,m 62 18,s 6 29 6 60,s 7 3 7 61,m 8 62]<|.ret) (.skip))<|.q [
 l 64 17 3 true 17,l 65 10 3 true 10,l 66 12 3 true 12,c 67 338 [.t 64,.t 65,.t 66],m 63 67,e 68 0 63,e 69 1 63,e 70 2 63,
 ⟨some 19,.alloc .reg Z,[],none⟩,⟨some 20,.alloc .reg Z,[],none⟩,s 19 3 19 68,s 20 3 20 69,m 21 70]<|.seq (.q [m 71 21,p 72 (.bin .neq) [.t 71,.k (.i 0)]]<|
 .cond (.t 72) (.q [l 73 9 29 true 9,l 74 4 3 true 4,m 75 21,s 6 29 6 73,s 7 3 7 74,m 8 75]<|.ret) (.skip))<|.q [m 77 0,o 78 .nilchk 77,
 f 79 6 78,h 80 1 false 79,m 81 14,c 82 339 [.t 80,.t 81],m 76 82,e 83 0 76,e 84 1 76,
 ⟨some 22,.alloc .reg [E,.i 0,E,N,N,.i 0,E,N,.i 0,.i 0,.i 0,.i 0,.i 0,.i 0,.i 0],[],none⟩,s 22 15 22 83,m 23 84]<|.seq (.q [m 85 23,o 86 (.un .not) 85]<|
 .cond (.t 86) (.q [l 87 9 29 true 9,l 88 4 3 true 4,s 6 29 6 87,s 7 3 7 88,i 8 3]<|.ret) (.skip))<|.q [l 89 17 3 true 17,l 90 10 3 true 10,
 l 91 22 15 true 22,m 92 2,m 93 14,m 94 15,c 95 75 [],⟨some 96,.pur (.build [E,E,N,.i 0,E,N,.i 0] [(0,1),(1,1),(3,3)]),[.t 93,.t 94,.t 95],none⟩,
 ⟨some 97,.pur (.build [.i 0,E,N,.i 0,E,N,E,E,N,.i 0,E,N,.i 0,E,.i 0,E,N,N,.i 0,E,N,.i 0,.i 0,.i 0,.i 0,.i 0,.i 0,.i 0,.i 0] [(0,3),(3,3),(13,15),(28,1),(6,7)]),[.t 89,.t 90,.t 91,.t 92,.t 96],none⟩,
 ⟨some 24,.alloc .reg [.i 0,E,N,.i 0,E,N,E,E,N,.i 0,E,N,.i 0,E,.i 0,E,N,N,.i 0,E,N,.i 0,.i 0,.i 0,.i 0,.i 0,.i 0,.i 0,.i 0],[],none⟩,s 24 29 24 97]<|
 .seq (.q [l 98 20 3 true 20,c 99 84 [.t 98],o 100 (.un .not) 99]<|.cond (.t 100) (.q [m 102 0,o 103 .nilchk 102,f 104 3 103,h 105 3 true 104,l 106 20 3 true 20,
 m 107 2,c 108 113 [.t 105,.t 106,.t 107],m 101 108,e 109 0 101,e 110 1 101,⟨some 25,.alloc .reg [E,E,N,.i 0,E,N,.i 0],[],none⟩,s 25 7 25 109,
 m 26 110]<|.seq (.q [m 111 26,p 112 (.bin .neq) [.t 111,.k (.i 0)]]<|.cond (.t 112) (.q [l 113 9 29 true 9,l 114 4 3 true 4,m 115 26,s 6 29 6 113,
 s 7 3 7 114,m 8 115]<|.ret) (.skip))<|.seq (.q [f 116 0 25,l 117 25 1 false 116,m 118 14,p 119 (.bin .neq) [.t 117,.t 118],m 120 119,
 w 121 (.faddr 1) [.t 25] 120 false,u 122 (.ld (some 25) 1 false) [.t 121] 120 false,w 123 .mov [.t 15] 120 false,w 124 (.bin .neq) [.t 122,.t 123] 120 false,p 125 .pick [.t 120,.k (.b true),.t 124],m 126 125,w 127 (.faddr 2) [.t 25] 126 false,
 u 128 (.ld (some 25) 1 false) [.t 127] 126 false,w 129 (.faddr 4) [.t 22] 126 false,u 130 (.ld (some 22) 1 false) [.t 129] 126 false,u 131 (.call 340) [.t 128,.t 130] 126 false,w 132 (.un .not) [.t 131] 126 false,p 133 .pick [.t 126,.k (.b true),.t 132]]<|.cond (.t 133) (.q [
 l 134 9 29 true 9,l 135 4 3 true 4,s 6 29 6 134,s 7 3 7 135,i 8 11]<|.ret) (.skip))<|.ops [l 136 25 7 true 25,f 137 6 24,
 s 24 7 137 136]) (.skip))<|.seq (.q [m 138 0,o 139 .nilchk 138,f 140 6 139,h 141 1 false 140,m 142 14,c 143 341 [.t 141,.t 142]]<|.cond (.t 143) (.q [
 l 144 9 29 true 9,l 145 4 3 true 4,s 6 29 6 144,s 7 3 7 145,i 8 7]<|.ret) (.skip))<|.q [l 146 24 29 true 24,l 147 19 3 true 19,
 s 6 29 6 146,s 7 3 7 147,i 8 0]<|.ret
def vw:za:=⟨148,vY,[.cell 6 29 true,.cell 7 3 true,.tmp 8]⟩
def zhj:ACode:=.q [x 3 1,⟨some 4,.alloc .reg Z,[],none⟩]<|.q [⟨some 7,.call 63,[.k (.s ⟨#[99,104,97,108,108,101,110,103,101]⟩),.k N],none⟩,⟨some 5,.alloc .reg Z,[],none⟩,s 5 3 5 7]<|.q [
 c 8 75 [],f 9 6 3,f 10 3 9,s 3 3 10 8]<|.q [f 11 13 3,f 12 4 11,l 13 3 1 false 12,f 14 6 3,f 15 2 14,
 l 16 3 1 false 15,o 17 .lenL 16,p 18 (.iaddr 1) [.t 13,.t 17],h 19 1 false 18,m 6 19]<|.seq (.q [m 20 6,⟨some 21,.pur (.bin .neq),[.t 20,.k (.s ⟨#[99,104,97,108,108,101,110,103,101]⟩)],none⟩]<|
 .cond (.t 21) (.q [m 22 0,c 23 342 [.t 22],f 24 6 3,f 25 3 24,s 3 3 25 23]<|.q [f 26 6 3,f 27 3 26,l 28 3 3 true 27,
 c 29 283 [.t 28],s 5 3 5 29]<|.q [m 30 6,⟨some 31,.pur (.bin .eql),[.t 30,.k (.s ⟨#[115,112,97,107,101]⟩)],none⟩]<|.cond (.t 31) (.ops [f 32 13 3,f 33 1 32,l 34 3 3 true 33,
 f 35 6 3,f 36 3 35,l 37 3 3 true 36,c 38 331 [.t 34,.t 37],s 5 3 5 38]) (.skip)) (.skip))<|.q [f 39 28 3,l 40 3 1 false 39,
 p 41 (.bin .add) [.t 40,.k (.i 100)],f 42 6 3,f 43 6 42,s 3 1 43 41]<|.q [f 44 0 3,l 45 3 3 true 44,f 46 6 3,f 47 1 46,
 l 48 3 1 false 47,l 49 5 3 true 5,m 50 0,o 51 .nilchk 50,f 52 3 51,h 53 3 true 52,f 54 6 3,l 55 3 7 true 54,c 56 111 [.t 53,.t 55],
 ⟨some 57,.pur (.buildSl 3 2 Z [0,1]),[.t 49,.t 56],none⟩,⟨some 58,.call 63,[.k (.s ⟨#[109,111,114,101]⟩),.t 57],none⟩,c 59 332 [.t 45,.t 48,.t 58],s 4 3 4 59]<|.ret
def f240:za:=⟨60,zhj,[.cell 4 3 true]⟩
def zhk:ACode:=.q [x 3 0,x 4 1,⟨some 6,.alloc .reg Z,[],none⟩,k 7 N,i 8 0]<|.seq (.q [m 13 2]<|.block 0 (.q [
 ⟨some 15,.pur (.bin .eql),[.t 13,.k (.s ⟨#[111,116,112]⟩)],none⟩,m 14 15]<|.cond (.t 14) (.q [f 17 0 3,l 18 3 3 true 17,f 19 6 3,f 20 3 19,l 21 3 3 true 20,
 l 22 4 3 true 4,f 23 13 3,f 24 5 23,l 25 3 3 true 24,f 26 13 3,f 27 8 26,l 28 3 6 true 27,c 29 343 [.t 18,.t 21,.t 22,.t 25,.t 28],
 m 16 29,e 30 0 16,e 31 1 16,m 9 30,m 10 31]<|.q [f 32 0 3,l 33 3 3 true 32,c 34 336 [.t 33,.k (.i 46)],m 35 9,
 m 36 10,s 6 3 6 34,m 7 35,m 8 36]<|.ret) (.q [⟨some 38,.pur (.bin .eql),[.t 13,.k (.s ⟨#[115,112,97,107,101]⟩)],none⟩,m 37 38]<|.cond (.t 37) (.q [f 40 13 3,
 f 41 1 40,l 42 3 3 true 41,f 43 3 3,l 44 3 3 true 43,f 45 6 3,f 46 3 45,l 47 3 3 true 46,l 48 4 3 true 4,
 c 49 344 [.t 42,.t 44,.t 47,.t 48],m 39 49,e 50 0 39,e 51 1 39,⟨some 11,.alloc .reg Z,[],none⟩,s 11 3 11 50,m 12 51]<|.q [
 l 52 11 3 true 11,m 53 12,s 6 3 6 52,k 7 N,m 8 53]<|.ret) (.skip))))<|.q [f 54 13 3,f 55 1 54,l 56 3 3 true 55,
 f 57 0 3,l 58 3 3 true 57,f 59 13 3,f 60 1 59,l 61 3 3 true 60,f 62 3 3,l 63 3 3 true 62,l 64 4 3 true 4,f 65 28 3,
 l 66 3 1 false 65,c 67 151 [.t 58,.t 61,.t 63,.t 64,.t 66],s 6 3 6 56,k 7 N,m 8 67]<|.ret
def f241:za:=⟨68,zhk,[.cell 6 3 true,.tmp 7,.tmp 8]⟩
def zpL:ACode:=.q [i 4 0]<|.q [m 6 0,m 7 1,c 8 345 [.t 6,.t 7],m 5 8]<|.seq (.q [m 9 5,p 10 (.bin .lss) [.t 9,.k (.i 0)]]<|.cond (.t 10) (.q [
 i 4 3]<|.ret) (.skip))<|.q [m 11 0,o 12 .nilchk 11,f 13 0 12,h 14 1 false 13,m 15 5,p 16 (.iaddr 15) [.t 14,.t 15],f 17 14 16,
 h 18 1 false 17,p 19 (.bin .add) [.t 18,.k (.i 1)],p 20 (.iaddr 15) [.t 14,.t 15],f 21 14 20,⟨none,.st none 1,[.t 21,.t 19],none⟩]<|.q [i 4 0]<|.ret
def zhl:za:=⟨22,zpL,[.tmp 4]⟩
def zhm:ACode:=.q [x 1 0,⟨some 2,.pur .mov,[.k E],none⟩]<|.seq (.q [l 4 1 3 true 1,c 5 314 [.t 4,.k (.i 61)],p 6 (.bin .gtr) [.t 5,.k (.i 60)]]<|.cond (.t 6) (.q [⟨some 2,.pur .mov,[.k E],none⟩]<|.ret) (.skip))<|.q [
 l 7 1 3 true 1,c 8 346 [.t 7],m 3 8]<|.seq (.q [m 9 3,o 10 (.un .not) 9]<|.cond (.t 10) (.q [⟨some 2,.pur .mov,[.k E],none⟩]<|.ret) (.skip))<|.q [l 11 1 3 true 1,
 c 12 347 [.t 11],m 2 12]<|.ret
def f243:za:=⟨13,zhm,[.tmp 2]⟩
def zk5:ACode:=.q [i 6 0,i 7 0]<|.q [m 12 0,m 13 1,c 14 345 [.t 12,.t 13],m 8 14]<|.seq (.q [m 15 8,
 p 16 (.bin .lss) [.t 15,.k (.i 0)]]<|.cond (.t 16) (.q [i 6 0,i 7 3]<|.ret) (.skip))<|.seq (.q [m 17 0,o 18 .nilchk 17,f 19 0 18,h 20 1 false 19,
 m 21 8,p 22 (.iaddr 15) [.t 20,.t 21],f 23 14 22,h 24 1 false 23,p 25 (.bin .geq) [.t 24,.k (.i 5)]]<|.cond (.t 25) (.q [i 6 0,i 7 7]<|.ret) (.skip))<|.q [
 m 27 0,o 28 .nilchk 27,f 29 0 28,h 30 1 false 29,m 31 8,p 32 (.iaddr 15) [.t 30,.t 31],f 33 8 32,h 34 6 true 33,m 35 2,
 c 36 348 [.t 34,.t 35],m 26 36,e 37 0 26,e 38 1 26,e 39 2 26,⟨some 9,.alloc .reg [.i 0,.i 0,.i 0,.i 0,.i 0,.i 0],[],none⟩,s 9 6 9 37,m 10 38,
 m 11 39]<|.q [m 40 0,o 41 .nilchk 40,f 42 0 41,h 43 1 false 42,m 44 8,l 45 9 6 true 9,p 46 (.iaddr 15) [.t 43,.t 44],f 47 8 46,
 ⟨none,.st none 6,[.t 47,.t 45],none⟩]<|.q [m 48 10,m 49 11,m 6 48,m 7 49]<|.ret
def f244:za:=⟨50,zk5,[.tmp 6,.tmp 7]⟩
def zpM:ACode:=.q [x 4 1,x 5 2,⟨some 6,.alloc .reg Z,[],none⟩]<|.q [m 12 0,c 13 342 [.t 12],⟨some 7,.alloc .reg Z,[],none⟩,s 7 3 7 13]<|.q [
 m 14 0,c 15 342 [.t 14],⟨some 8,.alloc .reg Z,[],none⟩,s 8 3 8 15]<|.q [m 16 0,o 17 .nilchk 16,f 18 6 17,h 19 1 false 18,
 f 20 6 4,f 21 0 20,l 22 4 1 false 21,c 23 349 [.t 19,.t 22]]<|.q [m 24 0,m 25 0,o 26 .nilchk 25,f 27 10 26,h 28 1 false 27,
 f 29 6 4,f 30 0 29,l 31 4 1 false 30,f 32 6 4,f 33 1 32,l 34 4 1 false 33,f 35 6 4,f 36 2 35,l 37 4 1 false 36,
 l 38 7 3 true 7,⟨some 39,.pur (.build [E,E,N,.i 0,E,N] [(0,1),(1,1),(2,1),(3,3)]),[.t 31,.t 34,.t 37,.t 38],none⟩,⟨some 40,.pur (.buildSl 6 1 [E,E,N,.i 0,E,N] [0]),[.t 39],none⟩,⟨some 41,.append 6 104,[.t 28,.t 40],none⟩,
 o 42 .nilchk 24,f 43 10 42,⟨none,.st none 1,[.t 43,.t 41],none⟩]<|.q [m 44 0,o 45 .nilchk 44,f 46 0 45,h 47 3 true 46,f 48 6 4,f 49 0 48,
 l 50 4 1 false 49,c 51 65 [.t 50],l 52 7 3 true 7,f 53 6 4,f 54 2 53,l 55 4 1 false 54,c 56 69 [.t 55],f 57 28 4,l 58 4 1 false 57,
 c 59 67 [.t 58],⟨some 60,.pur (.buildSl 3 4 Z [0,1,2,3]),[.t 51,.t 52,.t 56,.t 59],none⟩,⟨some 61,.call 63,[.k (.s ⟨#[116,105,99,107,101,116]⟩),.t 60],none⟩,c 62 266 [.t 47,.k (.i 3),.t 61],⟨some 9,.alloc .reg Z,[],none⟩,
 s 9 3 9 62]<|.q [l 63 9 3 true 9,c 64 265 [.t 63],⟨some 10,.alloc .reg Z,[],none⟩,s 10 3 10 64]<|.q [l 65 8 3 true 8,l 66 5 3 true 5,
 c 67 333 [.t 65,.t 66],l 68 7 3 true 7,f 69 6 4,f 70 1 69,l 71 4 1 false 70,c 72 65 [.t 71],l 73 10 3 true 10,
 ⟨some 74,.pur (.buildSl 3 3 Z [0,1,2]),[.t 68,.t 72,.t 73],none⟩,⟨some 75,.call 63,[.k (.s ⟨#[101,110,99]⟩),.t 74],none⟩,c 76 266 [.t 67,.k (.i 3),.t 75],⟨some 11,.alloc .reg Z,[],none⟩,s 11 3 11 76]<|.q [
 l 77 9 3 true 9,l 78 11 3 true 11,f 79 0 4,l 80 4 3 true 79,f 81 6 4,f 82 1 81,l 83 4 1 false 82,l 84 8 3 true 8,
 l 85 10 3 true 10,⟨some 86,.pur (.buildSl 3 2 Z [0,1]),[.t 84,.t 85],none⟩,⟨some 87,.call 63,[.k (.s ⟨#[102,105,110,105,115,104]⟩),.t 86],none⟩,c 88 332 [.t 80,.t 83,.t 87],⟨some 89,.pur (.buildSl 3 3 Z [0,1,2]),[.t 77,.t 78,.t 88],none⟩,
 ⟨some 90,.call 63,[.k (.s ⟨#[97,115,45,114,101,112]⟩),.t 89],none⟩,s 6 3 6 90]<|.ret
def f245:za:=⟨91,zpM,[.cell 6 3 true]⟩
def zpN:ACode:=.q [x 2 0,x 3 1,⟨some 4,.alloc .reg Z,[],none⟩]<|.q [l 5 2 3 true 2,l 6 3 3 true 3,
 ⟨some 7,.call 350,[.t 5,.t 6,.k (.s ⟨#[115,117,98,107,101,121,97,114,109,111,114]⟩),.k (.s ⟨#[116,105,99,107,101,116,97,114,109,111,114]⟩)],none⟩,s 4 3 4 7]<|.ret
def f247:za:=⟨8,zpN,[.cell 4 3 true]⟩
def zbp:ACode:=.seq (.q [m 5 4,p 6 (.bin .lss) [.t 5,.k (.i 20)],m 7 6,w 8 .mov [.t 4] 7 true,w 9 (.bin .eql) [.t 8,.k (.i 0)] 7 true,w 10 .mov [.t 9] 7 true,w 11 .mov [.t 0] 10 false,
 w 12 (.bin .gtr) [.t 11,.k (.i 0)] 10 false,w 13 .pick [.t 10,.k (.b true),.t 12] 7 true,p 14 .pick [.t 7,.t 13,.k (.b false)]]<|.cond (.t 14) (.skip) (.exit 0))<|.seq (.block 1 (.q [m 17 0,p 18 (.bin .rem) [.t 17,.k (.i 10)],
 p 19 (.bin .add) [.k (.i 48),.t 18],o 20 (.toInt .u8) 19,⟨some 21,.pur (.buildSl 1 1 [.sc (.int .u8 (0))] [0]),[.t 20],none⟩,o 22 .bytesStr 21,m 23 3,p 24 (.bin .add) [.t 22,.t 23],m 3 24]<|.ops [m 25 0,
 p 26 (.bin .quo) [.t 25,.k (.i 10)],m 0 26]))<|.ops [m 15 4,p 16 (.bin .add) [.t 15,.k (.i 1)],m 4 16]
def zpO:ACode:=.q [⟨some 2,.pur .mov,[.k E],none⟩]<|.q [⟨some 3,.pur .mov,[.k E],none⟩]<|.seq (.q [i 4 0]<|.block 0 (.loop [5,6,7,8,9,10,11,12,13,14,15,16,17,18,19,20,21,22,23,24,25,26] [] zbp))<|.q [m 27 3,
 m 2 27]<|.ret
def zhn:za:=⟨28,zpO,[.tmp 2]⟩
def zpP:ACode:=.q [x 2 0,⟨some 4,.alloc .reg Z,[],none⟩]<|.q [m 5 1,l 6 2 3 true 2,⟨some 7,.pur (.buildSl 3 1 Z [0]),[.t 6],none⟩,
 ⟨some 8,.pur (.build Z [(0,1),(1,1),(2,1)]),[.k (.i 7),.t 5,.t 7],none⟩,s 4 3 4 8]<|.ret
def zho:za:=⟨9,zpP,[.cell 4 3 true]⟩
def zpQ:ACode:=.q [x 3 0,x 5 2,⟨some 6,.alloc .reg Z,[],none⟩]<|.q [l 7 3 3 true 3,m 8 1,c 9 354 [.t 7,.t 8],l 10 5 3 true 5,c 11 128 [.t 9,.t 10],
 s 6 3 6 11]<|.ret
def zhp:za:=⟨12,zpQ,[.cell 6 3 true]⟩
def zpR:ACode:=.q [x 2 0,x 3 1,⟨some 4,.alloc .reg Z,[],none⟩]<|.q [l 5 2 3 true 2,l 6 3 3 true 3,
 ⟨some 7,.call 350,[.t 5,.t 6,.k (.s ⟨#[99,108,105,101,110,116,99,104,97,108,108,101,110,103,101,97,114,109,111,114]⟩),.k (.s ⟨#[99,104,97,108,108,101,110,103,101,108,111,110,103,116,101,114,109]⟩)],none⟩,s 4 3 4 7]<|.ret
def zhq:za:=⟨8,zpR,[.cell 4 3 true]⟩
def zeT:ACode:=.q [x 3 0,x 5 2,⟨some 6,.alloc .reg Z,[],none⟩,i 7 0]<|.seq (.block 0 (.q [f 9 0 5,l 10 5 1 false 9,p 11 (.bin .neq) [.t 10,.k (.i 4)],
 m 12 11,w 13 (.faddr 2) [.t 5] 12 false,u 14 (.ld (some 5) 1 false) [.t 13] 12 false,w 15 .lenL [.t 14] 12 false,w 16 (.bin .neq) [.t 15,.k (.i 2)] 12 false,p 17 .pick [.t 12,.k (.b true),.t 16],m 8 17]<|.cond (.t 8) (.q [
 ⟨some 18,.pur (.build Z []),[],none⟩,s 6 3 6 18,i 7 2]<|.ret) (.q [f 20 2 5,l 21 5 1 false 20,p 22 (.iaddr 3) [.t 21,.k (.i 0)],h 23 3 true 22,
 l 24 3 3 true 3,m 25 1,c 26 354 [.t 24,.t 25],c 27 118 [.t 23,.t 26],o 28 (.un .not) 27,m 19 28]<|.cond (.t 19) (.q [⟨some 29,.pur (.build Z []),[],none⟩,s 6 3 6 29,
 i 7 4]<|.ret) (.skip))))<|.q [f 30 2 5,l 31 5 1 false 30,p 32 (.iaddr 3) [.t 31,.k (.i 1)],h 33 3 true 32,s 6 3 6 33,i 7 0]<|.ret
def zcb:za:=⟨34,zeT,[.cell 6 3 true,.tmp 7]⟩
def wC:ACode:=.q [i 4 0]<|.seq (.q [m 5 0,m 6 1,p 7 (.bin .lss) [.t 5,.t 6]]<|.cond (.t 7) (.ops [m 8 1,m 9 0,m 0 8,m 1 9]) (.skip))<|
 .seq (.q [m 10 1,p 11 (.bin .lss) [.t 10,.k (.i 0)],m 12 11,w 13 .mov [.t 0] 12 true,w 14 .mov [.t 1] 12 true,w 15 (.bin .add) [.t 14,.k (.i 5)] 12 true,w 16 (.bin .add) [.t 15,.k (.i 1)] 12 true,
 w 17 (.bin .gtr) [.t 13,.t 16] 12 true,p 18 .pick [.t 12,.t 17,.k (.b false)],m 19 18,w 20 .mov [.t 0] 19 false,w 21 .mov [.t 1] 19 false,w 22 (.bin .sub) [.t 20,.t 21] 19 false,w 23 (.bin .gtr) [.t 22,.k (.i 5)] 19 false,
 p 24 .pick [.t 19,.k (.b true),.t 23]]<|.cond (.t 24) (.q [i 4 6]<|.ret) (.skip))<|.q [m 25 0,m 26 1,p 27 (.bin .sub) [.t 25,.t 26],m 4 27]<|.ret
def kC:za:=⟨28,wC,[.tmp 4]⟩
def zpS:ACode:=.q [x 1 0,⟨some 2,.alloc .reg Z,[],none⟩]<|.q [l 3 1 3 true 1,⟨some 4,.pur (.buildSl 3 1 Z [0]),[.t 3],none⟩,⟨some 5,.pur (.build Z [(0,1),(2,1)]),[.k (.i 6),.t 4],none⟩,
 s 2 3 2 5]<|.ret
def zhr:za:=⟨6,zpS,[.cell 2 3 true]⟩
def zpT:ACode:=.q [x 3 0,x 5 2,⟨some 6,.alloc .reg Z,[],none⟩]<|.q [l 7 3 3 true 3,m 8 1,c 9 336 [.t 7,.t 8],l 10 5 3 true 5,c 11 362 [.t 9,.t 10],
 s 6 3 6 11]<|.ret
def zhs:za:=⟨12,zpT,[.cell 6 3 true]⟩
def zpU:ACode:=.q [x 2 0,x 3 1,⟨some 4,.alloc .reg Z,[],none⟩]<|.q [l 5 2 3 true 2,l 6 3 3 true 3,
 ⟨some 7,.call 293,[.t 5,.t 6,.k (.s ⟨#[99,108,105,101,110,116,99,104,97,108,108,101,110,103,101,97,114,109,111,114]⟩),.k (.s ⟨#[99,104,97,108,108,101,110,103,101,108,111,110,103,116,101,114,109]⟩)],none⟩,s 4 3 4 7]<|.ret
def zht:za:=⟨8,zpU,[.cell 4 3 true]⟩
def zeU:ACode:=.q [x 3 0,x 5 2,⟨some 6,.alloc .reg Z,[],none⟩,i 7 0]<|.seq (.q [f 9 0 5,l 10 5 1 false 9,p 11 (.bin .neq) [.t 10,.k (.i 4)],
 m 12 11,w 13 (.faddr 2) [.t 5] 12 false,u 14 (.ld (some 5) 1 false) [.t 13] 12 false,w 15 .lenL [.t 14] 12 false,w 16 (.bin .neq) [.t 15,.k (.i 2)] 12 false,p 17 .pick [.t 12,.k (.b true),.t 16]]<|.cond (.t 17) (.q [
 ⟨some 18,.pur (.build Z []),[],none⟩,s 6 3 6 18,i 7 2]<|.ret) (.skip))<|.q [f 19 2 5,l 20 5 1 false 19,p 21 (.iaddr 3) [.t 20,.k (.i 0)],h 22 3 true 21,
 l 23 3 3 true 3,m 24 1,c 25 336 [.t 23,.t 24],c 26 61 [.t 22,.t 25],m 8 26]<|.seq (.q [m 27 8,o 28 (.un .not) 27]<|.cond (.t 28) (.q [
 ⟨some 29,.pur (.build Z []),[],none⟩,s 6 3 6 29,i 7 4]<|.ret) (.skip))<|.q [f 30 2 5,l 31 5 1 false 30,p 32 (.iaddr 3) [.t 31,.k (.i 1)],h 33 3 true 32,
 s 6 3 6 33,i 7 0]<|.ret
def zcc:za:=⟨34,zeU,[.cell 6 3 true,.tmp 7]⟩
def zpV:ACode:=.q [x 2 0,x 3 1,⟨some 4,.alloc .reg Z,[],none⟩]<|.q [l 5 2 3 true 2,c 6 360 [.t 5],l 7 3 3 true 3,c 8 363 [.t 7],c 9 125 [.t 6,.t 8],
 s 4 3 4 9]<|.ret
def zhu:za:=⟨10,zpV,[.cell 4 3 true]⟩
def zcd:ACode:=.q [x 2 0,x 3 1,⟨some 4,.alloc .reg Z,[],none⟩,i 5 0]<|.seq (.q [f 7 0 2,l 8 2 1 false 7,p 9 (.bin .neq) [.t 8,.k (.i 10)],
 m 10 9,w 11 (.faddr 2) [.t 2] 10 false,u 12 (.ld (some 2) 1 false) [.t 11] 10 false,w 13 .lenL [.t 12] 10 false,w 14 (.bin .neq) [.t 13,.k (.i 2)] 10 false,p 15 .pick [.t 10,.k (.b true),.t 14]]<|.cond (.t 15) (.q [
 ⟨some 16,.pur (.build Z []),[],none⟩,s 4 3 4 16,i 5 2]<|.ret) (.skip))<|.q [f 17 2 2,l 18 2 1 false 17,p 19 (.iaddr 3) [.t 18,.k (.i 0)],h 20 3 true 19,
 ⟨some 6,.alloc .reg Z,[],none⟩,s 6 3 6 20]<|.seq (.block 0 (.q [f 22 0 6,l 23 6 1 false 22,p 24 (.bin .neq) [.t 23,.k (.i 8)],m 25 24,w 26 (.faddr 2) [.t 6] 25 false,
 u 27 (.ld (some 6) 1 false) [.t 26] 25 false,w 28 .lenL [.t 27] 25 false,w 29 (.bin .neq) [.t 28,.k (.i 1)] 25 false,p 30 .pick [.t 25,.k (.b true),.t 29],m 21 30]<|.cond (.t 21) (.q [⟨some 31,.pur (.build Z []),[],none⟩,
 s 4 3 4 31,i 5 2]<|.ret) (.q [f 33 2 2,l 34 2 1 false 33,p 35 (.iaddr 3) [.t 34,.k (.i 1)],h 36 3 true 35,l 37 3 3 true 3,c 38 363 [.t 37],
 c 39 118 [.t 36,.t 38],o 40 (.un .not) 39,m 32 40]<|.cond (.t 32) (.q [⟨some 41,.pur (.build Z []),[],none⟩,s 4 3 4 41,i 5 6]<|.ret) (.skip))))<|.q [f 42 2 6,
 l 43 6 1 false 42,p 44 (.iaddr 3) [.t 43,.k (.i 0)],h 45 3 true 44,s 4 3 4 45,i 5 0]<|.ret
def zaD:za:=⟨46,zcd,[.cell 4 3 true,.tmp 5]⟩
end Abs
