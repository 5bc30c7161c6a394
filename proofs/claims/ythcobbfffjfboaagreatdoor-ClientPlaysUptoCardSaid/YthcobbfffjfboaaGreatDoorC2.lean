/- The code of functions (printed by gen/Gen.lean). -/
import Derived.Test.YthcobbfffjfboaaGreatDoorE3
set_option linter.unusedVariables false
set_option linter.unusedSimpArgs false
set_option linter.unusedSectionVars false
namespace Abs
open Go I
def f259b:ACode:=.q [x 2 0,⟨some 4,.alloc .reg Z,[],none⟩]<|.q [m 5 1,l 6 2 3 true 2,⟨some 7,.pur (.buildSl 3 1 Z [0]),[.t 6],none⟩,
 ⟨some 8,.pur (.build Z [(0,1),(1,1),(2,1)]),[.k (.i 7),.t 5,.t 7],none⟩,s 4 3 4 8]<|.ret
def f259:AFunc:=⟨9,f259b,[.cell 4 3 true]⟩
def f261b:ACode:=.q [x 3 0,x 5 2,⟨some 6,.alloc .reg Z,[],none⟩]<|.q [l 7 3 3 true 3,m 8 1,c 9 354 [.t 7,.t 8],l 10 5 3 true 5,c 11 128 [.t 9,.t 10],
 s 6 3 6 11]<|.ret
def f261:AFunc:=⟨12,f261b,[.cell 6 3 true]⟩
def f262b:ACode:=.q [x 2 0,x 3 1,⟨some 4,.alloc .reg Z,[],none⟩]<|.q [l 5 2 3 true 2,l 6 3 3 true 3,
 ⟨some 7,.call 350,[.t 5,.t 6,.k (.s ⟨#[99,108,105,101,110,116,99,104,97,108,108,101,110,103,101,97,114,109,111,114]⟩),.k (.s ⟨#[99,104,97,108,108,101,110,103,101,108,111,110,103,116,101,114,109]⟩)],none⟩,s 4 3 4 7]<|.ret
def f262:AFunc:=⟨8,f262b,[.cell 4 3 true]⟩
def f263b:ACode:=.q [x 3 0,x 5 2,⟨some 6,.alloc .reg Z,[],none⟩,i 7 0]<|.seq (.block 0 (.q [f 9 0 5,l 10 5 1 false 9,p 11 (.bin .neq) [.t 10,.k (.i 4)],
 m 12 11,w 13 (.faddr 2) [.t 5] 12 false,u 14 (.ld (some 5) 1 false) [.t 13] 12 false,w 15 .lenL [.t 14] 12 false,w 16 (.bin .neq) [.t 15,.k (.i 2)] 12 false,p 17 .pick [.t 12,.k (.b true),.t 16],m 8 17]<|.cond (.t 8) (.q [
 ⟨some 18,.pur (.build Z []),[],none⟩,s 6 3 6 18,i 7 2]<|.ret) (.q [f 20 2 5,l 21 5 1 false 20,p 22 (.iaddr 3) [.t 21,.k (.i 0)],h 23 3 true 22,
 l 24 3 3 true 3,m 25 1,c 26 354 [.t 24,.t 25],c 27 118 [.t 23,.t 26],o 28 (.un .not) 27,m 19 28]<|.cond (.t 19) (.q [⟨some 29,.pur (.build Z []),[],none⟩,s 6 3 6 29,
 i 7 4]<|.ret) (.skip))))<|.q [f 30 2 5,l 31 5 1 false 30,p 32 (.iaddr 3) [.t 31,.k (.i 1)],h 33 3 true 32,s 6 3 6 33,i 7 0]<|.ret
def f263:AFunc:=⟨34,f263b,[.cell 6 3 true,.tmp 7]⟩
def f265b:ACode:=.q [x 1 0,⟨some 2,.alloc .reg Z,[],none⟩]<|.q [l 3 1 3 true 1,⟨some 4,.pur (.buildSl 3 1 Z [0]),[.t 3],none⟩,⟨some 5,.pur (.build Z [(0,1),(2,1)]),[.k (.i 6),.t 4],none⟩,
 s 2 3 2 5]<|.ret
def f265:AFunc:=⟨6,f265b,[.cell 2 3 true]⟩
def f266b:ACode:=.q [x 3 0,x 5 2,⟨some 6,.alloc .reg Z,[],none⟩]<|.q [l 7 3 3 true 3,m 8 1,c 9 336 [.t 7,.t 8],l 10 5 3 true 5,c 11 362 [.t 9,.t 10],
 s 6 3 6 11]<|.ret
def f266:AFunc:=⟨12,f266b,[.cell 6 3 true]⟩
def f267b:ACode:=.q [x 2 0,x 3 1,⟨some 4,.alloc .reg Z,[],none⟩]<|.q [l 5 2 3 true 2,l 6 3 3 true 3,
 ⟨some 7,.call 293,[.t 5,.t 6,.k (.s ⟨#[99,108,105,101,110,116,99,104,97,108,108,101,110,103,101,97,114,109,111,114]⟩),.k (.s ⟨#[99,104,97,108,108,101,110,103,101,108,111,110,103,116,101,114,109]⟩)],none⟩,s 4 3 4 7]<|.ret
def f267:AFunc:=⟨8,f267b,[.cell 4 3 true]⟩
def f268b:ACode:=.q [x 3 0,x 5 2,⟨some 6,.alloc .reg Z,[],none⟩,i 7 0]<|.seq (.q [f 9 0 5,l 10 5 1 false 9,p 11 (.bin .neq) [.t 10,.k (.i 4)],
 m 12 11,w 13 (.faddr 2) [.t 5] 12 false,u 14 (.ld (some 5) 1 false) [.t 13] 12 false,w 15 .lenL [.t 14] 12 false,w 16 (.bin .neq) [.t 15,.k (.i 2)] 12 false,p 17 .pick [.t 12,.k (.b true),.t 16]]<|.cond (.t 17) (.q [
 ⟨some 18,.pur (.build Z []),[],none⟩,s 6 3 6 18,i 7 2]<|.ret) (.skip))<|.q [f 19 2 5,l 20 5 1 false 19,p 21 (.iaddr 3) [.t 20,.k (.i 0)],h 22 3 true 21,
 l 23 3 3 true 3,m 24 1,c 25 336 [.t 23,.t 24],c 26 61 [.t 22,.t 25],m 8 26]<|.seq (.q [m 27 8,o 28 (.un .not) 27]<|.cond (.t 28) (.q [
 ⟨some 29,.pur (.build Z []),[],none⟩,s 6 3 6 29,i 7 4]<|.ret) (.skip))<|.q [f 30 2 5,l 31 5 1 false 30,p 32 (.iaddr 3) [.t 31,.k (.i 1)],h 33 3 true 32,
 s 6 3 6 33,i 7 0]<|.ret
def f268:AFunc:=⟨34,f268b,[.cell 6 3 true,.tmp 7]⟩
def f269b:ACode:=.q [x 2 0,x 3 1,⟨some 4,.alloc .reg Z,[],none⟩]<|.q [l 5 2 3 true 2,c 6 360 [.t 5],l 7 3 3 true 3,c 8 363 [.t 7],c 9 125 [.t 6,.t 8],
 s 4 3 4 9]<|.ret
def f269:AFunc:=⟨10,f269b,[.cell 4 3 true]⟩
def f270b:ACode:=.q [x 2 0,x 3 1,⟨some 4,.alloc .reg Z,[],none⟩,i 5 0]<|.seq (.q [f 7 0 2,l 8 2 1 false 7,p 9 (.bin .neq) [.t 8,.k (.i 10)],
 m 10 9,w 11 (.faddr 2) [.t 2] 10 false,u 12 (.ld (some 2) 1 false) [.t 11] 10 false,w 13 .lenL [.t 12] 10 false,w 14 (.bin .neq) [.t 13,.k (.i 2)] 10 false,p 15 .pick [.t 10,.k (.b true),.t 14]]<|.cond (.t 15) (.q [
 ⟨some 16,.pur (.build Z []),[],none⟩,s 4 3 4 16,i 5 2]<|.ret) (.skip))<|.q [f 17 2 2,l 18 2 1 false 17,p 19 (.iaddr 3) [.t 18,.k (.i 0)],h 20 3 true 19,
 ⟨some 6,.alloc .reg Z,[],none⟩,s 6 3 6 20]<|.seq (.block 0 (.q [f 22 0 6,l 23 6 1 false 22,p 24 (.bin .neq) [.t 23,.k (.i 8)],m 25 24,w 26 (.faddr 2) [.t 6] 25 false,
 u 27 (.ld (some 6) 1 false) [.t 26] 25 false,w 28 .lenL [.t 27] 25 false,w 29 (.bin .neq) [.t 28,.k (.i 1)] 25 false,p 30 .pick [.t 25,.k (.b true),.t 29],m 21 30]<|.cond (.t 21) (.q [⟨some 31,.pur (.build Z []),[],none⟩,
 s 4 3 4 31,i 5 2]<|.ret) (.q [f 33 2 2,l 34 2 1 false 33,p 35 (.iaddr 3) [.t 34,.k (.i 1)],h 36 3 true 35,l 37 3 3 true 3,c 38 363 [.t 37],
 c 39 118 [.t 36,.t 38],o 40 (.un .not) 39,m 32 40]<|.cond (.t 32) (.q [⟨some 41,.pur (.build Z []),[],none⟩,s 4 3 4 41,i 5 6]<|.ret) (.skip))))<|.q [f 42 2 6,
 l 43 6 1 false 42,p 44 (.iaddr 3) [.t 43,.k (.i 0)],h 45 3 true 44,s 4 3 4 45,i 5 0]<|.ret
def f270:AFunc:=⟨46,f270b,[.cell 4 3 true,.tmp 5]⟩
def f271b:ACode:=.q [x 1 0,⟨some 2,.alloc .reg Z,[],none⟩]<|.q [l 3 1 18 true 1,c 4 272 [.t 3,.k (.i 1)],⟨some 5,.call 62,[.k (.s ⟨#[102,97,99,116,111,114]⟩),.k N],none⟩,c 6 261 [.t 4,.k (.i 60),.t 5],
 s 2 3 2 6]<|.ret
def f271:AFunc:=⟨7,f271b,[.cell 2 3 true]⟩
def f272b:ACode:=.q [x 2 0,⟨some 4,.alloc .reg Z,[],none⟩]<|.q [f 5 0 2,l 6 2 3 true 5,f 7 3 2,l 8 2 3 true 7,c 9 127 [.t 6,.t 8],
 f 10 6 2,l 11 2 3 true 10,c 12 363 [.t 11],f 13 9 2,l 14 2 3 true 13,f 15 12 2,l 16 2 3 true 15,f 17 15 2,l 18 2 3 true 17,
 c 19 124 [.t 18],m 20 1,c 21 364 [.t 9,.t 12,.t 14,.t 16,.t 19,.t 20],s 4 3 4 21]<|.ret
def f272:AFunc:=⟨22,f272b,[.cell 4 3 true]⟩
def f278b:ACode:=.q [x 2 0,⟨some 4,.alloc .reg Z,[],none⟩]<|.q [l 5 2 3 true 2,m 6 1,⟨some 7,.call 368,[.t 5,.k (.s ⟨#[111,116,112]⟩),.t 6],none⟩,s 4 3 4 7]<|.ret
def f278:AFunc:=⟨8,f278b,[.cell 4 3 true]⟩
def f282b:ACode:=.q [x 3 0,x 4 1,x 5 2,⟨some 6,.alloc .reg Z,[],none⟩,i 7 0]<|.q [l 11 4 3 true 4,⟨some 12,.call 79,[.k (.s ⟨#[111,116,112]⟩),.k (.i 1),.t 11],none⟩,
 m 10 12,e 13 0 10,e 14 1 10,m 8 13,m 9 14]<|.seq (.q [m 15 9,o 16 (.un .not) 15]<|.cond (.t 16) (.q [
 ⟨some 17,.pur (.build Z []),[],none⟩,s 6 3 6 17,i 7 2]<|.ret) (.skip))<|.q [l 18 3 3 true 3,m 19 8,p 20 (.iaddr 3) [.t 19,.k (.i 0)],h 21 3 true 20,
 l 22 5 3 true 5,⟨some 23,.pur (.buildSl 3 2 Z [0,1]),[.t 21,.t 22],none⟩,⟨some 24,.call 63,[.k (.s ⟨#[99,111,100,101]⟩),.t 23],none⟩,c 25 266 [.t 18,.k (.i 45),.t 24],⟨some 26,.pur (.buildSl 3 1 Z [0]),[.t 25],none⟩,
 ⟨some 27,.call 63,[.k (.s ⟨#[111,116,112]⟩),.t 26],none⟩,s 6 3 6 27,i 7 0]<|.ret
def f282:AFunc:=⟨28,f282b,[.cell 6 3 true,.tmp 7]⟩
def f283b:ACode:=.q [x 1 0,⟨some 2,.alloc .reg Z,[],none⟩]<|.q [l 3 1 3 true 1,⟨some 4,.pur (.buildSl 3 1 Z [0]),[.t 3],none⟩,⟨some 5,.call 63,[.k (.s ⟨#[111,116,112]⟩),.t 4],none⟩,s 2 3 2 5]<|.ret
def f283:AFunc:=⟨6,f283b,[.cell 2 3 true]⟩
def f284b:ACode:=.q [x 4 0,x 5 1,x 6 2,x 7 3,⟨some 8,.alloc .reg Z,[],none⟩,⟨some 9,.alloc .reg Z,[],none⟩,i 10 0]<|.q [
 l 19 6 3 true 6,⟨some 20,.call 79,[.k (.s ⟨#[115,112,97,107,101]⟩),.k (.i 1),.t 19],none⟩,m 18 20,e 21 0 18,e 22 1 18,m 11 21,m 12 22]<|.seq (.q [m 23 12,
 o 24 (.un .not) 23]<|.cond (.t 24) (.q [⟨some 25,.pur (.build Z []),[],none⟩,⟨some 26,.pur (.build Z []),[],none⟩,s 8 3 8 25,s 9 3 9 26,i 10 2]<|.ret) (.skip))<|.q [
 m 28 11,p 29 (.iaddr 3) [.t 28,.k (.i 0)],h 30 3 true 29,l 31 4 3 true 4,c 32 369 [.t 30,.t 31],m 27 32,e 33 0 27,e 34 1 27,
 ⟨some 13,.alloc .reg Z,[],none⟩,s 13 3 13 33,m 14 34]<|.seq (.q [m 35 14,p 36 (.bin .neq) [.t 35,.k (.i 0)]]<|.cond (.t 36) (.q [⟨some 37,.pur (.build Z []),[],none⟩,
 ⟨some 38,.pur (.build Z []),[],none⟩,m 39 14,s 8 3 8 37,s 9 3 9 38,m 10 39]<|.ret) (.skip))<|.q [l 40 7 3 true 7,l 41 4 3 true 4,
 c 42 370 [.t 40,.t 41],⟨some 15,.alloc .reg Z,[],none⟩,s 15 3 15 42]<|.q [l 43 7 3 true 7,l 44 13 3 true 13,c 45 372 [.t 43,.t 44],l 46 4 3 true 4,m 47 11,
 p 48 (.iaddr 3) [.t 47,.k (.i 0)],h 49 3 true 48,l 50 15 3 true 15,l 51 5 3 true 5,c 52 371 [.t 45,.t 46,.t 49,.t 50,.t 51,.k (.i 1)],⟨some 16,.alloc .reg Z,[],none⟩,s 16 3 16 52]<|
 .q [l 53 7 3 true 7,l 54 13 3 true 13,c 55 372 [.t 53,.t 54],l 56 4 3 true 4,m 57 11,p 58 (.iaddr 3) [.t 57,.k (.i 0)],h 59 3 true 58,l 60 15 3 true 15,
 l 61 5 3 true 5,c 62 371 [.t 55,.t 56,.t 59,.t 60,.t 61,.k (.i 0)],⟨some 17,.alloc .reg Z,[],none⟩,s 17 3 17 62]<|.q [l 63 15 3 true 15,l 64 16 3 true 16,c 65 373 [.t 64],
 ⟨some 66,.pur (.buildSl 3 2 Z [0,1]),[.t 63,.t 65],none⟩,⟨some 67,.call 63,[.k (.s ⟨#[115,112,97,107,101]⟩),.t 66],none⟩,l 68 17 3 true 17,s 8 3 8 67,s 9 3 9 68,i 10 0]<|.ret
def f284:AFunc:=⟨69,f284b,[.cell 8 3 true,.cell 9 3 true,.tmp 10]⟩
def f285b:ACode:=.q [x 3 0,x 4 1,x 5 2,⟨some 6,.alloc .reg Z,[],none⟩]<|.q [l 7 3 3 true 3,l 8 4 3 true 4,l 9 5 3 true 5,
 ⟨some 10,.pur (.buildSl 3 1 Z [0]),[.t 9],none⟩,⟨some 11,.call 63,[.k (.s ⟨#[97,117,116,104]⟩),.t 10],none⟩,c 12 266 [.t 8,.k (.i 11),.t 11],⟨some 13,.pur (.buildSl 3 2 Z [0,1]),[.t 7,.t 12],none⟩,⟨some 14,.call 63,[.k (.s ⟨#[97,114,109,111,114]⟩),.t 13],none⟩,
 s 6 3 6 14]<|.ret
def f285:AFunc:=⟨15,f285b,[.cell 6 3 true]⟩
def f286b:ACode:=.q [x 2 0,x 3 1,⟨some 4,.alloc .reg Z,[],none⟩]<|.q [l 5 2 3 true 2,l 6 3 3 true 3,⟨some 7,.pur (.buildSl 3 1 Z [0]),[.t 6],none⟩,
 ⟨some 8,.call 63,[.k (.s ⟨#[104,111,115,116]⟩),.t 7],none⟩,c 9 266 [.t 5,.k (.i 2),.t 8],s 4 3 4 9]<|.ret
def f286:AFunc:=⟨10,f286b,[.cell 4 3 true]⟩
def f287b:ACode:=.q [x 4 0,x 5 1,x 6 2,x 7 3,⟨some 8,.alloc .reg Z,[],none⟩]<|.q [l 9 4 3 true 4,l 10 5 3 true 5,c 11 265 [.t 10],
 l 12 6 3 true 6,l 13 7 3 true 7,⟨some 14,.pur (.buildSl 3 3 Z [0,1,2]),[.t 11,.t 12,.t 13],none⟩,⟨some 15,.call 63,[.k (.s ⟨#[102,97,115,116]⟩),.t 14],none⟩,c 16 266 [.t 9,.k (.i 51),.t 15],s 8 3 8 16]<|.ret
def f287:AFunc:=⟨17,f287b,[.cell 8 3 true]⟩
def f293b:ACode:=.q [x 4 0,x 5 1,⟨some 8,.alloc .reg Z,[],none⟩]<|.q [l 9 4 3 true 4,m 10 2,⟨some 11,.pur (.bin .add),[.k (.s ⟨#[106,111,105,110,32]⟩),.t 10],none⟩,c 12 259 [.t 9,.t 11],
 l 13 5 3 true 5,m 14 3,⟨some 15,.pur (.bin .add),[.k (.s ⟨#[106,111,105,110,32]⟩),.t 14],none⟩,c 16 259 [.t 13,.t 15],⟨some 17,.pur (.buildSl 3 2 Z [0,1]),[.t 12,.t 16],none⟩,c 18 385 [.t 17],c 19 265 [.t 18],
 s 8 3 8 19]<|.ret
def f293:AFunc:=⟨20,f293b,[.cell 8 3 true]⟩
def f304b:ACode:=.q [k 4 N]<|.seq (.q [m 5 1,p 6 (.bin .lss) [.t 5,.k (.i 0)]]<|.cond (.t 6) (.ops [⟨some 7,.bad,[],none⟩,⟨none,.bad,[],none⟩]) (.skip))<|.seq (.q [m 8 1,m 9 0,
 o 10 .cap 9,m 11 0,o 12 .lenL 11,p 13 (.bin .sub) [.t 10,.t 12],p 14 (.bin .sub) [.t 8,.t 13],m 1 14]<|.q [m 15 1,p 16 (.bin .gtr) [.t 15,.k (.i 0)]]<|.cond (.t 16) (.ops [
 m 17 0,m 18 0,o 19 .cap 18,p 20 (.sliceL 3 false true false) [.t 17,.t 19],m 21 1,⟨some 22,.appendZ 3 48 Z,[.t 20,.t 21],none⟩,m 23 0,o 24 .lenL 23,
 p 25 (.sliceL 3 false true false) [.t 22,.t 24],m 0 25]) (.skip))<|.q [m 26 0,m 4 26]<|.ret
def f304:AFunc:=⟨27,f304b,[.tmp 4]⟩
def f306b:ACode:=.q [⟨some 4,.pur .mov,[.k E],none⟩,k 5 (.b false)]<|.seq (.q [m 6 0,m 7 1,c 8 398 [.t 6,.t 7],o 9 (.un .not) 8]<|.cond (.t 9) (.q [m 10 0,m 4 10,
 k 5 (.b false)]<|.ret) (.skip))<|.q [m 11 0,m 12 1,o 13 .lenS 12,p 14 (.sliceS true false) [.t 11,.t 13],m 4 14,k 5 (.b true)]<|.ret
def f306:AFunc:=⟨15,f306b,[.tmp 4,.tmp 5]⟩
def f312b:ACode:=.q [x 2 0,⟨some 4,.alloc .reg Z,[],none⟩]<|.q [m 5 1,l 6 2 3 true 2,⟨some 7,.pur (.buildSl 3 1 Z [0]),[.t 6],none⟩,c 8 228 [.k (.i 7),.t 5,.t 7],
 s 4 3 4 8]<|.ret
def f312:AFunc:=⟨9,f312b,[.cell 4 3 true]⟩
def f314_l0:ACode:=.seq (.q [m 11 6,f 12 2 2,l 13 2 1 false 12,o 14 .lenL 13,p 15 (.bin .lss) [.t 11,.t 14]]<|.cond (.t 15) (.skip) (.exit 0))<|.seq (.block 1 (.q [f 18 2 2,
 l 19 2 1 false 18,m 20 6,p 21 (.iaddr 3) [.t 19,.t 20],h 22 3 true 21,m 23 1,p 24 (.bin .sub) [.t 23,.k (.i 1)],c 25 314 [.t 22,.t 24],m 7 25]<|.ops [m 26 5,
 m 27 7,p 28 .max [.t 26,.t 27],m 5 28]))<|.ops [m 16 6,p 17 (.bin .add) [.t 16,.k (.i 1)],m 6 17]
def f314b:ACode:=.q [x 2 0,i 4 0]<|.seq (.q [m 8 1,p 9 (.bin .leq) [.t 8,.k (.i 1)]]<|.cond (.t 9) (.q [m 10 1,m 4 10]<|.ret) (.skip))<|.q [
 i 5 0]<|.seq (.q [i 6 0]<|.block 0 (.loop [7,11,12,13,14,15,16,17,18,19,20,21,22,23,24,25,26,27,28] [] f314_l0))<|.q [m 29 5,p 30 (.bin .add) [.t 29,.k (.i 1)],m 4 30]<|.ret
def f314:AFunc:=⟨31,f314b,[.tmp 4]⟩
def f316_l0:ACode:=.seq (.q [m 5 3,f 6 2 1,l 7 1 1 false 6,o 8 .lenL 7,p 9 (.bin .lss) [.t 5,.t 8]]<|.cond (.t 9) (.skip) (.exit 0))<|.seq (.block 1 (.q [f 12 2 1,
 l 13 1 1 false 12,m 14 3,p 15 (.iaddr 3) [.t 13,.t 14],h 16 3 true 15,c 17 316 [.t 16],m 4 17]<|.q [m 18 4,o 19 (.un .not) 18]<|.cond (.t 19) (.q [
 k 2 (.b false)]<|.ret) (.skip)))<|.ops [m 10 3,p 11 (.bin .add) [.t 10,.k (.i 1)],m 3 11]
def f316b:ACode:=.q [x 1 0,k 2 (.b false)]<|.seq (.q [i 3 0]<|.block 0 (.loop [2,4,5,6,7,8,9,10,11,12,13,14,15,16,17,18,19] [] f316_l0))<|.q [f 20 0 1,l 21 1 1 false 20,
 p 22 (.bin .neq) [.t 21,.k (.i 9)],m 23 22,w 24 (.faddr 2) [.t 1] 23 false,u 25 (.ld (some 1) 1 false) [.t 24] 23 false,w 26 (.iaddr 3) [.t 25,.k (.i 0)] 23 false,u 27 (.ld none 3 true) [.t 26] 23 false,u 28 (.call 243) [.t 27] 23 false,
 w 29 (.faddr 2) [.t 1] 23 false,u 30 (.ld (some 1) 1 false) [.t 29] 23 false,w 31 (.iaddr 3) [.t 30,.k (.i 1)] 23 false,u 32 (.ld none 3 true) [.t 31] 23 false,u 33 (.call 243) [.t 32] 23 false,w 34 (.bin .leq) [.t 28,.t 33] 23 false,
 p 35 .pick [.t 23,.k (.b true),.t 34],m 2 35]<|.ret
def f316:AFunc:=⟨36,f316b,[.tmp 2]⟩
def f317b:ACode:=.q [x 2 0,⟨some 4,.pur .mov,[.k E],none⟩,k 5 (.b false)]<|.seq (.q [f 6 0 2,l 7 2 1 false 6,p 8 (.bin .neq) [.t 7,.k (.i 1)],m 9 8,
 w 10 (.faddr 1) [.t 2] 9 false,u 11 (.ld (some 2) 1 false) [.t 10] 9 false,w 12 .lenS [.t 11] 9 false,w 13 (.bin .lss) [.t 12,.k (.i 1)] 9 false,p 14 .pick [.t 9,.k (.b true),.t 13],m 15 14,w 16 (.faddr 1) [.t 2] 15 false,
 u 17 (.ld (some 2) 1 false) [.t 16] 15 false,w 18 (.sliceS false true) [.t 17,.k (.i 1)] 15 false,w 19 .mov [.t 1] 15 false,w 20 (.bin .neq) [.t 18,.t 19] 15 false,p 21 .pick [.t 15,.k (.b true),.t 20]]<|.cond (.t 21) (.q [⟨some 4,.pur .mov,[.k E],none⟩,
 k 5 (.b false)]<|.ret) (.skip))<|.q [f 22 1 2,l 23 2 1 false 22,p 24 (.sliceS true false) [.t 23,.k (.i 1)],m 4 24,k 5 (.b true)]<|.ret
def f317:AFunc:=⟨25,f317b,[.tmp 4,.tmp 5]⟩
def f318_l0:ACode:=.seq (.q [m 18 7,m 19 0,o 20 .lenS 19,p 21 (.bin .lss) [.t 18,.t 20]]<|.cond (.t 21) (.skip) (.exit 0))<|.seq (.block 1 (.ops [m 24 6,p 25 (.bin .mul) [.t 24,.k (.i 10)],m 26 0,
 m 27 7,p 28 .indexS [.t 26,.t 27],p 29 (.bin .sub) [.t 28,.k (.sc (.int .u8 (48)))],o 30 (.toInt .i64) 29,p 31 (.bin .sub) [.t 25,.t 30],m 6 31]))<|.ops [m 22 7,p 23 (.bin .add) [.t 22,.k (.i 1)],
 m 7 23]
def f318b:ACode:=.q [i 2 0,k 3 (.b false)]<|.q [m 8 0,o 9 .lenS 8,p 10 (.bin .gtr) [.t 9,.k (.i 1)],m 11 10,w 12 .mov [.t 0] 11 true,
 w 13 .indexS [.t 12,.k (.i 0)] 11 true,w 14 (.bin .eql) [.t 13,.k (.sc (.int .u8 (45)))] 11 true,p 15 .pick [.t 11,.t 14,.k (.b false)],m 4 15]<|.q [i 5 0]<|.seq (.q [m 16 4]<|.cond (.t 16) (.ops [
 i 5 1]) (.skip))<|.q [i 6 0]<|.seq (.q [m 17 5,m 7 17]<|.block 0 (.loop [18,19,20,21,22,23,24,25,26,27,28,29,30,31] [] f318_l0))<|.seq (.q [m 32 4,o 33 (.un .not) 32]<|
 .cond (.t 33) (.ops [m 34 6,o 35 (.un .neg) 34,m 6 35]) (.skip))<|.q [m 36 6,m 37 6,c 38 213 [.t 37],m 39 0,p 40 (.bin .eql) [.t 38,.t 39],m 2 36,
 m 3 40]<|.ret
def f318:AFunc:=⟨41,f318b,[.tmp 2,.tmp 3]⟩
def f319b:ACode:=.q [x 1 0,k 2 (.b false)]<|.q [f 3 0 1,l 4 1 1 false 3,p 5 (.bin .geq) [.t 4,.k (.i 1)],m 6 5,w 7 (.faddr 0) [.t 1] 6 true,
 u 8 (.ld (some 1) 1 false) [.t 7] 6 true,w 9 (.bin .leq) [.t 8,.k (.i 10)] 6 true,p 10 .pick [.t 6,.t 9,.k (.b false)],m 2 10]<|.ret
def f319:AFunc:=⟨11,f319b,[.tmp 2]⟩
def f320b:ACode:=.q [k 4 (.b false)]<|.q [m 5 0,m 6 1,c 7 408 [.t 5,.t 6],p 8 (.bin .geq) [.t 7,.k (.i 0)],m 4 8]<|.ret
def f320:AFunc:=⟨9,f320b,[.tmp 4]⟩
def f321b:ACode:=.q [x 2 0,k 3 (.b false)]<|.q [l 4 2 3 true 2,h 5 1 false 1,p 6 (.bin .sub) [.t 5,.k (.i 1)],c 7 221 [.t 4,.t 6],o 8 (.un .not) 7,m 3 8]<|.ret
def f321:AFunc:=⟨9,f321b,[.tmp 3]⟩
def f329_l0:ACode:=.seq (.q [m 13 5,m 14 0,o 15 .lenL 14,p 16 (.bin .lss) [.t 13,.t 15]]<|.cond (.t 16) (.skip) (.exit 0))<|.seq (.block 1 (.q [m 19 4,m 20 0,m 21 5,
 p 22 (.iaddr 15) [.t 20,.t 21],f 23 0 22,h 24 1 false 23,c 25 345 [.t 19,.t 24],m 6 25]<|.q [m 26 0,m 27 5,p 28 (.iaddr 15) [.t 26,.t 27],
 h 29 15 true 28,c 30 416 [.t 29],m 7 30]<|.seq (.q [m 31 7,o 32 (.un .not) 31,m 33 32,w 34 .mov [.t 6] 33 false,w 35 (.bin .geq) [.t 34,.k (.i 0)] 33 false,
 p 36 .pick [.t 33,.k (.b true),.t 35]]<|.cond (.t 36) (.q [k 2 (.sc (.pointer none)),i 3 1]<|.ret) (.skip))<|.ops [m 37 4,m 38 4,o 39 .nilchk 38,f 40 0 39,
 h 41 1 false 40,m 42 0,m 43 5,p 44 (.iaddr 15) [.t 42,.t 43],h 45 15 true 44,
 ⟨some 46,.pur (.buildSl 15 1 [E,.i 0,E,N,N,.i 0,E,N,.i 0,.i 0,.i 0,.i 0,.i 0,.i 0,.i 0] [0]),[.t 45],none⟩,⟨some 47,.append 15 192,[.t 41,.t 46],none⟩,o 48 .nilchk 37,f 49 0 48,⟨none,.st none 1,[.t 49,.t 47],none⟩]))<|.ops [
 m 17 5,p 18 (.bin .add) [.t 17,.k (.i 1)],m 5 18]
def f329b:ACode:=.q [k 2 (.sc (.pointer none)),i 3 0]<|.seq (.q [m 8 0,o 9 .lenL 8,p 10 (.bin .gtr) [.t 9,.k (.i 32)]]<|.cond (.t 10) (.q [k 2 (.sc (.pointer none)),
 i 3 12]<|.ret) (.skip))<|.q [p 11 (.build [N] []) [],⟨some 12,.box .heap,[.t 11],none⟩,m 4 12]<|.seq (.q [i 5 0]<|
 .block 0 (.loop [2,3,6,7,13,14,15,16,17,18,19,20,21,22,23,24,25,26,27,28,29,30,31,32,33,34,35,36,37,38,39,40,41,42,43,44,45,46,47,48,49] [] f329_l0))<|.q [m 50 4,m 2 50,i 3 0]<|.ret
def f329:AFunc:=⟨51,f329b,[.tmp 2,.tmp 3]⟩
def f330b:ACode:=.q [x 4 1,x 5 2,⟨some 6,.alloc .reg Z,[],none⟩]<|.q [m 7 0,o 8 .nilchk 7,f 9 16 8,h 10 3 true 9,m 11 0,
 o 12 .nilchk 11,f 13 19 12,h 14 3 true 13,m 15 0,o 16 .nilchk 15,f 17 22 16,h 18 3 true 17,m 19 0,o 20 .nilchk 19,
 f 21 16 20,h 22 3 true 21,l 23 4 3 true 4,l 24 5 3 true 5,c 25 287 [.t 18,.t 22,.t 23,.t 24],c 26 71 [.t 10,.t 14,.t 25],s 6 3 6 26]<|.ret
def f330:AFunc:=⟨27,f330b,[.cell 6 3 true]⟩
def f331b:ACode:=.q [x 2 0,x 3 1,⟨some 4,.alloc .reg Z,[],none⟩]<|.q [l 5 3 3 true 3,l 6 2 3 true 2,c 7 370 [.t 5,.t 6],
 ⟨some 8,.pur (.buildSl 3 1 Z [0]),[.t 7],none⟩,⟨some 9,.call 63,[.k (.s ⟨#[115,112,97,107,101]⟩),.t 8],none⟩,s 4 3 4 9]<|.ret
def f331:AFunc:=⟨10,f331b,[.cell 4 3 true]⟩
def f332b:ACode:=.q [x 3 0,x 5 2,⟨some 6,.alloc .reg Z,[],none⟩]<|.q [l 7 3 3 true 3,m 8 1,c 9 65 [.t 8],l 10 5 3 true 5,
 ⟨some 11,.pur (.buildSl 3 2 Z [0,1]),[.t 9,.t 10],none⟩,⟨some 12,.call 63,[.k (.s ⟨#[97,110,115,119,101,114]⟩),.t 11],none⟩,c 13 266 [.t 7,.k (.i 52),.t 12],s 6 3 6 13]<|.ret
def f332:AFunc:=⟨14,f332b,[.cell 6 3 true]⟩
def f333b:ACode:=.q [x 2 0,x 3 1,⟨some 4,.alloc .reg Z,[],none⟩]<|.q [l 5 2 3 true 2,l 6 3 3 true 3,
 ⟨some 7,.call 293,[.t 5,.t 6,.k (.s ⟨#[115,116,114,101,110,103,116,104,101,110,107,101,121]⟩),.k (.s ⟨#[114,101,112,108,121,107,101,121]⟩)],none⟩,s 4 3 4 7]<|.ret
def f333:AFunc:=⟨8,f333b,[.cell 4 3 true]⟩
def f334b:ACode:=.q [i 4 0]<|.seq (.q [m 17 0,o 18 .nilchk 17,f 19 28 18,h 20 1 false 19,o 21 (.un .not) 20]<|.cond (.t 21) (.q [i 4 11]<|
 .ret) (.skip))<|.q [m 23 0,o 24 .nilchk 23,f 25 22 24,h 26 3 true 25,m 27 0,o 28 .nilchk 27,f 29 15 28,h 30 1 false 29,m 31 1,
 p 32 (.iaddr 3) [.t 31,.k (.i 2)],h 33 3 true 32,c 34 335 [.t 26,.t 30,.t 33],m 22 34,e 35 0 22,e 36 1 22,⟨some 5,.alloc .reg Z,[],none⟩,s 5 3 5 35,
 m 6 36]<|.seq (.q [m 37 6,p 38 (.bin .neq) [.t 37,.k (.i 0)]]<|.cond (.t 38) (.q [m 39 6,m 4 39]<|.ret) (.skip))<|.q [l 41 5 3 true 5,
 ⟨some 42,.call 79,[.k (.s ⟨#[102,105,110,105,115,104]⟩),.k (.i 2),.t 41],none⟩,m 40 42,e 43 0 40,e 44 1 40,m 7 43,m 8 44]<|.seq (.q [m 45 8,o 46 (.un .not) 45]<|
 .cond (.t 46) (.q [i 4 2]<|.ret) (.skip))<|.q [m 47 1,p 48 (.iaddr 3) [.t 47,.k (.i 0)],h 49 3 true 48,c 50 265 [.t 49],⟨some 9,.alloc .reg Z,[],none⟩,s 9 3 9 50]<|
 .q [m 51 7,p 52 (.iaddr 3) [.t 51,.k (.i 1)],h 53 3 true 52,l 54 9 3 true 9,c 55 61 [.t 53,.t 54],m 10 55]<|.seq (.q [m 56 10,o 57 (.un .not) 56]<|
 .cond (.t 57) (.q [i 4 6]<|.ret) (.skip))<|.q [m 59 7,p 60 (.iaddr 3) [.t 59,.k (.i 0)],h 61 3 true 60,m 62 0,o 63 .nilchk 62,f 64 25 63,
 h 65 3 true 64,c 66 333 [.t 61,.t 65],m 67 1,p 68 (.iaddr 3) [.t 67,.k (.i 1)],h 69 3 true 68,c 70 268 [.t 66,.k (.i 3),.t 69],m 58 70,e 71 0 58,
 e 72 1 58,⟨some 11,.alloc .reg Z,[],none⟩,s 11 3 11 71,m 12 72]<|.seq (.q [m 73 12,p 74 (.bin .neq) [.t 73,.k (.i 0)]]<|.cond (.t 74) (.q [m 75 12,
 m 4 75]<|.ret) (.skip))<|.q [l 77 11 3 true 11,⟨some 78,.call 79,[.k (.s ⟨#[101,110,99]⟩),.k (.i 3),.t 77],none⟩,m 76 78,e 79 0 76,e 80 1 76,m 13 79,m 14 80]<|
 .seq (.q [m 81 14,o 82 (.un .not) 81]<|.cond (.t 82) (.q [i 4 2]<|.ret) (.skip))<|.q [m 83 13,p 84 (.iaddr 3) [.t 83,.k (.i 1)],h 85 3 true 84,m 86 0,
 o 87 .nilchk 86,f 88 15 87,h 89 1 false 88,c 90 65 [.t 89],c 91 61 [.t 85,.t 90],m 15 91]<|.q [m 92 13,p 93 (.iaddr 3) [.t 92,.k (.i 2)],h 94 3 true 93,
 l 95 9 3 true 9,c 96 61 [.t 94,.t 95],m 16 96]<|.seq (.q [m 97 15,o 98 (.un .not) 97,m 99 98,w 100 .mov [.t 16] 99 false,w 101 (.un .not) [.t 100] 99 false,
 p 102 .pick [.t 99,.k (.b true),.t 101]]<|.cond (.t 102) (.q [i 4 6]<|.ret) (.skip))<|.q [m 103 0,m 104 13,p 105 (.iaddr 3) [.t 104,.k (.i 0)],h 106 3 true 105,o 107 .nilchk 103,
 f 108 30 107,⟨none,.st none 3,[.t 108,.t 106],none⟩]<|.q [m 109 0,o 110 .nilchk 109,f 111 33 110,⟨none,.st none 1,[.t 111,.k (.b true)],none⟩]<|.q [m 112 0,o 113 .nilchk 112,
 f 114 14 113,⟨none,.st none 1,[.t 114,.k (.b false)],none⟩]<|.q [i 4 0]<|.ret
def f334:AFunc:=⟨115,f334b,[.tmp 4]⟩
def f335b:ACode:=.q [x 3 0,x 5 2,⟨some 6,.alloc .reg Z,[],none⟩,i 7 0]<|.q [l 12 3 3 true 3,l 13 5 3 true 5,
 ⟨some 14,.call 417,[.t 12,.k (.i 52),.t 13,.k (.s ⟨#[97,110,115,119,101,114]⟩),.k (.i 2)],none⟩,m 11 14,e 15 0 11,e 16 1 11,m 8 15,m 9 16]<|.seq (.q [m 17 9,
 p 18 (.bin .neq) [.t 17,.k (.i 0)]]<|.cond (.t 18) (.q [⟨some 19,.pur (.build Z []),[],none⟩,m 20 9,s 6 3 6 19,m 7 20]<|.ret) (.skip))<|.q [m 21 8,
 p 22 (.iaddr 3) [.t 21,.k (.i 0)],h 23 3 true 22,m 24 1,c 25 65 [.t 24],c 26 61 [.t 23,.t 25],m 10 26]<|.seq (.q [m 27 10,o 28 (.un .not) 27]<|.cond (.t 28) (.q [
 ⟨some 29,.pur (.build Z []),[],none⟩,s 6 3 6 29,i 7 6]<|.ret) (.skip))<|.q [m 30 8,p 31 (.iaddr 3) [.t 30,.k (.i 1)],h 32 3 true 31,s 6 3 6 32,
 i 7 0]<|.ret
def f335:AFunc:=⟨33,f335b,[.cell 6 3 true,.tmp 7]⟩
def f336b:ACode:=.q [x 2 0,⟨some 4,.alloc .reg Z,[],none⟩]<|.q [l 5 2 3 true 2,m 6 1,c 7 139 [.t 6],⟨some 8,.pur (.bin .add),[.k (.s ⟨#[117,115,101,32]⟩),.t 7],none⟩,c 9 259 [.t 5,.t 8],
 s 4 3 4 9]<|.ret
def f336:AFunc:=⟨10,f336b,[.cell 4 3 true]⟩
def f337b:ACode:=.q [x 2 0,x 3 1,⟨some 4,.alloc .reg Z,[],none⟩,i 5 0]<|.q [l 13 3 3 true 3,⟨some 14,.call 79,[.k (.s ⟨#[97,114,109,111,114]⟩),.k (.i 2),.t 13],none⟩,m 12 14,
 e 15 0 12,e 16 1 12,m 6 15,m 7 16]<|.seq (.q [m 17 7,o 18 (.un .not) 17]<|.cond (.t 18) (.q [⟨some 19,.pur (.build Z []),[],none⟩,
 s 4 3 4 19,i 5 2]<|.ret) (.skip))<|.q [l 21 2 3 true 2,m 22 6,p 23 (.iaddr 3) [.t 22,.k (.i 0)],h 24 3 true 23,
 ⟨some 25,.call 417,[.t 21,.k (.i 2),.t 24,.k (.s ⟨#[104,111,115,116]⟩),.k (.i 1)],none⟩,m 20 25,e 26 0 20,e 27 1 20,m 8 26,m 9 27]<|.seq (.q [m 28 9,
 p 29 (.bin .neq) [.t 28,.k (.i 0)]]<|.cond (.t 29) (.q [⟨some 30,.pur (.build Z []),[],none⟩,m 31 9,s 4 3 4 30,m 5 31]<|.ret) (.skip))<|.q [m 33 8,
 p 34 (.iaddr 3) [.t 33,.k (.i 0)],h 35 3 true 34,m 36 6,p 37 (.iaddr 3) [.t 36,.k (.i 1)],h 38 3 true 37,⟨some 39,.call 417,[.t 35,.k (.i 11),.t 38,.k (.s ⟨#[97,117,116,104]⟩),.k (.i 1)],none⟩,m 32 39,
 e 40 0 32,e 41 1 32,m 10 40,m 11 41]<|.seq (.q [m 42 11,p 43 (.bin .neq) [.t 42,.k (.i 0)]]<|.cond (.t 43) (.q [⟨some 44,.pur (.build Z []),[],none⟩,
 m 45 11,s 4 3 4 44,m 5 45]<|.ret) (.skip))<|.q [m 46 10,p 47 (.iaddr 3) [.t 46,.k (.i 0)],h 48 3 true 47,m 49 8,p 50 (.iaddr 3) [.t 49,.k (.i 0)],
 h 51 3 true 50,c 52 175 [.t 48,.t 51],s 4 3 4 52,i 5 0]<|.ret
def f337:AFunc:=⟨53,f337b,[.cell 4 3 true,.tmp 5]⟩
def f338b:ACode:=.q [x 3 0,x 4 1,x 5 2,⟨some 6,.alloc .reg Z,[],none⟩,⟨some 7,.alloc .reg Z,[],none⟩,i 8 0]<|.q [l 13 3 3 true 3,
 l 14 5 3 true 5,⟨some 15,.call 417,[.t 13,.k (.i 51),.t 14,.k (.s ⟨#[102,97,115,116]⟩),.k (.i 3)],none⟩,m 12 15,e 16 0 12,e 17 1 12,m 9 16,m 10 17]<|.seq (.q [
 m 18 10,p 19 (.bin .neq) [.t 18,.k (.i 0)]]<|.cond (.t 19) (.q [⟨some 20,.pur (.build Z []),[],none⟩,⟨some 21,.pur (.build Z []),[],none⟩,m 22 10,s 6 3 6 20,s 7 3 7 21,
 m 8 22]<|.ret) (.skip))<|.q [m 23 9,p 24 (.iaddr 3) [.t 23,.k (.i 0)],h 25 3 true 24,l 26 4 3 true 4,c 27 265 [.t 26],c 28 61 [.t 25,.t 27],m 11 28]<|.seq (.q [
 m 29 11,o 30 (.un .not) 29]<|.cond (.t 30) (.q [⟨some 31,.pur (.build Z []),[],none⟩,⟨some 32,.pur (.build Z []),[],none⟩,s 6 3 6 31,s 7 3 7 32,i 8 6]<|
 .ret) (.skip))<|.q [m 33 9,p 34 (.iaddr 3) [.t 33,.k (.i 1)],h 35 3 true 34,m 36 9,p 37 (.iaddr 3) [.t 36,.k (.i 2)],h 38 3 true 37,s 6 3 6 35,s 7 3 7 38,
 i 8 0]<|.ret
def f338:AFunc:=⟨39,f338b,[.cell 6 3 true,.cell 7 3 true,.tmp 8]⟩
def f339b:ACode:=.q [⟨some 4,.alloc .reg [E,.i 0,E,N,N,.i 0,E,N,.i 0,.i 0,.i 0,.i 0,.i 0,.i 0,.i 0],[],none⟩,k 5 (.b false)]<|.q [m 7 0,m 8 1,c 9 345 [.t 7,.t 8],
 m 6 9]<|.seq (.q [m 10 6,p 11 (.bin .lss) [.t 10,.k (.i 0)]]<|.cond (.t 11) (.q [⟨some 12,.pur (.build [E,.i 0,E,N,N,.i 0,E,N,.i 0,.i 0,.i 0,.i 0,.i 0,.i 0,.i 0] []),[],none⟩,
 s 4 15 4 12,k 5 (.b false)]<|.ret) (.skip))<|.q [m 13 0,o 14 .nilchk 13,f 15 0 14,h 16 1 false 15,m 17 6,p 18 (.iaddr 15) [.t 16,.t 17],
 h 19 15 true 18,s 4 15 4 19,k 5 (.b true)]<|.ret
def f339:AFunc:=⟨20,f339b,[.cell 4 15 true,.tmp 5]⟩
def f340_l0:ACode:=.seq (.q [m 11 5,m 12 0,o 13 .lenL 12,p 14 (.bin .lss) [.t 11,.t 13]]<|.cond (.t 14) (.skip) (.exit 0))<|.seq (.block 1 (.q [m 17 0,m 18 5,p 19 (.iaddr 1) [.t 17,.t 18],
 h 20 1 false 19,m 21 1,m 22 5,p 23 (.iaddr 1) [.t 21,.t 22],h 24 1 false 23,p 25 (.bin .neq) [.t 20,.t 24]]<|.cond (.t 25) (.q [k 4 (.b false)]<|.ret) (.skip)))<|.ops [
 m 15 5,p 16 (.bin .add) [.t 15,.k (.i 1)],m 5 16]
def f340b:ACode:=.q [k 4 (.b false)]<|.seq (.q [m 6 0,o 7 .lenL 6,m 8 1,o 9 .lenL 8,p 10 (.bin .geq) [.t 7,.t 9]]<|.cond (.t 10) (.q [k 4 (.b false)]<|.ret) (.skip))<|
 .seq (.q [i 5 0]<|.block 0 (.loop [4,11,12,13,14,15,16,17,18,19,20,21,22,23,24,25] [] f340_l0))<|.q [k 4 (.b true)]<|.ret
def f340:AFunc:=⟨26,f340b,[.tmp 4]⟩
def f341b:ACode:=.q [k 4 (.b false)]<|.q [m 8 0,m 9 1,c 10 339 [.t 8,.t 9],m 7 10,e 11 0 7,e 12 1 7,
 ⟨some 5,.alloc .reg [E,.i 0,E,N,N,.i 0,E,N,.i 0,.i 0,.i 0,.i 0,.i 0,.i 0,.i 0],[],none⟩,s 5 15 5 11,m 6 12]<|.q [m 13 6,o 14 (.un .not) 13,m 15 14,
 w 16 (.faddr 14) [.t 5] 15 false,u 17 (.ld (some 5) 1 false) [.t 16] 15 false,w 18 (.bin .geq) [.t 17,.k (.i 5)] 15 false,p 19 .pick [.t 15,.k (.b true),.t 18],m 4 19]<|.ret
def f341:AFunc:=⟨20,f341b,[.tmp 4]⟩
def f342b:ACode:=.q [⟨some 2,.alloc .reg Z,[],none⟩]<|.q [m 3 0,o 4 .nilchk 3,f 5 9 4,h 6 1 false 5,p 7 (.bin .add) [.t 6,.k (.i 1)],o 8 .nilchk 3,
 f 9 9 8,⟨none,.st none 1,[.t 9,.t 7],none⟩]<|.q [m 10 0,o 11 .nilchk 10,f 12 9 11,h 13 1 false 12,c 14 139 [.t 13],⟨some 15,.pur (.bin .add),[.k (.s ⟨#[107,100,99,32]⟩),.t 14],none⟩,
 c 16 130 [.t 15],s 2 3 2 16]<|.ret
def f342:AFunc:=⟨17,f342b,[.cell 2 3 true]⟩
def f343_l0:ACode:=.seq (.q [m 64 22,m 65 21,p 66 (.bin .leq) [.t 64,.t 65],m 67 66,w 68 .mov [.t 22] 67 true,w 69 .mov [.t 20] 67 true,w 70 (.bin .add) [.t 69,.k (.i 70)] 67 true,
 w 71 (.bin .leq) [.t 68,.t 70] 67 true,p 72 .pick [.t 67,.t 71,.k (.b false)]]<|.cond (.t 72) (.skip) (.exit 0))<|.seq (.block 1 (.q [m 75 16,p 76 (.iaddr 3) [.t 75,.k (.i 1)],h 77 3 true 76,l 78 8 3 true 8,
 m 79 22,c 80 158 [.t 78,.t 79],c 81 61 [.t 77,.t 80],m 23 81]<|.q [m 82 23,m 83 82,w 84 .mov [.t 22] 83 true,w 85 (.faddr 0) [.t 9] 83 true,
 u 86 (.ld (some 9) 1 false) [.t 85] 83 true,w 87 (.faddr 1) [.t 9] 83 true,u 88 (.ld (some 9) 1 false) [.t 87] 83 true,w 89 (.bin .add) [.t 86,.t 88] 83 true,w 90 (.faddr 2) [.t 9] 83 true,u 91 (.ld (some 9) 1 false) [.t 90] 83 true,
 w 92 (.bin .add) [.t 89,.t 91] 83 true,w 93 (.bin .leq) [.t 84,.t 92] 83 true,w 94 .mov [.t 93] 83 true,w 95 .mov [.t 22] 94 false,w 96 (.faddr 3) [.t 9] 94 false,u 97 (.ld (some 9) 1 false) [.t 96] 94 false,w 98 (.bin .eql) [.t 95,.t 97] 94 false,
 w 99 .pick [.t 94,.k (.b true),.t 98] 83 true,p 100 .pick [.t 83,.t 99,.k (.b false)]]<|.cond (.t 100) (.ops [m 101 19,m 102 22,⟨some 103,.pur (.buildSl 1 1 [.i 0] [0]),[.t 102],none⟩,⟨some 104,.append 1 8,[.t 101,.t 103],none⟩,m 19 104]) (.skip)))<|
 .ops [m 73 22,p 74 (.bin .add) [.t 73,.k (.i 1)],m 22 74]
def f343b:ACode:=.q [x 5 0,x 6 1,x 7 2,x 8 3,x 9 4,k 10 N,i 11 0]<|.q [l 27 7 3 true 7,
 ⟨some 28,.call 79,[.k (.s ⟨#[111,116,112]⟩),.k (.i 1),.t 27],none⟩,m 26 28,e 29 0 26,e 30 1 26,m 12 29,m 13 30]<|.seq (.q [m 31 13,o 32 (.un .not) 31]<|
 .cond (.t 32) (.q [k 10 N,i 11 2]<|.ret) (.skip))<|.q [l 34 5 3 true 5,m 35 12,p 36 (.iaddr 3) [.t 35,.k (.i 0)],h 37 3 true 36,c 38 268 [.t 34,.k (.i 45),.t 37],
 m 33 38,e 39 0 33,e 40 1 33,⟨some 14,.alloc .reg Z,[],none⟩,s 14 3 14 39,m 15 40]<|.seq (.q [m 41 15,p 42 (.bin .neq) [.t 41,.k (.i 0)]]<|
 .cond (.t 42) (.q [m 43 15,k 10 N,m 11 43]<|.ret) (.skip))<|.q [l 45 14 3 true 14,⟨some 46,.call 79,[.k (.s ⟨#[99,111,100,101]⟩),.k (.i 2),.t 45],none⟩,m 44 46,e 47 0 44,
 e 48 1 44,m 16 47,m 17 48]<|.seq (.q [m 49 17,o 50 (.un .not) 49]<|.cond (.t 50) (.q [k 10 N,i 11 2]<|.ret) (.skip))<|.q [
 m 51 16,p 52 (.iaddr 3) [.t 51,.k (.i 0)],h 53 3 true 52,l 54 6 3 true 6,c 55 61 [.t 53,.t 54],m 18 55]<|.seq (.q [m 56 18,o 57 (.un .not) 56]<|.cond (.t 57) (.q [
 k 10 N,i 11 6]<|.ret) (.skip))<|.q [k 19 N]<|.q [l 59 9 6 true 9,c 60 418 [.t 59],m 58 60,e 61 0 58,
 e 62 1 58,m 20 61,m 21 62]<|.seq (.q [m 63 20,m 22 63]<|
 .block 0 (.loop [23,64,65,66,67,68,69,70,71,72,73,74,75,76,77,78,79,80,81,82,83,84,85,86,87,88,89,90,91,92,93,94,95,96,97,98,99,100,101,102,103,104] [] f343_l0))<|.seq (.q [m 105 20,m 106 21,p 107 (.bin .leq) [.t 105,.t 106],m 108 107,
 w 109 (.faddr 3) [.t 9] 108 true,u 110 (.ld (some 9) 1 false) [.t 109] 108 true,w 111 .mov [.t 20] 108 true,w 112 (.bin .add) [.t 111,.k (.i 70)] 108 true,w 113 (.bin .gtr) [.t 110,.t 112] 108 true,p 114 .pick [.t 108,.t 113,.k (.b false)]]<|.cond (.t 114) (.q [
 m 115 16,p 116 (.iaddr 3) [.t 115,.k (.i 1)],h 117 3 true 116,l 118 8 3 true 8,f 119 3 9,l 120 9 1 false 119,c 121 158 [.t 118,.t 120],c 122 61 [.t 117,.t 121],
 m 24 122]<|.q [m 123 24]<|.cond (.t 123) (.ops [m 124 19,f 125 3 9,l 126 9 1 false 125,⟨some 127,.pur (.buildSl 1 1 [.i 0] [0]),[.t 126],none⟩,⟨some 128,.append 1 8,[.t 124,.t 127],none⟩,
 m 19 128]) (.skip)) (.skip))<|.seq (.q [m 129 20,m 130 21,p 131 (.bin .leq) [.t 129,.t 130],m 132 131,w 133 (.faddr 3) [.t 9] 132 true,u 134 (.ld (some 9) 1 false) [.t 133] 132 true,
 w 135 .mov [.t 20] 132 true,w 136 (.bin .lss) [.t 134,.t 135] 132 true,p 137 .pick [.t 132,.t 136,.k (.b false)]]<|.cond (.t 137) (.q [m 138 16,p 139 (.iaddr 3) [.t 138,.k (.i 1)],h 140 3 true 139,l 141 8 3 true 8,
 f 142 3 9,l 143 9 1 false 142,c 144 158 [.t 141,.t 143],c 145 61 [.t 140,.t 144],m 25 145]<|.q [m 146 25]<|.cond (.t 146) (.ops [f 147 3 9,l 148 9 1 false 147,
 ⟨some 149,.pur (.buildSl 1 1 [.i 0] [0]),[.t 148],none⟩,m 150 19,⟨some 151,.append 1 8,[.t 149,.t 150],none⟩,m 19 151]) (.skip)) (.skip))<|.q [m 152 19,m 10 152,i 11 0]<|.ret
def f343:AFunc:=⟨153,f343b,[.tmp 10,.tmp 11]⟩
def f344b:ACode:=.q [x 4 0,x 5 1,x 6 2,x 7 3,⟨some 8,.alloc .reg Z,[],none⟩,i 9 0]<|.q [l 18 7 3 true 7,
 ⟨some 19,.call 79,[.k (.s ⟨#[115,112,97,107,101]⟩),.k (.i 2),.t 18],none⟩,m 17 19,e 20 0 17,e 21 1 17,m 10 20,m 11 21]<|.seq (.q [m 22 11,o 23 (.un .not) 22]<|
 .cond (.t 23) (.q [⟨some 24,.pur (.build Z []),[],none⟩,s 8 3 8 24,i 9 2]<|.ret) (.skip))<|.q [m 26 10,p 27 (.iaddr 3) [.t 26,.k (.i 0)],h 28 3 true 27,
 l 29 4 3 true 4,c 30 369 [.t 28,.t 29],m 25 30,e 31 0 25,e 32 1 25,⟨some 12,.alloc .reg Z,[],none⟩,s 12 3 12 31,m 13 32]<|.seq (.q [
 m 33 13,p 34 (.bin .neq) [.t 33,.k (.i 0)]]<|.cond (.t 34) (.q [⟨some 35,.pur (.build Z []),[],none⟩,m 36 13,s 8 3 8 35,m 9 36]<|.ret) (.skip))<|.q [l 37 6 3 true 6,
 l 38 4 3 true 4,c 39 370 [.t 37,.t 38],⟨some 14,.alloc .reg Z,[],none⟩,s 14 3 14 39]<|.q [l 40 12 3 true 12,l 41 6 3 true 6,c 42 372 [.t 40,.t 41],
 l 43 4 3 true 4,l 44 14 3 true 14,m 45 10,p 46 (.iaddr 3) [.t 45,.k (.i 0)],h 47 3 true 46,l 48 5 3 true 5,c 49 371 [.t 42,.t 43,.t 44,.t 47,.t 48,.k (.i 1)],
 ⟨some 15,.alloc .reg Z,[],none⟩,s 15 3 15 49]<|.q [m 50 10,p 51 (.iaddr 3) [.t 50,.k (.i 1)],h 52 3 true 51,l 53 15 3 true 15,c 54 373 [.t 53],c 55 61 [.t 52,.t 54],
 m 16 55]<|.seq (.q [m 56 16,o 57 (.un .not) 56]<|.cond (.t 57) (.q [⟨some 58,.pur (.build Z []),[],none⟩,s 8 3 8 58,i 9 6]<|.ret) (.skip))<|.q [
 l 59 12 3 true 12,l 60 6 3 true 6,c 61 372 [.t 59,.t 60],l 62 4 3 true 4,l 63 14 3 true 14,m 64 10,p 65 (.iaddr 3) [.t 64,.k (.i 0)],h 66 3 true 65,
 l 67 5 3 true 5,c 68 371 [.t 61,.t 62,.t 63,.t 66,.t 67,.k (.i 0)],s 8 3 8 68,i 9 0]<|.ret
def f344:AFunc:=⟨69,f344b,[.cell 8 3 true,.tmp 9]⟩
def f345_l0:ACode:=.seq (.q [m 6 5,m 7 0,o 8 .nilchk 7,f 9 0 8,h 10 1 false 9,o 11 .lenL 10,p 12 (.bin .lss) [.t 6,.t 11]]<|.cond (.t 12) (.skip) (.exit 0))<|.seq (.block 1 (.q [
 m 15 0,o 16 .nilchk 15,f 17 0 16,h 18 1 false 17,m 19 5,p 20 (.iaddr 15) [.t 18,.t 19],f 21 0 20,h 22 1 false 21,m 23 1,
 p 24 (.bin .eql) [.t 22,.t 23]]<|.cond (.t 24) (.q [m 25 5,m 4 25]<|.ret) (.skip)))<|.ops [m 13 5,p 14 (.bin .add) [.t 13,.k (.i 1)],m 5 14]
def f345b:ACode:=.q [i 4 0]<|.seq (.q [i 5 0]<|.block 0 (.loop [4,6,7,8,9,10,11,12,13,14,15,16,17,18,19,20,21,22,23,24,25] [] f345_l0))<|.q [k 4 (.i (-1))]<|.ret
def f345:AFunc:=⟨26,f345b,[.tmp 4]⟩
def f346_l0:ACode:=.seq (.q [m 43 5,f 44 2 1,l 45 1 1 false 44,o 46 .lenL 45,p 47 (.bin .lss) [.t 43,.t 46]]<|.cond (.t 47) (.skip) (.exit 0))<|.seq (.block 1 (.q [f 50 2 1,
 l 51 1 1 false 50,m 52 5,p 53 (.iaddr 3) [.t 51,.t 52],h 54 3 true 53,c 55 346 [.t 54],m 6 55]<|.q [m 56 6,o 57 (.un .not) 56]<|.cond (.t 57) (.q [
 k 2 (.b false)]<|.ret) (.skip)))<|.ops [m 48 5,p 49 (.bin .add) [.t 48,.k (.i 1)],m 5 49]
def f346b:ACode:=.q [x 1 0,k 2 (.b false)]<|.q [f 7 0 1,l 8 1 1 false 7,c 9 419 [.t 8],m 3 9]<|.q [f 10 0 1,l 11 1 1 false 10,
 p 12 (.bin .eql) [.t 11,.k (.i 1)],m 13 12,w 14 (.faddr 0) [.t 1] 13 false,u 15 (.ld (some 1) 1 false) [.t 14] 13 false,w 16 (.bin .eql) [.t 15,.k (.i 2)] 13 false,p 17 .pick [.t 13,.k (.b true),.t 16],m 18 17,
 w 19 (.faddr 0) [.t 1] 18 false,u 20 (.ld (some 1) 1 false) [.t 19] 18 false,w 21 (.bin .eql) [.t 20,.k (.i 7)] 18 false,p 22 .pick [.t 18,.k (.b true),.t 21],m 4 22]<|.seq (.q [m 23 3,p 24 (.bin .eql) [.t 23,.k (.i (-2))],
 m 25 24,w 26 .mov [.t 3] 25 false,w 27 (.bin .geq) [.t 26,.k (.i 0)] 25 false,w 28 .mov [.t 27] 25 false,w 29 (.faddr 2) [.t 1] 28 true,u 30 (.ld (some 1) 1 false) [.t 29] 28 true,w 31 .lenL [.t 30] 28 true,
 w 32 .mov [.t 3] 28 true,w 33 (.bin .neq) [.t 31,.t 32] 28 true,w 34 .pick [.t 28,.t 33,.k (.b false)] 25 false,p 35 .pick [.t 25,.k (.b true),.t 34],m 36 35,w 37 .mov [.t 4] 36 false,w 38 (.faddr 1) [.t 1] 36 false,
 u 39 (.ld (some 1) 1 false) [.t 38] 36 false,⟨some 40,.pur (.bin .neq),[.t 39,.k E],some (36,false)⟩,w 41 (.eqB true) [.t 37,.t 40] 36 false,p 42 .pick [.t 36,.k (.b true),.t 41]]<|.cond (.t 42) (.q [k 2 (.b false)]<|.ret) (.skip))<|.seq (.q [
 i 5 0]<|.block 0 (.loop [2,6,43,44,45,46,47,48,49,50,51,52,53,54,55,56,57] [] f346_l0))<|.q [k 2 (.b true)]<|.ret
def f346:AFunc:=⟨58,f346b,[.tmp 2]⟩
def f347_l0:ACode:=.seq (.q [m 33 5,f 34 2 1,l 35 1 1 false 34,o 36 .lenL 35,p 37 (.bin .lss) [.t 33,.t 36]]<|.cond (.t 37) (.skip) (.exit 0))<|.seq (.block 1 (.seq (.q [m 40 5,
 p 41 (.bin .gtr) [.t 40,.k (.i 0)]]<|.cond (.t 41) (.ops [m 42 4,⟨some 43,.pur (.bin .add),[.t 42,.k (.s ⟨#[44]⟩)],none⟩,m 4 43]) (.skip))<|.q [f 44 2 1,l 45 1 1 false 44,m 46 5,
 p 47 (.iaddr 3) [.t 45,.t 46],h 48 3 true 47,c 49 347 [.t 48],m 6 49]<|.ops [m 50 4,m 51 6,p 52 (.bin .add) [.t 50,.t 51],m 4 52]))<|.ops [m 38 5,
 p 39 (.bin .add) [.t 38,.k (.i 1)],m 5 39]
def f347b:ACode:=.q [x 1 0,⟨some 2,.pur .mov,[.k E],none⟩]<|.q [⟨some 7,.pur (.buildSl 1 10 [E] [0,1,2,3,4,5,6,7,8,9]),[.k (.s ⟨#[100]⟩),.k (.s ⟨#[97]⟩),.k (.s ⟨#[112]⟩),.k (.s ⟨#[101]⟩),.k (.s ⟨#[109]⟩),.k (.s ⟨#[104]⟩),.k (.s ⟨#[107]⟩),.k (.s ⟨#[117]⟩),.k (.s ⟨#[115]⟩),.k (.s ⟨#[120]⟩)],none⟩,
 m 3 7]<|.q [m 8 3,f 9 0 1,l 10 1 1 false 9,p 11 (.bin .sub) [.t 10,.k (.i 1)],p 12 (.iaddr 1) [.t 8,.t 11],h 13 1 false 12,m 4 13]<|.seq (.q [
 f 14 1 1,l 15 1 1 false 14,⟨some 16,.pur (.bin .neq),[.t 15,.k E],none⟩]<|.cond (.t 16) (.ops [m 17 4,f 18 1 1,l 19 1 1 false 18,o 20 .lenS 19,c 21 420 [.t 20],
 p 22 (.bin .add) [.t 17,.t 21],⟨some 23,.pur (.bin .add),[.t 22,.k (.s ⟨#[58]⟩)],none⟩,f 24 1 1,l 25 1 1 false 24,p 26 (.bin .add) [.t 23,.t 25],m 4 26]) (.skip))<|.seq (.q [f 27 0 1,
 l 28 1 1 false 27,p 29 (.bin .leq) [.t 28,.k (.i 2)]]<|.cond (.t 29) (.q [m 30 4,m 2 30]<|.ret) (.skip))<|.q [m 31 4,⟨some 32,.pur (.bin .add),[.t 31,.k (.s ⟨#[40]⟩)],none⟩,m 4 32]<|.seq (.q [
 i 5 0]<|.block 0 (.loop [6,33,34,35,36,37,38,39,40,41,42,43,44,45,46,47,48,49,50,51,52] [] f347_l0))<|.q [m 53 4,⟨some 54,.pur (.bin .add),[.t 53,.k (.s ⟨#[41]⟩)],none⟩,m 2 54]<|.ret
def f347:AFunc:=⟨55,f347b,[.tmp 2]⟩
def f348b:ACode:=.q [x 2 0,⟨some 4,.alloc .reg [.i 0,.i 0,.i 0,.i 0,.i 0,.i 0],[],none⟩,i 5 0,i 6 0]<|.seq (.q [l 10 2 6 true 2,c 11 421 [.t 10],o 12 (.un .not) 11]<|
 .cond (.t 12) (.q [l 13 2 6 true 2,s 4 6 4 13,i 5 0,i 6 1]<|.ret) (.skip))<|.seq (.q [f 14 4 2,l 15 2 1 false 14,f 16 5 2,
 l 17 2 1 false 16,p 18 (.bin .geq) [.t 15,.t 17]]<|.cond (.t 18) (.q [l 19 2 6 true 2,s 4 6 4 19,i 5 0,i 6 7]<|.ret) (.skip))<|.q [f 20 0 2,
 l 21 2 1 false 20,f 22 1 2,l 23 2 1 false 22,p 24 (.bin .add) [.t 21,.t 23],m 7 24]<|.q [m 25 1,f 26 0 2,l 27 2 1 false 26,
 m 28 7,c 29 422 [.t 25,.t 27,.t 28],m 8 29]<|.seq (.q [m 30 8,p 31 (.bin .lss) [.t 30,.k (.i 0)],m 32 31,w 33 (.faddr 3) [.t 2] 32 true,u 34 (.ld (some 2) 1 false) [.t 33] 32 true,
 w 35 .mov [.t 7] 32 true,w 36 (.bin .gtr) [.t 34,.t 35] 32 true,p 37 .pick [.t 32,.t 36,.k (.b false)]]<|.cond (.t 37) (.ops [m 38 1,f 39 3 2,l 40 2 1 false 39,f 41 3 2,
 l 42 2 1 false 41,c 43 422 [.t 38,.t 40,.t 42],m 8 43]) (.skip))<|.seq (.q [m 44 8,p 45 (.bin .geq) [.t 44,.k (.i 0)]]<|.cond (.t 45) (.q [m 46 8,p 47 (.bin .add) [.t 46,.k (.i 1)],
 f 48 0 2,s 2 1 48 47]<|.q [f 49 3 2,⟨none,.st (some 2) 1,[.t 49,.k (.i 0)],none⟩]<|.q [f 50 4 2,⟨none,.st (some 2) 1,[.t 50,.k (.i 0)],none⟩]<|.q [l 51 2 6 true 2,
 m 52 8,s 4 6 4 51,m 5 52,i 6 0]<|.ret) (.skip))<|.q [m 53 1,m 54 7,p 55 (.bin .add) [.t 54,.k (.i 1)],m 56 7,f 57 2 2,
 l 58 2 1 false 57,p 59 (.bin .add) [.t 56,.t 58],c 60 422 [.t 53,.t 55,.t 59],m 9 60]<|.q [f 61 4 2,l 62 2 1 false 61,p 63 (.bin .add) [.t 62,.k (.i 1)],f 64 4 2,
 s 2 1 64 63]<|.q [f 65 3 2,⟨none,.st (some 2) 1,[.t 65,.k (.i 0)],none⟩]<|.seq (.q [m 66 9,p 67 (.bin .geq) [.t 66,.k (.i 0)]]<|.cond (.t 67) (.q [m 68 9,p 69 (.bin .add) [.t 68,.k (.i 1)],
 f 70 3 2,s 2 1 70 69]<|.q [l 71 2 6 true 2,s 4 6 4 71,i 5 0,i 6 8]<|.ret) (.skip))<|.q [l 72 2 6 true 2,
 s 4 6 4 72,i 5 0,i 6 6]<|.ret
def f348:AFunc:=⟨73,f348b,[.cell 4 6 true,.tmp 5,.tmp 6]⟩
def f349b:ACode:=.q [i 4 0]<|.q [m 6 0,m 7 1,c 8 345 [.t 6,.t 7],m 5 8]<|.seq (.q [m 9 5,p 10 (.bin .lss) [.t 9,.k (.i 0)]]<|.cond (.t 10) (.q [
 i 4 3]<|.ret) (.skip))<|.q [m 11 0,o 12 .nilchk 11,f 13 0 12,h 14 1 false 13,m 15 5,p 16 (.iaddr 15) [.t 14,.t 15],f 17 14 16,
 ⟨none,.st none 1,[.t 17,.k (.i 0)],none⟩]<|.q [i 4 0]<|.ret
def f349:AFunc:=⟨18,f349b,[.tmp 4]⟩
def f350b:ACode:=.q [x 4 0,x 5 1,⟨some 8,.alloc .reg Z,[],none⟩]<|.q [l 9 4 3 true 4,m 10 2,⟨some 11,.pur (.bin .add),[.k (.s ⟨#[106,111,105,110,32]⟩),.t 10],none⟩,c 12 312 [.t 9,.t 11],
 l 13 5 3 true 5,m 14 3,⟨some 15,.pur (.bin .add),[.k (.s ⟨#[106,111,105,110,32]⟩),.t 14],none⟩,c 16 312 [.t 13,.t 15],⟨some 17,.pur (.buildSl 3 2 Z [0,1]),[.t 12,.t 16],none⟩,c 18 126 [.t 17],c 19 124 [.t 18],
 s 8 3 8 19]<|.ret
def f350:AFunc:=⟨20,f350b,[.cell 8 3 true]⟩
def f351b:ACode:=.q [x 4 0,x 5 1,x 6 2,x 7 3,⟨some 8,.alloc .reg Z,[],none⟩]<|.q [l 9 4 3 true 4,l 10 5 3 true 5,c 11 124 [.t 10],
 l 12 6 3 true 6,l 13 7 3 true 7,⟨some 14,.pur (.buildSl 3 3 Z [0,1,2]),[.t 11,.t 12,.t 13],none⟩,⟨some 15,.call 62,[.k (.s ⟨#[102,97,115,116]⟩),.t 14],none⟩,c 16 261 [.t 9,.k (.i 51),.t 15],s 8 3 8 16]<|.ret
def f351:AFunc:=⟨17,f351b,[.cell 8 3 true]⟩
def f352b:ACode:=.q [x 2 0,x 3 1,⟨some 4,.alloc .reg Z,[],none⟩]<|.q [l 5 2 3 true 2,l 6 3 3 true 3,
 ⟨some 7,.call 350,[.t 5,.t 6,.k (.s ⟨#[115,116,114,101,110,103,116,104,101,110,107,101,121]⟩),.k (.s ⟨#[114,101,112,108,121,107,101,121]⟩)],none⟩,s 4 3 4 7]<|.ret
def f352:AFunc:=⟨8,f352b,[.cell 4 3 true]⟩
def f353b:ACode:=.q [x 5 0,x 7 2,k 10 N,i 11 0]<|.q [l 17 5 3 true 5,m 18 1,l 19 7 3 true 7,c 20 263 [.t 17,.t 18,.t 19],
 m 16 20,e 21 0 16,e 22 1 16,⟨some 12,.alloc .reg Z,[],none⟩,s 12 3 12 21,m 13 22]<|.seq (.q [m 23 13,p 24 (.bin .neq) [.t 23,.k (.i 0)]]<|
 .cond (.t 24) (.q [m 25 13,k 10 N,m 11 25]<|.ret) (.skip))<|.q [m 27 3,m 28 4,l 29 12 3 true 12,c 30 78 [.t 27,.t 28,.t 29],m 26 30,
 e 31 0 26,e 32 1 26,m 14 31,m 15 32]<|.seq (.q [m 33 15,o 34 (.un .not) 33]<|.cond (.t 34) (.q [k 10 N,i 11 2]<|
 .ret) (.skip))<|.q [m 35 14,m 10 35,i 11 0]<|.ret
def f353:AFunc:=⟨36,f353b,[.tmp 10,.tmp 11]⟩
def f354b:ACode:=.q [x 2 0,⟨some 4,.alloc .reg Z,[],none⟩]<|.q [l 5 2 3 true 2,m 6 1,⟨some 7,.call 368,[.t 5,.k (.s ⟨#[117,115,101]⟩),.t 6],none⟩,s 4 3 4 7]<|.ret
def f354:AFunc:=⟨8,f354b,[.cell 4 3 true]⟩
def f360b:ACode:=.q [x 1 0,⟨some 2,.alloc .reg Z,[],none⟩]<|.q [l 3 1 3 true 1,⟨some 4,.pur (.buildSl 3 1 Z [0]),[.t 3],none⟩,⟨some 5,.call 228,[.k (.i 8),.k E,.t 4],none⟩,s 2 3 2 5]<|.ret
def f360:AFunc:=⟨6,f360b,[.cell 2 3 true]⟩
def f362b:ACode:=.q [x 2 0,x 3 1,⟨some 4,.alloc .reg Z,[],none⟩]<|.q [l 5 2 3 true 2,l 6 3 3 true 3,⟨some 7,.pur (.buildSl 3 2 Z [0,1]),[.t 5,.t 6],none⟩,
 ⟨some 8,.pur (.build Z [(0,1),(2,1)]),[.k (.i 4),.t 7],none⟩,s 4 3 4 8]<|.ret
def f362:AFunc:=⟨9,f362b,[.cell 4 3 true]⟩
def f363b:ACode:=.q [x 1 0,⟨some 2,.alloc .reg Z,[],none⟩]<|.q [l 3 1 3 true 1,⟨some 4,.call 312,[.t 3,.k (.s ⟨#[119,111,114,100]⟩)],none⟩,s 2 3 2 4]<|.ret
def f363:AFunc:=⟨5,f363b,[.cell 2 3 true]⟩
def f364b:ACode:=.q [x 6 0,x 7 1,x 8 2,x 9 3,x 10 4,⟨some 12,.alloc .reg Z,[],none⟩]<|.q [l 13 6 3 true 6,l 14 7 3 true 7,
 l 15 8 3 true 8,l 16 9 3 true 9,l 17 10 3 true 10,⟨some 18,.pur (.buildSl 3 5 Z [0,1,2,3,4]),[.t 13,.t 14,.t 15,.t 16,.t 17],none⟩,c 19 126 [.t 18],c 20 124 [.t 19],m 21 5,
 c 22 354 [.t 20,.t 21],s 12 3 12 22]<|.ret
def f364:AFunc:=⟨23,f364b,[.cell 12 3 true]⟩
def f368b:ACode:=.q [x 3 0,⟨some 6,.alloc .reg Z,[],none⟩]<|.q [l 7 3 3 true 3,m 8 1,⟨some 9,.pur (.bin .add),[.t 8,.k (.s ⟨#[32]⟩)],none⟩,m 10 2,c 11 193 [.t 10],
 p 12 (.bin .add) [.t 9,.t 11],c 13 312 [.t 7,.t 12],s 6 3 6 13]<|.ret
def f368:AFunc:=⟨14,f368b,[.cell 6 3 true]⟩
def f369b:ACode:=.q [x 2 0,x 3 1,⟨some 4,.alloc .reg Z,[],none⟩,i 5 0]<|.seq (.q [f 7 0 2,l 8 2 1 false 7,p 9 (.bin .neq) [.t 8,.k (.i 10)],
 m 10 9,w 11 (.faddr 2) [.t 2] 10 false,u 12 (.ld (some 2) 1 false) [.t 11] 10 false,w 13 .lenL [.t 12] 10 false,w 14 (.bin .neq) [.t 13,.k (.i 2)] 10 false,p 15 .pick [.t 10,.k (.b true),.t 14],m 16 15,
 w 17 (.faddr 2) [.t 2] 16 false,u 18 (.ld (some 2) 1 false) [.t 17] 16 false,w 19 (.iaddr 3) [.t 18,.k (.i 0)] 16 false,w 20 (.faddr 0) [.t 19] 16 false,u 21 (.ld none 1 false) [.t 20] 16 false,w 22 (.bin .neq) [.t 21,.k (.i 8)] 16 false,
 p 23 .pick [.t 16,.k (.b true),.t 22],m 24 23,w 25 (.faddr 2) [.t 2] 24 false,u 26 (.ld (some 2) 1 false) [.t 25] 24 false,w 27 (.iaddr 3) [.t 26,.k (.i 0)] 24 false,w 28 (.faddr 2) [.t 27] 24 false,u 29 (.ld none 1 false) [.t 28] 24 false,
 w 30 .lenL [.t 29] 24 false,w 31 (.bin .neq) [.t 30,.k (.i 1)] 24 false,p 32 .pick [.t 24,.k (.b true),.t 31]]<|.cond (.t 32) (.q [⟨some 33,.pur (.build Z []),[],none⟩,s 4 3 4 33,i 5 2]<|.ret) (.skip))<|
 .q [f 34 2 2,l 35 2 1 false 34,p 36 (.iaddr 3) [.t 35,.k (.i 1)],h 37 3 true 36,l 38 3 3 true 3,c 39 437 [.t 38],c 40 61 [.t 37,.t 39],m 6 40]<|.seq (.q [
 m 41 6,o 42 (.un .not) 41]<|.cond (.t 42) (.q [⟨some 43,.pur (.build Z []),[],none⟩,s 4 3 4 43,i 5 6]<|.ret) (.skip))<|.q [f 44 2 2,l 45 2 1 false 44,
 p 46 (.iaddr 3) [.t 45,.k (.i 0)],f 47 2 46,h 48 1 false 47,p 49 (.iaddr 3) [.t 48,.k (.i 0)],h 50 3 true 49,s 4 3 4 50,i 5 0]<|.ret
def f369:AFunc:=⟨51,f369b,[.cell 4 3 true,.tmp 5]⟩
def f370b:ACode:=.q [x 2 0,x 3 1,⟨some 4,.alloc .reg Z,[],none⟩]<|.q [l 5 2 3 true 2,c 6 173 [.t 5],l 7 3 3 true 3,c 8 437 [.t 7],c 9 172 [.t 6,.t 8],
 s 4 3 4 9]<|.ret
def f370:AFunc:=⟨10,f370b,[.cell 4 3 true]⟩
def f371b:ACode:=.q [x 6 0,x 7 1,x 8 2,x 9 3,x 10 4,⟨some 12,.alloc .reg Z,[],none⟩]<|.q [l 13 6 3 true 6,l 14 7 3 true 7,
 c 15 437 [.t 14],l 16 8 3 true 8,l 17 9 3 true 9,l 18 10 3 true 10,c 19 265 [.t 18],m 20 5,c 21 438 [.t 13,.t 15,.t 16,.t 17,.t 19,.t 20],s 12 3 12 21]<|.ret
def f371:AFunc:=⟨22,f371b,[.cell 12 3 true]⟩
def f372b:ACode:=.q [x 2 0,x 3 1,⟨some 4,.alloc .reg Z,[],none⟩]<|.seq (.q [l 5 3 3 true 3,c 6 243 [.t 5],l 7 2 3 true 2,c 8 243 [.t 7],
 p 9 (.bin .lss) [.t 6,.t 8]]<|.cond (.t 9) (.q [l 10 3 3 true 3,l 11 2 3 true 2,⟨some 12,.pur (.buildSl 3 2 Z [0,1]),[.t 10,.t 11],none⟩,⟨some 13,.pur (.build Z [(0,1),(2,1)]),[.k (.i 9),.t 12],none⟩,
 s 4 3 4 13]<|.ret) (.skip))<|.q [l 14 2 3 true 2,l 15 3 3 true 3,⟨some 16,.pur (.buildSl 3 2 Z [0,1]),[.t 14,.t 15],none⟩,⟨some 17,.pur (.build Z [(0,1),(2,1)]),[.k (.i 9),.t 16],none⟩,
 s 4 3 4 17]<|.ret
def f372:AFunc:=⟨18,f372b,[.cell 4 3 true]⟩
def f373b:ACode:=.q [x 1 0,⟨some 2,.alloc .reg Z,[],none⟩]<|.q [l 3 1 3 true 1,⟨some 4,.call 63,[.k (.s ⟨#[102,97,99,116,111,114]⟩),.k N],none⟩,c 5 266 [.t 3,.k (.i 60),.t 4],s 2 3 2 5]<|.ret
def f373:AFunc:=⟨6,f373b,[.cell 2 3 true]⟩
def f385b:ACode:=.q [⟨some 2,.alloc .reg Z,[],none⟩]<|.q [⟨some 3,.pur (.buildSl 3 0 Z []),[],none⟩,m 4 0,⟨some 5,.append 3 48,[.t 3,.t 4],none⟩,⟨some 6,.pur (.build Z [(0,1),(2,1)]),[.k (.i 3),.t 5],none⟩,
 s 2 3 2 6]<|.ret
def f385:AFunc:=⟨7,f385b,[.cell 2 3 true]⟩
def f398b:ACode:=.q [k 4 (.b false)]<|.q [m 5 0,o 6 .lenS 5,m 7 1,o 8 .lenS 7,p 9 (.bin .geq) [.t 6,.t 8],m 10 9,w 11 .mov [.t 0] 10 true,
 w 12 .mov [.t 1] 10 true,w 13 .lenS [.t 12] 10 true,w 14 (.sliceS false true) [.t 11,.t 13] 10 true,w 15 .mov [.t 1] 10 true,w 16 (.bin .eql) [.t 14,.t 15] 10 true,p 17 .pick [.t 10,.t 16,.k (.b false)],m 4 17]<|.ret
def f398:AFunc:=⟨18,f398b,[.tmp 4]⟩
def f408_l0:ACode:=.q [p 9 (.bin .lss) [.t 8,.t 7]]<|.seq (.cond (.t 9) (.skip) (.exit 0))<|.seq (.block 1 (.q [m 10 8,m 5 10]<|.q [m 11 1,m 12 0,m 13 5,
 p 14 (.iaddr 3) [.t 12,.t 13],h 15 3 true 14,⟨some 16,.callv,[.t 11,.t 15],none⟩]<|.cond (.t 16) (.q [m 17 5,m 4 17]<|.ret) (.skip)))<|.ops [p 18 (.bin .add) [.t 8,.k (.i 1)],m 8 18]
def f408b:ACode:=.q [i 4 0]<|.seq (.q [m 6 0,o 7 .lenL 6,i 8 0]<|.block 0 (.loop [4,5,9,10,11,12,13,14,15,16,17,18] [] f408_l0))<|.q [k 4 (.i (-1))]<|.ret
def f408:AFunc:=⟨19,f408b,[.tmp 4]⟩
def f416_l0:ACode:=.seq (.q [m 50 4,m 51 3,p 52 (.bin .lss) [.t 50,.t 51]]<|.cond (.t 52) (.skip) (.exit 2))<|.seq (.block 3 (.q [f 55 4 1,l 56 1 1 false 55,m 57 4,
 p 58 (.iaddr 1) [.t 56,.t 57],h 59 1 false 58,f 60 4 1,l 61 1 1 false 60,m 62 3,p 63 (.iaddr 1) [.t 61,.t 62],h 64 1 false 63,p 65 (.bin .eql) [.t 59,.t 64]]<|.cond (.t 65) (.q [
 k 2 (.b false)]<|.ret) (.skip)))<|.ops [m 53 4,p 54 (.bin .add) [.t 53,.k (.i 1)],m 4 54]
def f416_l1:ACode:=.seq (.q [m 36 3,f 37 4 1,l 38 1 1 false 37,o 39 .lenL 38,p 40 (.bin .lss) [.t 36,.t 39]]<|.cond (.t 40) (.skip) (.exit 0))<|.seq (.block 1 (.seq (.q [f 43 4 1,
 l 44 1 1 false 43,m 45 3,p 46 (.iaddr 1) [.t 44,.t 45],h 47 1 false 46,c 48 464 [.t 47],o 49 (.un .not) 48]<|.cond (.t 49) (.q [k 2 (.b false)]<|.ret) (.skip))<|.q [
 i 4 0]<|.block 2 (.loop [2,50,51,52,53,54,55,56,57,58,59,60,61,62,63,64,65] [] f416_l0)))<|.ops [m 41 3,p 42 (.bin .add) [.t 41,.k (.i 1)],m 3 42]
def f416b:ACode:=.q [x 1 0,k 2 (.b false)]<|.seq (.q [f 5 0 1,l 6 1 1 false 5,⟨some 7,.pur (.bin .eql),[.t 6,.k E],none⟩,m 8 7,w 9 (.faddr 4) [.t 1] 8 false,
 u 10 (.ld (some 1) 1 false) [.t 9] 8 false,w 11 .lenL [.t 10] 8 false,w 12 (.bin .lss) [.t 11,.k (.i 1)] 8 false,p 13 .pick [.t 8,.k (.b true),.t 12],m 14 13,w 15 (.faddr 4) [.t 1] 14 false,u 16 (.ld (some 1) 1 false) [.t 15] 14 false,
 w 17 .lenL [.t 16] 14 false,w 18 (.bin .gtr) [.t 17,.k (.i 3)] 14 false,p 19 .pick [.t 14,.k (.b true),.t 18],m 20 19,w 21 (.faddr 14) [.t 1] 20 false,u 22 (.ld (some 1) 1 false) [.t 21] 20 false,w 23 (.bin .lss) [.t 22,.k (.i 0)] 20 false,
 p 24 .pick [.t 20,.k (.b true),.t 23],m 25 24,w 26 (.faddr 14) [.t 1] 25 false,u 27 (.ld (some 1) 1 false) [.t 26] 25 false,w 28 (.bin .gtr) [.t 27,.k (.i 1099511627776)] 25 false,p 29 .pick [.t 25,.k (.b true),.t 28],m 30 29,
 w 31 (.faddr 8) [.t 1] 30 false,u 32 (.ld (some 1) 6 true) [.t 31] 30 false,u 33 (.call 421) [.t 32] 30 false,w 34 (.un .not) [.t 33] 30 false,p 35 .pick [.t 30,.k (.b true),.t 34]]<|.cond (.t 35) (.q [k 2 (.b false)]<|.ret) (.skip))<|.seq (.q [
 i 3 0]<|.block 0 (.loop [2,4,36,37,38,39,40,41,42,43,44,45,46,47,48,49,50,51,52,53,54,55,56,57,58,59,60,61,62,63,64,65] [] f416_l1))<|.q [k 2 (.b true)]<|.ret
def f416:AFunc:=⟨66,f416b,[.tmp 2]⟩
def f417b:ACode:=.q [x 5 0,x 7 2,k 10 N,i 11 0]<|.q [l 17 5 3 true 5,m 18 1,l 19 7 3 true 7,c 20 268 [.t 17,.t 18,.t 19],
 m 16 20,e 21 0 16,e 22 1 16,⟨some 12,.alloc .reg Z,[],none⟩,s 12 3 12 21,m 13 22]<|.seq (.q [m 23 13,p 24 (.bin .neq) [.t 23,.k (.i 0)]]<|
 .cond (.t 24) (.q [m 25 13,k 10 N,m 11 25]<|.ret) (.skip))<|.q [m 27 3,m 28 4,l 29 12 3 true 12,c 30 79 [.t 27,.t 28,.t 29],m 26 30,
 e 31 0 26,e 32 1 26,m 14 31,m 15 32]<|.seq (.q [m 33 15,o 34 (.un .not) 33]<|.cond (.t 34) (.q [k 10 N,i 11 2]<|
 .ret) (.skip))<|.q [m 35 14,m 10 35,i 11 0]<|.ret
def f417:AFunc:=⟨36,f417b,[.tmp 10,.tmp 11]⟩
def f418b:ACode:=.q [x 1 0,i 2 0,i 3 0]<|.seq (.q [l 4 1 6 true 1,c 5 421 [.t 4],o 6 (.un .not) 5]<|.cond (.t 6) (.q [i 2 0,
 k 3 (.i (-1))]<|.ret) (.skip))<|.q [f 7 0 1,l 8 1 1 false 7,f 9 0 1,l 10 1 1 false 9,f 11 1 1,l 12 1 1 false 11,p 13 (.bin .add) [.t 10,.t 12],
 f 14 2 1,l 15 1 1 false 14,p 16 (.bin .add) [.t 13,.t 15],f 17 3 1,l 18 1 1 false 17,p 19 .max [.t 16,.t 18],m 2 8,m 3 19]<|.ret
def f418:AFunc:=⟨20,f418b,[.tmp 2,.tmp 3]⟩
def f419b:ACode:=.q [i 2 0]<|.seq (.q [m 3 0]<|.block 0 (.seq (.q [p 5 (.bin .eql) [.t 3,.k (.i 1)],m 4 5]<|.cond (.t 4) (.skip) (.ops [p 6 (.bin .eql) [.t 3,.k (.i 2)],m 4 6]))<|
 .cond (.t 4) (.q [i 2 0]<|.ret) (.q [p 8 (.bin .eql) [.t 3,.k (.i 3)],m 7 8]<|.cond (.t 7) (.q [k 2 (.i (-1))]<|.ret) (.seq (.q [p 10 (.bin .eql) [.t 3,.k (.i 4)],m 9 10]<|
 .cond (.t 9) (.skip) (.q [p 11 (.bin .eql) [.t 3,.k (.i 5)],m 9 11]<|.cond (.t 9) (.skip) (.q [p 12 (.bin .eql) [.t 3,.k (.i 9)],m 9 12]<|.cond (.t 9) (.skip) (.ops [p 13 (.bin .eql) [.t 3,.k (.i 10)],m 9 13]))))<|
 .cond (.t 9) (.q [i 2 2]<|.ret) (.seq (.q [p 15 (.bin .eql) [.t 3,.k (.i 6)],m 14 15]<|.cond (.t 14) (.skip) (.q [p 16 (.bin .eql) [.t 3,.k (.i 7)],m 14 16]<|.cond (.t 14) (.skip) (.ops [
 p 17 (.bin .eql) [.t 3,.k (.i 8)],m 14 17])))<|.cond (.t 14) (.q [i 2 1]<|.ret) (.skip))))))<|.q [k 2 (.i (-2))]<|.ret
def f419:AFunc:=⟨18,f419b,[.tmp 2]⟩
def f420b:ACode:=.q [⟨some 2,.pur .mov,[.k E],none⟩]<|.seq (.q [m 3 0,p 4 (.bin .lss) [.t 3,.k (.i 10)]]<|.cond (.t 4) (.q [m 5 0,p 6 (.bin .add) [.k (.i 48),.t 5],o 7 (.toInt .u8) 6,
 ⟨some 8,.pur (.buildSl 1 1 [.sc (.int .u8 (0))] [0]),[.t 7],none⟩,o 9 .bytesStr 8,m 2 9]<|.ret) (.skip))<|.q [m 10 0,p 11 (.bin .quo) [.t 10,.k (.i 10)],c 12 420 [.t 11],m 13 0,
 p 14 (.bin .rem) [.t 13,.k (.i 10)],p 15 (.bin .add) [.k (.i 48),.t 14],o 16 (.toInt .u8) 15,⟨some 17,.pur (.buildSl 1 1 [.sc (.int .u8 (0))] [0]),[.t 16],none⟩,o 18 .bytesStr 17,p 19 (.bin .add) [.t 12,.t 18],m 2 19]<|.ret
def f420:AFunc:=⟨20,f420b,[.tmp 2]⟩
def f421b:ACode:=.q [x 1 0,k 2 (.b false)]<|.q [f 3 0 1,l 4 1 1 false 3,p 5 (.bin .geq) [.t 4,.k (.i 0)],m 6 5,w 7 (.faddr 0) [.t 1] 6 true,
 u 8 (.ld (some 1) 1 false) [.t 7] 6 true,w 9 (.bin .leq) [.t 8,.k (.i 1099511627776)] 6 true,p 10 .pick [.t 6,.t 9,.k (.b false)],m 11 10,w 12 (.faddr 1) [.t 1] 11 true,u 13 (.ld (some 1) 1 false) [.t 12] 11 true,
 w 14 (.bin .geq) [.t 13,.k (.i 0)] 11 true,p 15 .pick [.t 11,.t 14,.k (.b false)],m 16 15,w 17 (.faddr 1) [.t 1] 16 true,u 18 (.ld (some 1) 1 false) [.t 17] 16 true,w 19 (.bin .leq) [.t 18,.k (.i 20)] 16 true,
 p 20 .pick [.t 16,.t 19,.k (.b false)],m 21 20,w 22 (.faddr 2) [.t 1] 21 true,u 23 (.ld (some 1) 1 false) [.t 22] 21 true,w 24 (.bin .geq) [.t 23,.k (.i 0)] 21 true,p 25 .pick [.t 21,.t 24,.k (.b false)],m 26 25,
 w 27 (.faddr 2) [.t 1] 26 true,u 28 (.ld (some 1) 1 false) [.t 27] 26 true,w 29 (.bin .leq) [.t 28,.k (.i 50)] 26 true,p 30 .pick [.t 26,.t 29,.k (.b false)],m 31 30,w 32 (.faddr 3) [.t 1] 31 true,u 33 (.ld (some 1) 1 false) [.t 32] 31 true,
 w 34 (.bin .geq) [.t 33,.k (.i 0)] 31 true,p 35 .pick [.t 31,.t 34,.k (.b false)],m 36 35,w 37 (.faddr 3) [.t 1] 36 true,u 38 (.ld (some 1) 1 false) [.t 37] 36 true,w 39 (.bin .leq) [.t 38,.k (.i 1099511627976)] 36 true,
 p 40 .pick [.t 36,.t 39,.k (.b false)],m 41 40,w 42 (.faddr 4) [.t 1] 41 true,u 43 (.ld (some 1) 1 false) [.t 42] 41 true,w 44 (.bin .geq) [.t 43,.k (.i 0)] 41 true,p 45 .pick [.t 41,.t 44,.k (.b false)],m 46 45,
 w 47 (.faddr 5) [.t 1] 46 true,u 48 (.ld (some 1) 1 false) [.t 47] 46 true,w 49 (.bin .geq) [.t 48,.k (.i 1)] 46 true,p 50 .pick [.t 46,.t 49,.k (.b false)],m 51 50,w 52 (.faddr 5) [.t 1] 51 true,u 53 (.ld (some 1) 1 false) [.t 52] 51 true,
 w 54 (.bin .leq) [.t 53,.k (.i 100)] 51 true,p 55 .pick [.t 51,.t 54,.k (.b false)],m 2 55]<|.ret
def f421:AFunc:=⟨56,f421b,[.tmp 2]⟩
def f422_l0:ACode:=.seq (.q [m 9 8,m 10 0,o 11 .lenL 10,p 12 (.bin .lss) [.t 9,.t 11]]<|.cond (.t 12) (.skip) (.exit 0))<|.seq (.block 1 (.q [m 15 0,m 16 8,p 17 (.iaddr 1) [.t 15,.t 16],
 h 18 1 false 17,m 19 1,p 20 (.bin .geq) [.t 18,.t 19],m 21 20,w 22 .mov [.t 0] 21 true,w 23 .mov [.t 8] 21 true,w 24 (.iaddr 1) [.t 22,.t 23] 21 true,u 25 (.ld none 1 false) [.t 24] 21 true,
 w 26 .mov [.t 2] 21 true,w 27 (.bin .leq) [.t 25,.t 26] 21 true,p 28 .pick [.t 21,.t 27,.k (.b false)],m 29 28,w 30 .mov [.t 0] 29 true,w 31 .mov [.t 8] 29 true,w 32 (.iaddr 1) [.t 30,.t 31] 29 true,
 u 33 (.ld none 1 false) [.t 32] 29 true,w 34 (.bin .lss) [.t 33,.k (.i 1099511627776)] 29 true,p 35 .pick [.t 29,.t 34,.k (.b false)],m 36 35,w 37 .mov [.t 7] 36 true,w 38 (.bin .lss) [.t 37,.k (.i 0)] 36 true,w 39 .mov [.t 38] 36 true,
 w 40 .mov [.t 0] 39 false,w 41 .mov [.t 8] 39 false,w 42 (.iaddr 1) [.t 40,.t 41] 39 false,u 43 (.ld none 1 false) [.t 42] 39 false,w 44 .mov [.t 7] 39 false,w 45 (.bin .lss) [.t 43,.t 44] 39 false,w 46 .pick [.t 39,.k (.b true),.t 45] 36 true,
 p 47 .pick [.t 36,.t 46,.k (.b false)]]<|.cond (.t 47) (.ops [m 48 0,m 49 8,p 50 (.iaddr 1) [.t 48,.t 49],h 51 1 false 50,m 7 51]) (.skip)))<|.ops [m 13 8,
 p 14 (.bin .add) [.t 13,.k (.i 1)],m 8 14]
def f422b:ACode:=.q [i 6 0]<|.q [k 7 (.i (-1))]<|.seq (.q [i 8 0]<|
 .block 0 (.loop [9,10,11,12,13,14,15,16,17,18,19,20,21,22,23,24,25,26,27,28,29,30,31,32,33,34,35,36,37,38,39,40,41,42,43,44,45,46,47,48,49,50,51] [] f422_l0))<|.q [m 52 7,m 6 52]<|.ret
def f422:AFunc:=⟨53,f422b,[.tmp 6]⟩
def f437b:ACode:=.q [x 1 0,⟨some 2,.alloc .reg Z,[],none⟩]<|.q [l 3 1 3 true 1,⟨some 4,.call 259,[.t 3,.k (.s ⟨#[119,111,114,100]⟩)],none⟩,s 2 3 2 4]<|.ret
def f437:AFunc:=⟨5,f437b,[.cell 2 3 true]⟩
def f438b:ACode:=.q [x 6 0,x 7 1,x 8 2,x 9 3,x 10 4,⟨some 12,.alloc .reg Z,[],none⟩]<|.q [l 13 6 3 true 6,l 14 7 3 true 7,
 l 15 8 3 true 8,l 16 9 3 true 9,l 17 10 3 true 10,⟨some 18,.pur (.buildSl 3 5 Z [0,1,2,3,4]),[.t 13,.t 14,.t 15,.t 16,.t 17],none⟩,c 19 385 [.t 18],c 20 265 [.t 19],m 21 5,
 c 22 336 [.t 20,.t 21],s 12 3 12 22]<|.ret
def f438:AFunc:=⟨23,f438b,[.cell 12 3 true]⟩
def f464b:ACode:=.q [k 2 (.b false)]<|.q [m 3 0,⟨some 4,.pur (.bin .eql),[.t 3,.k (.s ⟨#[99,104,97,108,108,101,110,103,101]⟩)],none⟩,m 5 4,w 6 .mov [.t 0] 5 false,⟨some 7,.pur (.bin .eql),[.t 6,.k (.s ⟨#[111,116,112]⟩)],some (5,false)⟩,
 p 8 .pick [.t 5,.k (.b true),.t 7],m 9 8,w 10 .mov [.t 0] 9 false,⟨some 11,.pur (.bin .eql),[.t 10,.k (.s ⟨#[115,112,97,107,101]⟩)],some (9,false)⟩,p 12 .pick [.t 9,.k (.b true),.t 11],m 2 12]<|.ret
def f464:AFunc:=⟨13,f464b,[.tmp 2]⟩
end Abs
