/- Functions of the program, in the small language. -/
import Derived.Test.YtdpeaefgbmkegaaGreatDoorF1
namespace Go.Proofs.YtdpeaefgbmkegaaGreatDoor
open Go Go.V D
variable {args:List PV} {σ:VHeap} {Post:KP}
@[reducible] def vb30:VC:=
  Rg [m 7 (.box 0 (t 0)),m 9 (.box 1 (t 2)),m 13 (.box 2 (t 6)),m 14 (.alloc 3 [q,q,q,o,o,o,o,o,o,o,o,q,q,o,o,o,o,o,o,o,o,o,o,o,o,o,o,o,o,q,o,o,o,o,o,o,o,o,o,o,o,o,o,o,o,o,q,o,o,o,o,o,o,o,o,o,o,o,o,o,o,o,o,(.str []),o,o,o,o,o,o,o,o,q,o,o,o,o,o,o,o,o,o,o,o,o,o,o,o,o,q,q,q,o,o,o,o,o,o,o,o,o,o,o,o,o,o,o,o,q,.nils,q,q,q,o,o,o,o,o,o,o,o,o,o,o,o,o,o,o,o,.nils,.nils,.nils]),m 15 (.mov Bf)]<|
  Rg [m 20 (Fl 0 9),m 21 (Ls 132 20),m 22 (.call false 32 [(t 21)]),Mv 19 22,m 23 (.extract 0 (t 19)),m 24 (.extract 1 (t 19)),Mv 16 23,Mv 17 24]<|
  .seq (.block 0<|.seq (Rg [Mv 26 17,m 27 (.un .not (t 26)),Mv 25 27]<|
  .cond (t 25) (.skip) (Rg [Mv 28 5,m 29 (Fl 132 9),m 30 (Ld 29),m 31 (.bin .eql .num (t 28) (t 30)),Mv 25 31]<|
  .cond (t 25) (.skip) (.region [m 32 (Fl 0 9),m 33 (Fl 108 32),m 34 (Fl 4 33),m 35 (Ls 17 34),m 36 (Ls 17 13),m 37 (.call false 33 [(t 35),(t 36)]),Mv 25 37])))<|
  .cond (t 25) (Rg [m 38 (.build [q,q,q,o,o,o,o,o,o,o,o,q,q,o,o,o,o,o,o,o,o,o,o,o,o,o,o,o,o,q,o,o,o,o,o,o,o,o,o,o,o,o,o,o,o,o,q,o,o,o,o,o,o,o,o,o,o,o,o,o,o,o,o,(.str []),o,o,o,o,o,o,o,o,q,o,o,o,o,o,o,o,o,o,o,o,o,o,o,o,o,q,q,q,o,o,o,o,o,o,o,o,o,o,o,o,o,o,o,o,q,.nils,q,q,q,o,o,o,o,o,o,o,o,o,o,o,o,o,o,o,o,.nils,.nils,.nils] []),e (.store 132 (t 14) (t 38)),m 15 (.mov Bf)]<|
  .ret) (Rg [m 40 (Fl 132 9),m 41 (Ld 40),m 42 (.bin .eql .num (t 41) (.c q)),Mv 39 42]<|
  .cond (t 39) (Rg [m 43 (Fl 0 9),m 44 (Ls 132 43),m 45 (.call false 70 [(t 44)]),m 18 (.alloc 4 [q,q,q,o,o,o,o,o,o,o,o,q,q,o,o,o,o,o,o,o,o,o,o,o,o,o,o,o,o,q,o,o,o,o,o,o,o,o,o,o,o,o,o,o,o,o,q,o,o,o,o,o,o,o,o,o,o,o,o,o,o,o,o,(.str []),o,o,o,o,o,o,o,o,q,o,o,o,o,o,o,o,o,o,o,o,o,o,o,o,o,q,q,q,o,o,o,o,o,o,o,o,o,o,o,o,o,o,o,o,q,.nils,q,q,q,o,o,o,o,o,o,o,o,o,o,o,o,o,o,o,o,.nils,.nils,.nils]),e (.store 132 (t 18) (t 45))]<|
  .seq (Rg [m 46 (Fl 108 18),m 47 (Fl 3 46),m 48 (Ld 47),m 49 (.bin .eql .num (t 48) (.c (i (-1))))]<|
  .cond (t 49) (.region [m 50 (Fl 108 18),m 51 (Fl 3 50),e (.store 1 (t 51) (Ci 100))]) (.skip))<|
  Rg [m 52 (Ls 132 18),e (.store 132 (t 14) (t 52)),m 15 (.mov Bt)]<|
  .ret) (.seq (Rg [Mv 54 1,m 55 (.un .not (t 54)),Mv 53 55]<|
  .cond (t 53) (.skip) (Rg [Mv 56 3,m 57 (.bin .eql .num (t 56) (.c q)),Mv 58 57,Gt 59 58 (.mov (t 4)),Gt 60 58 (.bin .eql .num (t 59) (.c q)),m 61 (.pick (t 58) (t 60) Bf),Mv 53 61]<|
  .cond (t 53) (.skip) (.region [m 62 (Fl 0 9),m 63 (Fl 108 62),m 64 (Fl 4 63),m 65 (Fl 0 64),m 66 (Ld 65),m 67 (.bin .eql .num (t 66) (.c q)),Mv 68 67,Gt 69 68 (Fl 133 9),Gt 70 68 (Ls 17 69),Gt 71 68 (.call false 71 [(t 70)]),Gt 72 68 (.un .not (t 71)),m 73 (.pick (t 68) (t 72) Bf),Mv 53 73])))<|
  .cond (t 53) (Rg [m 74 (.build [q,q,q,o,o,o,o,o,o,o,o,q,q,o,o,o,o,o,o,o,o,o,o,o,o,o,o,o,o,q,o,o,o,o,o,o,o,o,o,o,o,o,o,o,o,o,q,o,o,o,o,o,o,o,o,o,o,o,o,o,o,o,o,(.str []),o,o,o,o,o,o,o,o,q,o,o,o,o,o,o,o,o,o,o,o,o,o,o,o,o,q,q,q,o,o,o,o,o,o,o,o,o,o,o,o,o,o,o,o,q,.nils,q,q,q,o,o,o,o,o,o,o,o,o,o,o,o,o,o,o,o,.nils,.nils,.nils] []),e (.store 132 (t 14) (t 74)),m 15 (.mov Bf)]<|
  .ret) (.skip))))<|
  Rg [m 75 (Ls 17 7),m 76 (Ls 150 9),m 77 (.call false 72 [(t 75),(t 76)]),m 78 (.extract 0 (t 77)),m 79 (.extract 1 (t 77)),e (.store 132 (t 14) (t 78)),Mv 15 79]<|
  .ret
def vf30:VFun:=⟨80,5,vb30,[.cell 14 (some 132),.tmp 15],false⟩
theorem cf30:cFun Tryz.prog rawF false Tryz.f30=some vf30:=by kernel_rfl
theorem T30 (h:HT σ args Post vb30 vf30 [dd,dd,dd,dd,dd]) (hl:args.length≤80:=by exact zB rfl):T Tryz.prog 30 args σ Post:=T.walk Tryz.func30 cf30 hl rfl h
@[reducible] def vb70:VC:=
  Rg [m 1 (.box 0 (t 0)),m 2 (.alloc 1 [q,q,q,o,o,o,o,o,o,o,o,q,q,o,o,o,o,o,o,o,o,o,o,o,o,o,o,o,o,q,o,o,o,o,o,o,o,o,o,o,o,o,o,o,o,o,q,o,o,o,o,o,o,o,o,o,o,o,o,o,o,o,o,(.str []),o,o,o,o,o,o,o,o,q,o,o,o,o,o,o,o,o,o,o,o,o,o,o,o,o,q,q,q,o,o,o,o,o,o,o,o,o,o,o,o,o,o,o,o,q,.nils,q,q,q,o,o,o,o,o,o,o,o,o,o,o,o,o,o,o,o,.nils,.nils,.nils])]<|
  Rg [m 6 (Ls 132 1),m 7 (.call false 115 [(t 6)]),Mv 5 7,m 8 (.extract 0 (t 5)),m 9 (.extract 1 (t 5)),m 3 (.alloc 2 [q,.nils,q,q,q,o,o,o,o,o,o,o,o,o,o,o,o,o,o,o,o,.nils,.nils,.nils,.nils,.nils]),e (.store 26 (t 3) (t 8)),Mv 4 9]<|
  Rg [m 10 (Fl 0 3),m 11 (Ls 24 10),m 12 (Fl 108 1),e (.store 24 (t 12) (t 11))]<|
  Rg [m 13 (Ls 132 1),e (.store 132 (t 2) (t 13))]<|
  .ret
def vf70:VFun:=⟨14,3,vb70,[.cell 2 (some 132)],false⟩
theorem cf70:cFun Tryz.prog rawF false Tryz.f70=some vf70:=by kernel_rfl
theorem T70 (h:HT σ args Post vb70 vf70 [dd,dd,dd]) (hl:args.length≤14:=by exact zB rfl):T Tryz.prog 70 args σ Post:=T.walk Tryz.func70 cf70 hl rfl h
@[reducible] def vb72:VC:=
  Rg [m 2 (.box 0 (t 0)),m 3 (.box 1 (t 1)),m 4 (.alloc 2 [q,q,q,o,o,o,o,o,o,o,o,q,q,o,o,o,o,o,o,o,o,o,o,o,o,o,o,o,o,q,o,o,o,o,o,o,o,o,o,o,o,o,o,o,o,o,q,o,o,o,o,o,o,o,o,o,o,o,o,o,o,o,o,(.str []),o,o,o,o,o,o,o,o,q,o,o,o,o,o,o,o,o,o,o,o,o,o,o,o,o,q,q,q,o,o,o,o,o,o,o,o,o,o,o,o,o,o,o,o,q,.nils,q,q,q,o,o,o,o,o,o,o,o,o,o,o,o,o,o,o,o,.nils,.nils,.nils]),m 5 (.mov Bf)]<|
  Rg [m 10 (Fl 0 3),m 11 (Ls 132 10),m 12 (.call false 70 [(t 11)]),m 6 (.alloc 3 [q,q,q,o,o,o,o,o,o,o,o,q,q,o,o,o,o,o,o,o,o,o,o,o,o,o,o,o,o,q,o,o,o,o,o,o,o,o,o,o,o,o,o,o,o,o,q,o,o,o,o,o,o,o,o,o,o,o,o,o,o,o,o,(.str []),o,o,o,o,o,o,o,o,q,o,o,o,o,o,o,o,o,o,o,o,o,o,o,o,o,q,q,q,o,o,o,o,o,o,o,o,o,o,o,o,o,o,o,o,q,.nils,q,q,q,o,o,o,o,o,o,o,o,o,o,o,o,o,o,o,o,.nils,.nils,.nils]),e (.store 132 (t 6) (t 12))]<|
  .seq (Rg [m 13 (Fl 108 6),m 14 (Fl 4 13),m 15 (Fl 0 14),m 16 (Ld 15),m 17 (.bin .eql .num (t 16) (.c q))]<|
  .cond (t 17) (.region [m 18 (Fl 133 3),m 19 (Ls 17 18),m 20 (Fl 108 6),m 21 (Fl 4 20),e (.store 17 (t 21) (t 19))]) (.skip))<|
  Rg [m 22 (Fl 108 6),m 23 (Fl 21 22),m 24 (Ld 23),m 25 (.len (t 24)),m 26 (.bin .add .num (Ci 1) (t 25)),m 27 (.makeSlice 4 17 24 [q,o,o,o,o,o,o,o,o,o,o,o,o,o,o,o,o] (t 26) (t 26)),Mv 7 27]<|
  Rg [Mv 28 7,m 29 (Ls 17 2),m 30 (.index 17 (t 28) (.c q)),e (.store 17 (t 30) (t 29))]<|
  .seq (.dreg [(Mv 31 7,[]),(m 32 (.sliceV 17 (t 31) (some (Ci 1)) none),[0]),(m 33 (Fl 108 6),[]),(m 34 (Fl 21 33),[2]),(m 35 (Ld 34),[3]),(m 36 (.copyTo 17 (t 32) (t 35)),[1,4])] [(2,0),(1,1),(1,2),(1,3),(1,4),(0,5)] [0,1,0,4,12,31])<|
  Rg [Mv 37 7,m 38 (Fl 108 6),m 39 (Fl 21 38),e (.store 1 (t 39) (t 37))]<|
  .seq (Rg [m 41 (Ls 132 6),m 42 (.call false 32 [(t 41)]),Mv 40 42,m 43 (.extract 0 (t 40)),m 44 (.extract 1 (t 40)),Mv 8 43,Mv 9 44]<|
  Rg [Mv 45 9,m 46 (.un .not (t 45)),Mv 47 46,Gf 48 47 (Ls 17 2),Gf 49 47 (.call false 71 [(t 48)]),Gf 50 47 (.un .not (t 49)),m 51 (.pick (t 47) Bt (t 50))]<|
  .cond (t 51) (Rg [m 52 (.build [q,q,q,o,o,o,o,o,o,o,o,q,q,o,o,o,o,o,o,o,o,o,o,o,o,o,o,o,o,q,o,o,o,o,o,o,o,o,o,o,o,o,o,o,o,o,q,o,o,o,o,o,o,o,o,o,o,o,o,o,o,o,o,(.str []),o,o,o,o,o,o,o,o,q,o,o,o,o,o,o,o,o,o,o,o,o,o,o,o,o,q,q,q,o,o,o,o,o,o,o,o,o,o,o,o,o,o,o,o,q,.nils,q,q,q,o,o,o,o,o,o,o,o,o,o,o,o,o,o,o,o,.nils,.nils,.nils] []),e (.store 132 (t 4) (t 52)),m 5 (.mov Bf)]<|
  .ret) (.skip))<|
  Rg [m 53 (Ls 132 6),e (.store 132 (t 4) (t 53)),m 5 (.mov Bt)]<|
  .ret
def vf72:VFun:=⟨54,5,vb72,[.cell 4 (some 132),.tmp 5],false⟩
theorem cf72:cFun Tryz.prog rawF false Tryz.f72=some vf72:=by kernel_rfl
theorem T72 (h:HT σ args Post vb72 vf72 [dd,dd,dd,dd,dd]) (hl:args.length≤54:=by exact zB rfl):T Tryz.prog 72 args σ Post:=T.walk Tryz.func72 cf72 hl rfl h
@[reducible] def vb115:VC:=
  Rg [m 1 (.box 0 (t 0)),m 2 (.alloc 1 [q,.nils,q,q,q,o,o,o,o,o,o,o,o,o,o,o,o,o,o,o,o,.nils,.nils,.nils,.nils,.nils]),m 3 (.mov Bf)]<|
  .seq (Rg [m 4 (Ls 132 1),m 5 (.call false 73 [(t 4)]),m 6 (.un .not (t 5))]<|
  .cond (t 6) (Rg [m 7 (.call false 158 []),e (.store 26 (t 2) (t 7)),m 3 (.mov Bf)]<|
  .ret) (.skip))<|
  Rg [m 8 (Ls 132 1),m 9 (.call false 159 [(t 8)]),e (.store 132 (t 1) (t 9))]<|
  .seq (.dreg [(m 10 (Fl 108 1),[]),(m 11 (Ls 24 10),[0]),(m 12 (Ls 132 1),[]),(m 13 (.call false 117 [(t 12)]),[2]),(m 14 (.buildSlice 2 21 1 [q,q,q,o,o,o,o,o,o,o,o,o,o,o,o,o,o,o,o,.nils,.nils] [(0,(t 13))]),[3]),(m 15 (.build [q,.nils,q,q,q,o,o,o,o,o,o,o,o,o,o,o,o,o,o,o,o,.nils,.nils,.nils,.nils,.nils] [(0,24,(t 11)),(24,1,(t 14))]),[1,4]),(e (.store 26 (t 2) (t 15)),[5,3,0,1,2,3,4,5]),(m 3 (.mov Bt),[6,0,1,2,3,4,5,6])] [(2,0),(2,1),(1,2),(1,3),(0,4),(2,5),(0,6),(2,7)] [0,1,0,4,12,31,63,127])<|
  .ret
def vf115:VFun:=⟨16,3,vb115,[.cell 2 (some 26),.tmp 3],false⟩
theorem cf115:cFun Tryz.prog rawF false Tryz.f115=some vf115:=by kernel_rfl
theorem T115 (h:HT σ args Post vb115 vf115 [dd,dd,dd]) (hl:args.length≤16:=by exact zB rfl):T Tryz.prog 115 args σ Post:=T.walk Tryz.func115 cf115 hl rfl h
@[reducible] def vb159:VC:=
  Rg [m 1 (.box 0 (t 0)),m 2 (.alloc 1 [q,q,q,o,o,o,o,o,o,o,o,q,q,o,o,o,o,o,o,o,o,o,o,o,o,o,o,o,o,q,o,o,o,o,o,o,o,o,o,o,o,o,o,o,o,o,q,o,o,o,o,o,o,o,o,o,o,o,o,o,o,o,o,(.str []),o,o,o,o,o,o,o,o,q,o,o,o,o,o,o,o,o,o,o,o,o,o,o,o,o,q,q,q,o,o,o,o,o,o,o,o,o,o,o,o,o,o,o,o,q,.nils,q,q,q,o,o,o,o,o,o,o,o,o,o,o,o,o,o,o,o,.nils,.nils,.nils])]<|
  Rg [m 6 (Fl 108 1),m 7 (Ls 24 6),m 3 (.alloc 2 [q,.nils,q,q,q,o,o,o,o,o,o,o,o,o,o,o,o,o,o,o,o,.nils,.nils,.nils]),e (.store 24 (t 3) (t 7))]<|
  Rg [m 8 (Fl 1 3),m 9 (Ld 8),m 10 (.call false 197 [(t 9)]),m 11 (Fl 1 3),e (.store 1 (t 11) (t 10))]<|
  .seq (Rg [m 12 (Fl 1 3),m 13 (Ld 12),m 14 (.len (t 13)),m 15 (.mov (.c q))]<|
  .block 0<|.loop<|Rg [m 16 (.bin .lss .num (t 15) (t 14))]<|
  .seq (.cond (t 16) (.skip) (.exit 0))<|
  .seq (.block 1<|Rg [Mv 17 15,Mv 4 17]<|
  .dreg [(m 18 (Fl 1 3),[]),(m 19 (Ld 18),[0]),(Mv 20 4,[]),(m 21 (Fl 1 3),[]),(m 22 (Ld 21),[3]),(Mv 23 4,[]),(m 24 (.index 2 (t 22) (t 23)),[4,5]),(m 25 (Fl 1 24),[6]),(m 26 (Ld 25),[7]),(m 27 (.call false 198 [(t 26)]),[8]),(m 28 (.index 2 (t 19) (t 20)),[1,2,0,1,2,3,4,5,6,7,8,9]),(m 29 (Fl 1 28),[10,0,1,2,3,4,5,6,7,8,9]),(e (.store 1 (t 29) (t 27)),[11,9,9,0,1,2,3,4,5,6,7,8,9])] [(1,0),(1,1),(2,2),(1,3),(1,4),(2,5),(1,6),(1,7),(1,8),(1,9),(1,10),(1,11),(0,12)] [0,1,0,0,8,0,56,120,248,504,1023,2047,4095])<|
  .region [m 30 (.bin .add .num (t 15) (Ci 1)),Mv 15 30])<|
  .seq (.dreg [(m 31 (Fl 21 3),[]),(m 32 (Ld 31),[0]),(m 33 (.call false 120 [(t 32)]),[1]),(m 34 (Fl 22 3),[]),(m 35 (Ld 34),[3]),(m 36 (.call false 119 [(t 35)]),[4,2]),(m 37 (Fl 23 3),[]),(m 38 (Ld 37),[6]),(m 39 (.call false 199 [(t 38)]),[7,5]),(m 40 (Fl 21 3),[0,1,2,3,4,6,7]),(e (.store 1 (t 40) (t 33)),[9,2,8,0,1,2,3,4,6,7]),(m 41 (Fl 22 3),[0,1,2,3,4,5,6,7,9,10]),(e (.store 1 (t 41) (t 36)),[11,5,10,0,1,2,3,4,5,6,7,9,10]),(m 42 (Fl 23 3),[0,1,2,3,4,5,6,7,8,9,10,11,12]),(e (.store 1 (t 42) (t 39)),[13,8,12,0,1,2,3,4,5,6,7,8,9,10,11,12])] [(1,0),(1,1),(1,2),(1,3),(1,4),(1,5),(1,6),(1,7),(1,8),(1,9),(0,10),(1,11),(0,12),(1,13),(0,14)] [0,1,3,0,8,31,0,64,255,223,1023,2047,4095,8191,16383])<|
  .seq (Rg [m 43 (Fl 23 3),m 44 (Ld 43),m 45 (.len (t 44)),m 46 (.mov (.c q))]<|
  .block 2<|.loop<|Rg [m 47 (.bin .lss .num (t 46) (t 45))]<|
  .seq (.cond (t 47) (.skip) (.exit 2))<|
  .seq (.block 3<|Rg [Mv 48 46,Mv 5 48]<|
  .dreg [(m 49 (Fl 23 3),[]),(m 50 (Ld 49),[0]),(Mv 51 5,[]),(m 52 (Fl 23 3),[]),(m 53 (Ld 52),[3]),(Mv 54 5,[]),(m 55 (.index 21 (t 53) (t 54)),[4,5]),(m 56 (Fl 20 55),[6]),(m 57 (Ld 56),[7]),(m 58 (.call false 200 [(t 57)]),[8]),(m 59 (.index 21 (t 50) (t 51)),[1,2,0,1,2,3,4,5,6,7,8,9]),(m 60 (Fl 20 59),[10,0,1,2,3,4,5,6,7,8,9]),(e (.store 1 (t 60) (t 58)),[11,9,9,0,1,2,3,4,5,6,7,8,9])] [(1,0),(1,1),(2,2),(1,3),(1,4),(2,5),(1,6),(1,7),(1,8),(1,9),(1,10),(1,11),(0,12)] [0,1,0,0,8,0,56,120,248,504,1023,2047,4095])<|
  .region [m 61 (.bin .add .num (t 46) (Ci 1)),Mv 46 61])<|
  Rg [m 62 (Ls 24 3),m 63 (Fl 108 1),e (.store 24 (t 63) (t 62))]<|
  Rg [m 64 (Ls 132 1),e (.store 132 (t 2) (t 64))]<|
  .ret
def vf159:VFun:=⟨65,3,vb159,[.cell 2 (some 132)],false⟩
theorem cf159:cFun Tryz.prog rawF false Tryz.f159=some vf159:=by kernel_rfl
theorem T159 (h:HT σ args Post vb159 vf159 [dd,dd,dd]) (hl:args.length≤65:=by exact zB rfl):T Tryz.prog 159 args σ Post:=T.walk Tryz.func159 cf159 hl rfl h
@[reducible] def vb9:VC:=
  Rg [m 4 (.box 0 (t 0)),m 5 (.box 1 (t 1)),m 6 (.box 2 (t 2)),m 7 (.box 3 (t 3)),m 8 (.mov Bf)]<|
  .seq (Rg [m 12 (Ls 132 7),m 13 (.call false 32 [(t 12)]),Mv 11 13,m 14 (.extract 0 (t 11)),m 15 (.extract 1 (t 11)),Mv 9 14,Mv 10 15]<|
  Rg [Mv 16 10,m 17 (.un .not (t 16)),Mv 18 17,Gf 19 18 (Fl 108 7),Gf 20 18 (Fl 4 19),Gf 21 18 (Ls 17 20),Gf 22 18 (Ls 17 5),Gf 23 18 (.call false 33 [(t 21),(t 22)]),m 24 (.pick (t 18) Bt (t 23))]<|
  .cond (t 24) (Rg [m 8 (.mov Bf)]<|
  .ret) (.skip))<|
  .seq (Rg [m 25 (Fl 108 7),m 26 (Fl 21 25),m 27 (Ld 26),m 28 (.func 35 [(t 6)]),m 29 (.call false 34 [(t 27),(t 28)])]<|
  .cond (t 29) (Rg [m 8 (.mov Bf)]<|
  .ret) (.skip))<|
  Rg [m 30 (Fl 108 7),m 31 (Fl 1 30),m 32 (Ld 31),m 33 (.func 37 [(t 4)]),m 34 (.call false 36 [(t 32),(t 33)]),m 35 (.un .not (t 34)),Mv 8 35]<|
  .ret
def vf9:VFun:=⟨36,4,vb9,[.tmp 8],false⟩
theorem cf9:cFun Tryz.prog rawF false Tryz.f9=some vf9:=by kernel_rfl
theorem T9 (h:HT σ args Post vb9 vf9 [dd,dd,dd,dd]) (hl:args.length≤36:=by exact zB rfl):T Tryz.prog 9 args σ Post:=T.walk Tryz.func9 cf9 hl rfl h
@[reducible] def vb35:VC:=
  Rg [m 2 (.box 0 (t 0)),m 3 (.mov Bf)]<|
  Rg [m 4 (Ls 17 2),m 5 (Ls 17 1),m 6 (.call false 33 [(t 4),(t 5)]),Mv 3 6]<|
  .ret
def vf35:VFun:=⟨7,1,vb35,[.tmp 3],false⟩
theorem cf35:cFun Tryz.prog rawF false Tryz.f35=some vf35:=by kernel_rfl
theorem T35 (h:HT σ args Post vb35 vf35 [dd]) (hl:args.length≤7:=by exact zB rfl):T Tryz.prog 35 args σ Post:=T.walk Tryz.func35 cf35 hl rfl h
@[reducible] def vb37:VC:=
  Rg [m 2 (.box 0 (t 0)),m 3 (.mov Bf)]<|
  Rg [m 4 (Fl 1 2),m 5 (Ld 4),m 6 (Ld 1),m 7 (.call false 38 [(t 5),(t 6)]),Mv 3 7]<|
  .ret
def vf37:VFun:=⟨8,1,vb37,[.tmp 3],false⟩
theorem cf37:cFun Tryz.prog rawF false Tryz.f37=some vf37:=by kernel_rfl
theorem T37 (h:HT σ args Post vb37 vf37 [dd]) (hl:args.length≤8:=by exact zB rfl):T Tryz.prog 37 args σ Post:=T.walk Tryz.func37 cf37 hl rfl h
@[reducible] def vb38:VC:=
  Rg [m 4 (.mov Bf)]<|
  Rg [Mv 5 0,Mv 6 1,m 7 (.call false 77 [(t 5),(t 6)]),m 8 (.bin .geq .num (t 7) (.c q)),Mv 4 8]<|
  .ret
def vf38:VFun:=⟨9,0,vb38,[.tmp 4],false⟩
theorem cf38:cFun Tryz.prog rawF false Tryz.f38=some vf38:=by kernel_rfl
theorem T38 (h:HT σ args Post vb38 vf38 []) (hl:args.length≤9:=by exact zB rfl):T Tryz.prog 38 args σ Post:=T.walk Tryz.func38 cf38 hl rfl h
@[reducible] def vb77:VC:=
  Rg [m 4 (.mov (.c q))]<|
  .seq (Rg [Mv 6 0,m 7 (.len (t 6)),m 8 (.mov (.c q))]<|
  .block 0<|.loop<|Rg [m 9 (.bin .lss .num (t 8) (t 7))]<|
  .seq (.cond (t 9) (.skip) (.exit 0))<|
  .seq (.block 1<|Rg [Mv 10 8,Mv 5 10]<|
  Rg [Mv 11 1,Mv 12 0,Mv 13 5,m 14 (.index 1 (t 12) (t 13)),m 15 (Ld 14),m 16 (.bin .eql .num (t 11) (t 15))]<|
  .cond (t 16) (Rg [Mv 17 5,Mv 4 17]<|
  .ret) (.skip))<|
  .region [m 18 (.bin .add .num (t 8) (Ci 1)),Mv 8 18])<|
  Rg [m 4 (.mov (.c (i (-1))))]<|
  .ret
def vf77:VFun:=⟨19,0,vb77,[.tmp 4],false⟩
theorem cf77:cFun Tryz.prog rawF false Tryz.f77=some vf77:=by kernel_rfl
theorem T77 (h:HT σ args Post vb77 vf77 []) (hl:args.length≤19:=by exact zB rfl):T Tryz.prog 77 args σ Post:=T.walk Tryz.func77 cf77 hl rfl h
@[reducible] def vb11:VC:=
  Rg [m 4 (.mov (.c q))]<|
  .seq (Rg [Mv 5 1,m 6 (.bin .lss .num (t 5) (Ci 1)),Mv 7 6,Gf 8 7 (.mov (t 1)),Gf 9 7 (.mov (t 0)),Gf 10 7 (.len (t 9)),Gf 11 7 (.bin .gtr .num (t 8) (t 10)),m 12 (.pick (t 7) Bt (t 11))]<|
  .cond (t 12) (Rg [m 4 (.mov (.c q))]<|
  .ret) (.skip))<|
  Rg [Mv 13 0,Mv 14 1,m 15 (.bin .sub .num (t 14) (Ci 1)),m 16 (.index 1 (t 13) (t 15)),m 17 (Ld 16),Mv 4 17]<|
  .ret
def vf11:VFun:=⟨18,0,vb11,[.tmp 4],false⟩
theorem cf11:cFun Tryz.prog rawF false Tryz.f11=some vf11:=by kernel_rfl
theorem T11 (h:HT σ args Post vb11 vf11 []) (hl:args.length≤18:=by exact zB rfl):T Tryz.prog 11 args σ Post:=T.walk Tryz.func11 cf11 hl rfl h
@[reducible] def vb7:VC:=
  Rg [m 0 (.mov Bf)]<|
  Rg [m 7 (.call false 28 [(.c (b 1)),(.c (b 1))]),m 8 (.call false 29 [(.c (b 10)),(.c o),(.c o),(.c (b 1))]),m 9 (.build [q,q,q,o,o,o,o,o,o,o,o,q,q,o,o,o,o,o,o,o,o,o,o,o,o,o,o,o,o,q,o,o,o,o,o,o,o,o,o,o,o,o,o,o,o,o,q,o,o,o,o,o,o,o,o,o,o,o,o,o,o,o,o,(.str []),o,o,o,o,o,o,o,o,q,o,o,o,o,o,o,o,o,o,o,o,o,o,o,o,o,q,q,q,o,o,o,o,o,o,o,o,o,o,o,o,o,o,o,o,q,.nils,q,q,q,o,o,o,o,o,o,o,o,o,o,o,o,o,o,o,o,.nils,.nils,.nils,q,q,o,o,o,o,o,o,o,o,o,o,o,o,o,o,o,o] [(0,132,(t 7)),(132,1,(Ci 1)),(133,17,(t 8))]),m 1 (.alloc 0 [q,q,q,o,o,o,o,o,o,o,o,q,q,o,o,o,o,o,o,o,o,o,o,o,o,o,o,o,o,q,o,o,o,o,o,o,o,o,o,o,o,o,o,o,o,o,q,o,o,o,o,o,o,o,o,o,o,o,o,o,o,o,o,(.str []),o,o,o,o,o,o,o,o,q,o,o,o,o,o,o,o,o,o,o,o,o,o,o,o,o,q,q,q,o,o,o,o,o,o,o,o,o,o,o,o,o,o,o,o,q,.nils,q,q,q,o,o,o,o,o,o,o,o,o,o,o,o,o,o,o,o,.nils,.nils,.nils,q,q,o,o,o,o,o,o,o,o,o,o,o,o,o,o,o,o]),e (.store 150 (t 1) (t 9))]<|
  Rg [m 10 (.call false 29 [(.c (b 10)),(.c o),(.c o),(.c (b 9))]),m 2 (.alloc 1 [q,o,o,o,o,o,o,o,o,o,o,o,o,o,o,o,o]),e (.store 17 (t 2) (t 10))]<|
  .seq (.dreg [(m 12 (Ls 17 2),[]),(m 13 (Ls 150 1),[]),(m 14 (.call false 29 [(.c (b 10)),(.c o),(.c o),(.c (b 2))]),[]),(m 15 (.call false 30 [(t 12),Bt,(t 13),(Ci 1),(.c q),(Ci 2),(t 14)]),[0,1,2,2]),(Mv 11 15,[3]),(m 16 (.extract 0 (t 11)),[4]),(m 17 (.extract 1 (t 11)),[4]),(m 3 (.alloc 2 [q,q,q,o,o,o,o,o,o,o,o,q,q,o,o,o,o,o,o,o,o,o,o,o,o,o,o,o,o,q,o,o,o,o,o,o,o,o,o,o,o,o,o,o,o,o,q,o,o,o,o,o,o,o,o,o,o,o,o,o,o,o,o,(.str []),o,o,o,o,o,o,o,o,q,o,o,o,o,o,o,o,o,o,o,o,o,o,o,o,o,q,q,q,o,o,o,o,o,o,o,o,o,o,o,o,o,o,o,o,q,.nils,q,q,q,o,o,o,o,o,o,o,o,o,o,o,o,o,o,o,o,.nils,.nils,.nils]),[]),(e (.store 132 (t 3) (t 16)),[7,5,3,0,1,2,3,4,5,7]),(Mv 4 17,[6,8,0,1,2,3,4,5,6,7,8])] [(2,0),(2,1),(2,2),(2,3),(2,4),(2,5),(2,6),(0,7),(0,8),(2,9)] [0,0,0,7,15,31,31,0,191,511])<|
  .seq (.dreg [(m 19 (Ls 17 2),[]),(m 20 (Ls 150 1),[]),(m 21 (.call false 29 [(.c (b 10)),(.c o),(.c o),(.c (b 2))]),[]),(m 22 (.call false 30 [(t 19),Bt,(t 20),(.c q),(.c q),(Ci 2),(t 21)]),[0,1,2,2]),(Mv 18 22,[3]),(m 23 (.extract 0 (t 18)),[4]),(m 24 (.extract 1 (t 18)),[4]),(m 5 (.alloc 3 [q,q,q,o,o,o,o,o,o,o,o,q,q,o,o,o,o,o,o,o,o,o,o,o,o,o,o,o,o,q,o,o,o,o,o,o,o,o,o,o,o,o,o,o,o,o,q,o,o,o,o,o,o,o,o,o,o,o,o,o,o,o,o,(.str []),o,o,o,o,o,o,o,o,q,o,o,o,o,o,o,o,o,o,o,o,o,o,o,o,o,q,q,q,o,o,o,o,o,o,o,o,o,o,o,o,o,o,o,o,q,.nils,q,q,q,o,o,o,o,o,o,o,o,o,o,o,o,o,o,o,o,.nils,.nils,.nils]),[]),(e (.store 132 (t 5) (t 23)),[7,5,3,0,1,2,3,4,5,7]),(Mv 6 24,[6,8,0,1,2,3,4,5,6,7,8])] [(2,0),(2,1),(2,2),(2,3),(2,4),(2,5),(2,6),(0,7),(0,8),(2,9)] [0,0,0,7,15,31,31,0,191,511])<|
  .seq (.dreg [(Mv 25 4,[]),(Mv 26 25,[0]),(Gt 27 26 (Fl 108 3),[1]),(Gt 28 26 (Fl 4 27),[2,1]),(Gt 29 26 (Ls 17 28),[3,1]),(Gt 30 26 (Fl 133 1),[1]),(Gt 31 26 (Ls 17 30),[5,1]),(Gt 32 26 (.eqAgg [(.i .i64),(.i .u8),(.i .u8),(.i .u8),(.i .u8),(.i .u8),(.i .u8),(.i .u8),(.i .u8),(.i .u8),(.i .u8),(.i .u8),(.i .u8),(.i .u8),(.i .u8),(.i .u8),(.i .u8)] false (t 29) (t 31)),[4,6,1]),(m 33 (.pick (t 26) (t 32) Bf),[1,7]),(Mv 34 33,[8,1]),(Gt 35 34 (Fl 108 3),[9]),(Gt 36 34 (Fl 21 35),[10,9]),(Gt 37 34 (Ld 36),[11,9]),(Gt 38 34 (.len (t 37)),[12,9]),(Gt 39 34 (.bin .eql .num (t 38) (Ci 1)),[13,9]),(m 40 (.pick (t 34) (t 39) Bf),[9,14]),(Mv 41 40,[15,9]),(Gt 42 41 (Fl 108 3),[16]),(Gt 43 41 (Fl 21 42),[17,16]),(Gt 44 41 (Ld 43),[18,16]),(Gt 45 41 (.index 17 (t 44) (.c q)),[19,16]),(Gt 46 41 (Ls 17 45),[20,16]),(Gt 47 41 (Ls 17 2),[16]),(Gt 48 41 (.eqAgg [(.i .i64),(.i .u8),(.i .u8),(.i .u8),(.i .u8),(.i .u8),(.i .u8),(.i .u8),(.i .u8),(.i .u8),(.i .u8),(.i .u8),(.i .u8),(.i .u8),(.i .u8),(.i .u8),(.i .u8)] false (t 46) (t 47)),[21,22,16]),(m 49 (.pick (t 41) (t 48) Bf),[16,23]),(Mv 50 49,[24,16]),(Gt 51 50 (.mov (t 6)),[25]),(Gt 52 50 (.un .not (t 51)),[26,25]),(m 53 (.pick (t 50) (t 52) Bf),[25,27]),(Mv 54 53,[28,25]),(Gt 55 54 (Ls 17 2),[29]),(Gt 56 54 (.build [q,o,o,o,o,o,o,o,o,o,o,o,o,o,o,o,o] []),[29]),(Gt 57 54 (Fl 0 1),[29]),(Gt 58 54 (Ls 132 57),[32,29]),(Gt 59 54 (.call false 9 [(Ci 65000),(t 55),(t 56),(t 58)]),[30,31,33,29,29]),(m 60 (.pick (t 54) (t 59) Bf),[29,34]),(Mv 61 60,[35,34]),(Gt 62 61 (Ls 17 2),[36]),(Gt 63 61 (Ls 17 2),[36]),(Gt 64 61 (Ls 132 3),[36]),(Gt 65 61 (.call false 9 [(Ci 65000),(t 62),(t 63),(t 64)]),[37,38,39,36,36]),(Gt 66 61 (.un .not (t 65)),[40,36]),(m 67 (.pick (t 61) (t 66) Bf),[36,41]),(Mv 68 67,[42,40]),(Gt 69 68 (.buildSlice 4 1 2 [q] [(0,(.c q)),(1,(Ci 1))]),[43]),(Gt 70 68 (.call false 11 [(t 69),(Ci 2)]),[44,43,43]),(Gt 71 68 (.bin .eql .num (t 70) (Ci 1)),[45,43]),(m 72 (.pick (t 68) (t 71) Bf),[43,46]),(Mv 0 72,[47,45,0,1,2,3,4,5,6,7,8,9,10,11,12,13,14,15,16,17,18,19,20,21,22,23,24,25,26,27,28,29,30,31,32,33,34,35,36,37,38,39,40,41,42,43,44,45,46,47])] [(2,0),(2,1),(1,2),(1,3),(1,4),(1,5),(1,6),(2,7),(2,8),(2,9),(1,10),(1,11),(1,12),(1,13),(2,14),(2,15),(2,16),(1,17),(1,18),(1,19),(1,20),(1,21),(1,22),(2,23),(2,24),(2,25),(2,26),(2,27),(2,28),(2,29),(1,30),(2,31),(1,32),(1,33),(1,34),(2,35),(2,36),(1,37),(1,38),(1,39),(1,40),(2,41),(2,42),(2,43),(0,44),(1,45),(2,46),(2,47),(2,48)] [0,1,3,7,15,3,35,127,255,511,1023,2047,4095,8191,16383,32767,65535,131071,262143,524287,1048575,2097151,131071,8388607,16777215,33554431,67108863,134217727,268435455,536870911,1073741823,1073741823,1073741823,5368709119,17179869183,34359738367,68719476735,137438953471,137438953471,137438953471,1099511627775,2199023255551,4398046511103,8796093022207,17592186044415,35184372088831,70368744177663,140737488355327,281474976710655])<|
  .ret
def vf7:VFun:=⟨73,5,vb7,[.tmp 0],false⟩
theorem cf7:cFun Tryz.prog rawF false Tryz.f7=some vf7:=by kernel_rfl
end Go.Proofs.YtdpeaefgbmkegaaGreatDoor
namespace Go.Proofs.YtdpeaefgbmkegaaGreatDoor
open Go Go.V D
variable {args:List PV} {σ:VHeap} {Post:KP}
@[reducible] def vb119:VC:=
  Rg [m 2 (.newRow 0 8)]<|
  .seq (Rg [Mv 3 0,m 4 (.bin .eql .slice (t 3) (.c .nils))]<|
  .cond (t 4) (Rg [m 2 (.newRow 0 8)]<|
  .ret) (.skip))<|
  Rg [m 5 (.buildSlice 1 8 0 [o,o,o,o,o,o,o,o] []),Mv 6 0,m 7 (.append 2 8 8 (t 5) (t 6)),Mv 2 7]<|
  .ret
def vf119:VFun:=⟨8,3,vb119,[.tmp 2],false⟩
theorem cf119:cFun Tryz.prog rawF false Tryz.f119=some vf119:=by kernel_rfl
theorem T119 (h:HT σ args Post vb119 vf119 [dd,dd,dd]) (hl:args.length≤8:=by exact zB rfl):T Tryz.prog 119 args σ Post:=T.walk Tryz.func119 cf119 hl rfl h
@[reducible] def vb120:VC:=
  Rg [m 2 (.newRow 0 17)]<|
  .seq (Rg [Mv 3 0,m 4 (.bin .eql .slice (t 3) (.c .nils))]<|
  .cond (t 4) (Rg [m 2 (.newRow 0 17)]<|
  .ret) (.skip))<|
  Rg [m 5 (.buildSlice 1 17 0 [q,o,o,o,o,o,o,o,o,o,o,o,o,o,o,o,o] []),Mv 6 0,m 7 (.append 2 17 24 (t 5) (t 6)),Mv 2 7]<|
  .ret
def vf120:VFun:=⟨8,3,vb120,[.tmp 2],false⟩
theorem cf120:cFun Tryz.prog rawF false Tryz.f120=some vf120:=by kernel_rfl
theorem T120 (h:HT σ args Post vb120 vf120 [dd,dd,dd]) (hl:args.length≤8:=by exact zB rfl):T Tryz.prog 120 args σ Post:=T.walk Tryz.func120 cf120 hl rfl h
@[reducible] def vb197:VC:=
  Rg [m 2 (.newRow 0 2)]<|
  .seq (Rg [Mv 3 0,m 4 (.bin .eql .slice (t 3) (.c .nils))]<|
  .cond (t 4) (Rg [m 2 (.newRow 0 2)]<|
  .ret) (.skip))<|
  Rg [m 5 (.buildSlice 1 2 0 [(.bool false),.nils] []),Mv 6 0,m 7 (.append 2 2 32 (t 5) (t 6)),Mv 2 7]<|
  .ret
@[reducible] def vb198:VC:=
  Rg [m 2 (.newRow 0 1)]<|
  .seq (Rg [Mv 3 0,m 4 (.bin .eql .slice (t 3) (.c .nils))]<|
  .cond (t 4) (Rg [m 2 (.newRow 0 1)]<|
  .ret) (.skip))<|
  Rg [m 5 (.buildSlice 1 1 0 [q] []),Mv 6 0,m 7 (.append 2 1 8 (t 5) (t 6)),Mv 2 7]<|
  .ret
def vf198:VFun:=⟨8,3,vb198,[.tmp 2],false⟩
theorem cf198:cFun Tryz.prog rawF false Tryz.f198=some vf198:=by kernel_rfl
theorem T198 (h:HT σ args Post vb198 vf198 [dd,dd,dd]) (hl:args.length≤8:=by exact zB rfl):T Tryz.prog 198 args σ Post:=T.walk Tryz.func198 cf198 hl rfl h
@[reducible] def vb199:VC:=
  Rg [m 2 (.newRow 0 21)]<|
  .seq (Rg [Mv 3 0,m 4 (.bin .eql .slice (t 3) (.c .nils))]<|
  .cond (t 4) (Rg [m 2 (.newRow 0 21)]<|
  .ret) (.skip))<|
  Rg [m 5 (.buildSlice 1 21 0 [(.bool false),q,q,q,o,o,o,o,o,o,o,o,o,o,o,o,o,o,o,o,.nils] []),Mv 6 0,m 7 (.append 2 21 72 (t 5) (t 6)),Mv 2 7]<|
  .ret
@[reducible] def vb200:VC:=
  Rg [m 2 (.newRow 0 1)]<|
  .seq (Rg [Mv 3 0,m 4 (.bin .eql .slice (t 3) (.c .nils))]<|
  .cond (t 4) (Rg [m 2 (.newRow 0 1)]<|
  .ret) (.skip))<|
  Rg [m 5 (.buildSlice 1 1 0 [o] []),Mv 6 0,m 7 (.append 2 1 1 (t 5) (t 6)),Mv 2 7]<|
  .ret
def vf200:VFun:=⟨8,3,vb200,[.tmp 2],false⟩
theorem cf200:cFun Tryz.prog rawF false Tryz.f200=some vf200:=by kernel_rfl
theorem T200 (h:HT σ args Post vb200 vf200 [dd,dd,dd]) (hl:args.length≤8:=by exact zB rfl):T Tryz.prog 200 args σ Post:=T.walk Tryz.func200 cf200 hl rfl h
@[reducible] def vb28:VC:=
  Rg [m 4 (.alloc 0 [q,q,q,o,o,o,o,o,o,o,o,q,q,o,o,o,o,o,o,o,o,o,o,o,o,o,o,o,o,q,o,o,o,o,o,o,o,o,o,o,o,o,o,o,o,o,q,o,o,o,o,o,o,o,o,o,o,o,o,o,o,o,o,(.str []),o,o,o,o,o,o,o,o,q,o,o,o,o,o,o,o,o,o,o,o,o,o,o,o,o,q,q,q,o,o,o,o,o,o,o,o,o,o,o,o,o,o,o,o,q,.nils,q,q,q,o,o,o,o,o,o,o,o,o,o,o,o,o,o,o,o,.nils,.nils,.nils])]<|
  Rg [m 5 (.build [o,o,o,o,o,o,o,o] [(0,1,(.c o)),(1,1,(.c o)),(2,1,(.c o)),(3,1,(.c (b 1))),(4,1,(.c o)),(5,1,(.c o)),(6,1,(.c o)),(7,1,(.c (b 1)))]),Mv 6 0,m 7 (.call false 29 [(.c (b 10)),(.c o),(.c o),(t 6)]),m 8 (.build [q,o,o,o,o,o,o,o,o,q,q,o,o,o,o,o,o,o,o,o,o,o,o,o,o,o,o,q,o,o,o,o,o,o,o,o,o,o,o,o,o,o,o,o,q,o,o,o,o,o,o,o,o,o,o,o,o,o,o,o,o,(.str [])] [(0,1,(Ci 1)),(1,8,(t 5)),(44,17,(t 7))]),Mv 9 1,m 10 (.call false 29 [(.c (b 10)),(.c o),(.c o),(t 9)]),m 11 (.build [q,.nils,q,q,q,o,o,o,o,o,o,o,o,o,o,o,o,o,o,o,o,.nils,.nils,.nils] [(2,1,(.c (i (-1)))),(3,1,(Ci 100))]),m 12 (.build [q,q,q,o,o,o,o,o,o,o,o,q,q,o,o,o,o,o,o,o,o,o,o,o,o,o,o,o,o,q,o,o,o,o,o,o,o,o,o,o,o,o,o,o,o,o,q,o,o,o,o,o,o,o,o,o,o,o,o,o,o,o,o,(.str []),o,o,o,o,o,o,o,o,q,o,o,o,o,o,o,o,o,o,o,o,o,o,o,o,o,q,q,q,o,o,o,o,o,o,o,o,o,o,o,o,o,o,o,o,q,.nils,q,q,q,o,o,o,o,o,o,o,o,o,o,o,o,o,o,o,o,.nils,.nils,.nils] [(0,1,(Ci 4)),(1,1,(Ci 5)),(2,62,(t 8)),(91,17,(t 10)),(108,24,(t 11))]),e (.store 132 (t 4) (t 12))]<|
  .ret
def vf28:VFun:=⟨13,1,vb28,[.cell 4 (some 132)],false⟩
theorem cf28:cFun Tryz.prog rawF false Tryz.f28=some vf28:=by kernel_rfl
end Go.Proofs.YtdpeaefgbmkegaaGreatDoor
