/- Functions of the program, in the small language. -/
import Derived.Test.YtdpeaefgbmkegaaGreatDoorVZ
namespace Go.Proofs.YtdpeaefgbmkegaaGreatDoor
open Go Go.V D
variable {args:List PV} {σ:VHeap} {Post:KP}
@[reducible] def vb259:VC:=
  Rg [m 1 (.box 0 (t 0)),m 2 (.newRow 1 1),m 3 (.mov (.c q))]<|
  .seq (Rg [m 7 (Ls 27 1),m 8 (.call false 272 [(t 7)]),m 9 (.un .not (t 8))]<|
  .cond (t 9) (Rg [m 2 (.newRow 1 1),m 3 (.mov (Ci 1))]<|
  .ret) (.skip))<|
  Rg [m 11 (Fl 26 1),m 12 (Ld 11),m 13 (.call false 273 [(t 12),Bt]),Mv 10 13,m 14 (.extract 0 (t 10)),m 15 (.extract 1 (t 10)),Mv 4 14,Mv 5 15]<|
  Rg [m 16 (Fl 8 1),m 17 (Fl 17 16),m 18 (Ld 17),m 19 (.bin .add .num (Ci 88) (t 18)),m 20 (.convInt .u8 (t 19)),m 21 (.buildSlice 2 1 1 [o] [(0,(t 20))]),Mv 22 4,m 23 (.append 3 1 1 (t 21) (t 22)),Mv 6 23]<|
  Rg [Mv 24 6,m 25 (Fl 0 1),m 26 (.sliceArr 8 1 (t 25) none none),m 27 (.append 4 1 1 (t 24) (t 26)),Mv 6 27]<|
  Rg [Mv 28 6,m 29 (Fl 8 1),m 30 (Fl 0 29),m 31 (Fl 1 30),m 32 (Fl 8 1),m 33 (Fl 17 32),m 34 (Ld 33),m 35 (.call false 274 [(t 34)]),m 36 (.sliceArr 16 1 (t 31) none (some (t 35))),m 37 (.append 5 1 1 (t 28) (t 36)),Mv 2 37,m 3 (.mov (.c q))]<|
  .ret
def vf259:VFun:=⟨38,6,vb259,[.tmp 2,.tmp 3],false⟩
theorem cf259:cFun Tryz.prog rawF false Tryz.f259=some vf259:=by kernel_rfl
theorem T259 (h:HT σ args Post vb259 vf259 [dd,dd,dd,dd,dd,dd]) (hl:args.length≤38:=by exact zB rfl):T Tryz.prog 259 args σ Post:=T.walk Tryz.func259 cf259 hl rfl h
@[reducible] def vb261:VC:=
  Rg [m 4 (.alloc 0 [o,o,o,o,o,o,o,o,q,o,o,o,o,o,o,o,o,o,o,o,o,o,o,o,o,q,q]),m 5 (.mov (.c q)),m 6 (.mov (.c q))]<|
  .seq (Rg [Mv 14 1,m 15 (.bin .neq .num (t 14) (Ci 4)),Mv 16 15,Gt 17 16 (.mov (t 1)),Gt 18 16 (.bin .neq .num (t 17) (Ci 16)),m 19 (.pick (t 16) (t 18) Bf)]<|
  .cond (t 19) (Rg [m 20 (.build [o,o,o,o,o,o,o,o,q,o,o,o,o,o,o,o,o,o,o,o,o,o,o,o,o,q,q] []),e (.store 27 (t 4) (t 20)),m 5 (.mov (.c q)),m 6 (.mov (Ci 1))]<|
  .ret) (.skip))<|
  Rg [Mv 21 0,m 22 (.call false 52 [(t 21)]),Mv 7 22]<|
  Rg [Mv 23 7,m 24 (.call false 54 [(t 23),(Ci 1)]),Mv 8 24]<|
  Rg [Mv 25 7,Mv 26 8,m 27 (.call false 274 [(t 26)]),m 28 (.call false 275 [(t 25),(t 27)]),Mv 9 28]<|
  .seq (Rg [Mv 29 7,m 30 (.nilCheck (t 29)),m 31 (Fl 0 30),m 32 (.call false 276 [(t 31)])]<|
  .cond (t 32) (Rg [m 33 (.build [o,o,o,o,o,o,o,o,q,o,o,o,o,o,o,o,o,o,o,o,o,o,o,o,o,q,q] []),e (.store 27 (t 4) (t 33)),m 5 (.mov (.c q)),m 6 (.mov (Ci 3))]<|
  .ret) (.skip))<|
  Rg [m 10 (.alloc 1 [o,o,o,o,o,o,o,o,q,o,o,o,o,o,o,o,o,o,o,o,o,o,o,o,o,q,q])]<|
  Rg [Mv 35 9,m 36 (.call false 123 [(t 35),(Ci 3)]),m 37 (.call false 279 [(t 36)]),Mv 34 37,m 38 (.extract 0 (t 34)),m 39 (.extract 1 (t 34)),m 40 (.extract 2 (t 34)),m 41 (Fl 26 10),e (.store 1 (t 41) (t 38))]<|
  .seq (.dreg [(m 42 (Fl 0 10),[]),(m 43 (.sliceArr 8 1 (t 42) none none),[0]),(Mv 44 9,[]),(m 45 (.call false 123 [(t 44),(Ci 8)]),[2]),(m 46 (.copyTo 1 (t 43) (t 45)),[1,3,3])] [(2,0),(2,1),(2,2),(0,3),(0,4)] [0,1,0,4,15])<|
  Rg [Mv 47 1,m 48 (.build [q,o,o,o,o,o,o,o,o,o,o,o,o,o,o,o,o] [(0,1,(t 47))]),Mv 49 8,m 50 (.bin .sub .num (t 49) (Ci 88)),m 51 (.build [q,o,o,o,o,o,o,o,o,o,o,o,o,o,o,o,o,q] [(0,17,(t 48)),(17,1,(t 50))]),m 52 (Fl 8 10),e (.store 18 (t 52) (t 51))]<|
  .seq (.dreg [(m 53 (Fl 8 10),[]),(m 54 (Fl 0 53),[0]),(m 55 (Fl 1 54),[1]),(m 56 (.sliceArr 16 1 (t 55) none none),[2]),(Mv 57 9,[]),(Mv 58 9,[]),(m 59 (.nilCheck (t 58)),[5]),(m 60 (Fl 0 59),[6]),(m 61 (.call false 128 [(t 60)]),[7]),(m 62 (.call false 123 [(t 57),(t 61)]),[4,8,8]),(m 63 (.copyTo 1 (t 56) (t 62)),[3,9,9])] [(2,0),(2,1),(2,2),(2,3),(2,4),(2,5),(1,6),(1,7),(0,8),(0,9),(0,10)] [0,1,3,7,0,0,32,96,224,496,1023])<|
  Rg [Mv 64 8,m 65 (.call false 274 [(t 64)]),m 66 (.bin .add .num (Ci 1) (t 65)),Mv 11 66]<|
  .seq (Rg [m 68 (Ls 27 10),m 69 (.call false 259 [(t 68)]),Mv 67 69,m 70 (.extract 0 (t 67)),m 71 (.extract 1 (t 67)),Mv 12 70,Mv 13 71]<|
  Rg [Mv 72 13,m 73 (.bin .neq .num (t 72) (.c q)),Mv 74 73,Gf 75 74 (.mov (t 12)),Gf 76 74 (.mov (t 0)),Gf 77 74 (.mov (t 11)),Gf 78 74 (.slice 1 (t 76) none (some (t 77))),Gf 79 74 (.call false 258 [(t 75),(t 78)]),Gf 80 74 (.un .not (t 79)),m 81 (.pick (t 74) Bt (t 80))]<|
  .cond (t 81) (Rg [m 82 (.build [o,o,o,o,o,o,o,o,q,o,o,o,o,o,o,o,o,o,o,o,o,o,o,o,o,q,q] []),e (.store 27 (t 4) (t 82)),m 5 (.mov (.c q)),m 6 (.mov (Ci 4))]<|
  .ret) (.skip))<|
  Rg [m 83 (Ls 27 10),Mv 84 11,e (.store 27 (t 4) (t 83)),Mv 5 84,m 6 (.mov (.c q))]<|
  .ret
def vf261:VFun:=⟨85,2,vb261,[.cell 4 (some 27),.tmp 5,.tmp 6],false⟩
theorem cf261:cFun Tryz.prog rawF false Tryz.f261=some vf261:=by kernel_rfl
theorem T261 (h:HT σ args Post vb261 vf261 [dd,dd]) (hl:args.length≤85:=by exact zB rfl):T Tryz.prog 261 args σ Post:=T.walk Tryz.func261 cf261 hl rfl h
@[reducible] def vb272:VC:=
  Rg [m 1 (.box 0 (t 0)),m 2 (.mov Bf)]<|
  Rg [m 3 (Fl 8 1),m 4 (Ls 18 3),m 5 (.call false 282 [(t 4)]),m 6 (.bin .neq .num (t 5) (.c (.str []))),Mv 7 6,Gt 8 7 (Fl 26 1),Gt 9 7 (Ld 8),Gt 10 7 (.bin .geq .num (t 9) (.c q)),m 11 (.pick (t 7) (t 10) Bf),Mv 12 11,Gt 13 12 (Fl 26 1),Gt 14 12 (Ld 13),Gt 15 12 (.bin .leq .num (t 14) (Ci 1048575)),m 16 (.pick (t 12) (t 15) Bf),Mv 2 16]<|
  .ret
def vf272:VFun:=⟨17,1,vb272,[.tmp 2],false⟩
theorem cf272:cFun Tryz.prog rawF false Tryz.f272=some vf272:=by kernel_rfl
theorem T272 (h:HT σ args Post vb272 vf272 [dd]) (hl:args.length≤17:=by exact zB rfl):T Tryz.prog 272 args σ Post:=T.walk Tryz.func272 cf272 hl rfl h
@[reducible] def vb238:VC:=
  Rg [m 2 (.newRow 0 1),m 3 (.mov (.c q))]<|
  Rg [m 4 (.newRow 1 1)]<|
  .seq (Rg [Mv 9 0,m 10 (.len (t 9)),m 11 (.mov (.c q))]<|
  .block 0<|.loop<|Rg [m 12 (.bin .lss .num (t 11) (t 10))]<|
  .seq (.cond (t 12) (.skip) (.exit 0))<|
  .seq (.block 1<|Rg [m 13 (.index 27 (t 9) (t 11)),m 14 (Ls 27 13),m 6 (.alloc 2 [o,o,o,o,o,o,o,o,q,o,o,o,o,o,o,o,o,o,o,o,o,o,o,o,o,q,q]),e (.store 27 (t 6) (t 14))]<|
  Rg [m 16 (Ls 27 6),m 17 (.call false 259 [(t 16)]),Mv 15 17,m 18 (.extract 0 (t 15)),m 19 (.extract 1 (t 15)),Mv 7 18,Mv 8 19]<|
  .seq (Rg [Mv 20 8,m 21 (.bin .neq .num (t 20) (.c q))]<|
  .cond (t 21) (Rg [Mv 22 8,m 2 (.newRow 0 1),Mv 3 22]<|
  .ret) (.skip))<|
  .region [Mv 23 4,Mv 24 7,m 25 (.append 3 1 1 (t 23) (t 24)),Mv 4 25])<|
  .region [m 26 (.bin .add .num (t 11) (Ci 1)),Mv 11 26])<|
  Rg [Mv 27 4,Mv 2 27,m 3 (.mov (.c q))]<|
  .ret
def vf238:VFun:=⟨28,4,vb238,[.tmp 2,.tmp 3],false⟩
theorem cf238:cFun Tryz.prog rawF false Tryz.f238=some vf238:=by kernel_rfl
theorem T238 (h:HT σ args Post vb238 vf238 [dd,dd,dd,dd]) (hl:args.length≤28:=by exact zB rfl):T Tryz.prog 238 args σ Post:=T.walk Tryz.func238 cf238 hl rfl h
@[reducible] def vb240:VC:=
  Rg [m 4 (.newRow 0 27),m 5 (.mov (.c q))]<|
  .seq (Rg [Mv 10 1,m 11 (.bin .neq .num (t 10) (Ci 4)),Mv 12 11,Gt 13 12 (.mov (t 1)),Gt 14 12 (.bin .neq .num (t 13) (Ci 16)),m 15 (.pick (t 12) (t 14) Bf)]<|
  .cond (t 15) (Rg [m 4 (.newRow 0 27),m 5 (.mov (Ci 1))]<|
  .ret) (.skip))<|
  Rg [m 6 (.newRow 1 27)]<|
  .seq (.block 0<|.loop<|.seq (Rg [Mv 16 0,m 17 (.len (t 16)),m 18 (.bin .gtr .num (t 17) (.c q))]<|
  .cond (t 18) (.skip) (.exit 0))<|
  .block 1<|Rg [Mv 20 0,Mv 21 1,m 22 (.call false 261 [(t 20),(t 21)]),Mv 19 22,m 23 (.extract 0 (t 19)),m 24 (.extract 1 (t 19)),m 25 (.extract 2 (t 19)),m 7 (.alloc 2 [o,o,o,o,o,o,o,o,q,o,o,o,o,o,o,o,o,o,o,o,o,o,o,o,o,q,q]),e (.store 27 (t 7) (t 23)),Mv 8 24,Mv 9 25]<|
  .seq (Rg [Mv 26 9,m 27 (.bin .neq .num (t 26) (.c q))]<|
  .cond (t 27) (Rg [Mv 28 9,m 4 (.newRow 0 27),Mv 5 28]<|
  .ret) (.skip))<|
  .dreg [(Mv 29 6,[]),(m 30 (Ls 27 7),[]),(m 31 (.buildSlice 3 27 1 [o,o,o,o,o,o,o,o,q,o,o,o,o,o,o,o,o,o,o,o,o,o,o,o,o,q,q] [(0,(t 30))]),[1]),(m 32 (.append 4 27 48 (t 29) (t 31)),[0,2]),(Mv 33 0,[]),(Mv 34 8,[]),(m 35 (.slice 1 (t 33) (some (t 34)) none),[4,5]),(Mv 6 32,[3,3,0,1,2,3]),(Mv 0 35,[6,7,0,1,2,3,4,5,6,7])] [(2,0),(1,1),(2,4),(2,5),(2,6),(0,2),(0,3),(2,7),(2,8)] [0,0,2,7,0,0,48,15,255])<|
  Rg [Mv 36 6,Mv 4 36,m 5 (.mov (.c q))]<|
  .ret
def vf240:VFun:=⟨37,5,vb240,[.tmp 4,.tmp 5],false⟩
theorem cf240:cFun Tryz.prog rawF false Tryz.f240=some vf240:=by kernel_rfl
theorem T240 (h:HT σ args Post vb240 vf240 [dd,dd,dd,dd,dd]) (hl:args.length≤37:=by exact zB rfl):T Tryz.prog 240 args σ Post:=T.walk Tryz.func240 cf240 hl rfl h
@[reducible] def vb273:VC:=
  Rg [m 4 (.newRow 0 1),m 5 (.mov (.c q))]<|
  .seq (Rg [Mv 7 0,m 8 (.bin .lss .num (t 7) (.c q)),Mv 9 8,Gf 10 9 (.mov (t 0)),Gf 11 9 (.bin .gtr .num (t 10) (Ci 1048575)),m 12 (.pick (t 9) Bt (t 11))]<|
  .cond (t 12) (Rg [m 4 (.newRow 0 1),m 5 (.mov (Ci 5))]<|
  .ret) (.skip))<|
  Rg [Mv 13 0,m 14 (.bin .shl .num (t 13) (.c (.int .u64 4))),Mv 6 14]<|
  .seq (Rg [Mv 15 1]<|
  .cond (t 15) (.region [Mv 16 6,m 17 (.bin .or .num (t 16) (Ci 1)),Mv 6 17]) (.skip))<|
  Rg [Mv 18 6,m 19 (.call false 147 [(.c .nils),(t 18),(Ci 3)]),m 20 (.extract 0 (t 19)),m 21 (.extract 1 (t 19)),Mv 4 20,Mv 5 21]<|
  .ret
def vf273:VFun:=⟨22,1,vb273,[.tmp 4,.tmp 5],false⟩
theorem cf273:cFun Tryz.prog rawF false Tryz.f273=some vf273:=by kernel_rfl
theorem T273 (h:HT σ args Post vb273 vf273 [dd]) (hl:args.length≤22:=by exact zB rfl):T Tryz.prog 273 args σ Post:=T.walk Tryz.func273 cf273 hl rfl h
@[reducible] def vb274:VC:=
  Rg [m 2 (.mov (.c q))]<|
  Rg [Mv 3 0,m 4 (.bin .add .num (t 3) (Ci 7)),m 5 (.bin .quo .num (t 4) (Ci 8)),Mv 2 5]<|
  .ret
def vf274:VFun:=⟨6,0,vb274,[.tmp 2],false⟩
theorem cf274:cFun Tryz.prog rawF false Tryz.f274=some vf274:=by kernel_rfl
theorem T274 (h:HT σ args Post vb274 vf274 []) (hl:args.length≤6:=by exact zB rfl):T Tryz.prog 274 args σ Post:=T.walk Tryz.func274 cf274 hl rfl h
@[reducible] def vb52:VC:=
  Rg [m 2 (.mov (.c .nilp))]<|
  Rg [Mv 3 0,m 4 (.call false 103 [(t 3)]),m 5 (.build [.nils,(.bool false)] [(0,1,(t 4))]),m 6 (.build [.nils,(.bool false)] [(0,2,(t 5))]),m 7 (.box 0 (t 6)),Mv 2 7]<|
  .ret
def vf52:VFun:=⟨8,1,vb52,[.tmp 2],false⟩
theorem cf52:cFun Tryz.prog rawF false Tryz.f52=some vf52:=by kernel_rfl
theorem T52 (h:vrun Tryz.prog σ.length vb52 (argsEnv args) (σ++[dd]) (vend vf52 Post)) (hl:args.length≤8:=by exact zB rfl):T Tryz.prog 52 args σ Post:=T.walkR Tryz.func52 cf52 hl rfl h
@[reducible] def vb54:VC:=
  Rg [m 4 (.mov (.c q))]<|
  .seq (Rg [Mv 8 1,m 9 (.bin .lss .num (t 8) (Ci 1)),Mv 10 9,Gf 11 10 (.mov (t 1)),Gf 12 10 (.bin .gtr .num (t 11) (Ci 4)),m 13 (.pick (t 10) Bt (t 12))]<|
  .cond (t 13) (.region [m 1 (.mov (.c (i (-1))))]) (.skip))<|
  Rg [m 5 (.mov (.c q))]<|
  .seq (Rg [Mv 14 0,m 15 (.nilCheck (t 14)),m 16 (Fl 0 15),Mv 17 1,m 18 (.call false 104 [(t 16),(t 17)]),m 19 (.len (t 18)),m 20 (.mov (.c q))]<|
  .block 0<|.loop<|Rg [m 21 (.bin .lss .num (t 20) (t 19))]<|
  .seq (.cond (t 21) (.skip) (.exit 0))<|
  .seq (.block 1<|Rg [m 22 (.index 1 (t 18) (t 20)),m 23 (Ld 22),Mv 7 23]<|
  .region [Mv 24 5,m 25 (.bin .shl .num (t 24) (.c (.int .u64 8))),Mv 26 7,m 27 (.convInt .i64 (t 26)),m 28 (.bin .or .num (t 25) (t 27)),Mv 5 28])<|
  .region [m 29 (.bin .add .num (t 20) (Ci 1)),Mv 20 29])<|
  Rg [Mv 30 5,Mv 4 30]<|
  .ret
def vf54:VFun:=⟨31,0,vb54,[.tmp 4],false⟩
theorem cf54:cFun Tryz.prog rawF false Tryz.f54=some vf54:=by kernel_rfl
theorem T54 (h:HT σ args Post vb54 vf54 []) (hl:args.length≤31:=by exact zB rfl):T Tryz.prog 54 args σ Post:=T.walk Tryz.func54 cf54 hl rfl h
@[reducible] def vb275:VC:=
  Rg [m 4 (.mov (.c .nilp))]<|
  Rg [Mv 6 0,Mv 7 1,m 8 (.call false 123 [(t 6),(t 7)]),Mv 5 8]<|
  Rg [Mv 9 5,Mv 10 0,m 11 (.nilCheck (t 10)),m 12 (Fl 0 11),m 13 (Fl 1 12),m 14 (Ld 13),m 15 (.build [.nils,(.bool false)] [(0,1,(t 9)),(1,1,(t 14))]),m 16 (.build [.nils,(.bool false)] [(0,2,(t 15))]),m 17 (.box 0 (t 16)),Mv 4 17]<|
  .ret
def vf275:VFun:=⟨18,1,vb275,[.tmp 4],false⟩
theorem cf275:cFun Tryz.prog rawF false Tryz.f275=some vf275:=by kernel_rfl
theorem T275 (h:vrun Tryz.prog σ.length vb275 (argsEnv args) (σ++[dd]) (vend vf275 Post)) (hl:args.length≤18:=by exact zB rfl):T Tryz.prog 275 args σ Post:=T.walkR Tryz.func275 cf275 hl rfl h
@[reducible] def vb276:VC:=
  Rg [m 2 (.mov Bf)]<|
  Rg [Mv 3 0,m 4 (.nilCheck (t 3)),m 5 (Fl 1 4),m 6 (Ld 5),Mv 2 6]<|
  .ret
def vf276:VFun:=⟨7,0,vb276,[.tmp 2],false⟩
theorem cf276:cFun Tryz.prog rawF false Tryz.f276=some vf276:=by kernel_rfl
theorem T276 (h:HT σ args Post vb276 vf276 []) (hl:args.length≤7:=by exact zB rfl):T Tryz.prog 276 args σ Post:=T.walk Tryz.func276 cf276 hl rfl h
@[reducible] def vb279:VC:=
  Rg [m 2 (.mov (.c q)),m 3 (.mov Bf),m 4 (.mov (.c q))]<|
  Rg [Mv 6 0,m 7 (.call false 52 [(t 6)]),m 8 (.call false 54 [(t 7),(Ci 3)]),Mv 5 8]<|
  .seq (Rg [Mv 9 0,m 10 (.len (t 9)),m 11 (.bin .neq .num (t 10) (Ci 3)),Mv 12 11,Gf 13 12 (.mov (t 5)),Gf 14 12 (.bin .and .num (t 13) (Ci 15)),Gf 15 12 (.bin .gtr .num (t 14) (Ci 1)),m 16 (.pick (t 12) Bt (t 15))]<|
  .cond (t 16) (Rg [m 2 (.mov (.c q)),m 3 (.mov Bf),m 4 (.mov (Ci 4))]<|
  .ret) (.skip))<|
  Rg [Mv 17 5,m 18 (.bin .shr .num (t 17) (.c (.int .u64 4))),Mv 19 5,m 20 (.bin .and .num (t 19) (Ci 1)),m 21 (.bin .eql .num (t 20) (Ci 1)),Mv 2 18,Mv 3 21,m 4 (.mov (.c q))]<|
  .ret
def vf279:VFun:=⟨22,0,vb279,[.tmp 2,.tmp 3,.tmp 4],false⟩
theorem cf279:cFun Tryz.prog rawF false Tryz.f279=some vf279:=by kernel_rfl
theorem T279 (h:HT σ args Post vb279 vf279 []) (hl:args.length≤22:=by exact zB rfl):T Tryz.prog 279 args σ Post:=T.walk Tryz.func279 cf279 hl rfl h
@[reducible] def vb123:VC:=
  Rg [m 4 (.newRow 0 1)]<|
  Rg [Mv 5 0,m 6 (.nilCheck (t 5)),m 7 (Fl 0 6),Mv 8 1,m 9 (.call false 104 [(t 7),(t 8)]),m 10 (.call false 103 [(t 9)]),Mv 4 10]<|
  .ret
def vf123:VFun:=⟨11,1,vb123,[.tmp 4],false⟩
theorem cf123:cFun Tryz.prog rawF false Tryz.f123=some vf123:=by kernel_rfl
theorem T123 (h:HT σ args Post vb123 vf123 [dd]) (hl:args.length≤11:=by exact zB rfl):T Tryz.prog 123 args σ Post:=T.walk Tryz.func123 cf123 hl rfl h
@[reducible] def vb128:VC:=
  Rg [m 2 (.mov (.c q))]<|
  .seq (Rg [Mv 3 0,m 4 (.nilCheck (t 3)),m 5 (Fl 1 4),m 6 (Ld 5)]<|
  .cond (t 6) (Rg [m 2 (.mov (.c q))]<|
  .ret) (.skip))<|
  Rg [Mv 7 0,m 8 (.nilCheck (t 7)),m 9 (Fl 0 8),m 10 (Ld 9),m 11 (.len (t 10)),Mv 2 11]<|
  .ret
def vf128:VFun:=⟨12,0,vb128,[.tmp 2],false⟩
theorem cf128:cFun Tryz.prog rawF false Tryz.f128=some vf128:=by kernel_rfl
theorem T128 (h:HT σ args Post vb128 vf128 []) (hl:args.length≤12:=by exact zB rfl):T Tryz.prog 128 args σ Post:=T.walk Tryz.func128 cf128 hl rfl h
@[reducible] def vb258:VC:=
  Rg [m 4 (.mov Bf)]<|
  Rg [Mv 5 0,m 6 (.b2s (t 5)),Mv 7 1,m 8 (.b2s (t 7)),m 9 (.bin .eql .num (t 6) (t 8)),Mv 4 9]<|
  .ret
def vf258:VFun:=⟨10,0,vb258,[.tmp 4],false⟩
theorem cf258:cFun Tryz.prog rawF false Tryz.f258=some vf258:=by kernel_rfl
theorem T258 (h:HT σ args Post vb258 vf258 []) (hl:args.length≤10:=by exact zB rfl):T Tryz.prog 258 args σ Post:=T.walk Tryz.func258 cf258 hl rfl h
@[reducible] def vb282:VC:=
  Rg [m 1 (.box 0 (t 0)),m 2 (.mov (.c (.str [])))]<|
  .seq (Rg [m 3 (Ls 18 1),m 4 (.call false 155 [(t 3)]),m 5 (.un .not (t 4))]<|
  .cond (t 5) (Rg [m 2 (.mov (.c (.str [])))]<|
  .ret) (.skip))<|
  .seq (.dreg [(m 6 (Fl 0 1),[]),(m 7 (Ls 17 6),[0]),(m 8 (.call false 84 [(t 7)]),[1]),(m 9 (.bin .add .num (t 8) (.c (.str [47]))),[2]),(m 10 (Fl 17 1),[]),(m 11 (Ld 10),[4]),(m 12 (.call false 85 [(t 11)]),[5,2]),(m 13 (.bin .add .num (t 9) (t 12)),[3,6]),(Mv 2 13,[7,6,0,1,2,3,4,5,6,7])] [(1,0),(1,1),(1,2),(2,3),(1,4),(1,5),(1,6),(2,7),(2,8)] [0,1,3,7,0,16,55,127,255])<|
  .ret
def vf282:VFun:=⟨14,1,vb282,[.tmp 2],false⟩
theorem cf282:cFun Tryz.prog rawF false Tryz.f282=some vf282:=by kernel_rfl
theorem T282 (h:HT σ args Post vb282 vf282 [dd]) (hl:args.length≤14:=by exact zB rfl):T Tryz.prog 282 args σ Post:=T.walk Tryz.func282 cf282 hl rfl h
@[reducible] def vb147:VC:=
  Rg [m 6 (.newRow 0 1),m 7 (.mov (.c q))]<|
  .seq (.block 0<|Rg [Mv 11 2,m 12 (.bin .lss .num (t 11) (Ci 1)),Mv 13 12,Gf 14 13 (.mov (t 2)),Gf 15 13 (.bin .gtr .num (t 14) (Ci 4)),m 16 (.pick (t 13) Bt (t 15)),Mv 10 16]<|
  .cond (t 10) (Rg [m 6 (.newRow 0 1),m 7 (.mov (Ci 1))]<|
  .ret) (Rg [Mv 18 1,m 19 (.bin .lss .num (t 18) (.c q)),Mv 20 19,Gf 21 20 (.mov (t 1)),Gf 22 20 (.mov (t 2)),Gf 23 20 (.bin .mul .num (Ci 8) (t 22)),Gf 24 20 (.bin .shr .num (t 21) (t 23)),Gf 25 20 (.bin .neq .num (t 24) (.c q)),m 26 (.pick (t 20) Bt (t 25)),Mv 17 26]<|
  .cond (t 17) (Rg [m 6 (.newRow 0 1),m 7 (.mov (Ci 5))]<|
  .ret) (.skip)))<|
  Rg [Mv 27 0,m 28 (.call false 103 [(t 27)]),Mv 8 28]<|
  .seq (Rg [Mv 29 2,m 30 (.bin .sub .num (t 29) (Ci 1)),m 31 (.bin .mul .num (Ci 8) (t 30)),Mv 9 31]<|
  .block 1<|.loop<|.seq (Rg [Mv 32 9,m 33 (.bin .geq .num (t 32) (.c q))]<|
  .cond (t 33) (.skip) (.exit 1))<|
  .seq (.block 2<|.region [Mv 36 8,Mv 37 1,Mv 38 9,m 39 (.bin .shr .num (t 37) (t 38)),m 40 (.convInt .u8 (t 39)),m 41 (.buildSlice 1 1 1 [o] [(0,(t 40))]),m 42 (.append 2 1 1 (t 36) (t 41)),Mv 8 42])<|
  .region [Mv 34 9,m 35 (.bin .sub .num (t 34) (Ci 8)),Mv 9 35])<|
  Rg [Mv 43 8,Mv 6 43,m 7 (.mov (.c q))]<|
  .ret
def vf147:VFun:=⟨44,3,vb147,[.tmp 6,.tmp 7],false⟩
theorem cf147:cFun Tryz.prog rawF false Tryz.f147=some vf147:=by kernel_rfl
theorem T147 (h:HT σ args Post vb147 vf147 [dd,dd,dd]) (hl:args.length≤44:=by exact zB rfl):T Tryz.prog 147 args σ Post:=T.walk Tryz.func147 cf147 hl rfl h
@[reducible] def vb53:VC:=
  Rg [m 1 (.box 0 (t 0)),m 2 (.newRow 1 1)]<|
  .seq (Rg [m 3 (Ls 17 1),m 4 (.call false 50 [(t 3)]),m 5 (.un .not (t 4))]<|
  .cond (t 5) (Rg [m 2 (.newRow 1 1)]<|
  .ret) (.skip))<|
  Rg [m 6 (Fl 1 1),m 7 (Fl 0 1),m 8 (Ld 7),m 9 (.sliceArr 16 1 (t 6) none (some (t 8))),m 10 (.call false 103 [(t 9)]),Mv 2 10]<|
  .ret
def vf53:VFun:=⟨11,2,vb53,[.tmp 2],false⟩
theorem cf53:cFun Tryz.prog rawF false Tryz.f53=some vf53:=by kernel_rfl
theorem T53 (h:HT σ args Post vb53 vf53 [dd,dd]) (hl:args.length≤11:=by exact zB rfl):T Tryz.prog 53 args σ Post:=T.walk Tryz.func53 cf53 hl rfl h
@[reducible] def vb84:VC:=
  Rg [m 1 (.box 0 (t 0)),m 2 (.mov (.c (.str [])))]<|
  .seq (Rg [m 6 (Ls 17 1),m 7 (.call false 50 [(t 6)]),m 8 (.un .not (t 7))]<|
  .cond (t 8) (Rg [m 2 (.mov (.c (.str [])))]<|
  .ret) (.skip))<|
  .seq (Rg [m 9 (Fl 0 1),m 10 (Ld 9)]<|
  .block 0<|Rg [m 12 (.bin .eql .num (t 10) (Ci 4)),Mv 11 12]<|
  .cond (t 11) (Rg [m 3 (.newRow 1 1)]<|
  .seq (Rg [m 13 (Fl 1 1),m 14 (.sliceArr 16 1 (t 13) none (some (Ci 4))),m 15 (.len (t 14)),m 16 (.mov (.c q))]<|
  .block 1<|.loop<|Rg [m 17 (.bin .lss .num (t 16) (t 15))]<|
  .seq (.cond (t 17) (.skip) (.exit 1))<|
  .seq (.block 2<|Rg [m 18 (.index 1 (t 14) (t 16)),m 19 (Ld 18),Mv 5 19]<|
  .region [Mv 20 3,Mv 21 5,m 22 (.convInt .i64 (t 21)),m 23 (.call false 85 [(t 22)]),m 24 (.buildSlice 2 1 1 [(.str [])] [(0,(t 23))]),m 25 (.append 3 1 16 (t 20) (t 24)),Mv 3 25])<|
  .region [m 26 (.bin .add .num (t 16) (Ci 1)),Mv 16 26])<|
  Rg [Mv 27 3,m 28 (.call false 124 [(t 27),(.c (.str [46]))]),Mv 2 28]<|
  .ret) (Rg [m 30 (.bin .eql .num (t 10) (Ci 16)),Mv 29 30]<|
  .cond (t 29) (Rg [m 31 (Ls 17 1),m 32 (.call false 125 [(t 31)]),Mv 2 32]<|
  .ret) (.skip)))<|
  Rg [m 2 (.mov (.c (.str [])))]<|
  .ret
def vf84:VFun:=⟨33,4,vb84,[.tmp 2],false⟩
theorem cf84:cFun Tryz.prog rawF false Tryz.f84=some vf84:=by kernel_rfl
theorem T84 (h:HT σ args Post vb84 vf84 [dd,dd,dd,dd]) (hl:args.length≤33:=by exact zB rfl):T Tryz.prog 84 args σ Post:=T.walk Tryz.func84 cf84 hl rfl h
@[reducible] def vb103:VC:=
  Rg [m 2 (.newRow 0 1)]<|
  .seq (Rg [Mv 3 0,m 4 (.bin .eql .slice (t 3) (.c .nils))]<|
  .cond (t 4) (Rg [m 2 (.newRow 0 1)]<|
  .ret) (.skip))<|
  Rg [m 5 (.buildSlice 1 1 0 [o] []),Mv 6 0,m 7 (.append 2 1 1 (t 5) (t 6)),Mv 2 7]<|
  .ret
def vf103:VFun:=⟨8,3,vb103,[.tmp 2],false⟩
theorem cf103:cFun Tryz.prog rawF false Tryz.f103=some vf103:=by kernel_rfl
theorem T103 (h:HT σ args Post vb103 vf103 [dd,dd,dd]) (hl:args.length≤8:=by exact zB rfl):T Tryz.prog 103 args σ Post:=T.walk Tryz.func103 cf103 hl rfl h
@[reducible] def vb104:VC:=
  Rg [m 4 (.newRow 0 1)]<|
  .seq (Rg [Mv 6 0,m 7 (.nilCheck (t 6)),m 8 (Fl 1 7),m 9 (Ld 8),Mv 10 9,Gf 11 10 (.mov (t 1)),Gf 12 10 (.bin .lss .num (t 11) (.c q)),m 13 (.pick (t 10) Bt (t 12)),Mv 14 13,Gf 15 14 (.mov (t 1)),Gf 16 14 (.mov (t 0)),Gf 17 14 (.nilCheck (t 16)),Gf 18 14 (Fl 0 17),Gf 19 14 (Ld 18),Gf 20 14 (.len (t 19)),Gf 21 14 (.bin .gtr .num (t 15) (t 20)),m 22 (.pick (t 14) Bt (t 21))]<|
  .cond (t 22) (Rg [Mv 23 0,m 24 (.nilCheck (t 23)),m 25 (Fl 1 24),e (.store 1 (t 25) Bt)]<|
  Rg [m 4 (.newRow 0 1)]<|
  .ret) (.skip))<|
  Rg [Mv 26 0,m 27 (.nilCheck (t 26)),m 28 (Fl 0 27),m 29 (Ld 28),Mv 30 1,m 31 (.slice 1 (t 29) none (some (t 30))),Mv 5 31]<|
  Rg [Mv 32 0,Mv 33 0,m 34 (.nilCheck (t 33)),m 35 (Fl 0 34),m 36 (Ld 35),Mv 37 1,m 38 (.slice 1 (t 36) (some (t 37)) none),m 39 (.nilCheck (t 32)),m 40 (Fl 0 39),e (.store 1 (t 40) (t 38))]<|
  Rg [Mv 41 5,Mv 4 41]<|
  .ret
def vf104:VFun:=⟨42,1,vb104,[.tmp 4],false⟩
theorem cf104:cFun Tryz.prog rawF false Tryz.f104=some vf104:=by kernel_rfl
theorem T104 (h:HT σ args Post vb104 vf104 [dd]) (hl:args.length≤42:=by exact zB rfl):T Tryz.prog 104 args σ Post:=T.walk Tryz.func104 cf104 hl rfl h
@[reducible] def vb155:VC:=
  Rg [m 1 (.box 0 (t 0)),m 2 (.mov Bf)]<|
  Rg [m 6 (Fl 0 1),m 7 (Ls 17 6),m 8 (Fl 17 1),m 9 (Ld 8),m 10 (.call false 194 [(t 7),(t 9)]),Mv 5 10,m 11 (.extract 0 (t 5)),m 12 (.extract 1 (t 5)),m 3 (.alloc 1 [q,o,o,o,o,o,o,o,o,o,o,o,o,o,o,o,o,q]),e (.store 18 (t 3) (t 11)),Mv 4 12]<|
  Rg [Mv 13 4,m 14 (.bin .eql .num (t 13) (.c q)),Mv 15 14,Gt 16 15 (Ls 18 3),Gt 17 15 (Ls 18 1),Gt 18 15 (.eqAgg [(.i .i64),(.i .u8),(.i .u8),(.i .u8),(.i .u8),(.i .u8),(.i .u8),(.i .u8),(.i .u8),(.i .u8),(.i .u8),(.i .u8),(.i .u8),(.i .u8),(.i .u8),(.i .u8),(.i .u8),(.i .i64)] false (t 16) (t 17)),m 19 (.pick (t 15) (t 18) Bf),Mv 2 19]<|
  .ret
def vf155:VFun:=⟨20,2,vb155,[.tmp 2],false⟩
theorem cf155:cFun Tryz.prog rawF false Tryz.f155=some vf155:=by kernel_rfl
theorem T155 (h:HT σ args Post vb155 vf155 [dd,dd]) (hl:args.length≤20:=by exact zB rfl):T Tryz.prog 155 args σ Post:=T.walk Tryz.func155 cf155 hl rfl h
@[reducible] def vb50:VC:=
  Rg [m 1 (.box 0 (t 0)),m 2 (.mov Bf)]<|
  .seq (Rg [m 3 (Fl 0 1),m 4 (Ld 3)]<|
  .block 0<|.seq (Rg [m 6 (.bin .eql .num (t 4) (.c q)),Mv 5 6]<|
  .cond (t 5) (.skip) (Rg [m 7 (.bin .eql .num (t 4) (Ci 4)),Mv 5 7]<|
  .cond (t 5) (.skip) (.region [m 8 (.bin .eql .num (t 4) (Ci 16)),Mv 5 8])))<|
  .cond (t 5) (Rg [m 9 (Fl 1 1),m 10 (Fl 0 1),m 11 (Ld 10),m 12 (.sliceArr 16 1 (t 9) (some (t 11)) none),m 13 (.call false 100 [(t 12),(.c (.str [0]))]),m 14 (.len (t 13)),m 15 (.bin .eql .num (t 14) (.c q)),Mv 2 15]<|
  .ret) (.skip))<|
  Rg [m 2 (.mov Bf)]<|
  .ret
def vf50:VFun:=⟨16,1,vb50,[.tmp 2],false⟩
theorem cf50:cFun Tryz.prog rawF false Tryz.f50=some vf50:=by kernel_rfl
theorem T50 (h:HT σ args Post vb50 vf50 [dd]) (hl:args.length≤16:=by exact zB rfl):T Tryz.prog 50 args σ Post:=T.walk Tryz.func50 cf50 hl rfl h
@[reducible] def vb90:VC:=
  Rg [m 1 (.box 0 (t 0)),m 2 (.mov Bf)]<|
  .seq (.block 0<|Rg [m 4 (Ls 17 1),m 5 (.call false 50 [(t 4)]),m 6 (.un .not (t 5)),Mv 3 6]<|
  .cond (t 3) (Rg [m 2 (.mov Bf)]<|
  .ret) (Rg [m 8 (Fl 0 1),m 9 (Ld 8),m 10 (.bin .eql .num (t 9) (Ci 4)),Mv 7 10]<|
  .cond (t 7) (Rg [m 11 (Fl 1 1),m 12 (.indexArr 16 1 (t 11) (.c q)),m 13 (Ld 12),m 14 (.bin .shr .num (t 13) (.c (.int .u64 4))),m 15 (.bin .eql .num (t 14) (.c (b 14))),Mv 2 15]<|
  .ret) (.skip)))<|
  Rg [m 16 (Fl 0 1),m 17 (Ld 16),m 18 (.bin .eql .num (t 17) (Ci 16)),Mv 19 18,Gt 20 19 (Fl 1 1),Gt 21 19 (.indexArr 16 1 (t 20) (.c q)),Gt 22 19 (Ld 21),Gt 23 19 (.bin .eql .num (t 22) (.c (b 255))),m 24 (.pick (t 19) (t 23) Bf),Mv 2 24]<|
  .ret
def vf90:VFun:=⟨25,1,vb90,[.tmp 2],false⟩
theorem cf90:cFun Tryz.prog rawF false Tryz.f90=some vf90:=by kernel_rfl
theorem T90 (h:HT σ args Post vb90 vf90 [dd]) (hl:args.length≤25:=by exact zB rfl):T Tryz.prog 90 args σ Post:=T.walk Tryz.func90 cf90 hl rfl h
@[reducible] def vb121:VC:=
  Rg [m 2 (.alloc 0 [q,o,o,o,o,o,o,o,o,o,o,o,o,o,o,o,o]),m 3 (.mov (.c q))]<|
  .seq (Rg [Mv 5 0,m 6 (.len (t 5))]<|
  .block 0<|.seq (Rg [m 8 (.bin .eql .num (t 6) (.c q)),Mv 7 8]<|
  .cond (t 7) (.skip) (Rg [m 9 (.bin .eql .num (t 6) (Ci 4)),Mv 7 9]<|
  .cond (t 7) (.skip) (.region [m 10 (.bin .eql .num (t 6) (Ci 16)),Mv 7 10])))<|
  .cond (t 7) (Rg [Mv 11 0,m 12 (.len (t 11)),m 13 (.build [q,o,o,o,o,o,o,o,o,o,o,o,o,o,o,o,o] [(0,1,(t 12))]),m 4 (.alloc 1 [q,o,o,o,o,o,o,o,o,o,o,o,o,o,o,o,o]),e (.store 17 (t 4) (t 13))]<|
  Rg [m 14 (Fl 1 4),m 15 (.sliceArr 16 1 (t 14) none none),Mv 16 0,m 17 (.copyTo 1 (t 15) (t 16))]<|
  Rg [m 18 (Ls 17 4),e (.store 17 (t 2) (t 18)),m 3 (.mov (.c q))]<|
  .ret) (.skip))<|
  Rg [m 19 (.build [q,o,o,o,o,o,o,o,o,o,o,o,o,o,o,o,o] []),e (.store 17 (t 2) (t 19)),m 3 (.mov (Ci 1))]<|
  .ret
def vf121:VFun:=⟨20,2,vb121,[.cell 2 (some 17),.tmp 3],false⟩
theorem cf121:cFun Tryz.prog rawF false Tryz.f121=some vf121:=by kernel_rfl
theorem T121 (h:HT σ args Post vb121 vf121 [dd,dd]) (hl:args.length≤20:=by exact zB rfl):T Tryz.prog 121 args σ Post:=T.walk Tryz.func121 cf121 hl rfl h
@[reducible] def vb125:VC:=
  Rg [m 1 (.box 0 (t 0)),m 2 (.mov (.c (.str [])))]<|
  Rg [m 6 (Ls 17 1),m 7 (.call false 174 [(t 6)]),m 3 (.alloc 1 [q,q,q,q,q,q,q,q]),e (.store 8 (t 3) (t 7))]<|
  Rg [m 9 (Ls 8 3),m 10 (.call false 175 [(t 9)]),Mv 8 10,m 11 (.extract 0 (t 8)),m 12 (.extract 1 (t 8)),Mv 4 11,Mv 5 12]<|
  .seq (Rg [Mv 13 5,m 14 (.bin .lss .num (t 13) (Ci 2))]<|
  .cond (t 14) (Rg [m 15 (.sliceArr 8 1 (t 3) none none),m 16 (.call false 176 [(t 15)]),Mv 2 16]<|
  .ret) (.skip))<|
  .seq (.dreg [(Mv 17 4,[]),(m 18 (.sliceArr 8 1 (t 3) none (some (t 17))),[0]),(m 19 (.call false 176 [(t 18)]),[1]),(m 20 (.bin .add .num (t 19) (.c (.str [58,58]))),[2]),(Mv 21 4,[]),(Mv 22 5,[]),(m 23 (.bin .add .num (t 21) (t 22)),[4,5]),(m 24 (.sliceArr 8 1 (t 3) (some (t 23)) none),[6]),(m 25 (.call false 176 [(t 24)]),[7,2]),(m 26 (.bin .add .num (t 20) (t 25)),[3,8]),(Mv 2 26,[9,8,0,1,2,3,4,5,6,7,8,9])] [(2,0),(1,1),(1,2),(2,3),(2,4),(2,5),(2,6),(1,7),(1,8),(2,9),(2,10)] [0,1,3,7,0,0,48,112,247,511,1023])<|
  .ret
def vf125:VFun:=⟨27,2,vb125,[.tmp 2],false⟩
theorem cf125:cFun Tryz.prog rawF false Tryz.f125=some vf125:=by kernel_rfl
theorem T125 (h:HT σ args Post vb125 vf125 [dd,dd]) (hl:args.length≤27:=by exact zB rfl):T Tryz.prog 125 args σ Post:=T.walk Tryz.func125 cf125 hl rfl h
@[reducible] def vb194:VC:=
  Rg [m 2 (.box 0 (t 0)),m 4 (.alloc 1 [q,o,o,o,o,o,o,o,o,o,o,o,o,o,o,o,o,q]),m 5 (.mov (.c q))]<|
  .seq (Rg [m 6 (Ls 17 2),m 7 (.call false 50 [(t 6)]),m 8 (.un .not (t 7)),Mv 9 8,Gf 10 9 (Fl 0 2),Gf 11 9 (Ld 10),Gf 12 9 (.bin .eql .num (t 11) (.c q)),m 13 (.pick (t 9) Bt (t 12)),Mv 14 13,Gf 15 14 (.mov (t 1)),Gf 16 14 (.bin .lss .num (t 15) (.c q)),m 17 (.pick (t 14) Bt (t 16)),Mv 18 17,Gf 19 18 (.mov (t 1)),Gf 20 18 (Fl 0 2),Gf 21 18 (Ld 20),Gf 22 18 (.bin .mul .num (Ci 8) (t 21)),Gf 23 18 (.bin .gtr .num (t 19) (t 22)),m 24 (.pick (t 18) Bt (t 23))]<|
  .cond (t 24) (Rg [m 25 (.build [q,o,o,o,o,o,o,o,o,o,o,o,o,o,o,o,o,q] []),e (.store 18 (t 4) (t 25)),m 5 (.mov (Ci 1))]<|
  .ret) (.skip))<|
  Rg [m 26 (Ls 17 2),Mv 27 1,m 28 (.call false 156 [(t 26),(t 27)]),Mv 29 1,m 30 (.build [q,o,o,o,o,o,o,o,o,o,o,o,o,o,o,o,o,q] [(0,17,(t 28)),(17,1,(t 29))]),e (.store 18 (t 4) (t 30)),m 5 (.mov (.c q))]<|
  .ret
def vf194:VFun:=⟨31,2,vb194,[.cell 4 (some 18),.tmp 5],false⟩
theorem cf194:cFun Tryz.prog rawF false Tryz.f194=some vf194:=by kernel_rfl
theorem T194 (h:HT σ args Post vb194 vf194 [dd,dd]) (hl:args.length≤31:=by exact zB rfl):T Tryz.prog 194 args σ Post:=T.walk Tryz.func194 cf194 hl rfl h
@[reducible] def vb100:VC:=
  Rg [m 4 (.newRow 0 1)]<|
  .seq (Rg [Mv 7 0,m 8 (.len (t 7)),m 9 (.bin .eql .num (t 8) (.c q))]<|
  .cond (t 9) (Rg [m 4 (.newRow 0 1)]<|
  .ret) (.skip))<|
  .seq (Rg [Mv 10 1,m 11 (.bin .eql .num (t 10) (.c (.str [])))]<|
  .cond (t 11) (Rg [Mv 12 0,Mv 4 12]<|
  .ret) (.skip))<|
  .seq (Rg [Mv 13 1,m 14 (.lenStr (t 13)),m 15 (.bin .eql .num (t 14) (Ci 1)),Mv 16 15,Gt 17 16 (.mov (t 1)),Gt 18 16 (.indexStr (t 17) (.c q)),Gt 19 16 (.bin .lss .num (t 18) (.c (b 128))),m 20 (.pick (t 16) (t 19) Bf)]<|
  .cond (t 20) (.seq (.dreg [(Mv 21 0,[]),(Mv 22 1,[]),(m 23 (.indexStr (t 22) (.c q)),[1]),(m 24 (.call false 141 [(t 21),(t 23)]),[0,2]),(Mv 25 1,[]),(m 26 (.indexStr (t 25) (.c q)),[4]),(m 27 (.call false 140 [(t 24),(t 26)]),[3,5,3]),(Mv 4 27,[6,6,0,1,2,3,4,5,6])] [(2,0),(2,1),(2,2),(1,3),(2,4),(2,5),(1,6),(2,7)] [0,0,2,7,0,16,63,127])<|
  .ret) (.skip))<|
  .seq (Rg [Mv 29 1,m 30 (.call false 142 [(t 29)]),Mv 28 30,m 31 (.extract 0 (t 28)),m 32 (.extract 1 (t 28)),m 5 (.alloc 1 (List.replicate 256 (.bool false))),e (.store 256 (t 5) (t 31)),Mv 6 32]<|
  Rg [Mv 33 6]<|
  .cond (t 33) (Rg [Mv 34 0,m 35 (.call false 144 [(t 34),(t 5)]),m 36 (.call false 143 [(t 35),(t 5)]),Mv 4 36]<|
  .ret) (.skip))<|
  Rg [Mv 37 0,Mv 38 1,m 39 (.call false 146 [(t 37),(t 38)]),Mv 40 1,m 41 (.call false 145 [(t 39),(t 40)]),Mv 4 41]<|
  .ret
def vf100:VFun:=⟨42,2,vb100,[.tmp 4],false⟩
theorem cf100:cFun Tryz.prog rawF false Tryz.f100=some vf100:=by kernel_rfl
theorem T100 (h:HT σ args Post vb100 vf100 [dd,dd]) (hl:args.length≤42:=by exact zB rfl):T Tryz.prog 100 args σ Post:=T.walk Tryz.func100 cf100 hl rfl h
@[reducible] def vb174:VC:=
  Rg [m 1 (.box 0 (t 0)),m 2 (.alloc 1 [q,q,q,q,q,q,q,q])]<|
  .seq (Rg [m 4 (.mov (.c q))]<|
  .block 0<|.loop<|Rg [m 5 (.bin .lss .num (t 4) (Ci 8))]<|
  .seq (.cond (t 5) (.skip) (.exit 0))<|
  .seq (.block 1<|Rg [Mv 6 4,Mv 3 6]<|
  .dreg [(Mv 7 3,[]),(Mv 8 3,[]),(m 9 (.bin .mul .num (Ci 2) (t 8)),[1]),(m 10 (Fl 1 1),[]),(m 11 (.indexArr 16 1 (t 10) (t 9)),[3,2]),(m 12 (Ld 11),[4]),(m 13 (.convInt .i64 (t 12)),[5]),(m 14 (.bin .shl .num (t 13) (.c (.int .u64 8))),[6]),(Mv 15 3,[]),(m 16 (.bin .mul .num (Ci 2) (t 15)),[8]),(m 17 (.bin .add .num (t 16) (Ci 1)),[9]),(m 18 (Fl 1 1),[]),(m 19 (.indexArr 16 1 (t 18) (t 17)),[11,10]),(m 20 (Ld 19),[12]),(m 21 (.convInt .i64 (t 20)),[13]),(m 22 (.bin .or .num (t 14) (t 21)),[7,14]),(m 23 (.indexArr 8 1 (t 2) (t 7)),[0,0,1,2,3,4,5,6,7,8,9,10,11,12,13,14,15]),(e (.store 1 (t 23) (t 22)),[16,15,0,1,2,3,4,5,6,7,8,9,10,11,12,13,14,15])] [(2,0),(2,1),(2,2),(1,3),(1,4),(1,5),(2,6),(2,7),(2,8),(2,9),(2,10),(1,11),(1,12),(1,13),(2,14),(2,15),(1,16),(0,17)] [0,0,2,0,14,30,62,126,0,256,768,0,3840,7936,16128,32766,65535,131071])<|
  .region [m 24 (.bin .add .num (t 4) (Ci 1)),Mv 4 24])<|
  Rg [m 25 (Ls 8 2),e (.store 8 (t 2) (t 25))]<|
  .ret
def vf174:VFun:=⟨26,2,vb174,[.cell 2 (some 8)],false⟩
theorem cf174:cFun Tryz.prog rawF false Tryz.f174=some vf174:=by kernel_rfl
theorem T174 (h:HT σ args Post vb174 vf174 [dd,dd]) (hl:args.length≤26:=by exact zB rfl):T Tryz.prog 174 args σ Post:=T.walk Tryz.func174 cf174 hl rfl h
@[reducible] def vb175:VC:=
  Rg [m 1 (.box 0 (t 0)),m 2 (.mov (.c q)),m 3 (.mov (.c q))]<|
  .seq (Rg [m 6 (.mov (.c q))]<|
  .block 0<|.loop<|Rg [m 7 (.bin .lss .num (t 6) (Ci 8))]<|
  .seq (.cond (t 7) (.skip) (.exit 0))<|
  .seq (.block 1<|Rg [Mv 8 6,Mv 4 8]<|
  Rg [m 5 (.mov (.c q))]<|
  .seq (.block 2<|.loop<|.seq (Rg [Mv 9 4,Mv 10 5,m 11 (.bin .add .num (t 9) (t 10)),m 12 (.bin .lss .num (t 11) (Ci 8)),Mv 13 12,Gt 14 13 (.mov (t 4)),Gt 15 13 (.mov (t 5)),Gt 16 13 (.bin .add .num (t 14) (t 15)),Gt 17 13 (.indexArr 8 1 (t 1) (t 16)),Gt 18 13 (Ld 17),Gt 19 13 (.bin .eql .num (t 18) (.c q)),m 20 (.pick (t 13) (t 19) Bf)]<|
  .cond (t 20) (.skip) (.exit 2))<|
  .block 3<|.region [Mv 21 5,m 22 (.bin .add .num (t 21) (Ci 1)),Mv 5 22])<|
  Rg [Mv 23 5,Mv 24 3,m 25 (.bin .gtr .num (t 23) (t 24))]<|
  .cond (t 25) (.region [Mv 26 4,Mv 27 5,Mv 2 26,Mv 3 27]) (.skip))<|
  .region [m 28 (.bin .add .num (t 6) (Ci 1)),Mv 6 28])<|
  Rg [Mv 29 2,Mv 30 3,Mv 2 29,Mv 3 30]<|
  .ret
def vf175:VFun:=⟨31,1,vb175,[.tmp 2,.tmp 3],false⟩
theorem cf175:cFun Tryz.prog rawF false Tryz.f175=some vf175:=by kernel_rfl
theorem T175 (h:HT σ args Post vb175 vf175 [dd]) (hl:args.length≤31:=by exact zB rfl):T Tryz.prog 175 args σ Post:=T.walk Tryz.func175 cf175 hl rfl h
@[reducible] def vb176:VC:=
  Rg [m 2 (.mov (.c (.str [])))]<|
  Rg [m 3 (.newRow 0 1)]<|
  .seq (Rg [Mv 6 0,m 7 (.len (t 6)),m 8 (.mov (.c q))]<|
  .block 0<|.loop<|Rg [m 9 (.bin .lss .num (t 8) (t 7))]<|
  .seq (.cond (t 9) (.skip) (.exit 0))<|
  .seq (.block 1<|Rg [m 10 (.index 1 (t 6) (t 8)),m 11 (Ld 10),Mv 5 11]<|
  .region [Mv 12 3,Mv 13 5,m 14 (.call false 223 [(t 13),(Ci 16)]),m 15 (.buildSlice 1 1 1 [(.str [])] [(0,(t 14))]),m 16 (.append 2 1 16 (t 12) (t 15)),Mv 3 16])<|
  .region [m 17 (.bin .add .num (t 8) (Ci 1)),Mv 8 17])<|
  Rg [Mv 18 3,m 19 (.call false 124 [(t 18),(.c (.str [58]))]),Mv 2 19]<|
  .ret
def vf176:VFun:=⟨20,3,vb176,[.tmp 2],false⟩
theorem cf176:cFun Tryz.prog rawF false Tryz.f176=some vf176:=by kernel_rfl
theorem T176 (h:HT σ args Post vb176 vf176 [dd,dd,dd]) (hl:args.length≤20:=by exact zB rfl):T Tryz.prog 176 args σ Post:=T.walk Tryz.func176 cf176 hl rfl h
@[reducible] def vb156:VC:=
  Rg [m 2 (.box 0 (t 0)),m 4 (.alloc 1 [q,o,o,o,o,o,o,o,o,o,o,o,o,o,o,o,o])]<|
  .seq (Rg [m 6 (.mov (.c q))]<|
  .block 0<|.loop<|Rg [m 7 (.bin .lss .num (t 6) (Ci 16))]<|
  .seq (.cond (t 7) (.skip) (.exit 0))<|
  .seq (.block 1<|Rg [Mv 8 6,Mv 5 8]<|
  .dreg [(Mv 9 5,[]),(m 10 (Fl 1 2),[]),(m 11 (.indexArr 16 1 (t 10) (t 9)),[1,0]),(m 12 (Ld 11),[2]),(Mv 13 1,[]),(Mv 14 5,[]),(m 15 (.bin .mul .num (Ci 8) (t 14)),[5]),(m 16 (.bin .sub .num (t 13) (t 15)),[4,6]),(m 17 (.call false 195 [(t 16)]),[7]),(m 18 (.bin .and .num (t 12) (t 17)),[3,8]),(m 19 (Fl 1 2),[]),(m 20 (.indexArr 16 1 (t 19) (t 9)),[10,0,0,1,2,3,4,5,6,7,8,9]),(e (.store 1 (t 20) (t 18)),[11,9,8,0,1,2,3,4,5,6,7,8,9])] [(2,0),(1,1),(1,2),(1,3),(2,4),(2,5),(2,6),(2,7),(1,8),(2,9),(1,10),(1,11),(0,12)] [0,0,3,7,0,0,32,112,240,511,0,2047,4095])<|
  .region [m 21 (.bin .add .num (t 6) (Ci 1)),Mv 6 21])<|
  Rg [m 22 (Ls 17 2),e (.store 17 (t 4) (t 22))]<|
  .ret
def vf156:VFun:=⟨23,2,vb156,[.cell 4 (some 17)],false⟩
theorem cf156:cFun Tryz.prog rawF false Tryz.f156=some vf156:=by kernel_rfl
theorem T156 (h:HT σ args Post vb156 vf156 [dd,dd]) (hl:args.length≤23:=by exact zB rfl):T Tryz.prog 156 args σ Post:=T.walk Tryz.func156 cf156 hl rfl h
@[reducible] def vb140:VC:=
  Rg [m 4 (.newRow 0 1)]<|
  .seq (.block 0<|.loop<|.seq (Rg [Mv 5 0,m 6 (.len (t 5)),m 7 (.bin .gtr .num (t 6) (.c q)),Mv 8 7,Gt 9 8 (.mov (t 0)),Gt 10 8 (.index 1 (t 9) (.c q)),Gt 11 8 (Ld 10),Gt 12 8 (.mov (t 1)),Gt 13 8 (.bin .eql .num (t 11) (t 12)),m 14 (.pick (t 8) (t 13) Bf)]<|
  .cond (t 14) (.skip) (.exit 0))<|
  .block 1<|.region [Mv 15 0,m 16 (.slice 1 (t 15) (some (Ci 1)) none),Mv 0 16])<|
  .seq (Rg [Mv 17 0,m 18 (.len (t 17)),m 19 (.bin .eql .num (t 18) (.c q))]<|
  .cond (t 19) (Rg [m 4 (.newRow 0 1)]<|
  .ret) (.skip))<|
  Rg [Mv 20 0,Mv 4 20]<|
  .ret
def vf140:VFun:=⟨21,1,vb140,[.tmp 4],false⟩
theorem cf140:cFun Tryz.prog rawF false Tryz.f140=some vf140:=by kernel_rfl
theorem T140 (h:HT σ args Post vb140 vf140 [dd]) (hl:args.length≤21:=by exact zB rfl):T Tryz.prog 140 args σ Post:=T.walk Tryz.func140 cf140 hl rfl h
@[reducible] def vb141:VC:=
  Rg [m 4 (.newRow 0 1)]<|
  .seq (.block 0<|.loop<|.seq (Rg [Mv 5 0,m 6 (.len (t 5)),m 7 (.bin .gtr .num (t 6) (.c q)),Mv 8 7,Gt 9 8 (.mov (t 0)),Gt 10 8 (.mov (t 0)),Gt 11 8 (.len (t 10)),Gt 12 8 (.bin .sub .num (t 11) (Ci 1)),Gt 13 8 (.index 1 (t 9) (t 12)),Gt 14 8 (Ld 13),Gt 15 8 (.mov (t 1)),Gt 16 8 (.bin .eql .num (t 14) (t 15)),m 17 (.pick (t 8) (t 16) Bf)]<|
  .cond (t 17) (.skip) (.exit 0))<|
  .block 1<|.region [Mv 18 0,Mv 19 0,m 20 (.len (t 19)),m 21 (.bin .sub .num (t 20) (Ci 1)),m 22 (.slice 1 (t 18) none (some (t 21))),Mv 0 22])<|
  Rg [Mv 23 0,Mv 4 23]<|
  .ret
def vf141:VFun:=⟨24,1,vb141,[.tmp 4],false⟩
theorem cf141:cFun Tryz.prog rawF false Tryz.f141=some vf141:=by kernel_rfl
theorem T141 (h:HT σ args Post vb141 vf141 [dd]) (hl:args.length≤24:=by exact zB rfl):T Tryz.prog 141 args σ Post:=T.walk Tryz.func141 cf141 hl rfl h
@[reducible] def vb195:VC:=
  Rg [m 2 (.mov (.c o))]<|
  .seq (.block 0<|Rg [Mv 4 0,m 5 (.bin .leq .num (t 4) (.c q)),Mv 3 5]<|
  .cond (t 3) (Rg [m 2 (.mov (.c o))]<|
  .ret) (Rg [Mv 7 0,m 8 (.bin .geq .num (t 7) (Ci 8)),Mv 6 8]<|
  .cond (t 6) (Rg [m 2 (.mov (.c (b 255)))]<|
  .ret) (.skip)))<|
  Rg [Mv 9 0,m 10 (.bin .sub .num (Ci 8) (t 9)),m 11 (.bin .shl .num (.c (b 255)) (t 10)),Mv 2 11]<|
  .ret
def vf195:VFun:=⟨12,0,vb195,[.tmp 2],false⟩
theorem cf195:cFun Tryz.prog rawF false Tryz.f195=some vf195:=by kernel_rfl
theorem T195 (h:HT σ args Post vb195 vf195 []) (hl:args.length≤12:=by exact zB rfl):T Tryz.prog 195 args σ Post:=T.walk Tryz.func195 cf195 hl rfl h
@[reducible] def vb29:VC:=
  Rg [m 8 (.alloc 0 [q,o,o,o,o,o,o,o,o,o,o,o,o,o,o,o,o])]<|
  Rg [Mv 9 0,Mv 10 1,Mv 11 2,Mv 12 3,m 13 (.build [o,o,o,o,o,o,o,o,o,o,o,o,o,o,o,o] [(0,1,(t 9)),(1,1,(t 10)),(2,1,(t 11)),(3,1,(t 12))]),m 14 (.build [q,o,o,o,o,o,o,o,o,o,o,o,o,o,o,o,o] [(0,1,(Ci 4)),(1,16,(t 13))]),e (.store 17 (t 8) (t 14))]<|
  .ret
def vf29:VFun:=⟨15,1,vb29,[.cell 8 (some 17)],false⟩
theorem cf29:cFun Tryz.prog rawF false Tryz.f29=some vf29:=by kernel_rfl
end Go.Proofs.YtdpeaefgbmkegaaGreatDoor
