/- Functions of the program, in the small language. -/
import Derived.Test.YtdpeaefgbmkegaaGreatDoorF1
namespace Go.Proofs.YtdpeaefgbmkegaaGreatDoor
open Go Go.V D
variable {args:List PV} {σ:VHeap} {Post:KP}
@[reducible] def vb265:VC:=
  Rg [m 2 (.mov (.c .nilp))]<|
  Rg [m 3 (.buildSlice 0 1 0 [o] []),Mv 4 0,m 5 (.append 1 1 1 (t 3) (t 4)),m 6 (.build [.nils,q,(.bool false)] [(0,1,(t 5))]),m 7 (.box 2 (t 6)),Mv 2 7]<|
  .ret
def vf265:VFun:=⟨8,3,vb265,[.tmp 2],false⟩
theorem cf265:cFun Tryz.prog rawF false Tryz.f265=some vf265:=by kernel_rfl
theorem T265 (h:vrun Tryz.prog σ.length vb265 (argsEnv args) (σ++[dd,dd,dd]) (vend vf265 Post)) (hl:args.length≤8:=by exact zB rfl):T Tryz.prog 265 args σ Post:=T.walkR Tryz.func265 cf265 hl rfl h
@[reducible] def vb266:VC:=
  Rg [m 4 (.newRow 0 1)]<|
  .seq (.seq (.dreg [(Mv 6 0,[]),(m 7 (.nilCheck (t 6)),[0]),(m 8 (Fl 2 7),[1]),(m 9 (Ld 8),[2]),(Mv 10 9,[3]),(Gf 11 10 (.mov (t 1)),[4]),(Gf 12 10 (.bin .lss .num (t 11) (.c q)),[5,4]),(m 13 (.pick (t 10) Bt (t 12)),[4,6]),(Mv 14 13,[7,4]),(Gf 15 14 (.mov (t 1)),[8]),(Gf 16 14 (.mov (t 0)),[8]),(Gf 17 14 (.nilCheck (t 16)),[10,8]),(Gf 18 14 (Fl 0 17),[11,8]),(Gf 19 14 (Ld 18),[12,8]),(Gf 20 14 (.len (t 19)),[13,8]),(Gf 21 14 (.mov (t 0)),[8]),(Gf 22 14 (.nilCheck (t 21)),[15,8]),(Gf 23 14 (Fl 1 22),[16,8]),(Gf 24 14 (Ld 23),[17,8]),(Gf 25 14 (.bin .sub .num (t 20) (t 24)),[14,18,8]),(Gf 26 14 (.bin .gtr .num (t 15) (t 25)),[9,19,8]),(m 27 (.pick (t 14) Bt (t 26)),[8,20])] [(2,0),(1,1),(1,2),(1,3),(2,4),(2,5),(2,6),(2,7),(2,8),(2,9),(2,10),(1,11),(1,12),(1,13),(1,14),(2,15),(1,16),(1,17),(1,18),(2,19),(2,20),(2,21)] [0,1,3,7,15,31,63,127,255,511,511,1535,3583,7679,15871,511,33279,98815,229887,523775,1048575,2097151])<|
  .cond (t 27) (Rg [Mv 28 0,m 29 (.nilCheck (t 28)),m 30 (Fl 2 29),e (.store 1 (t 30) Bt)]<|
  Rg [m 4 (.newRow 0 1)]<|
  .ret) (.skip))<|
  .seq (.dreg [(m 31 (.buildSlice 1 1 0 [o] []),[]),(Mv 32 0,[]),(m 33 (.nilCheck (t 32)),[1]),(m 34 (Fl 0 33),[2]),(m 35 (Ld 34),[3]),(Mv 36 0,[]),(m 37 (.nilCheck (t 36)),[5]),(m 38 (Fl 1 37),[6]),(m 39 (Ld 38),[7]),(Mv 40 0,[]),(m 41 (.nilCheck (t 40)),[9]),(m 42 (Fl 1 41),[10]),(m 43 (Ld 42),[11]),(Mv 44 1,[]),(m 45 (.bin .add .num (t 43) (t 44)),[12,13]),(m 46 (.slice 1 (t 35) (some (t 39)) (some (t 45))),[4,8,14]),(m 47 (.append 2 1 1 (t 31) (t 46)),[0,15]),(Mv 5 47,[16,16,0,1,2,3,4,5,6,7,8,9,10,11,12,13,14,15,16])] [(2,1),(2,2),(2,3),(2,4),(2,5),(2,6),(2,7),(2,8),(2,9),(2,10),(2,11),(2,12),(2,13),(2,14),(2,15),(0,0),(0,16),(2,17)] [0,0,2,6,14,0,32,96,224,0,512,1536,3584,0,15872,32766,65535,131071])<|
  Rg [Mv 48 0,Mv 49 0,m 50 (.nilCheck (t 49)),m 51 (Fl 1 50),m 52 (Ld 51),Mv 53 1,m 54 (.bin .add .num (t 52) (t 53)),m 55 (.nilCheck (t 48)),m 56 (Fl 1 55),e (.store 1 (t 56) (t 54))]<|
  Rg [Mv 57 5,Mv 4 57]<|
  .ret
def vf266:VFun:=⟨58,3,vb266,[.tmp 4],false⟩
theorem cf266:cFun Tryz.prog rawF false Tryz.f266=some vf266:=by kernel_rfl
theorem T266 (h:HT σ args Post vb266 vf266 [dd,dd,dd]) (hl:args.length≤58:=by exact zB rfl):T Tryz.prog 266 args σ Post:=T.walk Tryz.func266 cf266 hl rfl h
@[reducible] def vb267:VC:=
  Rg [m 4 (.mov (.c q))]<|
  .seq (Rg [Mv 5 1,m 6 (.bin .lss .num (t 5) (Ci 1)),Mv 7 6,Gf 8 7 (.mov (t 1)),Gf 9 7 (.bin .gtr .num (t 8) (Ci 4)),m 10 (.pick (t 7) Bt (t 9))]<|
  .cond (t 10) (Rg [Mv 11 0,m 12 (.nilCheck (t 11)),m 13 (Fl 2 12),e (.store 1 (t 13) Bt)]<|
  Rg [m 4 (.mov (.c q))]<|
  .ret) (.skip))<|
  Rg [Mv 14 0,Mv 15 1,m 16 (.call false 266 [(t 14),(t 15)]),m 17 (.call false 57 [(t 16)]),Mv 4 17]<|
  .ret
def vf267:VFun:=⟨18,0,vb267,[.tmp 4],false⟩
theorem cf267:cFun Tryz.prog rawF false Tryz.f267=some vf267:=by kernel_rfl
theorem T267 (h:HT σ args Post vb267 vf267 []) (hl:args.length≤18:=by exact zB rfl):T Tryz.prog 267 args σ Post:=T.walk Tryz.func267 cf267 hl rfl h
@[reducible] def vb57:VC:=
  Rg [m 2 (.mov (.c q))]<|
  Rg [m 3 (.mov (.c q))]<|
  .seq (Rg [m 4 (.mov (.c q))]<|
  .block 0<|.loop<|.seq (Rg [Mv 5 4,Mv 6 0,m 7 (.len (t 6)),m 8 (.bin .lss .num (t 5) (t 7))]<|
  .cond (t 8) (.skip) (.exit 0))<|
  .seq (.block 1<|.region [Mv 11 3,m 12 (.bin .mul .num (t 11) (Ci 256)),Mv 13 0,Mv 14 4,m 15 (.index 1 (t 13) (t 14)),m 16 (Ld 15),m 17 (.convInt .i64 (t 16)),m 18 (.bin .add .num (t 12) (t 17)),Mv 3 18])<|
  .region [Mv 9 4,m 10 (.bin .add .num (t 9) (Ci 1)),Mv 4 10])<|
  Rg [Mv 19 3,Mv 2 19]<|
  .ret
def vf57:VFun:=⟨20,0,vb57,[.tmp 2],false⟩
theorem cf57:cFun Tryz.prog rawF false Tryz.f57=some vf57:=by kernel_rfl
theorem T57 (h:HT σ args Post vb57 vf57 []) (hl:args.length≤20:=by exact zB rfl):T Tryz.prog 57 args σ Post:=T.walk Tryz.func57 cf57 hl rfl h
@[reducible] def vb281:VC:=
  Rg [m 2 (.mov (.c q))]<|
  .seq (Rg [Mv 3 0,m 4 (.nilCheck (t 3)),m 5 (Fl 2 4),m 6 (Ld 5)]<|
  .cond (t 6) (Rg [m 2 (.mov (.c q))]<|
  .ret) (.skip))<|
  .seq (.dreg [(Mv 7 0,[]),(m 8 (.nilCheck (t 7)),[0]),(m 9 (Fl 0 8),[1]),(m 10 (Ld 9),[2]),(m 11 (.len (t 10)),[3]),(Mv 12 0,[]),(m 13 (.nilCheck (t 12)),[5]),(m 14 (Fl 1 13),[6]),(m 15 (Ld 14),[7]),(m 16 (.bin .sub .num (t 11) (t 15)),[4,8]),(Mv 2 16,[9,0,1,2,3,4,5,6,7,8,9])] [(2,0),(1,1),(1,2),(1,3),(1,4),(2,5),(1,6),(1,7),(1,8),(2,9),(2,10)] [0,1,3,7,15,0,32,96,224,511,1023])<|
  .ret
def vf281:VFun:=⟨17,0,vb281,[.tmp 2],false⟩
theorem cf281:cFun Tryz.prog rawF false Tryz.f281=some vf281:=by kernel_rfl
theorem T281 (h:HT σ args Post vb281 vf281 []) (hl:args.length≤17:=by exact zB rfl):T Tryz.prog 281 args σ Post:=T.walk Tryz.func281 cf281 hl rfl h
@[reducible] def vb269:VC:=
  Rg [m 2 (.newRow 0 1)]<|
  Rg [Mv 3 0,Mv 4 0,m 5 (.call false 281 [(t 4)]),m 6 (.call false 266 [(t 3),(t 5)]),Mv 2 6]<|
  .ret
def vf269:VFun:=⟨7,1,vb269,[.tmp 2],false⟩
theorem cf269:cFun Tryz.prog rawF false Tryz.f269=some vf269:=by kernel_rfl
theorem T269 (h:HT σ args Post vb269 vf269 [dd]) (hl:args.length≤7:=by exact zB rfl):T Tryz.prog 269 args σ Post:=T.walk Tryz.func269 cf269 hl rfl h
@[reducible] def vb270:VC:=
  Rg [m 2 (.mov Bf)]<|
  .seq (.dreg [(Mv 3 0,[]),(m 4 (.nilCheck (t 3)),[0]),(m 5 (Fl 2 4),[1]),(m 6 (Ld 5),[2]),(m 7 (.un .not (t 6)),[3]),(Mv 8 7,[4]),(Gt 9 8 (.mov (t 0)),[5]),(Gt 10 8 (.nilCheck (t 9)),[6,5]),(Gt 11 8 (Fl 1 10),[7,5]),(Gt 12 8 (Ld 11),[8,5]),(Gt 13 8 (.mov (t 0)),[5]),(Gt 14 8 (.nilCheck (t 13)),[10,5]),(Gt 15 8 (Fl 0 14),[11,5]),(Gt 16 8 (Ld 15),[12,5]),(Gt 17 8 (.len (t 16)),[13,5]),(Gt 18 8 (.bin .eql .num (t 12) (t 17)),[9,14,5]),(m 19 (.pick (t 8) (t 18) Bf),[5,15]),(Mv 2 19,[16,5,0,1,2,3,4,5,6,7,8,9,10,11,12,13,14,15,16])] [(2,0),(1,1),(1,2),(1,3),(2,4),(2,5),(2,6),(1,7),(1,8),(1,9),(2,10),(1,11),(1,12),(1,13),(1,14),(2,15),(2,16),(2,17)] [0,1,3,7,15,31,63,127,255,511,63,1087,3135,7231,15423,32767,65535,131071])<|
  .ret
def vf270:VFun:=⟨20,0,vb270,[.tmp 2],false⟩
theorem cf270:cFun Tryz.prog rawF false Tryz.f270=some vf270:=by kernel_rfl
theorem T270 (h:HT σ args Post vb270 vf270 []) (hl:args.length≤20:=by exact zB rfl):T Tryz.prog 270 args σ Post:=T.walk Tryz.func270 cf270 hl rfl h
@[reducible] def vb149:VC:=
  Rg [m 4 (.newRow 0 1)]<|
  Rg [m 5 (.newRow 1 1)]<|
  .seq (Rg [Mv 7 1,m 8 (.bin .sub .num (t 7) (Ci 1)),Mv 6 8]<|
  .block 0<|.loop<|.seq (Rg [Mv 9 6,m 10 (.bin .geq .num (t 9) (.c q))]<|
  .cond (t 10) (.skip) (.exit 0))<|
  .seq (.block 1<|.region [Mv 13 5,Mv 14 0,Mv 15 6,m 16 (.bin .mul .num (Ci 8) (t 15)),m 17 (.bin .shr .num (t 14) (t 16)),m 18 (.convInt .u8 (t 17)),m 19 (.buildSlice 2 1 1 [o] [(0,(t 18))]),m 20 (.append 3 1 1 (t 13) (t 19)),Mv 5 20])<|
  .region [Mv 11 6,m 12 (.bin .sub .num (t 11) (Ci 1)),Mv 6 12])<|
  Rg [Mv 21 5,Mv 4 21]<|
  .ret
def vf149:VFun:=⟨22,4,vb149,[.tmp 4],false⟩
theorem cf149:cFun Tryz.prog rawF false Tryz.f149=some vf149:=by kernel_rfl
theorem T149 (h:HT σ args Post vb149 vf149 [dd,dd,dd,dd]) (hl:args.length≤22:=by exact zB rfl):T Tryz.prog 149 args σ Post:=T.walk Tryz.func149 cf149 hl rfl h
@[reducible] def vb178:VC:=
  Rg [m 2 (.alloc 0 [q,o,o,o,o,o,o,o,o,o,o,o,o,o,o,o,o]),m 3 (.mov (.c q))]<|
  Rg [m 4 (.alloc 1 [q,o,o,o,o,o,o,o,o,o,o,o,o,o,o,o,o])]<|
  .seq (Rg [Mv 6 0,m 7 (.len (t 6)),m 8 (.bin .neq .num (t 7) (.c q)),Mv 9 8,Gt 10 9 (.mov (t 0)),Gt 11 9 (.len (t 10)),Gt 12 9 (.bin .neq .num (t 11) (Ci 4)),m 13 (.pick (t 9) (t 12) Bf),Mv 14 13,Gt 15 14 (.mov (t 0)),Gt 16 14 (.len (t 15)),Gt 17 14 (.bin .neq .num (t 16) (Ci 16)),m 18 (.pick (t 14) (t 17) Bf)]<|
  .cond (t 18) (Rg [m 19 (Ls 17 4),e (.store 17 (t 2) (t 19)),m 3 (.mov (Ci 1))]<|
  .ret) (.skip))<|
  Rg [Mv 20 0,m 21 (.len (t 20)),m 22 (Fl 0 4),e (.store 1 (t 22) (t 21))]<|
  .seq (Rg [m 5 (.mov (.c q))]<|
  .block 0<|.loop<|.seq (Rg [Mv 23 5,Mv 24 0,m 25 (.len (t 24)),m 26 (.bin .lss .num (t 23) (t 25))]<|
  .cond (t 26) (.skip) (.exit 0))<|
  .seq (.block 1<|.region [Mv 29 5,Mv 30 0,Mv 31 5,m 32 (.index 1 (t 30) (t 31)),m 33 (Ld 32),m 34 (Fl 1 4),m 35 (.indexArr 16 1 (t 34) (t 29)),e (.store 1 (t 35) (t 33))])<|
  .region [Mv 27 5,m 28 (.bin .add .num (t 27) (Ci 1)),Mv 5 28])<|
  Rg [m 36 (Ls 17 4),e (.store 17 (t 2) (t 36)),m 3 (.mov (.c q))]<|
  .ret
def vf178:VFun:=⟨37,2,vb178,[.cell 2 (some 17),.tmp 3],false⟩
theorem cf178:cFun Tryz.prog rawF false Tryz.f178=some vf178:=by kernel_rfl
theorem T178 (h:HT σ args Post vb178 vf178 [dd,dd]) (hl:args.length≤37:=by exact zB rfl):T Tryz.prog 178 args σ Post:=T.walk Tryz.func178 cf178 hl rfl h
@[reducible] def vb179:VC:=
  Rg [m 1 (.box 0 (t 0)),m 2 (.mov Bf)]<|
  Rg [m 4 (Ls 17 1),m 5 (.call false 55 [(t 4)]),Mv 3 5]<|
  Rg [Mv 6 3,Mv 7 6,Gt 8 7 (Fl 0 1),Gt 9 7 (Ld 8),Gt 10 7 (.bin .eql .num (t 9) (Ci 4)),Gt 11 7 (.mov (t 10)),Gt 12 11 (Fl 1 1),Gt 13 11 (.indexArr 16 1 (t 12) (.c q)),Gt 14 11 (Ld 13),Gt 15 11 (.bin .geq .num (t 14) (.c (b 224))),Gt 16 7 (.pick (t 11) (t 15) Bf),Gt 17 7 (.mov (t 16)),Gt 18 17 (Fl 1 1),Gt 19 17 (.indexArr 16 1 (t 18) (.c q)),Gt 20 17 (Ld 19),Gt 21 17 (.bin .lss .num (t 20) (.c (b 240))),Gt 22 7 (.pick (t 17) (t 21) Bf),Gt 23 7 (.mov (t 22)),Gf 24 23 (Fl 0 1),Gf 25 23 (Ld 24),Gf 26 23 (.bin .eql .num (t 25) (Ci 16)),Gf 27 23 (.mov (t 26)),Gt 28 27 (Fl 1 1),Gt 29 27 (.indexArr 16 1 (t 28) (.c q)),Gt 30 27 (Ld 29),Gt 31 27 (.bin .eql .num (t 30) (.c (b 255))),Gf 32 23 (.pick (t 27) (t 31) Bf),Gt 33 7 (.pick (t 23) Bt (t 32)),m 34 (.pick (t 7) (t 33) Bf),Mv 2 34]<|
  .ret
def vf179:VFun:=⟨35,1,vb179,[.tmp 2],false⟩
theorem cf179:cFun Tryz.prog rawF false Tryz.f179=some vf179:=by kernel_rfl
theorem T179 (h:HT σ args Post vb179 vf179 [dd]) (hl:args.length≤35:=by exact zB rfl):T Tryz.prog 179 args σ Post:=T.walk Tryz.func179 cf179 hl rfl h
@[reducible] def vb55:VC:=
  Rg [m 1 (.box 0 (t 0)),m 2 (.mov Bf)]<|
  .seq (Rg [m 4 (Fl 0 1),m 5 (Ld 4),m 6 (.bin .neq .num (t 5) (.c q)),Mv 7 6,Gt 8 7 (Fl 0 1),Gt 9 7 (Ld 8),Gt 10 7 (.bin .neq .num (t 9) (Ci 4)),m 11 (.pick (t 7) (t 10) Bf),Mv 12 11,Gt 13 12 (Fl 0 1),Gt 14 12 (Ld 13),Gt 15 12 (.bin .neq .num (t 14) (Ci 16)),m 16 (.pick (t 12) (t 15) Bf)]<|
  .cond (t 16) (Rg [m 2 (.mov Bf)]<|
  .ret) (.skip))<|
  .seq (Rg [m 17 (Fl 0 1),m 18 (Ld 17),Mv 3 18]<|
  .block 0<|.loop<|.seq (Rg [Mv 19 3,m 20 (.bin .lss .num (t 19) (Ci 16))]<|
  .cond (t 20) (.skip) (.exit 0))<|
  .seq (.block 1<|Rg [Mv 23 3,m 24 (Fl 1 1),m 25 (.indexArr 16 1 (t 24) (t 23)),m 26 (Ld 25),m 27 (.bin .neq .num (t 26) (.c o))]<|
  .cond (t 27) (Rg [m 2 (.mov Bf)]<|
  .ret) (.skip))<|
  .region [Mv 21 3,m 22 (.bin .add .num (t 21) (Ci 1)),Mv 3 22])<|
  Rg [m 2 (.mov Bt)]<|
  .ret
def vf55:VFun:=⟨28,1,vb55,[.tmp 2],false⟩
theorem cf55:cFun Tryz.prog rawF false Tryz.f55=some vf55:=by kernel_rfl
theorem T55 (h:HT σ args Post vb55 vf55 [dd]) (hl:args.length≤28:=by exact zB rfl):T Tryz.prog 55 args σ Post:=T.walk Tryz.func55 cf55 hl rfl h
@[reducible] def vb58:VC:=
  Rg [m 1 (.box 0 (t 0)),m 2 (.newRow 1 1)]<|
  Rg [m 4 (Ls 17 1),m 5 (.call false 55 [(t 4)]),Mv 3 5]<|
  .seq (Rg [Mv 6 3,m 7 (.un .not (t 6))]<|
  .cond (t 7) (Rg [m 2 (.newRow 1 1)]<|
  .ret) (.skip))<|
  Rg [m 8 (.buildSlice 2 1 0 [o] []),m 9 (Fl 1 1),m 10 (Fl 0 1),m 11 (Ld 10),m 12 (.sliceArr 16 1 (t 9) none (some (t 11))),m 13 (.append 3 1 1 (t 8) (t 12)),Mv 2 13]<|
  .ret
def vf58:VFun:=⟨14,4,vb58,[.tmp 2],false⟩
theorem cf58:cFun Tryz.prog rawF false Tryz.f58=some vf58:=by kernel_rfl
theorem T58 (h:HT σ args Post vb58 vf58 [dd,dd,dd,dd]) (hl:args.length≤14:=by exact zB rfl):T Tryz.prog 58 args σ Post:=T.walk Tryz.func58 cf58 hl rfl h
@[reducible] def vb264:VC:=
  Rg [m 1 (.box 0 (t 0)),m 2 (.mov Bf)]<|
  Rg [m 6 (Fl 0 1),m 7 (Ls 17 6),m 8 (.call false 55 [(t 7)]),Mv 3 8]<|
  .seq (Rg [Mv 9 3,m 10 (.un .not (t 9)),Mv 11 10,Gf 12 11 (Fl 0 1),Gf 13 11 (Fl 0 12),Gf 14 11 (Ld 13),Gf 15 11 (.bin .eql .num (t 14) (.c q)),m 16 (.pick (t 11) Bt (t 15)),Mv 17 16,Gf 18 17 (Fl 17 1),Gf 19 17 (Ld 18),Gf 20 17 (.bin .lss .num (t 19) (.c q)),m 21 (.pick (t 17) Bt (t 20)),Mv 22 21,Gf 23 22 (Fl 17 1),Gf 24 22 (Ld 23),Gf 25 22 (Fl 0 1),Gf 26 22 (Fl 0 25),Gf 27 22 (Ld 26),Gf 28 22 (.bin .mul .num (Ci 8) (t 27)),Gf 29 22 (.bin .gtr .num (t 24) (t 28)),m 30 (.pick (t 22) Bt (t 29))]<|
  .cond (t 30) (Rg [m 2 (.mov Bf)]<|
  .ret) (.skip))<|
  .seq (Rg [m 31 (Fl 17 1),m 32 (Ld 31),Mv 4 32]<|
  .block 0<|.loop<|.seq (Rg [Mv 33 4,m 34 (Fl 0 1),m 35 (Fl 0 34),m 36 (Ld 35),m 37 (.bin .mul .num (Ci 8) (t 36)),m 38 (.bin .lss .num (t 33) (t 37))]<|
  .cond (t 38) (.skip) (.exit 0))<|
  .seq (.block 1<|Rg [m 41 (Fl 0 1),m 42 (Ls 17 41),Mv 43 4,m 44 (.call false 280 [(t 42),(t 43)]),Mv 5 44]<|
  Rg [Mv 45 5]<|
  .cond (t 45) (Rg [m 2 (.mov Bf)]<|
  .ret) (.skip))<|
  .region [Mv 39 4,m 40 (.bin .add .num (t 39) (Ci 1)),Mv 4 40])<|
  Rg [m 2 (.mov Bt)]<|
  .ret
def vf264:VFun:=⟨46,1,vb264,[.tmp 2],false⟩
theorem cf264:cFun Tryz.prog rawF false Tryz.f264=some vf264:=by kernel_rfl
theorem T264 (h:HT σ args Post vb264 vf264 [dd]) (hl:args.length≤46:=by exact zB rfl):T Tryz.prog 264 args σ Post:=T.walk Tryz.func264 cf264 hl rfl h
@[reducible] def vb280:VC:=
  Rg [m 2 (.box 0 (t 0)),m 4 (.mov Bf)]<|
  Rg [Mv 5 1,m 6 (.bin .quo .num (t 5) (Ci 8)),m 7 (Fl 1 2),m 8 (.indexArr 16 1 (t 7) (t 6)),m 9 (Ld 8),Mv 10 1,m 11 (.bin .rem .num (t 10) (Ci 8)),m 12 (.bin .sub .num (Ci 7) (t 11)),m 13 (.bin .shr .num (t 9) (t 12)),m 14 (.bin .rem .num (t 13) (.c (b 2))),m 15 (.bin .eql .num (t 14) (.c (b 1))),Mv 4 15]<|
  .ret
def vf280:VFun:=⟨16,1,vb280,[.tmp 4],false⟩
theorem cf280:cFun Tryz.prog rawF false Tryz.f280=some vf280:=by kernel_rfl
theorem T280 (h:HT σ args Post vb280 vf280 [dd]) (hl:args.length≤16:=by exact zB rfl):T Tryz.prog 280 args σ Post:=T.walk Tryz.func280 cf280 hl rfl h
@[reducible] def vb150:VC:=
  Rg [m 2 (.alloc 0 [o,o,o,o,o,o,o,o])]<|
  Rg [m 3 (.alloc 1 [o,o,o,o,o,o,o,o])]<|
  .seq (Rg [m 4 (.mov (.c q))]<|
  .block 0<|.loop<|.seq (Rg [Mv 5 4,m 6 (.bin .lss .num (t 5) (Ci 8)),Mv 7 6,Gt 8 7 (.mov (t 4)),Gt 9 7 (.mov (t 0)),Gt 10 7 (.len (t 9)),Gt 11 7 (.bin .lss .num (t 8) (t 10)),m 12 (.pick (t 7) (t 11) Bf)]<|
  .cond (t 12) (.skip) (.exit 0))<|
  .seq (.block 1<|.region [Mv 15 4,Mv 16 0,Mv 17 4,m 18 (.index 1 (t 16) (t 17)),m 19 (Ld 18),m 20 (.indexArr 8 1 (t 3) (t 15)),e (.store 1 (t 20) (t 19))])<|
  .region [Mv 13 4,m 14 (.bin .add .num (t 13) (Ci 1)),Mv 4 14])<|
  Rg [m 21 (Ls 8 3),e (.store 8 (t 2) (t 21))]<|
  .ret
def vf150:VFun:=⟨22,2,vb150,[.cell 2 (some 8)],false⟩
theorem cf150:cFun Tryz.prog rawF false Tryz.f150=some vf150:=by kernel_rfl
theorem T150 (h:HT σ args Post vb150 vf150 [dd,dd]) (hl:args.length≤22:=by exact zB rfl):T Tryz.prog 150 args σ Post:=T.walk Tryz.func150 cf150 hl rfl h
@[reducible] def vb252:VC:=
  Rg [m 4 (.newRow 0 1),m 5 (.mov (.c q))]<|
  .seq (Rg [Mv 7 0,m 8 (.bin .lss .num (t 7) (.c q)),Mv 9 8,Gf 10 9 (.mov (t 0)),Gf 11 9 (.bin .gtr .num (t 10) (Ci 1048575)),m 12 (.pick (t 9) Bt (t 11))]<|
  .cond (t 12) (Rg [m 4 (.newRow 0 1),m 5 (.mov (Ci 5))]<|
  .ret) (.skip))<|
  Rg [Mv 13 0,m 14 (.bin .mul .num (Ci 16) (t 13)),Mv 6 14]<|
  .seq (Rg [Mv 15 1]<|
  .cond (t 15) (.region [Mv 16 6,m 17 (.bin .add .num (t 16) (Ci 1)),Mv 6 17]) (.skip))<|
  Rg [Mv 18 6,m 19 (.call false 149 [(t 18),(Ci 3)]),Mv 4 19,m 5 (.mov (.c q))]<|
  .ret
def vf252:VFun:=⟨20,1,vb252,[.tmp 4,.tmp 5],false⟩
theorem cf252:cFun Tryz.prog rawF false Tryz.f252=some vf252:=by kernel_rfl
theorem T252 (h:HT σ args Post vb252 vf252 [dd]) (hl:args.length≤20:=by exact zB rfl):T Tryz.prog 252 args σ Post:=T.walk Tryz.func252 cf252 hl rfl h
@[reducible] def vb255:VC:=
  Rg [m 2 (.mov (.c q)),m 3 (.mov Bf),m 4 (.mov (.c q))]<|
  Rg [Mv 6 0,m 7 (.call false 57 [(t 6)]),Mv 5 7]<|
  .seq (Rg [Mv 8 0,m 9 (.len (t 8)),m 10 (.bin .neq .num (t 9) (Ci 3)),Mv 11 10,Gf 12 11 (.mov (t 5)),Gf 13 11 (.bin .rem .num (t 12) (Ci 16)),Gf 14 11 (.bin .gtr .num (t 13) (Ci 1)),m 15 (.pick (t 11) Bt (t 14))]<|
  .cond (t 15) (Rg [m 2 (.mov (.c q)),m 3 (.mov Bf),m 4 (.mov (Ci 4))]<|
  .ret) (.skip))<|
  Rg [Mv 16 5,m 17 (.bin .quo .num (t 16) (Ci 16)),Mv 18 5,m 19 (.bin .rem .num (t 18) (Ci 16)),m 20 (.bin .eql .num (t 19) (Ci 1)),Mv 2 17,Mv 3 20,m 4 (.mov (.c q))]<|
  .ret
def vf255:VFun:=⟨21,0,vb255,[.tmp 2,.tmp 3,.tmp 4],false⟩
theorem cf255:cFun Tryz.prog rawF false Tryz.f255=some vf255:=by kernel_rfl
theorem T255 (h:HT σ args Post vb255 vf255 []) (hl:args.length≤21:=by exact zB rfl):T Tryz.prog 255 args σ Post:=T.walk Tryz.func255 cf255 hl rfl h
end Go.Proofs.YtdpeaefgbmkegaaGreatDoor
namespace Go.Proofs.YtdpeaefgbmkegaaGreatDoor
open Go Go.V D
variable {args:List PV} {σ:VHeap} {Post:KP}
@[reducible] def vb151:VC:=
  Rg [m 1 (.box 0 (t 0)),m 2 (.mov Bf)]<|
  .seq (Rg [m 11 (Fl 0 1),m 12 (Ld 11),m 13 (.bin .lss .num (t 12) (Ci 1)),Mv 14 13,Gf 15 14 (Fl 0 1),Gf 16 14 (Ld 15),Gf 17 14 (.bin .gtr .num (t 16) (Ci 7)),m 18 (.pick (t 14) Bt (t 17))]<|
  .cond (t 18) (Rg [m 2 (.mov Bf)]<|
  .ret) (.skip))<|
  Rg [m 20 (Fl 0 1),m 21 (Ld 20),m 22 (.call false 152 [(t 21)]),Mv 19 22,m 23 (.extract 0 (t 19)),m 24 (.extract 1 (t 19)),m 25 (.extract 2 (t 19)),m 26 (.extract 3 (t 19)),Mv 3 23,Mv 4 24,Mv 5 25,Mv 6 26]<|
  Rg [m 27 (.build [q,o,o,o,o,o,o,o,o,o,o,o,o,o,o,o,o] []),m 7 (.alloc 1 [q,o,o,o,o,o,o,o,o,o,o,o,o,o,o,o,o]),e (.store 17 (t 7) (t 27))]<|
  Rg [m 28 (.build [o,o,o,o,o,o,o,o] []),m 8 (.alloc 2 [o,o,o,o,o,o,o,o]),e (.store 8 (t 8) (t 28))]<|
  .seq (Rg [Mv 29 3,m 30 (.un .not (t 29)),Mv 31 30,Gt 32 31 (Fl 1 1),Gt 33 31 (Ls 8 32),Gt 34 31 (Ls 8 8),Gt 35 31 (.eqAgg [(.i .u8),(.i .u8),(.i .u8),(.i .u8),(.i .u8),(.i .u8),(.i .u8),(.i .u8)] true (t 33) (t 34)),m 36 (.pick (t 31) (t 35) Bf),Mv 37 36,Gf 38 37 (.mov (t 4)),Gf 39 37 (.un .not (t 38)),Gf 40 37 (.mov (t 39)),Gt 41 40 (Fl 9 1),Gt 42 40 (Ld 41),Gt 43 40 (.bin .neq .num (t 42) (.c q)),Gf 44 37 (.pick (t 40) (t 43) Bf),m 45 (.pick (t 37) Bt (t 44)),Mv 46 45,Gf 47 46 (.mov (t 5)),Gf 48 46 (.un .not (t 47)),Gf 49 46 (.mov (t 48)),Gt 50 49 (Fl 10 1),Gt 51 49 (Ls 17 50),Gt 52 49 (Ls 17 7),Gt 53 49 (.eqAgg [(.i .i64),(.i .u8),(.i .u8),(.i .u8),(.i .u8),(.i .u8),(.i .u8),(.i .u8),(.i .u8),(.i .u8),(.i .u8),(.i .u8),(.i .u8),(.i .u8),(.i .u8),(.i .u8),(.i .u8)] true (t 51) (t 52)),Gt 54 49 (.mov (t 53)),Gf 55 54 (Fl 27 1),Gf 56 54 (Ls 17 55),Gf 57 54 (Ls 17 7),Gf 58 54 (.eqAgg [(.i .i64),(.i .u8),(.i .u8),(.i .u8),(.i .u8),(.i .u8),(.i .u8),(.i .u8),(.i .u8),(.i .u8),(.i .u8),(.i .u8),(.i .u8),(.i .u8),(.i .u8),(.i .u8),(.i .u8)] true (t 56) (t 57)),Gt 59 49 (.pick (t 54) Bt (t 58)),Gf 60 46 (.pick (t 49) (t 59) Bf),m 61 (.pick (t 46) Bt (t 60)),Mv 62 61,Gf 63 62 (.mov (t 6)),Gf 64 62 (.un .not (t 63)),Gf 65 62 (.mov (t 64)),Gt 66 65 (Fl 44 1),Gt 67 65 (Ls 17 66),Gt 68 65 (Ls 17 7),Gt 69 65 (.eqAgg [(.i .i64),(.i .u8),(.i .u8),(.i .u8),(.i .u8),(.i .u8),(.i .u8),(.i .u8),(.i .u8),(.i .u8),(.i .u8),(.i .u8),(.i .u8),(.i .u8),(.i .u8),(.i .u8),(.i .u8)] true (t 67) (t 68)),Gf 70 62 (.pick (t 65) (t 69) Bf),m 71 (.pick (t 62) Bt (t 70)),Mv 72 71,Gf 73 72 (Fl 0 1),Gf 74 72 (Ld 73),Gf 75 72 (.bin .neq .num (t 74) (Ci 4)),Gf 76 72 (.mov (t 75)),Gt 77 76 (Fl 61 1),Gt 78 76 (Ld 77),Gt 79 76 (.bin .neq .num (t 78) (.c (.str []))),Gf 80 72 (.pick (t 76) (t 79) Bf),m 81 (.pick (t 72) Bt (t 80))]<|
  .cond (t 81) (Rg [m 2 (.mov Bf)]<|
  .ret) (.skip))<|
  .seq (Rg [m 82 (Fl 9 1),m 83 (Ld 82),m 84 (.bin .lss .num (t 83) (.c q)),Mv 85 84,Gf 86 85 (Fl 9 1),Gf 87 85 (Ld 86),Gf 88 85 (.bin .gtr .num (t 87) (Ci 4294967295)),m 89 (.pick (t 85) Bt (t 88))]<|
  .cond (t 89) (Rg [m 2 (.mov Bf)]<|
  .ret) (.skip))<|
  .seq (Rg [Mv 90 6]<|
  .cond (t 90) (Rg [m 91 (Fl 44 1),m 92 (Ls 17 91),m 93 (.call false 191 [(t 92)]),Mv 9 93]<|
  Rg [Mv 94 9,m 95 (.un .not (t 94))]<|
  .cond (t 95) (Rg [m 2 (.mov Bf)]<|
  .ret) (.skip)) (.skip))<|
  .seq (Rg [Mv 96 5]<|
  .cond (t 96) (Rg [m 97 (Fl 10 1),m 98 (Ls 17 97),m 99 (Fl 27 1),m 100 (Ls 17 99),m 101 (Fl 0 1),m 102 (Ld 101),m 103 (.bin .eql .num (t 102) (Ci 3)),m 104 (.call false 192 [(t 98),(t 100),(t 103)]),Mv 10 104]<|
  Rg [Mv 105 10,m 106 (.un .not (t 105))]<|
  .cond (t 106) (Rg [m 2 (.mov Bf)]<|
  .ret) (.skip)) (.skip))<|
  .seq (Rg [m 107 (Fl 0 1),m 108 (Ld 107),m 109 (.bin .eql .num (t 108) (Ci 4))]<|
  .cond (t 109) (Rg [m 110 (Fl 61 1),m 111 (Ld 110),m 112 (.s2b 3 (t 111)),m 113 (.call false 193 [(t 112)]),Mv 2 113]<|
  .ret) (.skip))<|
  Rg [m 2 (.mov Bt)]<|
  .ret
def vf151:VFun:=⟨114,4,vb151,[.tmp 2],false⟩
theorem cf151:cFun Tryz.prog rawF false Tryz.f151=some vf151:=by kernel_rfl
theorem T151 (h:HT σ args Post vb151 vf151 [dd,dd,dd,dd]) (hl:args.length≤114:=by exact zB rfl):T Tryz.prog 151 args σ Post:=T.walk Tryz.func151 cf151 hl rfl h
@[reducible] def vb152:VC:=
  Rg [m 2 (.mov Bf),m 3 (.mov Bf),m 4 (.mov Bf),m 5 (.mov Bf)]<|
  .seq (Rg [Mv 6 0]<|
  .block 0<|Rg [m 8 (.bin .eql .num (t 6) (Ci 1)),Mv 7 8]<|
  .cond (t 7) (Rg [m 2 (.mov Bt),m 3 (.mov Bf),m 4 (.mov Bf),m 5 (.mov Bt)]<|
  .ret) (Rg [m 10 (.bin .eql .num (t 6) (Ci 2)),Mv 9 10]<|
  .cond (t 9) (Rg [m 2 (.mov Bt),m 3 (.mov Bt),m 4 (.mov Bf),m 5 (.mov Bf)]<|
  .ret) (Rg [m 12 (.bin .eql .num (t 6) (Ci 3)),Mv 11 12]<|
  .cond (t 11) (Rg [m 2 (.mov Bt),m 3 (.mov Bf),m 4 (.mov Bt),m 5 (.mov Bt)]<|
  .ret) (Rg [m 14 (.bin .eql .num (t 6) (Ci 4)),Mv 13 14]<|
  .cond (t 13) (Rg [m 2 (.mov Bf),m 3 (.mov Bf),m 4 (.mov Bf),m 5 (.mov Bt)]<|
  .ret) (Rg [m 16 (.bin .eql .num (t 6) (Ci 5)),Mv 15 16]<|
  .cond (t 15) (Rg [m 2 (.mov Bt),m 3 (.mov Bf),m 4 (.mov Bt),m 5 (.mov Bf)]<|
  .ret) (.skip))))))<|
  Rg [m 2 (.mov Bt),m 3 (.mov Bt),m 4 (.mov Bt),m 5 (.mov Bf)]<|
  .ret
def vf152:VFun:=⟨17,0,vb152,[.tmp 2,.tmp 3,.tmp 4,.tmp 5],false⟩
theorem cf152:cFun Tryz.prog rawF false Tryz.f152=some vf152:=by kernel_rfl
theorem T152 (h:HT σ args Post vb152 vf152 []) (hl:args.length≤17:=by exact zB rfl):T Tryz.prog 152 args σ Post:=T.walk Tryz.func152 cf152 hl rfl h
@[reducible] def vb153:VC:=
  Rg [m 1 (.box 0 (t 0)),m 2 (.newRow 1 1)]<|
  .seq (.dreg [(m 3 (Fl 0 1),[]),(m 4 (Ld 3),[0]),(m 5 (.bin .mul .num (Ci 8) (t 4)),[1]),(m 6 (.convInt .u8 (t 5)),[2]),(m 7 (.buildSlice 2 1 1 [o] [(0,(t 6))]),[3]),(m 8 (Ls 17 1),[]),(m 9 (.call false 58 [(t 8)]),[5]),(m 10 (.append 3 1 1 (t 7) (t 9)),[4,6,6]),(Mv 2 10,[7,7,0,1,2,3,4,5,6,7])] [(1,0),(1,1),(2,2),(2,3),(2,5),(2,6),(0,4),(0,7),(2,8)] [0,1,3,7,15,0,32,127,255])<|
  .ret
def vf153:VFun:=⟨11,4,vb153,[.tmp 2],false⟩
theorem cf153:cFun Tryz.prog rawF false Tryz.f153=some vf153:=by kernel_rfl
theorem T153 (h:HT σ args Post vb153 vf153 [dd,dd,dd,dd]) (hl:args.length≤11:=by exact zB rfl):T Tryz.prog 153 args σ Post:=T.walk Tryz.func153 cf153 hl rfl h
@[reducible] def vb107:VC:=
  Rg [m 1 (.box 0 (t 0)),m 2 (.newRow 1 1),m 3 (.mov (.c q))]<|
  Rg [m 10 (Ls 62 1),m 11 (.call false 151 [(t 10)]),Mv 4 11]<|
  .seq (Rg [Mv 12 4,m 13 (.un .not (t 12))]<|
  .cond (t 13) (Rg [m 2 (.newRow 1 1),m 3 (.mov (Ci 1))]<|
  .ret) (.skip))<|
  Rg [m 15 (Fl 0 1),m 16 (Ld 15),m 17 (.call false 152 [(t 16)]),Mv 14 17,m 18 (.extract 0 (t 14)),m 19 (.extract 1 (t 14)),m 20 (.extract 2 (t 14)),m 21 (.extract 3 (t 14)),Mv 5 18,Mv 6 19,Mv 7 20,Mv 8 21]<|
  Rg [m 22 (Fl 61 1),m 23 (Ld 22),m 24 (.s2b 2 (t 23)),Mv 9 24]<|
  .seq (Rg [Mv 25 5]<|
  .cond (t 25) (.region [Mv 26 9,m 27 (Fl 1 1),m 28 (.sliceArr 8 1 (t 27) none none),m 29 (.append 3 1 1 (t 26) (t 28)),Mv 9 29]) (.skip))<|
  .seq (Rg [Mv 30 6]<|
  .cond (t 30) (.region [Mv 31 9,m 32 (Fl 9 1),m 33 (Ld 32),m 34 (.call false 149 [(t 33),(Ci 4)]),m 35 (.append 4 1 1 (t 31) (t 34)),Mv 9 35]) (.skip))<|
  .seq (Rg [Mv 36 7]<|
  .cond (t 36) (Rg [Mv 37 9,m 38 (Fl 10 1),m 39 (Ls 17 38),m 40 (.call false 153 [(t 39)]),m 41 (.append 5 1 1 (t 37) (t 40)),Mv 9 41]<|
  .region [Mv 42 9,m 43 (Fl 27 1),m 44 (Ls 17 43),m 45 (.call false 153 [(t 44)]),m 46 (.append 6 1 1 (t 42) (t 45)),Mv 9 46]) (.skip))<|
  .seq (Rg [Mv 47 8]<|
  .cond (t 47) (.region [Mv 48 9,m 49 (Fl 44 1),m 50 (Ls 17 49),m 51 (.call false 58 [(t 50)]),m 52 (.append 7 1 1 (t 48) (t 51)),Mv 9 52]) (.skip))<|
  Rg [m 53 (Fl 0 1),m 54 (Ld 53),m 55 (.convInt .u8 (t 54)),Mv 56 9,m 57 (.len (t 56)),m 58 (.convInt .u8 (t 57)),m 59 (.buildSlice 8 1 2 [o] [(0,(t 55)),(1,(t 58))]),Mv 60 9,m 61 (.append 9 1 1 (t 59) (t 60)),Mv 2 61,m 3 (.mov (.c q))]<|
  .ret
def vf107:VFun:=⟨62,10,vb107,[.tmp 2,.tmp 3],false⟩
theorem cf107:cFun Tryz.prog rawF false Tryz.f107=some vf107:=by kernel_rfl
theorem T107 (h:HT σ args Post vb107 vf107 [dd,dd,dd,dd,dd,dd,dd,dd,dd,dd]) (hl:args.length≤62:=by exact zB rfl):T Tryz.prog 107 args σ Post:=T.walk Tryz.func107 cf107 hl rfl h
@[reducible] def vb181:VC:=
  Rg [m 2 (.newRow 0 1),m 3 (.mov (.c q))]<|
  Rg [m 4 (.newRow 1 1)]<|
  .seq (Rg [m 5 (.mov (.c q))]<|
  .block 0<|.loop<|.seq (Rg [Mv 8 5,Mv 9 0,m 10 (.len (t 9)),m 11 (.bin .lss .num (t 8) (t 10))]<|
  .cond (t 11) (.skip) (.exit 0))<|
  .seq (.block 1<|Rg [Mv 15 0,Mv 16 5,m 17 (.index 62 (t 15) (t 16)),m 18 (Ls 62 17),m 19 (.call false 107 [(t 18)]),Mv 14 19,m 20 (.extract 0 (t 14)),m 21 (.extract 1 (t 14)),Mv 6 20,Mv 7 21]<|
  .seq (Rg [Mv 22 7,m 23 (.bin .neq .num (t 22) (.c q))]<|
  .cond (t 23) (Rg [Mv 24 7,m 2 (.newRow 0 1),Mv 3 24]<|
  .ret) (.skip))<|
  .region [Mv 25 4,Mv 26 6,m 27 (.append 2 1 1 (t 25) (t 26)),Mv 4 27])<|
  .region [Mv 12 5,m 13 (.bin .add .num (t 12) (Ci 1)),Mv 5 13])<|
  Rg [Mv 28 4,Mv 2 28,m 3 (.mov (.c q))]<|
  .ret
def vf181:VFun:=⟨29,3,vb181,[.tmp 2,.tmp 3],false⟩
theorem cf181:cFun Tryz.prog rawF false Tryz.f181=some vf181:=by kernel_rfl
theorem T181 (h:HT σ args Post vb181 vf181 [dd,dd,dd]) (hl:args.length≤29:=by exact zB rfl):T Tryz.prog 181 args σ Post:=T.walk Tryz.func181 cf181 hl rfl h
@[reducible] def vb183:VC:=
  Rg [m 4 (.newRow 0 62),m 5 (.mov (.c q))]<|
  .seq (Rg [Mv 11 1,m 12 (.bin .neq .num (t 11) (Ci 4)),Mv 13 12,Gt 14 13 (.mov (t 1)),Gt 15 13 (.bin .neq .num (t 14) (Ci 16)),m 16 (.pick (t 13) (t 15) Bf)]<|
  .cond (t 16) (Rg [m 4 (.newRow 0 62),m 5 (.mov (Ci 1))]<|
  .ret) (.skip))<|
  Rg [m 6 (.newRow 1 62)]<|
  .seq (Rg [m 7 (.mov (.c q))]<|
  .block 0<|.loop<|.seq (Rg [Mv 17 7,Mv 18 0,m 19 (.len (t 18)),m 20 (.bin .lss .num (t 17) (t 19))]<|
  .cond (t 20) (.skip) (.exit 0))<|
  .block 1<|Rg [Mv 22 0,Mv 23 7,m 24 (.slice 1 (t 22) (some (t 23)) none),Mv 25 1,m 26 (.call false 229 [(t 24),(t 25)]),Mv 21 26,m 27 (.extract 0 (t 21)),m 28 (.extract 1 (t 21)),m 29 (.extract 2 (t 21)),m 8 (.alloc 2 [q,o,o,o,o,o,o,o,o,q,q,o,o,o,o,o,o,o,o,o,o,o,o,o,o,o,o,q,o,o,o,o,o,o,o,o,o,o,o,o,o,o,o,o,q,o,o,o,o,o,o,o,o,o,o,o,o,o,o,o,o,(.str [])]),e (.store 62 (t 8) (t 27)),Mv 9 28,Mv 10 29]<|
  .seq (Rg [Mv 30 10,m 31 (.bin .neq .num (t 30) (.c q))]<|
  .cond (t 31) (Rg [Mv 32 10,m 4 (.newRow 0 62),Mv 5 32]<|
  .ret) (.skip))<|
  Rg [Mv 33 6,m 34 (Ls 62 8),m 35 (.buildSlice 3 62 1 [q,o,o,o,o,o,o,o,o,q,q,o,o,o,o,o,o,o,o,o,o,o,o,o,o,o,o,q,o,o,o,o,o,o,o,o,o,o,o,o,o,o,o,o,q,o,o,o,o,o,o,o,o,o,o,o,o,o,o,o,o,(.str [])] [(0,(t 34))]),m 36 (.append 4 62 112 (t 33) (t 35)),Mv 6 36]<|
  .region [Mv 37 7,Mv 38 9,m 39 (.bin .add .num (t 37) (t 38)),Mv 7 39])<|
  Rg [Mv 40 6,Mv 4 40,m 5 (.mov (.c q))]<|
  .ret
def vf183:VFun:=⟨41,5,vb183,[.tmp 4,.tmp 5],false⟩
theorem cf183:cFun Tryz.prog rawF false Tryz.f183=some vf183:=by kernel_rfl
theorem T183 (h:HT σ args Post vb183 vf183 [dd,dd,dd,dd,dd]) (hl:args.length≤41:=by exact zB rfl):T Tryz.prog 183 args σ Post:=T.walk Tryz.func183 cf183 hl rfl h
@[reducible] def vb184:VC:=
  Rg [m 4 (.mov Bf)]<|
  .seq (Rg [Mv 6 0,m 7 (.len (t 6)),Mv 8 1,m 9 (.len (t 8)),m 10 (.bin .neq .num (t 7) (t 9))]<|
  .cond (t 10) (Rg [m 4 (.mov Bf)]<|
  .ret) (.skip))<|
  .seq (Rg [m 5 (.mov (.c q))]<|
  .block 0<|.loop<|.seq (Rg [Mv 11 5,Mv 12 0,m 13 (.len (t 12)),m 14 (.bin .lss .num (t 11) (t 13))]<|
  .cond (t 14) (.skip) (.exit 0))<|
  .seq (.block 1<|.seq (.dreg [(Mv 17 0,[]),(Mv 18 5,[]),(m 19 (.index 62 (t 17) (t 18)),[0,1]),(m 20 (Ls 62 19),[2]),(Mv 21 1,[]),(Mv 22 5,[]),(m 23 (.index 62 (t 21) (t 22)),[4,5]),(m 24 (Ls 62 23),[6]),(m 25 (.eqAgg [(.i .i64),(.i .u8),(.i .u8),(.i .u8),(.i .u8),(.i .u8),(.i .u8),(.i .u8),(.i .u8),(.i .i64),(.i .i64),(.i .u8),(.i .u8),(.i .u8),(.i .u8),(.i .u8),(.i .u8),(.i .u8),(.i .u8),(.i .u8),(.i .u8),(.i .u8),(.i .u8),(.i .u8),(.i .u8),(.i .u8),(.i .u8),(.i .i64),(.i .u8),(.i .u8),(.i .u8),(.i .u8),(.i .u8),(.i .u8),(.i .u8),(.i .u8),(.i .u8),(.i .u8),(.i .u8),(.i .u8),(.i .u8),(.i .u8),(.i .u8),(.i .u8),(.i .i64),(.i .u8),(.i .u8),(.i .u8),(.i .u8),(.i .u8),(.i .u8),(.i .u8),(.i .u8),(.i .u8),(.i .u8),(.i .u8),(.i .u8),(.i .u8),(.i .u8),(.i .u8),(.i .u8),.s] true (t 20) (t 24)),[3,7])] [(2,0),(2,1),(1,2),(1,3),(2,4),(2,5),(1,6),(1,7),(2,8)] [0,0,3,7,0,0,48,112,255])<|
  .cond (t 25) (Rg [m 4 (.mov Bf)]<|
  .ret) (.skip))<|
  .region [Mv 15 5,m 16 (.bin .add .num (t 15) (Ci 1)),Mv 5 16])<|
  Rg [m 4 (.mov Bt)]<|
  .ret
def vf184:VFun:=⟨26,0,vb184,[.tmp 4],false⟩
theorem cf184:cFun Tryz.prog rawF false Tryz.f184=some vf184:=by kernel_rfl
theorem T184 (h:HT σ args Post vb184 vf184 []) (hl:args.length≤26:=by exact zB rfl):T Tryz.prog 184 args σ Post:=T.walk Tryz.func184 cf184 hl rfl h
@[reducible] def vb191:VC:=
  Rg [m 1 (.box 0 (t 0)),m 2 (.mov Bf)]<|
  Rg [m 3 (Ls 17 1),m 4 (.call false 55 [(t 3)]),Mv 5 4,Gt 6 5 (Fl 0 1),Gt 7 5 (Ld 6),Gt 8 5 (.bin .gtr .num (t 7) (.c q)),m 9 (.pick (t 5) (t 8) Bf),Mv 2 9]<|
  .ret
def vf191:VFun:=⟨10,1,vb191,[.tmp 2],false⟩
theorem cf191:cFun Tryz.prog rawF false Tryz.f191=some vf191:=by kernel_rfl
theorem T191 (h:HT σ args Post vb191 vf191 [dd]) (hl:args.length≤10:=by exact zB rfl):T Tryz.prog 191 args σ Post:=T.walk Tryz.func191 cf191 hl rfl h
@[reducible] def vb192:VC:=
  Rg [m 3 (.box 0 (t 0)),m 4 (.box 1 (t 1)),m 6 (.mov Bf)]<|
  Rg [m 11 (Ls 17 3),m 12 (.call false 55 [(t 11)]),Mv 7 12]<|
  Rg [m 13 (Ls 17 4),m 14 (.call false 55 [(t 13)]),Mv 8 14]<|
  Rg [m 15 (Ls 17 3),m 16 (.call false 179 [(t 15)]),Mv 9 16]<|
  Rg [m 17 (Ls 17 4),m 18 (.call false 179 [(t 17)]),Mv 10 18]<|
  .seq (Rg [Mv 19 7,m 20 (.un .not (t 19)),Mv 21 20,Gf 22 21 (.mov (t 8)),Gf 23 21 (.un .not (t 22)),m 24 (.pick (t 21) Bt (t 23)),Mv 25 24,Gf 26 25 (.mov (t 9)),m 27 (.pick (t 25) Bt (t 26)),Mv 28 27,Gf 29 28 (Fl 0 4),Gf 30 28 (Ld 29),Gf 31 28 (.bin .gtr .num (t 30) (.c q)),Gf 32 28 (.mov (t 31)),Gt 33 32 (.mov (t 10)),Gt 34 32 (.un .not (t 33)),Gf 35 28 (.pick (t 32) (t 34) Bf),m 36 (.pick (t 28) Bt (t 35))]<|
  .cond (t 36) (Rg [m 6 (.mov Bf)]<|
  .ret) (.skip))<|
  .seq (Rg [Mv 37 2,Mv 38 37,Gt 39 38 (Fl 0 3),Gt 40 38 (Ld 39),Gt 41 38 (.bin .eql .num (t 40) (.c q)),Gt 42 38 (.mov (t 41)),Gf 43 42 (Fl 0 4),Gf 44 42 (Ld 43),Gf 45 42 (.bin .eql .num (t 44) (.c q)),Gt 46 38 (.pick (t 42) Bt (t 45)),m 47 (.pick (t 38) (t 46) Bf)]<|
  .cond (t 47) (Rg [m 6 (.mov Bt)]<|
  .ret) (.skip))<|
  Rg [m 48 (Fl 0 3),m 49 (Ld 48),m 50 (.bin .gtr .num (t 49) (.c q)),Mv 51 50,Gt 52 51 (Fl 0 3),Gt 53 51 (Ld 52),Gt 54 51 (Fl 0 4),Gt 55 51 (Ld 54),Gt 56 51 (.bin .eql .num (t 53) (t 55)),m 57 (.pick (t 51) (t 56) Bf),Mv 6 57]<|
  .ret
def vf192:VFun:=⟨58,2,vb192,[.tmp 6],false⟩
theorem cf192:cFun Tryz.prog rawF false Tryz.f192=some vf192:=by kernel_rfl
theorem T192 (h:HT σ args Post vb192 vf192 [dd,dd]) (hl:args.length≤58:=by exact zB rfl):T Tryz.prog 192 args σ Post:=T.walk Tryz.func192 cf192 hl rfl h
@[reducible] def vb193:VC:=
  Rg [m 2 (.mov Bf)]<|
  .seq (Rg [Mv 7 0,m 8 (.len (t 7)),m 9 (.bin .lss .num (t 8) (Ci 1)),Mv 10 9,Gf 11 10 (.mov (t 0)),Gf 12 10 (.len (t 11)),Gf 13 10 (.bin .gtr .num (t 12) (Ci 300)),m 14 (.pick (t 10) Bt (t 13))]<|
  .cond (t 14) (Rg [m 2 (.mov Bf)]<|
  .ret) (.skip))<|
  .seq (Rg [Mv 15 0,m 16 (.index 1 (t 15) (.c q)),m 17 (Ld 16),m 18 (.convInt .i64 (t 17)),m 19 (.bin .neq .num (t 18) (Ci 2)),Mv 20 19,Gt 21 20 (.mov (t 0)),Gt 22 20 (.index 1 (t 21) (.c q)),Gt 23 20 (Ld 22),Gt 24 20 (.convInt .i64 (t 23)),Gt 25 20 (.bin .neq .num (t 24) (Ci 3)),m 26 (.pick (t 20) (t 25) Bf)]<|
  .cond (t 26) (Rg [m 2 (.mov Bf)]<|
  .ret) (.skip))<|
  .seq (Rg [m 3 (.mov (Ci 4))]<|
  .block 0<|.loop<|.seq (Rg [Mv 27 3,m 28 (.bin .leq .num (t 27) (Ci 16))]<|
  .cond (t 28) (.skip) (.exit 0))<|
  .seq (.block 1<|Rg [Mv 32 0,Mv 33 3,m 34 (.call false 229 [(t 32),(t 33)]),Mv 31 34,m 35 (.extract 0 (t 31)),m 36 (.extract 1 (t 31)),m 37 (.extract 2 (t 31)),m 4 (.alloc 0 [q,o,o,o,o,o,o,o,o,q,q,o,o,o,o,o,o,o,o,o,o,o,o,o,o,o,o,q,o,o,o,o,o,o,o,o,o,o,o,o,o,o,o,o,q,o,o,o,o,o,o,o,o,o,o,o,o,o,o,o,o,(.str [])]),e (.store 62 (t 4) (t 35)),Mv 5 36,Mv 6 37]<|
  Rg [Mv 38 6,m 39 (.bin .eql .num (t 38) (.c q)),Mv 40 39,Gt 41 40 (.mov (t 5)),Gt 42 40 (.mov (t 0)),Gt 43 40 (.len (t 42)),Gt 44 40 (.bin .eql .num (t 41) (t 43)),m 45 (.pick (t 40) (t 44) Bf),Mv 46 45,Gt 47 46 (Fl 0 4),Gt 48 46 (Ld 47),Gt 49 46 (.bin .eql .num (t 48) (Ci 2)),Gt 50 46 (.mov (t 49)),Gf 51 50 (Fl 0 4),Gf 52 50 (Ld 51),Gf 53 50 (.bin .eql .num (t 52) (Ci 3)),Gt 54 46 (.pick (t 50) Bt (t 53)),m 55 (.pick (t 46) (t 54) Bf)]<|
  .cond (t 55) (Rg [m 2 (.mov Bt)]<|
  .ret) (.skip))<|
  .region [Mv 29 3,m 30 (.bin .add .num (t 29) (Ci 12)),Mv 3 30])<|
  Rg [m 2 (.mov Bf)]<|
  .ret
def vf193:VFun:=⟨56,1,vb193,[.tmp 2],false⟩
theorem cf193:cFun Tryz.prog rawF false Tryz.f193=some vf193:=by kernel_rfl
theorem T193 (h:HT σ args Post vb193 vf193 [dd]) (hl:args.length≤56:=by exact zB rfl):T Tryz.prog 193 args σ Post:=T.walk Tryz.func193 cf193 hl rfl h
@[reducible] def vb229:VC:=
  Rg [m 4 (.alloc 0 [q,o,o,o,o,o,o,o,o,q,q,o,o,o,o,o,o,o,o,o,o,o,o,o,o,o,o,q,o,o,o,o,o,o,o,o,o,o,o,o,o,o,o,o,q,o,o,o,o,o,o,o,o,o,o,o,o,o,o,o,o,(.str [])]),m 5 (.mov (.c q)),m 6 (.mov (.c q))]<|
  .seq (Rg [Mv 11 1,m 12 (.bin .neq .num (t 11) (Ci 4)),Mv 13 12,Gt 14 13 (.mov (t 1)),Gt 15 13 (.bin .neq .num (t 14) (Ci 16)),m 16 (.pick (t 13) (t 15) Bf)]<|
  .cond (t 16) (Rg [m 17 (.build [q,o,o,o,o,o,o,o,o,q,q,o,o,o,o,o,o,o,o,o,o,o,o,o,o,o,o,q,o,o,o,o,o,o,o,o,o,o,o,o,o,o,o,o,q,o,o,o,o,o,o,o,o,o,o,o,o,o,o,o,o,(.str [])] []),e (.store 62 (t 4) (t 17)),m 5 (.mov (.c q)),m 6 (.mov (Ci 1))]<|
  .ret) (.skip))<|
  .seq (Rg [Mv 18 0,m 19 (.len (t 18)),m 20 (.bin .lss .num (t 19) (Ci 2)),Mv 21 20,Gf 22 21 (.mov (t 0)),Gf 23 21 (.len (t 22)),Gf 24 21 (.bin .sub .num (t 23) (Ci 2)),Gf 25 21 (.mov (t 0)),Gf 26 21 (.index 1 (t 25) (Ci 1)),Gf 27 21 (Ld 26),Gf 28 21 (.convInt .i64 (t 27)),Gf 29 21 (.bin .lss .num (t 24) (t 28)),m 30 (.pick (t 21) Bt (t 29))]<|
  .cond (t 30) (Rg [m 31 (.build [q,o,o,o,o,o,o,o,o,q,q,o,o,o,o,o,o,o,o,o,o,o,o,o,o,o,o,q,o,o,o,o,o,o,o,o,o,o,o,o,o,o,o,o,q,o,o,o,o,o,o,o,o,o,o,o,o,o,o,o,o,(.str [])] []),e (.store 62 (t 4) (t 31)),m 5 (.mov (.c q)),m 6 (.mov (Ci 3))]<|
  .ret) (.skip))<|
  Rg [Mv 32 0,m 33 (.index 1 (t 32) (Ci 1)),m 34 (Ld 33),m 35 (.convInt .i64 (t 34)),m 36 (.bin .add .num (Ci 2) (t 35)),Mv 7 36]<|
  .seq (.dreg [(Mv 38 0,[]),(m 39 (.index 1 (t 38) (.c q)),[0]),(m 40 (Ld 39),[1]),(m 41 (.convInt .i64 (t 40)),[2]),(Mv 42 0,[]),(Mv 43 7,[]),(m 44 (.slice 1 (t 42) (some (Ci 2)) (some (t 43))),[4,5]),(m 45 (.call false 253 [(t 41),(t 44)]),[3,6]),(Mv 37 45,[7]),(m 46 (.extract 0 (t 37)),[8]),(m 47 (.extract 1 (t 37)),[8]),(m 8 (.alloc 1 [q,o,o,o,o,o,o,o,o,q,q,o,o,o,o,o,o,o,o,o,o,o,o,o,o,o,o,q,o,o,o,o,o,o,o,o,o,o,o,o,o,o,o,o,q,o,o,o,o,o,o,o,o,o,o,o,o,o,o,o,o,(.str [])]),[]),(e (.store 62 (t 8) (t 46)),[11,9,7,0,1,2,3,4,5,6,7,8,9,11]),(Mv 9 47,[10,12,0,1,2,3,4,5,6,7,8,9,10,11,12])] [(2,0),(2,1),(2,2),(2,3),(2,4),(2,5),(2,6),(2,7),(2,8),(2,9),(2,10),(0,11),(0,12),(2,13)] [0,1,3,7,0,0,48,127,255,511,511,0,3071,8191])<|
  .seq (Rg [Mv 48 9,m 49 (.un .not (t 48))]<|
  .cond (t 49) (Rg [m 50 (.build [q,o,o,o,o,o,o,o,o,q,q,o,o,o,o,o,o,o,o,o,o,o,o,o,o,o,o,q,o,o,o,o,o,o,o,o,o,o,o,o,o,o,o,o,q,o,o,o,o,o,o,o,o,o,o,o,o,o,o,o,o,(.str [])] []),e (.store 62 (t 4) (t 50)),m 5 (.mov (.c q)),m 6 (.mov (Ci 4))]<|
  .ret) (.skip))<|
  Rg [m 51 (Ls 62 8),m 52 (.call false 151 [(t 51)]),Mv 10 52]<|
  .seq (Rg [Mv 53 10,m 54 (.un .not (t 53)),Mv 55 54,Gf 56 55 (Ls 62 8),Gf 57 55 (.mov (t 1)),Gf 58 55 (.call false 254 [(t 56),(t 57)]),Gf 59 55 (.un .not (t 58)),m 60 (.pick (t 55) Bt (t 59))]<|
  .cond (t 60) (Rg [m 61 (.build [q,o,o,o,o,o,o,o,o,q,q,o,o,o,o,o,o,o,o,o,o,o,o,o,o,o,o,q,o,o,o,o,o,o,o,o,o,o,o,o,o,o,o,o,q,o,o,o,o,o,o,o,o,o,o,o,o,o,o,o,o,(.str [])] []),e (.store 62 (t 4) (t 61)),m 5 (.mov (.c q)),m 6 (.mov (Ci 4))]<|
  .ret) (.skip))<|
  Rg [m 62 (Ls 62 8),Mv 63 7,e (.store 62 (t 4) (t 62)),Mv 5 63,m 6 (.mov (.c q))]<|
  .ret
def vf229:VFun:=⟨64,2,vb229,[.cell 4 (some 62),.tmp 5,.tmp 6],false⟩
theorem cf229:cFun Tryz.prog rawF false Tryz.f229=some vf229:=by kernel_rfl
theorem T229 (h:HT σ args Post vb229 vf229 [dd,dd]) (hl:args.length≤64:=by exact zB rfl):T Tryz.prog 229 args σ Post:=T.walk Tryz.func229 cf229 hl rfl h
@[reducible] def vb253:VC:=
  Rg [m 4 (.alloc 0 [q,o,o,o,o,o,o,o,o,q,q,o,o,o,o,o,o,o,o,o,o,o,o,o,o,o,o,q,o,o,o,o,o,o,o,o,o,o,o,o,o,o,o,o,q,o,o,o,o,o,o,o,o,o,o,o,o,o,o,o,o,(.str [])]),m 5 (.mov Bf)]<|
  Rg [Mv 15 0,m 16 (.build [q,o,o,o,o,o,o,o,o,q,q,o,o,o,o,o,o,o,o,o,o,o,o,o,o,o,o,q,o,o,o,o,o,o,o,o,o,o,o,o,o,o,o,o,q,o,o,o,o,o,o,o,o,o,o,o,o,o,o,o,o,(.str [])] [(0,1,(t 15))]),m 6 (.alloc 1 [q,o,o,o,o,o,o,o,o,q,q,o,o,o,o,o,o,o,o,o,o,o,o,o,o,o,o,q,o,o,o,o,o,o,o,o,o,o,o,o,o,o,o,o,q,o,o,o,o,o,o,o,o,o,o,o,o,o,o,o,o,(.str [])]),e (.store 62 (t 6) (t 16))]<|
  .seq (Rg [Mv 17 0,m 18 (.bin .lss .num (t 17) (Ci 1)),Mv 19 18,Gf 20 19 (.mov (t 0)),Gf 21 19 (.bin .gtr .num (t 20) (Ci 7)),m 22 (.pick (t 19) Bt (t 21))]<|
  .cond (t 22) (Rg [m 23 (Ls 62 6),e (.store 62 (t 4) (t 23)),m 5 (.mov Bf)]<|
  .ret) (.skip))<|
  Rg [Mv 25 0,m 26 (.call false 152 [(t 25)]),Mv 24 26,m 27 (.extract 0 (t 24)),m 28 (.extract 1 (t 24)),m 29 (.extract 2 (t 24)),m 30 (.extract 3 (t 24)),Mv 7 27,Mv 8 28,Mv 9 29,Mv 10 30]<|
  Rg [Mv 31 1,m 32 (.call false 265 [(t 31)]),Mv 11 32]<|
  .seq (Rg [Mv 33 0,m 34 (.bin .eql .num (t 33) (Ci 4))]<|
  .cond (t 34) (Rg [m 12 (.mov (.c q))]<|
  .seq (Rg [Mv 35 1,m 36 (.len (t 35)),m 37 (.bin .gtr .num (t 36) (Ci 1))]<|
  .cond (t 37) (.region [Mv 38 1,m 39 (.index 1 (t 38) (Ci 1)),m 40 (Ld 39),m 41 (.convInt .i64 (t 40)),Mv 12 41]) (.skip))<|
  .region [Mv 42 11,Mv 43 12,m 44 (.bin .add .num (Ci 2) (t 43)),m 45 (.call false 266 [(t 42),(t 44)]),m 46 (.b2s (t 45)),m 47 (Fl 61 6),e (.store 1 (t 47) (t 46))]) (.skip))<|
  .seq (Rg [Mv 48 7]<|
  .cond (t 48) (.region [Mv 49 11,m 50 (.call false 266 [(t 49),(Ci 8)]),m 51 (.call false 150 [(t 50)]),m 52 (Fl 1 6),e (.store 8 (t 52) (t 51))]) (.skip))<|
  .seq (Rg [Mv 53 8]<|
  .cond (t 53) (.region [Mv 54 11,m 55 (.call false 267 [(t 54),(Ci 4)]),m 56 (Fl 9 6),e (.store 1 (t 56) (t 55))]) (.skip))<|
  .seq (Rg [Mv 57 9]<|
  .cond (t 57) (Rg [Mv 58 11,m 59 (.call false 268 [(t 58)]),m 60 (Fl 10 6),e (.store 17 (t 60) (t 59))]<|
  .region [Mv 61 11,m 62 (.call false 268 [(t 61)]),m 63 (Fl 27 6),e (.store 17 (t 63) (t 62))]) (.skip))<|
  .seq (Rg [Mv 64 10]<|
  .cond (t 64) (Rg [Mv 66 11,m 67 (.call false 269 [(t 66)]),m 68 (.call false 178 [(t 67)]),Mv 65 68,m 69 (.extract 0 (t 65)),m 70 (.extract 1 (t 65)),m 13 (.alloc 2 [q,o,o,o,o,o,o,o,o,o,o,o,o,o,o,o,o]),e (.store 17 (t 13) (t 69)),Mv 14 70]<|
  Rg [m 71 (Ls 17 13),m 72 (Fl 44 6),e (.store 17 (t 72) (t 71))]<|
  Rg [Mv 73 14,m 74 (.bin .neq .num (t 73) (.c q))]<|
  .cond (t 74) (Rg [m 75 (Ls 62 6),e (.store 62 (t 4) (t 75)),m 5 (.mov Bf)]<|
  .ret) (.skip)) (.skip))<|
  .seq (.dreg [(m 76 (Ls 62 6),[]),(Mv 77 11,[]),(m 78 (.call false 270 [(t 77)]),[1]),(e (.store 62 (t 4) (t 76)),[0,2,0]),(Mv 5 78,[2,3,0,1,2,3])] [(2,0),(2,1),(0,2),(0,3),(2,4)] [0,0,2,7,15])<|
  .ret
def vf253:VFun:=⟨79,3,vb253,[.cell 4 (some 62),.tmp 5],false⟩
theorem cf253:cFun Tryz.prog rawF false Tryz.f253=some vf253:=by kernel_rfl
theorem T253 (h:HT σ args Post vb253 vf253 [dd,dd,dd]) (hl:args.length≤79:=by exact zB rfl):T Tryz.prog 253 args σ Post:=T.walk Tryz.func253 cf253 hl rfl h
@[reducible] def vb254:VC:=
  Rg [m 2 (.box 0 (t 0)),m 4 (.mov Bf)]<|
  .seq (Rg [m 8 (Fl 0 2),m 9 (Ld 8),m 10 (.bin .eql .num (t 9) (Ci 4))]<|
  .cond (t 10) (Rg [m 12 (Fl 61 2),m 13 (Ld 12),m 14 (.s2b 1 (t 13)),Mv 15 1,m 16 (.call false 229 [(t 14),(t 15)]),Mv 11 16,m 17 (.extract 0 (t 11)),m 18 (.extract 1 (t 11)),m 19 (.extract 2 (t 11)),m 5 (.alloc 2 [q,o,o,o,o,o,o,o,o,q,q,o,o,o,o,o,o,o,o,o,o,o,o,o,o,o,o,q,o,o,o,o,o,o,o,o,o,o,o,o,o,o,o,o,q,o,o,o,o,o,o,o,o,o,o,o,o,o,o,o,o,(.str [])]),e (.store 62 (t 5) (t 17)),Mv 6 18,Mv 7 19]<|
  Rg [Mv 20 7,m 21 (.bin .eql .num (t 20) (.c q)),Mv 22 21,Gt 23 22 (Fl 0 5),Gt 24 22 (Ld 23),Gt 25 22 (.bin .eql .num (t 24) (Ci 2)),Gt 26 22 (.mov (t 25)),Gf 27 26 (Fl 0 5),Gf 28 26 (Ld 27),Gf 29 26 (.bin .eql .num (t 28) (Ci 3)),Gt 30 22 (.pick (t 26) Bt (t 29)),m 31 (.pick (t 22) (t 30) Bf),Mv 4 31]<|
  .ret) (.skip))<|
  Rg [m 32 (Fl 10 2),m 33 (Fl 0 32),m 34 (Ld 33),m 35 (.bin .eql .num (t 34) (.c q)),Mv 36 35,Gf 37 36 (Fl 10 2),Gf 38 36 (Fl 0 37),Gf 39 36 (Ld 38),Gf 40 36 (.mov (t 1)),Gf 41 36 (.bin .eql .num (t 39) (t 40)),m 42 (.pick (t 36) Bt (t 41)),Mv 43 42,Gt 44 43 (Fl 27 2),Gt 45 43 (Fl 0 44),Gt 46 43 (Ld 45),Gt 47 43 (.bin .eql .num (t 46) (.c q)),Gt 48 43 (.mov (t 47)),Gf 49 48 (Fl 27 2),Gf 50 48 (Fl 0 49),Gf 51 48 (Ld 50),Gf 52 48 (.mov (t 1)),Gf 53 48 (.bin .eql .num (t 51) (t 52)),Gt 54 43 (.pick (t 48) Bt (t 53)),m 55 (.pick (t 43) (t 54) Bf),Mv 4 55]<|
  .ret
def vf254:VFun:=⟨56,3,vb254,[.tmp 4],false⟩
theorem cf254:cFun Tryz.prog rawF false Tryz.f254=some vf254:=by kernel_rfl
theorem T254 (h:HT σ args Post vb254 vf254 [dd,dd,dd]) (hl:args.length≤56:=by exact zB rfl):T Tryz.prog 254 args σ Post:=T.walk Tryz.func254 cf254 hl rfl h
@[reducible] def vb268:VC:=
  Rg [m 2 (.alloc 0 [q,o,o,o,o,o,o,o,o,o,o,o,o,o,o,o,o])]<|
  Rg [Mv 6 0,m 7 (.call false 267 [(t 6),(Ci 1)]),Mv 3 7]<|
  .seq (Rg [Mv 8 3,m 9 (.bin .rem .num (t 8) (Ci 8)),m 10 (.bin .neq .num (t 9) (.c q))]<|
  .cond (t 10) (.region [Mv 11 0,m 12 (.nilCheck (t 11)),m 13 (Fl 2 12),e (.store 1 (t 13) Bt)]) (.skip))<|
  Rg [Mv 15 0,Mv 16 3,m 17 (.bin .quo .num (t 16) (Ci 8)),m 18 (.call false 266 [(t 15),(t 17)]),m 19 (.call false 178 [(t 18)]),Mv 14 19,m 20 (.extract 0 (t 14)),m 21 (.extract 1 (t 14)),m 4 (.alloc 1 [q,o,o,o,o,o,o,o,o,o,o,o,o,o,o,o,o]),e (.store 17 (t 4) (t 20)),Mv 5 21]<|
  .seq (Rg [Mv 22 5,m 23 (.bin .neq .num (t 22) (.c q))]<|
  .cond (t 23) (.region [Mv 24 0,m 25 (.nilCheck (t 24)),m 26 (Fl 2 25),e (.store 1 (t 26) Bt)]) (.skip))<|
  Rg [m 27 (Ls 17 4),e (.store 17 (t 2) (t 27))]<|
  .ret
def vf268:VFun:=⟨28,2,vb268,[.cell 2 (some 17)],false⟩
theorem cf268:cFun Tryz.prog rawF false Tryz.f268=some vf268:=by kernel_rfl
theorem T268 (h:HT σ args Post vb268 vf268 [dd,dd]) (hl:args.length≤28:=by exact zB rfl):T Tryz.prog 268 args σ Post:=T.walk Tryz.func268 cf268 hl rfl h
@[reducible] def vb228:VC:=
  Rg [m 1 (.box 0 (t 0)),m 2 (.newRow 1 1),m 3 (.mov (.c q))]<|
  Rg [m 8 (Ls 27 1),m 9 (.call false 251 [(t 8)]),Mv 4 9]<|
  .seq (Rg [Mv 10 4,m 11 (.un .not (t 10))]<|
  .cond (t 11) (Rg [m 2 (.newRow 1 1),m 3 (.mov (Ci 1))]<|
  .ret) (.skip))<|
  Rg [m 13 (Fl 26 1),m 14 (Ld 13),m 15 (.call false 252 [(t 14),Bt]),Mv 12 15,m 16 (.extract 0 (t 12)),m 17 (.extract 1 (t 12)),Mv 5 16,Mv 6 17]<|
  Rg [m 18 (Fl 8 1),m 19 (Fl 17 18),m 20 (Ld 19),m 21 (.bin .add .num (Ci 88) (t 20)),m 22 (.convInt .u8 (t 21)),m 23 (.buildSlice 2 1 1 [o] [(0,(t 22))]),Mv 24 5,m 25 (.append 3 1 1 (t 23) (t 24)),Mv 7 25]<|
  Rg [Mv 26 7,m 27 (Fl 0 1),m 28 (.sliceArr 8 1 (t 27) none none),m 29 (.append 4 1 1 (t 26) (t 28)),Mv 7 29]<|
  Rg [Mv 30 7,m 31 (Fl 8 1),m 32 (Fl 0 31),m 33 (Fl 1 32),m 34 (Fl 8 1),m 35 (Fl 17 34),m 36 (Ld 35),m 37 (.bin .add .num (t 36) (Ci 7)),m 38 (.bin .quo .num (t 37) (Ci 8)),m 39 (.sliceArr 16 1 (t 33) none (some (t 38))),m 40 (.append 5 1 1 (t 30) (t 39)),Mv 2 40,m 3 (.mov (.c q))]<|
  .ret
def vf228:VFun:=⟨41,6,vb228,[.tmp 2,.tmp 3],false⟩
theorem cf228:cFun Tryz.prog rawF false Tryz.f228=some vf228:=by kernel_rfl
theorem T228 (h:HT σ args Post vb228 vf228 [dd,dd,dd,dd,dd,dd]) (hl:args.length≤41:=by exact zB rfl):T Tryz.prog 228 args σ Post:=T.walk Tryz.func228 cf228 hl rfl h
@[reducible] def vb230:VC:=
  Rg [m 4 (.alloc 0 [o,o,o,o,o,o,o,o,q,o,o,o,o,o,o,o,o,o,o,o,o,o,o,o,o,q,q]),m 5 (.mov (.c q)),m 6 (.mov (.c q))]<|
  .seq (Rg [Mv 16 1,m 17 (.bin .neq .num (t 16) (Ci 4)),Mv 18 17,Gt 19 18 (.mov (t 1)),Gt 20 18 (.bin .neq .num (t 19) (Ci 16)),m 21 (.pick (t 18) (t 20) Bf)]<|
  .cond (t 21) (Rg [m 22 (.build [o,o,o,o,o,o,o,o,q,o,o,o,o,o,o,o,o,o,o,o,o,o,o,o,o,q,q] []),e (.store 27 (t 4) (t 22)),m 5 (.mov (.c q)),m 6 (.mov (Ci 1))]<|
  .ret) (.skip))<|
  .seq (Rg [Mv 23 0,m 24 (.len (t 23)),m 25 (.bin .eql .num (t 24) (.c q)),Mv 26 25,Gf 27 26 (.mov (t 0)),Gf 28 26 (.len (t 27)),Gf 29 26 (.bin .sub .num (t 28) (Ci 1)),Gf 30 26 (.mov (t 0)),Gf 31 26 (.index 1 (t 30) (.c q)),Gf 32 26 (Ld 31),Gf 33 26 (.convInt .i64 (t 32)),Gf 34 26 (.bin .add .num (t 33) (Ci 7)),Gf 35 26 (.bin .quo .num (t 34) (Ci 8)),Gf 36 26 (.bin .lss .num (t 29) (t 35)),m 37 (.pick (t 26) Bt (t 36))]<|
  .cond (t 37) (Rg [m 38 (.build [o,o,o,o,o,o,o,o,q,o,o,o,o,o,o,o,o,o,o,o,o,o,o,o,o,q,q] []),e (.store 27 (t 4) (t 38)),m 5 (.mov (.c q)),m 6 (.mov (Ci 3))]<|
  .ret) (.skip))<|
  Rg [Mv 39 0,m 40 (.index 1 (t 39) (.c q)),m 41 (Ld 40),m 42 (.convInt .i64 (t 41)),m 43 (.bin .add .num (t 42) (Ci 7)),m 44 (.bin .quo .num (t 43) (Ci 8)),m 45 (.bin .add .num (Ci 1) (t 44)),Mv 7 45]<|
  Rg [Mv 46 0,m 47 (.index 1 (t 46) (.c q)),m 48 (Ld 47),m 49 (.convInt .i64 (t 48)),m 50 (.bin .sub .num (t 49) (Ci 88)),Mv 8 50]<|
  .seq (Rg [Mv 51 8,m 52 (.bin .lss .num (t 51) (.c q)),Mv 53 52,Gf 54 53 (.mov (t 8)),Gf 55 53 (.mov (t 1)),Gf 56 53 (.bin .mul .num (Ci 8) (t 55)),Gf 57 53 (.bin .gtr .num (t 54) (t 56)),m 58 (.pick (t 53) Bt (t 57))]<|
  .cond (t 58) (Rg [m 59 (.build [o,o,o,o,o,o,o,o,q,o,o,o,o,o,o,o,o,o,o,o,o,o,o,o,o,q,q] []),e (.store 27 (t 4) (t 59)),m 5 (.mov (.c q)),m 6 (.mov (Ci 4))]<|
  .ret) (.skip))<|
  Rg [Mv 60 0,m 61 (.slice 1 (t 60) (some (Ci 4)) (some (Ci 12))),m 62 (.call false 150 [(t 61)]),m 63 (.build [o,o,o,o,o,o,o,o,q,o,o,o,o,o,o,o,o,o,o,o,o,o,o,o,o,q,q] [(0,8,(t 62))]),m 9 (.alloc 1 [o,o,o,o,o,o,o,o,q,o,o,o,o,o,o,o,o,o,o,o,o,o,o,o,o,q,q]),e (.store 27 (t 9) (t 63))]<|
  Rg [Mv 65 0,m 66 (.slice 1 (t 65) (some (Ci 1)) (some (Ci 4))),m 67 (.call false 255 [(t 66)]),Mv 64 67,m 68 (.extract 0 (t 64)),m 69 (.extract 1 (t 64)),m 70 (.extract 2 (t 64)),Mv 10 68,Mv 11 69,Mv 12 70]<|
  Rg [Mv 71 10,m 72 (Fl 26 9),e (.store 1 (t 72) (t 71))]<|
  Rg [Mv 73 1,m 74 (.build [q,o,o,o,o,o,o,o,o,o,o,o,o,o,o,o,o] [(0,1,(t 73))]),Mv 75 8,m 76 (.build [q,o,o,o,o,o,o,o,o,o,o,o,o,o,o,o,o,q] [(0,17,(t 74)),(17,1,(t 75))]),m 77 (Fl 8 9),e (.store 18 (t 77) (t 76))]<|
  .seq (Rg [m 13 (.mov (Ci 12))]<|
  .block 0<|.loop<|.seq (Rg [Mv 78 13,Mv 79 7,m 80 (.bin .lss .num (t 78) (t 79))]<|
  .cond (t 80) (.skip) (.exit 0))<|
  .seq (.block 1<|.region [Mv 83 13,m 84 (.bin .sub .num (t 83) (Ci 12)),Mv 85 0,Mv 86 13,m 87 (.index 1 (t 85) (t 86)),m 88 (Ld 87),m 89 (Fl 8 9),m 90 (Fl 0 89),m 91 (Fl 1 90),m 92 (.indexArr 16 1 (t 91) (t 84)),e (.store 1 (t 92) (t 88))])<|
  .region [Mv 81 13,m 82 (.bin .add .num (t 81) (Ci 1)),Mv 13 82])<|
  Rg [m 94 (Ls 27 9),m 95 (.call false 228 [(t 94)]),Mv 93 95,m 96 (.extract 0 (t 93)),m 97 (.extract 1 (t 93)),Mv 14 96,Mv 15 97]<|
  .seq (.seq (.dreg [(Mv 98 12,[]),(m 99 (.bin .neq .num (t 98) (.c q)),[0]),(Mv 100 99,[1]),(Gf 101 100 (.mov (t 15)),[2]),(Gf 102 100 (.bin .neq .num (t 101) (.c q)),[3,2]),(m 103 (.pick (t 100) Bt (t 102)),[2,4]),(Mv 104 103,[5,2]),(Gf 105 104 (.mov (t 14)),[6]),(Gf 106 104 (.b2s (t 105)),[7,6]),(Gf 107 104 (.mov (t 0)),[6]),(Gf 108 104 (.mov (t 7)),[6]),(Gf 109 104 (.slice 1 (t 107) none (some (t 108))),[9,10,6]),(Gf 110 104 (.b2s (t 109)),[11,6]),(Gf 111 104 (.bin .neq .num (t 106) (t 110)),[8,12,6]),(m 112 (.pick (t 104) Bt (t 111)),[6,13])] [(2,0),(2,1),(2,2),(2,3),(2,4),(2,5),(2,6),(2,7),(1,8),(2,9),(2,10),(1,11),(1,12),(2,13),(2,14)] [0,1,3,7,15,31,63,127,255,127,127,1663,3711,8191,16383])<|
  .cond (t 112) (Rg [m 113 (.build [o,o,o,o,o,o,o,o,q,o,o,o,o,o,o,o,o,o,o,o,o,o,o,o,o,q,q] []),e (.store 27 (t 4) (t 113)),m 5 (.mov (.c q)),m 6 (.mov (Ci 4))]<|
  .ret) (.skip))<|
  Rg [m 114 (Ls 27 9),Mv 115 7,e (.store 27 (t 4) (t 114)),Mv 5 115,m 6 (.mov (.c q))]<|
  .ret
def vf230:VFun:=⟨116,2,vb230,[.cell 4 (some 27),.tmp 5,.tmp 6],false⟩
theorem cf230:cFun Tryz.prog rawF false Tryz.f230=some vf230:=by kernel_rfl
theorem T230 (h:HT σ args Post vb230 vf230 [dd,dd]) (hl:args.length≤116:=by exact zB rfl):T Tryz.prog 230 args σ Post:=T.walk Tryz.func230 cf230 hl rfl h
@[reducible] def vb182:VC:=
  Rg [m 2 (.newRow 0 1),m 3 (.mov (.c q))]<|
  Rg [m 4 (.newRow 1 1)]<|
  .seq (Rg [m 5 (.mov (.c q))]<|
  .block 0<|.loop<|.seq (Rg [Mv 8 5,Mv 9 0,m 10 (.len (t 9)),m 11 (.bin .lss .num (t 8) (t 10))]<|
  .cond (t 11) (.skip) (.exit 0))<|
  .seq (.block 1<|Rg [Mv 15 0,Mv 16 5,m 17 (.index 27 (t 15) (t 16)),m 18 (Ls 27 17),m 19 (.call false 228 [(t 18)]),Mv 14 19,m 20 (.extract 0 (t 14)),m 21 (.extract 1 (t 14)),Mv 6 20,Mv 7 21]<|
  .seq (Rg [Mv 22 7,m 23 (.bin .neq .num (t 22) (.c q))]<|
  .cond (t 23) (Rg [Mv 24 7,m 2 (.newRow 0 1),Mv 3 24]<|
  .ret) (.skip))<|
  .region [Mv 25 4,Mv 26 6,m 27 (.append 2 1 1 (t 25) (t 26)),Mv 4 27])<|
  .region [Mv 12 5,m 13 (.bin .add .num (t 12) (Ci 1)),Mv 5 13])<|
  Rg [Mv 28 4,Mv 2 28,m 3 (.mov (.c q))]<|
  .ret
def vf182:VFun:=⟨29,3,vb182,[.tmp 2,.tmp 3],false⟩
theorem cf182:cFun Tryz.prog rawF false Tryz.f182=some vf182:=by kernel_rfl
theorem T182 (h:HT σ args Post vb182 vf182 [dd,dd,dd]) (hl:args.length≤29:=by exact zB rfl):T Tryz.prog 182 args σ Post:=T.walk Tryz.func182 cf182 hl rfl h
@[reducible] def vb185:VC:=
  Rg [m 4 (.newRow 0 27),m 5 (.mov (.c q))]<|
  .seq (Rg [Mv 11 1,m 12 (.bin .neq .num (t 11) (Ci 4)),Mv 13 12,Gt 14 13 (.mov (t 1)),Gt 15 13 (.bin .neq .num (t 14) (Ci 16)),m 16 (.pick (t 13) (t 15) Bf)]<|
  .cond (t 16) (Rg [m 4 (.newRow 0 27),m 5 (.mov (Ci 1))]<|
  .ret) (.skip))<|
  Rg [m 6 (.newRow 1 27)]<|
  .seq (Rg [m 7 (.mov (.c q))]<|
  .block 0<|.loop<|.seq (Rg [Mv 17 7,Mv 18 0,m 19 (.len (t 18)),m 20 (.bin .lss .num (t 17) (t 19))]<|
  .cond (t 20) (.skip) (.exit 0))<|
  .block 1<|Rg [Mv 22 0,Mv 23 7,m 24 (.slice 1 (t 22) (some (t 23)) none),Mv 25 1,m 26 (.call false 230 [(t 24),(t 25)]),Mv 21 26,m 27 (.extract 0 (t 21)),m 28 (.extract 1 (t 21)),m 29 (.extract 2 (t 21)),m 8 (.alloc 2 [o,o,o,o,o,o,o,o,q,o,o,o,o,o,o,o,o,o,o,o,o,o,o,o,o,q,q]),e (.store 27 (t 8) (t 27)),Mv 9 28,Mv 10 29]<|
  .seq (Rg [Mv 30 10,m 31 (.bin .neq .num (t 30) (.c q))]<|
  .cond (t 31) (Rg [Mv 32 10,m 4 (.newRow 0 27),Mv 5 32]<|
  .ret) (.skip))<|
  Rg [Mv 33 6,m 34 (Ls 27 8),m 35 (.buildSlice 3 27 1 [o,o,o,o,o,o,o,o,q,o,o,o,o,o,o,o,o,o,o,o,o,o,o,o,o,q,q] [(0,(t 34))]),m 36 (.append 4 27 48 (t 33) (t 35)),Mv 6 36]<|
  .region [Mv 37 7,Mv 38 9,m 39 (.bin .add .num (t 37) (t 38)),Mv 7 39])<|
  Rg [Mv 40 6,Mv 4 40,m 5 (.mov (.c q))]<|
  .ret
def vf185:VFun:=⟨41,5,vb185,[.tmp 4,.tmp 5],false⟩
theorem cf185:cFun Tryz.prog rawF false Tryz.f185=some vf185:=by kernel_rfl
theorem T185 (h:HT σ args Post vb185 vf185 [dd,dd,dd,dd,dd]) (hl:args.length≤41:=by exact zB rfl):T Tryz.prog 185 args σ Post:=T.walk Tryz.func185 cf185 hl rfl h
@[reducible] def vb186:VC:=
  Rg [m 4 (.mov Bf)]<|
  .seq (Rg [Mv 6 0,m 7 (.len (t 6)),Mv 8 1,m 9 (.len (t 8)),m 10 (.bin .neq .num (t 7) (t 9))]<|
  .cond (t 10) (Rg [m 4 (.mov Bf)]<|
  .ret) (.skip))<|
  .seq (Rg [m 5 (.mov (.c q))]<|
  .block 0<|.loop<|.seq (Rg [Mv 11 5,Mv 12 0,m 13 (.len (t 12)),m 14 (.bin .lss .num (t 11) (t 13))]<|
  .cond (t 14) (.skip) (.exit 0))<|
  .seq (.block 1<|.seq (.dreg [(Mv 17 0,[]),(Mv 18 5,[]),(m 19 (.index 27 (t 17) (t 18)),[0,1]),(m 20 (Ls 27 19),[2]),(Mv 21 1,[]),(Mv 22 5,[]),(m 23 (.index 27 (t 21) (t 22)),[4,5]),(m 24 (Ls 27 23),[6]),(m 25 (.eqAgg [(.i .u8),(.i .u8),(.i .u8),(.i .u8),(.i .u8),(.i .u8),(.i .u8),(.i .u8),(.i .i64),(.i .u8),(.i .u8),(.i .u8),(.i .u8),(.i .u8),(.i .u8),(.i .u8),(.i .u8),(.i .u8),(.i .u8),(.i .u8),(.i .u8),(.i .u8),(.i .u8),(.i .u8),(.i .u8),(.i .i64),(.i .i64)] true (t 20) (t 24)),[3,7])] [(2,0),(2,1),(1,2),(1,3),(2,4),(2,5),(1,6),(1,7),(2,8)] [0,0,3,7,0,0,48,112,255])<|
  .cond (t 25) (Rg [m 4 (.mov Bf)]<|
  .ret) (.skip))<|
  .region [Mv 15 5,m 16 (.bin .add .num (t 15) (Ci 1)),Mv 5 16])<|
  Rg [m 4 (.mov Bt)]<|
  .ret
def vf186:VFun:=⟨26,0,vb186,[.tmp 4],false⟩
theorem cf186:cFun Tryz.prog rawF false Tryz.f186=some vf186:=by kernel_rfl
theorem T186 (h:HT σ args Post vb186 vf186 []) (hl:args.length≤26:=by exact zB rfl):T Tryz.prog 186 args σ Post:=T.walk Tryz.func186 cf186 hl rfl h
@[reducible] def vb251:VC:=
  Rg [m 1 (.box 0 (t 0)),m 2 (.mov Bf)]<|
  Rg [m 4 (Fl 8 1),m 5 (Ls 18 4),m 6 (.call false 264 [(t 5)]),Mv 3 6]<|
  Rg [Mv 7 3,Mv 8 7,Gt 9 8 (Fl 26 1),Gt 10 8 (Ld 9),Gt 11 8 (.bin .geq .num (t 10) (.c q)),m 12 (.pick (t 8) (t 11) Bf),Mv 13 12,Gt 14 13 (Fl 26 1),Gt 15 13 (Ld 14),Gt 16 13 (.bin .leq .num (t 15) (Ci 1048575)),m 17 (.pick (t 13) (t 16) Bf),Mv 2 17]<|
  .ret
def vf251:VFun:=⟨18,1,vb251,[.tmp 2],false⟩
theorem cf251:cFun Tryz.prog rawF false Tryz.f251=some vf251:=by kernel_rfl
theorem T251 (h:HT σ args Post vb251 vf251 [dd]) (hl:args.length≤18:=by exact zB rfl):T Tryz.prog 251 args σ Post:=T.walk Tryz.func251 cf251 hl rfl h
end Go.Proofs.YtdpeaefgbmkegaaGreatDoor
namespace Go.Proofs.YtdpeaefgbmkegaaGreatDoor
open Go Go.V D
variable {args:List PV} {σ:VHeap} {Post:KP}
@[reducible] def vb15:VC:=
  Rg [m 1 (.box 0 (t 0)),m 2 (.mov Bf)]<|
  Rg [m 5 (.build [q,o,o,o,o,o,o,o,o,q,q,o,o,o,o,o,o,o,o,o,o,o,o,o,o,o,o,q,o,o,o,o,o,o,o,o,o,o,o,o,o,o,o,o,q,o,o,o,o,o,o,o,o,o,o,o,o,o,o,o,o,(.str [])] []),m 3 (.alloc 1 [q,o,o,o,o,o,o,o,o,q,q,o,o,o,o,o,o,o,o,o,o,o,o,o,o,o,o,q,o,o,o,o,o,o,o,o,o,o,o,o,o,o,o,o,q,o,o,o,o,o,o,o,o,o,o,o,o,o,o,o,o,(.str [])]),e (.store 62 (t 3) (t 5))]<|
  Rg [m 6 (.build [o,o,o,o,o,o,o,o,q,o,o,o,o,o,o,o,o,o,o,o,o,o,o,o,o,q,q] []),m 4 (.alloc 2 [o,o,o,o,o,o,o,o,q,o,o,o,o,o,o,o,o,o,o,o,o,o,o,o,o,q,q]),e (.store 27 (t 4) (t 6))]<|
  .seq (Rg [m 7 (Fl 1 1),m 8 (Ld 7),m 9 (.bin .eql .num (t 8) (Ci 5)),Mv 10 9,Gt 11 10 (Fl 64 1),Gt 12 10 (Ls 27 11),Gt 13 10 (Ls 27 4),Gt 14 10 (.eqAgg [(.i .u8),(.i .u8),(.i .u8),(.i .u8),(.i .u8),(.i .u8),(.i .u8),(.i .u8),(.i .i64),(.i .u8),(.i .u8),(.i .u8),(.i .u8),(.i .u8),(.i .u8),(.i .u8),(.i .u8),(.i .u8),(.i .u8),(.i .u8),(.i .u8),(.i .u8),(.i .u8),(.i .u8),(.i .u8),(.i .i64),(.i .i64)] true (t 12) (t 13)),m 15 (.pick (t 10) (t 14) Bf),Mv 16 15,Gf 17 16 (Fl 1 1),Gf 18 16 (Ld 17),Gf 19 16 (.bin .eql .num (t 18) (Ci 128)),Gf 20 16 (.mov (t 19)),Gt 21 20 (Fl 2 1),Gt 22 20 (Ls 62 21),Gt 23 20 (Ls 62 3),Gt 24 20 (.eqAgg [(.i .i64),(.i .u8),(.i .u8),(.i .u8),(.i .u8),(.i .u8),(.i .u8),(.i .u8),(.i .u8),(.i .i64),(.i .i64),(.i .u8),(.i .u8),(.i .u8),(.i .u8),(.i .u8),(.i .u8),(.i .u8),(.i .u8),(.i .u8),(.i .u8),(.i .u8),(.i .u8),(.i .u8),(.i .u8),(.i .u8),(.i .u8),(.i .i64),(.i .u8),(.i .u8),(.i .u8),(.i .u8),(.i .u8),(.i .u8),(.i .u8),(.i .u8),(.i .u8),(.i .u8),(.i .u8),(.i .u8),(.i .u8),(.i .u8),(.i .u8),(.i .u8),(.i .i64),(.i .u8),(.i .u8),(.i .u8),(.i .u8),(.i .u8),(.i .u8),(.i .u8),(.i .u8),(.i .u8),(.i .u8),(.i .u8),(.i .u8),(.i .u8),(.i .u8),(.i .u8),(.i .u8),.s] true (t 22) (t 23)),Gf 25 16 (.pick (t 20) (t 24) Bf),m 26 (.pick (t 16) Bt (t 25))]<|
  .cond (t 26) (Rg [m 2 (.mov Bf)]<|
  .ret) (.skip))<|
  .seq (.dreg [(m 27 (Fl 108 1),[]),(m 28 (Ls 24 27),[0]),(m 29 (Ls 132 1),[]),(m 30 (.call false 45 [(t 29)]),[2]),(m 31 (.buildSlice 3 21 1 [q,q,q,o,o,o,o,o,o,o,o,o,o,o,o,o,o,o,o,.nils,.nils] [(0,(t 30))]),[3]),(m 32 (.build [q,.nils,q,q,q,o,o,o,o,o,o,o,o,o,o,o,o,o,o,o,o,.nils,.nils,.nils,.nils,.nils] [(0,24,(t 28)),(24,1,(t 31))]),[1,4]),(m 33 (.call false 44 [(t 32)]),[5,3]),(Mv 2 33,[6,6,0,1,2,3,4,5,6])] [(2,0),(2,1),(1,2),(1,3),(0,4),(2,5),(1,6),(2,7)] [0,1,0,4,12,31,63,127])<|
  .ret
def vf15:VFun:=⟨34,4,vb15,[.tmp 2],false⟩
theorem cf15:cFun Tryz.prog rawF false Tryz.f15=some vf15:=by kernel_rfl
theorem T15 (h:HT σ args Post vb15 vf15 [dd,dd,dd,dd]) (hl:args.length≤34:=by exact zB rfl):T Tryz.prog 15 args σ Post:=T.walk Tryz.func15 cf15 hl rfl h
@[reducible] def vb45:VC:=
  Rg [m 1 (.box 0 (t 0)),m 2 (.alloc 1 [q,q,q,o,o,o,o,o,o,o,o,o,o,o,o,o,o,o,o,.nils,.nils])]<|
  Rg [m 4 (Fl 0 1),m 5 (Ld 4),m 6 (Fl 1 1),m 7 (Ld 6),m 8 (Fl 91 1),m 9 (Ls 17 8),m 10 (.build [q,q,q,o,o,o,o,o,o,o,o,o,o,o,o,o,o,o,o,.nils,.nils] [(0,1,(t 5)),(1,1,(t 7)),(2,17,(t 9))]),m 3 (.alloc 2 [q,q,q,o,o,o,o,o,o,o,o,o,o,o,o,o,o,o,o,.nils,.nils]),e (.store 21 (t 3) (t 10))]<|
  .seq (Rg [m 11 (Fl 1 1),m 12 (Ld 11),m 13 (.bin .eql .num (t 12) (Ci 5))]<|
  .cond (t 13) (.region [m 14 (Fl 2 1),m 15 (Ls 62 14),m 16 (.buildSlice 3 62 1 [q,o,o,o,o,o,o,o,o,q,q,o,o,o,o,o,o,o,o,o,o,o,o,o,o,o,o,q,o,o,o,o,o,o,o,o,o,o,o,o,o,o,o,o,q,o,o,o,o,o,o,o,o,o,o,o,o,o,o,o,o,(.str [])] [(0,(t 15))]),m 17 (Fl 19 3),e (.store 1 (t 17) (t 16))]) (.skip))<|
  .seq (Rg [m 18 (Fl 1 1),m 19 (Ld 18),m 20 (.bin .eql .num (t 19) (Ci 128))]<|
  .cond (t 20) (.region [m 21 (Fl 64 1),m 22 (Ls 27 21),m 23 (.buildSlice 4 27 1 [o,o,o,o,o,o,o,o,q,o,o,o,o,o,o,o,o,o,o,o,o,o,o,o,o,q,q] [(0,(t 22))]),m 24 (Fl 20 3),e (.store 1 (t 24) (t 23))]) (.skip))<|
  Rg [m 25 (Ls 21 3),e (.store 21 (t 2) (t 25))]<|
  .ret
def vf45:VFun:=⟨26,5,vb45,[.cell 2 (some 21)],false⟩
theorem cf45:cFun Tryz.prog rawF false Tryz.f45=some vf45:=by kernel_rfl
theorem T45 (h:HT σ args Post vb45 vf45 [dd,dd,dd,dd,dd]) (hl:args.length≤26:=by exact zB rfl):T Tryz.prog 45 args σ Post:=T.walk Tryz.func45 cf45 hl rfl h
@[reducible] def vb44:VC:=
  Rg [m 1 (.box 0 (t 0)),m 2 (.mov Bf)]<|
  Rg [m 8 (Fl 0 1),m 9 (Ls 24 8),m 10 (.call false 92 [(t 9)]),Mv 3 10]<|
  .seq (Rg [Mv 11 3,m 12 (.un .not (t 11)),Mv 13 12,Gf 14 13 (Fl 24 1),Gf 15 13 (Ld 14),Gf 16 13 (.len (t 15)),Gf 17 13 (.bin .gtr .num (t 16) (Ci 1)),m 18 (.pick (t 13) Bt (t 17)),Mv 19 18,Gf 20 19 (Fl 25 1),Gf 21 19 (Ld 20),Gf 22 19 (.len (t 21)),Gf 23 19 (.bin .gtr .num (t 22) (Ci 1)),m 24 (.pick (t 19) Bt (t 23))]<|
  .cond (t 24) (Rg [m 2 (.mov Bf)]<|
  .ret) (.skip))<|
  .seq (.seq (.dreg [(m 25 (Fl 24 1),[]),(m 26 (Ld 25),[0]),(m 27 (.len (t 26)),[1]),(m 28 (.bin .eql .num (t 27) (.c q)),[2]),(Mv 29 28,[3]),(Gt 30 29 (Fl 0 1),[4]),(Gt 31 29 (Ls 24 30),[5,4]),(Gt 32 29 (.call false 94 []),[4,4]),(Gt 33 29 (.call false 93 [(t 31),(t 32)]),[6,7,7,4]),(Gt 34 29 (.un .not (t 33)),[8,4]),(m 35 (.pick (t 29) (t 34) Bf),[4,9])] [(1,0),(1,1),(1,2),(2,3),(2,4),(1,5),(1,6),(1,7),(1,8),(2,9),(2,10)] [0,1,3,7,15,31,63,31,255,511,1023])<|
  .cond (t 35) (Rg [m 2 (.mov Bf)]<|
  .ret) (.skip))<|
  .seq (Rg [m 4 (.mov (.c q))]<|
  .block 0<|.loop<|.seq (Rg [Mv 36 4,m 37 (Fl 24 1),m 38 (Ld 37),m 39 (.len (t 38)),m 40 (.bin .lss .num (t 36) (t 39))]<|
  .cond (t 40) (.skip) (.exit 0))<|
  .seq (.block 1<|Rg [m 43 (Fl 24 1),m 44 (Ld 43),Mv 45 4,m 46 (.index 21 (t 44) (t 45)),m 47 (Ls 21 46),m 48 (.call false 95 [(t 47),Bt]),Mv 5 48]<|
  .seq (.dreg [(Mv 49 5,[]),(m 50 (.un .not (t 49)),[0]),(Mv 51 50,[1]),(Gf 52 51 (Fl 24 1),[2]),(Gf 53 51 (Ld 52),[3,2]),(Gf 54 51 (.mov (t 4)),[2]),(Gf 55 51 (.index 21 (t 53) (t 54)),[4,5,2]),(Gf 56 51 (Fl 19 55),[6,2]),(Gf 57 51 (Ld 56),[7,2]),(Gf 58 51 (.len (t 57)),[8,2]),(Gf 59 51 (Fl 24 1),[2]),(Gf 60 51 (Ld 59),[10,2]),(Gf 61 51 (.mov (t 4)),[2]),(Gf 62 51 (.index 21 (t 60) (t 61)),[11,12,2]),(Gf 63 51 (Fl 20 62),[13,2]),(Gf 64 51 (Ld 63),[14,2]),(Gf 65 51 (.len (t 64)),[15,2]),(Gf 66 51 (.bin .add .num (t 58) (t 65)),[9,16,2]),(Gf 67 51 (.bin .eql .num (t 66) (.c q)),[17,2]),(m 68 (.pick (t 51) Bt (t 67)),[2,18])] [(2,0),(2,1),(2,2),(1,3),(1,4),(2,5),(1,6),(1,7),(1,8),(1,9),(1,10),(1,11),(2,12),(1,13),(1,14),(1,15),(1,16),(2,17),(2,18),(2,19)] [0,1,3,7,15,7,63,127,255,511,7,1031,7,7175,15367,31751,64519,131071,262143,524287])<|
  .cond (t 68) (Rg [m 2 (.mov Bf)]<|
  .ret) (.skip))<|
  .region [Mv 41 4,m 42 (.bin .add .num (t 41) (Ci 1)),Mv 4 42])<|
  .seq (Rg [m 6 (.mov (.c q))]<|
  .block 2<|.loop<|.seq (Rg [Mv 69 6,m 70 (Fl 25 1),m 71 (Ld 70),m 72 (.len (t 71)),m 73 (.bin .lss .num (t 69) (t 72))]<|
  .cond (t 73) (.skip) (.exit 2))<|
  .seq (.block 3<|Rg [m 76 (Fl 25 1),m 77 (Ld 76),Mv 78 6,m 79 (.index 21 (t 77) (t 78)),m 80 (Ls 21 79),m 81 (.call false 95 [(t 80),Bf]),Mv 7 81]<|
  Rg [Mv 82 7,m 83 (.un .not (t 82))]<|
  .cond (t 83) (Rg [m 2 (.mov Bf)]<|
  .ret) (.skip))<|
  .region [Mv 74 6,m 75 (.bin .add .num (t 74) (Ci 1)),Mv 6 75])<|
  Rg [m 2 (.mov Bt)]<|
  .ret
def vf44:VFun:=⟨84,1,vb44,[.tmp 2],false⟩
theorem cf44:cFun Tryz.prog rawF false Tryz.f44=some vf44:=by kernel_rfl
theorem T44 (h:HT σ args Post vb44 vf44 [dd]) (hl:args.length≤84:=by exact zB rfl):T Tryz.prog 44 args σ Post:=T.walk Tryz.func44 cf44 hl rfl h
@[reducible] def vb95:VC:=
  Rg [m 2 (.box 0 (t 0)),m 4 (.mov Bf)]<|
  .seq (Rg [m 8 (Fl 0 2),m 9 (Ld 8),m 10 (Fl 1 2),m 11 (Ld 10),m 12 (.call false 137 [(t 9),(t 11)]),m 13 (.un .not (t 12)),Mv 14 13,Gf 15 14 (Fl 1 2),Gf 16 14 (Ld 15),Gf 17 14 (.bin .eql .num (t 16) (Ci 5)),Gf 18 14 (.mov (t 17)),Gt 19 18 (Fl 20 2),Gt 20 18 (Ld 19),Gt 21 18 (.len (t 20)),Gt 22 18 (.bin .gtr .num (t 21) (.c q)),Gf 23 14 (.pick (t 18) (t 22) Bf),m 24 (.pick (t 14) Bt (t 23)),Mv 25 24,Gf 26 25 (Fl 1 2),Gf 27 25 (Ld 26),Gf 28 25 (.bin .eql .num (t 27) (Ci 128)),Gf 29 25 (.mov (t 28)),Gt 30 29 (Fl 19 2),Gt 31 29 (Ld 30),Gt 32 29 (.len (t 31)),Gt 33 29 (.bin .gtr .num (t 32) (.c q)),Gf 34 25 (.pick (t 29) (t 33) Bf),m 35 (.pick (t 25) Bt (t 34))]<|
  .cond (t 35) (Rg [m 4 (.mov Bf)]<|
  .ret) (.skip))<|
  Rg [m 37 (Ls 21 2),m 38 (.call false 138 [(t 37)]),Mv 36 38,m 39 (.extract 0 (t 36)),m 40 (.extract 1 (t 36)),Mv 5 39,Mv 6 40]<|
  Rg [m 41 (Fl 2 2),m 42 (Ls 17 41),m 43 (.call false 55 [(t 42)]),Mv 7 43]<|
  Rg [Mv 44 6,Mv 45 44,Gt 46 45 (.mov (t 7)),m 47 (.pick (t 45) (t 46) Bf),Mv 48 47,Gt 49 48 (Fl 2 2),Gt 50 48 (Fl 0 49),Gt 51 48 (Ld 50),Gt 52 48 (.bin .gtr .num (t 51) (.c q)),Gt 53 48 (.mov (t 1)),Gt 54 48 (.bin .eql .bool (t 52) (t 53)),m 55 (.pick (t 48) (t 54) Bf),Mv 4 55]<|
  .ret
def vf95:VFun:=⟨56,1,vb95,[.tmp 4],false⟩
theorem cf95:cFun Tryz.prog rawF false Tryz.f95=some vf95:=by kernel_rfl
theorem T95 (h:HT σ args Post vb95 vf95 [dd]) (hl:args.length≤56:=by exact zB rfl):T Tryz.prog 95 args σ Post:=T.walk Tryz.func95 cf95 hl rfl h
@[reducible] def vb137:VC:=
  Rg [m 4 (.mov Bf)]<|
  Rg [Mv 5 0,m 6 (.bin .eql .num (t 5) (Ci 4)),Mv 7 6,Gf 8 7 (.mov (t 0)),Gf 9 7 (.bin .eql .num (t 8) (Ci 16)),m 10 (.pick (t 7) Bt (t 9)),Mv 11 10,Gt 12 11 (.mov (t 1)),Gt 13 11 (.bin .eql .num (t 12) (Ci 5)),Gt 14 11 (.mov (t 13)),Gf 15 14 (.mov (t 1)),Gf 16 14 (.bin .eql .num (t 15) (Ci 128)),Gt 17 11 (.pick (t 14) Bt (t 16)),m 18 (.pick (t 11) (t 17) Bf),Mv 4 18]<|
  .ret
def vf137:VFun:=⟨19,0,vb137,[.tmp 4],false⟩
theorem cf137:cFun Tryz.prog rawF false Tryz.f137=some vf137:=by kernel_rfl
theorem T137 (h:HT σ args Post vb137 vf137 []) (hl:args.length≤19:=by exact zB rfl):T Tryz.prog 137 args σ Post:=T.walk Tryz.func137 cf137 hl rfl h
@[reducible] def vb138:VC:=
  Rg [m 1 (.box 0 (t 0)),m 2 (.newRow 1 1),m 3 (.mov Bf)]<|
  Rg [m 11 (Fl 19 1),m 12 (Ld 11),m 13 (.call false 181 [(t 12)]),Mv 10 13,m 14 (.extract 0 (t 10)),m 15 (.extract 1 (t 10)),Mv 4 14,Mv 5 15]<|
  .seq (Rg [m 16 (Fl 1 1),m 17 (Ld 16),m 18 (.bin .eql .num (t 17) (Ci 128))]<|
  .cond (t 18) (.region [m 20 (Fl 20 1),m 21 (Ld 20),m 22 (.call false 182 [(t 21)]),Mv 19 22,m 23 (.extract 0 (t 19)),m 24 (.extract 1 (t 19)),Mv 4 23,Mv 5 24]) (.skip))<|
  .seq (Rg [Mv 25 5,m 26 (.bin .neq .num (t 25) (.c q))]<|
  .cond (t 26) (Rg [m 2 (.newRow 1 1),m 3 (.mov Bf)]<|
  .ret) (.skip))<|
  .seq (Rg [m 27 (Fl 1 1),m 28 (Ld 27),m 29 (.bin .eql .num (t 28) (Ci 5))]<|
  .cond (t 29) (Rg [Mv 31 4,m 32 (Fl 0 1),m 33 (Ld 32),m 34 (.call false 183 [(t 31),(t 33)]),Mv 30 34,m 35 (.extract 0 (t 30)),m 36 (.extract 1 (t 30)),Mv 6 35,Mv 7 36]<|
  Rg [Mv 37 4,Mv 38 7,m 39 (.bin .eql .num (t 38) (.c q)),Mv 40 39,Gt 41 40 (.mov (t 6)),Gt 42 40 (Fl 19 1),Gt 43 40 (Ld 42),Gt 44 40 (.call false 184 [(t 41),(t 43)]),m 45 (.pick (t 40) (t 44) Bf),Mv 2 37,Mv 3 45]<|
  .ret) (.skip))<|
  Rg [Mv 47 4,m 48 (Fl 0 1),m 49 (Ld 48),m 50 (.call false 185 [(t 47),(t 49)]),Mv 46 50,m 51 (.extract 0 (t 46)),m 52 (.extract 1 (t 46)),Mv 8 51,Mv 9 52]<|
  Rg [Mv 53 4,Mv 54 9,m 55 (.bin .eql .num (t 54) (.c q)),Mv 56 55,Gt 57 56 (.mov (t 8)),Gt 58 56 (Fl 20 1),Gt 59 56 (Ld 58),Gt 60 56 (.call false 186 [(t 57),(t 59)]),m 61 (.pick (t 56) (t 60) Bf),Mv 2 53,Mv 3 61]<|
  .ret
def vf138:VFun:=⟨62,2,vb138,[.tmp 2,.tmp 3],false⟩
theorem cf138:cFun Tryz.prog rawF false Tryz.f138=some vf138:=by kernel_rfl
theorem T138 (h:HT σ args Post vb138 vf138 [dd,dd]) (hl:args.length≤62:=by exact zB rfl):T Tryz.prog 138 args σ Post:=T.walk Tryz.func138 cf138 hl rfl h
@[reducible] def vb92:VC:=
  Rg [m 1 (.box 0 (t 0)),m 2 (.mov Bf)]<|
  Rg [m 9 (.build [q,o,o,o,o,o,o,o,o,o,o,o,o,o,o,o,o] []),m 3 (.alloc 1 [q,o,o,o,o,o,o,o,o,o,o,o,o,o,o,o,o]),e (.store 17 (t 3) (t 9))]<|
  .seq (Rg [m 4 (.mov (.c q))]<|
  .block 0<|.loop<|.seq (Rg [Mv 10 4,m 11 (Fl 21 1),m 12 (Ld 11),m 13 (.len (t 12)),m 14 (.bin .lss .num (t 10) (t 13))]<|
  .cond (t 14) (.skip) (.exit 0))<|
  .seq (.block 1<|Rg [m 17 (Fl 21 1),m 18 (Ld 17),Mv 19 4,m 20 (.index 17 (t 18) (t 19)),m 21 (Ls 17 20),m 22 (.call false 130 [(t 21)]),Mv 5 22]<|
  Rg [Mv 23 5,m 24 (.un .not (t 23))]<|
  .cond (t 24) (Rg [m 2 (.mov Bf)]<|
  .ret) (.skip))<|
  .region [Mv 15 4,m 16 (.bin .add .num (t 15) (Ci 1)),Mv 4 16])<|
  .seq (Rg [m 6 (.mov (.c q))]<|
  .block 2<|.loop<|.seq (Rg [Mv 25 6,m 26 (Fl 23 1),m 27 (Ld 26),m 28 (.len (t 27)),m 29 (.bin .lss .num (t 25) (t 28))]<|
  .cond (t 29) (.skip) (.exit 2))<|
  .seq (.block 3<|Rg [m 32 (Fl 23 1),m 33 (Ld 32),Mv 34 6,m 35 (.index 21 (t 33) (t 34)),m 36 (Ls 21 35),m 37 (.call false 131 [(t 36)]),Mv 7 37]<|
  Rg [Mv 38 7,m 39 (.un .not (t 38))]<|
  .cond (t 39) (Rg [m 2 (.mov Bf)]<|
  .ret) (.skip))<|
  .region [Mv 30 6,m 31 (.bin .add .num (t 30) (Ci 1)),Mv 6 31])<|
  Rg [m 40 (Fl 4 1),m 41 (Ls 17 40),m 42 (Ls 17 3),m 43 (.eqAgg [(.i .i64),(.i .u8),(.i .u8),(.i .u8),(.i .u8),(.i .u8),(.i .u8),(.i .u8),(.i .u8),(.i .u8),(.i .u8),(.i .u8),(.i .u8),(.i .u8),(.i .u8),(.i .u8),(.i .u8)] false (t 41) (t 42)),Mv 44 43,Gf 45 44 (Fl 4 1),Gf 46 44 (Ls 17 45),Gf 47 44 (.call false 130 [(t 46)]),m 48 (.pick (t 44) Bt (t 47)),Mv 8 48]<|
  Rg [m 49 (Fl 0 1),m 50 (Ld 49),m 51 (.bin .geq .num (t 50) (.c q)),Mv 52 51,Gt 53 52 (Fl 0 1),Gt 54 52 (Ld 53),Gt 55 52 (.bin .leq .num (t 54) (Ci 2)),m 56 (.pick (t 52) (t 55) Bf),Mv 57 56,Gt 58 57 (Fl 2 1),Gt 59 57 (Ld 58),Gt 60 57 (.call false 132 [(t 59)]),m 61 (.pick (t 57) (t 60) Bf),Mv 62 61,Gt 63 62 (Fl 3 1),Gt 64 62 (Ld 63),Gt 65 62 (.call false 132 [(t 64)]),m 66 (.pick (t 62) (t 65) Bf),Mv 67 66,Gt 68 67 (Fl 1 1),Gt 69 67 (Ld 68),Gt 70 67 (.call false 133 [(t 69)]),m 71 (.pick (t 67) (t 70) Bf),Mv 72 71,Gt 73 72 (.mov (t 8)),m 74 (.pick (t 72) (t 73) Bf),Mv 75 74,Gt 76 75 (Fl 21 1),Gt 77 75 (Ld 76),Gt 78 75 (.len (t 77)),Gt 79 75 (.bin .leq .num (t 78) (Ci 32)),m 80 (.pick (t 75) (t 79) Bf),Mv 81 80,Gt 82 81 (Fl 22 1),Gt 83 81 (Ld 82),Gt 84 81 (.len (t 83)),Gt 85 81 (.bin .leq .num (t 84) (Ci 64)),m 86 (.pick (t 81) (t 85) Bf),Mv 87 86,Gt 88 87 (Fl 23 1),Gt 89 87 (Ld 88),Gt 90 87 (.len (t 89)),Gt 91 87 (.bin .leq .num (t 90) (Ci 1)),m 92 (.pick (t 87) (t 91) Bf),Mv 2 92]<|
  .ret
def vf92:VFun:=⟨93,2,vb92,[.tmp 2],false⟩
theorem cf92:cFun Tryz.prog rawF false Tryz.f92=some vf92:=by kernel_rfl
theorem T92 (h:HT σ args Post vb92 vf92 [dd,dd]) (hl:args.length≤93:=by exact zB rfl):T Tryz.prog 92 args σ Post:=T.walk Tryz.func92 cf92 hl rfl h
@[reducible] def vb130:VC:=
  Rg [m 1 (.box 0 (t 0)),m 2 (.mov Bf)]<|
  Rg [m 3 (Fl 0 1),m 4 (Ld 3),m 5 (.bin .eql .num (t 4) (Ci 4)),Mv 6 5,Gt 7 6 (Ls 17 1),Gt 8 6 (.call false 55 [(t 7)]),m 9 (.pick (t 6) (t 8) Bf),Mv 2 9]<|
  .ret
def vf130:VFun:=⟨10,1,vb130,[.tmp 2],false⟩
theorem cf130:cFun Tryz.prog rawF false Tryz.f130=some vf130:=by kernel_rfl
theorem T130 (h:HT σ args Post vb130 vf130 [dd]) (hl:args.length≤10:=by exact zB rfl):T Tryz.prog 130 args σ Post:=T.walk Tryz.func130 cf130 hl rfl h
@[reducible] def vb131:VC:=
  Rg [m 1 (.box 0 (t 0)),m 2 (.mov Bf)]<|
  Rg [m 8 (Fl 3 1),m 9 (Ls 17 8),m 10 (.call false 55 [(t 9)]),Mv 3 10]<|
  .seq (Rg [Mv 11 3,m 12 (.un .not (t 11)),Mv 13 12,Gf 14 13 (Fl 2 1),Gf 15 13 (Ld 14),Gf 16 13 (.bin .lss .num (t 15) (.c q)),m 17 (.pick (t 13) Bt (t 16)),Mv 18 17,Gf 19 18 (Fl 2 1),Gf 20 18 (Ld 19),Gf 21 18 (.bin .gtr .num (t 20) (Ci 1048575)),m 22 (.pick (t 18) Bt (t 21))]<|
  .cond (t 22) (Rg [m 2 (.mov Bf)]<|
  .ret) (.skip))<|
  Rg [m 23 (Fl 20 1),m 24 (Ld 23),m 25 (.len (t 24)),Mv 4 25]<|
  Rg [m 26 (Fl 3 1),m 27 (Fl 0 26),m 28 (Ld 27),m 29 (.bin .gtr .num (t 28) (.c q)),Mv 5 29]<|
  .seq (Rg [m 30 (Fl 1 1),m 31 (Ld 30)]<|
  .block 0<|Rg [m 33 (.bin .eql .num (t 31) (.c q)),Mv 32 33]<|
  .cond (t 32) (Rg [Mv 34 5,m 35 (.un .not (t 34)),Mv 36 35,Gt 37 36 (.mov (t 4)),Gt 38 36 (.bin .eql .num (t 37) (.c q)),m 39 (.pick (t 36) (t 38) Bf),Mv 2 39]<|
  .ret) (Rg [m 41 (.bin .eql .num (t 31) (Ci 1)),Mv 40 41]<|
  .cond (t 40) (Rg [m 42 (Fl 3 1),m 43 (Fl 0 42),m 44 (Ld 43),m 45 (.bin .eql .num (t 44) (Ci 4)),Mv 46 45,Gt 47 46 (.mov (t 4)),Gt 48 46 (.bin .eql .num (t 47) (Ci 6)),m 49 (.pick (t 46) (t 48) Bf),Mv 2 49]<|
  .ret) (.seq (Rg [m 51 (.bin .eql .num (t 31) (Ci 2)),Mv 50 51]<|
  .cond (t 50) (.skip) (.region [m 52 (.bin .eql .num (t 31) (Ci 7)),Mv 50 52]))<|
  .cond (t 50) (Rg [Mv 53 5,Mv 54 53,Gt 55 54 (.mov (t 4)),Gt 56 54 (.bin .leq .num (t 55) (Ci 64)),m 57 (.pick (t 54) (t 56) Bf),Mv 2 57]<|
  .ret) (.seq (Rg [m 59 (.bin .eql .num (t 31) (Ci 3)),Mv 58 59]<|
  .cond (t 58) (.skip) (Rg [m 60 (.bin .eql .num (t 31) (Ci 4)),Mv 58 60]<|
  .cond (t 58) (.skip) (.region [m 61 (.bin .eql .num (t 31) (Ci 5)),Mv 58 61])))<|
  .cond (t 58) (Rg [m 63 (Fl 20 1),m 64 (Ld 63),m 65 (.call false 178 [(t 64)]),Mv 62 65,m 66 (.extract 0 (t 62)),m 67 (.extract 1 (t 62)),m 6 (.alloc 1 [q,o,o,o,o,o,o,o,o,o,o,o,o,o,o,o,o]),e (.store 17 (t 6) (t 66)),Mv 7 67]<|
  Rg [Mv 68 5,Mv 69 68,Gt 70 69 (.mov (t 4)),Gt 71 69 (Fl 3 1),Gt 72 69 (Fl 0 71),Gt 73 69 (Ld 72),Gt 74 69 (.bin .eql .num (t 70) (t 73)),m 75 (.pick (t 69) (t 74) Bf),Mv 76 75,Gt 77 76 (Ls 17 6),Gt 78 76 (.call false 179 [(t 77)]),m 79 (.pick (t 76) (t 78) Bf),Mv 2 79]<|
  .ret) (Rg [m 81 (.bin .eql .num (t 31) (Ci 6)),Mv 80 81]<|
  .cond (t 80) (Rg [Mv 82 5,Mv 83 82,Gt 84 83 (.mov (t 4)),Gt 85 83 (.bin .eql .num (t 84) (.c q)),m 86 (.pick (t 83) (t 85) Bf),Mv 2 86]<|
  .ret) (.skip))))))<|
  Rg [m 2 (.mov Bf)]<|
  .ret
def vf131:VFun:=⟨87,2,vb131,[.tmp 2],false⟩
theorem cf131:cFun Tryz.prog rawF false Tryz.f131=some vf131:=by kernel_rfl
theorem T131 (h:HT σ args Post vb131 vf131 [dd,dd]) (hl:args.length≤87:=by exact zB rfl):T Tryz.prog 131 args σ Post:=T.walk Tryz.func131 cf131 hl rfl h
@[reducible] def vb132:VC:=
  Rg [m 2 (.mov Bf)]<|
  Rg [Mv 3 0,m 4 (.bin .geq .num (t 3) (.c (i (-1)))),Mv 5 4,Gt 6 5 (.mov (t 0)),Gt 7 5 (.bin .leq .num (t 6) (Ci 4294967295)),m 8 (.pick (t 5) (t 7) Bf),Mv 2 8]<|
  .ret
def vf132:VFun:=⟨9,0,vb132,[.tmp 2],false⟩
theorem cf132:cFun Tryz.prog rawF false Tryz.f132=some vf132:=by kernel_rfl
theorem T132 (h:HT σ args Post vb132 vf132 []) (hl:args.length≤9:=by exact zB rfl):T Tryz.prog 132 args σ Post:=T.walk Tryz.func132 cf132 hl rfl h
@[reducible] def vb133:VC:=
  Rg [m 2 (.mov Bf)]<|
  .seq (Rg [m 3 (.mov (.c q))]<|
  .block 0<|.loop<|.seq (Rg [Mv 5 3,Mv 6 0,m 7 (.len (t 6)),m 8 (.bin .lss .num (t 5) (t 7))]<|
  .cond (t 8) (.skip) (.exit 0))<|
  .seq (.block 1<|.seq (Rg [Mv 11 0,Mv 12 3,m 13 (.index 2 (t 11) (t 12)),m 14 (Fl 1 13),m 15 (Ld 14),m 16 (.len (t 15)),m 17 (.bin .lss .num (t 16) (Ci 1)),Mv 18 17,Gf 19 18 (.mov (t 0)),Gf 20 18 (.mov (t 3)),Gf 21 18 (.index 2 (t 19) (t 20)),Gf 22 18 (Fl 1 21),Gf 23 18 (Ld 22),Gf 24 18 (.len (t 23)),Gf 25 18 (.bin .gtr .num (t 24) (Ci 255)),m 26 (.pick (t 18) Bt (t 25))]<|
  .cond (t 26) (Rg [m 2 (.mov Bf)]<|
  .ret) (.skip))<|
  Rg [m 4 (.mov (.c q))]<|
  .block 2<|.loop<|.seq (Rg [Mv 27 4,Mv 28 0,Mv 29 3,m 30 (.index 2 (t 28) (t 29)),m 31 (Fl 1 30),m 32 (Ld 31),m 33 (.len (t 32)),m 34 (.bin .lss .num (t 27) (t 33))]<|
  .cond (t 34) (.skip) (.exit 2))<|
  .seq (.block 3<|Rg [Mv 37 0,Mv 38 3,m 39 (.index 2 (t 37) (t 38)),m 40 (Fl 1 39),m 41 (Ld 40),Mv 42 4,m 43 (.index 1 (t 41) (t 42)),m 44 (Ld 43),m 45 (.bin .lss .num (t 44) (.c q)),Mv 46 45,Gf 47 46 (.mov (t 0)),Gf 48 46 (.mov (t 3)),Gf 49 46 (.index 2 (t 47) (t 48)),Gf 50 46 (Fl 1 49),Gf 51 46 (Ld 50),Gf 52 46 (.mov (t 4)),Gf 53 46 (.index 1 (t 51) (t 52)),Gf 54 46 (Ld 53),Gf 55 46 (.bin .gtr .num (t 54) (Ci 4294967295)),m 56 (.pick (t 46) Bt (t 55))]<|
  .cond (t 56) (Rg [m 2 (.mov Bf)]<|
  .ret) (.skip))<|
  .region [Mv 35 4,m 36 (.bin .add .num (t 35) (Ci 1)),Mv 4 36])<|
  .region [Mv 9 3,m 10 (.bin .add .num (t 9) (Ci 1)),Mv 3 10])<|
  Rg [Mv 57 0,m 58 (.len (t 57)),m 59 (.bin .leq .num (t 58) (Ci 16)),Mv 2 59]<|
  .ret
def vf133:VFun:=⟨60,0,vb133,[.tmp 2],false⟩
theorem cf133:cFun Tryz.prog rawF false Tryz.f133=some vf133:=by kernel_rfl
theorem T133 (h:HT σ args Post vb133 vf133 []) (hl:args.length≤60:=by exact zB rfl):T Tryz.prog 133 args σ Post:=T.walk Tryz.func133 cf133 hl rfl h
@[reducible] def vb10:VC:=
  Rg [m 5 (.box 0 (t 1)),m 6 (.box 1 (t 2)),m 7 (.box 2 (t 3)),m 8 (.mov Bf)]<|
  Rg [m 14 (.build [q,o,o,o,o,o,o,o,o,o,o,o,o,o,o,o,o] []),m 9 (.alloc 3 [q,o,o,o,o,o,o,o,o,o,o,o,o,o,o,o,o]),e (.store 17 (t 9) (t 14))]<|
  Rg [m 15 (Ls 132 7),m 16 (.call false 15 [(t 15)]),Mv 10 16]<|
  .seq (Rg [Mv 17 10,m 18 (.un .not (t 17)),Mv 19 18,Gf 20 19 (Fl 108 7),Gf 21 19 (Fl 4 20),Gf 22 19 (Ls 17 21),Gf 23 19 (Ls 17 5),Gf 24 19 (.eqAgg [(.i .i64),(.i .u8),(.i .u8),(.i .u8),(.i .u8),(.i .u8),(.i .u8),(.i .u8),(.i .u8),(.i .u8),(.i .u8),(.i .u8),(.i .u8),(.i .u8),(.i .u8),(.i .u8),(.i .u8)] false (t 22) (t 23)),Gf 25 19 (.mov (t 24)),Gt 26 25 (Ls 17 5),Gt 27 25 (Ls 17 9),Gt 28 25 (.eqAgg [(.i .i64),(.i .u8),(.i .u8),(.i .u8),(.i .u8),(.i .u8),(.i .u8),(.i .u8),(.i .u8),(.i .u8),(.i .u8),(.i .u8),(.i .u8),(.i .u8),(.i .u8),(.i .u8),(.i .u8)] true (t 26) (t 27)),Gf 29 19 (.pick (t 25) (t 28) Bf),m 30 (.pick (t 19) Bt (t 29))]<|
  .cond (t 30) (Rg [m 8 (.mov Bf)]<|
  .ret) (.skip))<|
  .seq (Rg [m 11 (.mov (.c q))]<|
  .block 0<|.loop<|.seq (Rg [Mv 31 11,m 32 (Fl 108 7),m 33 (Fl 21 32),m 34 (Ld 33),m 35 (.len (t 34)),m 36 (.bin .lss .num (t 31) (t 35))]<|
  .cond (t 36) (.skip) (.exit 0))<|
  .seq (.block 1<|.seq (.dreg [(m 39 (Fl 108 7),[]),(m 40 (Fl 21 39),[0]),(m 41 (Ld 40),[1]),(Mv 42 11,[]),(m 43 (.index 17 (t 41) (t 42)),[2,3]),(m 44 (Ls 17 43),[4]),(m 45 (Ls 17 6),[]),(m 46 (.eqAgg [(.i .i64),(.i .u8),(.i .u8),(.i .u8),(.i .u8),(.i .u8),(.i .u8),(.i .u8),(.i .u8),(.i .u8),(.i .u8),(.i .u8),(.i .u8),(.i .u8),(.i .u8),(.i .u8),(.i .u8)] false (t 44) (t 45)),[5,6]),(Mv 47 46,[7]),(Gt 48 47 (Ls 17 6),[8]),(Gt 49 47 (Ls 17 9),[8]),(Gt 50 47 (.eqAgg [(.i .i64),(.i .u8),(.i .u8),(.i .u8),(.i .u8),(.i .u8),(.i .u8),(.i .u8),(.i .u8),(.i .u8),(.i .u8),(.i .u8),(.i .u8),(.i .u8),(.i .u8),(.i .u8),(.i .u8)] true (t 48) (t 49)),[9,10,8]),(m 51 (.pick (t 47) (t 50) Bf),[8,11])] [(1,0),(1,1),(1,2),(2,3),(1,4),(1,5),(1,6),(2,7),(2,8),(1,9),(1,10),(2,11),(2,12)] [0,1,3,0,15,31,0,127,255,511,511,2047,4095])<|
  .cond (t 51) (Rg [m 8 (.mov Bf)]<|
  .ret) (.skip))<|
  .region [Mv 37 11,m 38 (.bin .add .num (t 37) (Ci 1)),Mv 11 38])<|
  .seq (Rg [m 12 (.mov (.c q))]<|
  .block 2<|.loop<|.seq (Rg [Mv 52 12,m 53 (Fl 108 7),m 54 (Fl 1 53),m 55 (Ld 54),m 56 (.len (t 55)),m 57 (.bin .lss .num (t 52) (t 56))]<|
  .cond (t 57) (.skip) (.exit 2))<|
  .seq (.block 3<|Rg [m 13 (.mov (.c q))]<|
  .block 4<|.loop<|.seq (Rg [Mv 60 13,m 61 (Fl 108 7),m 62 (Fl 1 61),m 63 (Ld 62),Mv 64 12,m 65 (.index 2 (t 63) (t 64)),m 66 (Fl 1 65),m 67 (Ld 66),m 68 (.len (t 67)),m 69 (.bin .lss .num (t 60) (t 68))]<|
  .cond (t 69) (.skip) (.exit 4))<|
  .seq (.block 5<|Rg [m 72 (Fl 108 7),m 73 (Fl 1 72),m 74 (Ld 73),Mv 75 12,m 76 (.index 2 (t 74) (t 75)),m 77 (Fl 1 76),m 78 (Ld 77),Mv 79 13,m 80 (.index 1 (t 78) (t 79)),m 81 (Ld 80),Mv 82 0,m 83 (.bin .eql .num (t 81) (t 82))]<|
  .cond (t 83) (Rg [m 8 (.mov Bf)]<|
  .ret) (.skip))<|
  .region [Mv 70 13,m 71 (.bin .add .num (t 70) (Ci 1)),Mv 13 71])<|
  .region [Mv 58 12,m 59 (.bin .add .num (t 58) (Ci 1)),Mv 12 59])<|
  Rg [m 8 (.mov Bt)]<|
  .ret
def vf10:VFun:=⟨84,4,vb10,[.tmp 8],false⟩
theorem cf10:cFun Tryz.prog rawF false Tryz.f10=some vf10:=by kernel_rfl
theorem T10 (h:HT σ args Post vb10 vf10 [dd,dd,dd,dd]) (hl:args.length≤84:=by exact zB rfl):T Tryz.prog 10 args σ Post:=T.walk Tryz.func10 cf10 hl rfl h
@[reducible] def vb12:VC:=
  Rg [m 4 (.mov (.c q))]<|
  .seq (Rg [Mv 5 1,m 6 (.bin .lss .num (t 5) (Ci 1)),Mv 7 6,Gf 8 7 (.mov (t 1)),Gf 9 7 (.mov (t 0)),Gf 10 7 (.len (t 9)),Gf 11 7 (.bin .gtr .num (t 8) (t 10)),m 12 (.pick (t 7) Bt (t 11))]<|
  .cond (t 12) (Rg [m 4 (.mov (.c q))]<|
  .ret) (.skip))<|
  Rg [Mv 13 0,Mv 14 1,m 15 (.bin .sub .num (t 14) (Ci 1)),m 16 (.index 1 (t 13) (t 15)),m 17 (Ld 16),Mv 4 17]<|
  .ret
def vf12:VFun:=⟨18,0,vb12,[.tmp 4],false⟩
theorem cf12:cFun Tryz.prog rawF false Tryz.f12=some vf12:=by kernel_rfl
theorem T12 (h:HT σ args Post vb12 vf12 []) (hl:args.length≤18:=by exact zB rfl):T Tryz.prog 12 args σ Post:=T.walk Tryz.func12 cf12 hl rfl h
@[reducible] def vb3:VC:=
  Rg [m 7 (.box 0 (t 1)),m 8 (.box 1 (t 2)),m 9 (.box 2 (t 3)),m 12 (.mov Bf)]<|
  Rg [m 15 (.call false 7 []),Mv 13 15]<|
  Rg [m 16 (Ls 132 9),m 17 (.call false 8 [(t 16)]),Mv 14 17]<|
  .seq (Rg [Mv 18 14,m 19 (.un .not (t 18))]<|
  .cond (t 19) (Rg [Mv 20 13,Mv 12 20]<|
  .ret) (.skip))<|
  .seq (.dreg [(Mv 21 13,[]),(Mv 22 21,[0]),(Gt 23 22 (.mov (t 0)),[1]),(Gt 24 22 (Ls 17 7),[1]),(Gt 25 22 (Ls 17 8),[1]),(Gt 26 22 (Ls 132 9),[1]),(Gt 27 22 (.call false 9 [(t 23),(t 24),(t 25),(t 26)]),[2,3,4,5,1,1]),(Gt 28 22 (.mov (t 0)),[1]),(Gt 29 22 (Ls 17 7),[1]),(Gt 30 22 (Ls 17 8),[1]),(Gt 31 22 (Ls 132 9),[1]),(Gt 32 22 (.call false 10 [(t 28),(t 29),(t 30),(t 31)]),[7,8,9,10,6,1]),(Gt 33 22 (.bin .eql .bool (t 27) (t 32)),[6,11,1]),(m 34 (.pick (t 22) (t 33) Bf),[1,12]),(Mv 35 34,[13,11]),(Gt 36 35 (.mov (t 4)),[14]),(Gt 37 35 (.mov (t 5)),[14]),(Gt 38 35 (.call false 11 [(t 36),(t 37)]),[15,16,14,14]),(Gt 39 35 (.mov (t 4)),[14]),(Gt 40 35 (.mov (t 5)),[14]),(Gt 41 35 (.call false 12 [(t 39),(t 40)]),[18,19,17,14]),(Gt 42 35 (.bin .eql .num (t 38) (t 41)),[17,20,14]),(m 43 (.pick (t 35) (t 42) Bf),[14,21]),(Mv 12 43,[22,20,0,1,2,3,4,5,6,7,8,9,10,11,12,13,14,15,16,17,18,19,20,21,22])] [(2,0),(2,1),(2,2),(1,3),(1,4),(1,5),(1,6),(2,7),(1,8),(1,9),(1,10),(1,11),(2,12),(2,13),(2,14),(2,15),(2,16),(1,17),(2,18),(2,19),(1,20),(2,21),(2,22),(2,23)] [0,1,3,3,3,3,63,3,3,3,3,2047,4095,8191,16383,32767,32767,131071,32767,32767,1048575,2097151,4194303,8388607])<|
  .ret
def vf3:VFun:=⟨44,3,vb3,[.tmp 12],false⟩
theorem cf3:cFun Tryz.prog rawF false Tryz.f3=some vf3:=by kernel_rfl
theorem T3 (h:HT σ args Post vb3 vf3 [dd,dd,dd]) (hl:args.length≤44:=by exact zB rfl):T Tryz.prog 3 args σ Post:=T.walk Tryz.func3 cf3 hl rfl h
end Go.Proofs.YtdpeaefgbmkegaaGreatDoor
