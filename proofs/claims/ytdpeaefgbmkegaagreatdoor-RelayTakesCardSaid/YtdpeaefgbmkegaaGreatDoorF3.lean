/- Functions of the program, in the small language. -/
import Derived.Test.YtdpeaefgbmkegaaGreatDoorF1
namespace Go.Proofs.YtdpeaefgbmkegaaGreatDoor
open Go Go.V D
variable {args:List PV} {σ:VHeap} {Post:KP}
@[reducible] def vb169:VC:=
  Rg [m 2 (.alloc 0 [(.bool false),(.bool false),(.bool false),(.bool false)]),m 3 (.mov Bf)]<|
  Rg [m 5 (.build [(.bool false),(.bool false),(.bool false),(.bool false)] [(0,1,Bt),(3,1,Bt)]),m 6 (.build [(.bool false),(.bool false),(.bool false),(.bool false)] [(0,1,Bt),(1,1,Bt)]),m 7 (.build [(.bool false),(.bool false),(.bool false),(.bool false)] [(0,1,Bt),(2,1,Bt),(3,1,Bt)]),m 8 (.build [(.bool false),(.bool false),(.bool false),(.bool false)] [(3,1,Bt)]),m 9 (.build [(.bool false),(.bool false),(.bool false),(.bool false)] [(0,1,Bt),(2,1,Bt)]),m 10 (.build [(.bool false),(.bool false),(.bool false),(.bool false)] [(0,1,Bt),(1,1,Bt),(2,1,Bt)]),m 11 (.build [(.bool false),(.bool false),(.bool false),(.bool false)] [(0,1,Bt),(1,1,Bt),(2,1,Bt)]),m 12 (.build [(.bool false),(.bool false),(.bool false),(.bool false),(.bool false),(.bool false),(.bool false),(.bool false),(.bool false),(.bool false),(.bool false),(.bool false),(.bool false),(.bool false),(.bool false),(.bool false),(.bool false),(.bool false),(.bool false),(.bool false),(.bool false),(.bool false),(.bool false),(.bool false),(.bool false),(.bool false),(.bool false),(.bool false),(.bool false),(.bool false),(.bool false),(.bool false)] [(4,4,(t 5)),(8,4,(t 6)),(12,4,(t 7)),(16,4,(t 8)),(20,4,(t 9)),(24,4,(t 10)),(28,4,(t 11))]),m 4 (.alloc 1 (List.replicate 32 (.bool false))),e (.store 32 (t 4) (t 12))]<|
  .seq (Rg [Mv 13 0,m 14 (.bin .lss .num (t 13) (Ci 1)),Mv 15 14,Gf 16 15 (.mov (t 0)),Gf 17 15 (.bin .geq .num (t 16) (Ci 8)),m 18 (.pick (t 15) Bt (t 17))]<|
  .cond (t 18) (Rg [m 19 (.build [(.bool false),(.bool false),(.bool false),(.bool false)] []),e (.store 4 (t 2) (t 19)),m 3 (.mov Bf)]<|
  .ret) (.skip))<|
  Rg [Mv 20 0,m 21 (.indexArr 8 4 (t 4) (t 20)),m 22 (Ls 4 21),e (.store 4 (t 2) (t 22)),m 3 (.mov Bt)]<|
  .ret
def vf169:VFun:=⟨23,2,vb169,[.cell 2 (some 4),.tmp 3],false⟩
theorem cf169:cFun Tryz.prog rawF false Tryz.f169=some vf169:=by kernel_rfl
theorem T169 (h:HT σ args Post vb169 vf169 [dd,dd]) (hl:args.length≤23:=by exact zB rfl):T Tryz.prog 169 args σ Post:=T.walk Tryz.func169 cf169 hl rfl h
@[reducible] def vb217:VC:=
  Rg [m 2 (.box 0 (t 0)),m 3 (.box 1 (t 1)),m 4 (.alloc 2 [q,o,o,o,o,o,o,o,o,q,q,o,o,o,o,o,o,o,o,o,o,o,o,o,o,o,o,q,o,o,o,o,o,o,o,o,o,o,o,o,o,o,o,o,q,o,o,o,o,o,o,o,o,o,o,o,o,o,o,o,o,(.str [])])]<|
  Rg [m 6 (Fl 0 2),m 7 (Ld 6),m 8 (.build [q,o,o,o,o,o,o,o,o,q,q,o,o,o,o,o,o,o,o,o,o,o,o,o,o,o,o,q,o,o,o,o,o,o,o,o,o,o,o,o,o,o,o,o,q,o,o,o,o,o,o,o,o,o,o,o,o,o,o,o,o,(.str [])] [(0,1,(t 7))]),m 5 (.alloc 3 [q,o,o,o,o,o,o,o,o,q,q,o,o,o,o,o,o,o,o,o,o,o,o,o,o,o,o,q,o,o,o,o,o,o,o,o,o,o,o,o,o,o,o,o,q,o,o,o,o,o,o,o,o,o,o,o,o,o,o,o,o,(.str [])]),e (.store 62 (t 5) (t 8))]<|
  .seq (Rg [m 9 (Fl 0 3),m 10 (Ld 9)]<|
  .cond (t 10) (.region [m 11 (Fl 1 2),m 12 (Ls 8 11),m 13 (Fl 1 5),e (.store 8 (t 13) (t 12))]) (.skip))<|
  .seq (Rg [m 14 (Fl 1 3),m 15 (Ld 14)]<|
  .cond (t 15) (.region [m 16 (Fl 9 2),m 17 (Ld 16),m 18 (Fl 9 5),e (.store 1 (t 18) (t 17))]) (.skip))<|
  .seq (Rg [m 19 (Fl 2 3),m 20 (Ld 19)]<|
  .cond (t 20) (.dreg [(m 21 (Fl 10 2),[]),(m 22 (Ls 17 21),[0]),(m 23 (Fl 27 2),[]),(m 24 (Ls 17 23),[2]),(m 25 (Fl 10 5),[0,1]),(e (.store 17 (t 25) (t 22)),[4,1,0,1]),(m 26 (Fl 27 5),[0,1,2,3,4,5]),(e (.store 17 (t 26) (t 24)),[6,3,5,0,1,2,3,4,5])] [(1,0),(1,1),(2,2),(2,3),(1,4),(0,5),(1,6),(0,7)] [0,1,0,4,3,19,63,127]) (.skip))<|
  .seq (Rg [m 27 (Fl 3 3),m 28 (Ld 27)]<|
  .cond (t 28) (.region [m 29 (Fl 44 2),m 30 (Ls 17 29),m 31 (Fl 44 5),e (.store 17 (t 31) (t 30))]) (.skip))<|
  .seq (Rg [m 32 (Fl 0 2),m 33 (Ld 32),m 34 (.bin .eql .num (t 33) (Ci 4))]<|
  .cond (t 34) (.region [m 35 (Fl 61 2),m 36 (Ld 35),m 37 (Fl 61 5),e (.store 1 (t 37) (t 36))]) (.skip))<|
  Rg [m 38 (Ls 62 5),e (.store 62 (t 4) (t 38))]<|
  .ret
def vf217:VFun:=⟨39,4,vb217,[.cell 4 (some 62)],false⟩
theorem cf217:cFun Tryz.prog rawF false Tryz.f217=some vf217:=by kernel_rfl
theorem T217 (h:HT σ args Post vb217 vf217 [dd,dd,dd,dd]) (hl:args.length≤39:=by exact zB rfl):T Tryz.prog 217 args σ Post:=T.walk Tryz.func217 cf217 hl rfl h
@[reducible] def vb218:VC:=
  Rg [m 1 (.box 0 (t 0)),m 2 (.mov Bf)]<|
  Rg [m 3 (Ls 17 1),m 4 (.call false 50 [(t 3)]),Mv 5 4,Gt 6 5 (Fl 0 1),Gt 7 5 (Ld 6),Gt 8 5 (.bin .gtr .num (t 7) (.c q)),m 9 (.pick (t 5) (t 8) Bf),Mv 2 9]<|
  .ret
def vf218:VFun:=⟨10,1,vb218,[.tmp 2],false⟩
theorem cf218:cFun Tryz.prog rawF false Tryz.f218=some vf218:=by kernel_rfl
theorem T218 (h:HT σ args Post vb218 vf218 [dd]) (hl:args.length≤10:=by exact zB rfl):T Tryz.prog 218 args σ Post:=T.walk Tryz.func218 cf218 hl rfl h
@[reducible] def vb219:VC:=
  Rg [m 3 (.box 0 (t 0)),m 4 (.box 1 (t 1)),m 6 (.mov Bf)]<|
  .seq (Rg [m 7 (Ls 17 3),m 8 (.call false 50 [(t 7)]),m 9 (.un .not (t 8)),Mv 10 9,Gf 11 10 (Ls 17 4),Gf 12 10 (.call false 50 [(t 11)]),Gf 13 10 (.un .not (t 12)),m 14 (.pick (t 10) Bt (t 13)),Mv 15 14,Gf 16 15 (Ls 17 3),Gf 17 15 (.call false 90 [(t 16)]),m 18 (.pick (t 15) Bt (t 17))]<|
  .cond (t 18) (Rg [m 6 (.mov Bf)]<|
  .ret) (.skip))<|
  .seq (Rg [m 19 (Fl 0 4),m 20 (Ld 19),m 21 (.bin .gtr .num (t 20) (.c q)),Mv 22 21,Gt 23 22 (Ls 17 4),Gt 24 22 (.call false 90 [(t 23)]),Gt 25 22 (.un .not (t 24)),m 26 (.pick (t 22) (t 25) Bf)]<|
  .cond (t 26) (Rg [m 6 (.mov Bf)]<|
  .ret) (.skip))<|
  .seq (Rg [Mv 27 2,Mv 28 27,Gt 29 28 (Fl 0 3),Gt 30 28 (Ld 29),Gt 31 28 (.bin .eql .num (t 30) (.c q)),Gt 32 28 (.mov (t 31)),Gf 33 32 (Fl 0 4),Gf 34 32 (Ld 33),Gf 35 32 (.bin .eql .num (t 34) (.c q)),Gt 36 28 (.pick (t 32) Bt (t 35)),m 37 (.pick (t 28) (t 36) Bf)]<|
  .cond (t 37) (Rg [m 6 (.mov Bt)]<|
  .ret) (.skip))<|
  Rg [m 38 (Fl 0 3),m 39 (Ld 38),m 40 (.bin .gtr .num (t 39) (.c q)),Mv 41 40,Gt 42 41 (Fl 0 3),Gt 43 41 (Ld 42),Gt 44 41 (Fl 0 4),Gt 45 41 (Ld 44),Gt 46 41 (.bin .eql .num (t 43) (t 45)),m 47 (.pick (t 41) (t 46) Bf),Mv 6 47]<|
  .ret
def vf219:VFun:=⟨48,2,vb219,[.tmp 6],false⟩
theorem cf219:cFun Tryz.prog rawF false Tryz.f219=some vf219:=by kernel_rfl
theorem T219 (h:HT σ args Post vb219 vf219 [dd,dd]) (hl:args.length≤48:=by exact zB rfl):T Tryz.prog 219 args σ Post:=T.walk Tryz.func219 cf219 hl rfl h
@[reducible] def vb170:VC:=
  Rg [m 1 (.box 0 (t 0)),m 2 (.newRow 1 1)]<|
  .seq (.dreg [(m 3 (Fl 0 1),[]),(m 4 (Ld 3),[0]),(m 5 (.bin .mul .num (Ci 8) (t 4)),[1]),(m 6 (.convInt .u8 (t 5)),[2]),(m 7 (.buildSlice 2 1 1 [o] [(0,(t 6))]),[3]),(m 8 (Ls 17 1),[]),(m 9 (.call false 53 [(t 8)]),[5]),(m 10 (.append 3 1 1 (t 7) (t 9)),[4,6,6]),(Mv 2 10,[7,7,0,1,2,3,4,5,6,7])] [(1,0),(1,1),(2,2),(2,3),(2,5),(2,6),(0,4),(0,7),(2,8)] [0,1,3,7,15,0,32,127,255])<|
  .ret
def vf170:VFun:=⟨11,4,vb170,[.tmp 2],false⟩
theorem cf170:cFun Tryz.prog rawF false Tryz.f170=some vf170:=by kernel_rfl
theorem T170 (h:HT σ args Post vb170 vf170 [dd,dd,dd,dd]) (hl:args.length≤11:=by exact zB rfl):T Tryz.prog 170 args σ Post:=T.walk Tryz.func170 cf170 hl rfl h
@[reducible] def vb220:VC:=
  Rg [m 2 (.alloc 0 [q,o,o,o,o,o,o,o,o,q,q,o,o,o,o,o,o,o,o,o,o,o,o,o,o,o,o,q,o,o,o,o,o,o,o,o,o,o,o,o,o,o,o,o,q,o,o,o,o,o,o,o,o,o,o,o,o,o,o,o,o,(.str [])]),m 3 (.mov Bf)]<|
  .seq (Rg [Mv 8 0,m 9 (.bin .neq .num (t 8) (.c (.str []))),Mv 10 9,Gt 11 10 (.mov (t 0)),Gt 12 10 (.indexStr (t 11) (.c q)),Gt 13 10 (.convInt .i64 (t 12)),Gt 14 10 (.bin .eql .num (t 13) (Ci 4)),m 15 (.pick (t 10) (t 14) Bf)]<|
  .cond (t 15) (Rg [m 16 (.build [q,o,o,o,o,o,o,o,o,q,q,o,o,o,o,o,o,o,o,o,o,o,o,o,o,o,o,q,o,o,o,o,o,o,o,o,o,o,o,o,o,o,o,o,q,o,o,o,o,o,o,o,o,o,o,o,o,o,o,o,o,(.str [])] []),e (.store 62 (t 2) (t 16)),m 3 (.mov Bf)]<|
  .ret) (.skip))<|
  .seq (Rg [m 17 (.buildSlice 1 1 2 [q] [(0,(Ci 4)),(1,(Ci 16))]),m 18 (.len (t 17)),m 19 (.mov (.c q))]<|
  .block 0<|.loop<|Rg [m 20 (.bin .lss .num (t 19) (t 18))]<|
  .seq (.cond (t 20) (.skip) (.exit 0))<|
  .seq (.block 1<|Rg [m 21 (.index 1 (t 17) (t 19)),m 22 (Ld 21),Mv 5 22]<|
  Rg [Mv 24 0,m 25 (.s2b 2 (t 24)),Mv 26 5,m 27 (.call false 243 [(t 25),(t 26)]),Mv 23 27,m 28 (.extract 0 (t 23)),m 29 (.extract 1 (t 23)),m 6 (.alloc 3 [q,o,o,o,o,o,o,o,o,q,q,o,o,o,o,o,o,o,o,o,o,o,o,o,o,o,o,q,o,o,o,o,o,o,o,o,o,o,o,o,o,o,o,o,q,o,o,o,o,o,o,o,o,o,o,o,o,o,o,o,o,(.str [])]),e (.store 62 (t 6) (t 28)),Mv 7 29]<|
  Rg [Mv 30 7,m 31 (.bin .eql .num (t 30) (.c q)),Mv 32 31,Gt 33 32 (Fl 0 6),Gt 34 32 (Ld 33),Gt 35 32 (.bin .eql .num (t 34) (Ci 2)),Gt 36 32 (.mov (t 35)),Gf 37 36 (Fl 0 6),Gf 38 36 (Ld 37),Gf 39 36 (.bin .eql .num (t 38) (Ci 3)),Gt 40 32 (.pick (t 36) Bt (t 39)),m 41 (.pick (t 32) (t 40) Bf)]<|
  .cond (t 41) (Rg [m 42 (Ls 62 6),e (.store 62 (t 2) (t 42)),m 3 (.mov Bt)]<|
  .ret) (.skip))<|
  .region [m 43 (.bin .add .num (t 19) (Ci 1)),Mv 19 43])<|
  Rg [m 44 (.build [q,o,o,o,o,o,o,o,o,q,q,o,o,o,o,o,o,o,o,o,o,o,o,o,o,o,o,q,o,o,o,o,o,o,o,o,o,o,o,o,o,o,o,o,q,o,o,o,o,o,o,o,o,o,o,o,o,o,o,o,o,(.str [])] []),e (.store 62 (t 2) (t 44)),m 3 (.mov Bf)]<|
  .ret
def vf220:VFun:=⟨45,4,vb220,[.cell 2 (some 62),.tmp 3],false⟩
theorem cf220:cFun Tryz.prog rawF false Tryz.f220=some vf220:=by kernel_rfl
theorem T220 (h:HT σ args Post vb220 vf220 [dd,dd,dd,dd]) (hl:args.length≤45:=by exact zB rfl):T Tryz.prog 220 args σ Post:=T.walk Tryz.func220 cf220 hl rfl h
@[reducible] def vb168:VC:=
  Rg [m 1 (.box 0 (t 0)),m 2 (.mov Bf)]<|
  Rg [m 8 (Fl 0 1),m 9 (Ld 8),m 10 (.call false 169 [(t 9)]),Mv 7 10,m 11 (.extract 0 (t 7)),m 12 (.extract 1 (t 7)),m 3 (.alloc 1 [(.bool false),(.bool false),(.bool false),(.bool false)]),e (.store 4 (t 3) (t 11)),Mv 4 12]<|
  .seq (.block 0<|.seq (Rg [Mv 14 4,m 15 (.un .not (t 14)),Mv 13 15]<|
  .cond (t 13) (.skip) (.seq (.dreg [(m 16 (Ls 62 1),[]),(m 17 (Ls 4 3),[]),(m 18 (.call false 217 [(t 16),(t 17)]),[0,1]),(m 19 (Ls 62 1),[]),(m 20 (.eqAgg [(.i .i64),(.i .u8),(.i .u8),(.i .u8),(.i .u8),(.i .u8),(.i .u8),(.i .u8),(.i .u8),(.i .i64),(.i .i64),(.i .u8),(.i .u8),(.i .u8),(.i .u8),(.i .u8),(.i .u8),(.i .u8),(.i .u8),(.i .u8),(.i .u8),(.i .u8),(.i .u8),(.i .u8),(.i .u8),(.i .u8),(.i .u8),(.i .i64),(.i .u8),(.i .u8),(.i .u8),(.i .u8),(.i .u8),(.i .u8),(.i .u8),(.i .u8),(.i .u8),(.i .u8),(.i .u8),(.i .u8),(.i .u8),(.i .u8),(.i .u8),(.i .u8),(.i .i64),(.i .u8),(.i .u8),(.i .u8),(.i .u8),(.i .u8),(.i .u8),(.i .u8),(.i .u8),(.i .u8),(.i .u8),(.i .u8),(.i .u8),(.i .u8),(.i .u8),(.i .u8),(.i .u8),.s] true (t 18) (t 19)),[2,3]),(Mv 13 20,[4,2])] [(1,0),(1,1),(1,2),(1,3),(2,4),(2,5)] [0,0,3,0,15,31])<|
  .cond (t 13) (.skip) (Rg [m 21 (Fl 9 1),m 22 (Ld 21),m 23 (.bin .lss .num (t 22) (.c q)),Mv 13 23]<|
  .cond (t 13) (.skip) (.region [m 24 (Fl 9 1),m 25 (Ld 24),m 26 (.bin .gtr .num (t 25) (Ci 4294967295)),Mv 13 26]))))<|
  .cond (t 13) (Rg [m 2 (.mov Bf)]<|
  .ret) (Rg [m 28 (Fl 3 3),m 29 (Ld 28),Mv 30 29,Gt 31 30 (Fl 44 1),Gt 32 30 (Ls 17 31),Gt 33 30 (.call false 218 [(t 32)]),Gt 34 30 (.un .not (t 33)),m 35 (.pick (t 30) (t 34) Bf),Mv 27 35]<|
  .cond (t 27) (Rg [m 2 (.mov Bf)]<|
  .ret) (Rg [m 37 (Fl 2 3),m 38 (Ld 37),Mv 39 38,Gt 40 39 (Fl 10 1),Gt 41 39 (Ls 17 40),Gt 42 39 (Fl 27 1),Gt 43 39 (Ls 17 42),Gt 44 39 (Fl 0 1),Gt 45 39 (Ld 44),Gt 46 39 (.bin .eql .num (t 45) (Ci 3)),Gt 47 39 (.call false 219 [(t 41),(t 43),(t 46)]),Gt 48 39 (.un .not (t 47)),m 49 (.pick (t 39) (t 48) Bf),Mv 36 49]<|
  .cond (t 36) (Rg [m 2 (.mov Bf)]<|
  .ret) (Rg [m 51 (Fl 0 1),m 52 (Ld 51),m 53 (.bin .eql .num (t 52) (Ci 4)),Mv 50 53]<|
  .cond (t 50) (Rg [m 55 (Fl 61 1),m 56 (Ld 55),m 57 (.call false 220 [(t 56)]),Mv 54 57,m 58 (.extract 0 (t 54)),m 59 (.extract 1 (t 54)),m 5 (.alloc 2 [q,o,o,o,o,o,o,o,o,q,q,o,o,o,o,o,o,o,o,o,o,o,o,o,o,o,o,q,o,o,o,o,o,o,o,o,o,o,o,o,o,o,o,o,q,o,o,o,o,o,o,o,o,o,o,o,o,o,o,o,o,(.str [])]),e (.store 62 (t 5) (t 58)),Mv 6 59]<|
  Rg [Mv 60 6,Mv 2 60]<|
  .ret) (.skip)))))<|
  Rg [m 2 (.mov Bt)]<|
  .ret
def vf168:VFun:=⟨61,3,vb168,[.tmp 2],false⟩
theorem cf168:cFun Tryz.prog rawF false Tryz.f168=some vf168:=by kernel_rfl
theorem T168 (h:HT σ args Post vb168 vf168 [dd,dd,dd]) (hl:args.length≤61:=by exact zB rfl):T Tryz.prog 168 args σ Post:=T.walk Tryz.func168 cf168 hl rfl h
@[reducible] def vb118:VC:=
  Rg [m 1 (.box 0 (t 0)),m 2 (.newRow 1 1),m 3 (.mov (.c q))]<|
  .seq (Rg [m 7 (Ls 62 1),m 8 (.call false 168 [(t 7)]),m 9 (.un .not (t 8))]<|
  .cond (t 9) (Rg [m 2 (.newRow 1 1),m 3 (.mov (Ci 1))]<|
  .ret) (.skip))<|
  Rg [m 11 (Fl 0 1),m 12 (Ld 11),m 13 (.call false 169 [(t 12)]),Mv 10 13,m 14 (.extract 0 (t 10)),m 15 (.extract 1 (t 10)),m 4 (.alloc 2 [(.bool false),(.bool false),(.bool false),(.bool false)]),e (.store 4 (t 4) (t 14)),Mv 5 15]<|
  Rg [m 16 (Fl 61 1),m 17 (Ld 16),m 18 (.s2b 3 (t 17)),Mv 6 18]<|
  .seq (Rg [m 19 (Fl 0 4),m 20 (Ld 19)]<|
  .cond (t 20) (.region [Mv 21 6,m 22 (Fl 1 1),m 23 (.sliceArr 8 1 (t 22) none none),m 24 (.append 4 1 1 (t 21) (t 23)),Mv 6 24]) (.skip))<|
  .seq (Rg [m 25 (Fl 1 4),m 26 (Ld 25)]<|
  .cond (t 26) (.region [Mv 28 6,m 29 (Fl 9 1),m 30 (Ld 29),m 31 (.call false 147 [(t 28),(t 30),(Ci 4)]),Mv 27 31,m 32 (.extract 0 (t 27)),m 33 (.extract 1 (t 27)),Mv 6 32]) (.skip))<|
  .seq (Rg [m 34 (Fl 2 4),m 35 (Ld 34)]<|
  .cond (t 35) (.dreg [(Mv 36 6,[]),(m 37 (Fl 10 1),[]),(m 38 (Ls 17 37),[1]),(m 39 (.call false 170 [(t 38)]),[2]),(m 40 (.append 5 1 1 (t 36) (t 39)),[0,3,3]),(m 41 (Fl 27 1),[]),(m 42 (Ls 17 41),[5]),(m 43 (.call false 170 [(t 42)]),[6,4]),(m 44 (.append 6 1 1 (t 40) (t 43)),[4,7,7]),(Mv 6 44,[8,8,0,1,2,3,4,5,6,7,8])] [(2,0),(1,1),(1,2),(1,3),(2,5),(2,6),(0,4),(1,7),(0,8),(2,9)] [0,0,2,6,15,0,32,127,255,511]) (.skip))<|
  .seq (Rg [m 45 (Fl 3 4),m 46 (Ld 45)]<|
  .cond (t 46) (.region [Mv 47 6,m 48 (Fl 44 1),m 49 (Ls 17 48),m 50 (.call false 53 [(t 49)]),m 51 (.append 7 1 1 (t 47) (t 50)),Mv 6 51]) (.skip))<|
  Rg [m 52 (Fl 0 1),m 53 (Ld 52),m 54 (.convInt .u8 (t 53)),Mv 55 6,m 56 (.len (t 55)),m 57 (.convInt .u8 (t 56)),m 58 (.buildSlice 8 1 2 [o] [(0,(t 54)),(1,(t 57))]),Mv 59 6,m 60 (.append 9 1 1 (t 58) (t 59)),Mv 2 60,m 3 (.mov (.c q))]<|
  .ret
def vf118:VFun:=⟨61,10,vb118,[.tmp 2,.tmp 3],false⟩
theorem cf118:cFun Tryz.prog rawF false Tryz.f118=some vf118:=by kernel_rfl
theorem T118 (h:HT σ args Post vb118 vf118 [dd,dd,dd,dd,dd,dd,dd,dd,dd,dd]) (hl:args.length≤61:=by exact zB rfl):T Tryz.prog 118 args σ Post:=T.walk Tryz.func118 cf118 hl rfl h
@[reducible] def vb283:VC:=
  Rg [m 4 (.alloc 0 [q,o,o,o,o,o,o,o,o,o,o,o,o,o,o,o,o])]<|
  Rg [m 7 (Ld 1),Mv 8 0,m 9 (.call false 123 [(t 7),(t 8)]),m 10 (.call false 121 [(t 9)]),Mv 6 10,m 11 (.extract 0 (t 6)),m 12 (.extract 1 (t 6)),e (.store 17 (t 4) (t 11)),Mv 5 12]<|
  Rg [m 13 (Ld 2),Mv 14 13,Gt 15 14 (.mov (t 5)),Gt 16 14 (.bin .eql .num (t 15) (.c q)),m 17 (.pick (t 14) (t 16) Bf),e (.store 1 (t 2) (t 17))]<|
  Rg [m 18 (Ls 17 4),e (.store 17 (t 4) (t 18))]<|
  .ret
def vf283:VFun:=⟨19,1,vb283,[.cell 4 (some 17)],false⟩
theorem cf283:cFun Tryz.prog rawF false Tryz.f283=some vf283:=by kernel_rfl
theorem T283 (h:HT σ args Post vb283 vf283 [dd]) (hl:args.length≤19:=by exact zB rfl):T Tryz.prog 283 args σ Post:=T.walk Tryz.func283 cf283 hl rfl h
@[reducible] def vb284:VC:=
  Rg [m 3 (.alloc 0 [q,o,o,o,o,o,o,o,o,o,o,o,o,o,o,o,o])]<|
  Rg [m 5 (Ld 0),m 6 (.call false 54 [(t 5),(Ci 1)]),Mv 4 6]<|
  Rg [m 7 (Ld 1),Mv 8 7,Gt 9 8 (.mov (t 4)),Gt 10 8 (.bin .rem .num (t 9) (Ci 8)),Gt 11 8 (.bin .eql .num (t 10) (.c q)),m 12 (.pick (t 8) (t 11) Bf),e (.store 1 (t 1) (t 12))]<|
  Rg [m 13 (Ld 2),Mv 14 4,m 15 (.bin .quo .num (t 14) (Ci 8)),m 16 (.callV (t 13) [(t 15)]),e (.store 17 (t 3) (t 16))]<|
  .ret
def vf284:VFun:=⟨17,1,vb284,[.cell 3 (some 17)],false⟩
theorem cf284:cFun Tryz.prog rawF false Tryz.f284=some vf284:=by kernel_rfl
theorem T284 (h:HT σ args Post vb284 vf284 [dd]) (hl:args.length≤17:=by exact zB rfl):T Tryz.prog 284 args σ Post:=T.walk Tryz.func284 cf284 hl rfl h
@[reducible] def vb277:VC:=
  Rg [m 4 (.box 0 (t 1)),m 6 (.alloc 1 [q,o,o,o,o,o,o,o,o,q,q,o,o,o,o,o,o,o,o,o,o,o,o,o,o,o,o,q,o,o,o,o,o,o,o,o,o,o,o,o,o,o,o,o,q,o,o,o,o,o,o,o,o,o,o,o,o,o,o,o,o,(.str [])]),m 7 (.mov Bf)]<|
  Rg [Mv 13 0,Mv 14 2,m 15 (.build [q,o,o,o,o,o,o,o,o,q,q,o,o,o,o,o,o,o,o,o,o,o,o,o,o,o,o,q,o,o,o,o,o,o,o,o,o,o,o,o,o,o,o,o,q,o,o,o,o,o,o,o,o,o,o,o,o,o,o,o,o,(.str [])] [(0,1,(t 13)),(61,1,(t 14))]),m 8 (.alloc 2 [q,o,o,o,o,o,o,o,o,q,q,o,o,o,o,o,o,o,o,o,o,o,o,o,o,o,o,q,o,o,o,o,o,o,o,o,o,o,o,o,o,o,o,o,q,o,o,o,o,o,o,o,o,o,o,o,o,o,o,o,o,(.str [])]),e (.store 62 (t 8) (t 15))]<|
  Rg [Mv 17 0,m 18 (.call false 169 [(t 17)]),Mv 16 18,m 19 (.extract 0 (t 16)),m 20 (.extract 1 (t 16)),m 9 (.alloc 3 [(.bool false),(.bool false),(.bool false),(.bool false)]),m 10 (.alloc 4 [(.bool false)]),e (.store 4 (t 9) (t 19)),e (.store 1 (t 10) (t 20))]<|
  Rg [m 21 (.func 283 [(t 4),(t 10)]),m 11 (.alloc 5 [.undef]),e (.store 1 (t 11) (t 21))]<|
  Rg [m 22 (.func 284 [(t 4),(t 10),(t 11)]),Mv 12 22]<|
  .seq (Rg [m 23 (Fl 0 9),m 24 (Ld 23)]<|
  .cond (t 24) (.dreg [(m 25 (Fl 1 8),[]),(m 26 (.sliceArr 8 1 (t 25) none none),[0]),(m 27 (Ld 4),[]),(m 28 (.call false 123 [(t 27),(Ci 8)]),[2]),(m 29 (.copyTo 1 (t 26) (t 28)),[1,3,3])] [(2,0),(2,1),(1,2),(0,3),(0,4)] [0,1,0,4,15]) (.skip))<|
  .seq (Rg [m 30 (Fl 1 9),m 31 (Ld 30)]<|
  .cond (t 31) (.region [m 32 (Ld 4),m 33 (.call false 54 [(t 32),(Ci 4)]),m 34 (Fl 9 8),e (.store 1 (t 34) (t 33))]) (.skip))<|
  .seq (Rg [m 35 (Fl 2 9),m 36 (Ld 35)]<|
  .cond (t 36) (Rg [Mv 37 12,m 38 (.callV (t 37) []),m 39 (Fl 10 8),e (.store 17 (t 39) (t 38))]<|
  .region [Mv 40 12,m 41 (.callV (t 40) []),m 42 (Fl 27 8),e (.store 17 (t 42) (t 41))]) (.skip))<|
  .seq (Rg [m 43 (Fl 3 9),m 44 (Ld 43)]<|
  .cond (t 44) (.dreg [(m 45 (Ld 11),[]),(m 46 (Ld 4),[]),(m 47 (.nilCheck (t 46)),[1]),(m 48 (Fl 0 47),[2]),(m 49 (.call false 128 [(t 48)]),[3]),(m 50 (.callV (t 45) [(t 49)]),[0,4,4]),(m 51 (Fl 44 8),[0,1,2,3,4,5]),(e (.store 17 (t 51) (t 50)),[6,5,5,0,1,2,3,4,5])] [(2,0),(1,1),(1,2),(1,3),(0,4),(0,5),(1,6),(0,7)] [0,0,2,6,14,31,63,127]) (.skip))<|
  .seq (.dreg [(m 52 (Ls 62 8),[]),(m 53 (Ld 10),[]),(Mv 54 53,[1]),(Gt 55 54 (Ld 4),[2]),(Gt 56 54 (.nilCheck (t 55)),[3,2]),(Gt 57 54 (Fl 0 56),[4,2]),(Gt 58 54 (.call false 276 [(t 57)]),[5,2,2]),(Gt 59 54 (.un .not (t 58)),[6,2]),(m 60 (.pick (t 54) (t 59) Bf),[2,7]),(Mv 61 60,[8,6]),(Gt 62 61 (Ld 4),[9]),(Gt 63 61 (.nilCheck (t 62)),[10,9]),(Gt 64 61 (Fl 0 63),[11,9]),(Gt 65 61 (.call false 128 [(t 64)]),[12,9,9]),(Gt 66 61 (.bin .eql .num (t 65) (.c q)),[13,9]),(m 67 (.pick (t 61) (t 66) Bf),[9,14]),(e (.store 62 (t 6) (t 52)),[0,13,0]),(Mv 7 67,[15,16,0,1,2,3,4,5,6,7,8,9,10,11,12,13,14,15,16])] [(2,0),(1,1),(2,2),(1,3),(1,4),(1,5),(0,6),(2,7),(2,8),(2,9),(1,10),(1,11),(1,12),(0,13),(2,14),(2,15),(0,16),(2,17)] [0,0,2,6,14,30,62,126,254,510,1022,2046,4094,8190,16382,32766,16383,131071])<|
  .ret
def vf277:VFun:=⟨68,6,vb277,[.cell 6 (some 62),.tmp 7],false⟩
theorem cf277:cFun Tryz.prog rawF false Tryz.f277=some vf277:=by kernel_rfl
theorem T277 (h:HT σ args Post vb277 vf277 [dd,dd,dd,dd,dd,dd]) (hl:args.length≤68:=by exact zB rfl):T Tryz.prog 277 args σ Post:=T.walk Tryz.func277 cf277 hl rfl h
@[reducible] def vb278:VC:=
  Rg [m 2 (.box 0 (t 0)),m 4 (.mov Bf)]<|
  .seq (Rg [m 9 (Fl 10 2),m 10 (Ls 17 9),m 11 (Fl 27 2),m 12 (Ls 17 11),m 13 (.buildSlice 1 17 2 [q,o,o,o,o,o,o,o,o,o,o,o,o,o,o,o,o] [(0,(t 10)),(1,(t 12))]),m 14 (.len (t 13)),m 15 (.mov (.c q))]<|
  .block 0<|.loop<|Rg [m 16 (.bin .lss .num (t 15) (t 14))]<|
  .seq (.cond (t 16) (.skip) (.exit 0))<|
  .seq (.block 1<|Rg [m 17 (.index 17 (t 13) (t 15)),m 18 (Ls 17 17),m 6 (.alloc 2 [q,o,o,o,o,o,o,o,o,o,o,o,o,o,o,o,o]),e (.store 17 (t 6) (t 18))]<|
  Rg [m 19 (Fl 0 6),m 20 (Ld 19),m 21 (.bin .neq .num (t 20) (.c q)),Mv 22 21,Gt 23 22 (Fl 0 6),Gt 24 22 (Ld 23),Gt 25 22 (.mov (t 1)),Gt 26 22 (.bin .neq .num (t 24) (t 25)),m 27 (.pick (t 22) (t 26) Bf)]<|
  .cond (t 27) (Rg [m 4 (.mov Bf)]<|
  .ret) (.skip))<|
  .region [m 28 (.bin .add .num (t 15) (Ci 1)),Mv 15 28])<|
  .seq (Rg [m 29 (Fl 0 2),m 30 (Ld 29),m 31 (.bin .neq .num (t 30) (Ci 4))]<|
  .cond (t 31) (Rg [m 4 (.mov Bt)]<|
  .ret) (.skip))<|
  Rg [m 33 (Fl 61 2),m 34 (Ld 33),m 35 (.s2b 3 (t 34)),Mv 36 1,m 37 (.call false 243 [(t 35),(t 36)]),Mv 32 37,m 38 (.extract 0 (t 32)),m 39 (.extract 1 (t 32)),m 7 (.alloc 4 [q,o,o,o,o,o,o,o,o,q,q,o,o,o,o,o,o,o,o,o,o,o,o,o,o,o,o,q,o,o,o,o,o,o,o,o,o,o,o,o,o,o,o,o,q,o,o,o,o,o,o,o,o,o,o,o,o,o,o,o,o,(.str [])]),e (.store 62 (t 7) (t 38)),Mv 8 39]<|
  Rg [Mv 40 8,m 41 (.bin .eql .num (t 40) (.c q)),Mv 4 41]<|
  .ret
def vf278:VFun:=⟨42,5,vb278,[.tmp 4],false⟩
theorem cf278:cFun Tryz.prog rawF false Tryz.f278=some vf278:=by kernel_rfl
theorem T278 (h:HT σ args Post vb278 vf278 [dd,dd,dd,dd,dd]) (hl:args.length≤42:=by exact zB rfl):T Tryz.prog 278 args σ Post:=T.walk Tryz.func278 cf278 hl rfl h
@[reducible] def vb260:VC:=
  Rg [m 4 (.alloc 0 [q,o,o,o,o,o,o,o,o,q,q,o,o,o,o,o,o,o,o,o,o,o,o,o,o,o,o,q,o,o,o,o,o,o,o,o,o,o,o,o,o,o,o,o,q,o,o,o,o,o,o,o,o,o,o,o,o,o,o,o,o,(.str [])]),m 5 (.mov (.c q)),m 6 (.mov (.c q))]<|
  .seq (Rg [Mv 15 1,m 16 (.bin .neq .num (t 15) (Ci 4)),Mv 17 16,Gt 18 17 (.mov (t 1)),Gt 19 17 (.bin .neq .num (t 18) (Ci 16)),m 20 (.pick (t 17) (t 19) Bf)]<|
  .cond (t 20) (Rg [m 21 (.build [q,o,o,o,o,o,o,o,o,q,q,o,o,o,o,o,o,o,o,o,o,o,o,o,o,o,o,q,o,o,o,o,o,o,o,o,o,o,o,o,o,o,o,o,q,o,o,o,o,o,o,o,o,o,o,o,o,o,o,o,o,(.str [])] []),e (.store 62 (t 4) (t 21)),m 5 (.mov (.c q)),m 6 (.mov (Ci 1))]<|
  .ret) (.skip))<|
  Rg [Mv 22 0,m 23 (.call false 52 [(t 22)]),Mv 7 23]<|
  Rg [Mv 24 7,m 25 (.call false 54 [(t 24),(Ci 1)]),Mv 8 25]<|
  Rg [Mv 26 7,m 27 (.call false 54 [(t 26),(Ci 1)]),Mv 9 27]<|
  Rg [Mv 28 7,Mv 29 9,m 30 (.call false 275 [(t 28),(t 29)]),Mv 10 30]<|
  .seq (Rg [Mv 31 7,m 32 (.nilCheck (t 31)),m 33 (Fl 0 32),m 34 (.call false 276 [(t 33)])]<|
  .cond (t 34) (Rg [m 35 (.build [q,o,o,o,o,o,o,o,o,q,q,o,o,o,o,o,o,o,o,o,o,o,o,o,o,o,o,q,o,o,o,o,o,o,o,o,o,o,o,o,o,o,o,o,q,o,o,o,o,o,o,o,o,o,o,o,o,o,o,o,o,(.str [])] []),e (.store 62 (t 4) (t 35)),m 5 (.mov (.c q)),m 6 (.mov (Ci 3))]<|
  .ret) (.skip))<|
  Rg [m 11 (.mov (.c (.str [])))]<|
  .seq (Rg [Mv 36 8,m 37 (.bin .eql .num (t 36) (Ci 4))]<|
  .cond (t 37) (Rg [Mv 38 10,m 39 (.call false 123 [(t 38),(Ci 2)]),Mv 12 39]<|
  .seq (Rg [Mv 40 10,m 41 (.nilCheck (t 40)),m 42 (Fl 0 41),m 43 (.call false 276 [(t 42)])]<|
  .cond (t 43) (Rg [m 44 (.build [q,o,o,o,o,o,o,o,o,q,q,o,o,o,o,o,o,o,o,o,o,o,o,o,o,o,o,q,o,o,o,o,o,o,o,o,o,o,o,o,o,o,o,o,q,o,o,o,o,o,o,o,o,o,o,o,o,o,o,o,o,(.str [])] []),e (.store 62 (t 4) (t 44)),m 5 (.mov (.c q)),m 6 (.mov (Ci 4))]<|
  .ret) (.skip))<|
  .dreg [(Mv 45 12,[]),(m 46 (.b2s (t 45)),[0]),(Mv 47 10,[]),(Mv 48 12,[]),(m 49 (.index 1 (t 48) (Ci 1)),[3]),(m 50 (Ld 49),[4]),(m 51 (.convInt .i64 (t 50)),[5]),(m 52 (.call false 123 [(t 47),(t 51)]),[2,6]),(m 53 (.b2s (t 52)),[7]),(m 54 (.bin .add .num (t 46) (t 53)),[1,8]),(Mv 11 54,[9,7,0,1,2,3,4,5,6,7,8,9])] [(2,0),(2,1),(2,2),(2,3),(1,4),(1,5),(2,6),(0,7),(1,8),(2,9),(2,10)] [0,1,0,0,8,24,56,124,252,511,1023]) (.skip))<|
  Rg [Mv 56 8,Mv 57 10,Mv 58 11,m 59 (.call false 277 [(t 56),(t 57),(t 58)]),Mv 55 59,m 60 (.extract 0 (t 55)),m 61 (.extract 1 (t 55)),m 13 (.alloc 1 [q,o,o,o,o,o,o,o,o,q,q,o,o,o,o,o,o,o,o,o,o,o,o,o,o,o,o,q,o,o,o,o,o,o,o,o,o,o,o,o,o,o,o,o,q,o,o,o,o,o,o,o,o,o,o,o,o,o,o,o,o,(.str [])]),e (.store 62 (t 13) (t 60)),Mv 14 61]<|
  .seq (Rg [Mv 62 14,m 63 (.un .not (t 62)),Mv 64 63,Gf 65 64 (Ls 62 13),Gf 66 64 (.call false 168 [(t 65)]),Gf 67 64 (.un .not (t 66)),m 68 (.pick (t 64) Bt (t 67)),Mv 69 68,Gf 70 69 (Ls 62 13),Gf 71 69 (.mov (t 1)),Gf 72 69 (.call false 278 [(t 70),(t 71)]),Gf 73 69 (.un .not (t 72)),m 74 (.pick (t 69) Bt (t 73))]<|
  .cond (t 74) (Rg [m 75 (.build [q,o,o,o,o,o,o,o,o,q,q,o,o,o,o,o,o,o,o,o,o,o,o,o,o,o,o,q,o,o,o,o,o,o,o,o,o,o,o,o,o,o,o,o,q,o,o,o,o,o,o,o,o,o,o,o,o,o,o,o,o,(.str [])] []),e (.store 62 (t 4) (t 75)),m 5 (.mov (.c q)),m 6 (.mov (Ci 4))]<|
  .ret) (.skip))<|
  Rg [m 76 (Ls 62 13),Mv 77 9,m 78 (.bin .add .num (Ci 2) (t 77)),e (.store 62 (t 4) (t 76)),Mv 5 78,m 6 (.mov (.c q))]<|
  .ret
def vf260:VFun:=⟨79,2,vb260,[.cell 4 (some 62),.tmp 5,.tmp 6],false⟩
theorem cf260:cFun Tryz.prog rawF false Tryz.f260=some vf260:=by kernel_rfl
theorem T260 (h:HT σ args Post vb260 vf260 [dd,dd]) (hl:args.length≤79:=by exact zB rfl):T Tryz.prog 260 args σ Post:=T.walk Tryz.func260 cf260 hl rfl h
@[reducible] def vb243:VC:=
  Rg [m 4 (.alloc 0 [q,o,o,o,o,o,o,o,o,q,q,o,o,o,o,o,o,o,o,o,o,o,o,o,o,o,o,q,o,o,o,o,o,o,o,o,o,o,o,o,o,o,o,o,q,o,o,o,o,o,o,o,o,o,o,o,o,o,o,o,o,(.str [])]),m 5 (.mov (.c q))]<|
  Rg [Mv 10 0,Mv 11 1,m 12 (.call false 260 [(t 10),(t 11)]),Mv 9 12,m 13 (.extract 0 (t 9)),m 14 (.extract 1 (t 9)),m 15 (.extract 2 (t 9)),m 6 (.alloc 1 [q,o,o,o,o,o,o,o,o,q,q,o,o,o,o,o,o,o,o,o,o,o,o,o,o,o,o,q,o,o,o,o,o,o,o,o,o,o,o,o,o,o,o,o,q,o,o,o,o,o,o,o,o,o,o,o,o,o,o,o,o,(.str [])]),e (.store 62 (t 6) (t 13)),Mv 7 14,Mv 8 15]<|
  .seq (.block 0<|Rg [Mv 17 8,m 18 (.bin .neq .num (t 17) (.c q)),Mv 16 18]<|
  .cond (t 16) (Rg [m 19 (.build [q,o,o,o,o,o,o,o,o,q,q,o,o,o,o,o,o,o,o,o,o,o,o,o,o,o,o,q,o,o,o,o,o,o,o,o,o,o,o,o,o,o,o,o,q,o,o,o,o,o,o,o,o,o,o,o,o,o,o,o,o,(.str [])] []),Mv 20 8,e (.store 62 (t 4) (t 19)),Mv 5 20]<|
  .ret) (Rg [Mv 22 7,Mv 23 0,m 24 (.len (t 23)),m 25 (.bin .neq .num (t 22) (t 24)),Mv 21 25]<|
  .cond (t 21) (Rg [m 26 (.build [q,o,o,o,o,o,o,o,o,q,q,o,o,o,o,o,o,o,o,o,o,o,o,o,o,o,o,q,o,o,o,o,o,o,o,o,o,o,o,o,o,o,o,o,q,o,o,o,o,o,o,o,o,o,o,o,o,o,o,o,o,(.str [])] []),e (.store 62 (t 4) (t 26)),m 5 (.mov (Ci 4))]<|
  .ret) (.skip)))<|
  Rg [m 27 (Ls 62 6),e (.store 62 (t 4) (t 27)),m 5 (.mov (.c q))]<|
  .ret
def vf243:VFun:=⟨28,2,vb243,[.cell 4 (some 62),.tmp 5],false⟩
theorem cf243:cFun Tryz.prog rawF false Tryz.f243=some vf243:=by kernel_rfl
theorem T243 (h:HT σ args Post vb243 vf243 [dd,dd]) (hl:args.length≤28:=by exact zB rfl):T Tryz.prog 243 args σ Post:=T.walk Tryz.func243 cf243 hl rfl h
@[reducible] def vb239:VC:=
  Rg [m 4 (.newRow 0 62),m 5 (.mov (.c q))]<|
  .seq (Rg [Mv 10 1,m 11 (.bin .neq .num (t 10) (Ci 4)),Mv 12 11,Gt 13 12 (.mov (t 1)),Gt 14 12 (.bin .neq .num (t 13) (Ci 16)),m 15 (.pick (t 12) (t 14) Bf)]<|
  .cond (t 15) (Rg [m 4 (.newRow 0 62),m 5 (.mov (Ci 1))]<|
  .ret) (.skip))<|
  Rg [m 6 (.newRow 1 62)]<|
  .seq (.block 0<|.loop<|.seq (Rg [Mv 16 0,m 17 (.len (t 16)),m 18 (.bin .gtr .num (t 17) (.c q))]<|
  .cond (t 18) (.skip) (.exit 0))<|
  .block 1<|Rg [Mv 20 0,Mv 21 1,m 22 (.call false 260 [(t 20),(t 21)]),Mv 19 22,m 23 (.extract 0 (t 19)),m 24 (.extract 1 (t 19)),m 25 (.extract 2 (t 19)),m 7 (.alloc 2 [q,o,o,o,o,o,o,o,o,q,q,o,o,o,o,o,o,o,o,o,o,o,o,o,o,o,o,q,o,o,o,o,o,o,o,o,o,o,o,o,o,o,o,o,q,o,o,o,o,o,o,o,o,o,o,o,o,o,o,o,o,(.str [])]),e (.store 62 (t 7) (t 23)),Mv 8 24,Mv 9 25]<|
  .seq (Rg [Mv 26 9,m 27 (.bin .neq .num (t 26) (.c q))]<|
  .cond (t 27) (Rg [Mv 28 9,m 4 (.newRow 0 62),Mv 5 28]<|
  .ret) (.skip))<|
  .dreg [(Mv 29 6,[]),(m 30 (Ls 62 7),[]),(m 31 (.buildSlice 3 62 1 [q,o,o,o,o,o,o,o,o,q,q,o,o,o,o,o,o,o,o,o,o,o,o,o,o,o,o,q,o,o,o,o,o,o,o,o,o,o,o,o,o,o,o,o,q,o,o,o,o,o,o,o,o,o,o,o,o,o,o,o,o,(.str [])] [(0,(t 30))]),[1]),(m 32 (.append 4 62 112 (t 29) (t 31)),[0,2]),(Mv 33 0,[]),(Mv 34 8,[]),(m 35 (.slice 1 (t 33) (some (t 34)) none),[4,5]),(Mv 6 32,[3,3,0,1,2,3]),(Mv 0 35,[6,7,0,1,2,3,4,5,6,7])] [(2,0),(1,1),(2,4),(2,5),(2,6),(0,2),(0,3),(2,7),(2,8)] [0,0,2,7,0,0,48,15,255])<|
  Rg [Mv 36 6,Mv 4 36,m 5 (.mov (.c q))]<|
  .ret
def vf239:VFun:=⟨37,5,vb239,[.tmp 4,.tmp 5],false⟩
theorem cf239:cFun Tryz.prog rawF false Tryz.f239=some vf239:=by kernel_rfl
theorem T239 (h:HT σ args Post vb239 vf239 [dd,dd,dd,dd,dd]) (hl:args.length≤37:=by exact zB rfl):T Tryz.prog 239 args σ Post:=T.walk Tryz.func239 cf239 hl rfl h
@[reducible] def vb237:VC:=
  Rg [m 2 (.newRow 0 1),m 3 (.mov (.c q))]<|
  Rg [m 4 (.newRow 1 1)]<|
  .seq (Rg [Mv 9 0,m 10 (.len (t 9)),m 11 (.mov (.c q))]<|
  .block 0<|.loop<|Rg [m 12 (.bin .lss .num (t 11) (t 10))]<|
  .seq (.cond (t 12) (.skip) (.exit 0))<|
  .seq (.block 1<|Rg [m 13 (.index 62 (t 9) (t 11)),m 14 (Ls 62 13),m 6 (.alloc 2 [q,o,o,o,o,o,o,o,o,q,q,o,o,o,o,o,o,o,o,o,o,o,o,o,o,o,o,q,o,o,o,o,o,o,o,o,o,o,o,o,o,o,o,o,q,o,o,o,o,o,o,o,o,o,o,o,o,o,o,o,o,(.str [])]),e (.store 62 (t 6) (t 14))]<|
  Rg [m 16 (Ls 62 6),m 17 (.call false 118 [(t 16)]),Mv 15 17,m 18 (.extract 0 (t 15)),m 19 (.extract 1 (t 15)),Mv 7 18,Mv 8 19]<|
  .seq (Rg [Mv 20 8,m 21 (.bin .neq .num (t 20) (.c q))]<|
  .cond (t 21) (Rg [Mv 22 8,m 2 (.newRow 0 1),Mv 3 22]<|
  .ret) (.skip))<|
  .region [Mv 23 4,Mv 24 7,m 25 (.append 3 1 1 (t 23) (t 24)),Mv 4 25])<|
  .region [m 26 (.bin .add .num (t 11) (Ci 1)),Mv 11 26])<|
  Rg [Mv 27 4,Mv 2 27,m 3 (.mov (.c q))]<|
  .ret
def vf237:VFun:=⟨28,4,vb237,[.tmp 2,.tmp 3],false⟩
theorem cf237:cFun Tryz.prog rawF false Tryz.f237=some vf237:=by kernel_rfl
theorem T237 (h:HT σ args Post vb237 vf237 [dd,dd,dd,dd]) (hl:args.length≤28:=by exact zB rfl):T Tryz.prog 237 args σ Post:=T.walk Tryz.func237 cf237 hl rfl h
end Go.Proofs.YtdpeaefgbmkegaaGreatDoor
