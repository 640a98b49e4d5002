/- Functions of the program, in the small language. -/
import Derived.Test.YtdpeaefgbmkegaaGreatDoorF1
namespace Go.Proofs.YtdpeaefgbmkegaaGreatDoor
open Go Go.V D
variable {args:List PV} {σ:VHeap} {Post:KP}
@[reducible] def vb117:VC:=
  Rg [m 1 (.box 0 (t 0)),m 2 (.alloc 1 [q,q,q,o,o,o,o,o,o,o,o,o,o,o,o,o,o,o,o,.nils,.nils])]<|
  Rg [m 4 (Fl 0 1),m 5 (Ld 4),m 6 (Fl 1 1),m 7 (Ld 6),m 8 (Fl 91 1),m 9 (Ls 17 8),m 10 (.build [q,q,q,o,o,o,o,o,o,o,o,o,o,o,o,o,o,o,o,.nils,.nils] [(0,1,(t 5)),(1,1,(t 7)),(2,17,(t 9))]),m 3 (.alloc 2 [q,q,q,o,o,o,o,o,o,o,o,o,o,o,o,o,o,o,o,.nils,.nils]),e (.store 21 (t 3) (t 10))]<|
  .seq (Rg [m 11 (Fl 1 1),m 12 (Ld 11)]<|
  .block 0<|Rg [m 14 (.bin .eql .num (t 12) (Ci 5)),Mv 13 14]<|
  .cond (t 13) (.region [m 15 (Fl 2 1),m 16 (Ls 62 15),m 17 (.buildSlice 3 62 1 [q,o,o,o,o,o,o,o,o,q,q,o,o,o,o,o,o,o,o,o,o,o,o,o,o,o,o,q,o,o,o,o,o,o,o,o,o,o,o,o,o,o,o,o,q,o,o,o,o,o,o,o,o,o,o,o,o,o,o,o,o,(.str [])] [(0,(t 16))]),m 18 (Fl 19 3),e (.store 1 (t 18) (t 17))]) (Rg [m 20 (.bin .eql .num (t 12) (Ci 128)),Mv 19 20]<|
  .cond (t 19) (.region [m 21 (Fl 64 1),m 22 (Ls 27 21),m 23 (.buildSlice 4 27 1 [o,o,o,o,o,o,o,o,q,o,o,o,o,o,o,o,o,o,o,o,o,o,o,o,o,q,q] [(0,(t 22))]),m 24 (Fl 20 3),e (.store 1 (t 24) (t 23))]) (.skip)))<|
  Rg [m 25 (Ls 21 3),e (.store 21 (t 2) (t 25))]<|
  .ret
def vf117:VFun:=⟨26,5,vb117,[.cell 2 (some 21)],false⟩
theorem cf117:cFun Tryz.prog rawF false Tryz.f117=some vf117:=by kernel_rfl
theorem T117 (h:HT σ args Post vb117 vf117 [dd,dd,dd,dd,dd]) (hl:args.length≤26:=by exact zB rfl):T Tryz.prog 117 args σ Post:=T.walk Tryz.func117 cf117 hl rfl h
@[reducible] def vb73:VC:=
  Rg [m 1 (.box 0 (t 0)),m 2 (.mov Bf)]<|
  .seq (.block 0<|.seq (Rg [m 4 (Fl 1 1),m 5 (Ld 4),m 6 (.bin .eql .num (t 5) (Ci 5)),Mv 7 6,Gt 8 7 (Fl 64 1),Gt 9 7 (Ls 27 8),Gt 10 7 (.build [o,o,o,o,o,o,o,o,q,o,o,o,o,o,o,o,o,o,o,o,o,o,o,o,o,q,q] []),Gt 11 7 (.eqAgg [(.i .u8),(.i .u8),(.i .u8),(.i .u8),(.i .u8),(.i .u8),(.i .u8),(.i .u8),(.i .i64),(.i .u8),(.i .u8),(.i .u8),(.i .u8),(.i .u8),(.i .u8),(.i .u8),(.i .u8),(.i .u8),(.i .u8),(.i .u8),(.i .u8),(.i .u8),(.i .u8),(.i .u8),(.i .u8),(.i .i64),(.i .i64)] true (t 9) (t 10)),m 12 (.pick (t 7) (t 11) Bf),Mv 3 12]<|
  .cond (t 3) (.skip) (.region [m 13 (Fl 1 1),m 14 (Ld 13),m 15 (.bin .eql .num (t 14) (Ci 128)),Mv 16 15,Gt 17 16 (Fl 2 1),Gt 18 16 (Ls 62 17),Gt 19 16 (.build [q,o,o,o,o,o,o,o,o,q,q,o,o,o,o,o,o,o,o,o,o,o,o,o,o,o,o,q,o,o,o,o,o,o,o,o,o,o,o,o,o,o,o,o,q,o,o,o,o,o,o,o,o,o,o,o,o,o,o,o,o,(.str [])] []),Gt 20 16 (.eqAgg [(.i .i64),(.i .u8),(.i .u8),(.i .u8),(.i .u8),(.i .u8),(.i .u8),(.i .u8),(.i .u8),(.i .i64),(.i .i64),(.i .u8),(.i .u8),(.i .u8),(.i .u8),(.i .u8),(.i .u8),(.i .u8),(.i .u8),(.i .u8),(.i .u8),(.i .u8),(.i .u8),(.i .u8),(.i .u8),(.i .u8),(.i .u8),(.i .i64),(.i .u8),(.i .u8),(.i .u8),(.i .u8),(.i .u8),(.i .u8),(.i .u8),(.i .u8),(.i .u8),(.i .u8),(.i .u8),(.i .u8),(.i .u8),(.i .u8),(.i .u8),(.i .u8),(.i .i64),(.i .u8),(.i .u8),(.i .u8),(.i .u8),(.i .u8),(.i .u8),(.i .u8),(.i .u8),(.i .u8),(.i .u8),(.i .u8),(.i .u8),(.i .u8),(.i .u8),(.i .u8),(.i .u8),.s] true (t 18) (t 19)),m 21 (.pick (t 16) (t 20) Bf),Mv 3 21]))<|
  .cond (t 3) (Rg [m 2 (.mov Bf)]<|
  .ret) (.skip))<|
  .seq (.dreg [(m 22 (Fl 108 1),[]),(m 23 (Ls 24 22),[0]),(m 24 (Ls 132 1),[]),(m 25 (.call false 117 [(t 24)]),[2]),(m 26 (.buildSlice 1 21 1 [q,q,q,o,o,o,o,o,o,o,o,o,o,o,o,o,o,o,o,.nils,.nils] [(0,(t 25))]),[3]),(m 27 (.build [q,.nils,q,q,q,o,o,o,o,o,o,o,o,o,o,o,o,o,o,o,o,.nils,.nils,.nils,.nils,.nils] [(0,24,(t 23)),(24,1,(t 26))]),[1,4]),(m 28 (.call false 116 [(t 27)]),[5,3]),(Mv 2 28,[6,6,0,1,2,3,4,5,6])] [(2,0),(2,1),(1,2),(1,3),(0,4),(2,5),(1,6),(2,7)] [0,1,0,4,12,31,63,127])<|
  .ret
def vf73:VFun:=⟨29,2,vb73,[.tmp 2],false⟩
theorem cf73:cFun Tryz.prog rawF false Tryz.f73=some vf73:=by kernel_rfl
theorem T73 (h:HT σ args Post vb73 vf73 [dd,dd]) (hl:args.length≤29:=by exact zB rfl):T Tryz.prog 73 args σ Post:=T.walk Tryz.func73 cf73 hl rfl h
@[reducible] def vb74:VC:=
  Rg [m 1 (.box 0 (t 0)),m 2 (.mov (.c (.str [])))]<|
  Rg [m 7 (Fl 0 1),m 8 (Ld 7),m 9 (.convInt .u8 (t 8)),m 10 (Fl 1 1),m 11 (Ld 10),m 12 (.convInt .u8 (t 11)),m 13 (.buildSlice 1 1 2 [o] [(0,(t 9)),(1,(t 12))]),Mv 3 13]<|
  .seq (Rg [m 14 (Fl 1 1),m 15 (Ld 14),m 16 (.bin .eql .num (t 15) (Ci 5))]<|
  .cond (t 16) (Rg [m 18 (Fl 2 1),m 19 (Ls 62 18),m 20 (.call false 118 [(t 19)]),Mv 17 20,m 21 (.extract 0 (t 17)),m 22 (.extract 1 (t 17)),Mv 4 21,Mv 5 22]<|
  Rg [Mv 23 3,Mv 24 4,m 25 (.append 2 1 1 (t 23) (t 24)),m 26 (.b2s (t 25)),Mv 2 26]<|
  .ret) (.skip))<|
  Rg [m 27 (Fl 64 1),m 28 (Fl 8 27),m 29 (Ls 18 28),m 6 (.alloc 3 [q,o,o,o,o,o,o,o,o,o,o,o,o,o,o,o,o,q]),e (.store 18 (t 6) (t 29))]<|
  .seq (.dreg [(Mv 30 3,[]),(m 31 (Fl 64 1),[]),(m 32 (Fl 0 31),[1]),(m 33 (.sliceArr 8 1 (t 32) none none),[2]),(m 34 (.append 4 1 1 (t 30) (t 33)),[0,3]),(m 35 (Fl 0 6),[]),(m 36 (Fl 0 35),[5]),(m 37 (Ld 36),[6]),(m 38 (.convInt .u8 (t 37)),[7]),(m 39 (.buildSlice 5 1 1 [o] [(0,(t 38))]),[8]),(m 40 (.append 6 1 1 (t 34) (t 39)),[4,9,4]),(Mv 3 40,[10,10,0,1,2,3,4,5,6,7,8,9,10])] [(2,0),(2,1),(2,2),(2,3),(2,5),(2,6),(2,7),(2,8),(0,4),(0,9),(0,10),(2,11)] [0,0,2,6,15,0,32,96,224,480,1023,2047])<|
  Rg [Mv 41 3,m 42 (Fl 0 6),m 43 (Ls 17 42),m 44 (.call false 53 [(t 43)]),m 45 (.append 7 1 1 (t 41) (t 44)),Mv 3 45]<|
  Rg [Mv 46 3,m 47 (Fl 17 6),m 48 (Ld 47),m 49 (.convInt .u8 (t 48)),m 50 (.buildSlice 8 1 1 [o] [(0,(t 49))]),m 51 (.append 9 1 1 (t 46) (t 50)),m 52 (.b2s (t 51)),Mv 2 52]<|
  .ret
def vf74:VFun:=⟨53,10,vb74,[.tmp 2],false⟩
theorem cf74:cFun Tryz.prog rawF false Tryz.f74=some vf74:=by kernel_rfl
theorem T74 (h:HT σ args Post vb74 vf74 [dd,dd,dd,dd,dd,dd,dd,dd,dd,dd]) (hl:args.length≤53:=by exact zB rfl):T Tryz.prog 74 args σ Post:=T.walk Tryz.func74 cf74 hl rfl h
@[reducible] def vb32:VC:=
  Rg [m 1 (.box 0 (t 0)),m 2 (.mov (.c (.str []))),m 3 (.mov Bf)]<|
  .seq (Rg [m 4 (Ls 132 1),m 5 (.call false 73 [(t 4)]),m 6 (.un .not (t 5))]<|
  .cond (t 6) (Rg [m 2 (.mov (.c (.str []))),m 3 (.mov Bf)]<|
  .ret) (.skip))<|
  Rg [m 7 (Ls 132 1),m 8 (.call false 74 [(t 7)]),Mv 2 8,m 3 (.mov Bt)]<|
  .ret
def vf32:VFun:=⟨9,1,vb32,[.tmp 2,.tmp 3],false⟩
theorem cf32:cFun Tryz.prog rawF false Tryz.f32=some vf32:=by kernel_rfl
theorem T32 (h:HT σ args Post vb32 vf32 [dd]) (hl:args.length≤9:=by exact zB rfl):T Tryz.prog 32 args σ Post:=T.walk Tryz.func32 cf32 hl rfl h
@[reducible] def vb116:VC:=
  Rg [m 1 (.box 0 (t 0)),m 2 (.mov Bf)]<|
  .seq (.block 0<|.seq (Rg [m 4 (Fl 0 1),m 5 (Ls 24 4),m 6 (.call false 160 [(t 5)]),m 7 (.un .not (t 6)),Mv 3 7]<|
  .cond (t 3) (.skip) (Rg [m 8 (Fl 24 1),m 9 (Ld 8),m 10 (.len (t 9)),m 11 (.bin .gtr .num (t 10) (Ci 1)),Mv 3 11]<|
  .cond (t 3) (.skip) (.region [m 12 (Fl 25 1),m 13 (Ld 12),m 14 (.len (t 13)),m 15 (.bin .gtr .num (t 14) (Ci 1)),Mv 3 15])))<|
  .cond (t 3) (Rg [m 2 (.mov Bf)]<|
  .ret) (.seq (.dreg [(m 17 (Fl 24 1),[]),(m 18 (Ld 17),[0]),(m 19 (.len (t 18)),[1]),(m 20 (.bin .eql .num (t 19) (.c q)),[2]),(Mv 21 20,[3]),(Gt 22 21 (Fl 0 1),[4]),(Gt 23 21 (Ls 24 22),[5,4]),(Gt 24 21 (.call false 162 []),[4,4]),(Gt 25 21 (.call false 161 [(t 23),(t 24)]),[6,7,7,4]),(Gt 26 21 (.un .not (t 25)),[8,4]),(m 27 (.pick (t 21) (t 26) Bf),[4,9]),(Mv 16 27,[10,8])] [(1,0),(1,1),(1,2),(2,3),(2,4),(1,5),(1,6),(1,7),(1,8),(2,9),(2,10),(2,11)] [0,1,3,7,15,31,63,31,255,511,1023,2047])<|
  .cond (t 16) (Rg [m 2 (.mov Bf)]<|
  .ret) (Rg [m 29 (Fl 24 1),m 30 (Ld 29),m 31 (.call false 163 [(t 30),(.c (.fn 164 []))]),Mv 28 31]<|
  .cond (t 28) (Rg [m 2 (.mov Bf)]<|
  .ret) (.skip))))<|
  Rg [m 32 (Fl 25 1),m 33 (Ld 32),m 34 (.call false 163 [(t 33),(.c (.fn 167 []))]),m 35 (.un .not (t 34)),Mv 2 35]<|
  .ret
def vf116:VFun:=⟨36,1,vb116,[.tmp 2],false⟩
theorem cf116:cFun Tryz.prog rawF false Tryz.f116=some vf116:=by kernel_rfl
theorem T116 (h:HT σ args Post vb116 vf116 [dd]) (hl:args.length≤36:=by exact zB rfl):T Tryz.prog 116 args σ Post:=T.walk Tryz.func116 cf116 hl rfl h
@[reducible] def vb160:VC:=
  Rg [m 1 (.box 0 (t 0)),m 2 (.mov Bf)]<|
  .seq (.block 0<|.seq (Rg [m 4 (Fl 0 1),m 5 (Ld 4),m 6 (.bin .lss .num (t 5) (.c q)),Mv 3 6]<|
  .cond (t 3) (.skip) (Rg [m 7 (Fl 0 1),m 8 (Ld 7),m 9 (.bin .gtr .num (t 8) (Ci 2)),Mv 3 9]<|
  .cond (t 3) (.skip) (Rg [m 10 (Fl 2 1),m 11 (Ld 10),m 12 (.bin .lss .num (t 11) (.c (i (-1)))),Mv 3 12]<|
  .cond (t 3) (.skip) (Rg [m 13 (Fl 2 1),m 14 (Ld 13),m 15 (.bin .gtr .num (t 14) (Ci 4294967295)),Mv 3 15]<|
  .cond (t 3) (.skip) (Rg [m 16 (Fl 3 1),m 17 (Ld 16),m 18 (.bin .lss .num (t 17) (.c (i (-1)))),Mv 3 18]<|
  .cond (t 3) (.skip) (.region [m 19 (Fl 3 1),m 20 (Ld 19),m 21 (.bin .gtr .num (t 20) (Ci 4294967295)),Mv 3 21]))))))<|
  .cond (t 3) (Rg [m 2 (.mov Bf)]<|
  .ret) (Rg [m 23 (Fl 4 1),m 24 (Ls 17 23),m 25 (.build [q,o,o,o,o,o,o,o,o,o,o,o,o,o,o,o,o] []),m 26 (.eqAgg [(.i .i64),(.i .u8),(.i .u8),(.i .u8),(.i .u8),(.i .u8),(.i .u8),(.i .u8),(.i .u8),(.i .u8),(.i .u8),(.i .u8),(.i .u8),(.i .u8),(.i .u8),(.i .u8),(.i .u8)] true (t 24) (t 25)),Mv 27 26,Gt 28 27 (Fl 4 1),Gt 29 27 (Ls 17 28),Gt 30 27 (.call false 201 [(t 29)]),Gt 31 27 (.un .not (t 30)),m 32 (.pick (t 27) (t 31) Bf),Mv 22 32]<|
  .cond (t 22) (Rg [m 2 (.mov Bf)]<|
  .ret) (.seq (Rg [m 34 (Fl 21 1),m 35 (Ld 34),m 36 (.len (t 35)),m 37 (.bin .gtr .num (t 36) (Ci 32)),Mv 33 37]<|
  .cond (t 33) (.skip) (Rg [m 38 (Fl 22 1),m 39 (Ld 38),m 40 (.len (t 39)),m 41 (.bin .gtr .num (t 40) (Ci 64)),Mv 33 41]<|
  .cond (t 33) (.skip) (.region [m 42 (Fl 23 1),m 43 (Ld 42),m 44 (.len (t 43)),m 45 (.bin .gtr .num (t 44) (Ci 1)),Mv 33 45])))<|
  .cond (t 33) (Rg [m 2 (.mov Bf)]<|
  .ret) (Rg [m 47 (Fl 21 1),m 48 (Ld 47),m 49 (.call false 34 [(t 48),(.c (.fn 202 []))]),Mv 46 49]<|
  .cond (t 46) (Rg [m 2 (.mov Bf)]<|
  .ret) (Rg [m 51 (Fl 23 1),m 52 (Ld 51),m 53 (.call false 203 [(t 52),(.c (.fn 204 []))]),Mv 50 53]<|
  .cond (t 50) (Rg [m 2 (.mov Bf)]<|
  .ret) (.skip))))))<|
  Rg [m 54 (Fl 1 1),m 55 (Ld 54),m 56 (.call false 206 [(t 55)]),Mv 2 56]<|
  .ret
def vf160:VFun:=⟨57,1,vb160,[.tmp 2],false⟩
theorem cf160:cFun Tryz.prog rawF false Tryz.f160=some vf160:=by kernel_rfl
theorem T160 (h:HT σ args Post vb160 vf160 [dd]) (hl:args.length≤57:=by exact zB rfl):T Tryz.prog 160 args σ Post:=T.walk Tryz.func160 cf160 hl rfl h
@[reducible] def vb163:VC:=
  Rg [m 4 (.mov Bf)]<|
  Rg [Mv 5 0,Mv 6 1,m 7 (.call false 213 [(t 5),(t 6)]),m 8 (.bin .geq .num (t 7) (.c q)),Mv 4 8]<|
  .ret
def vf163:VFun:=⟨9,0,vb163,[.tmp 4],false⟩
theorem cf163:cFun Tryz.prog rawF false Tryz.f163=some vf163:=by kernel_rfl
theorem T163 (h:HT σ args Post vb163 vf163 []) (hl:args.length≤9:=by exact zB rfl):T Tryz.prog 163 args σ Post:=T.walk Tryz.func163 cf163 hl rfl h
@[reducible] def vb164:VC:=
  Rg [m 1 (.box 0 (t 0)),m 2 (.mov Bf)]<|
  Rg [m 3 (Ls 21 1),m 4 (.call false 165 [(t 3),Bt]),Mv 5 4,Gf 6 5 (Ls 21 1),Gf 7 5 (.call false 166 [(t 6)]),Gf 8 5 (.bin .eql .num (t 7) (.c q)),m 9 (.pick (t 5) Bt (t 8)),Mv 2 9]<|
  .ret
def vf164:VFun:=⟨10,1,vb164,[.tmp 2],false⟩
theorem cf164:cFun Tryz.prog rawF false Tryz.f164=some vf164:=by kernel_rfl
theorem T164 (h:HT σ args Post vb164 vf164 [dd]) (hl:args.length≤10:=by exact zB rfl):T Tryz.prog 164 args σ Post:=T.walk Tryz.func164 cf164 hl rfl h
@[reducible] def vb213:VC:=
  Rg [m 4 (.mov (.c q))]<|
  .seq (Rg [Mv 6 0,m 7 (.len (t 6)),m 8 (.mov (.c q))]<|
  .block 0<|.loop<|Rg [m 9 (.bin .lss .num (t 8) (t 7))]<|
  .seq (.cond (t 9) (.skip) (.exit 0))<|
  .seq (.block 1<|Rg [Mv 10 8,Mv 5 10]<|
  Rg [Mv 11 1,Mv 12 0,Mv 13 5,m 14 (.index 21 (t 12) (t 13)),m 15 (Ls 21 14),m 16 (.callV (t 11) [(t 15)])]<|
  .cond (t 16) (Rg [Mv 17 5,Mv 4 17]<|
  .ret) (.skip))<|
  .region [m 18 (.bin .add .num (t 8) (Ci 1)),Mv 8 18])<|
  Rg [m 4 (.mov (.c (i (-1))))]<|
  .ret
def vf213:VFun:=⟨19,0,vb213,[.tmp 4],false⟩
theorem cf213:cFun Tryz.prog rawF false Tryz.f213=some vf213:=by kernel_rfl
theorem T213 (h:HT σ args Post vb213 vf213 []) (hl:args.length≤19:=by exact zB rfl):T Tryz.prog 213 args σ Post:=T.walk Tryz.func213 cf213 hl rfl h
@[reducible] def vb165:VC:=
  Rg [m 2 (.box 0 (t 0)),m 4 (.mov Bf)]<|
  .seq (.block 0<|.seq (Rg [m 9 (Fl 0 2),m 10 (Ld 9),m 11 (.bin .neq .num (t 10) (Ci 4)),Mv 12 11,Gt 13 12 (Fl 0 2),Gt 14 12 (Ld 13),Gt 15 12 (.bin .neq .num (t 14) (Ci 16)),m 16 (.pick (t 12) (t 15) Bf),Mv 8 16]<|
  .cond (t 8) (.skip) (Rg [m 17 (Fl 2 2),m 18 (Ls 17 17),m 19 (.call false 50 [(t 18)]),m 20 (.un .not (t 19)),Mv 8 20]<|
  .cond (t 8) (.skip) (.region [m 21 (Fl 2 2),m 22 (Fl 0 21),m 23 (Ld 22),m 24 (.bin .gtr .num (t 23) (.c q)),Mv 25 1,m 26 (.bin .neq .bool (t 24) (t 25)),Mv 8 26])))<|
  .cond (t 8) (Rg [m 4 (.mov Bt)]<|
  .ret) (.seq (Rg [m 28 (Fl 1 2),m 29 (Ld 28),m 30 (.bin .eql .num (t 29) (Ci 5)),Mv 31 30,Gt 32 31 (Fl 20 2),Gt 33 31 (Ld 32),Gt 34 31 (.len (t 33)),Gt 35 31 (.bin .eql .num (t 34) (.c q)),m 36 (.pick (t 31) (t 35) Bf),Mv 27 36]<|
  .cond (t 27) (.skip) (.region [m 37 (Fl 1 2),m 38 (Ld 37),m 39 (.bin .eql .num (t 38) (Ci 128)),Mv 40 39,Gt 41 40 (Fl 19 2),Gt 42 40 (Ld 41),Gt 43 40 (.len (t 42)),Gt 44 40 (.bin .eql .num (t 43) (.c q)),m 45 (.pick (t 40) (t 44) Bf),Mv 27 45]))<|
  .cond (t 27) (Rg [m 47 (Ls 21 2),m 48 (.call false 214 [(t 47)]),Mv 46 48,m 49 (.extract 0 (t 46)),m 50 (.extract 1 (t 46)),Mv 5 49,Mv 6 50]<|
  Rg [m 51 (Ls 21 2),m 7 (.alloc 1 [q,q,q,o,o,o,o,o,o,o,o,o,o,o,o,o,o,o,o,.nils,.nils]),e (.store 21 (t 7) (t 51))]<|
  Rg [Mv 52 6,m 53 (.bin .neq .num (t 52) (.c q)),Mv 54 53,Gf 55 54 (.mov (t 5)),Gf 56 54 (.call false 215 [(t 7),(t 55)]),Gf 57 54 (.bin .neq .num (t 56) (.c q)),m 58 (.pick (t 54) Bt (t 57)),Mv 59 58,Gf 60 59 (Ls 21 7),Gf 61 59 (Ls 21 2),Gf 62 59 (.call false 216 [(t 60),(t 61)]),Gf 63 59 (.un .not (t 62)),m 64 (.pick (t 59) Bt (t 63)),Mv 4 64]<|
  .ret) (.skip)))<|
  Rg [m 4 (.mov Bt)]<|
  .ret
def vf165:VFun:=⟨65,2,vb165,[.tmp 4],false⟩
theorem cf165:cFun Tryz.prog rawF false Tryz.f165=some vf165:=by kernel_rfl
theorem T165 (h:HT σ args Post vb165 vf165 [dd,dd]) (hl:args.length≤65:=by exact zB rfl):T Tryz.prog 165 args σ Post:=T.walk Tryz.func165 cf165 hl rfl h
@[reducible] def vb166:VC:=
  Rg [m 1 (.box 0 (t 0)),m 2 (.mov (.c q))]<|
  Rg [m 3 (Fl 19 1),m 4 (Ld 3),m 5 (.len (t 4)),m 6 (Fl 20 1),m 7 (Ld 6),m 8 (.len (t 7)),m 9 (.bin .add .num (t 5) (t 8)),Mv 2 9]<|
  .ret
def vf166:VFun:=⟨10,1,vb166,[.tmp 2],false⟩
theorem cf166:cFun Tryz.prog rawF false Tryz.f166=some vf166:=by kernel_rfl
theorem T166 (h:HT σ args Post vb166 vf166 [dd]) (hl:args.length≤10:=by exact zB rfl):T Tryz.prog 166 args σ Post:=T.walk Tryz.func166 cf166 hl rfl h
@[reducible] def vb201:VC:=
  Rg [m 1 (.box 0 (t 0)),m 2 (.mov Bf)]<|
  Rg [m 3 (Fl 0 1),m 4 (Ld 3),m 5 (.bin .eql .num (t 4) (Ci 4)),Mv 6 5,Gt 7 6 (Ls 17 1),Gt 8 6 (.call false 50 [(t 7)]),m 9 (.pick (t 6) (t 8) Bf),Mv 2 9]<|
  .ret
def vf201:VFun:=⟨10,1,vb201,[.tmp 2],false⟩
theorem cf201:cFun Tryz.prog rawF false Tryz.f201=some vf201:=by kernel_rfl
theorem T201 (h:HT σ args Post vb201 vf201 [dd]) (hl:args.length≤10:=by exact zB rfl):T Tryz.prog 201 args σ Post:=T.walk Tryz.func201 cf201 hl rfl h
@[reducible] def vb202:VC:=
  Rg [m 1 (.box 0 (t 0)),m 2 (.mov Bf)]<|
  Rg [m 3 (Ls 17 1),m 4 (.call false 201 [(t 3)]),m 5 (.un .not (t 4)),Mv 2 5]<|
  .ret
def vf202:VFun:=⟨6,1,vb202,[.tmp 2],false⟩
theorem cf202:cFun Tryz.prog rawF false Tryz.f202=some vf202:=by kernel_rfl
theorem T202 (h:HT σ args Post vb202 vf202 [dd]) (hl:args.length≤6:=by exact zB rfl):T Tryz.prog 202 args σ Post:=T.walk Tryz.func202 cf202 hl rfl h
@[reducible] def vb75:VC:=
  Rg [m 4 (.mov (.c q))]<|
  .seq (Rg [Mv 6 0,m 7 (.len (t 6)),m 8 (.mov (.c q))]<|
  .block 0<|.loop<|Rg [m 9 (.bin .lss .num (t 8) (t 7))]<|
  .seq (.cond (t 9) (.skip) (.exit 0))<|
  .seq (.block 1<|Rg [Mv 10 8,Mv 5 10]<|
  Rg [Mv 11 1,Mv 12 0,Mv 13 5,m 14 (.index 17 (t 12) (t 13)),m 15 (Ls 17 14),m 16 (.callV (t 11) [(t 15)])]<|
  .cond (t 16) (Rg [Mv 17 5,Mv 4 17]<|
  .ret) (.skip))<|
  .region [m 18 (.bin .add .num (t 8) (Ci 1)),Mv 8 18])<|
  Rg [m 4 (.mov (.c (i (-1))))]<|
  .ret
def vf75:VFun:=⟨19,0,vb75,[.tmp 4],false⟩
theorem cf75:cFun Tryz.prog rawF false Tryz.f75=some vf75:=by kernel_rfl
theorem T75 (h:HT σ args Post vb75 vf75 []) (hl:args.length≤19:=by exact zB rfl):T Tryz.prog 75 args σ Post:=T.walk Tryz.func75 cf75 hl rfl h
@[reducible] def vb34:VC:=
  Rg [m 4 (.mov Bf)]<|
  Rg [Mv 5 0,Mv 6 1,m 7 (.call false 75 [(t 5),(t 6)]),m 8 (.bin .geq .num (t 7) (.c q)),Mv 4 8]<|
  .ret
def vf34:VFun:=⟨9,0,vb34,[.tmp 4],false⟩
theorem cf34:cFun Tryz.prog rawF false Tryz.f34=some vf34:=by kernel_rfl
theorem T34 (h:HT σ args Post vb34 vf34 []) (hl:args.length≤9:=by exact zB rfl):T Tryz.prog 34 args σ Post:=T.walk Tryz.func34 cf34 hl rfl h
@[reducible] def vb203:VC:=
  Rg [m 4 (.mov Bf)]<|
  Rg [Mv 5 0,Mv 6 1,m 7 (.call false 233 [(t 5),(t 6)]),m 8 (.bin .geq .num (t 7) (.c q)),Mv 4 8]<|
  .ret
def vf203:VFun:=⟨9,0,vb203,[.tmp 4],false⟩
theorem cf203:cFun Tryz.prog rawF false Tryz.f203=some vf203:=by kernel_rfl
theorem T203 (h:HT σ args Post vb203 vf203 []) (hl:args.length≤9:=by exact zB rfl):T Tryz.prog 203 args σ Post:=T.walk Tryz.func203 cf203 hl rfl h
@[reducible] def vb204:VC:=
  Rg [m 1 (.box 0 (t 0)),m 2 (.mov Bf)]<|
  Rg [m 3 (Ls 21 1),m 4 (.call false 205 [(t 3)]),m 5 (.un .not (t 4)),Mv 2 5]<|
  .ret
def vf204:VFun:=⟨6,1,vb204,[.tmp 2],false⟩
theorem cf204:cFun Tryz.prog rawF false Tryz.f204=some vf204:=by kernel_rfl
theorem T204 (h:HT σ args Post vb204 vf204 [dd]) (hl:args.length≤6:=by exact zB rfl):T Tryz.prog 204 args σ Post:=T.walk Tryz.func204 cf204 hl rfl h
@[reducible] def vb233:VC:=
  Rg [m 4 (.mov (.c q))]<|
  .seq (Rg [Mv 6 0,m 7 (.len (t 6)),m 8 (.mov (.c q))]<|
  .block 0<|.loop<|Rg [m 9 (.bin .lss .num (t 8) (t 7))]<|
  .seq (.cond (t 9) (.skip) (.exit 0))<|
  .seq (.block 1<|Rg [Mv 10 8,Mv 5 10]<|
  Rg [Mv 11 1,Mv 12 0,Mv 13 5,m 14 (.index 21 (t 12) (t 13)),m 15 (Ls 21 14),m 16 (.callV (t 11) [(t 15)])]<|
  .cond (t 16) (Rg [Mv 17 5,Mv 4 17]<|
  .ret) (.skip))<|
  .region [m 18 (.bin .add .num (t 8) (Ci 1)),Mv 8 18])<|
  Rg [m 4 (.mov (.c (i (-1))))]<|
  .ret
def vf233:VFun:=⟨19,0,vb233,[.tmp 4],false⟩
theorem cf233:cFun Tryz.prog rawF false Tryz.f233=some vf233:=by kernel_rfl
theorem T233 (h:HT σ args Post vb233 vf233 []) (hl:args.length≤19:=by exact zB rfl):T Tryz.prog 233 args σ Post:=T.walk Tryz.func233 cf233 hl rfl h
@[reducible] def vb205:VC:=
  Rg [m 1 (.box 0 (t 0)),m 2 (.mov Bf)]<|
  .seq (Rg [m 5 (Fl 3 1),m 6 (Ls 17 5),m 7 (.call false 50 [(t 6)]),m 8 (.un .not (t 7)),Mv 9 8,Gf 10 9 (Fl 2 1),Gf 11 9 (Ld 10),Gf 12 9 (.bin .lss .num (t 11) (.c q)),m 13 (.pick (t 9) Bt (t 12)),Mv 14 13,Gf 15 14 (Fl 2 1),Gf 16 14 (Ld 15),Gf 17 14 (.bin .gtr .num (t 16) (Ci 1048575)),m 18 (.pick (t 14) Bt (t 17))]<|
  .cond (t 18) (Rg [m 2 (.mov Bf)]<|
  .ret) (.skip))<|
  .seq (Rg [m 19 (Fl 1 1),m 20 (Ld 19)]<|
  .block 0<|Rg [m 22 (.bin .eql .num (t 20) (.c q)),Mv 21 22]<|
  .cond (t 21) (Rg [m 23 (Fl 3 1),m 24 (Fl 0 23),m 25 (Ld 24),m 26 (Fl 20 1),m 27 (Ld 26),m 28 (.len (t 27)),m 29 (.bin .add .num (t 25) (t 28)),m 30 (.bin .eql .num (t 29) (.c q)),Mv 2 30]<|
  .ret) (Rg [m 32 (.bin .eql .num (t 20) (Ci 1)),Mv 31 32]<|
  .cond (t 31) (Rg [m 33 (Fl 3 1),m 34 (Fl 0 33),m 35 (Ld 34),m 36 (.bin .eql .num (t 35) (Ci 4)),Mv 37 36,Gt 38 37 (Fl 20 1),Gt 39 37 (Ld 38),Gt 40 37 (.len (t 39)),Gt 41 37 (.bin .eql .num (t 40) (Ci 6)),m 42 (.pick (t 37) (t 41) Bf),Mv 2 42]<|
  .ret) (.seq (Rg [m 44 (.bin .eql .num (t 20) (Ci 2)),Mv 43 44]<|
  .cond (t 43) (.skip) (.region [m 45 (.bin .eql .num (t 20) (Ci 7)),Mv 43 45]))<|
  .cond (t 43) (Rg [m 46 (Fl 3 1),m 47 (Fl 0 46),m 48 (Ld 47),m 49 (.bin .gtr .num (t 48) (.c q)),Mv 50 49,Gt 51 50 (Fl 20 1),Gt 52 50 (Ld 51),Gt 53 50 (.len (t 52)),Gt 54 50 (.bin .leq .num (t 53) (Ci 64)),m 55 (.pick (t 50) (t 54) Bf),Mv 2 55]<|
  .ret) (.seq (Rg [m 57 (.bin .eql .num (t 20) (Ci 3)),Mv 56 57]<|
  .cond (t 56) (.skip) (Rg [m 58 (.bin .eql .num (t 20) (Ci 4)),Mv 56 58]<|
  .cond (t 56) (.skip) (.region [m 59 (.bin .eql .num (t 20) (Ci 5)),Mv 56 59])))<|
  .cond (t 56) (Rg [m 61 (Fl 20 1),m 62 (Ld 61),m 63 (.call false 121 [(t 62)]),Mv 60 63,m 64 (.extract 0 (t 60)),m 65 (.extract 1 (t 60)),m 3 (.alloc 1 [q,o,o,o,o,o,o,o,o,o,o,o,o,o,o,o,o]),e (.store 17 (t 3) (t 64)),Mv 4 65]<|
  Rg [Mv 66 4,m 67 (.bin .eql .num (t 66) (.c q)),Mv 68 67,Gt 69 68 (Fl 0 3),Gt 70 68 (Ld 69),Gt 71 68 (Fl 3 1),Gt 72 68 (Fl 0 71),Gt 73 68 (Ld 72),Gt 74 68 (.bin .eql .num (t 70) (t 73)),m 75 (.pick (t 68) (t 74) Bf),Mv 76 75,Gt 77 76 (Ls 17 3),Gt 78 76 (.call false 90 [(t 77)]),m 79 (.pick (t 76) (t 78) Bf),Mv 2 79]<|
  .ret) (Rg [m 81 (.bin .eql .num (t 20) (Ci 6)),Mv 80 81]<|
  .cond (t 80) (Rg [m 82 (Fl 3 1),m 83 (Fl 0 82),m 84 (Ld 83),m 85 (.bin .gtr .num (t 84) (.c q)),Mv 86 85,Gt 87 86 (Fl 20 1),Gt 88 86 (Ld 87),Gt 89 86 (.len (t 88)),Gt 90 86 (.bin .eql .num (t 89) (.c q)),m 91 (.pick (t 86) (t 90) Bf),Mv 2 91]<|
  .ret) (.skip))))))<|
  Rg [m 2 (.mov Bf)]<|
  .ret
def vf205:VFun:=⟨92,2,vb205,[.tmp 2],false⟩
theorem cf205:cFun Tryz.prog rawF false Tryz.f205=some vf205:=by kernel_rfl
theorem T205 (h:HT σ args Post vb205 vf205 [dd,dd]) (hl:args.length≤92:=by exact zB rfl):T Tryz.prog 205 args σ Post:=T.walk Tryz.func205 cf205 hl rfl h
@[reducible] def vb206:VC:=
  Rg [m 2 (.mov Bf)]<|
  Rg [Mv 3 0,m 4 (.len (t 3)),m 5 (.bin .leq .num (t 4) (Ci 16)),Mv 6 5,Gt 7 6 (.mov (t 0)),Gt 8 6 (.call false 36 [(t 7),(.c (.fn 234 []))]),Gt 9 6 (.un .not (t 8)),m 10 (.pick (t 6) (t 9) Bf),Mv 2 10]<|
  .ret
def vf206:VFun:=⟨11,0,vb206,[.tmp 2],false⟩
theorem cf206:cFun Tryz.prog rawF false Tryz.f206=some vf206:=by kernel_rfl
theorem T206 (h:HT σ args Post vb206 vf206 []) (hl:args.length≤11:=by exact zB rfl):T Tryz.prog 206 args σ Post:=T.walk Tryz.func206 cf206 hl rfl h
@[reducible] def vb234:VC:=
  Rg [m 1 (.box 0 (t 0)),m 2 (.mov Bf)]<|
  Rg [m 3 (Fl 1 1),m 4 (Ld 3),m 5 (.len (t 4)),m 6 (.bin .lss .num (t 5) (Ci 1)),Mv 7 6,Gf 8 7 (Fl 1 1),Gf 9 7 (Ld 8),Gf 10 7 (.len (t 9)),Gf 11 7 (.bin .gtr .num (t 10) (Ci 255)),m 12 (.pick (t 7) Bt (t 11)),Mv 13 12,Gf 14 13 (Fl 1 1),Gf 15 13 (Ld 14),Gf 16 13 (.call false 256 [(t 15),(.c (.fn 257 []))]),m 17 (.pick (t 13) Bt (t 16)),Mv 2 17]<|
  .ret
def vf234:VFun:=⟨18,1,vb234,[.tmp 2],false⟩
theorem cf234:cFun Tryz.prog rawF false Tryz.f234=some vf234:=by kernel_rfl
theorem T234 (h:HT σ args Post vb234 vf234 [dd]) (hl:args.length≤18:=by exact zB rfl):T Tryz.prog 234 args σ Post:=T.walk Tryz.func234 cf234 hl rfl h
@[reducible] def vb256:VC:=
  Rg [m 4 (.mov Bf)]<|
  Rg [Mv 5 0,Mv 6 1,m 7 (.call false 271 [(t 5),(t 6)]),m 8 (.bin .geq .num (t 7) (.c q)),Mv 4 8]<|
  .ret
def vf256:VFun:=⟨9,0,vb256,[.tmp 4],false⟩
theorem cf256:cFun Tryz.prog rawF false Tryz.f256=some vf256:=by kernel_rfl
theorem T256 (h:HT σ args Post vb256 vf256 []) (hl:args.length≤9:=by exact zB rfl):T Tryz.prog 256 args σ Post:=T.walk Tryz.func256 cf256 hl rfl h
@[reducible] def vb271:VC:=
  Rg [m 4 (.mov (.c q))]<|
  .seq (Rg [Mv 6 0,m 7 (.len (t 6)),m 8 (.mov (.c q))]<|
  .block 0<|.loop<|Rg [m 9 (.bin .lss .num (t 8) (t 7))]<|
  .seq (.cond (t 9) (.skip) (.exit 0))<|
  .seq (.block 1<|Rg [Mv 10 8,Mv 5 10]<|
  Rg [Mv 11 1,Mv 12 0,Mv 13 5,m 14 (.index 1 (t 12) (t 13)),m 15 (Ld 14),m 16 (.callV (t 11) [(t 15)])]<|
  .cond (t 16) (Rg [Mv 17 5,Mv 4 17]<|
  .ret) (.skip))<|
  .region [m 18 (.bin .add .num (t 8) (Ci 1)),Mv 8 18])<|
  Rg [m 4 (.mov (.c (i (-1))))]<|
  .ret
def vf271:VFun:=⟨19,0,vb271,[.tmp 4],false⟩
theorem cf271:cFun Tryz.prog rawF false Tryz.f271=some vf271:=by kernel_rfl
theorem T271 (h:HT σ args Post vb271 vf271 []) (hl:args.length≤19:=by exact zB rfl):T Tryz.prog 271 args σ Post:=T.walk Tryz.func271 cf271 hl rfl h
@[reducible] def vb257:VC:=
  Rg [m 2 (.mov Bf)]<|
  Rg [Mv 3 0,m 4 (.bin .lss .num (t 3) (.c q)),Mv 5 4,Gf 6 5 (.mov (t 0)),Gf 7 5 (.bin .gtr .num (t 6) (Ci 4294967295)),m 8 (.pick (t 5) Bt (t 7)),Mv 2 8]<|
  .ret
def vf257:VFun:=⟨9,0,vb257,[.tmp 2],false⟩
theorem cf257:cFun Tryz.prog rawF false Tryz.f257=some vf257:=by kernel_rfl
theorem T257 (h:HT σ args Post vb257 vf257 []) (hl:args.length≤9:=by exact zB rfl):T Tryz.prog 257 args σ Post:=T.walk Tryz.func257 cf257 hl rfl h
@[reducible] def vb36:VC:=
  Rg [m 4 (.mov Bf)]<|
  Rg [Mv 5 0,Mv 6 1,m 7 (.call false 76 [(t 5),(t 6)]),m 8 (.bin .geq .num (t 7) (.c q)),Mv 4 8]<|
  .ret
def vf36:VFun:=⟨9,0,vb36,[.tmp 4],false⟩
theorem cf36:cFun Tryz.prog rawF false Tryz.f36=some vf36:=by kernel_rfl
theorem T36 (h:HT σ args Post vb36 vf36 []) (hl:args.length≤9:=by exact zB rfl):T Tryz.prog 36 args σ Post:=T.walk Tryz.func36 cf36 hl rfl h
@[reducible] def vb76:VC:=
  Rg [m 4 (.mov (.c q))]<|
  .seq (Rg [Mv 6 0,m 7 (.len (t 6)),m 8 (.mov (.c q))]<|
  .block 0<|.loop<|Rg [m 9 (.bin .lss .num (t 8) (t 7))]<|
  .seq (.cond (t 9) (.skip) (.exit 0))<|
  .seq (.block 1<|Rg [Mv 10 8,Mv 5 10]<|
  Rg [Mv 11 1,Mv 12 0,Mv 13 5,m 14 (.index 2 (t 12) (t 13)),m 15 (Ls 2 14),m 16 (.callV (t 11) [(t 15)])]<|
  .cond (t 16) (Rg [Mv 17 5,Mv 4 17]<|
  .ret) (.skip))<|
  .region [m 18 (.bin .add .num (t 8) (Ci 1)),Mv 8 18])<|
  Rg [m 4 (.mov (.c (i (-1))))]<|
  .ret
def vf76:VFun:=⟨19,0,vb76,[.tmp 4],false⟩
theorem cf76:cFun Tryz.prog rawF false Tryz.f76=some vf76:=by kernel_rfl
theorem T76 (h:HT σ args Post vb76 vf76 []) (hl:args.length≤19:=by exact zB rfl):T Tryz.prog 76 args σ Post:=T.walk Tryz.func76 cf76 hl rfl h
@[reducible] def vb214:VC:=
  Rg [m 1 (.box 0 (t 0)),m 2 (.newRow 1 1),m 3 (.mov (.c q))]<|
  .seq (Rg [m 4 (Fl 1 1),m 5 (Ld 4),m 6 (.bin .eql .num (t 5) (Ci 5))]<|
  .cond (t 6) (Rg [m 7 (Fl 19 1),m 8 (Ld 7),m 9 (.call false 237 [(t 8)]),m 10 (.extract 0 (t 9)),m 11 (.extract 1 (t 9)),Mv 2 10,Mv 3 11]<|
  .ret) (.skip))<|
  Rg [m 12 (Fl 20 1),m 13 (Ld 12),m 14 (.call false 238 [(t 13)]),m 15 (.extract 0 (t 14)),m 16 (.extract 1 (t 14)),Mv 2 15,Mv 3 16]<|
  .ret
def vf214:VFun:=⟨17,2,vb214,[.tmp 2,.tmp 3],false⟩
theorem cf214:cFun Tryz.prog rawF false Tryz.f214=some vf214:=by kernel_rfl
theorem T214 (h:HT σ args Post vb214 vf214 [dd,dd]) (hl:args.length≤17:=by exact zB rfl):T Tryz.prog 214 args σ Post:=T.walk Tryz.func214 cf214 hl rfl h
@[reducible] def vb215:VC:=
  Rg [m 4 (.mov (.c q))]<|
  .seq (Rg [Mv 5 0,m 6 (.nilCheck (t 5)),m 7 (Fl 1 6),m 8 (Ld 7),m 9 (.bin .eql .num (t 8) (Ci 5))]<|
  .cond (t 9) (.region [Mv 11 0,Mv 12 1,Mv 13 0,m 14 (.nilCheck (t 13)),m 15 (Fl 0 14),m 16 (Ld 15),m 17 (.call false 239 [(t 12),(t 16)]),Mv 10 17,m 18 (.extract 0 (t 10)),m 19 (.extract 1 (t 10)),m 20 (.nilCheck (t 11)),m 21 (Fl 19 20),e (.store 1 (t 21) (t 18)),Mv 4 19]) (.region [Mv 23 0,Mv 24 1,Mv 25 0,m 26 (.nilCheck (t 25)),m 27 (Fl 0 26),m 28 (Ld 27),m 29 (.call false 240 [(t 24),(t 28)]),Mv 22 29,m 30 (.extract 0 (t 22)),m 31 (.extract 1 (t 22)),m 32 (.nilCheck (t 23)),m 33 (Fl 20 32),e (.store 1 (t 33) (t 30)),Mv 4 31]))<|
  Rg [Mv 34 4,Mv 4 34]<|
  .ret
def vf215:VFun:=⟨35,0,vb215,[.tmp 4],false⟩
theorem cf215:cFun Tryz.prog rawF false Tryz.f215=some vf215:=by kernel_rfl
theorem T215 (h:HT σ args Post vb215 vf215 []) (hl:args.length≤35:=by exact zB rfl):T Tryz.prog 215 args σ Post:=T.walk Tryz.func215 cf215 hl rfl h
@[reducible] def vb216:VC:=
  Rg [m 2 (.box 0 (t 0)),m 3 (.box 1 (t 1)),m 4 (.mov Bf)]<|
  Rg [m 6 (Fl 0 2),m 7 (Ld 6),m 8 (Fl 0 3),m 9 (Ld 8),m 10 (.bin .eql .num (t 7) (t 9)),Mv 11 10,Gt 12 11 (Fl 1 2),Gt 13 11 (Ld 12),Gt 14 11 (Fl 1 3),Gt 15 11 (Ld 14),Gt 16 11 (.bin .eql .num (t 13) (t 15)),m 17 (.pick (t 11) (t 16) Bf),Mv 18 17,Gt 19 18 (Fl 2 2),Gt 20 18 (Ls 17 19),Gt 21 18 (Fl 2 3),Gt 22 18 (Ls 17 21),Gt 23 18 (.eqAgg [(.i .i64),(.i .u8),(.i .u8),(.i .u8),(.i .u8),(.i .u8),(.i .u8),(.i .u8),(.i .u8),(.i .u8),(.i .u8),(.i .u8),(.i .u8),(.i .u8),(.i .u8),(.i .u8),(.i .u8)] false (t 20) (t 22)),m 24 (.pick (t 18) (t 23) Bf),Mv 5 24]<|
  Rg [Mv 25 5,Mv 26 25,Gt 27 26 (Fl 19 2),Gt 28 26 (Ld 27),Gt 29 26 (Fl 19 3),Gt 30 26 (Ld 29),Gt 31 26 (.call false 241 [(t 28),(t 30)]),m 32 (.pick (t 26) (t 31) Bf),Mv 33 32,Gt 34 33 (Fl 20 2),Gt 35 33 (Ld 34),Gt 36 33 (Fl 20 3),Gt 37 33 (Ld 36),Gt 38 33 (.call false 242 [(t 35),(t 37)]),m 39 (.pick (t 33) (t 38) Bf),Mv 4 39]<|
  .ret
def vf216:VFun:=⟨40,2,vb216,[.tmp 4],false⟩
theorem cf216:cFun Tryz.prog rawF false Tryz.f216=some vf216:=by kernel_rfl
theorem T216 (h:HT σ args Post vb216 vf216 [dd,dd]) (hl:args.length≤40:=by exact zB rfl):T Tryz.prog 216 args σ Post:=T.walk Tryz.func216 cf216 hl rfl h
@[reducible] def vb241:VC:=
  Rg [m 4 (.mov Bf)]<|
  .seq (Rg [Mv 6 0,m 7 (.len (t 6)),Mv 8 1,m 9 (.len (t 8)),m 10 (.bin .neq .num (t 7) (t 9))]<|
  .cond (t 10) (Rg [m 4 (.mov Bf)]<|
  .ret) (.skip))<|
  .seq (Rg [Mv 11 0,m 12 (.len (t 11)),m 13 (.mov (.c q))]<|
  .block 0<|.loop<|Rg [m 14 (.bin .lss .num (t 13) (t 12))]<|
  .seq (.cond (t 14) (.skip) (.exit 0))<|
  .seq (.block 1<|Rg [Mv 15 13,Mv 5 15]<|
  .seq (.dreg [(Mv 16 0,[]),(Mv 17 5,[]),(m 18 (.index 62 (t 16) (t 17)),[0,1]),(m 19 (Ls 62 18),[2]),(Mv 20 1,[]),(Mv 21 5,[]),(m 22 (.index 62 (t 20) (t 21)),[4,5]),(m 23 (Ls 62 22),[6]),(m 24 (.eqAgg [(.i .i64),(.i .u8),(.i .u8),(.i .u8),(.i .u8),(.i .u8),(.i .u8),(.i .u8),(.i .u8),(.i .i64),(.i .i64),(.i .u8),(.i .u8),(.i .u8),(.i .u8),(.i .u8),(.i .u8),(.i .u8),(.i .u8),(.i .u8),(.i .u8),(.i .u8),(.i .u8),(.i .u8),(.i .u8),(.i .u8),(.i .u8),(.i .i64),(.i .u8),(.i .u8),(.i .u8),(.i .u8),(.i .u8),(.i .u8),(.i .u8),(.i .u8),(.i .u8),(.i .u8),(.i .u8),(.i .u8),(.i .u8),(.i .u8),(.i .u8),(.i .u8),(.i .i64),(.i .u8),(.i .u8),(.i .u8),(.i .u8),(.i .u8),(.i .u8),(.i .u8),(.i .u8),(.i .u8),(.i .u8),(.i .u8),(.i .u8),(.i .u8),(.i .u8),(.i .u8),(.i .u8),.s] true (t 19) (t 23)),[3,7])] [(2,0),(2,1),(1,2),(1,3),(2,4),(2,5),(1,6),(1,7),(2,8)] [0,0,3,7,0,0,48,112,255])<|
  .cond (t 24) (Rg [m 4 (.mov Bf)]<|
  .ret) (.skip))<|
  .region [m 25 (.bin .add .num (t 13) (Ci 1)),Mv 13 25])<|
  Rg [m 4 (.mov Bt)]<|
  .ret
def vf241:VFun:=⟨26,0,vb241,[.tmp 4],false⟩
theorem cf241:cFun Tryz.prog rawF false Tryz.f241=some vf241:=by kernel_rfl
theorem T241 (h:HT σ args Post vb241 vf241 []) (hl:args.length≤26:=by exact zB rfl):T Tryz.prog 241 args σ Post:=T.walk Tryz.func241 cf241 hl rfl h
@[reducible] def vb242:VC:=
  Rg [m 4 (.mov Bf)]<|
  .seq (Rg [Mv 6 0,m 7 (.len (t 6)),Mv 8 1,m 9 (.len (t 8)),m 10 (.bin .neq .num (t 7) (t 9))]<|
  .cond (t 10) (Rg [m 4 (.mov Bf)]<|
  .ret) (.skip))<|
  .seq (Rg [Mv 11 0,m 12 (.len (t 11)),m 13 (.mov (.c q))]<|
  .block 0<|.loop<|Rg [m 14 (.bin .lss .num (t 13) (t 12))]<|
  .seq (.cond (t 14) (.skip) (.exit 0))<|
  .seq (.block 1<|Rg [Mv 15 13,Mv 5 15]<|
  .seq (.dreg [(Mv 16 0,[]),(Mv 17 5,[]),(m 18 (.index 27 (t 16) (t 17)),[0,1]),(m 19 (Ls 27 18),[2]),(Mv 20 1,[]),(Mv 21 5,[]),(m 22 (.index 27 (t 20) (t 21)),[4,5]),(m 23 (Ls 27 22),[6]),(m 24 (.eqAgg [(.i .u8),(.i .u8),(.i .u8),(.i .u8),(.i .u8),(.i .u8),(.i .u8),(.i .u8),(.i .i64),(.i .u8),(.i .u8),(.i .u8),(.i .u8),(.i .u8),(.i .u8),(.i .u8),(.i .u8),(.i .u8),(.i .u8),(.i .u8),(.i .u8),(.i .u8),(.i .u8),(.i .u8),(.i .u8),(.i .i64),(.i .i64)] true (t 19) (t 23)),[3,7])] [(2,0),(2,1),(1,2),(1,3),(2,4),(2,5),(1,6),(1,7),(2,8)] [0,0,3,7,0,0,48,112,255])<|
  .cond (t 24) (Rg [m 4 (.mov Bf)]<|
  .ret) (.skip))<|
  .region [m 25 (.bin .add .num (t 13) (Ci 1)),Mv 13 25])<|
  Rg [m 4 (.mov Bt)]<|
  .ret
def vf242:VFun:=⟨26,0,vb242,[.tmp 4],false⟩
theorem cf242:cFun Tryz.prog rawF false Tryz.f242=some vf242:=by kernel_rfl
theorem T242 (h:HT σ args Post vb242 vf242 []) (hl:args.length≤26:=by exact zB rfl):T Tryz.prog 242 args σ Post:=T.walk Tryz.func242 cf242 hl rfl h
@[reducible] def vb33:VC:=
  Rg [m 2 (.box 0 (t 0)),m 3 (.box 1 (t 1)),m 4 (.mov Bf)]<|
  Rg [m 5 (Ls 17 2),m 6 (Ls 17 3),m 7 (.eqAgg [(.i .i64),(.i .u8),(.i .u8),(.i .u8),(.i .u8),(.i .u8),(.i .u8),(.i .u8),(.i .u8),(.i .u8),(.i .u8),(.i .u8),(.i .u8),(.i .u8),(.i .u8),(.i .u8),(.i .u8)] false (t 5) (t 6)),Mv 8 7,Gt 9 8 (Ls 17 2),Gt 10 8 (.build [q,o,o,o,o,o,o,o,o,o,o,o,o,o,o,o,o] []),Gt 11 8 (.eqAgg [(.i .i64),(.i .u8),(.i .u8),(.i .u8),(.i .u8),(.i .u8),(.i .u8),(.i .u8),(.i .u8),(.i .u8),(.i .u8),(.i .u8),(.i .u8),(.i .u8),(.i .u8),(.i .u8),(.i .u8)] true (t 9) (t 10)),m 12 (.pick (t 8) (t 11) Bf),Mv 4 12]<|
  .ret
def vf33:VFun:=⟨13,2,vb33,[.tmp 4],false⟩
theorem cf33:cFun Tryz.prog rawF false Tryz.f33=some vf33:=by kernel_rfl
theorem T33 (h:HT σ args Post vb33 vf33 [dd,dd]) (hl:args.length≤13:=by exact zB rfl):T Tryz.prog 33 args σ Post:=T.walk Tryz.func33 cf33 hl rfl h
@[reducible] def vb71:VC:=
  Rg [m 1 (.box 0 (t 0)),m 2 (.mov Bf)]<|
  Rg [m 3 (Fl 0 1),m 4 (Ld 3),m 5 (.bin .eql .num (t 4) (Ci 4)),Mv 6 5,Gt 7 6 (Ls 17 1),Gt 8 6 (.call false 50 [(t 7)]),m 9 (.pick (t 6) (t 8) Bf),Mv 2 9]<|
  .ret
def vf71:VFun:=⟨10,1,vb71,[.tmp 2],false⟩
theorem cf71:cFun Tryz.prog rawF false Tryz.f71=some vf71:=by kernel_rfl
theorem T71 (h:HT σ args Post vb71 vf71 [dd]) (hl:args.length≤10:=by exact zB rfl):T Tryz.prog 71 args σ Post:=T.walk Tryz.func71 cf71 hl rfl h
@[reducible] def vb8:VC:=
  Rg [m 1 (.box 0 (t 0)),m 2 (.mov Bf)]<|
  Rg [m 3 (Fl 108 1),m 4 (Ls 24 3),m 5 (.call false 31 [(t 4)]),Mv 6 5,Gt 7 6 (Fl 2 1),Gt 8 6 (Fl 61 7),Gt 9 6 (Ld 8),Gt 10 6 (.lenStr (t 9)),Gt 11 6 (.bin .lss .num (t 10) (Ci 1024)),m 12 (.pick (t 6) (t 11) Bf),Mv 2 12]<|
  .ret
def vf8:VFun:=⟨13,1,vb8,[.tmp 2],false⟩
theorem cf8:cFun Tryz.prog rawF false Tryz.f8=some vf8:=by kernel_rfl
theorem T8 (h:HT σ args Post vb8 vf8 [dd]) (hl:args.length≤13:=by exact zB rfl):T Tryz.prog 8 args σ Post:=T.walk Tryz.func8 cf8 hl rfl h
@[reducible] def vb31:VC:=
  Rg [m 1 (.box 0 (t 0)),m 2 (.mov Bf)]<|
  .seq (Rg [m 3 (.mov (.c q))]<|
  .block 0<|.loop<|.seq (Rg [Mv 5 3,m 6 (Fl 1 1),m 7 (Ld 6),m 8 (.len (t 7)),m 9 (.bin .lss .num (t 5) (t 8))]<|
  .cond (t 9) (.skip) (.exit 0))<|
  .seq (.block 1<|Rg [m 12 (Fl 1 1),m 13 (Ld 12),Mv 14 3,m 15 (.index 2 (t 13) (t 14)),m 16 (Fl 1 15),m 17 (Ld 16),m 18 (.len (t 17)),m 19 (.bin .gtr .num (t 18) (Ci 300))]<|
  .cond (t 19) (Rg [m 2 (.mov Bf)]<|
  .ret) (.skip))<|
  .region [Mv 10 3,m 11 (.bin .add .num (t 10) (Ci 1)),Mv 3 11])<|
  .seq (Rg [m 4 (.mov (.c q))]<|
  .block 2<|.loop<|.seq (Rg [Mv 20 4,m 21 (Fl 23 1),m 22 (Ld 21),m 23 (.len (t 22)),m 24 (.bin .lss .num (t 20) (t 23))]<|
  .cond (t 24) (.skip) (.exit 2))<|
  .seq (.block 3<|Rg [m 27 (Fl 23 1),m 28 (Ld 27),Mv 29 4,m 30 (.index 21 (t 28) (t 29)),m 31 (Fl 20 30),m 32 (Ld 31),m 33 (.len (t 32)),m 34 (.bin .gtr .num (t 33) (Ci 1024))]<|
  .cond (t 34) (Rg [m 2 (.mov Bf)]<|
  .ret) (.skip))<|
  .region [Mv 25 4,m 26 (.bin .add .num (t 25) (Ci 1)),Mv 4 26])<|
  Rg [m 35 (Fl 1 1),m 36 (Ld 35),m 37 (.len (t 36)),m 38 (.bin .lss .num (t 37) (Ci 20)),Mv 39 38,Gt 40 39 (Fl 21 1),Gt 41 39 (Ld 40),Gt 42 39 (.len (t 41)),Gt 43 39 (.bin .lss .num (t 42) (Ci 100)),m 44 (.pick (t 39) (t 43) Bf),Mv 45 44,Gt 46 45 (Fl 22 1),Gt 47 45 (Ld 46),Gt 48 45 (.len (t 47)),Gt 49 45 (.bin .lss .num (t 48) (Ci 200)),m 50 (.pick (t 45) (t 49) Bf),Mv 51 50,Gt 52 51 (Fl 23 1),Gt 53 51 (Ld 52),Gt 54 51 (.len (t 53)),Gt 55 51 (.bin .lss .num (t 54) (Ci 10)),m 56 (.pick (t 51) (t 55) Bf),Mv 2 56]<|
  .ret
def vf31:VFun:=⟨57,1,vb31,[.tmp 2],false⟩
theorem cf31:cFun Tryz.prog rawF false Tryz.f31=some vf31:=by kernel_rfl
theorem T31 (h:HT σ args Post vb31 vf31 [dd]) (hl:args.length≤57:=by exact zB rfl):T Tryz.prog 31 args σ Post:=T.walk Tryz.func31 cf31 hl rfl h
end Go.Proofs.YtdpeaefgbmkegaaGreatDoor
