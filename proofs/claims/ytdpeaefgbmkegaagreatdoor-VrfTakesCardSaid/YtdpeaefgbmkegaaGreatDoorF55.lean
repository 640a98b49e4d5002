/- Functions of the program, in the small language. -/
import Derived.Test.YtdpeaefgbmkegaaGreatDoorF1
namespace Go.Proofs.YtdpeaefgbmkegaaGreatDoor
open Go Go.V D
variable {args:List PV} {σ:VHeap} {Post:KP}
set_option maxRecDepth 100000
set_option maxHeartbeats 8000000
@[reducible] def vf30:VFun:=by
  have h:=hold Tryz.prog rawF false Tryz.f30
  conv at h=>arg 1;reduce
  simp only[Int.reduceOfNat,Int.reduceNegSucc] at h
  exact h.get
@[reducible] def vb30:VC:=vf30.body
theorem cf30:cFun Tryz.prog rawF false Tryz.f30=some vf30:=by kernel_rfl
theorem T30 (h:HT σ args Post vb30 vf30 [dd,dd,dd,dd,dd]) (hl:args.length≤80:=by exact zB rfl):T Tryz.prog 30 args σ Post:=T.walk Tryz.func30 cf30 hl rfl h
@[reducible] def vf70:VFun:=by
  have h:=hold Tryz.prog rawF false Tryz.f70
  conv at h=>arg 1;reduce
  simp only[Int.reduceOfNat] at h
  exact h.get
@[reducible] def vb70:VC:=vf70.body
theorem cf70:cFun Tryz.prog rawF false Tryz.f70=some vf70:=by kernel_rfl
theorem T70 (h:HT σ args Post vb70 vf70 [dd,dd,dd]) (hl:args.length≤14:=by exact zB rfl):T Tryz.prog 70 args σ Post:=T.walk Tryz.func70 cf70 hl rfl h
@[reducible] def vf72:VFun:=by
  have h:=hold Tryz.prog rawF false Tryz.f72
  conv at h=>arg 1;reduce
  simp only[Int.reduceOfNat] at h
  exact h.get
@[reducible] def vb72:VC:=vf72.body
theorem cf72:cFun Tryz.prog rawF false Tryz.f72=some vf72:=by kernel_rfl
theorem T72 (h:HT σ args Post vb72 vf72 [dd,dd,dd,dd,dd]) (hl:args.length≤54:=by exact zB rfl):T Tryz.prog 72 args σ Post:=T.walk Tryz.func72 cf72 hl rfl h
@[reducible] def vf115:VFun:=by
  have h:=hold Tryz.prog rawF false Tryz.f115
  conv at h=>arg 1;reduce
  simp only[Int.reduceOfNat] at h
  exact h.get
@[reducible] def vb115:VC:=vf115.body
theorem cf115:cFun Tryz.prog rawF false Tryz.f115=some vf115:=by kernel_rfl
theorem T115 (h:HT σ args Post vb115 vf115 [dd,dd,dd]) (hl:args.length≤16:=by exact zB rfl):T Tryz.prog 115 args σ Post:=T.walk Tryz.func115 cf115 hl rfl h
@[reducible] def vf159:VFun:=by
  have h:=hold Tryz.prog rawF false Tryz.f159
  conv at h=>arg 1;reduce
  simp only[Int.reduceOfNat] at h
  exact h.get
@[reducible] def vb159:VC:=vf159.body
theorem cf159:cFun Tryz.prog rawF false Tryz.f159=some vf159:=by kernel_rfl
theorem T159 (h:HT σ args Post vb159 vf159 [dd,dd,dd]) (hl:args.length≤65:=by exact zB rfl):T Tryz.prog 159 args σ Post:=T.walk Tryz.func159 cf159 hl rfl h
@[reducible] def vf9:VFun:=by
  have h:=hold Tryz.prog rawF false Tryz.f9
  conv at h=>arg 1;reduce
  exact h.get
@[reducible] def vb9:VC:=vf9.body
theorem cf9:cFun Tryz.prog rawF false Tryz.f9=some vf9:=by kernel_rfl
theorem T9 (h:HT σ args Post vb9 vf9 [dd,dd,dd,dd]) (hl:args.length≤36:=by exact zB rfl):T Tryz.prog 9 args σ Post:=T.walk Tryz.func9 cf9 hl rfl h
@[reducible] def vf35:VFun:=by
  have h:=hold Tryz.prog rawF false Tryz.f35
  conv at h=>arg 1;reduce
  exact h.get
@[reducible] def vb35:VC:=vf35.body
theorem cf35:cFun Tryz.prog rawF false Tryz.f35=some vf35:=by kernel_rfl
theorem T35 (h:HT σ args Post vb35 vf35 [dd]) (hl:args.length≤7:=by exact zB rfl):T Tryz.prog 35 args σ Post:=T.walk Tryz.func35 cf35 hl rfl h
@[reducible] def vf37:VFun:=by
  have h:=hold Tryz.prog rawF false Tryz.f37
  conv at h=>arg 1;reduce
  exact h.get
@[reducible] def vb37:VC:=vf37.body
theorem cf37:cFun Tryz.prog rawF false Tryz.f37=some vf37:=by kernel_rfl
theorem T37 (h:HT σ args Post vb37 vf37 [dd]) (hl:args.length≤8:=by exact zB rfl):T Tryz.prog 37 args σ Post:=T.walk Tryz.func37 cf37 hl rfl h
@[reducible] def vf38:VFun:=by
  have h:=hold Tryz.prog rawF false Tryz.f38
  conv at h=>arg 1;reduce
  simp only[Int.reduceOfNat] at h
  exact h.get
@[reducible] def vb38:VC:=vf38.body
theorem cf38:cFun Tryz.prog rawF false Tryz.f38=some vf38:=by kernel_rfl
theorem T38 (h:HT σ args Post vb38 vf38 []) (hl:args.length≤9:=by exact zB rfl):T Tryz.prog 38 args σ Post:=T.walk Tryz.func38 cf38 hl rfl h
@[reducible] def vf77:VFun:=by
  have h:=hold Tryz.prog rawF false Tryz.f77
  conv at h=>arg 1;reduce
  simp only[Int.reduceOfNat,Int.reduceNegSucc] at h
  exact h.get
@[reducible] def vb77:VC:=vf77.body
theorem cf77:cFun Tryz.prog rawF false Tryz.f77=some vf77:=by kernel_rfl
theorem T77 (h:HT σ args Post vb77 vf77 []) (hl:args.length≤19:=by exact zB rfl):T Tryz.prog 77 args σ Post:=T.walk Tryz.func77 cf77 hl rfl h
@[reducible] def vb59:VC:=
  Rg [m 2 (.box 0 (t 0)),m 3 (.box 1 (t 1)),m 4 (.mov Bf)]<|
  Rg [m 5 (Fl 0 2),m 6 (Ld 5),m 7 (Fl 0 3),m 8 (Ld 7),m 9 (.bin .eql .num (t 6) (t 8)),Mv 10 9,Gt 11 10 (Fl 1 2),Gt 12 10 (Ld 11),Gt 13 10 (Fl 1 3),Gt 14 10 (Ld 13),Gt 15 10 (.bin .eql .num (t 12) (t 14)),m 16 (.pick (t 10) (t 15) Bf),Mv 17 16,Gt 18 17 (Fl 2 2),Gt 19 17 (Ls 62 18),Gt 20 17 (Fl 2 3),Gt 21 17 (Ls 62 20),Gt 22 17 (.eqAgg [(.i .i64),(.i .u8),(.i .u8),(.i .u8),(.i .u8),(.i .u8),(.i .u8),(.i .u8),(.i .u8),(.i .i64),(.i .i64),(.i .u8),(.i .u8),(.i .u8),(.i .u8),(.i .u8),(.i .u8),(.i .u8),(.i .u8),(.i .u8),(.i .u8),(.i .u8),(.i .u8),(.i .u8),(.i .u8),(.i .u8),(.i .u8),(.i .i64),(.i .u8),(.i .u8),(.i .u8),(.i .u8),(.i .u8),(.i .u8),(.i .u8),(.i .u8),(.i .u8),(.i .u8),(.i .u8),(.i .u8),(.i .u8),(.i .u8),(.i .u8),(.i .u8),(.i .i64),(.i .u8),(.i .u8),(.i .u8),(.i .u8),(.i .u8),(.i .u8),(.i .u8),(.i .u8),(.i .u8),(.i .u8),(.i .u8),(.i .u8),(.i .u8),(.i .u8),(.i .u8),(.i .u8),.s] false (t 19) (t 21)),m 23 (.pick (t 17) (t 22) Bf),Mv 24 23,Gt 25 24 (Fl 64 2),Gt 26 24 (Ls 27 25),Gt 27 24 (Fl 64 3),Gt 28 24 (Ls 27 27),Gt 29 24 (.eqAgg [(.i .u8),(.i .u8),(.i .u8),(.i .u8),(.i .u8),(.i .u8),(.i .u8),(.i .u8),(.i .i64),(.i .u8),(.i .u8),(.i .u8),(.i .u8),(.i .u8),(.i .u8),(.i .u8),(.i .u8),(.i .u8),(.i .u8),(.i .u8),(.i .u8),(.i .u8),(.i .u8),(.i .u8),(.i .u8),(.i .i64),(.i .i64)] false (t 26) (t 28)),m 30 (.pick (t 24) (t 29) Bf),Mv 31 30,Gt 32 31 (Fl 91 2),Gt 33 31 (Ls 17 32),Gt 34 31 (Fl 91 3),Gt 35 31 (Ls 17 34),Gt 36 31 (.eqAgg [(.i .i64),(.i .u8),(.i .u8),(.i .u8),(.i .u8),(.i .u8),(.i .u8),(.i .u8),(.i .u8),(.i .u8),(.i .u8),(.i .u8),(.i .u8),(.i .u8),(.i .u8),(.i .u8),(.i .u8)] false (t 33) (t 35)),m 37 (.pick (t 31) (t 36) Bf),Mv 38 37,Gt 39 38 (Fl 108 2),Gt 40 38 (Ls 24 39),Gt 41 38 (Fl 108 3),Gt 42 38 (Ls 24 41),Gt 43 38 (.call false 93 [(t 40),(t 42)]),m 44 (.pick (t 38) (t 43) Bf),Mv 4 44]<|
  .ret
def vf59:VFun:=⟨45,2,vb59,[.tmp 4],false⟩
theorem cf59:cFun Tryz.prog rawF false Tryz.f59=some vf59:=by kernel_rfl
theorem T59 (h:HT σ args Post vb59 vf59 [dd,dd]) (hl:args.length≤45:=by exact zB rfl):T Tryz.prog 59 args σ Post:=T.walk Tryz.func59 cf59 hl rfl h
@[reducible] def vb93:VC:=
  Rg [m 2 (.box 0 (t 0)),m 3 (.box 1 (t 1)),m 4 (.mov Bf)]<|
  .seq (Rg [m 8 (Fl 0 2),m 9 (Ld 8),m 10 (Fl 0 3),m 11 (Ld 10),m 12 (.bin .neq .num (t 9) (t 11)),Mv 13 12,Gf 14 13 (Fl 2 2),Gf 15 13 (Ld 14),Gf 16 13 (Fl 2 3),Gf 17 13 (Ld 16),Gf 18 13 (.bin .neq .num (t 15) (t 17)),m 19 (.pick (t 13) Bt (t 18)),Mv 20 19,Gf 21 20 (Fl 3 2),Gf 22 20 (Ld 21),Gf 23 20 (Fl 3 3),Gf 24 20 (Ld 23),Gf 25 20 (.bin .neq .num (t 22) (t 24)),m 26 (.pick (t 20) Bt (t 25)),Mv 27 26,Gf 28 27 (Fl 4 2),Gf 29 27 (Ls 17 28),Gf 30 27 (Fl 4 3),Gf 31 27 (Ls 17 30),Gf 32 27 (.eqAgg [(.i .i64),(.i .u8),(.i .u8),(.i .u8),(.i .u8),(.i .u8),(.i .u8),(.i .u8),(.i .u8),(.i .u8),(.i .u8),(.i .u8),(.i .u8),(.i .u8),(.i .u8),(.i .u8),(.i .u8)] true (t 29) (t 31)),m 33 (.pick (t 27) Bt (t 32)),Mv 34 33,Gf 35 34 (Fl 21 2),Gf 36 34 (Ld 35),Gf 37 34 (.len (t 36)),Gf 38 34 (Fl 21 3),Gf 39 34 (Ld 38),Gf 40 34 (.len (t 39)),Gf 41 34 (.bin .neq .num (t 37) (t 40)),m 42 (.pick (t 34) Bt (t 41)),Mv 43 42,Gf 44 43 (Fl 23 2),Gf 45 43 (Ld 44),Gf 46 43 (.len (t 45)),Gf 47 43 (Fl 23 3),Gf 48 43 (Ld 47),Gf 49 43 (.len (t 48)),Gf 50 43 (.bin .neq .num (t 46) (t 49)),m 51 (.pick (t 43) Bt (t 50))]<|
  .cond (t 51) (Rg [m 4 (.mov Bf)]<|
  .ret) (.skip))<|
  .seq (Rg [m 5 (.mov (.c q))]<|
  .block 0<|.loop<|.seq (Rg [Mv 52 5,m 53 (Fl 21 2),m 54 (Ld 53),m 55 (.len (t 54)),m 56 (.bin .lss .num (t 52) (t 55))]<|
  .cond (t 56) (.skip) (.exit 0))<|
  .seq (.block 1<|.seq (.dreg [(m 59 (Fl 21 2),[]),(m 60 (Ld 59),[0]),(Mv 61 5,[]),(m 62 (.index 17 (t 60) (t 61)),[1,2]),(m 63 (Ls 17 62),[3]),(m 64 (Fl 21 3),[]),(m 65 (Ld 64),[5]),(Mv 66 5,[]),(m 67 (.index 17 (t 65) (t 66)),[6,7]),(m 68 (Ls 17 67),[8]),(m 69 (.eqAgg [(.i .i64),(.i .u8),(.i .u8),(.i .u8),(.i .u8),(.i .u8),(.i .u8),(.i .u8),(.i .u8),(.i .u8),(.i .u8),(.i .u8),(.i .u8),(.i .u8),(.i .u8),(.i .u8),(.i .u8)] true (t 63) (t 68)),[4,9])] [(1,0),(1,1),(2,2),(1,3),(1,4),(1,5),(1,6),(2,7),(1,8),(1,9),(2,10)] [0,1,0,7,15,0,32,0,224,480,1023])<|
  .cond (t 69) (Rg [m 4 (.mov Bf)]<|
  .ret) (.skip))<|
  .region [Mv 57 5,m 58 (.bin .add .num (t 57) (Ci 1)),Mv 5 58])<|
  .seq (Rg [m 6 (.mov (.c q))]<|
  .block 2<|.loop<|.seq (Rg [Mv 70 6,m 71 (Fl 23 2),m 72 (Ld 71),m 73 (.len (t 72)),m 74 (.bin .lss .num (t 70) (t 73))]<|
  .cond (t 74) (.skip) (.exit 2))<|
  .seq (.block 3<|.seq (.dreg [(m 77 (Fl 23 2),[]),(m 78 (Ld 77),[0]),(Mv 79 6,[]),(m 80 (.index 21 (t 78) (t 79)),[1,2]),(m 81 (Ls 21 80),[3]),(m 82 (Fl 23 3),[]),(m 83 (Ld 82),[5]),(Mv 84 6,[]),(m 85 (.index 21 (t 83) (t 84)),[6,7]),(m 86 (Ls 21 85),[8]),(m 87 (.call false 134 [(t 81),(t 86)]),[4,9]),(Mv 7 87,[10,10,0,1,2,3,4,5,6,7,8,9,10])] [(1,0),(1,1),(2,2),(1,3),(1,4),(1,5),(1,6),(2,7),(1,8),(1,9),(1,10),(2,11)] [0,1,0,7,15,0,32,0,224,480,1023,2047])<|
  Rg [Mv 88 7,m 89 (.un .not (t 88))]<|
  .cond (t 89) (Rg [m 4 (.mov Bf)]<|
  .ret) (.skip))<|
  .region [Mv 75 6,m 76 (.bin .add .num (t 75) (Ci 1)),Mv 6 76])<|
  Rg [m 90 (Fl 1 2),m 91 (Ld 90),m 92 (Fl 1 3),m 93 (Ld 92),m 94 (.call false 135 [(t 91),(t 93)]),Mv 95 94,Gt 96 95 (Fl 22 2),Gt 97 95 (Ld 96),Gt 98 95 (Fl 22 3),Gt 99 95 (Ld 98),Gt 100 95 (.call false 136 [(t 97),(t 99)]),m 101 (.pick (t 95) (t 100) Bf),Mv 4 101]<|
  .ret
def vf93:VFun:=⟨102,2,vb93,[.tmp 4],false⟩
theorem cf93:cFun Tryz.prog rawF false Tryz.f93=some vf93:=by kernel_rfl
theorem T93 (h:HT σ args Post vb93 vf93 [dd,dd]) (hl:args.length≤102:=by exact zB rfl):T Tryz.prog 93 args σ Post:=T.walk Tryz.func93 cf93 hl rfl h
@[reducible] def vf134:VFun:=by
  have h:=hold Tryz.prog rawF false Tryz.f134
  conv at h=>arg 1;reduce
  exact h.get
@[reducible] def vb134:VC:=vf134.body
theorem cf134:cFun Tryz.prog rawF false Tryz.f134=some vf134:=by kernel_rfl
theorem T134 (h:HT σ args Post vb134 vf134 [dd,dd]) (hl:args.length≤24:=by exact zB rfl):T Tryz.prog 134 args σ Post:=T.walk Tryz.func134 cf134 hl rfl h
@[reducible] def vf135:VFun:=by
  have h:=hold Tryz.prog rawF false Tryz.f135
  conv at h=>arg 1;reduce
  simp only[Int.reduceOfNat] at h
  exact h.get
@[reducible] def vb135:VC:=vf135.body
theorem cf135:cFun Tryz.prog rawF false Tryz.f135=some vf135:=by kernel_rfl
theorem T135 (h:HT σ args Post vb135 vf135 []) (hl:args.length≤71:=by exact zB rfl):T Tryz.prog 135 args σ Post:=T.walk Tryz.func135 cf135 hl rfl h
@[reducible] def vb136:VC:=
  Rg [m 4 (.mov Bf)]<|
  .seq (Rg [Mv 6 0,m 7 (.len (t 6)),Mv 8 1,m 9 (.len (t 8)),m 10 (.bin .neq .num (t 7) (t 9))]<|
  .cond (t 10) (Rg [m 4 (.mov Bf)]<|
  .ret) (.skip))<|
  .seq (Rg [m 5 (.mov (.c q))]<|
  .block 0<|.loop<|.seq (Rg [Mv 11 5,Mv 12 0,m 13 (.len (t 12)),m 14 (.bin .lss .num (t 11) (t 13))]<|
  .cond (t 14) (.skip) (.exit 0))<|
  .seq (.block 1<|.seq (.dreg [(Mv 17 0,[]),(Mv 18 5,[]),(m 19 (.index 8 (t 17) (t 18)),[0,1]),(m 20 (Ls 8 19),[2]),(Mv 21 1,[]),(Mv 22 5,[]),(m 23 (.index 8 (t 21) (t 22)),[4,5]),(m 24 (Ls 8 23),[6]),(m 25 (.eqAgg [(.i .u8),(.i .u8),(.i .u8),(.i .u8),(.i .u8),(.i .u8),(.i .u8),(.i .u8)] true (t 20) (t 24)),[3,7])] [(2,0),(2,1),(1,2),(1,3),(2,4),(2,5),(1,6),(1,7),(2,8)] [0,0,3,7,0,0,48,112,255])<|
  .cond (t 25) (Rg [m 4 (.mov Bf)]<|
  .ret) (.skip))<|
  .region [Mv 15 5,m 16 (.bin .add .num (t 15) (Ci 1)),Mv 5 16])<|
  Rg [m 4 (.mov Bt)]<|
  .ret
def vf136:VFun:=⟨26,0,vb136,[.tmp 4],false⟩
theorem cf136:cFun Tryz.prog rawF false Tryz.f136=some vf136:=by kernel_rfl
theorem T136 (h:HT σ args Post vb136 vf136 []) (hl:args.length≤26:=by exact zB rfl):T Tryz.prog 136 args σ Post:=T.walk Tryz.func136 cf136 hl rfl h
@[reducible] def vb180:VC:=
  Rg [m 2 (.box 0 (t 0)),m 3 (.box 1 (t 1)),m 4 (.mov Bf)]<|
  Rg [m 5 (Fl 1 2),m 6 (Ld 5),m 7 (Fl 1 3),m 8 (Ld 7),m 9 (.bin .eql .num (t 6) (t 8)),Mv 10 9,Gt 11 10 (Fl 3 2),Gt 12 10 (Ls 17 11),Gt 13 10 (Fl 3 3),Gt 14 10 (Ls 17 13),Gt 15 10 (.eqAgg [(.i .i64),(.i .u8),(.i .u8),(.i .u8),(.i .u8),(.i .u8),(.i .u8),(.i .u8),(.i .u8),(.i .u8),(.i .u8),(.i .u8),(.i .u8),(.i .u8),(.i .u8),(.i .u8),(.i .u8)] false (t 12) (t 14)),m 16 (.pick (t 10) (t 15) Bf),Mv 17 16,Gt 18 17 (Fl 20 2),Gt 19 17 (Ld 18),Gt 20 17 (.b2s (t 19)),Gt 21 17 (Fl 20 3),Gt 22 17 (Ld 21),Gt 23 17 (.b2s (t 22)),Gt 24 17 (.bin .eql .num (t 20) (t 23)),m 25 (.pick (t 17) (t 24) Bf),Mv 4 25]<|
  .ret
def vf180:VFun:=⟨26,2,vb180,[.tmp 4],false⟩
theorem cf180:cFun Tryz.prog rawF false Tryz.f180=some vf180:=by kernel_rfl
theorem T180 (h:HT σ args Post vb180 vf180 [dd,dd]) (hl:args.length≤26:=by exact zB rfl):T Tryz.prog 180 args σ Post:=T.walk Tryz.func180 cf180 hl rfl h
end Go.Proofs.YtdpeaefgbmkegaaGreatDoor
namespace Go.Proofs.YtdpeaefgbmkegaaGreatDoor
open Go Go.V D
variable {args:List PV} {σ:VHeap} {Post:KP}
set_option maxRecDepth 100000
set_option maxHeartbeats 8000000
@[reducible] def vf119:VFun:=by
  have h:=hold Tryz.prog rawF false Tryz.f119
  conv at h=>arg 1;reduce
  simp only[Int.reduceOfNat] at h
  exact h.get
@[reducible] def vb119:VC:=vf119.body
theorem cf119:cFun Tryz.prog rawF false Tryz.f119=some vf119:=by kernel_rfl
theorem T119 (h:HT σ args Post vb119 vf119 [dd,dd,dd]) (hl:args.length≤8:=by exact zB rfl):T Tryz.prog 119 args σ Post:=T.walk Tryz.func119 cf119 hl rfl h
@[reducible] def vf120:VFun:=by
  have h:=hold Tryz.prog rawF false Tryz.f120
  conv at h=>arg 1;reduce
  simp only[Int.reduceOfNat] at h
  exact h.get
@[reducible] def vb120:VC:=vf120.body
theorem cf120:cFun Tryz.prog rawF false Tryz.f120=some vf120:=by kernel_rfl
theorem T120 (h:HT σ args Post vb120 vf120 [dd,dd,dd]) (hl:args.length≤8:=by exact zB rfl):T Tryz.prog 120 args σ Post:=T.walk Tryz.func120 cf120 hl rfl h
@[reducible] def vf197:VFun:=by
  have h:=hold Tryz.prog rawF false Tryz.f197
  conv at h=>arg 1;reduce
  exact h.get
@[reducible] def vb197:VC:=vf197.body
@[reducible] def vf198:VFun:=by
  have h:=hold Tryz.prog rawF false Tryz.f198
  conv at h=>arg 1;reduce
  simp only[Int.reduceOfNat] at h
  exact h.get
@[reducible] def vb198:VC:=vf198.body
theorem cf198:cFun Tryz.prog rawF false Tryz.f198=some vf198:=by kernel_rfl
theorem T198 (h:HT σ args Post vb198 vf198 [dd,dd,dd]) (hl:args.length≤8:=by exact zB rfl):T Tryz.prog 198 args σ Post:=T.walk Tryz.func198 cf198 hl rfl h
@[reducible] def vf199:VFun:=by
  have h:=hold Tryz.prog rawF false Tryz.f199
  conv at h=>arg 1;reduce
  simp only[Int.reduceOfNat] at h
  exact h.get
@[reducible] def vb199:VC:=vf199.body
@[reducible] def vf200:VFun:=by
  have h:=hold Tryz.prog rawF false Tryz.f200
  conv at h=>arg 1;reduce
  simp only[Int.reduceOfNat] at h
  exact h.get
@[reducible] def vb200:VC:=vf200.body
theorem cf200:cFun Tryz.prog rawF false Tryz.f200=some vf200:=by kernel_rfl
theorem T200 (h:HT σ args Post vb200 vf200 [dd,dd,dd]) (hl:args.length≤8:=by exact zB rfl):T Tryz.prog 200 args σ Post:=T.walk Tryz.func200 cf200 hl rfl h
@[reducible] def vf28:VFun:=by
  have h:=hold Tryz.prog rawF false Tryz.f28
  conv at h=>arg 1;reduce
  simp only[Int.reduceOfNat,Int.reduceNegSucc] at h
  exact h.get
@[reducible] def vb28:VC:=vf28.body
theorem cf28:cFun Tryz.prog rawF false Tryz.f28=some vf28:=by kernel_rfl
end Go.Proofs.YtdpeaefgbmkegaaGreatDoor
