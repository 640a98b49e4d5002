/- Functions of the program, in the small language. -/
import Derived.Test.YtdpeaefgbmkegaaGreatDoorF1
namespace Go.Proofs.YtdpeaefgbmkegaaGreatDoor
open Go Go.V D
variable {args:List PV} {σ:VHeap} {Post:KP}
set_option maxRecDepth 100000
set_option maxHeartbeats 8000000
@[reducible] def vf265:VFun:=by
  have h:=hold Tryz.prog rawF false Tryz.f265
  conv at h=>arg 1;reduce
  simp only[Int.reduceOfNat] at h
  exact h.get
@[reducible] def vb265:VC:=vf265.body
theorem cf265:cFun Tryz.prog rawF false Tryz.f265=some vf265:=by kernel_rfl
theorem T265 (h:vrun Tryz.prog σ.length vb265 (argsEnv args) (σ++[dd,dd,dd]) (vend vf265 Post)) (hl:args.length≤8:=by exact zB rfl):T Tryz.prog 265 args σ Post:=T.walkR Tryz.func265 cf265 hl rfl h
@[reducible] def vf266:VFun:=by
  have h:=hold Tryz.prog rawF false Tryz.f266
  conv at h=>arg 1;reduce
  simp only[Int.reduceOfNat] at h
  exact h.get
@[reducible] def vb266:VC:=vf266.body
theorem cf266:cFun Tryz.prog rawF false Tryz.f266=some vf266:=by kernel_rfl
theorem T266 (h:HT σ args Post vb266 vf266 [dd,dd,dd]) (hl:args.length≤58:=by exact zB rfl):T Tryz.prog 266 args σ Post:=T.walk Tryz.func266 cf266 hl rfl h
@[reducible] def vf267:VFun:=by
  have h:=hold Tryz.prog rawF false Tryz.f267
  conv at h=>arg 1;reduce
  simp only[Int.reduceOfNat] at h
  exact h.get
@[reducible] def vb267:VC:=vf267.body
theorem cf267:cFun Tryz.prog rawF false Tryz.f267=some vf267:=by kernel_rfl
theorem T267 (h:HT σ args Post vb267 vf267 []) (hl:args.length≤18:=by exact zB rfl):T Tryz.prog 267 args σ Post:=T.walk Tryz.func267 cf267 hl rfl h
@[reducible] def vf57:VFun:=by
  have h:=hold Tryz.prog rawF false Tryz.f57
  conv at h=>arg 1;reduce
  simp only[Int.reduceOfNat] at h
  exact h.get
@[reducible] def vb57:VC:=vf57.body
theorem cf57:cFun Tryz.prog rawF false Tryz.f57=some vf57:=by kernel_rfl
theorem T57 (h:HT σ args Post vb57 vf57 []) (hl:args.length≤20:=by exact zB rfl):T Tryz.prog 57 args σ Post:=T.walk Tryz.func57 cf57 hl rfl h
@[reducible] def vf281:VFun:=by
  have h:=hold Tryz.prog rawF false Tryz.f281
  conv at h=>arg 1;reduce
  simp only[Int.reduceOfNat] at h
  exact h.get
@[reducible] def vb281:VC:=vf281.body
theorem cf281:cFun Tryz.prog rawF false Tryz.f281=some vf281:=by kernel_rfl
theorem T281 (h:HT σ args Post vb281 vf281 []) (hl:args.length≤17:=by exact zB rfl):T Tryz.prog 281 args σ Post:=T.walk Tryz.func281 cf281 hl rfl h
@[reducible] def vf269:VFun:=by
  have h:=hold Tryz.prog rawF false Tryz.f269
  conv at h=>arg 1;reduce
  exact h.get
@[reducible] def vb269:VC:=vf269.body
theorem cf269:cFun Tryz.prog rawF false Tryz.f269=some vf269:=by kernel_rfl
theorem T269 (h:HT σ args Post vb269 vf269 [dd]) (hl:args.length≤7:=by exact zB rfl):T Tryz.prog 269 args σ Post:=T.walk Tryz.func269 cf269 hl rfl h
@[reducible] def vf270:VFun:=by
  have h:=hold Tryz.prog rawF false Tryz.f270
  conv at h=>arg 1;reduce
  exact h.get
@[reducible] def vb270:VC:=vf270.body
theorem cf270:cFun Tryz.prog rawF false Tryz.f270=some vf270:=by kernel_rfl
theorem T270 (h:HT σ args Post vb270 vf270 []) (hl:args.length≤20:=by exact zB rfl):T Tryz.prog 270 args σ Post:=T.walk Tryz.func270 cf270 hl rfl h
@[reducible] def vf149:VFun:=by
  have h:=hold Tryz.prog rawF false Tryz.f149
  conv at h=>arg 1;reduce
  simp only[Int.reduceOfNat] at h
  exact h.get
@[reducible] def vb149:VC:=vf149.body
theorem cf149:cFun Tryz.prog rawF false Tryz.f149=some vf149:=by kernel_rfl
theorem T149 (h:HT σ args Post vb149 vf149 [dd,dd,dd,dd]) (hl:args.length≤22:=by exact zB rfl):T Tryz.prog 149 args σ Post:=T.walk Tryz.func149 cf149 hl rfl h
@[reducible] def vf178:VFun:=by
  have h:=hold Tryz.prog rawF false Tryz.f178
  conv at h=>arg 1;reduce
  simp only[Int.reduceOfNat] at h
  exact h.get
@[reducible] def vb178:VC:=vf178.body
theorem cf178:cFun Tryz.prog rawF false Tryz.f178=some vf178:=by kernel_rfl
theorem T178 (h:HT σ args Post vb178 vf178 [dd,dd]) (hl:args.length≤37:=by exact zB rfl):T Tryz.prog 178 args σ Post:=T.walk Tryz.func178 cf178 hl rfl h
@[reducible] def vf179:VFun:=by
  have h:=hold Tryz.prog rawF false Tryz.f179
  conv at h=>arg 1;reduce
  simp only[Int.reduceOfNat] at h
  exact h.get
@[reducible] def vb179:VC:=vf179.body
theorem cf179:cFun Tryz.prog rawF false Tryz.f179=some vf179:=by kernel_rfl
theorem T179 (h:HT σ args Post vb179 vf179 [dd]) (hl:args.length≤35:=by exact zB rfl):T Tryz.prog 179 args σ Post:=T.walk Tryz.func179 cf179 hl rfl h
@[reducible] def vf55:VFun:=by
  have h:=hold Tryz.prog rawF false Tryz.f55
  conv at h=>arg 1;reduce
  simp only[Int.reduceOfNat] at h
  exact h.get
@[reducible] def vb55:VC:=vf55.body
theorem cf55:cFun Tryz.prog rawF false Tryz.f55=some vf55:=by kernel_rfl
theorem T55 (h:HT σ args Post vb55 vf55 [dd]) (hl:args.length≤28:=by exact zB rfl):T Tryz.prog 55 args σ Post:=T.walk Tryz.func55 cf55 hl rfl h
@[reducible] def vf58:VFun:=by
  have h:=hold Tryz.prog rawF false Tryz.f58
  conv at h=>arg 1;reduce
  simp only[Int.reduceOfNat] at h
  exact h.get
@[reducible] def vb58:VC:=vf58.body
theorem cf58:cFun Tryz.prog rawF false Tryz.f58=some vf58:=by kernel_rfl
theorem T58 (h:HT σ args Post vb58 vf58 [dd,dd,dd,dd]) (hl:args.length≤14:=by exact zB rfl):T Tryz.prog 58 args σ Post:=T.walk Tryz.func58 cf58 hl rfl h
@[reducible] def vf264:VFun:=by
  have h:=hold Tryz.prog rawF false Tryz.f264
  conv at h=>arg 1;reduce
  simp only[Int.reduceOfNat] at h
  exact h.get
@[reducible] def vb264:VC:=vf264.body
theorem cf264:cFun Tryz.prog rawF false Tryz.f264=some vf264:=by kernel_rfl
theorem T264 (h:HT σ args Post vb264 vf264 [dd]) (hl:args.length≤46:=by exact zB rfl):T Tryz.prog 264 args σ Post:=T.walk Tryz.func264 cf264 hl rfl h
@[reducible] def vf280:VFun:=by
  have h:=hold Tryz.prog rawF false Tryz.f280
  conv at h=>arg 1;reduce
  simp only[Int.reduceOfNat] at h
  exact h.get
@[reducible] def vb280:VC:=vf280.body
theorem cf280:cFun Tryz.prog rawF false Tryz.f280=some vf280:=by kernel_rfl
theorem T280 (h:HT σ args Post vb280 vf280 [dd]) (hl:args.length≤16:=by exact zB rfl):T Tryz.prog 280 args σ Post:=T.walk Tryz.func280 cf280 hl rfl h
@[reducible] def vf150:VFun:=by
  have h:=hold Tryz.prog rawF false Tryz.f150
  conv at h=>arg 1;reduce
  simp only[Int.reduceOfNat] at h
  exact h.get
@[reducible] def vb150:VC:=vf150.body
theorem cf150:cFun Tryz.prog rawF false Tryz.f150=some vf150:=by kernel_rfl
theorem T150 (h:HT σ args Post vb150 vf150 [dd,dd]) (hl:args.length≤22:=by exact zB rfl):T Tryz.prog 150 args σ Post:=T.walk Tryz.func150 cf150 hl rfl h
@[reducible] def vf252:VFun:=by
  have h:=hold Tryz.prog rawF false Tryz.f252
  conv at h=>arg 1;reduce
  simp only[Int.reduceOfNat] at h
  exact h.get
@[reducible] def vb252:VC:=vf252.body
theorem cf252:cFun Tryz.prog rawF false Tryz.f252=some vf252:=by kernel_rfl
theorem T252 (h:HT σ args Post vb252 vf252 [dd]) (hl:args.length≤20:=by exact zB rfl):T Tryz.prog 252 args σ Post:=T.walk Tryz.func252 cf252 hl rfl h
@[reducible] def vf255:VFun:=by
  have h:=hold Tryz.prog rawF false Tryz.f255
  conv at h=>arg 1;reduce
  simp only[Int.reduceOfNat] at h
  exact h.get
@[reducible] def vb255:VC:=vf255.body
theorem cf255:cFun Tryz.prog rawF false Tryz.f255=some vf255:=by kernel_rfl
theorem T255 (h:HT σ args Post vb255 vf255 []) (hl:args.length≤21:=by exact zB rfl):T Tryz.prog 255 args σ Post:=T.walk Tryz.func255 cf255 hl rfl h
end Go.Proofs.YtdpeaefgbmkegaaGreatDoor
namespace Go.Proofs.YtdpeaefgbmkegaaGreatDoor
open Go Go.V D
variable {args:List PV} {σ:VHeap} {Post:KP}
set_option maxRecDepth 100000
set_option maxHeartbeats 8000000
@[reducible] def vb151:VC:=
  Rg [m 1 (.box 0 (t 0)),m 2 (.mov Bf)]<|
  .seq (Rg [m 11 (Fl 0 1),m 12 (Ld 11),m 13 (.bin .lss .num (t 12) (Ci 1)),Mv 14 13,Gf 15 14 (Fl 0 1),Gf 16 14 (Ld 15),Gf 17 14 (.bin .gtr .num (t 16) (Ci 7)),m 18 (.pick (t 14) Bt (t 17))]<|
  .cond (t 18) (Rg [m 2 (.mov Bf)]<|
  .ret) (.skip))<|
  Rg [m 20 (Fl 0 1),m 21 (Ld 20),m 22 (.call false 152 [(t 21)]),Mv 19 22,m 23 (.extract 0 (t 19)),m 24 (.extract 1 (t 19)),m 25 (.extract 2 (t 19)),m 26 (.extract 3 (t 19)),Mv 3 23,Mv 4 24,Mv 5 25,Mv 6 26]<|
  Rg [m 27 (.build [q,o,o,o,o,o,o,o,o,o,o,o,o,o,o,o,o] []),m 7 (.alloc 1 [q,o,o,o,o,o,o,o,o,o,o,o,o,o,o,o,o]),e (.store 17 (t 7) (t 27))]<|
  Rg [m 28 (.build [o,o,o,o,o,o,o,o] []),m 8 (.alloc 2 [o,o,o,o,o,o,o,o]),e (.store 8 (t 8) (t 28))]<|
  .seq (Rg [Mv 29 3,m 30 (.un .not (t 29)),Mv 31 30,Gt 32 31 (Fl 1 1),Gt 33 31 (Ls 8 32),Gt 34 31 (Ls 8 8),Gt 35 31 (.eqAgg [(.i .u8),(.i .u8),(.i .u8),(.i .u8),(.i .u8),(.i .u8),(.i .u8),(.i .u8)] true (t 33) (t 34)),m 36 (.pick (t 31) (t 35) Bf),Mv 37 36,Gf 38 37 (.mov (t 4)),Gf 39 37 (.un .not (t 38)),Gf 40 37 (.mov (t 39)),Gt 41 40 (Fl 9 1),Gt 42 40 (Ld 41),Gt 43 40 (.bin .neq .num (t 42) (.c q)),Gf 44 37 (.pick (t 40) (t 43) Bf),m 45 (.pick (t 37) Bt (t 44)),Mv 46 45,Gf 47 46 (.mov (t 5)),Gf 48 46 (.un .not (t 47)),Gf 49 46 (.mov (t 48)),Gt 50 49 (Fl 10 1),Gt 51 49 (Ls 17 50),Gt 52 49 (Ls 17 7),Gt 53 49 (.eqAgg [(.i .i64),(.i .u8),(.i .u8),(.i .u8),(.i .u8),(.i .u8),(.i .u8),(.i .u8),(.i .u8),(.i .u8),(.i .u8),(.i .u8),(.i .u8),(.i .u8),(.i .u8),(.i .u8),(.i .u8)] true (t 51) (t 52)),Gt 54 49 (.mov (t 53)),Gf 55 54 (Fl 27 1),Gf 56 54 (Ls 17 55),Gf 57 54 (Ls 17 7),Gf 58 54 (.eqAgg [(.i .i64),(.i .u8),(.i .u8),(.i .u8),(.i .u8),(.i .u8),(.i .u8),(.i .u8),(.i .u8),(.i .u8),(.i .u8),(.i .u8),(.i .u8),(.i .u8),(.i .u8),(.i .u8),(.i .u8)] true (t 56) (t 57)),Gt 59 49 (.pick (t 54) Bt (t 58)),Gf 60 46 (.pick (t 49) (t 59) Bf),m 61 (.pick (t 46) Bt (t 60)),Mv 62 61,Gf 63 62 (.mov (t 6)),Gf 64 62 (.un .not (t 63)),Gf 65 62 (.mov (t 64)),Gt 66 65 (Fl 44 1),Gt 67 65 (Ls 17 66),Gt 68 65 (Ls 17 7),Gt 69 65 (.eqAgg [(.i .i64),(.i .u8),(.i .u8),(.i .u8),(.i .u8),(.i .u8),(.i .u8),(.i .u8),(.i .u8),(.i .u8),(.i .u8),(.i .u8),(.i .u8),(.i .u8),(.i .u8),(.i .u8),(.i .u8)] true (t 67) (t 68)),Gf 70 62 (.pick (t 65) (t 69) Bf),m 71 (.pick (t 62) Bt (t 70)),Mv 72 71,Gf 73 72 (Fl 0 1),Gf 74 72 (Ld 73),Gf 75 72 (.bin .neq .num (t 74) (Ci 4)),Gf 76 72 (.mov (t 75)),Gt 77 76 (Fl 61 1),Gt 78 76 (Ld 77),Gt 79 76 (.bin .neq .num (t 78) (.c (.str []))),Gf 80 72 (.pick (t 76) (t 79) Bf),m 81 (.pick (t 72) Bt (t 80))]<|
  .cond (t 81) (Rg [m 2 (.mov Bf)]<|
  .ret) (.skip))<|
  .seq (Rg [m 82 (Fl 9 1),m 83 (Ld 82),m 84 (.bin .lss .num (t 83) (.c q)),Mv 85 84,Gf 86 85 (Fl 9 1),Gf 87 85 (Ld 86),Gf 88 85 (.bin .gtr .num (t 87) (Ci 4294967295)),m 89 (.pick (t 85) Bt (t 88))]<|
  .cond (t 89) (Rg [m 2 (.mov Bf)]<|
  .ret) (.skip))<|
  .seq (Rg [Mv 90 6]<|
  .cond (t 90) (Rg [m 91 (Fl 44 1),m 92 (Ls 17 91),m 93 (.call false 191 [(t 92)]),Mv 9 93]<|
  Rg [Mv 94 9,m 95 (.un .not (t 94))]<|
  .cond (t 95) (Rg [m 2 (.mov Bf)]<|
  .ret) (.skip)) (.skip))<|
  .seq (Rg [Mv 96 5]<|
  .cond (t 96) (Rg [m 97 (Fl 10 1),m 98 (Ls 17 97),m 99 (Fl 27 1),m 100 (Ls 17 99),m 101 (Fl 0 1),m 102 (Ld 101),m 103 (.bin .eql .num (t 102) (Ci 3)),m 104 (.call false 192 [(t 98),(t 100),(t 103)]),Mv 10 104]<|
  Rg [Mv 105 10,m 106 (.un .not (t 105))]<|
  .cond (t 106) (Rg [m 2 (.mov Bf)]<|
  .ret) (.skip)) (.skip))<|
  .seq (Rg [m 107 (Fl 0 1),m 108 (Ld 107),m 109 (.bin .eql .num (t 108) (Ci 4))]<|
  .cond (t 109) (Rg [m 110 (Fl 61 1),m 111 (Ld 110),m 112 (.s2b 3 (t 111)),m 113 (.call false 193 [(t 112)]),Mv 2 113]<|
  .ret) (.skip))<|
  Rg [m 2 (.mov Bt)]<|
  .ret
def vf151:VFun:=⟨114,4,vb151,[.tmp 2],false⟩
theorem cf151:cFun Tryz.prog rawF false Tryz.f151=some vf151:=by kernel_rfl
theorem T151 (h:HT σ args Post vb151 vf151 [dd,dd,dd,dd]) (hl:args.length≤114:=by exact zB rfl):T Tryz.prog 151 args σ Post:=T.walk Tryz.func151 cf151 hl rfl h
@[reducible] def vf152:VFun:=by
  have h:=hold Tryz.prog rawF false Tryz.f152
  conv at h=>arg 1;reduce
  simp only[Int.reduceOfNat] at h
  exact h.get
@[reducible] def vb152:VC:=vf152.body
theorem cf152:cFun Tryz.prog rawF false Tryz.f152=some vf152:=by kernel_rfl
theorem T152 (h:HT σ args Post vb152 vf152 []) (hl:args.length≤17:=by exact zB rfl):T Tryz.prog 152 args σ Post:=T.walk Tryz.func152 cf152 hl rfl h
@[reducible] def vf153:VFun:=by
  have h:=hold Tryz.prog rawF false Tryz.f153
  conv at h=>arg 1;reduce
  simp only[Int.reduceOfNat] at h
  exact h.get
@[reducible] def vb153:VC:=vf153.body
theorem cf153:cFun Tryz.prog rawF false Tryz.f153=some vf153:=by kernel_rfl
theorem T153 (h:HT σ args Post vb153 vf153 [dd,dd,dd,dd]) (hl:args.length≤11:=by exact zB rfl):T Tryz.prog 153 args σ Post:=T.walk Tryz.func153 cf153 hl rfl h
@[reducible] def vf107:VFun:=by
  have h:=hold Tryz.prog rawF false Tryz.f107
  conv at h=>arg 1;reduce
  simp only[Int.reduceOfNat] at h
  exact h.get
@[reducible] def vb107:VC:=vf107.body
theorem cf107:cFun Tryz.prog rawF false Tryz.f107=some vf107:=by kernel_rfl
theorem T107 (h:HT σ args Post vb107 vf107 [dd,dd,dd,dd,dd,dd,dd,dd,dd,dd]) (hl:args.length≤62:=by exact zB rfl):T Tryz.prog 107 args σ Post:=T.walk Tryz.func107 cf107 hl rfl h
@[reducible] def vf181:VFun:=by
  have h:=hold Tryz.prog rawF false Tryz.f181
  conv at h=>arg 1;reduce
  simp only[Int.reduceOfNat] at h
  exact h.get
@[reducible] def vb181:VC:=vf181.body
theorem cf181:cFun Tryz.prog rawF false Tryz.f181=some vf181:=by kernel_rfl
theorem T181 (h:HT σ args Post vb181 vf181 [dd,dd,dd]) (hl:args.length≤29:=by exact zB rfl):T Tryz.prog 181 args σ Post:=T.walk Tryz.func181 cf181 hl rfl h
@[reducible] def vf183:VFun:=by
  have h:=hold Tryz.prog rawF false Tryz.f183
  conv at h=>arg 1;reduce
  simp only[Int.reduceOfNat] at h
  exact h.get
@[reducible] def vb183:VC:=vf183.body
theorem cf183:cFun Tryz.prog rawF false Tryz.f183=some vf183:=by kernel_rfl
theorem T183 (h:HT σ args Post vb183 vf183 [dd,dd,dd,dd,dd]) (hl:args.length≤41:=by exact zB rfl):T Tryz.prog 183 args σ Post:=T.walk Tryz.func183 cf183 hl rfl h
@[reducible] def vb184:VC:=
  Rg [m 4 (.mov Bf)]<|
  .seq (Rg [Mv 6 0,m 7 (.len (t 6)),Mv 8 1,m 9 (.len (t 8)),m 10 (.bin .neq .num (t 7) (t 9))]<|
  .cond (t 10) (Rg [m 4 (.mov Bf)]<|
  .ret) (.skip))<|
  .seq (Rg [m 5 (.mov (.c q))]<|
  .block 0<|.loop<|.seq (Rg [Mv 11 5,Mv 12 0,m 13 (.len (t 12)),m 14 (.bin .lss .num (t 11) (t 13))]<|
  .cond (t 14) (.skip) (.exit 0))<|
  .seq (.block 1<|.seq (.dreg [(Mv 17 0,[]),(Mv 18 5,[]),(m 19 (.index 62 (t 17) (t 18)),[0,1]),(m 20 (Ls 62 19),[2]),(Mv 21 1,[]),(Mv 22 5,[]),(m 23 (.index 62 (t 21) (t 22)),[4,5]),(m 24 (Ls 62 23),[6]),(m 25 (.eqAgg [(.i .i64),(.i .u8),(.i .u8),(.i .u8),(.i .u8),(.i .u8),(.i .u8),(.i .u8),(.i .u8),(.i .i64),(.i .i64),(.i .u8),(.i .u8),(.i .u8),(.i .u8),(.i .u8),(.i .u8),(.i .u8),(.i .u8),(.i .u8),(.i .u8),(.i .u8),(.i .u8),(.i .u8),(.i .u8),(.i .u8),(.i .u8),(.i .i64),(.i .u8),(.i .u8),(.i .u8),(.i .u8),(.i .u8),(.i .u8),(.i .u8),(.i .u8),(.i .u8),(.i .u8),(.i .u8),(.i .u8),(.i .u8),(.i .u8),(.i .u8),(.i .u8),(.i .i64),(.i .u8),(.i .u8),(.i .u8),(.i .u8),(.i .u8),(.i .u8),(.i .u8),(.i .u8),(.i .u8),(.i .u8),(.i .u8),(.i .u8),(.i .u8),(.i .u8),(.i .u8),(.i .u8),.s] true (t 20) (t 24)),[3,7])] [(2,0),(2,1),(1,2),(1,3),(2,4),(2,5),(1,6),(1,7),(2,8)] [0,0,3,7,0,0,48,112,255])<|
  .cond (t 25) (Rg [m 4 (.mov Bf)]<|
  .ret) (.skip))<|
  .region [Mv 15 5,m 16 (.bin .add .num (t 15) (Ci 1)),Mv 5 16])<|
  Rg [m 4 (.mov Bt)]<|
  .ret
def vf184:VFun:=⟨26,0,vb184,[.tmp 4],false⟩
theorem cf184:cFun Tryz.prog rawF false Tryz.f184=some vf184:=by kernel_rfl
theorem T184 (h:HT σ args Post vb184 vf184 []) (hl:args.length≤26:=by exact zB rfl):T Tryz.prog 184 args σ Post:=T.walk Tryz.func184 cf184 hl rfl h
@[reducible] def vf191:VFun:=by
  have h:=hold Tryz.prog rawF false Tryz.f191
  conv at h=>arg 1;reduce
  simp only[Int.reduceOfNat] at h
  exact h.get
@[reducible] def vb191:VC:=vf191.body
theorem cf191:cFun Tryz.prog rawF false Tryz.f191=some vf191:=by kernel_rfl
theorem T191 (h:HT σ args Post vb191 vf191 [dd]) (hl:args.length≤10:=by exact zB rfl):T Tryz.prog 191 args σ Post:=T.walk Tryz.func191 cf191 hl rfl h
@[reducible] def vf192:VFun:=by
  have h:=hold Tryz.prog rawF false Tryz.f192
  conv at h=>arg 1;reduce
  simp only[Int.reduceOfNat] at h
  exact h.get
@[reducible] def vb192:VC:=vf192.body
theorem cf192:cFun Tryz.prog rawF false Tryz.f192=some vf192:=by kernel_rfl
theorem T192 (h:HT σ args Post vb192 vf192 [dd,dd]) (hl:args.length≤58:=by exact zB rfl):T Tryz.prog 192 args σ Post:=T.walk Tryz.func192 cf192 hl rfl h
@[reducible] def vf193:VFun:=by
  have h:=hold Tryz.prog rawF false Tryz.f193
  conv at h=>arg 1;reduce
  simp only[Int.reduceOfNat] at h
  exact h.get
@[reducible] def vb193:VC:=vf193.body
theorem cf193:cFun Tryz.prog rawF false Tryz.f193=some vf193:=by kernel_rfl
theorem T193 (h:HT σ args Post vb193 vf193 [dd]) (hl:args.length≤56:=by exact zB rfl):T Tryz.prog 193 args σ Post:=T.walk Tryz.func193 cf193 hl rfl h
@[reducible] def vf229:VFun:=by
  have h:=hold Tryz.prog rawF false Tryz.f229
  conv at h=>arg 1;reduce
  simp only[Int.reduceOfNat] at h
  exact h.get
@[reducible] def vb229:VC:=vf229.body
theorem cf229:cFun Tryz.prog rawF false Tryz.f229=some vf229:=by kernel_rfl
theorem T229 (h:HT σ args Post vb229 vf229 [dd,dd]) (hl:args.length≤64:=by exact zB rfl):T Tryz.prog 229 args σ Post:=T.walk Tryz.func229 cf229 hl rfl h
@[reducible] def vf253:VFun:=by
  have h:=hold Tryz.prog rawF false Tryz.f253
  conv at h=>arg 1;reduce
  simp only[Int.reduceOfNat] at h
  exact h.get
@[reducible] def vb253:VC:=vf253.body
theorem cf253:cFun Tryz.prog rawF false Tryz.f253=some vf253:=by kernel_rfl
theorem T253 (h:HT σ args Post vb253 vf253 [dd,dd,dd]) (hl:args.length≤79:=by exact zB rfl):T Tryz.prog 253 args σ Post:=T.walk Tryz.func253 cf253 hl rfl h
@[reducible] def vf254:VFun:=by
  have h:=hold Tryz.prog rawF false Tryz.f254
  conv at h=>arg 1;reduce
  simp only[Int.reduceOfNat] at h
  exact h.get
@[reducible] def vb254:VC:=vf254.body
theorem cf254:cFun Tryz.prog rawF false Tryz.f254=some vf254:=by kernel_rfl
theorem T254 (h:HT σ args Post vb254 vf254 [dd,dd,dd]) (hl:args.length≤56:=by exact zB rfl):T Tryz.prog 254 args σ Post:=T.walk Tryz.func254 cf254 hl rfl h
@[reducible] def vf268:VFun:=by
  have h:=hold Tryz.prog rawF false Tryz.f268
  conv at h=>arg 1;reduce
  simp only[Int.reduceOfNat] at h
  exact h.get
@[reducible] def vb268:VC:=vf268.body
theorem cf268:cFun Tryz.prog rawF false Tryz.f268=some vf268:=by kernel_rfl
theorem T268 (h:HT σ args Post vb268 vf268 [dd,dd]) (hl:args.length≤28:=by exact zB rfl):T Tryz.prog 268 args σ Post:=T.walk Tryz.func268 cf268 hl rfl h
@[reducible] def vf228:VFun:=by
  have h:=hold Tryz.prog rawF false Tryz.f228
  conv at h=>arg 1;reduce
  simp only[Int.reduceOfNat] at h
  exact h.get
@[reducible] def vb228:VC:=vf228.body
theorem cf228:cFun Tryz.prog rawF false Tryz.f228=some vf228:=by kernel_rfl
theorem T228 (h:HT σ args Post vb228 vf228 [dd,dd,dd,dd,dd,dd]) (hl:args.length≤41:=by exact zB rfl):T Tryz.prog 228 args σ Post:=T.walk Tryz.func228 cf228 hl rfl h
@[reducible] def vf230:VFun:=by
  have h:=hold Tryz.prog rawF false Tryz.f230
  conv at h=>arg 1;reduce
  simp only[Int.reduceOfNat] at h
  exact h.get
@[reducible] def vb230:VC:=vf230.body
theorem cf230:cFun Tryz.prog rawF false Tryz.f230=some vf230:=by kernel_rfl
theorem T230 (h:HT σ args Post vb230 vf230 [dd,dd]) (hl:args.length≤116:=by exact zB rfl):T Tryz.prog 230 args σ Post:=T.walk Tryz.func230 cf230 hl rfl h
@[reducible] def vf182:VFun:=by
  have h:=hold Tryz.prog rawF false Tryz.f182
  conv at h=>arg 1;reduce
  simp only[Int.reduceOfNat] at h
  exact h.get
@[reducible] def vb182:VC:=vf182.body
theorem cf182:cFun Tryz.prog rawF false Tryz.f182=some vf182:=by kernel_rfl
theorem T182 (h:HT σ args Post vb182 vf182 [dd,dd,dd]) (hl:args.length≤29:=by exact zB rfl):T Tryz.prog 182 args σ Post:=T.walk Tryz.func182 cf182 hl rfl h
@[reducible] def vf185:VFun:=by
  have h:=hold Tryz.prog rawF false Tryz.f185
  conv at h=>arg 1;reduce
  simp only[Int.reduceOfNat] at h
  exact h.get
@[reducible] def vb185:VC:=vf185.body
theorem cf185:cFun Tryz.prog rawF false Tryz.f185=some vf185:=by kernel_rfl
theorem T185 (h:HT σ args Post vb185 vf185 [dd,dd,dd,dd,dd]) (hl:args.length≤41:=by exact zB rfl):T Tryz.prog 185 args σ Post:=T.walk Tryz.func185 cf185 hl rfl h
@[reducible] def vb186:VC:=
  Rg [m 4 (.mov Bf)]<|
  .seq (Rg [Mv 6 0,m 7 (.len (t 6)),Mv 8 1,m 9 (.len (t 8)),m 10 (.bin .neq .num (t 7) (t 9))]<|
  .cond (t 10) (Rg [m 4 (.mov Bf)]<|
  .ret) (.skip))<|
  .seq (Rg [m 5 (.mov (.c q))]<|
  .block 0<|.loop<|.seq (Rg [Mv 11 5,Mv 12 0,m 13 (.len (t 12)),m 14 (.bin .lss .num (t 11) (t 13))]<|
  .cond (t 14) (.skip) (.exit 0))<|
  .seq (.block 1<|.seq (.dreg [(Mv 17 0,[]),(Mv 18 5,[]),(m 19 (.index 27 (t 17) (t 18)),[0,1]),(m 20 (Ls 27 19),[2]),(Mv 21 1,[]),(Mv 22 5,[]),(m 23 (.index 27 (t 21) (t 22)),[4,5]),(m 24 (Ls 27 23),[6]),(m 25 (.eqAgg [(.i .u8),(.i .u8),(.i .u8),(.i .u8),(.i .u8),(.i .u8),(.i .u8),(.i .u8),(.i .i64),(.i .u8),(.i .u8),(.i .u8),(.i .u8),(.i .u8),(.i .u8),(.i .u8),(.i .u8),(.i .u8),(.i .u8),(.i .u8),(.i .u8),(.i .u8),(.i .u8),(.i .u8),(.i .u8),(.i .i64),(.i .i64)] true (t 20) (t 24)),[3,7])] [(2,0),(2,1),(1,2),(1,3),(2,4),(2,5),(1,6),(1,7),(2,8)] [0,0,3,7,0,0,48,112,255])<|
  .cond (t 25) (Rg [m 4 (.mov Bf)]<|
  .ret) (.skip))<|
  .region [Mv 15 5,m 16 (.bin .add .num (t 15) (Ci 1)),Mv 5 16])<|
  Rg [m 4 (.mov Bt)]<|
  .ret
def vf186:VFun:=⟨26,0,vb186,[.tmp 4],false⟩
theorem cf186:cFun Tryz.prog rawF false Tryz.f186=some vf186:=by kernel_rfl
theorem T186 (h:HT σ args Post vb186 vf186 []) (hl:args.length≤26:=by exact zB rfl):T Tryz.prog 186 args σ Post:=T.walk Tryz.func186 cf186 hl rfl h
@[reducible] def vf251:VFun:=by
  have h:=hold Tryz.prog rawF false Tryz.f251
  conv at h=>arg 1;reduce
  simp only[Int.reduceOfNat] at h
  exact h.get
@[reducible] def vb251:VC:=vf251.body
theorem cf251:cFun Tryz.prog rawF false Tryz.f251=some vf251:=by kernel_rfl
theorem T251 (h:HT σ args Post vb251 vf251 [dd]) (hl:args.length≤18:=by exact zB rfl):T Tryz.prog 251 args σ Post:=T.walk Tryz.func251 cf251 hl rfl h
end Go.Proofs.YtdpeaefgbmkegaaGreatDoor
namespace Go.Proofs.YtdpeaefgbmkegaaGreatDoor
open Go Go.V D
variable {args:List PV} {σ:VHeap} {Post:KP}
set_option maxRecDepth 100000
set_option maxHeartbeats 8000000
@[reducible] def vb15:VC:=
  Rg [m 1 (.box 0 (t 0)),m 2 (.mov Bf)]<|
  Rg [m 5 (.build [q,o,o,o,o,o,o,o,o,q,q,o,o,o,o,o,o,o,o,o,o,o,o,o,o,o,o,q,o,o,o,o,o,o,o,o,o,o,o,o,o,o,o,o,q,o,o,o,o,o,o,o,o,o,o,o,o,o,o,o,o,(.str [])] []),m 3 (.alloc 1 [q,o,o,o,o,o,o,o,o,q,q,o,o,o,o,o,o,o,o,o,o,o,o,o,o,o,o,q,o,o,o,o,o,o,o,o,o,o,o,o,o,o,o,o,q,o,o,o,o,o,o,o,o,o,o,o,o,o,o,o,o,(.str [])]),e (.store 62 (t 3) (t 5))]<|
  Rg [m 6 (.build [o,o,o,o,o,o,o,o,q,o,o,o,o,o,o,o,o,o,o,o,o,o,o,o,o,q,q] []),m 4 (.alloc 2 [o,o,o,o,o,o,o,o,q,o,o,o,o,o,o,o,o,o,o,o,o,o,o,o,o,q,q]),e (.store 27 (t 4) (t 6))]<|
  .seq (Rg [m 7 (Fl 1 1),m 8 (Ld 7),m 9 (.bin .eql .num (t 8) (Ci 5)),Mv 10 9,Gt 11 10 (Fl 64 1),Gt 12 10 (Ls 27 11),Gt 13 10 (Ls 27 4),Gt 14 10 (.eqAgg [(.i .u8),(.i .u8),(.i .u8),(.i .u8),(.i .u8),(.i .u8),(.i .u8),(.i .u8),(.i .i64),(.i .u8),(.i .u8),(.i .u8),(.i .u8),(.i .u8),(.i .u8),(.i .u8),(.i .u8),(.i .u8),(.i .u8),(.i .u8),(.i .u8),(.i .u8),(.i .u8),(.i .u8),(.i .u8),(.i .i64),(.i .i64)] true (t 12) (t 13)),m 15 (.pick (t 10) (t 14) Bf),Mv 16 15,Gf 17 16 (Fl 1 1),Gf 18 16 (Ld 17),Gf 19 16 (.bin .eql .num (t 18) (Ci 128)),Gf 20 16 (.mov (t 19)),Gt 21 20 (Fl 2 1),Gt 22 20 (Ls 62 21),Gt 23 20 (Ls 62 3),Gt 24 20 (.eqAgg [(.i .i64),(.i .u8),(.i .u8),(.i .u8),(.i .u8),(.i .u8),(.i .u8),(.i .u8),(.i .u8),(.i .i64),(.i .i64),(.i .u8),(.i .u8),(.i .u8),(.i .u8),(.i .u8),(.i .u8),(.i .u8),(.i .u8),(.i .u8),(.i .u8),(.i .u8),(.i .u8),(.i .u8),(.i .u8),(.i .u8),(.i .u8),(.i .i64),(.i .u8),(.i .u8),(.i .u8),(.i .u8),(.i .u8),(.i .u8),(.i .u8),(.i .u8),(.i .u8),(.i .u8),(.i .u8),(.i .u8),(.i .u8),(.i .u8),(.i .u8),(.i .u8),(.i .i64),(.i .u8),(.i .u8),(.i .u8),(.i .u8),(.i .u8),(.i .u8),(.i .u8),(.i .u8),(.i .u8),(.i .u8),(.i .u8),(.i .u8),(.i .u8),(.i .u8),(.i .u8),(.i .u8),.s] true (t 22) (t 23)),Gf 25 16 (.pick (t 20) (t 24) Bf),m 26 (.pick (t 16) Bt (t 25))]<|
  .cond (t 26) (Rg [m 2 (.mov Bf)]<|
  .ret) (.skip))<|
  .seq (.dreg [(m 27 (Fl 108 1),[]),(m 28 (Ls 24 27),[0]),(m 29 (Ls 132 1),[]),(m 30 (.call false 45 [(t 29)]),[2]),(m 31 (.buildSlice 3 21 1 [q,q,q,o,o,o,o,o,o,o,o,o,o,o,o,o,o,o,o,.nils,.nils] [(0,(t 30))]),[3]),(m 32 (.build [q,.nils,q,q,q,o,o,o,o,o,o,o,o,o,o,o,o,o,o,o,o,.nils,.nils,.nils,.nils,.nils] [(0,24,(t 28)),(24,1,(t 31))]),[1,4]),(m 33 (.call false 44 [(t 32)]),[5,3]),(Mv 2 33,[6,6,0,1,2,3,4,5,6])] [(2,0),(2,1),(1,2),(1,3),(0,4),(2,5),(1,6),(2,7)] [0,1,0,4,12,31,63,127])<|
  .ret
def vf15:VFun:=⟨34,4,vb15,[.tmp 2],false⟩
theorem cf15:cFun Tryz.prog rawF false Tryz.f15=some vf15:=by kernel_rfl
theorem T15 (h:HT σ args Post vb15 vf15 [dd,dd,dd,dd]) (hl:args.length≤34:=by exact zB rfl):T Tryz.prog 15 args σ Post:=T.walk Tryz.func15 cf15 hl rfl h
@[reducible] def vf45:VFun:=by
  have h:=hold Tryz.prog rawF false Tryz.f45
  conv at h=>arg 1;reduce
  simp only[Int.reduceOfNat] at h
  exact h.get
@[reducible] def vb45:VC:=vf45.body
theorem cf45:cFun Tryz.prog rawF false Tryz.f45=some vf45:=by kernel_rfl
theorem T45 (h:HT σ args Post vb45 vf45 [dd,dd,dd,dd,dd]) (hl:args.length≤26:=by exact zB rfl):T Tryz.prog 45 args σ Post:=T.walk Tryz.func45 cf45 hl rfl h
@[reducible] def vf44:VFun:=by
  have h:=hold Tryz.prog rawF false Tryz.f44
  conv at h=>arg 1;reduce
  simp only[Int.reduceOfNat] at h
  exact h.get
@[reducible] def vb44:VC:=vf44.body
theorem cf44:cFun Tryz.prog rawF false Tryz.f44=some vf44:=by kernel_rfl
theorem T44 (h:HT σ args Post vb44 vf44 [dd]) (hl:args.length≤84:=by exact zB rfl):T Tryz.prog 44 args σ Post:=T.walk Tryz.func44 cf44 hl rfl h
@[reducible] def vf95:VFun:=by
  have h:=hold Tryz.prog rawF false Tryz.f95
  conv at h=>arg 1;reduce
  simp only[Int.reduceOfNat] at h
  exact h.get
@[reducible] def vb95:VC:=vf95.body
theorem cf95:cFun Tryz.prog rawF false Tryz.f95=some vf95:=by kernel_rfl
theorem T95 (h:HT σ args Post vb95 vf95 [dd]) (hl:args.length≤56:=by exact zB rfl):T Tryz.prog 95 args σ Post:=T.walk Tryz.func95 cf95 hl rfl h
@[reducible] def vf137:VFun:=by
  have h:=hold Tryz.prog rawF false Tryz.f137
  conv at h=>arg 1;reduce
  simp only[Int.reduceOfNat] at h
  exact h.get
@[reducible] def vb137:VC:=vf137.body
theorem cf137:cFun Tryz.prog rawF false Tryz.f137=some vf137:=by kernel_rfl
theorem T137 (h:HT σ args Post vb137 vf137 []) (hl:args.length≤19:=by exact zB rfl):T Tryz.prog 137 args σ Post:=T.walk Tryz.func137 cf137 hl rfl h
@[reducible] def vf138:VFun:=by
  have h:=hold Tryz.prog rawF false Tryz.f138
  conv at h=>arg 1;reduce
  simp only[Int.reduceOfNat] at h
  exact h.get
@[reducible] def vb138:VC:=vf138.body
theorem cf138:cFun Tryz.prog rawF false Tryz.f138=some vf138:=by kernel_rfl
theorem T138 (h:HT σ args Post vb138 vf138 [dd,dd]) (hl:args.length≤62:=by exact zB rfl):T Tryz.prog 138 args σ Post:=T.walk Tryz.func138 cf138 hl rfl h
@[reducible] def vb92:VC:=
  Rg [m 1 (.box 0 (t 0)),m 2 (.mov Bf)]<|
  Rg [m 9 (.build [q,o,o,o,o,o,o,o,o,o,o,o,o,o,o,o,o] []),m 3 (.alloc 1 [q,o,o,o,o,o,o,o,o,o,o,o,o,o,o,o,o]),e (.store 17 (t 3) (t 9))]<|
  .seq (Rg [m 4 (.mov (.c q))]<|
  .block 0<|.loop<|.seq (Rg [Mv 10 4,m 11 (Fl 21 1),m 12 (Ld 11),m 13 (.len (t 12)),m 14 (.bin .lss .num (t 10) (t 13))]<|
  .cond (t 14) (.skip) (.exit 0))<|
  .seq (.block 1<|Rg [m 17 (Fl 21 1),m 18 (Ld 17),Mv 19 4,m 20 (.index 17 (t 18) (t 19)),m 21 (Ls 17 20),m 22 (.call false 130 [(t 21)]),Mv 5 22]<|
  Rg [Mv 23 5,m 24 (.un .not (t 23))]<|
  .cond (t 24) (Rg [m 2 (.mov Bf)]<|
  .ret) (.skip))<|
  .region [Mv 15 4,m 16 (.bin .add .num (t 15) (Ci 1)),Mv 4 16])<|
  .seq (Rg [m 6 (.mov (.c q))]<|
  .block 2<|.loop<|.seq (Rg [Mv 25 6,m 26 (Fl 23 1),m 27 (Ld 26),m 28 (.len (t 27)),m 29 (.bin .lss .num (t 25) (t 28))]<|
  .cond (t 29) (.skip) (.exit 2))<|
  .seq (.block 3<|Rg [m 32 (Fl 23 1),m 33 (Ld 32),Mv 34 6,m 35 (.index 21 (t 33) (t 34)),m 36 (Ls 21 35),m 37 (.call false 131 [(t 36)]),Mv 7 37]<|
  Rg [Mv 38 7,m 39 (.un .not (t 38))]<|
  .cond (t 39) (Rg [m 2 (.mov Bf)]<|
  .ret) (.skip))<|
  .region [Mv 30 6,m 31 (.bin .add .num (t 30) (Ci 1)),Mv 6 31])<|
  Rg [m 40 (Fl 4 1),m 41 (Ls 17 40),m 42 (Ls 17 3),m 43 (.eqAgg [(.i .i64),(.i .u8),(.i .u8),(.i .u8),(.i .u8),(.i .u8),(.i .u8),(.i .u8),(.i .u8),(.i .u8),(.i .u8),(.i .u8),(.i .u8),(.i .u8),(.i .u8),(.i .u8),(.i .u8)] false (t 41) (t 42)),Mv 44 43,Gf 45 44 (Fl 4 1),Gf 46 44 (Ls 17 45),Gf 47 44 (.call false 130 [(t 46)]),m 48 (.pick (t 44) Bt (t 47)),Mv 8 48]<|
  Rg [m 49 (Fl 0 1),m 50 (Ld 49),m 51 (.bin .geq .num (t 50) (.c q)),Mv 52 51,Gt 53 52 (Fl 0 1),Gt 54 52 (Ld 53),Gt 55 52 (.bin .leq .num (t 54) (Ci 2)),m 56 (.pick (t 52) (t 55) Bf),Mv 57 56,Gt 58 57 (Fl 2 1),Gt 59 57 (Ld 58),Gt 60 57 (.call false 132 [(t 59)]),m 61 (.pick (t 57) (t 60) Bf),Mv 62 61,Gt 63 62 (Fl 3 1),Gt 64 62 (Ld 63),Gt 65 62 (.call false 132 [(t 64)]),m 66 (.pick (t 62) (t 65) Bf),Mv 67 66,Gt 68 67 (Fl 1 1),Gt 69 67 (Ld 68),Gt 70 67 (.call false 133 [(t 69)]),m 71 (.pick (t 67) (t 70) Bf),Mv 72 71,Gt 73 72 (.mov (t 8)),m 74 (.pick (t 72) (t 73) Bf),Mv 75 74,Gt 76 75 (Fl 21 1),Gt 77 75 (Ld 76),Gt 78 75 (.len (t 77)),Gt 79 75 (.bin .leq .num (t 78) (Ci 32)),m 80 (.pick (t 75) (t 79) Bf),Mv 81 80,Gt 82 81 (Fl 22 1),Gt 83 81 (Ld 82),Gt 84 81 (.len (t 83)),Gt 85 81 (.bin .leq .num (t 84) (Ci 64)),m 86 (.pick (t 81) (t 85) Bf),Mv 87 86,Gt 88 87 (Fl 23 1),Gt 89 87 (Ld 88),Gt 90 87 (.len (t 89)),Gt 91 87 (.bin .leq .num (t 90) (Ci 1)),m 92 (.pick (t 87) (t 91) Bf),Mv 2 92]<|
  .ret
def vf92:VFun:=⟨93,2,vb92,[.tmp 2],false⟩
theorem cf92:cFun Tryz.prog rawF false Tryz.f92=some vf92:=by kernel_rfl
theorem T92 (h:HT σ args Post vb92 vf92 [dd,dd]) (hl:args.length≤93:=by exact zB rfl):T Tryz.prog 92 args σ Post:=T.walk Tryz.func92 cf92 hl rfl h
@[reducible] def vf130:VFun:=by
  have h:=hold Tryz.prog rawF false Tryz.f130
  conv at h=>arg 1;reduce
  simp only[Int.reduceOfNat] at h
  exact h.get
@[reducible] def vb130:VC:=vf130.body
theorem cf130:cFun Tryz.prog rawF false Tryz.f130=some vf130:=by kernel_rfl
theorem T130 (h:HT σ args Post vb130 vf130 [dd]) (hl:args.length≤10:=by exact zB rfl):T Tryz.prog 130 args σ Post:=T.walk Tryz.func130 cf130 hl rfl h
@[reducible] def vf131:VFun:=by
  have h:=hold Tryz.prog rawF false Tryz.f131
  conv at h=>arg 1;reduce
  simp only[Int.reduceOfNat] at h
  exact h.get
@[reducible] def vb131:VC:=vf131.body
theorem cf131:cFun Tryz.prog rawF false Tryz.f131=some vf131:=by kernel_rfl
theorem T131 (h:HT σ args Post vb131 vf131 [dd,dd]) (hl:args.length≤87:=by exact zB rfl):T Tryz.prog 131 args σ Post:=T.walk Tryz.func131 cf131 hl rfl h
@[reducible] def vf132:VFun:=by
  have h:=hold Tryz.prog rawF false Tryz.f132
  conv at h=>arg 1;reduce
  simp only[Int.reduceOfNat,Int.reduceNegSucc] at h
  exact h.get
@[reducible] def vb132:VC:=vf132.body
theorem cf132:cFun Tryz.prog rawF false Tryz.f132=some vf132:=by kernel_rfl
theorem T132 (h:HT σ args Post vb132 vf132 []) (hl:args.length≤9:=by exact zB rfl):T Tryz.prog 132 args σ Post:=T.walk Tryz.func132 cf132 hl rfl h
@[reducible] def vf133:VFun:=by
  have h:=hold Tryz.prog rawF false Tryz.f133
  conv at h=>arg 1;reduce
  simp only[Int.reduceOfNat] at h
  exact h.get
@[reducible] def vb133:VC:=vf133.body
theorem cf133:cFun Tryz.prog rawF false Tryz.f133=some vf133:=by kernel_rfl
theorem T133 (h:HT σ args Post vb133 vf133 []) (hl:args.length≤60:=by exact zB rfl):T Tryz.prog 133 args σ Post:=T.walk Tryz.func133 cf133 hl rfl h
@[reducible] def vf4:VFun:=by
  have h:=hold Tryz.prog rawF false Tryz.f4
  conv at h=>arg 1;reduce
  simp only[Int.reduceOfNat] at h
  exact h.get
@[reducible] def vb4:VC:=vf4.body
theorem cf4:cFun Tryz.prog rawF false Tryz.f4=some vf4:=by kernel_rfl
theorem T4 (h:HT σ args Post vb4 vf4 [dd,dd,dd,dd]) (hl:args.length≤70:=by exact zB rfl):T Tryz.prog 4 args σ Post:=T.walk Tryz.func4 cf4 hl rfl h
end Go.Proofs.YtdpeaefgbmkegaaGreatDoor
namespace Go.Proofs.YtdpeaefgbmkegaaGreatDoor
open Go Go.V D
variable {args:List PV} {σ:VHeap} {Post:KP}
set_option maxRecDepth 100000
set_option maxHeartbeats 8000000
@[reducible] def vf18:VFun:=by
  have h:=hold Tryz.prog rawF false Tryz.f18
  conv at h=>arg 1;reduce
  simp only[Int.reduceOfNat,Int.reduceNegSucc] at h
  exact h.get
@[reducible] def vb18:VC:=vf18.body
theorem cf18:cFun Tryz.prog rawF false Tryz.f18=some vf18:=by kernel_rfl
theorem T18 (h:HT σ args Post vb18 vf18 [dd,dd,dd,dd]) (hl:args.length≤60:=by exact zB rfl):T Tryz.prog 18 args σ Post:=T.walk Tryz.func18 cf18 hl rfl h
@[reducible] def vf20:VFun:=by
  have h:=hold Tryz.prog rawF false Tryz.f20
  conv at h=>arg 1;reduce
  simp only[Int.reduceOfNat] at h
  exact h.get
@[reducible] def vb20:VC:=vf20.body
theorem cf20:cFun Tryz.prog rawF false Tryz.f20=some vf20:=by kernel_rfl
theorem T20 (h:HT σ args Post vb20 vf20 [dd,dd]) (hl:args.length≤24:=by exact zB rfl):T Tryz.prog 20 args σ Post:=T.walk Tryz.func20 cf20 hl rfl h
@[reducible] def vf21:VFun:=by
  have h:=hold Tryz.prog rawF false Tryz.f21
  conv at h=>arg 1;reduce
  simp only[Int.reduceOfNat] at h
  exact h.get
@[reducible] def vb21:VC:=vf21.body
theorem cf21:cFun Tryz.prog rawF false Tryz.f21=some vf21:=by kernel_rfl
theorem T21 (h:HT σ args Post vb21 vf21 []) (hl:args.length≤29:=by exact zB rfl):T Tryz.prog 21 args σ Post:=T.walk Tryz.func21 cf21 hl rfl h
@[reducible] def vf23:VFun:=by
  have h:=hold Tryz.prog rawF false Tryz.f23
  conv at h=>arg 1;reduce
  simp only[Int.reduceOfNat] at h
  exact h.get
@[reducible] def vb23:VC:=vf23.body
theorem cf23:cFun Tryz.prog rawF false Tryz.f23=some vf23:=by kernel_rfl
theorem T23 (h:HT σ args Post vb23 vf23 [dd,dd,dd,dd,dd,dd]) (hl:args.length≤32:=by exact zB rfl):T Tryz.prog 23 args σ Post:=T.walk Tryz.func23 cf23 hl rfl h
@[reducible] def vf26:VFun:=by
  have h:=hold Tryz.prog rawF false Tryz.f26
  conv at h=>arg 1;reduce
  exact h.get
@[reducible] def vb26:VC:=vf26.body
theorem cf26:cFun Tryz.prog rawF false Tryz.f26=some vf26:=by kernel_rfl
theorem T26 (h:HT σ args Post vb26 vf26 [dd]) (hl:args.length≤11:=by exact zB rfl):T Tryz.prog 26 args σ Post:=T.walk Tryz.func26 cf26 hl rfl h
@[reducible] def vb48:VC:=
  Rg [m 4 (.mov Bf)]<|
  .seq (Rg [m 5 (.mov (.c q))]<|
  .block 0<|.loop<|.seq (Rg [Mv 7 5,Mv 8 0,m 9 (.len (t 8)),m 10 (.bin .lss .num (t 7) (t 9))]<|
  .cond (t 10) (.skip) (.exit 0))<|
  .seq (.block 1<|Rg [m 6 (.mov (.c q))]<|
  .block 2<|.loop<|.seq (Rg [Mv 13 6,Mv 14 1,m 15 (.len (t 14)),m 16 (.bin .lss .num (t 13) (t 15))]<|
  .cond (t 16) (.skip) (.exit 2))<|
  .seq (.block 3<|.seq (.dreg [(Mv 19 0,[]),(Mv 20 5,[]),(m 21 (.index 8 (t 19) (t 20)),[0,1]),(m 22 (Ls 8 21),[2]),(Mv 23 1,[]),(Mv 24 6,[]),(m 25 (.index 8 (t 23) (t 24)),[4,5]),(m 26 (Ls 8 25),[6]),(m 27 (.eqAgg [(.i .u8),(.i .u8),(.i .u8),(.i .u8),(.i .u8),(.i .u8),(.i .u8),(.i .u8)] false (t 22) (t 26)),[3,7]),(Mv 28 27,[8]),(Gt 29 28 (.mov (t 0)),[9]),(Gt 30 28 (.mov (t 5)),[9]),(Gt 31 28 (.index 8 (t 29) (t 30)),[10,11,9]),(Gt 32 28 (Ls 8 31),[12,9]),(Gt 33 28 (.call false 99 [(t 32)]),[13,9,9]),(Gt 34 28 (.bin .eql .num (t 33) (Ci 1)),[14,9]),(m 35 (.pick (t 28) (t 34) Bf),[9,15])] [(2,0),(2,1),(1,2),(1,3),(2,4),(2,5),(1,6),(1,7),(2,8),(2,9),(2,10),(2,11),(1,12),(1,13),(1,14),(2,15),(2,16)] [0,0,3,7,0,0,48,112,255,511,1023,1023,4095,8191,16383,32767,65535])<|
  .cond (t 35) (Rg [m 4 (.mov Bt)]<|
  .ret) (.skip))<|
  .region [Mv 17 6,m 18 (.bin .add .num (t 17) (Ci 1)),Mv 6 18])<|
  .region [Mv 11 5,m 12 (.bin .add .num (t 11) (Ci 1)),Mv 5 12])<|
  Rg [m 4 (.mov Bf)]<|
  .ret
def vf48:VFun:=⟨36,0,vb48,[.tmp 4],false⟩
theorem cf48:cFun Tryz.prog rawF false Tryz.f48=some vf48:=by kernel_rfl
theorem T48 (h:HT σ args Post vb48 vf48 []) (hl:args.length≤36:=by exact zB rfl):T Tryz.prog 48 args σ Post:=T.walk Tryz.func48 cf48 hl rfl h
@[reducible] def vb49:VC:=
  Rg [m 2 (.box 0 (t 0)),m 4 (.mov Bf)]<|
  .seq (Rg [m 5 (.mov (.c q))]<|
  .block 0<|.loop<|.seq (Rg [Mv 6 5,Mv 7 1,m 8 (.len (t 7)),m 9 (.bin .lss .num (t 6) (t 8))]<|
  .cond (t 9) (.skip) (.exit 0))<|
  .seq (.block 1<|.seq (.dreg [(Mv 12 1,[]),(Mv 13 5,[]),(m 14 (.index 8 (t 12) (t 13)),[0,1]),(m 15 (Ls 8 14),[2]),(m 16 (Ls 8 2),[]),(m 17 (.eqAgg [(.i .u8),(.i .u8),(.i .u8),(.i .u8),(.i .u8),(.i .u8),(.i .u8),(.i .u8)] false (t 15) (t 16)),[3,4])] [(2,0),(2,1),(1,2),(1,3),(1,4),(2,5)] [0,0,3,7,0,31])<|
  .cond (t 17) (Rg [m 4 (.mov Bt)]<|
  .ret) (.skip))<|
  .region [Mv 10 5,m 11 (.bin .add .num (t 10) (Ci 1)),Mv 5 11])<|
  Rg [m 4 (.mov Bf)]<|
  .ret
def vf49:VFun:=⟨18,1,vb49,[.tmp 4],false⟩
theorem cf49:cFun Tryz.prog rawF false Tryz.f49=some vf49:=by kernel_rfl
theorem T49 (h:HT σ args Post vb49 vf49 [dd]) (hl:args.length≤18:=by exact zB rfl):T Tryz.prog 49 args σ Post:=T.walk Tryz.func49 cf49 hl rfl h
@[reducible] def vf56:VFun:=by
  have h:=hold Tryz.prog rawF false Tryz.f56
  conv at h=>arg 1;reduce
  simp only[Int.reduceOfNat] at h
  exact h.get
@[reducible] def vb56:VC:=vf56.body
theorem cf56:cFun Tryz.prog rawF false Tryz.f56=some vf56:=by kernel_rfl
theorem T56 (h:HT σ args Post vb56 vf56 [dd,dd,dd,dd]) (hl:args.length≤27:=by exact zB rfl):T Tryz.prog 56 args σ Post:=T.walk Tryz.func56 cf56 hl rfl h
@[reducible] def vf62:VFun:=by
  have h:=hold Tryz.prog rawF false Tryz.f62
  conv at h=>arg 1;reduce
  simp only[Int.reduceOfNat] at h
  exact h.get
@[reducible] def vb62:VC:=vf62.body
theorem cf62:cFun Tryz.prog rawF false Tryz.f62=some vf62:=by kernel_rfl
theorem T62 (h:HT σ args Post vb62 vf62 [dd,dd,dd,dd,dd,dd,dd,dd,dd]) (hl:args.length≤56:=by exact zB rfl):T Tryz.prog 62 args σ Post:=T.walk Tryz.func62 cf62 hl rfl h
@[reducible] def vf99:VFun:=by
  have h:=hold Tryz.prog rawF false Tryz.f99
  conv at h=>arg 1;reduce
  simp only[Int.reduceOfNat] at h
  exact h.get
@[reducible] def vb99:VC:=vf99.body
theorem cf99:cFun Tryz.prog rawF false Tryz.f99=some vf99:=by kernel_rfl
theorem T99 (h:HT σ args Post vb99 vf99 [dd]) (hl:args.length≤37:=by exact zB rfl):T Tryz.prog 99 args σ Post:=T.walk Tryz.func99 cf99 hl rfl h
@[reducible] def vf105:VFun:=by
  have h:=hold Tryz.prog rawF false Tryz.f105
  conv at h=>arg 1;reduce
  simp only[Int.reduceOfNat] at h
  exact h.get
@[reducible] def vb105:VC:=vf105.body
theorem cf105:cFun Tryz.prog rawF false Tryz.f105=some vf105:=by kernel_rfl
theorem T105 (h:HT σ args Post vb105 vf105 [dd,dd,dd]) (hl:args.length≤52:=by exact zB rfl):T Tryz.prog 105 args σ Post:=T.walk Tryz.func105 cf105 hl rfl h
@[reducible] def vf106:VFun:=by
  have h:=hold Tryz.prog rawF false Tryz.f106
  conv at h=>arg 1;reduce
  simp only[Int.reduceOfNat] at h
  exact h.get
@[reducible] def vb106:VC:=vf106.body
theorem cf106:cFun Tryz.prog rawF false Tryz.f106=some vf106:=by kernel_rfl
theorem T106 (h:HT σ args Post vb106 vf106 [dd,dd]) (hl:args.length≤22:=by exact zB rfl):T Tryz.prog 106 args σ Post:=T.walk Tryz.func106 cf106 hl rfl h
@[reducible] def vf148:VFun:=by
  have h:=hold Tryz.prog rawF false Tryz.f148
  conv at h=>arg 1;reduce
  simp only[Int.reduceOfNat] at h
  exact h.get
@[reducible] def vb148:VC:=vf148.body
theorem cf148:cFun Tryz.prog rawF false Tryz.f148=some vf148:=by kernel_rfl
theorem T148 (h:HT σ args Post vb148 vf148 []) (hl:args.length≤12:=by exact zB rfl):T Tryz.prog 148 args σ Post:=T.walk Tryz.func148 cf148 hl rfl h
@[reducible] def vb5:VC:=
  Rg [m 4 (.box 0 (t 0)),m 5 (.box 1 (t 1)),m 8 (.mov Bf)]<|
  Rg [m 17 (.call false 13 []),Mv 9 17]<|
  Rg [m 18 (Ls 30 4),m 19 (.call false 14 [(t 18)]),Mv 10 19]<|
  .seq (Rg [Mv 20 10,m 21 (.un .not (t 20)),Mv 22 21,Gf 23 22 (.mov (t 3)),Gf 24 22 (.len (t 23)),Gf 25 22 (.bin .gtr .num (t 24) (Ci 30)),m 26 (.pick (t 22) Bt (t 25))]<|
  .cond (t 26) (Rg [Mv 27 9,Mv 8 27]<|
  .ret) (.skip))<|
  .seq (Rg [m 11 (.mov (.c q))]<|
  .block 0<|.loop<|.seq (Rg [Mv 28 11,Mv 29 3,m 30 (.len (t 29)),m 31 (.bin .lss .num (t 28) (t 30))]<|
  .cond (t 31) (.skip) (.exit 0))<|
  .seq (.block 1<|Rg [Mv 34 3,Mv 35 11,m 36 (.index 132 (t 34) (t 35)),m 37 (Ls 132 36),m 38 (.call false 8 [(t 37)]),Mv 12 38]<|
  .seq (Rg [Mv 39 12,m 40 (.un .not (t 39))]<|
  .cond (t 40) (Rg [Mv 41 9,Mv 8 41]<|
  .ret) (.skip))<|
  .seq (.dreg [(m 42 (Ls 30 4),[]),(m 43 (Ls 17 5),[]),(Mv 44 3,[]),(Mv 45 11,[]),(m 46 (.index 132 (t 44) (t 45)),[2,3]),(m 47 (Ls 132 46),[4]),(m 48 (.call false 16 [(t 42),(t 43),(t 47)]),[0,1,5]),(m 49 (Ls 30 4),[]),(m 50 (Ls 17 5),[]),(Mv 51 3,[]),(Mv 52 11,[]),(m 53 (.index 132 (t 51) (t 52)),[9,10]),(m 54 (Ls 132 53),[11]),(m 55 (.call false 18 [(t 49),(t 50),(t 54)]),[7,8,12,6]),(m 56 (.bin .neq .bool (t 48) (t 55)),[6,13])] [(1,0),(1,1),(2,2),(2,3),(1,4),(1,5),(1,6),(1,7),(1,8),(2,9),(2,10),(1,11),(1,12),(1,13),(2,14)] [0,0,0,0,12,28,63,0,0,0,0,1536,3584,8191,16383])<|
  .cond (t 56) (Rg [m 8 (.mov Bf)]<|
  .ret) (.skip))<|
  .region [Mv 32 11,m 33 (.bin .add .num (t 32) (Ci 1)),Mv 11 33])<|
  Rg [m 58 (Ls 17 5),Mv 59 2,m 60 (.call false 19 [(t 58),(t 59)]),Mv 57 60,m 61 (.extract 0 (t 57)),m 62 (.extract 1 (t 57)),m 13 (.alloc 2 [o,o,o,o,o,o,o,o]),e (.store 8 (t 13) (t 61)),Mv 14 62]<|
  Rg [m 64 (Ls 17 5),Mv 65 2,m 66 (.call false 20 [(t 64),(t 65)]),Mv 63 66,m 67 (.extract 0 (t 63)),m 68 (.extract 1 (t 63)),m 15 (.alloc 3 [o,o,o,o,o,o,o,o]),e (.store 8 (t 15) (t 67)),Mv 16 68]<|
  .seq (.dreg [(Mv 69 9,[]),(Mv 70 69,[0]),(Gt 71 70 (Ls 8 13),[1]),(Gt 72 70 (Ls 8 15),[1]),(Gt 73 70 (.eqAgg [(.i .u8),(.i .u8),(.i .u8),(.i .u8),(.i .u8),(.i .u8),(.i .u8),(.i .u8)] false (t 71) (t 72)),[2,3,1]),(m 74 (.pick (t 70) (t 73) Bf),[1,4]),(Mv 75 74,[5,1]),(Gt 76 75 (.mov (t 14)),[6]),(Gt 77 75 (.mov (t 16)),[6]),(Gt 78 75 (.bin .eql .num (t 76) (t 77)),[7,8,6]),(m 79 (.pick (t 75) (t 78) Bf),[6,9]),(Mv 80 79,[10,6]),(Gt 81 80 (Ls 30 4),[11]),(Gt 82 80 (Ls 17 5),[11]),(Gt 83 80 (.mov (t 3)),[11]),(Gt 84 80 (.call false 22 [(t 81),(t 82),(t 83)]),[12,13,14,11,11]),(Gt 85 80 (Ls 30 4),[11]),(Gt 86 80 (Ls 17 5),[11]),(Gt 87 80 (.mov (t 3)),[11]),(Gt 88 80 (.call false 23 [(t 85),(t 86),(t 87)]),[16,17,18,15,11]),(Gt 89 80 (.call false 21 [(t 84),(t 88)]),[15,19,19,11]),(m 90 (.pick (t 80) (t 89) Bf),[11,20]),(Mv 8 90,[21,20,0,1,2,3,4,5,6,7,8,9,10,11,12,13,14,15,16,17,18,19,20,21])] [(2,0),(2,1),(1,2),(1,3),(2,4),(2,5),(2,6),(2,7),(2,8),(2,9),(2,10),(2,11),(1,12),(1,13),(2,14),(1,15),(1,16),(1,17),(2,18),(1,19),(1,20),(2,21),(2,22)] [0,1,3,3,15,31,63,127,127,511,1023,2047,4095,4095,4095,32767,4095,4095,4095,524287,1048575,2097151,4194303])<|
  .ret
def vf5:VFun:=⟨91,4,vb5,[.tmp 8],false⟩
theorem cf5:cFun Tryz.prog rawF false Tryz.f5=some vf5:=by kernel_rfl
theorem T5 (h:HT σ args Post vb5 vf5 [dd,dd,dd,dd]) (hl:args.length≤91:=by exact zB rfl):T Tryz.prog 5 args σ Post:=T.walk Tryz.func5 cf5 hl rfl h
end Go.Proofs.YtdpeaefgbmkegaaGreatDoor
