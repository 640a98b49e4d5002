/- Functions of the program, in the small language. -/
import Derived.Test.YtdpeaefgbmkegaaGreatDoorF1
namespace Go.Proofs.YtdpeaefgbmkegaaGreatDoor
open Go Go.V D
variable {args:List PV} {σ:VHeap} {Post:KP}
set_option maxRecDepth 100000
set_option maxHeartbeats 8000000
@[reducible] def vf117:VFun:=by
  have h:=hold Tryz.prog rawF false Tryz.f117
  conv at h=>arg 1;reduce
  simp only[Int.reduceOfNat] at h
  exact h.get
@[reducible] def vb117:VC:=vf117.body
theorem cf117:cFun Tryz.prog rawF false Tryz.f117=some vf117:=by kernel_rfl
theorem T117 (h:HT σ args Post vb117 vf117 [dd,dd,dd,dd,dd]) (hl:args.length≤26:=by exact zB rfl):T Tryz.prog 117 args σ Post:=T.walk Tryz.func117 cf117 hl rfl h
@[reducible] def vb73:VC:=
  Rg [m 1 (.box 0 (t 0)),m 2 (.mov Bf)]<|
  .seq (.block 0<|.seq (Rg [m 4 (Fl 1 1),m 5 (Ld 4),m 6 (.bin .eql .num (t 5) (Ci 5)),Mv 7 6,Gt 8 7 (Fl 64 1),Gt 9 7 (Ls 27 8),Gt 10 7 (.build [o,o,o,o,o,o,o,o,q,o,o,o,o,o,o,o,o,o,o,o,o,o,o,o,o,q,q] []),Gt 11 7 (.eqAgg [(.i .u8),(.i .u8),(.i .u8),(.i .u8),(.i .u8),(.i .u8),(.i .u8),(.i .u8),(.i .i64),(.i .u8),(.i .u8),(.i .u8),(.i .u8),(.i .u8),(.i .u8),(.i .u8),(.i .u8),(.i .u8),(.i .u8),(.i .u8),(.i .u8),(.i .u8),(.i .u8),(.i .u8),(.i .u8),(.i .i64),(.i .i64)] true (t 9) (t 10)),m 12 (.pick (t 7) (t 11) Bf),Mv 3 12]<|
  .cond (t 3) (.skip) (.region [m 13 (Fl 1 1),m 14 (Ld 13),m 15 (.bin .eql .num (t 14) (Ci 128)),Mv 16 15,Gt 17 16 (Fl 2 1),Gt 18 16 (Ls 62 17),Gt 19 16 (.build [q,o,o,o,o,o,o,o,o,q,q,o,o,o,o,o,o,o,o,o,o,o,o,o,o,o,o,q,o,o,o,o,o,o,o,o,o,o,o,o,o,o,o,o,q,o,o,o,o,o,o,o,o,o,o,o,o,o,o,o,o,(.str [])] []),Gt 20 16 (.eqAgg [(.i .i64),(.i .u8),(.i .u8),(.i .u8),(.i .u8),(.i .u8),(.i .u8),(.i .u8),(.i .u8),(.i .i64),(.i .i64),(.i .u8),(.i .u8),(.i .u8),(.i .u8),(.i .u8),(.i .u8),(.i .u8),(.i .u8),(.i .u8),(.i .u8),(.i .u8),(.i .u8),(.i .u8),(.i .u8),(.i .u8),(.i .u8),(.i .i64),(.i .u8),(.i .u8),(.i .u8),(.i .u8),(.i .u8),(.i .u8),(.i .u8),(.i .u8),(.i .u8),(.i .u8),(.i .u8),(.i .u8),(.i .u8),(.i .u8),(.i .u8),(.i .u8),(.i .i64),(.i .u8),(.i .u8),(.i .u8),(.i .u8),(.i .u8),(.i .u8),(.i .u8),(.i .u8),(.i .u8),(.i .u8),(.i .u8),(.i .u8),(.i .u8),(.i .u8),(.i .u8),(.i .u8),.s] true (t 18) (t 19)),m 21 (.pick (t 16) (t 20) Bf),Mv 3 21]))<|
  .cond (t 3) (Rg [m 2 (.mov Bf)]<|
  .ret) (.skip))<|
  .seq (.dreg [(m 22 (Fl 108 1),[]),(m 23 (Ls 24 22),[0]),(m 24 (Ls 132 1),[]),(m 25 (.call false 117 [(t 24)]),[2]),(m 26 (.buildSlice 1 21 1 [q,q,q,o,o,o,o,o,o,o,o,o,o,o,o,o,o,o,o,.nils,.nils] [(0,(t 25))]),[3]),(m 27 (.build [q,.nils,q,q,q,o,o,o,o,o,o,o,o,o,o,o,o,o,o,o,o,.nils,.nils,.nils,.nils,.nils] [(0,24,(t 23)),(24,1,(t 26))]),[1,4]),(m 28 (.call false 116 [(t 27)]),[5,3]),(Mv 2 28,[6,6,0,1,2,3,4,5,6])] [(2,0),(2,1),(1,2),(1,3),(0,4),(2,5),(1,6),(2,7)] [0,1,0,4,12,31,63,127])<|
  .ret
def vf73:VFun:=⟨29,2,vb73,[.tmp 2],false⟩
theorem cf73:cFun Tryz.prog rawF false Tryz.f73=some vf73:=by kernel_rfl
theorem T73 (h:HT σ args Post vb73 vf73 [dd,dd]) (hl:args.length≤29:=by exact zB rfl):T Tryz.prog 73 args σ Post:=T.walk Tryz.func73 cf73 hl rfl h
@[reducible] def vf74:VFun:=by
  have h:=hold Tryz.prog rawF false Tryz.f74
  conv at h=>arg 1;reduce
  simp only[Int.reduceOfNat] at h
  exact h.get
@[reducible] def vb74:VC:=vf74.body
theorem cf74:cFun Tryz.prog rawF false Tryz.f74=some vf74:=by kernel_rfl
theorem T74 (h:HT σ args Post vb74 vf74 [dd,dd,dd,dd,dd,dd,dd,dd,dd,dd]) (hl:args.length≤53:=by exact zB rfl):T Tryz.prog 74 args σ Post:=T.walk Tryz.func74 cf74 hl rfl h
@[reducible] def vf32:VFun:=by
  have h:=hold Tryz.prog rawF false Tryz.f32
  conv at h=>arg 1;reduce
  exact h.get
@[reducible] def vb32:VC:=vf32.body
theorem cf32:cFun Tryz.prog rawF false Tryz.f32=some vf32:=by kernel_rfl
theorem T32 (h:HT σ args Post vb32 vf32 [dd]) (hl:args.length≤9:=by exact zB rfl):T Tryz.prog 32 args σ Post:=T.walk Tryz.func32 cf32 hl rfl h
@[reducible] def vf116:VFun:=by
  have h:=hold Tryz.prog rawF false Tryz.f116
  conv at h=>arg 1;reduce
  simp only[Int.reduceOfNat] at h
  exact h.get
@[reducible] def vb116:VC:=vf116.body
theorem cf116:cFun Tryz.prog rawF false Tryz.f116=some vf116:=by kernel_rfl
theorem T116 (h:HT σ args Post vb116 vf116 [dd]) (hl:args.length≤36:=by exact zB rfl):T Tryz.prog 116 args σ Post:=T.walk Tryz.func116 cf116 hl rfl h
@[reducible] def vb160:VC:=
  Rg [m 1 (.box 0 (t 0)),m 2 (.mov Bf)]<|
  .seq (.block 0<|.seq (Rg [m 4 (Fl 0 1),m 5 (Ld 4),m 6 (.bin .lss .num (t 5) (.c q)),Mv 3 6]<|
  .cond (t 3) (.skip) (Rg [m 7 (Fl 0 1),m 8 (Ld 7),m 9 (.bin .gtr .num (t 8) (Ci 2)),Mv 3 9]<|
  .cond (t 3) (.skip) (Rg [m 10 (Fl 2 1),m 11 (Ld 10),m 12 (.bin .lss .num (t 11) (.c (i (-1)))),Mv 3 12]<|
  .cond (t 3) (.skip) (Rg [m 13 (Fl 2 1),m 14 (Ld 13),m 15 (.bin .gtr .num (t 14) (Ci 4294967295)),Mv 3 15]<|
  .cond (t 3) (.skip) (Rg [m 16 (Fl 3 1),m 17 (Ld 16),m 18 (.bin .lss .num (t 17) (.c (i (-1)))),Mv 3 18]<|
  .cond (t 3) (.skip) (.region [m 19 (Fl 3 1),m 20 (Ld 19),m 21 (.bin .gtr .num (t 20) (Ci 4294967295)),Mv 3 21]))))))<|
  .cond (t 3) (Rg [m 2 (.mov Bf)]<|
  .ret) (Rg [m 23 (Fl 4 1),m 24 (Ls 17 23),m 25 (.build [q,o,o,o,o,o,o,o,o,o,o,o,o,o,o,o,o] []),m 26 (.eqAgg [(.i .i64),(.i .u8),(.i .u8),(.i .u8),(.i .u8),(.i .u8),(.i .u8),(.i .u8),(.i .u8),(.i .u8),(.i .u8),(.i .u8),(.i .u8),(.i .u8),(.i .u8),(.i .u8),(.i .u8)] true (t 24) (t 25)),Mv 27 26,Gt 28 27 (Fl 4 1),Gt 29 27 (Ls 17 28),Gt 30 27 (.call false 201 [(t 29)]),Gt 31 27 (.un .not (t 30)),m 32 (.pick (t 27) (t 31) Bf),Mv 22 32]<|
  .cond (t 22) (Rg [m 2 (.mov Bf)]<|
  .ret) (.seq (Rg [m 34 (Fl 21 1),m 35 (Ld 34),m 36 (.len (t 35)),m 37 (.bin .gtr .num (t 36) (Ci 32)),Mv 33 37]<|
  .cond (t 33) (.skip) (Rg [m 38 (Fl 22 1),m 39 (Ld 38),m 40 (.len (t 39)),m 41 (.bin .gtr .num (t 40) (Ci 64)),Mv 33 41]<|
  .cond (t 33) (.skip) (.region [m 42 (Fl 23 1),m 43 (Ld 42),m 44 (.len (t 43)),m 45 (.bin .gtr .num (t 44) (Ci 1)),Mv 33 45])))<|
  .cond (t 33) (Rg [m 2 (.mov Bf)]<|
  .ret) (Rg [m 47 (Fl 21 1),m 48 (Ld 47),m 49 (.call false 34 [(t 48),(.c (.fn 202 []))]),Mv 46 49]<|
  .cond (t 46) (Rg [m 2 (.mov Bf)]<|
  .ret) (Rg [m 51 (Fl 23 1),m 52 (Ld 51),m 53 (.call false 203 [(t 52),(.c (.fn 204 []))]),Mv 50 53]<|
  .cond (t 50) (Rg [m 2 (.mov Bf)]<|
  .ret) (.skip))))))<|
  Rg [m 54 (Fl 1 1),m 55 (Ld 54),m 56 (.call false 206 [(t 55)]),Mv 2 56]<|
  .ret
def vf160:VFun:=⟨57,1,vb160,[.tmp 2],false⟩
theorem cf160:cFun Tryz.prog rawF false Tryz.f160=some vf160:=by kernel_rfl
theorem T160 (h:HT σ args Post vb160 vf160 [dd]) (hl:args.length≤57:=by exact zB rfl):T Tryz.prog 160 args σ Post:=T.walk Tryz.func160 cf160 hl rfl h
@[reducible] def vf163:VFun:=by
  have h:=hold Tryz.prog rawF false Tryz.f163
  conv at h=>arg 1;reduce
  simp only[Int.reduceOfNat] at h
  exact h.get
@[reducible] def vb163:VC:=vf163.body
theorem cf163:cFun Tryz.prog rawF false Tryz.f163=some vf163:=by kernel_rfl
theorem T163 (h:HT σ args Post vb163 vf163 []) (hl:args.length≤9:=by exact zB rfl):T Tryz.prog 163 args σ Post:=T.walk Tryz.func163 cf163 hl rfl h
@[reducible] def vf164:VFun:=by
  have h:=hold Tryz.prog rawF false Tryz.f164
  conv at h=>arg 1;reduce
  simp only[Int.reduceOfNat] at h
  exact h.get
@[reducible] def vb164:VC:=vf164.body
theorem cf164:cFun Tryz.prog rawF false Tryz.f164=some vf164:=by kernel_rfl
theorem T164 (h:HT σ args Post vb164 vf164 [dd]) (hl:args.length≤10:=by exact zB rfl):T Tryz.prog 164 args σ Post:=T.walk Tryz.func164 cf164 hl rfl h
@[reducible] def vf213:VFun:=by
  have h:=hold Tryz.prog rawF false Tryz.f213
  conv at h=>arg 1;reduce
  simp only[Int.reduceOfNat,Int.reduceNegSucc] at h
  exact h.get
@[reducible] def vb213:VC:=vf213.body
theorem cf213:cFun Tryz.prog rawF false Tryz.f213=some vf213:=by kernel_rfl
theorem T213 (h:HT σ args Post vb213 vf213 []) (hl:args.length≤19:=by exact zB rfl):T Tryz.prog 213 args σ Post:=T.walk Tryz.func213 cf213 hl rfl h
@[reducible] def vf165:VFun:=by
  have h:=hold Tryz.prog rawF false Tryz.f165
  conv at h=>arg 1;reduce
  simp only[Int.reduceOfNat] at h
  exact h.get
@[reducible] def vb165:VC:=vf165.body
theorem cf165:cFun Tryz.prog rawF false Tryz.f165=some vf165:=by kernel_rfl
theorem T165 (h:HT σ args Post vb165 vf165 [dd,dd]) (hl:args.length≤65:=by exact zB rfl):T Tryz.prog 165 args σ Post:=T.walk Tryz.func165 cf165 hl rfl h
@[reducible] def vf166:VFun:=by
  have h:=hold Tryz.prog rawF false Tryz.f166
  conv at h=>arg 1;reduce
  simp only[Int.reduceOfNat] at h
  exact h.get
@[reducible] def vb166:VC:=vf166.body
theorem cf166:cFun Tryz.prog rawF false Tryz.f166=some vf166:=by kernel_rfl
theorem T166 (h:HT σ args Post vb166 vf166 [dd]) (hl:args.length≤10:=by exact zB rfl):T Tryz.prog 166 args σ Post:=T.walk Tryz.func166 cf166 hl rfl h
@[reducible] def vf201:VFun:=by
  have h:=hold Tryz.prog rawF false Tryz.f201
  conv at h=>arg 1;reduce
  simp only[Int.reduceOfNat] at h
  exact h.get
@[reducible] def vb201:VC:=vf201.body
theorem cf201:cFun Tryz.prog rawF false Tryz.f201=some vf201:=by kernel_rfl
theorem T201 (h:HT σ args Post vb201 vf201 [dd]) (hl:args.length≤10:=by exact zB rfl):T Tryz.prog 201 args σ Post:=T.walk Tryz.func201 cf201 hl rfl h
@[reducible] def vf202:VFun:=by
  have h:=hold Tryz.prog rawF false Tryz.f202
  conv at h=>arg 1;reduce
  exact h.get
@[reducible] def vb202:VC:=vf202.body
theorem cf202:cFun Tryz.prog rawF false Tryz.f202=some vf202:=by kernel_rfl
theorem T202 (h:HT σ args Post vb202 vf202 [dd]) (hl:args.length≤6:=by exact zB rfl):T Tryz.prog 202 args σ Post:=T.walk Tryz.func202 cf202 hl rfl h
@[reducible] def vf75:VFun:=by
  have h:=hold Tryz.prog rawF false Tryz.f75
  conv at h=>arg 1;reduce
  simp only[Int.reduceOfNat,Int.reduceNegSucc] at h
  exact h.get
@[reducible] def vb75:VC:=vf75.body
theorem cf75:cFun Tryz.prog rawF false Tryz.f75=some vf75:=by kernel_rfl
theorem T75 (h:HT σ args Post vb75 vf75 []) (hl:args.length≤19:=by exact zB rfl):T Tryz.prog 75 args σ Post:=T.walk Tryz.func75 cf75 hl rfl h
@[reducible] def vf34:VFun:=by
  have h:=hold Tryz.prog rawF false Tryz.f34
  conv at h=>arg 1;reduce
  simp only[Int.reduceOfNat] at h
  exact h.get
@[reducible] def vb34:VC:=vf34.body
theorem cf34:cFun Tryz.prog rawF false Tryz.f34=some vf34:=by kernel_rfl
theorem T34 (h:HT σ args Post vb34 vf34 []) (hl:args.length≤9:=by exact zB rfl):T Tryz.prog 34 args σ Post:=T.walk Tryz.func34 cf34 hl rfl h
@[reducible] def vf203:VFun:=by
  have h:=hold Tryz.prog rawF false Tryz.f203
  conv at h=>arg 1;reduce
  simp only[Int.reduceOfNat] at h
  exact h.get
@[reducible] def vb203:VC:=vf203.body
theorem cf203:cFun Tryz.prog rawF false Tryz.f203=some vf203:=by kernel_rfl
theorem T203 (h:HT σ args Post vb203 vf203 []) (hl:args.length≤9:=by exact zB rfl):T Tryz.prog 203 args σ Post:=T.walk Tryz.func203 cf203 hl rfl h
@[reducible] def vf204:VFun:=by
  have h:=hold Tryz.prog rawF false Tryz.f204
  conv at h=>arg 1;reduce
  exact h.get
@[reducible] def vb204:VC:=vf204.body
theorem cf204:cFun Tryz.prog rawF false Tryz.f204=some vf204:=by kernel_rfl
theorem T204 (h:HT σ args Post vb204 vf204 [dd]) (hl:args.length≤6:=by exact zB rfl):T Tryz.prog 204 args σ Post:=T.walk Tryz.func204 cf204 hl rfl h
@[reducible] def vf233:VFun:=by
  have h:=hold Tryz.prog rawF false Tryz.f233
  conv at h=>arg 1;reduce
  simp only[Int.reduceOfNat,Int.reduceNegSucc] at h
  exact h.get
@[reducible] def vb233:VC:=vf233.body
theorem cf233:cFun Tryz.prog rawF false Tryz.f233=some vf233:=by kernel_rfl
theorem T233 (h:HT σ args Post vb233 vf233 []) (hl:args.length≤19:=by exact zB rfl):T Tryz.prog 233 args σ Post:=T.walk Tryz.func233 cf233 hl rfl h
@[reducible] def vf205:VFun:=by
  have h:=hold Tryz.prog rawF false Tryz.f205
  conv at h=>arg 1;reduce
  simp only[Int.reduceOfNat] at h
  exact h.get
@[reducible] def vb205:VC:=vf205.body
theorem cf205:cFun Tryz.prog rawF false Tryz.f205=some vf205:=by kernel_rfl
theorem T205 (h:HT σ args Post vb205 vf205 [dd,dd]) (hl:args.length≤92:=by exact zB rfl):T Tryz.prog 205 args σ Post:=T.walk Tryz.func205 cf205 hl rfl h
@[reducible] def vf206:VFun:=by
  have h:=hold Tryz.prog rawF false Tryz.f206
  conv at h=>arg 1;reduce
  simp only[Int.reduceOfNat] at h
  exact h.get
@[reducible] def vb206:VC:=vf206.body
theorem cf206:cFun Tryz.prog rawF false Tryz.f206=some vf206:=by kernel_rfl
theorem T206 (h:HT σ args Post vb206 vf206 []) (hl:args.length≤11:=by exact zB rfl):T Tryz.prog 206 args σ Post:=T.walk Tryz.func206 cf206 hl rfl h
@[reducible] def vf234:VFun:=by
  have h:=hold Tryz.prog rawF false Tryz.f234
  conv at h=>arg 1;reduce
  simp only[Int.reduceOfNat] at h
  exact h.get
@[reducible] def vb234:VC:=vf234.body
theorem cf234:cFun Tryz.prog rawF false Tryz.f234=some vf234:=by kernel_rfl
theorem T234 (h:HT σ args Post vb234 vf234 [dd]) (hl:args.length≤18:=by exact zB rfl):T Tryz.prog 234 args σ Post:=T.walk Tryz.func234 cf234 hl rfl h
@[reducible] def vf256:VFun:=by
  have h:=hold Tryz.prog rawF false Tryz.f256
  conv at h=>arg 1;reduce
  simp only[Int.reduceOfNat] at h
  exact h.get
@[reducible] def vb256:VC:=vf256.body
theorem cf256:cFun Tryz.prog rawF false Tryz.f256=some vf256:=by kernel_rfl
theorem T256 (h:HT σ args Post vb256 vf256 []) (hl:args.length≤9:=by exact zB rfl):T Tryz.prog 256 args σ Post:=T.walk Tryz.func256 cf256 hl rfl h
@[reducible] def vf271:VFun:=by
  have h:=hold Tryz.prog rawF false Tryz.f271
  conv at h=>arg 1;reduce
  simp only[Int.reduceOfNat,Int.reduceNegSucc] at h
  exact h.get
@[reducible] def vb271:VC:=vf271.body
theorem cf271:cFun Tryz.prog rawF false Tryz.f271=some vf271:=by kernel_rfl
theorem T271 (h:HT σ args Post vb271 vf271 []) (hl:args.length≤19:=by exact zB rfl):T Tryz.prog 271 args σ Post:=T.walk Tryz.func271 cf271 hl rfl h
@[reducible] def vf257:VFun:=by
  have h:=hold Tryz.prog rawF false Tryz.f257
  conv at h=>arg 1;reduce
  simp only[Int.reduceOfNat] at h
  exact h.get
@[reducible] def vb257:VC:=vf257.body
theorem cf257:cFun Tryz.prog rawF false Tryz.f257=some vf257:=by kernel_rfl
theorem T257 (h:HT σ args Post vb257 vf257 []) (hl:args.length≤9:=by exact zB rfl):T Tryz.prog 257 args σ Post:=T.walk Tryz.func257 cf257 hl rfl h
@[reducible] def vf36:VFun:=by
  have h:=hold Tryz.prog rawF false Tryz.f36
  conv at h=>arg 1;reduce
  simp only[Int.reduceOfNat] at h
  exact h.get
@[reducible] def vb36:VC:=vf36.body
theorem cf36:cFun Tryz.prog rawF false Tryz.f36=some vf36:=by kernel_rfl
theorem T36 (h:HT σ args Post vb36 vf36 []) (hl:args.length≤9:=by exact zB rfl):T Tryz.prog 36 args σ Post:=T.walk Tryz.func36 cf36 hl rfl h
@[reducible] def vf76:VFun:=by
  have h:=hold Tryz.prog rawF false Tryz.f76
  conv at h=>arg 1;reduce
  simp only[Int.reduceOfNat,Int.reduceNegSucc] at h
  exact h.get
@[reducible] def vb76:VC:=vf76.body
theorem cf76:cFun Tryz.prog rawF false Tryz.f76=some vf76:=by kernel_rfl
theorem T76 (h:HT σ args Post vb76 vf76 []) (hl:args.length≤19:=by exact zB rfl):T Tryz.prog 76 args σ Post:=T.walk Tryz.func76 cf76 hl rfl h
@[reducible] def vf214:VFun:=by
  have h:=hold Tryz.prog rawF false Tryz.f214
  conv at h=>arg 1;reduce
  simp only[Int.reduceOfNat] at h
  exact h.get
@[reducible] def vb214:VC:=vf214.body
theorem cf214:cFun Tryz.prog rawF false Tryz.f214=some vf214:=by kernel_rfl
theorem T214 (h:HT σ args Post vb214 vf214 [dd,dd]) (hl:args.length≤17:=by exact zB rfl):T Tryz.prog 214 args σ Post:=T.walk Tryz.func214 cf214 hl rfl h
@[reducible] def vf215:VFun:=by
  have h:=hold Tryz.prog rawF false Tryz.f215
  conv at h=>arg 1;reduce
  simp only[Int.reduceOfNat] at h
  exact h.get
@[reducible] def vb215:VC:=vf215.body
theorem cf215:cFun Tryz.prog rawF false Tryz.f215=some vf215:=by kernel_rfl
theorem T215 (h:HT σ args Post vb215 vf215 []) (hl:args.length≤35:=by exact zB rfl):T Tryz.prog 215 args σ Post:=T.walk Tryz.func215 cf215 hl rfl h
@[reducible] def vb216:VC:=
  Rg [m 2 (.box 0 (t 0)),m 3 (.box 1 (t 1)),m 4 (.mov Bf)]<|
  Rg [m 6 (Fl 0 2),m 7 (Ld 6),m 8 (Fl 0 3),m 9 (Ld 8),m 10 (.bin .eql .num (t 7) (t 9)),Mv 11 10,Gt 12 11 (Fl 1 2),Gt 13 11 (Ld 12),Gt 14 11 (Fl 1 3),Gt 15 11 (Ld 14),Gt 16 11 (.bin .eql .num (t 13) (t 15)),m 17 (.pick (t 11) (t 16) Bf),Mv 18 17,Gt 19 18 (Fl 2 2),Gt 20 18 (Ls 17 19),Gt 21 18 (Fl 2 3),Gt 22 18 (Ls 17 21),Gt 23 18 (.eqAgg [(.i .i64),(.i .u8),(.i .u8),(.i .u8),(.i .u8),(.i .u8),(.i .u8),(.i .u8),(.i .u8),(.i .u8),(.i .u8),(.i .u8),(.i .u8),(.i .u8),(.i .u8),(.i .u8),(.i .u8)] false (t 20) (t 22)),m 24 (.pick (t 18) (t 23) Bf),Mv 5 24]<|
  Rg [Mv 25 5,Mv 26 25,Gt 27 26 (Fl 19 2),Gt 28 26 (Ld 27),Gt 29 26 (Fl 19 3),Gt 30 26 (Ld 29),Gt 31 26 (.call false 241 [(t 28),(t 30)]),m 32 (.pick (t 26) (t 31) Bf),Mv 33 32,Gt 34 33 (Fl 20 2),Gt 35 33 (Ld 34),Gt 36 33 (Fl 20 3),Gt 37 33 (Ld 36),Gt 38 33 (.call false 242 [(t 35),(t 37)]),m 39 (.pick (t 33) (t 38) Bf),Mv 4 39]<|
  .ret
def vf216:VFun:=⟨40,2,vb216,[.tmp 4],false⟩
theorem cf216:cFun Tryz.prog rawF false Tryz.f216=some vf216:=by kernel_rfl
theorem T216 (h:HT σ args Post vb216 vf216 [dd,dd]) (hl:args.length≤40:=by exact zB rfl):T Tryz.prog 216 args σ Post:=T.walk Tryz.func216 cf216 hl rfl h
@[reducible] def vb241:VC:=
  Rg [m 4 (.mov Bf)]<|
  .seq (Rg [Mv 6 0,m 7 (.len (t 6)),Mv 8 1,m 9 (.len (t 8)),m 10 (.bin .neq .num (t 7) (t 9))]<|
  .cond (t 10) (Rg [m 4 (.mov Bf)]<|
  .ret) (.skip))<|
  .seq (Rg [Mv 11 0,m 12 (.len (t 11)),m 13 (.mov (.c q))]<|
  .block 0<|.loop<|Rg [m 14 (.bin .lss .num (t 13) (t 12))]<|
  .seq (.cond (t 14) (.skip) (.exit 0))<|
  .seq (.block 1<|Rg [Mv 15 13,Mv 5 15]<|
  .seq (.dreg [(Mv 16 0,[]),(Mv 17 5,[]),(m 18 (.index 62 (t 16) (t 17)),[0,1]),(m 19 (Ls 62 18),[2]),(Mv 20 1,[]),(Mv 21 5,[]),(m 22 (.index 62 (t 20) (t 21)),[4,5]),(m 23 (Ls 62 22),[6]),(m 24 (.eqAgg [(.i .i64),(.i .u8),(.i .u8),(.i .u8),(.i .u8),(.i .u8),(.i .u8),(.i .u8),(.i .u8),(.i .i64),(.i .i64),(.i .u8),(.i .u8),(.i .u8),(.i .u8),(.i .u8),(.i .u8),(.i .u8),(.i .u8),(.i .u8),(.i .u8),(.i .u8),(.i .u8),(.i .u8),(.i .u8),(.i .u8),(.i .u8),(.i .i64),(.i .u8),(.i .u8),(.i .u8),(.i .u8),(.i .u8),(.i .u8),(.i .u8),(.i .u8),(.i .u8),(.i .u8),(.i .u8),(.i .u8),(.i .u8),(.i .u8),(.i .u8),(.i .u8),(.i .i64),(.i .u8),(.i .u8),(.i .u8),(.i .u8),(.i .u8),(.i .u8),(.i .u8),(.i .u8),(.i .u8),(.i .u8),(.i .u8),(.i .u8),(.i .u8),(.i .u8),(.i .u8),(.i .u8),.s] true (t 19) (t 23)),[3,7])] [(2,0),(2,1),(1,2),(1,3),(2,4),(2,5),(1,6),(1,7),(2,8)] [0,0,3,7,0,0,48,112,255])<|
  .cond (t 24) (Rg [m 4 (.mov Bf)]<|
  .ret) (.skip))<|
  .region [m 25 (.bin .add .num (t 13) (Ci 1)),Mv 13 25])<|
  Rg [m 4 (.mov Bt)]<|
  .ret
def vf241:VFun:=⟨26,0,vb241,[.tmp 4],false⟩
theorem cf241:cFun Tryz.prog rawF false Tryz.f241=some vf241:=by kernel_rfl
theorem T241 (h:HT σ args Post vb241 vf241 []) (hl:args.length≤26:=by exact zB rfl):T Tryz.prog 241 args σ Post:=T.walk Tryz.func241 cf241 hl rfl h
@[reducible] def vb242:VC:=
  Rg [m 4 (.mov Bf)]<|
  .seq (Rg [Mv 6 0,m 7 (.len (t 6)),Mv 8 1,m 9 (.len (t 8)),m 10 (.bin .neq .num (t 7) (t 9))]<|
  .cond (t 10) (Rg [m 4 (.mov Bf)]<|
  .ret) (.skip))<|
  .seq (Rg [Mv 11 0,m 12 (.len (t 11)),m 13 (.mov (.c q))]<|
  .block 0<|.loop<|Rg [m 14 (.bin .lss .num (t 13) (t 12))]<|
  .seq (.cond (t 14) (.skip) (.exit 0))<|
  .seq (.block 1<|Rg [Mv 15 13,Mv 5 15]<|
  .seq (.dreg [(Mv 16 0,[]),(Mv 17 5,[]),(m 18 (.index 27 (t 16) (t 17)),[0,1]),(m 19 (Ls 27 18),[2]),(Mv 20 1,[]),(Mv 21 5,[]),(m 22 (.index 27 (t 20) (t 21)),[4,5]),(m 23 (Ls 27 22),[6]),(m 24 (.eqAgg [(.i .u8),(.i .u8),(.i .u8),(.i .u8),(.i .u8),(.i .u8),(.i .u8),(.i .u8),(.i .i64),(.i .u8),(.i .u8),(.i .u8),(.i .u8),(.i .u8),(.i .u8),(.i .u8),(.i .u8),(.i .u8),(.i .u8),(.i .u8),(.i .u8),(.i .u8),(.i .u8),(.i .u8),(.i .u8),(.i .i64),(.i .i64)] true (t 19) (t 23)),[3,7])] [(2,0),(2,1),(1,2),(1,3),(2,4),(2,5),(1,6),(1,7),(2,8)] [0,0,3,7,0,0,48,112,255])<|
  .cond (t 24) (Rg [m 4 (.mov Bf)]<|
  .ret) (.skip))<|
  .region [m 25 (.bin .add .num (t 13) (Ci 1)),Mv 13 25])<|
  Rg [m 4 (.mov Bt)]<|
  .ret
def vf242:VFun:=⟨26,0,vb242,[.tmp 4],false⟩
theorem cf242:cFun Tryz.prog rawF false Tryz.f242=some vf242:=by kernel_rfl
theorem T242 (h:HT σ args Post vb242 vf242 []) (hl:args.length≤26:=by exact zB rfl):T Tryz.prog 242 args σ Post:=T.walk Tryz.func242 cf242 hl rfl h
@[reducible] def vb33:VC:=
  Rg [m 2 (.box 0 (t 0)),m 3 (.box 1 (t 1)),m 4 (.mov Bf)]<|
  Rg [m 5 (Ls 17 2),m 6 (Ls 17 3),m 7 (.eqAgg [(.i .i64),(.i .u8),(.i .u8),(.i .u8),(.i .u8),(.i .u8),(.i .u8),(.i .u8),(.i .u8),(.i .u8),(.i .u8),(.i .u8),(.i .u8),(.i .u8),(.i .u8),(.i .u8),(.i .u8)] false (t 5) (t 6)),Mv 8 7,Gt 9 8 (Ls 17 2),Gt 10 8 (.build [q,o,o,o,o,o,o,o,o,o,o,o,o,o,o,o,o] []),Gt 11 8 (.eqAgg [(.i .i64),(.i .u8),(.i .u8),(.i .u8),(.i .u8),(.i .u8),(.i .u8),(.i .u8),(.i .u8),(.i .u8),(.i .u8),(.i .u8),(.i .u8),(.i .u8),(.i .u8),(.i .u8),(.i .u8)] true (t 9) (t 10)),m 12 (.pick (t 8) (t 11) Bf),Mv 4 12]<|
  .ret
def vf33:VFun:=⟨13,2,vb33,[.tmp 4],false⟩
theorem cf33:cFun Tryz.prog rawF false Tryz.f33=some vf33:=by kernel_rfl
theorem T33 (h:HT σ args Post vb33 vf33 [dd,dd]) (hl:args.length≤13:=by exact zB rfl):T Tryz.prog 33 args σ Post:=T.walk Tryz.func33 cf33 hl rfl h
@[reducible] def vf71:VFun:=by
  have h:=hold Tryz.prog rawF false Tryz.f71
  conv at h=>arg 1;reduce
  simp only[Int.reduceOfNat] at h
  exact h.get
@[reducible] def vb71:VC:=vf71.body
theorem cf71:cFun Tryz.prog rawF false Tryz.f71=some vf71:=by kernel_rfl
theorem T71 (h:HT σ args Post vb71 vf71 [dd]) (hl:args.length≤10:=by exact zB rfl):T Tryz.prog 71 args σ Post:=T.walk Tryz.func71 cf71 hl rfl h
@[reducible] def vf8:VFun:=by
  have h:=hold Tryz.prog rawF false Tryz.f8
  conv at h=>arg 1;reduce
  simp only[Int.reduceOfNat] at h
  exact h.get
@[reducible] def vb8:VC:=vf8.body
theorem cf8:cFun Tryz.prog rawF false Tryz.f8=some vf8:=by kernel_rfl
theorem T8 (h:HT σ args Post vb8 vf8 [dd]) (hl:args.length≤13:=by exact zB rfl):T Tryz.prog 8 args σ Post:=T.walk Tryz.func8 cf8 hl rfl h
@[reducible] def vf31:VFun:=by
  have h:=hold Tryz.prog rawF false Tryz.f31
  conv at h=>arg 1;reduce
  simp only[Int.reduceOfNat] at h
  exact h.get
@[reducible] def vb31:VC:=vf31.body
theorem cf31:cFun Tryz.prog rawF false Tryz.f31=some vf31:=by kernel_rfl
theorem T31 (h:HT σ args Post vb31 vf31 [dd]) (hl:args.length≤57:=by exact zB rfl):T Tryz.prog 31 args σ Post:=T.walk Tryz.func31 cf31 hl rfl h
end Go.Proofs.YtdpeaefgbmkegaaGreatDoor
