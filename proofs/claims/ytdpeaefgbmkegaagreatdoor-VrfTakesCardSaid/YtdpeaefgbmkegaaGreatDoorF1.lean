/- Functions of the program, in the small language. -/
import Derived.Test.YtdpeaefgbmkegaaGreatDoorVZ
namespace Go.Proofs.YtdpeaefgbmkegaaGreatDoor
open Go Go.V D
variable {args:List PV} {σ:VHeap} {Post:KP}
set_option maxRecDepth 100000
set_option maxHeartbeats 8000000
@[reducible] def vf259:VFun:=by
  have h:=hold Tryz.prog rawF false Tryz.f259
  conv at h=>arg 1;reduce
  simp only[Int.reduceOfNat] at h
  exact h.get
@[reducible] def vb259:VC:=vf259.body
theorem cf259:cFun Tryz.prog rawF false Tryz.f259=some vf259:=by kernel_rfl
theorem T259 (h:HT σ args Post vb259 vf259 [dd,dd,dd,dd,dd,dd]) (hl:args.length≤38:=by exact zB rfl):T Tryz.prog 259 args σ Post:=T.walk Tryz.func259 cf259 hl rfl h
@[reducible] def vf261:VFun:=by
  have h:=hold Tryz.prog rawF false Tryz.f261
  conv at h=>arg 1;reduce
  simp only[Int.reduceOfNat] at h
  exact h.get
@[reducible] def vb261:VC:=vf261.body
theorem cf261:cFun Tryz.prog rawF false Tryz.f261=some vf261:=by kernel_rfl
theorem T261 (h:HT σ args Post vb261 vf261 [dd,dd]) (hl:args.length≤85:=by exact zB rfl):T Tryz.prog 261 args σ Post:=T.walk Tryz.func261 cf261 hl rfl h
@[reducible] def vf272:VFun:=by
  have h:=hold Tryz.prog rawF false Tryz.f272
  conv at h=>arg 1;reduce
  simp only[Int.reduceOfNat] at h
  exact h.get
@[reducible] def vb272:VC:=vf272.body
theorem cf272:cFun Tryz.prog rawF false Tryz.f272=some vf272:=by kernel_rfl
theorem T272 (h:HT σ args Post vb272 vf272 [dd]) (hl:args.length≤17:=by exact zB rfl):T Tryz.prog 272 args σ Post:=T.walk Tryz.func272 cf272 hl rfl h
@[reducible] def vf238:VFun:=by
  have h:=hold Tryz.prog rawF false Tryz.f238
  conv at h=>arg 1;reduce
  simp only[Int.reduceOfNat] at h
  exact h.get
@[reducible] def vb238:VC:=vf238.body
theorem cf238:cFun Tryz.prog rawF false Tryz.f238=some vf238:=by kernel_rfl
theorem T238 (h:HT σ args Post vb238 vf238 [dd,dd,dd,dd]) (hl:args.length≤28:=by exact zB rfl):T Tryz.prog 238 args σ Post:=T.walk Tryz.func238 cf238 hl rfl h
@[reducible] def vf240:VFun:=by
  have h:=hold Tryz.prog rawF false Tryz.f240
  conv at h=>arg 1;reduce
  simp only[Int.reduceOfNat] at h
  exact h.get
@[reducible] def vb240:VC:=vf240.body
theorem cf240:cFun Tryz.prog rawF false Tryz.f240=some vf240:=by kernel_rfl
theorem T240 (h:HT σ args Post vb240 vf240 [dd,dd,dd,dd,dd]) (hl:args.length≤37:=by exact zB rfl):T Tryz.prog 240 args σ Post:=T.walk Tryz.func240 cf240 hl rfl h
@[reducible] def vf273:VFun:=by
  have h:=hold Tryz.prog rawF false Tryz.f273
  conv at h=>arg 1;reduce
  simp only[Int.reduceOfNat] at h
  exact h.get
@[reducible] def vb273:VC:=vf273.body
theorem cf273:cFun Tryz.prog rawF false Tryz.f273=some vf273:=by kernel_rfl
theorem T273 (h:HT σ args Post vb273 vf273 [dd]) (hl:args.length≤22:=by exact zB rfl):T Tryz.prog 273 args σ Post:=T.walk Tryz.func273 cf273 hl rfl h
@[reducible] def vf274:VFun:=by
  have h:=hold Tryz.prog rawF false Tryz.f274
  conv at h=>arg 1;reduce
  simp only[Int.reduceOfNat] at h
  exact h.get
@[reducible] def vb274:VC:=vf274.body
theorem cf274:cFun Tryz.prog rawF false Tryz.f274=some vf274:=by kernel_rfl
theorem T274 (h:HT σ args Post vb274 vf274 []) (hl:args.length≤6:=by exact zB rfl):T Tryz.prog 274 args σ Post:=T.walk Tryz.func274 cf274 hl rfl h
@[reducible] def vf52:VFun:=by
  have h:=hold Tryz.prog rawF false Tryz.f52
  conv at h=>arg 1;reduce
  exact h.get
@[reducible] def vb52:VC:=vf52.body
theorem cf52:cFun Tryz.prog rawF false Tryz.f52=some vf52:=by kernel_rfl
theorem T52 (h:vrun Tryz.prog σ.length vb52 (argsEnv args) (σ++[dd]) (vend vf52 Post)) (hl:args.length≤8:=by exact zB rfl):T Tryz.prog 52 args σ Post:=T.walkR Tryz.func52 cf52 hl rfl h
@[reducible] def vf54:VFun:=by
  have h:=hold Tryz.prog rawF false Tryz.f54
  conv at h=>arg 1;reduce
  simp only[Int.reduceOfNat,Int.reduceNegSucc] at h
  exact h.get
@[reducible] def vb54:VC:=vf54.body
theorem cf54:cFun Tryz.prog rawF false Tryz.f54=some vf54:=by kernel_rfl
theorem T54 (h:HT σ args Post vb54 vf54 []) (hl:args.length≤31:=by exact zB rfl):T Tryz.prog 54 args σ Post:=T.walk Tryz.func54 cf54 hl rfl h
@[reducible] def vf275:VFun:=by
  have h:=hold Tryz.prog rawF false Tryz.f275
  conv at h=>arg 1;reduce
  exact h.get
@[reducible] def vb275:VC:=vf275.body
theorem cf275:cFun Tryz.prog rawF false Tryz.f275=some vf275:=by kernel_rfl
theorem T275 (h:vrun Tryz.prog σ.length vb275 (argsEnv args) (σ++[dd]) (vend vf275 Post)) (hl:args.length≤18:=by exact zB rfl):T Tryz.prog 275 args σ Post:=T.walkR Tryz.func275 cf275 hl rfl h
@[reducible] def vf276:VFun:=by
  have h:=hold Tryz.prog rawF false Tryz.f276
  conv at h=>arg 1;reduce
  exact h.get
@[reducible] def vb276:VC:=vf276.body
theorem cf276:cFun Tryz.prog rawF false Tryz.f276=some vf276:=by kernel_rfl
theorem T276 (h:HT σ args Post vb276 vf276 []) (hl:args.length≤7:=by exact zB rfl):T Tryz.prog 276 args σ Post:=T.walk Tryz.func276 cf276 hl rfl h
@[reducible] def vf279:VFun:=by
  have h:=hold Tryz.prog rawF false Tryz.f279
  conv at h=>arg 1;reduce
  simp only[Int.reduceOfNat] at h
  exact h.get
@[reducible] def vb279:VC:=vf279.body
theorem cf279:cFun Tryz.prog rawF false Tryz.f279=some vf279:=by kernel_rfl
theorem T279 (h:HT σ args Post vb279 vf279 []) (hl:args.length≤22:=by exact zB rfl):T Tryz.prog 279 args σ Post:=T.walk Tryz.func279 cf279 hl rfl h
@[reducible] def vf123:VFun:=by
  have h:=hold Tryz.prog rawF false Tryz.f123
  conv at h=>arg 1;reduce
  exact h.get
@[reducible] def vb123:VC:=vf123.body
theorem cf123:cFun Tryz.prog rawF false Tryz.f123=some vf123:=by kernel_rfl
theorem T123 (h:HT σ args Post vb123 vf123 [dd]) (hl:args.length≤11:=by exact zB rfl):T Tryz.prog 123 args σ Post:=T.walk Tryz.func123 cf123 hl rfl h
@[reducible] def vf128:VFun:=by
  have h:=hold Tryz.prog rawF false Tryz.f128
  conv at h=>arg 1;reduce
  simp only[Int.reduceOfNat] at h
  exact h.get
@[reducible] def vb128:VC:=vf128.body
theorem cf128:cFun Tryz.prog rawF false Tryz.f128=some vf128:=by kernel_rfl
theorem T128 (h:HT σ args Post vb128 vf128 []) (hl:args.length≤12:=by exact zB rfl):T Tryz.prog 128 args σ Post:=T.walk Tryz.func128 cf128 hl rfl h
@[reducible] def vf258:VFun:=by
  have h:=hold Tryz.prog rawF false Tryz.f258
  conv at h=>arg 1;reduce
  exact h.get
@[reducible] def vb258:VC:=vf258.body
theorem cf258:cFun Tryz.prog rawF false Tryz.f258=some vf258:=by kernel_rfl
theorem T258 (h:HT σ args Post vb258 vf258 []) (hl:args.length≤10:=by exact zB rfl):T Tryz.prog 258 args σ Post:=T.walk Tryz.func258 cf258 hl rfl h
@[reducible] def vf282:VFun:=by
  have h:=hold Tryz.prog rawF false Tryz.f282
  conv at h=>arg 1;reduce
  simp only[u8n,UInt8.reduceOfNat] at h
  exact h.get
@[reducible] def vb282:VC:=vf282.body
theorem cf282:cFun Tryz.prog rawF false Tryz.f282=some vf282:=by kernel_rfl
theorem T282 (h:HT σ args Post vb282 vf282 [dd]) (hl:args.length≤14:=by exact zB rfl):T Tryz.prog 282 args σ Post:=T.walk Tryz.func282 cf282 hl rfl h
@[reducible] def vf66:VFun:=by
  have h:=hold Tryz.prog rawF false Tryz.f66
  conv at h=>arg 1;reduce
  simp only[Int.reduceOfNat] at h
  exact h.get
@[reducible] def vb66:VC:=vf66.body
theorem cf66:cFun Tryz.prog rawF false Tryz.f66=some vf66:=by kernel_rfl
theorem T66 (h:HT σ args Post vb66 vf66 []) (hl:args.length≤18:=by exact zB rfl):T Tryz.prog 66 args σ Post:=T.walk Tryz.func66 cf66 hl rfl h
@[reducible] def vf68:VFun:=by
  have h:=hold Tryz.prog rawF false Tryz.f68
  conv at h=>arg 1;reduce
  simp only[Int.reduceOfNat] at h
  exact h.get
@[reducible] def vb68:VC:=vf68.body
theorem cf68:cFun Tryz.prog rawF false Tryz.f68=some vf68:=by kernel_rfl
theorem T68 (h:HT σ args Post vb68 vf68 [dd,dd,dd]) (hl:args.length≤17:=by exact zB rfl):T Tryz.prog 68 args σ Post:=T.walk Tryz.func68 cf68 hl rfl h
@[reducible] def vf67:VFun:=by
  have h:=hold Tryz.prog rawF false Tryz.f67
  conv at h=>arg 1;reduce
  simp only[Int.reduceOfNat,Int.reduceNegSucc] at h
  exact h.get
@[reducible] def vb67:VC:=vf67.body
theorem cf67:cFun Tryz.prog rawF false Tryz.f67=some vf67:=by kernel_rfl
theorem T67 (h:HT σ args Post vb67 vf67 []) (hl:args.length≤20:=by exact zB rfl):T Tryz.prog 67 args σ Post:=T.walk Tryz.func67 cf67 hl rfl h
@[reducible] def vf147:VFun:=by
  have h:=hold Tryz.prog rawF false Tryz.f147
  conv at h=>arg 1;reduce
  simp only[Int.reduceOfNat] at h
  exact h.get
@[reducible] def vb147:VC:=vf147.body
theorem cf147:cFun Tryz.prog rawF false Tryz.f147=some vf147:=by kernel_rfl
theorem T147 (h:HT σ args Post vb147 vf147 [dd,dd,dd]) (hl:args.length≤44:=by exact zB rfl):T Tryz.prog 147 args σ Post:=T.walk Tryz.func147 cf147 hl rfl h
@[reducible] def vf53:VFun:=by
  have h:=hold Tryz.prog rawF false Tryz.f53
  conv at h=>arg 1;reduce
  exact h.get
@[reducible] def vb53:VC:=vf53.body
theorem cf53:cFun Tryz.prog rawF false Tryz.f53=some vf53:=by kernel_rfl
theorem T53 (h:HT σ args Post vb53 vf53 [dd,dd]) (hl:args.length≤11:=by exact zB rfl):T Tryz.prog 53 args σ Post:=T.walk Tryz.func53 cf53 hl rfl h
@[reducible] def vf113:VFun:=by
  have h:=hold Tryz.prog rawF false Tryz.f113
  conv at h=>arg 1;reduce
  simp only[Int.reduceOfNat] at h
  exact h.get
@[reducible] def vb113:VC:=vf113.body
theorem cf113:cFun Tryz.prog rawF false Tryz.f113=some vf113:=by kernel_rfl
theorem T113 (h:HT σ args Post vb113 vf113 []) (hl:args.length≤8:=by exact zB rfl):T Tryz.prog 113 args σ Post:=T.walk Tryz.func113 cf113 hl rfl h
@[reducible] def vf82:VFun:=by
  have h:=hold Tryz.prog rawF false Tryz.f82
  conv at h=>arg 1;reduce
  simp only[Int.reduceOfNat,u8n,UInt8.reduceOfNat] at h
  exact h.get
@[reducible] def vb82:VC:=vf82.body
theorem cf82:cFun Tryz.prog rawF false Tryz.f82=some vf82:=by kernel_rfl
@[reducible] def vf84:VFun:=by
  have h:=hold Tryz.prog rawF false Tryz.f84
  conv at h=>arg 1;reduce
  simp only[Int.reduceOfNat,u8n,UInt8.reduceOfNat] at h
  exact h.get
@[reducible] def vb84:VC:=vf84.body
theorem cf84:cFun Tryz.prog rawF false Tryz.f84=some vf84:=by kernel_rfl
theorem T84 (h:HT σ args Post vb84 vf84 [dd,dd,dd,dd]) (hl:args.length≤33:=by exact zB rfl):T Tryz.prog 84 args σ Post:=T.walk Tryz.func84 cf84 hl rfl h
@[reducible] def vf103:VFun:=by
  have h:=hold Tryz.prog rawF false Tryz.f103
  conv at h=>arg 1;reduce
  simp only[Int.reduceOfNat] at h
  exact h.get
@[reducible] def vb103:VC:=vf103.body
theorem cf103:cFun Tryz.prog rawF false Tryz.f103=some vf103:=by kernel_rfl
theorem T103 (h:HT σ args Post vb103 vf103 [dd,dd,dd]) (hl:args.length≤8:=by exact zB rfl):T Tryz.prog 103 args σ Post:=T.walk Tryz.func103 cf103 hl rfl h
@[reducible] def vf104:VFun:=by
  have h:=hold Tryz.prog rawF false Tryz.f104
  conv at h=>arg 1;reduce
  simp only[Int.reduceOfNat] at h
  exact h.get
@[reducible] def vb104:VC:=vf104.body
theorem cf104:cFun Tryz.prog rawF false Tryz.f104=some vf104:=by kernel_rfl
theorem T104 (h:HT σ args Post vb104 vf104 [dd]) (hl:args.length≤42:=by exact zB rfl):T Tryz.prog 104 args σ Post:=T.walk Tryz.func104 cf104 hl rfl h
@[reducible] def vb155:VC:=
  Rg [m 1 (.box 0 (t 0)),m 2 (.mov Bf)]<|
  Rg [m 6 (Fl 0 1),m 7 (Ls 17 6),m 8 (Fl 17 1),m 9 (Ld 8),m 10 (.call false 194 [(t 7),(t 9)]),Mv 5 10,m 11 (.extract 0 (t 5)),m 12 (.extract 1 (t 5)),m 3 (.alloc 1 [q,o,o,o,o,o,o,o,o,o,o,o,o,o,o,o,o,q]),e (.store 18 (t 3) (t 11)),Mv 4 12]<|
  Rg [Mv 13 4,m 14 (.bin .eql .num (t 13) (.c q)),Mv 15 14,Gt 16 15 (Ls 18 3),Gt 17 15 (Ls 18 1),Gt 18 15 (.eqAgg [(.i .i64),(.i .u8),(.i .u8),(.i .u8),(.i .u8),(.i .u8),(.i .u8),(.i .u8),(.i .u8),(.i .u8),(.i .u8),(.i .u8),(.i .u8),(.i .u8),(.i .u8),(.i .u8),(.i .u8),(.i .i64)] false (t 16) (t 17)),m 19 (.pick (t 15) (t 18) Bf),Mv 2 19]<|
  .ret
def vf155:VFun:=⟨20,2,vb155,[.tmp 2],false⟩
theorem cf155:cFun Tryz.prog rawF false Tryz.f155=some vf155:=by kernel_rfl
theorem T155 (h:HT σ args Post vb155 vf155 [dd,dd]) (hl:args.length≤20:=by exact zB rfl):T Tryz.prog 155 args σ Post:=T.walk Tryz.func155 cf155 hl rfl h
@[reducible] def vf112:VFun:=by
  have h:=hold Tryz.prog rawF false Tryz.f112
  conv at h=>arg 1;reduce
  exact h.get
@[reducible] def vb112:VC:=vf112.body
theorem cf112:cFun Tryz.prog rawF false Tryz.f112=some vf112:=by kernel_rfl
theorem T112 (h:HT σ args Post vb112 vf112 []) (hl:args.length≤6:=by exact zB rfl):T Tryz.prog 112 args σ Post:=T.walk Tryz.func112 cf112 hl rfl h
@[reducible] def vf50:VFun:=by
  have h:=hold Tryz.prog rawF false Tryz.f50
  conv at h=>arg 1;reduce
  simp only[Int.reduceOfNat,u8n,UInt8.reduceOfNat] at h
  exact h.get
@[reducible] def vb50:VC:=vf50.body
theorem cf50:cFun Tryz.prog rawF false Tryz.f50=some vf50:=by kernel_rfl
theorem T50 (h:HT σ args Post vb50 vf50 [dd]) (hl:args.length≤16:=by exact zB rfl):T Tryz.prog 50 args σ Post:=T.walk Tryz.func50 cf50 hl rfl h
@[reducible] def vf90:VFun:=by
  have h:=hold Tryz.prog rawF false Tryz.f90
  conv at h=>arg 1;reduce
  simp only[Int.reduceOfNat] at h
  exact h.get
@[reducible] def vb90:VC:=vf90.body
theorem cf90:cFun Tryz.prog rawF false Tryz.f90=some vf90:=by kernel_rfl
theorem T90 (h:HT σ args Post vb90 vf90 [dd]) (hl:args.length≤25:=by exact zB rfl):T Tryz.prog 90 args σ Post:=T.walk Tryz.func90 cf90 hl rfl h
@[reducible] def vf157:VFun:=by
  have h:=hold Tryz.prog rawF false Tryz.f157
  conv at h=>arg 1;reduce
  simp only[Int.reduceOfNat] at h
  exact h.get
@[reducible] def vb157:VC:=vf157.body
theorem cf157:cFun Tryz.prog rawF false Tryz.f157=some vf157:=by kernel_rfl
theorem T157 (h:HT σ args Post vb157 vf157 []) (hl:args.length≤8:=by exact zB rfl):T Tryz.prog 157 args σ Post:=T.walk Tryz.func157 cf157 hl rfl h
@[reducible] def vf87:VFun:=by
  have h:=hold Tryz.prog rawF false Tryz.f87
  conv at h=>arg 1;reduce
  simp only[Int.reduceOfNat] at h
  exact h.get
@[reducible] def vb87:VC:=vf87.body
theorem cf87:cFun Tryz.prog rawF false Tryz.f87=some vf87:=by kernel_rfl
theorem T87 (h:HT σ args Post vb87 vf87 [dd]) (hl:args.length≤30:=by exact zB rfl):T Tryz.prog 87 args σ Post:=T.walk Tryz.func87 cf87 hl rfl h
@[reducible] def vf121:VFun:=by
  have h:=hold Tryz.prog rawF false Tryz.f121
  conv at h=>arg 1;reduce
  simp only[Int.reduceOfNat] at h
  exact h.get
@[reducible] def vb121:VC:=vf121.body
theorem cf121:cFun Tryz.prog rawF false Tryz.f121=some vf121:=by kernel_rfl
theorem T121 (h:HT σ args Post vb121 vf121 [dd,dd]) (hl:args.length≤20:=by exact zB rfl):T Tryz.prog 121 args σ Post:=T.walk Tryz.func121 cf121 hl rfl h
@[reducible] def vf125:VFun:=by
  have h:=hold Tryz.prog rawF false Tryz.f125
  conv at h=>arg 1;reduce
  simp only[Int.reduceOfNat,u8n,UInt8.reduceOfNat] at h
  exact h.get
@[reducible] def vb125:VC:=vf125.body
theorem cf125:cFun Tryz.prog rawF false Tryz.f125=some vf125:=by kernel_rfl
theorem T125 (h:HT σ args Post vb125 vf125 [dd,dd]) (hl:args.length≤27:=by exact zB rfl):T Tryz.prog 125 args σ Post:=T.walk Tryz.func125 cf125 hl rfl h
@[reducible] def vf194:VFun:=by
  have h:=hold Tryz.prog rawF false Tryz.f194
  conv at h=>arg 1;reduce
  simp only[Int.reduceOfNat] at h
  exact h.get
@[reducible] def vb194:VC:=vf194.body
theorem cf194:cFun Tryz.prog rawF false Tryz.f194=some vf194:=by kernel_rfl
theorem T194 (h:HT σ args Post vb194 vf194 [dd,dd]) (hl:args.length≤31:=by exact zB rfl):T Tryz.prog 194 args σ Post:=T.walk Tryz.func194 cf194 hl rfl h
@[reducible] def vf100:VFun:=by
  have h:=hold Tryz.prog rawF false Tryz.f100
  conv at h=>arg 1;reduce
  simp only[Int.reduceOfNat] at h
  exact h.get
@[reducible] def vb100:VC:=vf100.body
theorem cf100:cFun Tryz.prog rawF false Tryz.f100=some vf100:=by kernel_rfl
theorem T100 (h:HT σ args Post vb100 vf100 [dd,dd]) (hl:args.length≤42:=by exact zB rfl):T Tryz.prog 100 args σ Post:=T.walk Tryz.func100 cf100 hl rfl h
@[reducible] def vf127:VFun:=by
  have h:=hold Tryz.prog rawF false Tryz.f127
  conv at h=>arg 1;reduce
  simp only[Int.reduceOfNat] at h
  exact h.get
@[reducible] def vb127:VC:=vf127.body
theorem cf127:cFun Tryz.prog rawF false Tryz.f127=some vf127:=by kernel_rfl
theorem T127 (h:HT σ args Post vb127 vf127 []) (hl:args.length≤10:=by exact zB rfl):T Tryz.prog 127 args σ Post:=T.walk Tryz.func127 cf127 hl rfl h
@[reducible] def vf174:VFun:=by
  have h:=hold Tryz.prog rawF false Tryz.f174
  conv at h=>arg 1;reduce
  simp only[Int.reduceOfNat] at h
  exact h.get
@[reducible] def vb174:VC:=vf174.body
theorem cf174:cFun Tryz.prog rawF false Tryz.f174=some vf174:=by kernel_rfl
theorem T174 (h:HT σ args Post vb174 vf174 [dd,dd]) (hl:args.length≤26:=by exact zB rfl):T Tryz.prog 174 args σ Post:=T.walk Tryz.func174 cf174 hl rfl h
@[reducible] def vf175:VFun:=by
  have h:=hold Tryz.prog rawF false Tryz.f175
  conv at h=>arg 1;reduce
  simp only[Int.reduceOfNat] at h
  exact h.get
@[reducible] def vb175:VC:=vf175.body
theorem cf175:cFun Tryz.prog rawF false Tryz.f175=some vf175:=by kernel_rfl
theorem T175 (h:HT σ args Post vb175 vf175 [dd]) (hl:args.length≤31:=by exact zB rfl):T Tryz.prog 175 args σ Post:=T.walk Tryz.func175 cf175 hl rfl h
@[reducible] def vf176:VFun:=by
  have h:=hold Tryz.prog rawF false Tryz.f176
  conv at h=>arg 1;reduce
  simp only[Int.reduceOfNat,u8n,UInt8.reduceOfNat] at h
  exact h.get
@[reducible] def vb176:VC:=vf176.body
theorem cf176:cFun Tryz.prog rawF false Tryz.f176=some vf176:=by kernel_rfl
theorem T176 (h:HT σ args Post vb176 vf176 [dd,dd,dd]) (hl:args.length≤20:=by exact zB rfl):T Tryz.prog 176 args σ Post:=T.walk Tryz.func176 cf176 hl rfl h
@[reducible] def vf156:VFun:=by
  have h:=hold Tryz.prog rawF false Tryz.f156
  conv at h=>arg 1;reduce
  simp only[Int.reduceOfNat] at h
  exact h.get
@[reducible] def vb156:VC:=vf156.body
theorem cf156:cFun Tryz.prog rawF false Tryz.f156=some vf156:=by kernel_rfl
theorem T156 (h:HT σ args Post vb156 vf156 [dd,dd]) (hl:args.length≤23:=by exact zB rfl):T Tryz.prog 156 args σ Post:=T.walk Tryz.func156 cf156 hl rfl h
@[reducible] def vf140:VFun:=by
  have h:=hold Tryz.prog rawF false Tryz.f140
  conv at h=>arg 1;reduce
  simp only[Int.reduceOfNat] at h
  exact h.get
@[reducible] def vb140:VC:=vf140.body
theorem cf140:cFun Tryz.prog rawF false Tryz.f140=some vf140:=by kernel_rfl
theorem T140 (h:HT σ args Post vb140 vf140 [dd]) (hl:args.length≤21:=by exact zB rfl):T Tryz.prog 140 args σ Post:=T.walk Tryz.func140 cf140 hl rfl h
@[reducible] def vf141:VFun:=by
  have h:=hold Tryz.prog rawF false Tryz.f141
  conv at h=>arg 1;reduce
  simp only[Int.reduceOfNat] at h
  exact h.get
@[reducible] def vb141:VC:=vf141.body
theorem cf141:cFun Tryz.prog rawF false Tryz.f141=some vf141:=by kernel_rfl
theorem T141 (h:HT σ args Post vb141 vf141 [dd]) (hl:args.length≤24:=by exact zB rfl):T Tryz.prog 141 args σ Post:=T.walk Tryz.func141 cf141 hl rfl h
@[reducible] def vf195:VFun:=by
  have h:=hold Tryz.prog rawF false Tryz.f195
  conv at h=>arg 1;reduce
  simp only[Int.reduceOfNat] at h
  exact h.get
@[reducible] def vb195:VC:=vf195.body
theorem cf195:cFun Tryz.prog rawF false Tryz.f195=some vf195:=by kernel_rfl
theorem T195 (h:HT σ args Post vb195 vf195 []) (hl:args.length≤12:=by exact zB rfl):T Tryz.prog 195 args σ Post:=T.walk Tryz.func195 cf195 hl rfl h
@[reducible] def vf29:VFun:=by
  have h:=hold Tryz.prog rawF false Tryz.f29
  conv at h=>arg 1;reduce
  simp only[Int.reduceOfNat] at h
  exact h.get
@[reducible] def vb29:VC:=vf29.body
theorem cf29:cFun Tryz.prog rawF false Tryz.f29=some vf29:=by kernel_rfl
end Go.Proofs.YtdpeaefgbmkegaaGreatDoor
