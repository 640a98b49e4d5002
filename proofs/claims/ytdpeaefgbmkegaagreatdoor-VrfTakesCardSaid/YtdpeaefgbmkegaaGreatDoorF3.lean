/- Functions of the program, in the small language. -/
import Derived.Test.YtdpeaefgbmkegaaGreatDoorF1
namespace Go.Proofs.YtdpeaefgbmkegaaGreatDoor
open Go Go.V D
variable {args:List PV} {σ:VHeap} {Post:KP}
set_option maxRecDepth 100000
set_option maxHeartbeats 8000000
@[reducible] def vf169:VFun:=by
  have h:=hold Tryz.prog rawF false Tryz.f169
  conv at h=>arg 1;reduce
  simp only[Int.reduceOfNat] at h
  exact h.get
@[reducible] def vb169:VC:=vf169.body
theorem cf169:cFun Tryz.prog rawF false Tryz.f169=some vf169:=by kernel_rfl
theorem T169 (h:HT σ args Post vb169 vf169 [dd,dd]) (hl:args.length≤23:=by exact zB rfl):T Tryz.prog 169 args σ Post:=T.walk Tryz.func169 cf169 hl rfl h
@[reducible] def vf217:VFun:=by
  have h:=hold Tryz.prog rawF false Tryz.f217
  conv at h=>arg 1;reduce
  simp only[Int.reduceOfNat] at h
  exact h.get
@[reducible] def vb217:VC:=vf217.body
theorem cf217:cFun Tryz.prog rawF false Tryz.f217=some vf217:=by kernel_rfl
theorem T217 (h:HT σ args Post vb217 vf217 [dd,dd,dd,dd]) (hl:args.length≤39:=by exact zB rfl):T Tryz.prog 217 args σ Post:=T.walk Tryz.func217 cf217 hl rfl h
@[reducible] def vf218:VFun:=by
  have h:=hold Tryz.prog rawF false Tryz.f218
  conv at h=>arg 1;reduce
  simp only[Int.reduceOfNat] at h
  exact h.get
@[reducible] def vb218:VC:=vf218.body
theorem cf218:cFun Tryz.prog rawF false Tryz.f218=some vf218:=by kernel_rfl
theorem T218 (h:HT σ args Post vb218 vf218 [dd]) (hl:args.length≤10:=by exact zB rfl):T Tryz.prog 218 args σ Post:=T.walk Tryz.func218 cf218 hl rfl h
@[reducible] def vf219:VFun:=by
  have h:=hold Tryz.prog rawF false Tryz.f219
  conv at h=>arg 1;reduce
  simp only[Int.reduceOfNat] at h
  exact h.get
@[reducible] def vb219:VC:=vf219.body
theorem cf219:cFun Tryz.prog rawF false Tryz.f219=some vf219:=by kernel_rfl
theorem T219 (h:HT σ args Post vb219 vf219 [dd,dd]) (hl:args.length≤48:=by exact zB rfl):T Tryz.prog 219 args σ Post:=T.walk Tryz.func219 cf219 hl rfl h
@[reducible] def vf170:VFun:=by
  have h:=hold Tryz.prog rawF false Tryz.f170
  conv at h=>arg 1;reduce
  simp only[Int.reduceOfNat] at h
  exact h.get
@[reducible] def vb170:VC:=vf170.body
theorem cf170:cFun Tryz.prog rawF false Tryz.f170=some vf170:=by kernel_rfl
theorem T170 (h:HT σ args Post vb170 vf170 [dd,dd,dd,dd]) (hl:args.length≤11:=by exact zB rfl):T Tryz.prog 170 args σ Post:=T.walk Tryz.func170 cf170 hl rfl h
@[reducible] def vf220:VFun:=by
  have h:=hold Tryz.prog rawF false Tryz.f220
  conv at h=>arg 1;reduce
  simp only[Int.reduceOfNat] at h
  exact h.get
@[reducible] def vb220:VC:=vf220.body
theorem cf220:cFun Tryz.prog rawF false Tryz.f220=some vf220:=by kernel_rfl
theorem T220 (h:HT σ args Post vb220 vf220 [dd,dd,dd,dd]) (hl:args.length≤45:=by exact zB rfl):T Tryz.prog 220 args σ Post:=T.walk Tryz.func220 cf220 hl rfl h
@[reducible] def vb168:VC:=
  Rg [m 1 (.box 0 (t 0)),m 2 (.mov Bf)]<|
  Rg [m 8 (Fl 0 1),m 9 (Ld 8),m 10 (.call false 169 [(t 9)]),Mv 7 10,m 11 (.extract 0 (t 7)),m 12 (.extract 1 (t 7)),m 3 (.alloc 1 [(.bool false),(.bool false),(.bool false),(.bool false)]),e (.store 4 (t 3) (t 11)),Mv 4 12]<|
  .seq (.block 0<|.seq (Rg [Mv 14 4,m 15 (.un .not (t 14)),Mv 13 15]<|
  .cond (t 13) (.skip) (.seq (.dreg [(m 16 (Ls 62 1),[]),(m 17 (Ls 4 3),[]),(m 18 (.call false 217 [(t 16),(t 17)]),[0,1]),(m 19 (Ls 62 1),[]),(m 20 (.eqAgg [(.i .i64),(.i .u8),(.i .u8),(.i .u8),(.i .u8),(.i .u8),(.i .u8),(.i .u8),(.i .u8),(.i .i64),(.i .i64),(.i .u8),(.i .u8),(.i .u8),(.i .u8),(.i .u8),(.i .u8),(.i .u8),(.i .u8),(.i .u8),(.i .u8),(.i .u8),(.i .u8),(.i .u8),(.i .u8),(.i .u8),(.i .u8),(.i .i64),(.i .u8),(.i .u8),(.i .u8),(.i .u8),(.i .u8),(.i .u8),(.i .u8),(.i .u8),(.i .u8),(.i .u8),(.i .u8),(.i .u8),(.i .u8),(.i .u8),(.i .u8),(.i .u8),(.i .i64),(.i .u8),(.i .u8),(.i .u8),(.i .u8),(.i .u8),(.i .u8),(.i .u8),(.i .u8),(.i .u8),(.i .u8),(.i .u8),(.i .u8),(.i .u8),(.i .u8),(.i .u8),(.i .u8),.s] true (t 18) (t 19)),[2,3]),(Mv 13 20,[4,2])] [(1,0),(1,1),(1,2),(1,3),(2,4),(2,5)] [0,0,3,0,15,31])<|
  .cond (t 13) (.skip) (Rg [m 21 (Fl 9 1),m 22 (Ld 21),m 23 (.bin .lss .num (t 22) (.c q)),Mv 13 23]<|
  .cond (t 13) (.skip) (.region [m 24 (Fl 9 1),m 25 (Ld 24),m 26 (.bin .gtr .num (t 25) (Ci 4294967295)),Mv 13 26]))))<|
  .cond (t 13) (Rg [m 2 (.mov Bf)]<|
  .ret) (Rg [m 28 (Fl 3 3),m 29 (Ld 28),Mv 30 29,Gt 31 30 (Fl 44 1),Gt 32 30 (Ls 17 31),Gt 33 30 (.call false 218 [(t 32)]),Gt 34 30 (.un .not (t 33)),m 35 (.pick (t 30) (t 34) Bf),Mv 27 35]<|
  .cond (t 27) (Rg [m 2 (.mov Bf)]<|
  .ret) (Rg [m 37 (Fl 2 3),m 38 (Ld 37),Mv 39 38,Gt 40 39 (Fl 10 1),Gt 41 39 (Ls 17 40),Gt 42 39 (Fl 27 1),Gt 43 39 (Ls 17 42),Gt 44 39 (Fl 0 1),Gt 45 39 (Ld 44),Gt 46 39 (.bin .eql .num (t 45) (Ci 3)),Gt 47 39 (.call false 219 [(t 41),(t 43),(t 46)]),Gt 48 39 (.un .not (t 47)),m 49 (.pick (t 39) (t 48) Bf),Mv 36 49]<|
  .cond (t 36) (Rg [m 2 (.mov Bf)]<|
  .ret) (Rg [m 51 (Fl 0 1),m 52 (Ld 51),m 53 (.bin .eql .num (t 52) (Ci 4)),Mv 50 53]<|
  .cond (t 50) (Rg [m 55 (Fl 61 1),m 56 (Ld 55),m 57 (.call false 220 [(t 56)]),Mv 54 57,m 58 (.extract 0 (t 54)),m 59 (.extract 1 (t 54)),m 5 (.alloc 2 [q,o,o,o,o,o,o,o,o,q,q,o,o,o,o,o,o,o,o,o,o,o,o,o,o,o,o,q,o,o,o,o,o,o,o,o,o,o,o,o,o,o,o,o,q,o,o,o,o,o,o,o,o,o,o,o,o,o,o,o,o,(.str [])]),e (.store 62 (t 5) (t 58)),Mv 6 59]<|
  Rg [Mv 60 6,Mv 2 60]<|
  .ret) (.skip)))))<|
  Rg [m 2 (.mov Bt)]<|
  .ret
def vf168:VFun:=⟨61,3,vb168,[.tmp 2],false⟩
theorem cf168:cFun Tryz.prog rawF false Tryz.f168=some vf168:=by kernel_rfl
theorem T168 (h:HT σ args Post vb168 vf168 [dd,dd,dd]) (hl:args.length≤61:=by exact zB rfl):T Tryz.prog 168 args σ Post:=T.walk Tryz.func168 cf168 hl rfl h
@[reducible] def vf118:VFun:=by
  have h:=hold Tryz.prog rawF false Tryz.f118
  conv at h=>arg 1;reduce
  simp only[Int.reduceOfNat] at h
  exact h.get
@[reducible] def vb118:VC:=vf118.body
theorem cf118:cFun Tryz.prog rawF false Tryz.f118=some vf118:=by kernel_rfl
theorem T118 (h:HT σ args Post vb118 vf118 [dd,dd,dd,dd,dd,dd,dd,dd,dd,dd]) (hl:args.length≤61:=by exact zB rfl):T Tryz.prog 118 args σ Post:=T.walk Tryz.func118 cf118 hl rfl h
@[reducible] def vf283:VFun:=by
  have h:=hold Tryz.prog rawF false Tryz.f283
  conv at h=>arg 1;reduce
  simp only[Int.reduceOfNat] at h
  exact h.get
@[reducible] def vb283:VC:=vf283.body
theorem cf283:cFun Tryz.prog rawF false Tryz.f283=some vf283:=by kernel_rfl
theorem T283 (h:HT σ args Post vb283 vf283 [dd]) (hl:args.length≤19:=by exact zB rfl):T Tryz.prog 283 args σ Post:=T.walk Tryz.func283 cf283 hl rfl h
@[reducible] def vf284:VFun:=by
  have h:=hold Tryz.prog rawF false Tryz.f284
  conv at h=>arg 1;reduce
  simp only[Int.reduceOfNat] at h
  exact h.get
@[reducible] def vb284:VC:=vf284.body
theorem cf284:cFun Tryz.prog rawF false Tryz.f284=some vf284:=by kernel_rfl
theorem T284 (h:HT σ args Post vb284 vf284 [dd]) (hl:args.length≤17:=by exact zB rfl):T Tryz.prog 284 args σ Post:=T.walk Tryz.func284 cf284 hl rfl h
@[reducible] def vf277:VFun:=by
  have h:=hold Tryz.prog rawF false Tryz.f277
  conv at h=>arg 1;reduce
  simp only[Int.reduceOfNat] at h
  exact h.get
@[reducible] def vb277:VC:=vf277.body
theorem cf277:cFun Tryz.prog rawF false Tryz.f277=some vf277:=by kernel_rfl
theorem T277 (h:HT σ args Post vb277 vf277 [dd,dd,dd,dd,dd,dd]) (hl:args.length≤68:=by exact zB rfl):T Tryz.prog 277 args σ Post:=T.walk Tryz.func277 cf277 hl rfl h
@[reducible] def vf278:VFun:=by
  have h:=hold Tryz.prog rawF false Tryz.f278
  conv at h=>arg 1;reduce
  simp only[Int.reduceOfNat] at h
  exact h.get
@[reducible] def vb278:VC:=vf278.body
theorem cf278:cFun Tryz.prog rawF false Tryz.f278=some vf278:=by kernel_rfl
theorem T278 (h:HT σ args Post vb278 vf278 [dd,dd,dd,dd,dd]) (hl:args.length≤42:=by exact zB rfl):T Tryz.prog 278 args σ Post:=T.walk Tryz.func278 cf278 hl rfl h
@[reducible] def vf260:VFun:=by
  have h:=hold Tryz.prog rawF false Tryz.f260
  conv at h=>arg 1;reduce
  simp only[Int.reduceOfNat] at h
  exact h.get
@[reducible] def vb260:VC:=vf260.body
theorem cf260:cFun Tryz.prog rawF false Tryz.f260=some vf260:=by kernel_rfl
theorem T260 (h:HT σ args Post vb260 vf260 [dd,dd]) (hl:args.length≤79:=by exact zB rfl):T Tryz.prog 260 args σ Post:=T.walk Tryz.func260 cf260 hl rfl h
@[reducible] def vf243:VFun:=by
  have h:=hold Tryz.prog rawF false Tryz.f243
  conv at h=>arg 1;reduce
  simp only[Int.reduceOfNat] at h
  exact h.get
@[reducible] def vb243:VC:=vf243.body
theorem cf243:cFun Tryz.prog rawF false Tryz.f243=some vf243:=by kernel_rfl
theorem T243 (h:HT σ args Post vb243 vf243 [dd,dd]) (hl:args.length≤28:=by exact zB rfl):T Tryz.prog 243 args σ Post:=T.walk Tryz.func243 cf243 hl rfl h
@[reducible] def vf239:VFun:=by
  have h:=hold Tryz.prog rawF false Tryz.f239
  conv at h=>arg 1;reduce
  simp only[Int.reduceOfNat] at h
  exact h.get
@[reducible] def vb239:VC:=vf239.body
theorem cf239:cFun Tryz.prog rawF false Tryz.f239=some vf239:=by kernel_rfl
theorem T239 (h:HT σ args Post vb239 vf239 [dd,dd,dd,dd,dd]) (hl:args.length≤37:=by exact zB rfl):T Tryz.prog 239 args σ Post:=T.walk Tryz.func239 cf239 hl rfl h
@[reducible] def vf237:VFun:=by
  have h:=hold Tryz.prog rawF false Tryz.f237
  conv at h=>arg 1;reduce
  simp only[Int.reduceOfNat] at h
  exact h.get
@[reducible] def vb237:VC:=vf237.body
theorem cf237:cFun Tryz.prog rawF false Tryz.f237=some vf237:=by kernel_rfl
theorem T237 (h:HT σ args Post vb237 vf237 [dd,dd,dd,dd]) (hl:args.length≤28:=by exact zB rfl):T Tryz.prog 237 args σ Post:=T.walk Tryz.func237 cf237 hl rfl h
end Go.Proofs.YtdpeaefgbmkegaaGreatDoor
