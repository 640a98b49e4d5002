/- Functions of the program, in the small language. -/
import Derived.Test.YtdpeaefgbmkegaaGreatDoorVZ
import Derived.Test.YtdpeaefgbmkegaaGreatDoorF1
namespace Go.Proofs.YtdpeaefgbmkegaaGreatDoor
open Go Go.V D
set_option maxRecDepth 100000
set_option maxHeartbeats 8000000
@[reducible] def vf177:VFun:=by
  have h:=hold Go.Proofs.Tryz.prog rawF false Go.Proofs.Tryz.f177
  conv at h=>arg 1;reduce
  simp only[Int.reduceOfNat] at h
  exact h.get
@[reducible] def vb177:VC:=vf177.body
theorem cf177:cFun Go.Proofs.Tryz.prog rawF false Go.Proofs.Tryz.f177=some vf177:=by kernel_rfl
theorem T177 {args:List PV} {σ:VHeap} {Post:KP} (h:belH σ.length σ→(∀ c,c∈args→bel σ.length c)→vrun Go.Proofs.Tryz.prog σ.length vb177 (argsEnv args) (σ++[dd]) (vend vf177 (TrimP σ.length Post))) (hl:args.length≤54:=by exact zB rfl):T Go.Proofs.Tryz.prog 177 args σ Post:=T.walk Go.Proofs.Tryz.func177 cf177 hl rfl h
@[reducible] def vf227:VFun:=by
  have h:=hold Go.Proofs.Tryz.prog rawF false Go.Proofs.Tryz.f227
  conv at h=>arg 1;reduce
  simp only[Int.reduceOfNat,u8n,UInt8.reduceOfNat] at h
  exact h.get
@[reducible] def vb227:VC:=vf227.body
theorem cf227:cFun Go.Proofs.Tryz.prog rawF false Go.Proofs.Tryz.f227=some vf227:=by kernel_rfl
theorem T227 {args:List PV} {σ:VHeap} {Post:KP} (h:belH σ.length σ→(∀ c,c∈args→bel σ.length c)→vrun Go.Proofs.Tryz.prog σ.length vb227 (argsEnv args) (σ++[dd,dd,dd]) (vend vf227 (TrimP σ.length Post))) (hl:args.length≤102:=by exact zB rfl):T Go.Proofs.Tryz.prog 227 args σ Post:=T.walk Go.Proofs.Tryz.func227 cf227 hl rfl h
@[reducible] def vf223:VFun:=by
  have h:=hold Go.Proofs.Tryz.prog rawF false Go.Proofs.Tryz.f223
  conv at h=>arg 1;reduce
  exact h.get
@[reducible] def vb223:VC:=vf223.body
theorem cf223:cFun Go.Proofs.Tryz.prog rawF false Go.Proofs.Tryz.f223=some vf223:=by kernel_rfl
theorem T223 {args:List PV} {σ:VHeap} {Post:KP} (h:belH σ.length σ→(∀ c,c∈args→bel σ.length c)→vrun Go.Proofs.Tryz.prog σ.length vb223 (argsEnv args) (σ++[]) (vend vf223 (TrimP σ.length Post))) (hl:args.length≤8:=by exact zB rfl):T Go.Proofs.Tryz.prog 223 args σ Post:=T.walk Go.Proofs.Tryz.func223 cf223 hl rfl h
@[reducible] def vf249:VFun:=by
  have h:=hold Go.Proofs.Tryz.prog rawF false Go.Proofs.Tryz.f249
  conv at h=>arg 1;reduce
  simp only[Int.reduceOfNat] at h
  exact h.get
@[reducible] def vb249:VC:=vf249.body
theorem cf249:cFun Go.Proofs.Tryz.prog rawF false Go.Proofs.Tryz.f249=some vf249:=by kernel_rfl
theorem T249 {args:List PV} {σ:VHeap} {Post:KP} (h:belH σ.length σ→(∀ c,c∈args→bel σ.length c)→vrun Go.Proofs.Tryz.prog σ.length vb249 (argsEnv args) (σ++[]) (vend vf249 (TrimP σ.length Post))) (hl:args.length≤8:=by exact zB rfl):T Go.Proofs.Tryz.prog 249 args σ Post:=T.walk Go.Proofs.Tryz.func249 cf249 hl rfl h
@[reducible] def vf250:VFun:=by
  have h:=hold Go.Proofs.Tryz.prog rawF false Go.Proofs.Tryz.f250
  conv at h=>arg 1;reduce
  simp only[Int.reduceOfNat] at h
  exact h.get
@[reducible] def vb250:VC:=vf250.body
theorem cf250:cFun Go.Proofs.Tryz.prog rawF false Go.Proofs.Tryz.f250=some vf250:=by kernel_rfl
theorem T250 {args:List PV} {σ:VHeap} {Post:KP} (h:belH σ.length σ→(∀ c,c∈args→bel σ.length c)→vrun Go.Proofs.Tryz.prog σ.length vb250 (argsEnv args) (σ++[]) (vend vf250 (TrimP σ.length Post))) (hl:args.length≤8:=by exact zB rfl):T Go.Proofs.Tryz.prog 250 args σ Post:=T.walk Go.Proofs.Tryz.func250 cf250 hl rfl h
@[reducible] def vb263:VC:=
  .seq (.region [m 2 (.mov (.c (i 0)))])<|
  .seq (.seq (.region [m 3 (.mov (t 0)),m 4 (.bin .eql .num (t 3) (.c (.int .u64 0)))])<|
  .cond (t 4) (.seq (.region [m 2 (.mov (.c (i 64)))])<|
  .ret) (.skip))<|
  .seq (.region [m 5 (.mov (t 0)),m 6 (.mov (t 0)),m 7 (.un .neg (t 6)),m 8 (.bin .and .num (t 5) (t 7)),m 9 (.bin .mul .num (t 8) (.c (.int .u64 285870213051353865))),m 10 (.bin .shr .num (t 9) (.c (.int .u64 58))),m 11 (.indexArr 64 1 (.c (.iptr gt5 0)) (t 10)),m 12 (.load none (t 11)),m 13 (.convInt .i64 (t 12)),m 2 (.mov (t 13))])<|
  .ret
def vf263:VFun:=⟨14,0,vb263,[.tmp 2],false⟩
theorem cf263:cFun Go.Proofs.Tryz.prog rawF false Go.Proofs.Tryz.f263=some vf263:=by kernel_rfl
theorem T263 {args:List PV} {σ:VHeap} {Post:KP} (h:belH σ.length σ→(∀ c,c∈args→bel σ.length c)→vrun Go.Proofs.Tryz.prog σ.length vb263 (argsEnv args) (σ++[]) (vend vf263 (TrimP σ.length Post))) (hl:args.length≤14:=by exact zB rfl):T Go.Proofs.Tryz.prog 263 args σ Post:=T.walk Go.Proofs.Tryz.func263 cf263 hl rfl h
end Go.Proofs.YtdpeaefgbmkegaaGreatDoor
namespace Go.Proofs.YtdpeaefgbmkegaaGreatDoor
open Go Go.V D
set_option maxRecDepth 100000
set_option maxHeartbeats 8000000
@[reducible] def vf19:VFun:=by
  have h:=hold Go.Proofs.Tryz.prog rawF false Go.Proofs.Tryz.f19
  conv at h=>arg 1;reduce
  simp only[Int.reduceOfNat] at h
  exact h.get
@[reducible] def vb19:VC:=vf19.body
theorem cf19:cFun Go.Proofs.Tryz.prog rawF false Go.Proofs.Tryz.f19=some vf19:=by kernel_rfl
theorem T19 {args:List PV} {σ:VHeap} {Post:KP} (h:belH σ.length σ→(∀ c,c∈args→bel σ.length c)→vrun Go.Proofs.Tryz.prog σ.length vb19 (argsEnv args) (σ++[dd,dd]) (vend vf19 (TrimP σ.length Post))) (hl:args.length≤23:=by exact zB rfl):T Go.Proofs.Tryz.prog 19 args σ Post:=T.walk Go.Proofs.Tryz.func19 cf19 hl rfl h
@[reducible] def vf14:VFun:=by
  have h:=hold Go.Proofs.Tryz.prog rawF false Go.Proofs.Tryz.f14
  conv at h=>arg 1;reduce
  simp only[Int.reduceOfNat] at h
  exact h.get
@[reducible] def vb14:VC:=vf14.body
theorem cf14:cFun Go.Proofs.Tryz.prog rawF false Go.Proofs.Tryz.f14=some vf14:=by kernel_rfl
theorem T14 {args:List PV} {σ:VHeap} {Post:KP} (h:belH σ.length σ→(∀ c,c∈args→bel σ.length c)→vrun Go.Proofs.Tryz.prog σ.length vb14 (argsEnv args) (σ++[dd]) (vend vf14 (TrimP σ.length Post))) (hl:args.length≤25:=by exact zB rfl):T Go.Proofs.Tryz.prog 14 args σ Post:=T.walk Go.Proofs.Tryz.func14 cf14 hl rfl h
@[reducible] def vf41:VFun:=by
  have h:=hold Go.Proofs.Tryz.prog rawF false Go.Proofs.Tryz.f41
  conv at h=>arg 1;reduce
  simp only[Int.reduceOfNat] at h
  exact h.get
@[reducible] def vb41:VC:=vf41.body
theorem cf41:cFun Go.Proofs.Tryz.prog rawF false Go.Proofs.Tryz.f41=some vf41:=by kernel_rfl
@[reducible] def vf43:VFun:=by
  have h:=hold Go.Proofs.Tryz.prog rawF false Go.Proofs.Tryz.f43
  conv at h=>arg 1;reduce
  simp only[Int.reduceOfNat] at h
  exact h.get
@[reducible] def vb43:VC:=vf43.body
theorem cf43:cFun Go.Proofs.Tryz.prog rawF false Go.Proofs.Tryz.f43=some vf43:=by kernel_rfl
theorem T43 {args:List PV} {σ:VHeap} {Post:KP} (h:belH σ.length σ→(∀ c,c∈args→bel σ.length c)→vrun Go.Proofs.Tryz.prog σ.length vb43 (argsEnv args) (σ++[dd]) (vend vf43 (TrimP σ.length Post))) (hl:args.length≤53:=by exact zB rfl):T Go.Proofs.Tryz.prog 43 args σ Post:=T.walk Go.Proofs.Tryz.func43 cf43 hl rfl h
@[reducible] def vf78:VFun:=by
  have h:=hold Go.Proofs.Tryz.prog rawF false Go.Proofs.Tryz.f78
  conv at h=>arg 1;reduce
  simp only[Int.reduceOfNat,Int.reduceNegSucc] at h
  exact h.get
@[reducible] def vb78:VC:=vf78.body
theorem cf78:cFun Go.Proofs.Tryz.prog rawF false Go.Proofs.Tryz.f78=some vf78:=by kernel_rfl
@[reducible] def vf79:VFun:=by
  have h:=hold Go.Proofs.Tryz.prog rawF false Go.Proofs.Tryz.f79
  conv at h=>arg 1;reduce
  exact h.get
@[reducible] def vb79:VC:=vf79.body
theorem cf79:cFun Go.Proofs.Tryz.prog rawF false Go.Proofs.Tryz.f79=some vf79:=by kernel_rfl
@[reducible] def vf80:VFun:=by
  have h:=hold Go.Proofs.Tryz.prog rawF false Go.Proofs.Tryz.f80
  conv at h=>arg 1;reduce
  simp only[Int.reduceOfNat] at h
  exact h.get
@[reducible] def vb80:VC:=vf80.body
theorem cf80:cFun Go.Proofs.Tryz.prog rawF false Go.Proofs.Tryz.f80=some vf80:=by kernel_rfl
@[reducible] def vf88:VFun:=by
  have h:=hold Go.Proofs.Tryz.prog rawF false Go.Proofs.Tryz.f88
  conv at h=>arg 1;reduce
  simp only[Int.reduceOfNat] at h
  exact h.get
@[reducible] def vb88:VC:=vf88.body
theorem cf88:cFun Go.Proofs.Tryz.prog rawF false Go.Proofs.Tryz.f88=some vf88:=by kernel_rfl
theorem T88 {args:List PV} {σ:VHeap} {Post:KP} (h:belH σ.length σ→(∀ c,c∈args→bel σ.length c)→vrun Go.Proofs.Tryz.prog σ.length vb88 (argsEnv args) (σ++[dd]) (vend vf88 (TrimP σ.length Post))) (hl:args.length≤23:=by exact zB rfl):T Go.Proofs.Tryz.prog 88 args σ Post:=T.walk Go.Proofs.Tryz.func88 cf88 hl rfl h
@[reducible] def vf89:VFun:=by
  have h:=hold Go.Proofs.Tryz.prog rawF false Go.Proofs.Tryz.f89
  conv at h=>arg 1;reduce
  simp only[Int.reduceOfNat] at h
  exact h.get
@[reducible] def vb89:VC:=vf89.body
theorem cf89:cFun Go.Proofs.Tryz.prog rawF false Go.Proofs.Tryz.f89=some vf89:=by kernel_rfl
theorem T89 {args:List PV} {σ:VHeap} {Post:KP} (h:belH σ.length σ→(∀ c,c∈args→bel σ.length c)→vrun Go.Proofs.Tryz.prog σ.length vb89 (argsEnv args) (σ++[]) (vend vf89 (TrimP σ.length Post))) (hl:args.length≤18:=by exact zB rfl):T Go.Proofs.Tryz.prog 89 args σ Post:=T.walk Go.Proofs.Tryz.func89 cf89 hl rfl h
@[reducible] def vf91:VFun:=by
  have h:=hold Go.Proofs.Tryz.prog rawF false Go.Proofs.Tryz.f91
  conv at h=>arg 1;reduce
  exact h.get
@[reducible] def vb91:VC:=vf91.body
theorem cf91:cFun Go.Proofs.Tryz.prog rawF false Go.Proofs.Tryz.f91=some vf91:=by kernel_rfl
theorem T91 {args:List PV} {σ:VHeap} {Post:KP} (h:belH σ.length σ→(∀ c,c∈args→bel σ.length c)→vrun Go.Proofs.Tryz.prog σ.length vb91 (argsEnv args) (σ++[dd]) (vend vf91 (TrimP σ.length Post))) (hl:args.length≤6:=by exact zB rfl):T Go.Proofs.Tryz.prog 91 args σ Post:=T.walk Go.Proofs.Tryz.func91 cf91 hl rfl h
@[reducible] def vf129:VFun:=by
  have h:=hold Go.Proofs.Tryz.prog rawF false Go.Proofs.Tryz.f129
  conv at h=>arg 1;reduce
  simp only[Int.reduceOfNat] at h
  exact h.get
@[reducible] def vb129:VC:=vf129.body
theorem cf129:cFun Go.Proofs.Tryz.prog rawF false Go.Proofs.Tryz.f129=some vf129:=by kernel_rfl
theorem T129 {args:List PV} {σ:VHeap} {Post:KP} (h:belH σ.length σ→(∀ c,c∈args→bel σ.length c)→vrun Go.Proofs.Tryz.prog σ.length vb129 (argsEnv args) (σ++[dd]) (vend vf129 (TrimP σ.length Post))) (hl:args.length≤6:=by exact zB rfl):T Go.Proofs.Tryz.prog 129 args σ Post:=T.walk Go.Proofs.Tryz.func129 cf129 hl rfl h
@[reducible] def vf96:VFun:=by
  have h:=hold Go.Proofs.Tryz.prog rawF false Go.Proofs.Tryz.f96
  conv at h=>arg 1;reduce
  simp only[Int.reduceOfNat] at h
  exact h.get
@[reducible] def vb96:VC:=vf96.body
theorem cf96:cFun Go.Proofs.Tryz.prog rawF false Go.Proofs.Tryz.f96=some vf96:=by kernel_rfl
theorem T96 {args:List PV} {σ:VHeap} {Post:KP} (h:belH σ.length σ→(∀ c,c∈args→bel σ.length c)→vrun Go.Proofs.Tryz.prog σ.length vb96 (argsEnv args) (σ++[]) (vend vf96 (TrimP σ.length Post))) (hl:args.length≤9:=by exact zB rfl):T Go.Proofs.Tryz.prog 96 args σ Post:=T.walk Go.Proofs.Tryz.func96 cf96 hl rfl h
@[reducible] def vf139:VFun:=by
  have h:=hold Go.Proofs.Tryz.prog rawF false Go.Proofs.Tryz.f139
  conv at h=>arg 1;reduce
  simp only[Int.reduceOfNat,Int.reduceNegSucc] at h
  exact h.get
@[reducible] def vb139:VC:=vf139.body
theorem cf139:cFun Go.Proofs.Tryz.prog rawF false Go.Proofs.Tryz.f139=some vf139:=by kernel_rfl
theorem T139 {args:List PV} {σ:VHeap} {Post:KP} (h:belH σ.length σ→(∀ c,c∈args→bel σ.length c)→vrun Go.Proofs.Tryz.prog σ.length vb139 (argsEnv args) (σ++[]) (vend vf139 (TrimP σ.length Post))) (hl:args.length≤19:=by exact zB rfl):T Go.Proofs.Tryz.prog 139 args σ Post:=T.walk Go.Proofs.Tryz.func139 cf139 hl rfl h
@[reducible] def vf81:VFun:=by
  have h:=hold Go.Proofs.Tryz.prog rawF false Go.Proofs.Tryz.f81
  conv at h=>arg 1;reduce
  simp only[Int.reduceOfNat] at h
  exact h.get
@[reducible] def vb81:VC:=vf81.body
theorem cf81:cFun Go.Proofs.Tryz.prog rawF false Go.Proofs.Tryz.f81=some vf81:=by kernel_rfl
theorem T81 {args:List PV} {σ:VHeap} {Post:KP} (h:belH σ.length σ→(∀ c,c∈args→bel σ.length c)→vrun Go.Proofs.Tryz.prog σ.length vb81 (argsEnv args) (σ++[dd]) (vend vf81 (TrimP σ.length Post))) (hl:args.length≤38:=by exact zB rfl):T Go.Proofs.Tryz.prog 81 args σ Post:=T.walk Go.Proofs.Tryz.func81 cf81 hl rfl h
@[reducible] def vf51:VFun:=by
  have h:=hold Go.Proofs.Tryz.prog rawF false Go.Proofs.Tryz.f51
  conv at h=>arg 1;reduce
  simp only[Int.reduceOfNat] at h
  exact h.get
@[reducible] def vb51:VC:=vf51.body
theorem cf51:cFun Go.Proofs.Tryz.prog rawF false Go.Proofs.Tryz.f51=some vf51:=by kernel_rfl
theorem T51 {args:List PV} {σ:VHeap} {Post:KP} (h:belH σ.length σ→(∀ c,c∈args→bel σ.length c)→vrun Go.Proofs.Tryz.prog σ.length vb51 (argsEnv args) (σ++[dd,dd]) (vend vf51 (TrimP σ.length Post))) (hl:args.length≤25:=by exact zB rfl):T Go.Proofs.Tryz.prog 51 args σ Post:=T.walk Go.Proofs.Tryz.func51 cf51 hl rfl h
@[reducible] def vf101:VFun:=by
  have h:=hold Go.Proofs.Tryz.prog rawF false Go.Proofs.Tryz.f101
  conv at h=>arg 1;reduce
  simp only[Int.reduceOfNat] at h
  exact h.get
@[reducible] def vb101:VC:=vf101.body
theorem cf101:cFun Go.Proofs.Tryz.prog rawF false Go.Proofs.Tryz.f101=some vf101:=by kernel_rfl
theorem T101 {args:List PV} {σ:VHeap} {Post:KP} (h:belH σ.length σ→(∀ c,c∈args→bel σ.length c)→vrun Go.Proofs.Tryz.prog σ.length vb101 (argsEnv args) (σ++[dd,dd]) (vend vf101 (TrimP σ.length Post))) (hl:args.length≤52:=by exact zB rfl):T Go.Proofs.Tryz.prog 101 args σ Post:=T.walk Go.Proofs.Tryz.func101 cf101 hl rfl h
@[reducible] def vf102:VFun:=by
  have h:=hold Go.Proofs.Tryz.prog rawF false Go.Proofs.Tryz.f102
  conv at h=>arg 1;reduce
  simp only[Int.reduceOfNat] at h
  exact h.get
@[reducible] def vb102:VC:=vf102.body
theorem cf102:cFun Go.Proofs.Tryz.prog rawF false Go.Proofs.Tryz.f102=some vf102:=by kernel_rfl
theorem T102 {args:List PV} {σ:VHeap} {Post:KP} (h:belH σ.length σ→(∀ c,c∈args→bel σ.length c)→vrun Go.Proofs.Tryz.prog σ.length vb102 (argsEnv args) (σ++[dd]) (vend vf102 (TrimP σ.length Post))) (hl:args.length≤15:=by exact zB rfl):T Go.Proofs.Tryz.prog 102 args σ Post:=T.walk Go.Proofs.Tryz.func102 cf102 hl rfl h
@[reducible] def vf13:VFun:=by
  have h:=hold Go.Proofs.Tryz.prog rawF false Go.Proofs.Tryz.f13
  conv at h=>arg 1;reduce
  simp only[Int.reduceOfNat,u8n,UInt8.reduceOfNat] at h
  exact h.get
@[reducible] def vb13:VC:=vf13.body
theorem cf13:cFun Go.Proofs.Tryz.prog rawF false Go.Proofs.Tryz.f13=some vf13:=by kernel_rfl
@[reducible] def vf39:VFun:=by
  have h:=hold Go.Proofs.Tryz.prog rawF false Go.Proofs.Tryz.f39
  conv at h=>arg 1;reduce
  simp only[Int.reduceOfNat] at h
  exact h.get
@[reducible] def vb39:VC:=vf39.body
theorem cf39:cFun Go.Proofs.Tryz.prog rawF false Go.Proofs.Tryz.f39=some vf39:=by kernel_rfl
@[reducible] def vf40:VFun:=by
  have h:=hold Go.Proofs.Tryz.prog rawF false Go.Proofs.Tryz.f40
  conv at h=>arg 1;reduce
  simp only[Int.reduceOfNat] at h
  exact h.get
@[reducible] def vb40:VC:=vf40.body
theorem cf40:cFun Go.Proofs.Tryz.prog rawF false Go.Proofs.Tryz.f40=some vf40:=by kernel_rfl
end Go.Proofs.YtdpeaefgbmkegaaGreatDoor
namespace Go.Proofs.YtdpeaefgbmkegaaGreatDoor
open Go Go.V D
set_option maxRecDepth 100000
set_option maxHeartbeats 8000000
@[reducible] def vf42:VFun:=by
  have h:=hold Go.Proofs.Tryz.prog rawF false Go.Proofs.Tryz.f42
  conv at h=>arg 1;reduce
  simp only[Int.reduceOfNat,u8n,UInt8.reduceOfNat] at h
  exact h.get
@[reducible] def vb42:VC:=vf42.body
theorem cf42:cFun Go.Proofs.Tryz.prog rawF false Go.Proofs.Tryz.f42=some vf42:=by kernel_rfl
@[reducible] def vf16:VFun:=by
  have h:=hold Go.Proofs.Tryz.prog rawF false Go.Proofs.Tryz.f16
  conv at h=>arg 1;reduce
  simp only[Int.reduceOfNat] at h
  exact h.get
@[reducible] def vb16:VC:=vf16.body
theorem cf16:cFun Go.Proofs.Tryz.prog rawF false Go.Proofs.Tryz.f16=some vf16:=by kernel_rfl
theorem T16 {args:List PV} {σ:VHeap} {Post:KP} (h:belH σ.length σ→(∀ c,c∈args→bel σ.length c)→vrun Go.Proofs.Tryz.prog σ.length vb16 (argsEnv args) (σ++[dd,dd,dd,dd]) (vend vf16 (TrimP σ.length Post))) (hl:args.length≤68:=by exact zB rfl):T Go.Proofs.Tryz.prog 16 args σ Post:=T.walk Go.Proofs.Tryz.func16 cf16 hl rfl h
@[reducible] def vf17:VFun:=by
  have h:=hold Go.Proofs.Tryz.prog rawF false Go.Proofs.Tryz.f17
  conv at h=>arg 1;reduce
  exact h.get
@[reducible] def vb17:VC:=vf17.body
theorem cf17:cFun Go.Proofs.Tryz.prog rawF false Go.Proofs.Tryz.f17=some vf17:=by kernel_rfl
theorem T17 {args:List PV} {σ:VHeap} {Post:KP} (h:belH σ.length σ→(∀ c,c∈args→bel σ.length c)→vrun Go.Proofs.Tryz.prog σ.length vb17 (argsEnv args) (σ++[dd,dd]) (vend vf17 (TrimP σ.length Post))) (hl:args.length≤10:=by exact zB rfl):T Go.Proofs.Tryz.prog 17 args σ Post:=T.walk Go.Proofs.Tryz.func17 cf17 hl rfl h
@[reducible] def vf46:VFun:=by
  have h:=hold Go.Proofs.Tryz.prog rawF false Go.Proofs.Tryz.f46
  conv at h=>arg 1;reduce
  exact h.get
@[reducible] def vb46:VC:=vf46.body
theorem cf46:cFun Go.Proofs.Tryz.prog rawF false Go.Proofs.Tryz.f46=some vf46:=by kernel_rfl
theorem T46 {args:List PV} {σ:VHeap} {Post:KP} (h:belH σ.length σ→(∀ c,c∈args→bel σ.length c)→vrun Go.Proofs.Tryz.prog σ.length vb46 (argsEnv args) (σ++[dd]) (vend vf46 (TrimP σ.length Post))) (hl:args.length≤8:=by exact zB rfl):T Go.Proofs.Tryz.prog 46 args σ Post:=T.walk Go.Proofs.Tryz.func46 cf46 hl rfl h
@[reducible] def vf47:VFun:=by
  have h:=hold Go.Proofs.Tryz.prog rawF false Go.Proofs.Tryz.f47
  conv at h=>arg 1;reduce
  simp only[Int.reduceOfNat] at h
  exact h.get
@[reducible] def vb47:VC:=vf47.body
theorem cf47:cFun Go.Proofs.Tryz.prog rawF false Go.Proofs.Tryz.f47=some vf47:=by kernel_rfl
theorem T47 {args:List PV} {σ:VHeap} {Post:KP} (h:belH σ.length σ→(∀ c,c∈args→bel σ.length c)→vrun Go.Proofs.Tryz.prog σ.length vb47 (argsEnv args) (σ++[dd]) (vend vf47 (TrimP σ.length Post))) (hl:args.length≤9:=by exact zB rfl):T Go.Proofs.Tryz.prog 47 args σ Post:=T.walk Go.Proofs.Tryz.func47 cf47 hl rfl h
@[reducible] def vf97:VFun:=by
  have h:=hold Go.Proofs.Tryz.prog rawF false Go.Proofs.Tryz.f97
  conv at h=>arg 1;reduce
  simp only[Int.reduceOfNat] at h
  exact h.get
@[reducible] def vb97:VC:=vf97.body
theorem cf97:cFun Go.Proofs.Tryz.prog rawF false Go.Proofs.Tryz.f97=some vf97:=by kernel_rfl
theorem T97 {args:List PV} {σ:VHeap} {Post:KP} (h:belH σ.length σ→(∀ c,c∈args→bel σ.length c)→vrun Go.Proofs.Tryz.prog σ.length vb97 (argsEnv args) (σ++[dd]) (vend vf97 (TrimP σ.length Post))) (hl:args.length≤12:=by exact zB rfl):T Go.Proofs.Tryz.prog 97 args σ Post:=T.walk Go.Proofs.Tryz.func97 cf97 hl rfl h
@[reducible] def vb98:VC:=
  .seq (.region [m 3 (.box 0 (t 1)),m 4 (.mov (.c (i 0)))])<|
  .seq (.seq (.region [m 6 (.mov (t 0)),m 7 (.len (t 6)),m 8 (.mov (.c (i 0)))])<|
  .block 0<|.loop<|.seq (.region [m 9 (.bin .lss .num (t 8) (t 7))])<|
  .seq (.cond (t 9) (.skip) (.exit 0))<|
  .seq (.block 1<|.seq (.region [m 10 (.mov (t 8)),m 5 (.mov (t 10))])<|
  .seq (.dreg [(m 11 (.load (some 8) (t 3)),[]),(m 12 (.mov (t 0)),[]),(m 13 (.mov (t 5)),[]),(m 14 (.index 8 (t 12) (t 13)),[1,2]),(m 15 (.load (some 8) (t 14)),[3]),(m 16 (.eqAgg [(.i .u8),(.i .u8),(.i .u8),(.i .u8),(.i .u8),(.i .u8),(.i .u8),(.i .u8)] false (t 11) (t 15)),[0,4])] [(1,0),(2,1),(2,2),(1,3),(1,4),(2,5)] [0,0,0,6,14,31])<|
  .cond (t 16) (.seq (.region [m 17 (.mov (t 5)),m 4 (.mov (t 17))])<|
  .ret) (.skip))<|
  .region [m 18 (.bin .add .num (t 8) (.c (i 1))),m 8 (.mov (t 18))])<|
  .seq (.region [m 4 (.mov (.c (i (-1))))])<|
  .ret
def vf98:VFun:=⟨19,1,vb98,[.tmp 4],false⟩
theorem cf98:cFun Go.Proofs.Tryz.prog rawF false Go.Proofs.Tryz.f98=some vf98:=by kernel_rfl
theorem T98 {args:List PV} {σ:VHeap} {Post:KP} (h:belH σ.length σ→(∀ c,c∈args→bel σ.length c)→vrun Go.Proofs.Tryz.prog σ.length vb98 (argsEnv args) (σ++[dd]) (vend vf98 (TrimP σ.length Post))) (hl:args.length≤19:=by exact zB rfl):T Go.Proofs.Tryz.prog 98 args σ Post:=T.walk Go.Proofs.Tryz.func98 cf98 hl rfl h
@[reducible] def vf122:VFun:=by
  have h:=hold Go.Proofs.Tryz.prog rawF false Go.Proofs.Tryz.f122
  conv at h=>arg 1;reduce
  simp only[Int.reduceOfNat] at h
  exact h.get
@[reducible] def vb122:VC:=vf122.body
theorem cf122:cFun Go.Proofs.Tryz.prog rawF false Go.Proofs.Tryz.f122=some vf122:=by kernel_rfl
@[reducible] def vf83:VFun:=by
  have h:=hold Go.Proofs.Tryz.prog rawF false Go.Proofs.Tryz.f83
  conv at h=>arg 1;reduce
  simp only[Int.reduceOfNat] at h
  exact h.get
@[reducible] def vb83:VC:=vf83.body
theorem cf83:cFun Go.Proofs.Tryz.prog rawF false Go.Proofs.Tryz.f83=some vf83:=by kernel_rfl
theorem T83 {args:List PV} {σ:VHeap} {Post:KP} (h:belH σ.length σ→(∀ c,c∈args→bel σ.length c)→vrun Go.Proofs.Tryz.prog σ.length vb83 (argsEnv args) (σ++[dd,dd,dd]) (vend vf83 (TrimP σ.length Post))) (hl:args.length≤23:=by exact zB rfl):T Go.Proofs.Tryz.prog 83 args σ Post:=T.walk Go.Proofs.Tryz.func83 cf83 hl rfl h
@[reducible] def vf86:VFun:=by
  have h:=hold Go.Proofs.Tryz.prog rawF false Go.Proofs.Tryz.f86
  conv at h=>arg 1;reduce
  simp only[Int.reduceOfNat] at h
  exact h.get
@[reducible] def vb86:VC:=vf86.body
theorem cf86:cFun Go.Proofs.Tryz.prog rawF false Go.Proofs.Tryz.f86=some vf86:=by kernel_rfl
theorem T86 {args:List PV} {σ:VHeap} {Post:KP} (h:belH σ.length σ→(∀ c,c∈args→bel σ.length c)→vrun Go.Proofs.Tryz.prog σ.length vb86 (argsEnv args) (σ++[dd]) (vend vf86 (TrimP σ.length Post))) (hl:args.length≤10:=by exact zB rfl):T Go.Proofs.Tryz.prog 86 args σ Post:=T.walk Go.Proofs.Tryz.func86 cf86 hl rfl h
@[reducible] def vb110:VC:=
  .seq (.region [m 2 (.box 0 (t 0)),m 3 (.box 1 (t 1)),m 4 (.mov (.c (.bool false)))])<|
  .seq (.dreg [(m 5 (.load (some 18) (t 2)),[]),(m 6 (.call false 155 [(t 5)]),[0]),(m 7 (.mov (t 6)),[1,1]),(g 8 7 true (.load (some 17) (t 3)),[2]),(g 9 7 true (.call false 50 [(t 8)]),[3,2,2]),(m 10 (.pick (t 7) (t 9) (.c (.bool false))),[2,4]),(m 11 (.mov (t 10)),[5,4]),(g 12 11 true (.field 0 (t 3)),[6]),(g 13 11 true (.load none (t 12)),[7,6]),(g 14 11 true (.field 0 (t 2)),[6]),(g 15 11 true (.field 0 (t 14)),[9,6]),(g 16 11 true (.load none (t 15)),[10,6]),(g 17 11 true (.bin .eql .num (t 13) (t 16)),[8,11,6]),(m 18 (.pick (t 11) (t 17) (.c (.bool false))),[6,12]),(m 19 (.mov (t 18)),[13,6]),(g 20 19 true (.load (some 17) (t 3)),[14]),(g 21 19 true (.field 17 (t 2)),[14]),(g 22 19 true (.load none (t 21)),[16,14]),(g 23 19 true (.call false 156 [(t 20),(t 22)]),[15,17,14,14]),(g 24 19 true (.field 0 (t 2)),[14]),(g 25 19 true (.load (some 17) (t 24)),[19,14]),(g 26 19 true (.eqAgg [(.i .i64),(.i .u8),(.i .u8),(.i .u8),(.i .u8),(.i .u8),(.i .u8),(.i .u8),(.i .u8),(.i .u8),(.i .u8),(.i .u8),(.i .u8),(.i .u8),(.i .u8),(.i .u8),(.i .u8)] false (t 23) (t 25)),[18,20,14]),(m 27 (.pick (t 19) (t 26) (.c (.bool false))),[14,21]),(m 4 (.mov (t 27)),[22,18,0,1,2,3,4,5,6,7,8,9,10,11,12,13,14,15,16,17,18,19,20,21,22])] [(1,0),(1,1),(2,2),(1,3),(1,4),(2,5),(2,6),(1,7),(1,8),(1,9),(1,10),(1,11),(2,12),(2,13),(2,14),(1,15),(1,16),(1,17),(1,18),(1,19),(1,20),(2,21),(2,22),(2,23)] [0,1,3,7,15,31,63,127,255,127,639,1663,4095,8191,16383,32767,32767,98303,262143,32767,557055,2097151,4194303,8388607])<|
  .ret
def vf110:VFun:=⟨28,2,vb110,[.tmp 4],false⟩
theorem cf110:cFun Go.Proofs.Tryz.prog rawF false Go.Proofs.Tryz.f110=some vf110:=by kernel_rfl
theorem T110 {args:List PV} {σ:VHeap} {Post:KP} (h:belH σ.length σ→(∀ c,c∈args→bel σ.length c)→vrun Go.Proofs.Tryz.prog σ.length vb110 (argsEnv args) (σ++[dd,dd]) (vend vf110 (TrimP σ.length Post))) (hl:args.length≤28:=by exact zB rfl):T Go.Proofs.Tryz.prog 110 args σ Post:=T.walk Go.Proofs.Tryz.func110 cf110 hl rfl h
@[reducible] def vf154:VFun:=by
  have h:=hold Go.Proofs.Tryz.prog rawF false Go.Proofs.Tryz.f154
  conv at h=>arg 1;reduce
  simp only[Int.reduceOfNat] at h
  exact h.get
@[reducible] def vb154:VC:=vf154.body
theorem cf154:cFun Go.Proofs.Tryz.prog rawF false Go.Proofs.Tryz.f154=some vf154:=by kernel_rfl
theorem T154 {args:List PV} {σ:VHeap} {Post:KP} (h:belH σ.length σ→(∀ c,c∈args→bel σ.length c)→vrun Go.Proofs.Tryz.prog σ.length vb154 (argsEnv args) (σ++[dd,dd]) (vend vf154 (TrimP σ.length Post))) (hl:args.length≤30:=by exact zB rfl):T Go.Proofs.Tryz.prog 154 args σ Post:=T.walk Go.Proofs.Tryz.func154 cf154 hl rfl h
end Go.Proofs.YtdpeaefgbmkegaaGreatDoor
namespace Go.Proofs.YtdpeaefgbmkegaaGreatDoor
open Go Go.V D
set_option maxRecDepth 100000
set_option maxHeartbeats 8000000
@[reducible] def vb24:VC:=
  .seq (.region [m 0 (.mov (.c (.bool false)))])<|
  .seq (.region [m 9 (.call false 39 [(.c (.str [97])),(.c (i 3)),(.c (b 1))]),m 1 (.alloc 0 [(.str []),(i 0),(b 0),(b 0),(b 0),(b 0),(b 0),(b 0),(b 0),(b 0),.nils,.nils,(i 0),(b 0),(b 0),(b 0),(b 0),(b 0),(b 0),(b 0),(b 0),(b 0),(b 0),(b 0),(b 0),(b 0),(b 0),(b 0),(b 0),.nils]),e (.store 30 (t 1) (t 9))])<|
  .seq (.region [m 10 (.call false 29 [(.c (b 10)),(.c (b 0)),(.c (b 0)),(.c (b 9))]),m 11 (.call false 61 [(.c (b 0)),(.c (i 16))]),m 12 (.call false 60 [(t 11),(.c (b 1)),(.c (b 3)),(.c (b 1))]),m 13 (.call false 61 [(.c (b 0)),(.c (i 24))]),m 14 (.call false 60 [(t 13),(.c (b 2)),(.c (b 3)),(.c (b 1))]),m 15 (.call false 61 [(.c (b 0)),(.c (i 24))]),m 16 (.call false 60 [(t 15),(.c (b 4)),(.c (b 3)),(.c (b 2))]),m 17 (.buildSlice 1 132 3 [(i 0),(i 0),(i 0),(b 0),(b 0),(b 0),(b 0),(b 0),(b 0),(b 0),(b 0),(i 0),(i 0),(b 0),(b 0),(b 0),(b 0),(b 0),(b 0),(b 0),(b 0),(b 0),(b 0),(b 0),(b 0),(b 0),(b 0),(b 0),(b 0),(i 0),(b 0),(b 0),(b 0),(b 0),(b 0),(b 0),(b 0),(b 0),(b 0),(b 0),(b 0),(b 0),(b 0),(b 0),(b 0),(b 0),(i 0),(b 0),(b 0),(b 0),(b 0),(b 0),(b 0),(b 0),(b 0),(b 0),(b 0),(b 0),(b 0),(b 0),(b 0),(b 0),(b 0),(.str []),(b 0),(b 0),(b 0),(b 0),(b 0),(b 0),(b 0),(b 0),(i 0),(b 0),(b 0),(b 0),(b 0),(b 0),(b 0),(b 0),(b 0),(b 0),(b 0),(b 0),(b 0),(b 0),(b 0),(b 0),(b 0),(i 0),(i 0),(i 0),(b 0),(b 0),(b 0),(b 0),(b 0),(b 0),(b 0),(b 0),(b 0),(b 0),(b 0),(b 0),(b 0),(b 0),(b 0),(b 0),(i 0),.nils,(i 0),(i 0),(i 0),(b 0),(b 0),(b 0),(b 0),(b 0),(b 0),(b 0),(b 0),(b 0),(b 0),(b 0),(b 0),(b 0),(b 0),(b 0),(b 0),.nils,.nils,.nils] [(0,(t 12)),(1,(t 14)),(2,(t 16))]),m 18 (.build [(i 0),(b 0),(b 0),(b 0),(b 0),(b 0),(b 0),(b 0),(b 0),(b 0),(b 0),(b 0),(b 0),(b 0),(b 0),(b 0),(b 0),(i 0),.nils,.nils,.nils,.nils,.nils] [(0,17,(t 10)),(17,1,(.c (i 65000))),(22,1,(t 17))]),m 2 (.alloc 2 [(i 0),(b 0),(b 0),(b 0),(b 0),(b 0),(b 0),(b 0),(b 0),(b 0),(b 0),(b 0),(b 0),(b 0),(b 0),(b 0),(b 0),(i 0),.nils,.nils,.nils,.nils,.nils]),e (.store 23 (t 2) (t 18))])<|
  .seq (.dreg [(m 20 (.load (some 30) (t 1)),[]),(m 21 (.load (some 23) (t 2)),[]),(m 22 (.call false 29 [(.c (b 10)),(.c (b 1)),(.c (b 0)),(.c (b 1))]),[]),(m 23 (.call false 27 [(t 20),(t 21),(t 22)]),[0,1,2,2]),(m 19 (.mov (t 23)),[3]),(m 24 (.extract 0 (t 19)),[4]),(m 25 (.extract 1 (t 19)),[4]),(m 3 (.alloc 3 [(i 0),(b 0),(b 0),(b 0),(b 0),(b 0),(b 0),(b 0),(b 0),(b 0),(b 0),(b 0),(b 0),(b 0),(b 0),(b 0),(b 0),(b 0),(b 0),(b 0),(b 0),(b 0),(b 0),(b 0),(b 0),(i 0),(b 0),(b 0),(b 0),(b 0),(b 0),(b 0),(b 0),(b 0)]),[]),(e (.store 34 (t 3) (t 24)),[7,5,3,0,1,2,3,4,5,7]),(m 4 (.mov (t 25)),[6,8,0,1,2,3,4,5,6,7,8])] [(2,0),(2,1),(2,2),(2,3),(2,4),(2,5),(2,6),(0,7),(0,8),(2,9)] [0,0,0,7,15,31,31,0,191,511])<|
  .seq (.dreg [(m 27 (.load (some 30) (t 1)),[]),(m 28 (.load (some 23) (t 2)),[]),(m 29 (.call false 29 [(.c (b 10)),(.c (b 1)),(.c (b 9)),(.c (b 1))]),[]),(m 30 (.call false 27 [(t 27),(t 28),(t 29)]),[0,1,2,2]),(m 26 (.mov (t 30)),[3]),(m 31 (.extract 0 (t 26)),[4]),(m 32 (.extract 1 (t 26)),[4]),(m 5 (.alloc 4 [(i 0),(b 0),(b 0),(b 0),(b 0),(b 0),(b 0),(b 0),(b 0),(b 0),(b 0),(b 0),(b 0),(b 0),(b 0),(b 0),(b 0),(b 0),(b 0),(b 0),(b 0),(b 0),(b 0),(b 0),(b 0),(i 0),(b 0),(b 0),(b 0),(b 0),(b 0),(b 0),(b 0),(b 0)]),[]),(e (.store 34 (t 5) (t 31)),[7,5,3,0,1,2,3,4,5,7]),(m 6 (.mov (t 32)),[6,8,0,1,2,3,4,5,6,7,8])] [(2,0),(2,1),(2,2),(2,3),(2,4),(2,5),(2,6),(0,7),(0,8),(2,9)] [0,0,0,7,15,31,31,0,191,511])<|
  .seq (.dreg [(m 34 (.load (some 30) (t 1)),[]),(m 35 (.load (some 23) (t 2)),[]),(m 36 (.call false 29 [(.c (b 10)),(.c (b 2)),(.c (b 0)),(.c (b 1))]),[]),(m 37 (.call false 27 [(t 34),(t 35),(t 36)]),[0,1,2,2]),(m 33 (.mov (t 37)),[3]),(m 38 (.extract 0 (t 33)),[4]),(m 39 (.extract 1 (t 33)),[4]),(m 7 (.alloc 5 [(i 0),(b 0),(b 0),(b 0),(b 0),(b 0),(b 0),(b 0),(b 0),(b 0),(b 0),(b 0),(b 0),(b 0),(b 0),(b 0),(b 0),(b 0),(b 0),(b 0),(b 0),(b 0),(b 0),(b 0),(b 0),(i 0),(b 0),(b 0),(b 0),(b 0),(b 0),(b 0),(b 0),(b 0)]),[]),(e (.store 34 (t 7) (t 38)),[7,5,3,0,1,2,3,4,5,7]),(m 8 (.mov (t 39)),[6,8,0,1,2,3,4,5,6,7,8])] [(2,0),(2,1),(2,2),(2,3),(2,4),(2,5),(2,6),(0,7),(0,8),(2,9)] [0,0,0,7,15,31,31,0,191,511])<|
  .seq (.dreg [(m 40 (.mov (t 4)),[]),(m 41 (.mov (t 40)),[0]),(g 42 41 true (.field 0 (t 3)),[1]),(g 43 41 true (.load (some 17) (t 42)),[2,1]),(g 44 41 true (.call false 29 [(.c (b 10)),(.c (b 0)),(.c (b 0)),(.c (b 2))]),[1,1]),(g 45 41 true (.eqAgg [(.i .i64),(.i .u8),(.i .u8),(.i .u8),(.i .u8),(.i .u8),(.i .u8),(.i .u8),(.i .u8),(.i .u8),(.i .u8),(.i .u8),(.i .u8),(.i .u8),(.i .u8),(.i .u8),(.i .u8)] false (t 43) (t 44)),[3,4,1]),(m 46 (.pick (t 41) (t 45) (.c (.bool false))),[1,5]),(m 47 (.mov (t 46)),[6,4]),(g 48 47 true (.field 25 (t 3)),[7]),(g 49 47 true (.load none (t 48)),[8,7]),(g 50 47 true (.bin .eql .num (t 49) (.c (i 65000))),[9,7]),(m 51 (.pick (t 47) (t 50) (.c (.bool false))),[7,10]),(m 52 (.mov (t 51)),[11,7]),(g 53 52 true (.mov (t 6)),[12]),(m 54 (.pick (t 52) (t 53) (.c (.bool false))),[12,13]),(m 55 (.mov (t 54)),[14,12]),(g 56 55 true (.field 0 (t 5)),[15]),(g 57 55 true (.load (some 17) (t 56)),[16,15]),(g 58 55 true (.call false 29 [(.c (b 10)),(.c (b 0)),(.c (b 0)),(.c (b 1))]),[15,15]),(g 59 55 true (.eqAgg [(.i .i64),(.i .u8),(.i .u8),(.i .u8),(.i .u8),(.i .u8),(.i .u8),(.i .u8),(.i .u8),(.i .u8),(.i .u8),(.i .u8),(.i .u8),(.i .u8),(.i .u8),(.i .u8),(.i .u8)] false (t 57) (t 58)),[17,18,15]),(m 60 (.pick (t 55) (t 59) (.c (.bool false))),[15,19]),(m 61 (.mov (t 60)),[20,18]),(g 62 61 true (.mov (t 8)),[21]),(g 63 61 true (.un .not (t 62)),[22,21]),(m 64 (.pick (t 61) (t 63) (.c (.bool false))),[21,23]),(m 0 (.mov (t 64)),[24,21,0,1,2,3,4,5,6,7,8,9,10,11,12,13,14,15,16,17,18,19,20,21,22,23,24])] [(2,0),(2,1),(1,2),(1,3),(1,4),(2,5),(2,6),(2,7),(1,8),(1,9),(2,10),(2,11),(2,12),(2,13),(2,14),(2,15),(1,16),(1,17),(1,18),(2,19),(2,20),(2,21),(2,22),(2,23),(2,24),(2,25)] [0,1,3,7,3,31,63,127,255,511,1023,2047,4095,8191,16383,32767,65535,131071,65535,524287,1048575,2097151,4194303,8388607,16777215,33554431])<|
  .ret
def vf24:VFun:=⟨65,6,vb24,[.tmp 0],false⟩
theorem cf24:cFun Go.Proofs.Tryz.prog rawF false Go.Proofs.Tryz.f24=some vf24:=by kernel_rfl
@[reducible] def vf25:VFun:=by
  have h:=hold Go.Proofs.Tryz.prog rawF false Go.Proofs.Tryz.f25
  conv at h=>arg 1;reduce
  simp only[Int.reduceOfNat] at h
  exact h.get
@[reducible] def vb25:VC:=vf25.body
theorem cf25:cFun Go.Proofs.Tryz.prog rawF false Go.Proofs.Tryz.f25=some vf25:=by kernel_rfl
theorem T25 {args:List PV} {σ:VHeap} {Post:KP} (h:belH σ.length σ→(∀ c,c∈args→bel σ.length c)→vrun Go.Proofs.Tryz.prog σ.length vb25 (argsEnv args) (σ++[dd]) (vend vf25 (TrimP σ.length Post))) (hl:args.length≤73:=by exact zB rfl):T Go.Proofs.Tryz.prog 25 args σ Post:=T.walk Go.Proofs.Tryz.func25 cf25 hl rfl h
@[reducible] def vf27:VFun:=by
  have h:=hold Go.Proofs.Tryz.prog rawF false Go.Proofs.Tryz.f27
  conv at h=>arg 1;reduce
  simp only[Int.reduceOfNat] at h
  exact h.get
@[reducible] def vb27:VC:=vf27.body
theorem cf27:cFun Go.Proofs.Tryz.prog rawF false Go.Proofs.Tryz.f27=some vf27:=by kernel_rfl
theorem T27 {args:List PV} {σ:VHeap} {Post:KP} (h:belH σ.length σ→(∀ c,c∈args→bel σ.length c)→vrun Go.Proofs.Tryz.prog σ.length vb27 (argsEnv args) (σ++[dd,dd,dd,dd,dd]) (vend vf27 (TrimP σ.length Post))) (hl:args.length≤22:=by exact zB rfl):T Go.Proofs.Tryz.prog 27 args σ Post:=T.walk Go.Proofs.Tryz.func27 cf27 hl rfl h
@[reducible] def vf109:VFun:=by
  have h:=hold Go.Proofs.Tryz.prog rawF false Go.Proofs.Tryz.f109
  conv at h=>arg 1;reduce
  simp only[Int.reduceOfNat] at h
  exact h.get
@[reducible] def vb109:VC:=vf109.body
theorem cf109:cFun Go.Proofs.Tryz.prog rawF false Go.Proofs.Tryz.f109=some vf109:=by kernel_rfl
theorem T109 {args:List PV} {σ:VHeap} {Post:KP} (h:belH σ.length σ→(∀ c,c∈args→bel σ.length c)→vrun Go.Proofs.Tryz.prog σ.length vb109 (argsEnv args) (σ++[dd,dd,dd,dd,dd]) (vend vf109 (TrimP σ.length Post))) (hl:args.length≤45:=by exact zB rfl):T Go.Proofs.Tryz.prog 109 args σ Post:=T.walk Go.Proofs.Tryz.func109 cf109 hl rfl h
@[reducible] def vf108:VFun:=by
  have h:=hold Go.Proofs.Tryz.prog rawF false Go.Proofs.Tryz.f108
  conv at h=>arg 1;reduce
  simp only[Int.reduceOfNat] at h
  exact h.get
@[reducible] def vb108:VC:=vf108.body
theorem cf108:cFun Go.Proofs.Tryz.prog rawF false Go.Proofs.Tryz.f108=some vf108:=by kernel_rfl
theorem T108 {args:List PV} {σ:VHeap} {Post:KP} (h:belH σ.length σ→(∀ c,c∈args→bel σ.length c)→vrun Go.Proofs.Tryz.prog σ.length vb108 (argsEnv args) (σ++[dd,dd,dd,dd]) (vend vf108 (TrimP σ.length Post))) (hl:args.length≤28:=by exact zB rfl):T Go.Proofs.Tryz.prog 108 args σ Post:=T.walk Go.Proofs.Tryz.func108 cf108 hl rfl h
@[reducible] def vf60:VFun:=by
  have h:=hold Go.Proofs.Tryz.prog rawF false Go.Proofs.Tryz.f60
  conv at h=>arg 1;reduce
  simp only[Int.reduceOfNat,Int.reduceNegSucc] at h
  exact h.get
@[reducible] def vb60:VC:=vf60.body
theorem cf60:cFun Go.Proofs.Tryz.prog rawF false Go.Proofs.Tryz.f60=some vf60:=by kernel_rfl
@[reducible] def vf61:VFun:=by
  have h:=hold Go.Proofs.Tryz.prog rawF false Go.Proofs.Tryz.f61
  conv at h=>arg 1;reduce
  simp only[Int.reduceOfNat] at h
  exact h.get
@[reducible] def vb61:VC:=vf61.body
theorem cf61:cFun Go.Proofs.Tryz.prog rawF false Go.Proofs.Tryz.f61=some vf61:=by kernel_rfl
@[reducible] def vf63:VFun:=by
  have h:=hold Go.Proofs.Tryz.prog rawF false Go.Proofs.Tryz.f63
  conv at h=>arg 1;reduce
  simp only[Int.reduceOfNat] at h
  exact h.get
@[reducible] def vb63:VC:=vf63.body
theorem cf63:cFun Go.Proofs.Tryz.prog rawF false Go.Proofs.Tryz.f63=some vf63:=by kernel_rfl
theorem T63 {args:List PV} {σ:VHeap} {Post:KP} (h:belH σ.length σ→(∀ c,c∈args→bel σ.length c)→vrun Go.Proofs.Tryz.prog σ.length vb63 (argsEnv args) (σ++[dd,dd,dd,dd,dd,dd,dd,dd,dd,dd,dd,dd,dd]) (vend vf63 (TrimP σ.length Post))) (hl:args.length≤88:=by exact zB rfl):T Go.Proofs.Tryz.prog 63 args σ Post:=T.walk Go.Proofs.Tryz.func63 cf63 hl rfl h
@[reducible] def vf64:VFun:=by
  have h:=hold Go.Proofs.Tryz.prog rawF false Go.Proofs.Tryz.f64
  conv at h=>arg 1;reduce
  simp only[Int.reduceOfNat] at h
  exact h.get
@[reducible] def vb64:VC:=vf64.body
theorem cf64:cFun Go.Proofs.Tryz.prog rawF false Go.Proofs.Tryz.f64=some vf64:=by kernel_rfl
theorem T64 {args:List PV} {σ:VHeap} {Post:KP} (h:belH σ.length σ→(∀ c,c∈args→bel σ.length c)→vrun Go.Proofs.Tryz.prog σ.length vb64 (argsEnv args) (σ++[dd,dd]) (vend vf64 (TrimP σ.length Post))) (hl:args.length≤33:=by exact zB rfl):T Go.Proofs.Tryz.prog 64 args σ Post:=T.walk Go.Proofs.Tryz.func64 cf64 hl rfl h
@[reducible] def vf65:VFun:=by
  have h:=hold Go.Proofs.Tryz.prog rawF false Go.Proofs.Tryz.f65
  conv at h=>arg 1;reduce
  simp only[Int.reduceOfNat] at h
  exact h.get
@[reducible] def vb65:VC:=vf65.body
theorem cf65:cFun Go.Proofs.Tryz.prog rawF false Go.Proofs.Tryz.f65=some vf65:=by kernel_rfl
theorem T65 {args:List PV} {σ:VHeap} {Post:KP} (h:belH σ.length σ→(∀ c,c∈args→bel σ.length c)→vrun Go.Proofs.Tryz.prog σ.length vb65 (argsEnv args) (σ++[dd,dd,dd]) (vend vf65 (TrimP σ.length Post))) (hl:args.length≤24:=by exact zB rfl):T Go.Proofs.Tryz.prog 65 args σ Post:=T.walk Go.Proofs.Tryz.func65 cf65 hl rfl h
@[reducible] def vf69:VFun:=by
  have h:=hold Go.Proofs.Tryz.prog rawF false Go.Proofs.Tryz.f69
  conv at h=>arg 1;reduce
  simp only[Int.reduceOfNat,Int.reduceNegSucc] at h
  exact h.get
@[reducible] def vb69:VC:=vf69.body
theorem cf69:cFun Go.Proofs.Tryz.prog rawF false Go.Proofs.Tryz.f69=some vf69:=by kernel_rfl
theorem T69 {args:List PV} {σ:VHeap} {Post:KP} (h:belH σ.length σ→(∀ c,c∈args→bel σ.length c)→vrun Go.Proofs.Tryz.prog σ.length vb69 (argsEnv args) (σ++[]) (vend vf69 (TrimP σ.length Post))) (hl:args.length≤20:=by exact zB rfl):T Go.Proofs.Tryz.prog 69 args σ Post:=T.walk Go.Proofs.Tryz.func69 cf69 hl rfl h
@[reducible] def vf114:VFun:=by
  have h:=hold Go.Proofs.Tryz.prog rawF false Go.Proofs.Tryz.f114
  conv at h=>arg 1;reduce
  exact h.get
@[reducible] def vb114:VC:=vf114.body
theorem cf114:cFun Go.Proofs.Tryz.prog rawF false Go.Proofs.Tryz.f114=some vf114:=by kernel_rfl
theorem T114 {args:List PV} {σ:VHeap} {Post:KP} (h:belH σ.length σ→(∀ c,c∈args→bel σ.length c)→vrun Go.Proofs.Tryz.prog σ.length vb114 (argsEnv args) (σ++[]) (vend vf114 (TrimP σ.length Post))) (hl:args.length≤6:=by exact zB rfl):T Go.Proofs.Tryz.prog 114 args σ Post:=T.walk Go.Proofs.Tryz.func114 cf114 hl rfl h
@[reducible] def vf22:VFun:=by
  have h:=hold Go.Proofs.Tryz.prog rawF false Go.Proofs.Tryz.f22
  conv at h=>arg 1;reduce
  simp only[Int.reduceOfNat] at h
  exact h.get
@[reducible] def vb22:VC:=vf22.body
theorem cf22:cFun Go.Proofs.Tryz.prog rawF false Go.Proofs.Tryz.f22=some vf22:=by kernel_rfl
theorem T22 {args:List PV} {σ:VHeap} {Post:KP} (h:belH σ.length σ→(∀ c,c∈args→bel σ.length c)→vrun Go.Proofs.Tryz.prog σ.length vb22 (argsEnv args) (σ++[dd,dd,dd,dd,dd,dd,dd]) (vend vf22 (TrimP σ.length Post))) (hl:args.length≤26:=by exact zB rfl):T Go.Proofs.Tryz.prog 22 args σ Post:=T.walk Go.Proofs.Tryz.func22 cf22 hl rfl h
@[reducible] def vf111:VFun:=by
  have h:=hold Go.Proofs.Tryz.prog rawF false Go.Proofs.Tryz.f111
  conv at h=>arg 1;reduce
  simp only[Int.reduceOfNat] at h
  exact h.get
@[reducible] def vb111:VC:=vf111.body
theorem cf111:cFun Go.Proofs.Tryz.prog rawF false Go.Proofs.Tryz.f111=some vf111:=by kernel_rfl
theorem T111 {args:List PV} {σ:VHeap} {Post:KP} (h:belH σ.length σ→(∀ c,c∈args→bel σ.length c)→vrun Go.Proofs.Tryz.prog σ.length vb111 (argsEnv args) (σ++[dd,dd,dd]) (vend vf111 (TrimP σ.length Post))) (hl:args.length≤47:=by exact zB rfl):T Go.Proofs.Tryz.prog 111 args σ Post:=T.walk Go.Proofs.Tryz.func111 cf111 hl rfl h
end Go.Proofs.YtdpeaefgbmkegaaGreatDoor
