/- Functions of the program, in the small language. -/
import Derived.Test.YtdpeaefgbmkegaaGreatDoorVZ
namespace Go.Proofs.YtdpeaefgbmkegaaGreatDoor
open Go Go.V D
variable {args:List PV} {σ:VHeap} {Post:KP}
@[reducible] def vb177:VC:=
  Rg [m 4 (.mov (.c (.str [])))]<|
  .seq (Rg [Mv 10 1,m 11 (.bin .eql .num (t 10) (Ci 10))]<|
  .cond (t 11) (.seq (Rg [Mv 12 0,m 13 (.bin .leq .num (.c q) (t 12)),Mv 14 13,Gt 15 14 (.mov (t 0)),Gt 16 14 (.bin .lss .num (t 15) (Ci 100)),m 17 (.pick (t 14) (t 16) Bf)]<|
  .cond (t 17) (Rg [Mv 18 0,m 19 (.call false 224 [(t 18)]),Mv 4 19]<|
  .ret) (.skip))<|
  Rg [m 5 (.alloc 0 [o,o,o,o,o,o,o,o,o,o,o,o,o,o,o,o,o,o,o,o,o,o,o,o])]<|
  Rg [Mv 20 0,m 21 (.convInt .u64 (t 20)),Mv 6 21]<|
  .seq (Rg [Mv 22 0,m 23 (.bin .lss .num (t 22) (.c q))]<|
  .cond (t 23) (.region [Mv 24 6,m 25 (.un .neg (t 24)),Mv 6 25]) (.skip))<|
  Rg [Mv 26 6,m 27 (.call false 225 [(t 26)]),Mv 7 27]<|
  Rg [Mv 28 7,m 29 (.bin .add .num (Ci 1) (t 28)),m 30 (.sliceArr 24 1 (t 5) (some (Ci 1)) (some (t 29))),Mv 31 6,m 32 (.call false 226 [(t 30),(t 31)])]<|
  .seq (Rg [Mv 33 0,m 34 (.bin .lss .num (t 33) (.c q))]<|
  .cond (t 34) (Rg [m 35 (.indexArr 24 1 (t 5) (.c q)),e (.store 1 (t 35) (.c (b 45)))]<|
  Rg [Mv 36 7,m 37 (.bin .add .num (Ci 1) (t 36)),m 38 (.sliceArr 24 1 (t 5) none (some (t 37))),m 39 (.b2s (t 38)),Mv 4 39]<|
  .ret) (.skip))<|
  Rg [Mv 40 7,m 41 (.bin .add .num (Ci 1) (t 40)),m 42 (.sliceArr 24 1 (t 5) (some (Ci 1)) (some (t 41))),m 43 (.b2s (t 42)),Mv 4 43]<|
  .ret) (.skip))<|
  Rg [Mv 45 0,m 46 (.convInt .u64 (t 45)),Mv 47 1,Mv 48 0,m 49 (.bin .lss .num (t 48) (.c q)),m 50 (.call false 227 [(.c .nils),(t 46),(t 47),(t 49),Bf]),Mv 44 50,m 51 (.extract 0 (t 44)),m 52 (.extract 1 (t 44)),Mv 8 51,Mv 9 52]<|
  Rg [Mv 53 9,Mv 4 53]<|
  .ret
def vf177:VFun:=⟨54,1,vb177,[.tmp 4],false⟩
theorem cf177:cFun Tryz.prog rawF false Tryz.f177=some vf177:=by kernel_rfl
theorem T177 (h:HT σ args Post vb177 vf177 [dd]) (hl:args.length≤54:=by exact zB rfl):T Tryz.prog 177 args σ Post:=T.walk Tryz.func177 cf177 hl rfl h
@[reducible] def vb227:VC:=
  Rg [m 10 (.newRow 0 1),m 11 (.mov (.c (.str [])))]<|
  .seq (Rg [Mv 19 2,m 20 (.bin .lss .num (t 19) (Ci 2)),Mv 21 20,Gf 22 21 (.mov (t 2)),Gf 23 21 (.bin .eql .num (t 22) (Ci 10)),m 24 (.pick (t 21) Bt (t 23)),Mv 25 24,Gf 26 25 (.mov (t 2)),Gf 27 25 (.bin .gtr .num (t 26) (Ci 36)),m 28 (.pick (t 25) Bt (t 27))]<|
  .cond (t 28) (.region [m 29 (.bad),e (.bad)]) (.skip))<|
  Rg [m 12 (.alloc 1 (List.replicate 65 o))]<|
  Rg [m 13 (.mov (Ci 65))]<|
  .seq (Rg [Mv 30 3]<|
  .cond (t 30) (.region [Mv 31 1,m 32 (.un .neg (t 31)),Mv 1 32]) (.skip))<|
  .seq (Rg [Mv 33 2,m 34 (.call false 249 [(t 33)])]<|
  .cond (t 34) (Rg [Mv 35 2,m 36 (.convInt .u64 (t 35)),m 37 (.call false 250 [(t 36)]),m 38 (.convInt .u64 (t 37)),Mv 14 38]<|
  Rg [Mv 39 2,m 40 (.convInt .u64 (t 39)),Mv 15 40]<|
  Rg [Mv 41 2,m 42 (.convInt .u64 (t 41)),m 43 (.bin .sub .num (t 42) (.c (.int .u64 1))),Mv 16 43]<|
  .seq (.block 0<|.loop<|.seq (Rg [Mv 44 1,Mv 45 15,m 46 (.bin .geq .num (t 44) (t 45))]<|
  .cond (t 46) (.skip) (.exit 0))<|
  .block 1<|Rg [Mv 47 13,m 48 (.bin .sub .num (t 47) (Ci 1)),Mv 13 48]<|
  Rg [Mv 49 13,Mv 50 1,Mv 51 16,m 52 (.bin .and .num (t 50) (t 51)),m 53 (.indexStr (.c (.str [48,49,50,51,52,53,54,55,56,57,97,98,99,100,101,102,103,104,105,106,107,108,109,110,111,112,113,114,115,116,117,118,119,120,121,122])) (t 52)),m 54 (.indexArr 65 1 (t 12) (t 49)),e (.store 1 (t 54) (t 53))]<|
  .region [Mv 55 1,Mv 56 14,m 57 (.bin .shr .num (t 55) (t 56)),Mv 1 57])<|
  Rg [Mv 58 13,m 59 (.bin .sub .num (t 58) (Ci 1)),Mv 13 59]<|
  .region [Mv 60 13,Mv 61 1,m 62 (.indexStr (.c (.str [48,49,50,51,52,53,54,55,56,57,97,98,99,100,101,102,103,104,105,106,107,108,109,110,111,112,113,114,115,116,117,118,119,120,121,122])) (t 61)),m 63 (.indexArr 65 1 (t 12) (t 60)),e (.store 1 (t 63) (t 62))]) (Rg [Mv 64 2,m 65 (.convInt .u64 (t 64)),Mv 17 65]<|
  .seq (.block 2<|.loop<|.seq (Rg [Mv 66 1,Mv 67 17,m 68 (.bin .geq .num (t 66) (t 67))]<|
  .cond (t 68) (.skip) (.exit 2))<|
  .block 3<|Rg [Mv 69 13,m 70 (.bin .sub .num (t 69) (Ci 1)),Mv 13 70]<|
  Rg [Mv 71 1,Mv 72 17,m 73 (.bin .quo .num (t 71) (t 72)),Mv 18 73]<|
  Rg [Mv 74 13,Mv 75 1,Mv 76 18,Mv 77 17,m 78 (.bin .mul .num (t 76) (t 77)),m 79 (.bin .sub .num (t 75) (t 78)),m 80 (.indexStr (.c (.str [48,49,50,51,52,53,54,55,56,57,97,98,99,100,101,102,103,104,105,106,107,108,109,110,111,112,113,114,115,116,117,118,119,120,121,122])) (t 79)),m 81 (.indexArr 65 1 (t 12) (t 74)),e (.store 1 (t 81) (t 80))]<|
  .region [Mv 82 18,Mv 1 82])<|
  Rg [Mv 83 13,m 84 (.bin .sub .num (t 83) (Ci 1)),Mv 13 84]<|
  .region [Mv 85 13,Mv 86 1,m 87 (.indexStr (.c (.str [48,49,50,51,52,53,54,55,56,57,97,98,99,100,101,102,103,104,105,106,107,108,109,110,111,112,113,114,115,116,117,118,119,120,121,122])) (t 86)),m 88 (.indexArr 65 1 (t 12) (t 85)),e (.store 1 (t 88) (t 87))]))<|
  .seq (Rg [Mv 89 3]<|
  .cond (t 89) (Rg [Mv 90 13,m 91 (.bin .sub .num (t 90) (Ci 1)),Mv 13 91]<|
  .region [Mv 92 13,m 93 (.indexArr 65 1 (t 12) (t 92)),e (.store 1 (t 93) (.c (b 45)))]) (.skip))<|
  .seq (Rg [Mv 94 4]<|
  .cond (t 94) (Rg [Mv 95 0,Mv 96 13,m 97 (.sliceArr 65 1 (t 12) (some (t 96)) none),m 98 (.append 2 1 1 (t 95) (t 97)),Mv 10 98]<|
  .ret) (.skip))<|
  Rg [Mv 99 13,m 100 (.sliceArr 65 1 (t 12) (some (t 99)) none),m 101 (.b2s (t 100)),Mv 11 101]<|
  .ret
def vf227:VFun:=⟨102,3,vb227,[.tmp 10,.tmp 11],false⟩
theorem cf227:cFun Tryz.prog rawF false Tryz.f227=some vf227:=by kernel_rfl
theorem T227 (h:HT σ args Post vb227 vf227 [dd,dd,dd]) (hl:args.length≤102:=by exact zB rfl):T Tryz.prog 227 args σ Post:=T.walk Tryz.func227 cf227 hl rfl h
@[reducible] def vb223:VC:=
  Rg [m 4 (.mov (.c (.str [])))]<|
  Rg [Mv 5 0,Mv 6 1,m 7 (.call false 177 [(t 5),(t 6)]),Mv 4 7]<|
  .ret
def vf223:VFun:=⟨8,0,vb223,[.tmp 4],false⟩
theorem cf223:cFun Tryz.prog rawF false Tryz.f223=some vf223:=by kernel_rfl
theorem T223 (h:HT σ args Post vb223 vf223 []) (hl:args.length≤8:=by exact zB rfl):T Tryz.prog 223 args σ Post:=T.walk Tryz.func223 cf223 hl rfl h
@[reducible] def vb249:VC:=
  Rg [m 2 (.mov Bf)]<|
  Rg [Mv 3 0,Mv 4 0,m 5 (.bin .sub .num (t 4) (Ci 1)),m 6 (.bin .and .num (t 3) (t 5)),m 7 (.bin .eql .num (t 6) (.c q)),Mv 2 7]<|
  .ret
def vf249:VFun:=⟨8,0,vb249,[.tmp 2],false⟩
theorem cf249:cFun Tryz.prog rawF false Tryz.f249=some vf249:=by kernel_rfl
theorem T249 (h:HT σ args Post vb249 vf249 []) (hl:args.length≤8:=by exact zB rfl):T Tryz.prog 249 args σ Post:=T.walk Tryz.func249 cf249 hl rfl h
@[reducible] def vb250:VC:=
  Rg [m 2 (.mov (.c q))]<|
  .seq (.cond Bf (Rg [Mv 3 0,m 4 (.convInt .u32 (t 3)),m 5 (.call false 262 [(t 4)]),Mv 2 5]<|
  .ret) (.skip))<|
  Rg [Mv 6 0,m 7 (.call false 263 [(t 6)]),Mv 2 7]<|
  .ret
def vf250:VFun:=⟨8,0,vb250,[.tmp 2],false⟩
theorem cf250:cFun Tryz.prog rawF false Tryz.f250=some vf250:=by kernel_rfl
theorem T250 (h:HT σ args Post vb250 vf250 []) (hl:args.length≤8:=by exact zB rfl):T Tryz.prog 250 args σ Post:=T.walk Tryz.func250 cf250 hl rfl h
@[reducible] def vb263:VC:=
  Rg [m 2 (.mov (.c q))]<|
  .seq (Rg [Mv 3 0,m 4 (.bin .eql .num (t 3) (.c (.int .u64 0)))]<|
  .cond (t 4) (Rg [m 2 (.mov (Ci 64))]<|
  .ret) (.skip))<|
  Rg [Mv 5 0,Mv 6 0,m 7 (.un .neg (t 6)),m 8 (.bin .and .num (t 5) (t 7)),m 9 (.bin .mul .num (t 8) (.c (.int .u64 285870213051353865))),m 10 (.bin .shr .num (t 9) (.c (.int .u64 58))),m 11 (.indexArr 64 1 (.c (.iptr gt5 0)) (t 10)),m 12 (Ld 11),m 13 (.convInt .i64 (t 12)),Mv 2 13]<|
  .ret
def vf263:VFun:=⟨14,0,vb263,[.tmp 2],false⟩
theorem cf263:cFun Tryz.prog rawF false Tryz.f263=some vf263:=by kernel_rfl
theorem T263 (h:HT σ args Post vb263 vf263 []) (hl:args.length≤14:=by exact zB rfl):T Tryz.prog 263 args σ Post:=T.walk Tryz.func263 cf263 hl rfl h
end Go.Proofs.YtdpeaefgbmkegaaGreatDoor
