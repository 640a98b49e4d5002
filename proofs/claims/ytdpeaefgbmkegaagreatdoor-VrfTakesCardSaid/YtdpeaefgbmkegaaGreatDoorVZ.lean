/- The seat: its tables, which functions leave the heap alone; short words for its functions' text. -/
import Derived.Test.YtdpeaefgbmkegaaGreatDoorEB
import Derived.Test.YtdpeaefgbmkegaaGreatDoorProg
namespace Go.Proofs.YtdpeaefgbmkegaaGreatDoor
open Go Go.V
namespace D
@[reducible] def i (n:Int):PV:=.int .i64 n
@[reducible] def b (n:Int):PV:=.int .u8 n
@[reducible] def o:PV:=.int .u8 0
@[reducible] def q:PV:=.int .i64 0
@[reducible] def t (k:Nat):VA:=.t k
@[reducible] def m (d:Nat) (o:VOp):VO:=⟨some d,o,none⟩
@[reducible] def e (o:VOp):VO:=⟨none,o,none⟩
@[reducible] def g (d s:Nat) (p:Bool) (o:VOp):VO:=⟨some d,o,some (s,p)⟩
@[reducible] def dd:Nat × VObj:=(0,.dead)
@[reducible] def Mv (d s:Nat):VO:=m d (.mov (t s))
@[reducible] def Rg (l:List VO) (c:VC):VC:=.seq (.region l) c
@[reducible] def Gt (d s:Nat) (x:VOp):VO:=g d s true x
@[reducible] def Gf (d s:Nat) (x:VOp):VO:=g d s false x
@[reducible] def Fl (k s:Nat):VOp:=.field k (t s)
@[reducible] def Ld (s:Nat):VOp:=.load none (t s)
@[reducible] def Ls (n s:Nat):VOp:=.load (some n) (t s)
@[reducible] def Bt:VA:=.c (.bool true)
@[reducible] def Bf:VA:=.c (.bool false)
@[reducible] def Ci (n:Int):VA:=.c (i n)
end D
def u8s (l:List Int):List PV:=l.map fun n=>.int .u8 n
def gt1:List PV:=[.int .u64 1,.int .u64 10,.int .u64 100,.int .u64 1000,.int .u64 10000,.int .u64 100000,.int .u64 1000000,.int .u64 10000000,.int .u64 100000000,.int .u64 1000000000,.int .u64 10000000000,.int .u64 100000000000,.int .u64 1000000000000,.int .u64 10000000000000,.int .u64 100000000000000,.int .u64 1000000000000000,.int .u64 10000000000000000,.int .u64 100000000000000000,.int .u64 1000000000000000000,.int .u64 10000000000000000000]
def gt4:List PV:=u8s [0,1,28,2,29,14,24,3,30,22,20,15,25,17,4,8,31,27,13,23,21,19,16,7,26,12,18,6,11,5,10,9]
def gt5:List PV:=u8s [0,1,56,2,57,49,28,3,61,58,42,50,38,29,17,4,62,47,59,36,45,43,51,22,53,39,33,30,24,18,12,5,63,55,48,27,60,41,37,16,46,35,44,21,52,32,23,11,54,26,40,15,34,20,31,10,25,14,19,9,13,8,7,6]
def loud:List Nat:=[34,35,36,37,52,54,64,75,76,78,79,96,97,104,122,123,128,139,143,144,163,171,172,173,187,203,207,211,213,215,221,222,233,256,265,266,267,268,269,270,271,275,276,277,281,283,284]
instance:Glob:=⟨fun x=>match x with
 | 1=>some gt1
 | 4=>some gt4
 | 5=>some gt5
 | _=>none,fun f=>!memN loud f⟩
def rawF (_:FuncId):Bool:=false
abbrev HT (σ:VHeap) (args:List PV) (Post:KP) (c:VC) (vf:VFun) (d:VHeap):Prop:=belH σ.length σ→(∀ c,c∈args→bel σ.length c)→vrun Tryz.prog σ.length c (argsEnv args) (σ++d) (vend vf (TrimP σ.length Post))
theorem _root_.Go.V.zB {a b:Nat} (h:Nat.ble a b=true):a≤b:=Nat.le_of_ble_eq_true h
end Go.Proofs.YtdpeaefgbmkegaaGreatDoor
