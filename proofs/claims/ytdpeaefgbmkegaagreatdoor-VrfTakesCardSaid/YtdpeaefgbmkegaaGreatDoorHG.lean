/- bytes.Equal; uroute.Bytes, whose row is the caller's. -/
import Derived.Test.YtdpeaefgbmkegaaGreatDoorGB
namespace Go.Proofs.YtdpeaefgbmkegaaGreatDoor
open Go Go.V
set_option maxRecDepth 10000
theorem uEqual {a b:List UInt8}:U Tryz.prog 258 [.sl (bsl a),.sl (bsl b)] (.bool (decide (a=b))):=by
 intro σ Post hk
 refine T258 fun hB hA=>?_
 refine W ?_
 exact hk
theorem tNumOk {σ:VHeap} {Post:KP} {id g:Nat} {l:List UInt8} {z:Nat} (h:vGet σ id g=some (.box [.sl (bsl l),.bool false] false)) (h1:1≤z) (h4:z≤4) (hl:z≤l.length)
  (hk:Post (.int .i64 (big (l.take z) 0)) (σ.set id (g,.box [.sl (bsl (l.drop z)),.bool false] false))):T Tryz.prog 54 [.ptr id g 0,.int .i64 z] σ Post:=by
 refine tNum h fun l1 l2 b hb=>?_
 rw[if_neg (by simp;omega),Int.toNat_natCast] at hb
 obtain⟨rfl,rfl,rfl⟩:=hb
 exact hk
def highS (k:Int):Int × Bool:=if k=0 then(2,true) else if k=1∨k=2 then(4,true) else(0,false)
theorem uHigh {k:Int}:U Tryz.prog 127 [.int .i64 k] (.tup [.int .i64 (highS k).1,.bool (highS k).2]):=by
 intro σ Post hk
 unfold highS at hk
 refine T127 fun hB hA=>?_
 by_cases h0:k=0
 ·rw[if_pos h0] at hk
  refine W ?_
  exact hk
 ·rw[if_neg h0] at hk
  by_cases h1:k=1
  ·rw[if_pos (.inl h1)] at hk
   refine W ?_
   exact hk
  ·by_cases h2:k=2
   ·rw[if_pos (.inr h2)] at hk
    refine W ?_
    exact hk
   ·rw[if_neg (by omega)] at hk
    refine W ?_
    exact hk
def kindD (d:List UInt8):Nat:=big (d.take 2) 0
def hiN (d:List UInt8):Nat:=if kindD d=0 then 2 else 4
def highD (d:List UInt8):Nat:=big ((d.drop 2).take (hiN d)) 0
def lowD (d:List UInt8):Nat:=big ((d.drop 2).drop (hiN d)) 0
theorem uParts {d:List UInt8} (hd:d.length=8):(kindD d≤2→U Tryz.prog 87 [.agg (u8c d)] (.tup [.int .i64 (kindD d),.int .i64 (highD d),.int .i64 (lowD d),.bool true]))∧(¬ kindD d≤2→U Tryz.prog 87 [.agg (u8c d)] (.tup [.int .i64 0,.int .i64 0,.int .i64 0,.bool false])):=by
 have hs:=u8c_sc d
 have hlen:(u8c d).length=8:=by rw[u8c_len,hd]
 have td:d.take 8=d:=List.take_of_length_le (by omega)
 constructor
 ·intro hkk σ Post hk
  refine T87 fun hB hA=>?_
  refine W ?_
  refine ct ?_
  rw[td]
  refine tOpen (l:=d) (by omega) ?_
  refine W ?_
  refine ct ?_
  refine tNumOk (l:=d) (z:=2) (lget rfl rfl) (by omega) (by omega) (by omega) ?_
  rw[lset rfl]
  refine W ?_
  refine cu (uHigh (k:=(kindD d:Int))) ?_
  have e1:highS (kindD d:Int)=((hiN d:Int),true):=by
   unfold highS hiN
   by_cases h0:kindD d=0
   ·simp[h0]
   ·rw[if_neg (by omega),if_pos (by omega),if_neg h0];rfl
  rw[e1]
  have hh:2≤hiN d∧hiN d≤4:=by unfold hiN;split<;>omega
  refine W ?_
  refine ct ?_
  refine tNumOk (l:=d.drop 2) (z:=hiN d) (lget rfl rfl) (by omega) (by omega) (by simp;omega) ?_
  rw[lset rfl]
  refine W ?_
  refine ct ?_
  refine tLeft (lget rfl rfl) ?_
  refine W ?_
  refine ct ?_
  have e2:((d.drop 2).drop (hiN d)).length=6 - hiN d:=by simp;omega
  have e4:(bsl ((d.drop 2).drop (hiN d))).length=6 - hiN d:=by rw[bsl_len,e2]
  have e3:2≤6 - hiN d:=by omega
  rw[if_neg (show ¬ (false=true) by decide),e4]
  refine tNumOk (l:=(d.drop 2).drop (hiN d)) (z:=6 - hiN d) (lget rfl rfl) (by omega) (by omega) (by omega) ?_
  rw[lset rfl,List.take_of_length_le (l:=(d.drop 2).drop (hiN d)) (by omega)]
  refine W ?_
  exact hk
 ·intro hkk σ Post hk
  refine T87 fun hB hA=>?_
  refine W ?_
  refine ct ?_
  rw[td]
  refine tOpen (l:=d) (by omega) ?_
  refine W ?_
  refine ct ?_
  refine tNumOk (l:=d) (z:=2) (lget rfl rfl) (by omega) (by omega) (by omega) ?_
  rw[lset rfl]
  refine W ?_
  refine cu (uHigh (k:=(kindD d:Int))) ?_
  have e1:highS (kindD d:Int)=(0,false):=by
   unfold highS
   rw[if_neg (by omega),if_neg (by omega)]
  rw[e1]
  refine W ?_
  exact hk
end Go.Proofs.YtdpeaefgbmkegaaGreatDoor
