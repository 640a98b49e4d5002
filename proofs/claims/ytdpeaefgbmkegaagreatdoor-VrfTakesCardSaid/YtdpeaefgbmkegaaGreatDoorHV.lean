/- What the closed cases share. -/
import Derived.Test.YtdpeaefgbmkegaaGreatDoorHL
import Derived.Test.YtdpeaefgbmkegaaGreatDoorGC
import Derived.Test.YtdpeaefgbmkegaaGreatDoorF3
import Derived.Test.YtdpeaefgbmkegaaGreatDoorF4
import Derived.Test.YtdpeaefgbmkegaaGreatDoorHQ
import Derived.Test.YtdpeaefgbmkegaaGreatDoorF55
import Derived.Test.YtdpeaefgbmkegaaGreatDoorHS
namespace Go.Proofs.YtdpeaefgbmkegaaGreatDoor
open Go Go.V
set_option maxRecDepth 10000
def ip4 (a b c d:UInt8):Ad:=⟨4,[a,b,c,d,0,0,0,0,0,0,0,0,0,0,0,0]⟩
def w1:Ad:=ip4 10 0 0 1
def w2:Ad:=ip4 10 0 0 2
def w9:Ad:=ip4 10 0 0 9
def mI:Mr:=⟨1,[0,0,0,1,0,0,0,1],0,ad0,ad0,w1,[]⟩
theorem mI_p:RightP mI:=⟨rfl,rfl,by decide,by decide,fun _=>rfl,fun h=>by revert h;decide⟩
theorem mI_right:rightF mI=true:=rightG_of mI_p (fun h=>by cases h)
theorem mI_size:szF 4 mI=true:=by
 unfold szF sizedG
 rw[show sizeOk mI 4=true from rfl,show decide (mI.k≠4)=true from rfl];rfl
theorem mI_one:mOne mI 4=true:=by unfold mOne;rw[mI_right,mI_size];rfl
def factSpec:List (Nat × List PV × PV)→XE→XE
 | [],e=>e
 | (f,a,r)::l,e=>fun g args=>cond (Nat.beq g f) (cond (eqL (eqPV 9) a args) (some r) (factSpec l e g args)) (factSpec l e g args)
theorem factSpec_ok {e:XE} (he:SpecOk Tryz.prog e):∀ (l:List (Nat × List PV × PV)),(∀ p,p∈l→U Tryz.prog p.1 p.2.1 p.2.2)→SpecOk Tryz.prog (factSpec l e)
 | [],_=>he
 | (f,a,r)::l,h=>by
   have ih:=factSpec_ok he l fun p hp=>h p (List.mem_cons_of_mem _ hp)
   have h0:=h (f,a,r) List.mem_cons_self
   intro g args v hv
   unfold factSpec at hv
   cases e1:Nat.beq g f with
   | false=>rw[e1] at hv;exact ih g args v hv
   | true=>
     rw[e1] at hv;have e1:=Nat.eq_of_beq_eq_true e1;subst e1
     dsimp only[cond] at hv
     cases e2:eqL (eqPV 9) a args with
     | false=>rw[e2] at hv;exact ih g args v hv
     | true=>
       rw[e2] at hv
       dsimp only at hv
       cases hv
       rw[← eqL_ok (eqPV_ok 9) _ _ e2];exact h0
def extK (K:List Nat):XE:=fun f args=>match args with
 | []=>cond (Nat.ble 1000000 f&&K.any (Nat.beq (f - 1000000))) (some (.bool true)) none
 | _::_=>none
theorem extK_ok {K:List Nat} (h:∀ f,f∈K→callOk Tryz.prog f=true):ExtOk Tryz.prog (extK K):=by
 constructor
 ·intro f args v hf hx
  unfold extK at hx
  split at hx
  ·have:Nat.ble 1000000 f=false:=by
    cases hb:Nat.ble 1000000 f with
    | false=>rfl
    | true=>exact absurd hf (Nat.not_lt.2 (Nat.le_of_ble_eq_true hb))
   rw[this] at hx;cases hx
  ·cases hx
 ·intro f hx
  unfold extK at hx
  dsimp only at hx
  cases hk:K.any (Nat.beq (1000000+f - 1000000)) with
  | false=>rw[hk,Bool.and_false] at hx;cases hx
  | true=>
    obtain⟨k,hm,he⟩:=List.any_eq_true.1 hk
    have e:=Nat.eq_of_beq_eq_true he
    rw[Nat.add_sub_cancel_left] at e
    rw[e]
    exact h k hm
def r0:Rt:=⟨4,5,mI,(nm0,0),w1,⟨0,[],-1,100,ad0,[],[],[]⟩⟩
def r1:Rt:=⟨4,5,mI,(nm0,0),w1,⟨0,[],-1,100,w1,[w9],[],[]⟩⟩
def c0:Ch:=⟨r0,1,w1⟩
theorem rtT0:rtT r0=true:=by
 unfold rtT
 rw[show r0.m=mI from rfl,show r0.size=4 from rfl,show r0.safi=5 from rfl,if_pos rfl,mI_one];rfl
theorem rtT1:rtT r1=true:=by
 unfold rtT
 rw[show r1.m=mI from rfl,show r1.size=4 from rfl,show r1.safi=5 from rfl,if_pos rfl,mI_one];rfl
theorem rtR0:rtR r0=true:=by
 unfold rtR
 rw[rtT0,show r0.safi=5 from rfl,if_pos rfl,show r0.u=(nm0,0) from rfl,eqUr_self];rfl
theorem rtR1:rtR r1=true:=by
 unfold rtR
 rw[rtT1,show r1.safi=5 from rfl,if_pos rfl,show r1.u=(nm0,0) from rfl,eqUr_self];rfl
theorem tells1:tellsF w9 true c0 1 0 2 w2=(r1,true):=by
 have e:clR w9 (origR c0)=r1:=rfl
 unfold tellsF
 rw[show c0.route=r0 from rfl,rtR0,if_neg (by decide),if_neg (by decide),if_neg (by decide)]
 unfold passF
 rw[e,if_pos ⟨rtR1,by decide⟩]
theorem tells2:tellsF w9 true c0 0 0 2 w2=(rt0,false):=by
 unfold tellsF
 rw[show c0.route=r0 from rfl,rtR0,if_neg (by decide),if_neg (by decide),if_pos (by decide)]
theorem takes1:takesF 65000 w9 ad0 r0=true:=by
 unfold takesF;rw[rtR0];rfl
theorem takes2:takesF 65000 w9 w9 r1=false:=by
 unfold takesF;rw[rtR1];rfl
theorem okR0:okRib r0:=
 ⟨⟨⟨rfl,rfl,rfl,rfl⟩,(by first|exact⟨rfl,rfl⟩|exact⟨rfl,rfl,rfl⟩|exact⟨rfl⟩),rfl,⟨rfl⟩⟩,fun _ h=>(by cases h),fun _ h=>(by cases h),fun _ h=>(by cases h),by decide⟩
theorem okR1:okRib r1:=
 ⟨⟨⟨rfl,rfl,rfl,rfl⟩,okR0.ok.u,rfl,⟨rfl⟩⟩,fun c h=>(by rw[List.mem_singleton.1 (h:c∈[w9])];rfl),fun _ h=>(by cases h),fun _ h=>(by cases h),by decide⟩
theorem s1:U Tryz.prog 30 [.agg (adc w9),.bool true,.agg (chC c0),.int .i64 1,.int .i64 0,.int .i64 2,.agg (adc w2)] (.tup [.agg (rtC r1),.bool true]):=by
 have:=uTells (k:=w9) (o:=w2) (c:=c0) (fl:=true) (fr:=1) (to:=0) (peer:=2) rfl rfl okR0 (fun _ h=>by cases h) rfl
 rw[tells1] at this;exact this
theorem s2:U Tryz.prog 30 [.agg (adc w9),.bool true,.agg (chC c0),.int .i64 0,.int .i64 0,.int .i64 2,.agg (adc w2)] (.tup [.agg (rtC rt0),.bool false]):=by
 have:=uTells (k:=w9) (o:=w2) (c:=c0) (fl:=true) (fr:=0) (to:=0) (peer:=2) rfl rfl okR0 (fun _ h=>by cases h) rfl
 rw[tells2] at this;exact this
theorem s3:U Tryz.prog 9 [.int .i64 65000,.agg (adc w9),.agg (adc ad0),.agg (rtC r0)] (.bool true):=by
 have:=uTakes (v:=65000) (id:=w9) (cl:=ad0) okR0 rfl rfl
 rw[takes1] at this;exact this
theorem s4:U Tryz.prog 9 [.int .i64 65000,.agg (adc w9),.agg (adc w9),.agg (rtC r1)] (.bool false):=by
 have:=uTakes (v:=65000) (id:=w9) (cl:=w9) okR1 rfl rfl
 rw[takes2] at this;exact this
end Go.Proofs.YtdpeaefgbmkegaaGreatDoor
