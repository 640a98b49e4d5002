/- The reference's tunnels: Right. -/
import Derived.Test.YtdpeaefgbmkegaaGreatDoorKD
set_option maxHeartbeats 16000000
namespace Go.Proofs.YtdpeaefgbmkegaaGreatDoor
open Go Go.V
set_option maxRecDepth 10000
set_option linter.unusedVariables false
attribute [local irreducible] vBuild vCallV
open D in
def vb131_5:VC:=
 .seq (Rg [m 30 (Fl 1 1),m 31 (Ld 30)]<|
 .block 0<|Rg [m 33 (.bin .eql .num (t 31) (.c q)),Mv 32 33]<|
 .cond (t 32) (Rg [Mv 34 5,m 35 (.un .not (t 34)),Mv 36 35,Gt 37 36 (.mov (t 4)),Gt 38 36 (.bin .eql .num (t 37) (.c q)),m 39 (.pick (t 36) (t 38) Bf),Mv 2 39]<|
 .ret) (Rg [m 41 (.bin .eql .num (t 31) (Ci 1)),Mv 40 41]<|
 .cond (t 40) (Rg [m 42 (Fl 3 1),m 43 (Fl 0 42),m 44 (Ld 43),m 45 (.bin .eql .num (t 44) (Ci 4)),Mv 46 45,Gt 47 46 (.mov (t 4)),Gt 48 46 (.bin .eql .num (t 47) (Ci 6)),m 49 (.pick (t 46) (t 48) Bf),Mv 2 49]<|
 .ret) (.seq (Rg [m 51 (.bin .eql .num (t 31) (Ci 2)),Mv 50 51]<|
 .cond (t 50) (.skip) (.region [m 52 (.bin .eql .num (t 31) (Ci 7)),Mv 50 52]))<|
 .cond (t 50) (Rg [Mv 53 5,Mv 54 53,Gt 55 54 (.mov (t 4)),Gt 56 54 (.bin .leq .num (t 55) (Ci 64)),m 57 (.pick (t 54) (t 56) Bf),Mv 2 57]<|
 .ret) (.seq (Rg [m 59 (.bin .eql .num (t 31) (Ci 3)),Mv 58 59]<|
 .cond (t 58) (.skip) (Rg [m 60 (.bin .eql .num (t 31) (Ci 4)),Mv 58 60]<|
 .cond (t 58) (.skip) (.region [m 61 (.bin .eql .num (t 31) (Ci 5)),Mv 58 61])))<|
 .cond (t 58) (Rg [m 63 (Fl 20 1),m 64 (Ld 63),m 65 (.call false 178 [(t 64)]),Mv 62 65,m 66 (.extract 0 (t 62)),m 67 (.extract 1 (t 62)),m 6 (.alloc 1 [q,o,o,o,o,o,o,o,o,o,o,o,o,o,o,o,o]),e (.store 17 (t 6) (t 66)),Mv 7 67]<|
 Rg [Mv 68 5,Mv 69 68,Gt 70 69 (.mov (t 4)),Gt 71 69 (Fl 3 1),Gt 72 69 (Fl 0 71),Gt 73 69 (Ld 72),Gt 74 69 (.bin .eql .num (t 70) (t 73)),m 75 (.pick (t 69) (t 74) Bf),Mv 76 75,Gt 77 76 (Ls 17 6),Gt 78 76 (.call false 179 [(t 77)]),m 79 (.pick (t 76) (t 78) Bf),Mv 2 79]<|
 .ret) (Rg [m 81 (.bin .eql .num (t 31) (Ci 6)),Mv 80 81]<|
 .cond (t 80) (Rg [Mv 82 5,Mv 83 82,Gt 84 83 (.mov (t 4)),Gt 85 83 (.bin .eql .num (t 84) (.c q)),m 86 (.pick (t 83) (t 85) Bf),Mv 2 86]<|
 .ret) (.skip))))))<|
 Rg [m 2 (.mov Bf)]<|
 .ret
open D in
theorem vb131_eq:vb131 =
 (Rg [m 1 (.box 0 (t 0)),m 2 (.mov Bf)]<|
 Rg [m 8 (Fl 3 1),m 9 (Ls 17 8),m 10 (.call false 55 [(t 9)]),Mv 3 10]<|
 .seq (Rg [Mv 11 3,m 12 (.un .not (t 11)),Mv 13 12,Gf 14 13 (Fl 2 1),Gf 15 13 (Ld 14),Gf 16 13 (.bin .lss .num (t 15) (.c q)),m 17 (.pick (t 13) Bt (t 16)),Mv 18 17,Gf 19 18 (Fl 2 1),Gf 20 18 (Ld 19),Gf 21 18 (.bin .gtr .num (t 20) (Ci 1048575)),m 22 (.pick (t 18) Bt (t 21))]<|
 .cond (t 22) (Rg [m 2 (.mov Bf)]<|
 .ret) (.skip))<|
 Rg [m 23 (Fl 20 1),m 24 (Ld 23),m 25 (.len (t 24)),Mv 4 25]<|
 Rg [m 26 (Fl 3 1),m 27 (Fl 0 26),m 28 (Ld 27),m 29 (.bin .gtr .num (t 28) (.c q)),Mv 5 29]<|
 vb131_5):=rfl
theorem tn5T {t:Tn} {σ:VHeap} {Post:KP} {E:Env} {o1':VObj} (h:okTn t) (hid:t.id.length≤140737488355328) (hB:belH σ.length σ) (o1:okAd t.root=true) (l0:0≤t.label) (l1:t.label≤1048575) (r0:0<t.root.s) (e1:E 1=.ptr (σ.length+0) 1 0) (e4:E 4=.int .i64 (t.id.length:Int)) (e5:E 5=.bool true) (hk:Post (.bool (tnR t)) σ):vrun Tryz.prog σ.length vb131_5 E (σ++[(1,.box (tnC t) false),(0,.dead)]) (vend vf131 (TrimP σ.length Post)):=by
 have sc:=tnC_sc (x:=t)
 have ln:=tnC_len h
 have c0:=tnC_all h
 have g1:=tnC_gkind h
 have g2:=tnC_glabel h
 have g3:=tnC_groot h
 have g4:=tnC_gid h
 have g5:cut (tnC t) 3 none=some (.int .i64 t.root.s):=rfl
 have bi:=bsl_len t.id
 have rs:=okAd_s o1
 unfold vb131_5
 by_cases k0:t.kind=0
 ·have nz:¬ t.root.s+(t.id.length:Int)=0:=by omega
  refine W ?_
  exact finP hk (by simp[tnR,tnK,o1,l0,l1,k0,nz])
 by_cases k1:t.kind=1
 ·by_cases r4:t.root.s=4
  ·by_cases i6:t.id.length=6
   ·refine W ?_
    exact finP hk (by simp[tnR,tnK,o1,l0,l1,k1,r4,i6])
   ·refine W ?_
    exact finP hk (by simp[tnR,tnK,o1,l0,l1,k1,r4,i6])
  ·refine W ?_
   exact finP hk (by simp[tnR,tnK,o1,l0,l1,k1,r4])
 by_cases k2:t.kind=2
 ·by_cases i64:t.id.length≤64
  ·refine W ?_
   exact finP hk (by simp[tnR,tnK,o1,l0,l1,k2,r0,i64])
  ·refine W ?_
   exact finP hk (by simp[tnR,tnK,o1,l0,l1,k2,r0,i64])
 by_cases k7:t.kind=7
 ·by_cases i64:t.id.length≤64
  ·refine W ?_
   exact finP hk (by simp[tnR,tnK,o1,l0,l1,k7,r0,i64])
  ·refine W ?_
   exact finP hk (by simp[tnR,tnK,o1,l0,l1,k7,r0,i64])
 by_cases k3:t.kind=3
 ·have q0:=ofA_ok t.id
  have q1:=adc_len q0
  have q2:=adc_sc (a:=(ofA t.id).1)
  have q3:=ad_set q0
  have q4:=adc_all q0
  by_cases es:(t.id.length:Int)=t.root.s
  ·have ea:ofA t.id=(⟨t.id.length,over t.id z16⟩,0):=by unfold ofA;rw[if_pos (by omega)]
   have e2:(ofA t.id).2=0:=by rw[ea]
   have e1:(ofA t.id).1.s=t.root.s:=by rw[ea];exact es
   refine W ?_
   refine cu (uR2Of (l:=t.id) hid) ?_
   refine W ?_
   refine cu (uR2Multi q0) ?_
   refine W ?_
   exact finP hk (by simp[tnR,tnK,o1,l0,l1,k3,e1,e2])
  ·have e1:¬ ((ofA t.id).2=0∧(ofA t.id).1.s=t.root.s):=by
    unfold ofA;split
    ·exact fun e=>es e.2
    ·exact fun e=>by cases e.1
   have e2:(decide ((ofA t.id).2=0)&&(decide ((ofA t.id).1.s=t.root.s)&&mcA (ofA t.id).1))=false:=by
    by_cases a1:(ofA t.id).2=0
    ·have a2:¬ (ofA t.id).1.s=t.root.s:=fun e=>e1 ⟨a1,e⟩
     simp[a2]
    ·simp[a1]
   refine W ?_
   refine cu (uR2Of (l:=t.id) hid) ?_
   refine W ?_
   exact finP hk (by unfold tnR tnK;rw[if_neg (by omega),if_neg (by omega),if_neg (by omega),if_pos (by omega),e2];simp)
 by_cases k4:t.kind=4
 ·have q0:=ofA_ok t.id
  have q1:=adc_len q0
  have q2:=adc_sc (a:=(ofA t.id).1)
  have q3:=ad_set q0
  have q4:=adc_all q0
  by_cases es:(t.id.length:Int)=t.root.s
  ·have ea:ofA t.id=(⟨t.id.length,over t.id z16⟩,0):=by unfold ofA;rw[if_pos (by omega)]
   have e2:(ofA t.id).2=0:=by rw[ea]
   have e1:(ofA t.id).1.s=t.root.s:=by rw[ea];exact es
   refine W ?_
   refine cu (uR2Of (l:=t.id) hid) ?_
   refine W ?_
   refine cu (uR2Multi q0) ?_
   refine W ?_
   exact finP hk (by simp[tnR,tnK,o1,l0,l1,k4,e1,e2])
  ·have e1:¬ ((ofA t.id).2=0∧(ofA t.id).1.s=t.root.s):=by
    unfold ofA;split
    ·exact fun e=>es e.2
    ·exact fun e=>by cases e.1
   have e2:(decide ((ofA t.id).2=0)&&(decide ((ofA t.id).1.s=t.root.s)&&mcA (ofA t.id).1))=false:=by
    by_cases a1:(ofA t.id).2=0
    ·have a2:¬ (ofA t.id).1.s=t.root.s:=fun e=>e1 ⟨a1,e⟩
     simp[a2]
    ·simp[a1]
   refine W ?_
   refine cu (uR2Of (l:=t.id) hid) ?_
   refine W ?_
   exact finP hk (by unfold tnR tnK;rw[if_neg (by omega),if_neg (by omega),if_neg (by omega),if_pos (by omega),e2];simp)
 by_cases k5:t.kind=5
 ·have q0:=ofA_ok t.id
  have q1:=adc_len q0
  have q2:=adc_sc (a:=(ofA t.id).1)
  have q3:=ad_set q0
  have q4:=adc_all q0
  by_cases es:(t.id.length:Int)=t.root.s
  ·have ea:ofA t.id=(⟨t.id.length,over t.id z16⟩,0):=by unfold ofA;rw[if_pos (by omega)]
   have e2:(ofA t.id).2=0:=by rw[ea]
   have e1:(ofA t.id).1.s=t.root.s:=by rw[ea];exact es
   refine W ?_
   refine cu (uR2Of (l:=t.id) hid) ?_
   refine W ?_
   refine cu (uR2Multi q0) ?_
   refine W ?_
   exact finP hk (by simp[tnR,tnK,o1,l0,l1,k5,e1,e2])
  ·have e1:¬ ((ofA t.id).2=0∧(ofA t.id).1.s=t.root.s):=by
    unfold ofA;split
    ·exact fun e=>es e.2
    ·exact fun e=>by cases e.1
   have e2:(decide ((ofA t.id).2=0)&&(decide ((ofA t.id).1.s=t.root.s)&&mcA (ofA t.id).1))=false:=by
    by_cases a1:(ofA t.id).2=0
    ·have a2:¬ (ofA t.id).1.s=t.root.s:=fun e=>e1 ⟨a1,e⟩
     simp[a2]
    ·simp[a1]
   refine W ?_
   refine cu (uR2Of (l:=t.id) hid) ?_
   refine W ?_
   exact finP hk (by unfold tnR tnK;rw[if_neg (by omega),if_neg (by omega),if_neg (by omega),if_pos (by omega),e2];simp)
 by_cases k6:t.kind=6
 ·by_cases i0:t.id.length=0
  ·have i0p:(t.id.length:Int)=0:=by omega
   refine W ?_
   exact finP hk (by simp[tnR,tnK,o1,l0,l1,k6,r0,i0])
  ·have i0p:¬ (t.id.length:Int)=0:=by omega
   refine W ?_
   exact finP hk (by simp[tnR,tnK,o1,l0,l1,k6,r0,i0])
 refine W ?_
 exact finP hk (by simp[tnR,tnK,k0,k1,k2,k7,k3,k4,k5,k6])
theorem tn5F {t:Tn} {σ:VHeap} {Post:KP} {E:Env} {o1':VObj} (h:okTn t) (hid:t.id.length≤140737488355328) (hB:belH σ.length σ) (o1:okAd t.root=true) (l0:0≤t.label) (l1:t.label≤1048575) (r0:¬ 0<t.root.s) (e1:E 1=.ptr (σ.length+0) 1 0) (e4:E 4=.int .i64 (t.id.length:Int)) (e5:E 5=.bool false) (hk:Post (.bool (tnR t)) σ):vrun Tryz.prog σ.length vb131_5 E (σ++[(1,.box (tnC t) false),(0,.dead)]) (vend vf131 (TrimP σ.length Post)):=by
 have sc:=tnC_sc (x:=t)
 have ln:=tnC_len h
 have c0:=tnC_all h
 have g1:=tnC_gkind h
 have g2:=tnC_glabel h
 have g3:=tnC_groot h
 have g4:=tnC_gid h
 have g5:cut (tnC t) 3 none=some (.int .i64 t.root.s):=rfl
 have bi:=bsl_len t.id
 have rs:=okAd_s o1
 unfold vb131_5
 by_cases k0:t.kind=0
 ·have z0:t.root.s=0:=by omega
  by_cases i0:t.id.length=0
  ·have i0p:(t.id.length:Int)=0:=by omega
   refine W ?_
   exact finP hk (by simp[tnR,tnK,o1,l0,l1,k0,z0,i0])
  ·have i0p:¬ (t.id.length:Int)=0:=by omega
   refine W ?_
   exact finP hk (by simp[tnR,tnK,o1,l0,l1,k0,z0,i0])
 by_cases k1:t.kind=1
 ·have r4:¬ t.root.s=4:=by omega
  refine W ?_
  exact finP hk (by simp[tnR,tnK,o1,l0,l1,k1,r4])
 by_cases k2:t.kind=2
 ·refine W ?_
  exact finP hk (by simp[tnR,tnK,o1,l0,l1,k2,r0])
 by_cases k7:t.kind=7
 ·refine W ?_
  exact finP hk (by simp[tnR,tnK,o1,l0,l1,k7,r0])
 by_cases k3:t.kind=3
 ·have q0:=ofA_ok t.id
  have q1:=adc_len q0
  have q2:=adc_sc (a:=(ofA t.id).1)
  have q3:=ad_set q0
  have q4:=adc_all q0
  have z0:t.root.s=0:=by omega
  have e2:(decide ((ofA t.id).2=0)&&(decide ((ofA t.id).1.s=t.root.s)&&mcA (ofA t.id).1))=false:=by
   by_cases a1:(ofA t.id).1.s=t.root.s
   ·have a2:mcA (ofA t.id).1=false:=by unfold mcA;rw[a1,z0];simp
    simp[a2]
   ·simp[a1]
  refine W ?_
  refine cu (uR2Of (l:=t.id) hid) ?_
  refine W ?_
  exact finP hk (by unfold tnR tnK;rw[if_neg (by omega),if_neg (by omega),if_neg (by omega),if_pos (by omega),e2];simp)
 by_cases k4:t.kind=4
 ·have q0:=ofA_ok t.id
  have q1:=adc_len q0
  have q2:=adc_sc (a:=(ofA t.id).1)
  have q3:=ad_set q0
  have q4:=adc_all q0
  have z0:t.root.s=0:=by omega
  have e2:(decide ((ofA t.id).2=0)&&(decide ((ofA t.id).1.s=t.root.s)&&mcA (ofA t.id).1))=false:=by
   by_cases a1:(ofA t.id).1.s=t.root.s
   ·have a2:mcA (ofA t.id).1=false:=by unfold mcA;rw[a1,z0];simp
    simp[a2]
   ·simp[a1]
  refine W ?_
  refine cu (uR2Of (l:=t.id) hid) ?_
  refine W ?_
  exact finP hk (by unfold tnR tnK;rw[if_neg (by omega),if_neg (by omega),if_neg (by omega),if_pos (by omega),e2];simp)
 by_cases k5:t.kind=5
 ·have q0:=ofA_ok t.id
  have q1:=adc_len q0
  have q2:=adc_sc (a:=(ofA t.id).1)
  have q3:=ad_set q0
  have q4:=adc_all q0
  have z0:t.root.s=0:=by omega
  have e2:(decide ((ofA t.id).2=0)&&(decide ((ofA t.id).1.s=t.root.s)&&mcA (ofA t.id).1))=false:=by
   by_cases a1:(ofA t.id).1.s=t.root.s
   ·have a2:mcA (ofA t.id).1=false:=by unfold mcA;rw[a1,z0];simp
    simp[a2]
   ·simp[a1]
  refine W ?_
  refine cu (uR2Of (l:=t.id) hid) ?_
  refine W ?_
  exact finP hk (by unfold tnR tnK;rw[if_neg (by omega),if_neg (by omega),if_neg (by omega),if_pos (by omega),e2];simp)
 by_cases k6:t.kind=6
 ·refine W ?_
  exact finP hk (by simp[tnR,tnK,o1,l0,l1,k6,r0])
 refine W ?_
 exact finP hk (by simp[tnR,tnK,k0,k1,k2,k7,k3,k4,k5,k6])
theorem uR6Right {t:Tn} (h:okTn t) (hid:t.id.length≤140737488355328):U Tryz.prog 131 [.agg (tnC t)] (.bool (tnR t)):=by
 intro σ Post hk
 have sc:=tnC_sc (x:=t)
 have ln:=tnC_len h
 have c0:=tnC_all h
 have g1:=tnC_gkind h
 have g2:=tnC_glabel h
 have g3:=tnC_groot h
 have g4:=tnC_gid h
 have g5:cut (tnC t) 3 none=some (.int .i64 t.root.s):=rfl
 have bi:=bsl_len t.id
 refine T131 fun hB hA=>?_
 rw[vb131_eq]
 refine W ?_
 refine cu (uR2 h.root) ?_
 cases o1:okAd t.root with
 | false=>
   refine W ?_
   exact finP hk (by simp[tnR,o1])
 | true=>
 by_cases l0:0≤t.label
 ·by_cases l1:t.label≤1048575
  ·by_cases r0:0<t.root.s
   ·refine W ?_
    exact tn5T (o1':=.dead) h hid hB o1 l0 l1 r0 rfl rfl rfl hk
   ·refine W ?_
    exact tn5F (o1':=.dead) h hid hB o1 l0 l1 r0 rfl rfl rfl hk
  ·refine W ?_
   exact finP hk (by simp[tnR,l1])
 ·refine W ?_
  exact finP hk (by simp[tnR,l0])
end Go.Proofs.YtdpeaefgbmkegaaGreatDoor
