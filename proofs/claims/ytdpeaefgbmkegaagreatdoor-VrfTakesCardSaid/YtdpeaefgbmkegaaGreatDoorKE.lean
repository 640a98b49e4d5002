/- The reference's attributes: Right. -/
import Derived.Test.YtdpeaefgbmkegaaGreatDoorS18
import Derived.Test.YtdpeaefgbmkegaaGreatDoorKC
import Derived.Test.YtdpeaefgbmkegaaGreatDoorKD
import Derived.Test.YtdpeaefgbmkegaaGreatDoorFAD
import Derived.Test.YtdpeaefgbmkegaaGreatDoorHK
set_option maxHeartbeats 16000000
namespace Go.Proofs.YtdpeaefgbmkegaaGreatDoor
open Go Go.V
set_option maxRecDepth 10000
set_option linter.unusedVariables false
attribute [local irreducible] vBuild vCallV
open D in
def vb92_5:VC:=
 Rg [m 49 (Fl 0 1),m 50 (Ld 49),m 51 (.bin .geq .num (t 50) (.c q)),Mv 52 51,Gt 53 52 (Fl 0 1),Gt 54 52 (Ld 53),Gt 55 52 (.bin .leq .num (t 54) (Ci 2)),m 56 (.pick (t 52) (t 55) Bf),Mv 57 56,Gt 58 57 (Fl 2 1),Gt 59 57 (Ld 58),Gt 60 57 (.call false 132 [(t 59)]),m 61 (.pick (t 57) (t 60) Bf),Mv 62 61,Gt 63 62 (Fl 3 1),Gt 64 62 (Ld 63),Gt 65 62 (.call false 132 [(t 64)]),m 66 (.pick (t 62) (t 65) Bf),Mv 67 66,Gt 68 67 (Fl 1 1),Gt 69 67 (Ld 68),Gt 70 67 (.call false 133 [(t 69)]),m 71 (.pick (t 67) (t 70) Bf),Mv 72 71,Gt 73 72 (.mov (t 8)),m 74 (.pick (t 72) (t 73) Bf),Mv 75 74,Gt 76 75 (Fl 21 1),Gt 77 75 (Ld 76),Gt 78 75 (.len (t 77)),Gt 79 75 (.bin .leq .num (t 78) (Ci 32)),m 80 (.pick (t 75) (t 79) Bf),Mv 81 80,Gt 82 81 (Fl 22 1),Gt 83 81 (Ld 82),Gt 84 81 (.len (t 83)),Gt 85 81 (.bin .leq .num (t 84) (Ci 64)),m 86 (.pick (t 81) (t 85) Bf),Mv 87 86,Gt 88 87 (Fl 23 1),Gt 89 87 (Ld 88),Gt 90 87 (.len (t 89)),Gt 91 87 (.bin .leq .num (t 90) (Ci 1)),m 92 (.pick (t 87) (t 91) Bf),Mv 2 92]<|
 .ret
open D in
def vb92_4:VC:=
 Rg [m 40 (Fl 4 1),m 41 (Ls 17 40),m 42 (Ls 17 3),m 43 (.eqAgg [(.i .i64),(.i .u8),(.i .u8),(.i .u8),(.i .u8),(.i .u8),(.i .u8),(.i .u8),(.i .u8),(.i .u8),(.i .u8),(.i .u8),(.i .u8),(.i .u8),(.i .u8),(.i .u8),(.i .u8)] false (t 41) (t 42)),Mv 44 43,Gf 45 44 (Fl 4 1),Gf 46 44 (Ls 17 45),Gf 47 44 (.call false 130 [(t 46)]),m 48 (.pick (t 44) Bt (t 47)),Mv 8 48]<|
 vb92_5
open D in
theorem vb92_eq:vb92 =
 (Rg [m 1 (.box 0 (t 0)),m 2 (.mov Bf)]<|
 Rg [m 9 (.build [q,o,o,o,o,o,o,o,o,o,o,o,o,o,o,o,o] []),m 3 (.alloc 1 [q,o,o,o,o,o,o,o,o,o,o,o,o,o,o,o,o]),e (.store 17 (t 3) (t 9))]<|
 .seq (Rg [m 4 (.mov (.c q))]<|
 .block 0<|.loop<|.seq (Rg [Mv 10 4,m 11 (Fl 21 1),m 12 (Ld 11),m 13 (.len (t 12)),m 14 (.bin .lss .num (t 10) (t 13))]<|
 .cond (t 14) (.skip) (.exit 0))<|
 .seq (.block 1<|Rg [m 17 (Fl 21 1),m 18 (Ld 17),Mv 19 4,m 20 (.index 17 (t 18) (t 19)),m 21 (Ls 17 20),m 22 (.call false 130 [(t 21)]),Mv 5 22]<|
 Rg [Mv 23 5,m 24 (.un .not (t 23))]<|
 .cond (t 24) (Rg [m 2 (.mov Bf)]<|
 .ret) (.skip))<|
 .region [Mv 15 4,m 16 (.bin .add .num (t 15) (Ci 1)),Mv 4 16])<|
 .seq (Rg [m 6 (.mov (.c q))]<|
 .block 2<|.loop<|.seq (Rg [Mv 25 6,m 26 (Fl 23 1),m 27 (Ld 26),m 28 (.len (t 27)),m 29 (.bin .lss .num (t 25) (t 28))]<|
 .cond (t 29) (.skip) (.exit 2))<|
 .seq (.block 3<|Rg [m 32 (Fl 23 1),m 33 (Ld 32),Mv 34 6,m 35 (.index 21 (t 33) (t 34)),m 36 (Ls 21 35),m 37 (.call false 131 [(t 36)]),Mv 7 37]<|
 Rg [Mv 38 7,m 39 (.un .not (t 38))]<|
 .cond (t 39) (Rg [m 2 (.mov Bf)]<|
 .ret) (.skip))<|
 .region [Mv 30 6,m 31 (.bin .add .num (t 30) (Ci 1)),Mv 6 31])<|
 vb92_4):=rfl
theorem at5 {a:At} {σ:VHeap} {Post:KP} {E:Env} {g:Nat} {ob:VObj} (h:okAt a) (hpl:a.path.length≤4611686018427387904) (hpn:∀ s,s∈a.path→s.nums.length≤4611686018427387904) (hB:belH σ.length σ) (hz1:(a.cl.any fun c=>!router4 c)=false) (hz2:(a.tn.any fun t=>!tnR t)=false) (e1:E 1=.ptr (σ.length+0) 1 0) (e8:E 8=.bool (a.orig==ad0||router4 a.orig)) (hk:Post (.bool (atR a)) σ):vrun Tryz.prog σ.length vb92_5 E (σ++[(1,.box (atC a) false),(g,ob)]) (vend vf92 (TrimP σ.length Post)):=by
 have sc:=atC_sc (x:=a)
 have ln:=atC_len h
 have c0:=atC_all h
 have gorigin:=atC_gorigin h
 have gpath:=atC_gpath h
 have gmed:=atC_gmed h
 have gpref:=atC_gpref h
 have gorig:=atC_gorig h
 have gcl:=atC_gcl h
 have gex:=atC_gex h
 have gtn:=atC_gtn h
 have b1:(a.cl.map adc).length=a.cl.length:=List.length_map _
 have b2:(a.ex.map u8c).length=a.ex.length:=List.length_map _
 have b3:(a.tn.map tnC).length=a.tn.length:=List.length_map _
 unfold atR at hk
 rw[hz1,hz2] at hk
 simp only[Bool.not_false,Bool.true_and] at hk
 have u1:=uR9Num (n:=a.med)
 have u2:=uR9Num (n:=a.pref)
 have u3:=uR9Path hpl hpn
 have done:∀ b:Bool,b=false→True:=fun _ _=>trivial
 clear done
 unfold vb92_5
 by_cases x1:0≤a.origin
 ·by_cases x2:a.origin≤2
  ·by_cases x34:(decide (-1≤a.med)&&decide (a.med≤4294967295))=true
   ·rw[x34] at u1
    have x3:-1≤a.med:=by simp at x34;omega
    have x4:a.med≤4294967295:=by simp at x34;omega
    by_cases x56:(decide (-1≤a.pref)&&decide (a.pref≤4294967295))=true
    ·rw[x56] at u2
     have x5:-1≤a.pref:=by simp at x56;omega
     have x6:a.pref≤4294967295:=by simp at x56;omega
     cases hp:pathR a.path with
     | true=>
       rw[hp] at u3
       cases o1:(a.orig==ad0||router4 a.orig) with
       | true=>
         rw[o1] at e8
         by_cases y1:a.cl.length≤32
         ·by_cases y2:a.ex.length≤64
          ·by_cases y3:a.tn.length≤1
           ·refine W ?_
            refine cu u1 ?_
            refine W ?_
            refine cu u2 ?_
            refine W ?_
            refine cu u3 ?_
            refine W ?_
            exact finP hk (by simp[x1,x2,x3,x4,x5,x6,hp,o1,y1,y2,y3])
           ·refine W ?_
            refine cu u1 ?_
            refine W ?_
            refine cu u2 ?_
            refine W ?_
            refine cu u3 ?_
            refine W ?_
            exact finP hk (by simp[y3])
          ·refine W ?_
           refine cu u1 ?_
           refine W ?_
           refine cu u2 ?_
           refine W ?_
           refine cu u3 ?_
           refine W ?_
           exact finP hk (by simp[y2])
         ·refine W ?_
          refine cu u1 ?_
          refine W ?_
          refine cu u2 ?_
          refine W ?_
          refine cu u3 ?_
          refine W ?_
          exact finP hk (by simp[y1])
       | false=>
         rw[o1] at e8
         refine W ?_
         refine cu u1 ?_
         refine W ?_
         refine cu u2 ?_
         refine W ?_
         refine cu u3 ?_
         refine W ?_
         exact finP hk (by simp[o1])
     | false=>
       rw[hp] at u3
       refine W ?_
       refine cu u1 ?_
       refine W ?_
       refine cu u2 ?_
       refine W ?_
       refine cu u3 ?_
       refine W ?_
       exact finP hk (by simp[hp])
    ·have xf:(decide (-1≤a.pref)&&decide (a.pref≤4294967295))=false:=by simpa using x56
     rw[xf] at u2
     refine W ?_
     refine cu u1 ?_
     refine W ?_
     refine cu u2 ?_
     refine W ?_
     refine finP hk ?_
     rw[← Bool.and_assoc (decide (-1≤a.pref)),xf]
     simp
   ·have xf:(decide (-1≤a.med)&&decide (a.med≤4294967295))=false:=by simpa using x34
    rw[xf] at u1
    refine W ?_
    refine cu u1 ?_
    refine W ?_
    refine finP hk ?_
    rw[← Bool.and_assoc (decide (-1≤a.med)),xf]
    simp
  ·refine W ?_
   exact finP hk (by simp[x2])
 ·refine W ?_
  exact finP hk (by simp[x1])
theorem at4 {a:At} {σ:VHeap} {Post:KP} {E:Env} (h:okAt a) (hpl:a.path.length≤4611686018427387904) (hpn:∀ s,s∈a.path→s.nums.length≤4611686018427387904) (hB:belH σ.length σ) (hz1:(a.cl.any fun c=>!router4 c)=false) (hz2:(a.tn.any fun t=>!tnR t)=false) (e1:E 1=.ptr (σ.length+0) 1 0) (e3:E 3=.ptr (σ.length+1) 1 0) (hk:Post (.bool (atR a)) σ):vrun Tryz.prog σ.length vb92_4 E (σ++[(1,.box (atC a) false),(1,.box (adc ad0) false)]) (vend vf92 (TrimP σ.length Post)):=by
 have sc:=atC_sc (x:=a)
 have ln:=atC_len h
 have c0:=atC_all h
 have gorigin:=atC_gorigin h
 have gpath:=atC_gpath h
 have gmed:=atC_gmed h
 have gpref:=atC_gpref h
 have gorig:=atC_gorig h
 have gcl:=atC_gcl h
 have gex:=atC_gex h
 have gtn:=atC_gtn h
 have b1:(a.cl.map adc).length=a.cl.length:=List.length_map _
 have b2:(a.ex.map u8c).length=a.ex.length:=List.length_map _
 have b3:(a.tn.map tnC).length=a.tn.length:=List.length_map _
 have q0:=eqC_ad h.orig ad0_ok
 have qc:=adc_len h.orig
 have z1:=adc_all ad0_ok
 have z2:=adc_len ad0_ok
 unfold vb92_4
 refine cutp (fun E hh=>E 1=.ptr (σ.length+0) 1 0∧E 8=.bool (a.orig==ad0||router4 a.orig)∧hh=σ++[(1,VObj.box (atC a) false),(1,.box (adc ad0) false)]) ?_ ?_
 ·cases o1:a.orig==ad0 with
  | true=>
    rw[o1] at q0
    refine W ?_
    exact⟨e1,rfl,rfl⟩
  | false=>
    rw[o1] at q0
    refine W ?_
    refine cu (uR9Four h.orig) ?_
    refine W ?_
    exact⟨e1,rfl,rfl⟩
 rintro u _ ⟨e1,e8,rfl⟩
 exact at5 h hpl hpn hB hz1 hz2 e1 e8 hk
theorem uR9Right {a:At} (h:okAt a) (hc:∀ c,c∈a.cl→okD c) (ht:∀ t,t∈a.tn→okTn t) (hid:∀ t,t∈a.tn→t.id.length≤140737488355328) (l1:a.cl.length≤4611686018427387904) (l2:a.tn.length≤4611686018427387904) (hpl:a.path.length≤4611686018427387904) (hpn:∀ s,s∈a.path→s.nums.length≤4611686018427387904):U Tryz.prog 92 [.agg (atC a)] (.bool (atR a)):=by
 intro σ Post hk
 have sc:=atC_sc (x:=a)
 have ln:=atC_len h
 have c0:=atC_all h
 have gorigin:=atC_gorigin h
 have gpath:=atC_gpath h
 have gmed:=atC_gmed h
 have gpref:=atC_gpref h
 have gorig:=atC_gorig h
 have gcl:=atC_gcl h
 have gex:=atC_gex h
 have gtn:=atC_gtn h
 have b1:(a.cl.map adc).length=a.cl.length:=List.length_map _
 have b2:(a.ex.map u8c).length=a.ex.length:=List.length_map _
 have b3:(a.tn.map tnC).length=a.tn.length:=List.length_map _
 have z0:splice [PV.int .i64 0,D.o,D.o,D.o,D.o,D.o,D.o,D.o,D.o,D.o,D.o,D.o,D.o,D.o,D.o,D.o,D.o] 0 [PV.int .i64 0,D.o,D.o,D.o,D.o,D.o,D.o,D.o,D.o,D.o,D.o,D.o,D.o,D.o,D.o,D.o,D.o]=adc ad0:=rfl
 refine T92 fun hB hA=>?_
 rw[vb92_eq]
 refine W ?_
 refine lp (fun k e hh=>∃ i:Nat,i+k=a.cl.length∧e 4=.int .i64 i∧((a.cl.take i).any fun c=>!router4 c)=false∧hh=σ++[(1,VObj.box (atC a) false),(1,.box (adc ad0) false)]) a.cl.length ⟨0,by simp,rfl,rfl,rfl⟩ ?_
 rintro k u _ ⟨i,hi,e4,hal,rfl⟩
 by_cases h5:i<a.cl.length
 ·obtain⟨x,hx⟩:∃ x,a.cl[i]?=some x:=⟨_,List.getElem?_eq_getElem h5⟩
  have hg:(a.cl.map adc)[(i:Int).toNat]?=some (adc x):=by rw[Int.toNat_natCast,List.getElem?_map,hx];rfl
  have hm:=hc x (List.mem_of_getElem? hx)
  have xl:=adc_len hm
  have xc:=adc_all hm
  refine W ?_
  refine cu (uR9Four hm) ?_
  cases hr:router4 x with
  | true=>
    refine W ?_
    exact⟨k - 1,by omega,i+1,by omega,rfl,by rw[snocT hx,List.any_append,hal];simp[hr],rfl⟩
  | false=>
    have:(a.cl.any fun c=>!router4 c)=true:=List.any_eq_true.2 ⟨x,List.mem_of_getElem? hx,by simp[hr]⟩
    have hf:atR a=false:=by unfold atR;rw[this];simp
    rw[hf] at hk
    refine W ?_
    exact hk
 ·have h9:a.cl.take i=a.cl:=List.take_of_length_le (by omega)
  rw[h9] at hal
  refine W ?_
  refine lp (fun k e hh=>∃ i:Nat,i+k=a.tn.length∧e 6=.int .i64 i∧((a.tn.take i).any fun t=>!tnR t)=false∧hh=σ++[(1,VObj.box (atC a) false),(1,.box (adc ad0) false)]) a.tn.length ⟨0,by simp,rfl,rfl,rfl⟩ ?_
  rintro k2 u2 _ ⟨j,hj,e6,hal2,rfl⟩
  by_cases h6:j<a.tn.length
  ·obtain⟨x,hx⟩:∃ x,a.tn[j]?=some x:=⟨_,List.getElem?_eq_getElem h6⟩
   have hg:(a.tn.map tnC)[(j:Int).toNat]?=some (tnC x):=by rw[Int.toNat_natCast,List.getElem?_map,hx];rfl
   have hm:=ht x (List.mem_of_getElem? hx)
   have xl:=tnC_len hm
   have xc:=tnC_all hm
   have ut:=uR6Right hm (hid x (List.mem_of_getElem? hx))
   refine W ?_
   refine cu ut ?_
   cases hr:tnR x with
   | true=>
     refine W ?_
     exact⟨k2 - 1,by omega,j+1,by omega,rfl,by rw[snocT hx,List.any_append,hal2];simp[hr],rfl⟩
   | false=>
     have:(a.tn.any fun t=>!tnR t)=true:=List.any_eq_true.2 ⟨x,List.mem_of_getElem? hx,by simp[hr]⟩
     have hf:atR a=false:=by unfold atR;rw[this];simp
     rw[hf] at hk
     refine W ?_
     exact hk
  ·have h9:a.tn.take j=a.tn:=List.take_of_length_le (by omega)
   rw[h9] at hal2
   refine W ?_
   exact at4 h hpl hpn hB hal hal2 rfl rfl hk
end Go.Proofs.YtdpeaefgbmkegaaGreatDoor
namespace Go.Proofs.YtdpeaefgbmkegaaGreatDoor
open Go Go.V
set_option maxRecDepth 10000
set_option linter.unusedVariables false
attribute [local irreducible] vBuild vCallV
theorem uRTable {r:Rt} (h:okRt r):U Tryz.prog 45 [.agg (rtC r)] (.agg (tbC (aloneT r))):=by
 intro σ Post hk
 have sc:=rtC_sc (x:=r)
 have ln:=rtC_len h
 have c0:=rtC_all h
 have g1:=rtC_gsize h
 have g2:=rtC_gsafi h
 have g3:=rtC_gm h
 have g4:=rtC_gu h
 have g5:=rtC_gnext h
 have ma:=mrc_len h.m
 have mb:=mrc_sc (m:=r.m)
 have ua:=nmU_len (a:=r.u.2) h.u
 have ub:=nmU_sc (x:=r.u.1) (a:=r.u.2)
 have na:=adc_len h.next
 have nb:=adc_sc (a:=r.next)
 have z2:=tbR_b (s:=r.size) (f:=r.safi) h.next
 have z3:=tbR_len (s:=r.size) (f:=r.safi) (c:=.nils) (d:=.nils) h.next
 have z4:=tbR_all (s:=r.size) (f:=r.safi) (c:=.nils) (d:=.nils) h.next
 have z5:=tbR_any (s:=r.size) (f:=r.safi) (c:=.nils) (d:=.nils) h.next (cs:=[.int .i64 0,.int .i64 0,.int .i64 0,D.o,D.o,D.o,D.o,D.o,D.o,D.o,D.o,D.o,D.o,D.o,D.o,D.o,D.o,D.o,D.o,.nils,.nils]) rfl
 have z6:=tbR_sc (s:=r.size) (f:=r.safi) (a:=r.next) (c:=.nils) (d:=.nils) rfl rfl
 rw[tbC_R] at hk
 unfold aloneT at hk
 dsimp only at hk
 refine T45 fun hB hA=>?_
 by_cases f5:r.safi=5
 ·have w:=tbR_sm (s:=r.size) (f:=r.safi) (c:=.nils) (d:=.nils) (v:=.row (σ.length+3) 1) h.next
  have y3:=tbR_len (s:=r.size) (f:=r.safi) (c:=(.row (σ.length+3) 1)) (d:=.nils) h.next
  have y4:=tbR_all (s:=r.size) (f:=r.safi) (c:=(.row (σ.length+3) 1)) (d:=.nils) h.next
  have y5:=tbR_any (s:=r.size) (f:=r.safi) (c:=(.row (σ.length+3) 1)) (d:=.nils) h.next (cs:=[.int .i64 0,.int .i64 0,.int .i64 0,D.o,D.o,D.o,D.o,D.o,D.o,D.o,D.o,D.o,D.o,D.o,D.o,D.o,D.o,D.o,D.o,.nils,.nils]) rfl
  have y6:=tbR_sc (a:=r.next) (s:=r.size) (f:=r.safi) (c:=(.row (σ.length+3) 1)) (d:=.nils) rfl rfl
  rw[if_pos f5,if_neg (fun e=>e.1 f5)] at hk
  refine W ?_
  refine ret_a (v':=.agg (tbR r.size r.safi r.next (.sl [mrc r.m]) (.sl []))) (.inl rfl) rfl (by exact z_rw) (InlA.agg (tbR_inl (.row (vGet_of rfl) rfl (.nils (.nil _)))) (.nil _)) (by exact z_be) (by exact z_hn) (by exact z_hb) ?_
  exact hk
 ·by_cases f128:r.safi=128
  ·have w:=tbR_su (s:=r.size) (f:=r.safi) (c:=.nils) (d:=.nils) (v:=.row (σ.length+4) 1) h.next
   have y3:=tbR_len (s:=r.size) (f:=r.safi) (c:=.nils) (d:=(.row (σ.length+4) 1)) h.next
   have y4:=tbR_all (s:=r.size) (f:=r.safi) (c:=.nils) (d:=(.row (σ.length+4) 1)) h.next
   have y5:=tbR_any (s:=r.size) (f:=r.safi) (c:=.nils) (d:=(.row (σ.length+4) 1)) h.next (cs:=[.int .i64 0,.int .i64 0,.int .i64 0,D.o,D.o,D.o,D.o,D.o,D.o,D.o,D.o,D.o,D.o,D.o,D.o,D.o,D.o,D.o,D.o,.nils,.nils]) rfl
   have y6:=tbR_sc (a:=r.next) (s:=r.size) (f:=r.safi) (c:=.nils) (d:=(.row (σ.length+4) 1)) rfl rfl
   rw[if_neg f5,if_pos ⟨f5,f128⟩] at hk
   refine W ?_
   refine ret_a (v':=.agg (tbR r.size r.safi r.next (.sl []) (.sl [urU r.u]))) (.inl rfl) rfl (by exact z_rw) (InlA.agg (tbR_inl (.nils (.row (vGet_of rfl) rfl (.nil _)))) (.nil _)) (by exact z_be) (by exact z_hn) (by exact z_hb) ?_
   exact hk
  ·rw[if_neg f5,if_neg (fun e=>f128 e.2)] at hk
   refine W ?_
   refine ret_a (v':=.agg (tbR r.size r.safi r.next (.sl []) (.sl []))) (.inl rfl) rfl (by exact z_rw) (InlA.agg (tbR_inl (.nils (.nils (.nil _)))) (.nil _)) (by exact z_be) (by exact z_hn) (by exact z_hb) ?_
   exact hk
theorem uR10Fam {s f:Int}:U Tryz.prog 137 [.int .i64 s,.int .i64 f] (.bool ((decide (s=4)||decide (s=16))&&(decide (f=5)||decide (f=128)))):=by
 intro σ Post hk
 refine T137 fun hB hA=>?_
 by_cases s4:s=4
 ·by_cases f5:f=5
  ·refine W ?_;exact finP hk (by simp[s4,f5])
  ·by_cases f8:f=128
   ·refine W ?_;exact finP hk (by simp[s4,f8])
   ·refine W ?_;exact finP hk (by simp[f5,f8])
 ·by_cases s16:s=16
  ·by_cases f5:f=5
   ·refine W ?_;exact finP hk (by simp[s16,f5])
   ·by_cases f8:f=128
    ·refine W ?_;exact finP hk (by simp[s16,f8])
    ·refine W ?_;exact finP hk (by simp[f5,f8])
  ·refine W ?_;exact finP hk (by simp[s4,s16])
theorem uR10RoutesM {t:Tb} {m:Mr} (ht:okTb t) (hm:t.m=[m]) (h:okM m) (hkl:m.key.length≤140737488355328) (f5:t.safi=5) (hs:t.size=4∨t.size=16):U Tryz.prog 138 [.agg (tbC t)] (.tup [.sl (bsl (if rightF m=true then mbytes m else[])),.bool (mOne m t.size)]):=by
 intro σ Post hk
 have sc:=tbC_sc (x:=t)
 have ln:=tbC_len ht
 have c0:=tbC_all ht
 have g1:=tbC_gsize ht
 have g2:=tbC_gsafi ht
 have g3:=tbC_gnext ht
 have g4:cut (tbC t) 19 none=some (.sl [mrc m]):=by have:=tbC_gm ht;rw[hm] at this;exact this
 have ur:=uR7Row1 h hkl
 have bl:=bsl_len (mbytes m)
 have n128:¬ t.safi=128:=by omega
 unfold mOne at hk
 refine T138 fun hB hA=>?_
 cases hr:rightF m with
 | false=>
   rw[hr,if_neg (by decide),if_neg (by decide)] at ur
   rw[hr,if_neg (by decide)] at hk
   refine W ?_
   refine cu ur ?_
   refine W ?_
   exact hk
 | true=>
   have uq:=uR7Read1 (s:=t.size) h hr hs
   have us:=uR7Same1 h
   rw[hr,if_pos rfl,if_pos rfl] at ur
   rw[hr,if_pos rfl,Bool.true_and] at hk
   cases hz:szF t.size m with
   | true=>
     rw[hz,if_pos rfl,if_pos rfl] at uq
     rw[hz] at hk
     refine W ?_
     refine cu ur ?_
     refine W ?_
     refine cu uq ?_
     refine W ?_
     refine cu us ?_
     refine W ?_
     exact hk
   | false=>
     rw[hz,if_neg (by decide),if_neg (by decide)] at uq
     rw[hz] at hk
     refine W ?_
     refine cu ur ?_
     refine W ?_
     refine cu uq ?_
     refine W ?_
     exact hk
theorem uR10RoutesU {t:Tb} {u:UR} (ht:okTb t) (hm:t.m=[]) (hu:t.u=[u]) (h:okN u.1) (f8:t.safi=128) (hs:t.size=4∨t.size=16):U Tryz.prog 138 [.agg (tbC t)] (.tup [.sl (bsl (if okR u.1 u.2=true then ubN u.1 u.2 else[])),.bool (uOne u t.size)]):=by
 intro σ Post hk
 have sc:=tbC_sc (x:=t)
 have ln:=tbC_len ht
 have c0:=tbC_all ht
 have g1:=tbC_gsize ht
 have g2:=tbC_gsafi ht
 have g3:=tbC_gnext ht
 have g4:cut (tbC t) 19 none=some (.sl []):=by have:=tbC_gm ht;rw[hm] at this;exact this
 have g5:cut (tbC t) 20 none=some (.sl [nmU u.1 u.2]):=by have:=tbC_gu ht;rw[hu] at this;exact this
 have u0:=uR7Row0
 have ur:=uR8Row1 (a:=u.2) h
 have bl:=bsl_len (ubN u.1 u.2)
 have n5:¬ t.safi=5:=by omega
 unfold uOne at hk
 refine T138 fun hB hA=>?_
 cases hr:okR u.1 u.2 with
 | false=>
   rw[hr,if_neg (by decide),if_neg (by decide)] at ur
   rw[hr,if_neg (by decide)] at hk
   refine W ?_
   refine cu u0 ?_
   refine W ?_
   refine cu ur ?_
   refine W ?_
   exact hk
 | true=>
   have uq:=uR8Read1 (s:=t.size) h hr hs
   have us:=uR8Equal1 (a:=u.2) (s:=t.size) h
   rw[hr,if_pos rfl,if_pos rfl] at ur
   rw[hr,if_pos rfl,Bool.true_and] at hk
   by_cases hz:u.1.k≤8 * t.size∧okR { u.1 with s:=t.size } u.2=true
   ·rw[if_pos hz,if_pos hz] at uq
    refine W ?_
    refine cu u0 ?_
    refine W ?_
    refine cu ur ?_
    refine W ?_
    refine cu uq ?_
    refine W ?_
    refine cu us ?_
    refine W ?_
    exact hk
   ·have hne:¬ u.1.s=t.size:=by
     intro e
     have hk8:u.1.k≤8 * u.1.s:=by
      have e2:okR u.1 u.2=(okP u.1.s u.1.b u.1.k&&decide (0≤u.2)&&decide (u.2≤1048575)):=rfl
      rw[e2] at hr
      simp only[Bool.and_eq_true] at hr
      have:=hr.1.1
      unfold okP at this
      simp at this;omega
     refine hz ⟨by omega,?_⟩
     rw[← e];exact hr
    rw[if_neg hz,if_neg hz] at uq
    rw[decide_eq_false hne] at hk
    refine W ?_
    refine cu u0 ?_
    refine W ?_
    refine cu ur ?_
    refine W ?_
    refine cu uq ?_
    refine W ?_
    exact hk
end Go.Proofs.YtdpeaefgbmkegaaGreatDoor
