/- The reference's multicast routes: rough, Take, key, sized. -/
import Derived.Test.YtdpeaefgbmkegaaGreatDoorKB
import Derived.Test.YtdpeaefgbmkegaaGreatDoorM16
set_option maxHeartbeats 16000000
namespace Go.Proofs.YtdpeaefgbmkegaaGreatDoor
open Go Go.V
set_option maxRecDepth 10000
set_option linter.unusedVariables false
attribute [local irreducible] vBuild vCallV
theorem zqE_ok {p:Pt} {S:RR} (oS:okM S.m):okM (zqE p S).1:=by
 unfold zqE;split
 ·exact⟨oS.rd,oS.s,oS.g,ofA_ok _⟩
 ·exact oS
theorem zq0_ok {k:Int} {b:List UInt8}:okM (zq0 k b).m:=by
 unfold zq0;split<;>exact⟨rfl,rfl,rfl,rfl⟩
theorem qrough_ok (k:Int) (b:List UInt8):okM (qrough k b).1:=by
 unfold qrough;split
 ·exact zqE_ok (zq3_ok (zq2_ok (zq1_ok zq0_ok)))
 ·exact⟨rfl,rfl,rfl,rfl⟩
theorem zq1_k (p:Pt) (S:RR):(zq1 p S).m.k=S.m.k∧(zq1 p S).m.key=S.m.key:=by unfold zq1;split<;>exact⟨rfl,rfl⟩
theorem zq2_k (p:Pt) (S:RR):(zq2 p S).m.k=S.m.k∧(zq2 p S).m.key=S.m.key:=by unfold zq2;split<;>exact⟨rfl,rfl⟩
theorem zq3_k (p:Pt) (S:RR):(zq3 p S).m.k=S.m.k∧(zq3 p S).m.key=S.m.key:=by unfold zq3;split<;>exact⟨rfl,rfl⟩
theorem zqE_k (p:Pt) (S:RR):(zqE p S).1.k=S.m.k∧(zqE p S).1.key=S.m.key:=by unfold zqE;split<;>exact⟨rfl,rfl⟩
theorem qrough_k (k:Int) (b:List UInt8):(qrough k b).1.k=k:=by
 unfold qrough;split
 ·rw[(zqE_k _ _).1,(zq3_k _ _).1,(zq2_k _ _).1,(zq1_k _ _).1];unfold zq0;split<;>rfl
 ·rfl
theorem qrough_key (k:Int) (b:List UInt8):(qrough k b).1.key.length≤b.length:=by
 unfold qrough;split
 ·rw[(zqE_k _ _).2,(zq3_k _ _).2,(zq2_k _ _).2,(zq1_k _ _).2];unfold zq0;split
  ·exact(rdT_len b false (2+zqk b)).2.1
  ·exact Nat.zero_le _
 ·exact Nat.zero_le _
theorem uRough {k:Int} {b:List UInt8} (hb:b.length≤1000000):U Tryz.prog 253 [.int .i64 k,.sl (bsl b)] (.tup [.agg (mrc (qrough k b).1),.bool (qrough k b).2]):=by
 intro σ Post hk
 have bl:=bsl_len b
 have o0:okM { mr0 with k:=k }:=⟨rfl,rfl,rfl,rfl⟩
 have st0:splice [PV.int .i64 0,D.o,D.o,D.o,D.o,D.o,D.o,D.o,D.o,.int .i64 0,.int .i64 0,D.o,D.o,D.o,D.o,D.o,D.o,D.o,D.o,D.o,D.o,D.o,D.o,D.o,D.o,D.o,D.o,.int .i64 0,D.o,D.o,D.o,D.o,D.o,D.o,D.o,D.o,D.o,D.o,D.o,D.o,D.o,D.o,D.o,D.o,.int .i64 0,D.o,D.o,D.o,D.o,D.o,D.o,D.o,D.o,D.o,D.o,D.o,D.o,D.o,D.o,D.o,D.o,.str []] 0 [.int .i64 k]=mrc { mr0 with k:=k }:=rfl
 have ml:=mrc_len o0
 have ma:=mrc_all o0
 have ms:=mrc_sc (m:={ mr0 with k:=k })
 have sa:splice [PV.int .i64 0,D.o,D.o,D.o,D.o,D.o,D.o,D.o,D.o,.int .i64 0,.int .i64 0,D.o,D.o,D.o,D.o,D.o,D.o,D.o,D.o,D.o,D.o,D.o,D.o,D.o,D.o,D.o,D.o,.int .i64 0,D.o,D.o,D.o,D.o,D.o,D.o,D.o,D.o,D.o,D.o,D.o,D.o,D.o,D.o,D.o,D.o,.int .i64 0,D.o,D.o,D.o,D.o,D.o,D.o,D.o,D.o,D.o,D.o,D.o,D.o,D.o,D.o,D.o,D.o,.str []] 0 (mrc { mr0 with k:=k })=mrc { mr0 with k:=k }:=ms_all o0
 refine T253 fun hB hA=>?_
 rw[vb253_eq]
 by_cases hr:1≤k∧k≤7
 ·have ek:(ofF k).2=true:=by
   have h7:k=1∨k=2∨k=3∨k=4∨k=5∨k=6∨k=7:=by omega
   rcases h7 with e|e|e|e|e|e|e<;>rw[e]<;>rfl
  have k1:¬ k<1:=by omega
  have k2:¬ 7<k:=by omega
  unfold qrough at hk
  rw[if_pos ek] at hk
  have uw:=uWhat ek
  have go:∀ (E:Env) (h:VHeap),RoI σ k b (ofF k).1 (zq0 k b) E h→vrun Tryz.prog σ.length vb253_6 E h (vend vf253 (TrimP σ.length Post)):=fun E h hI=>
   ro6 hb zq0_ok hI fun E h hI=>ro7 hb (zq1_ok zq0_ok) hI fun E h hI=>ro8 hb (zq2_ok (zq1_ok zq0_ok)) hI fun E h hI=>ro9 hb hB (zq3_ok (zq2_ok (zq1_ok zq0_ok))) hI hk
  generalize (ofF k).1=p at *
  refine W ?_
  refine cu uw ?_
  refine W ?_
  refine ct ?_
  refine tROpen (by omega) ?_
  refine W ?_
  unfold vb253_5
  refine cutp (RoI σ k b p (zq0 k b)) ?_ fun u s' hI'=>go _ _ hI'
  by_cases h4:k=4
  ·have e0:zq0 k b=⟨{ mr0 with k:=k,key:=(rdT b false (2+zqk b)).1 },(rdT b false (2+zqk b)).2.1,(rdT b false (2+zqk b)).2.2⟩:=by unfold zq0;rw[if_pos h4]
   rw[e0]
   have sk:=ms_key o0 (z:=(rdT b false (2+zqk b)).1)
   by_cases h1:1<b.length
   ·obtain⟨x,y,r,rfl⟩:∃ x y r,b=x::y::r:=by
     match b,h1 with
     | [],h=>simp at h
     | [_],h=>simp at h
     | x::y::r,_=>exact⟨x,y,r,rfl⟩
    have hg:(bsl (x::y::r))[(1:Int).toNat]?=some [byt y]:=rfl
    have hy:=y.toNat_lt
    refine W ?_
    refine ct ?_
    refine tRTk (n:=2+zqk (x::y::r)) (by omega) ⟨Nat.zero_le _,rfl,by omega,lget rfl rfl,lget rfl rfl⟩ fun a2 fz2 q1 q2=>?_
    rw[rdSetL rfl]
    refine W ?_
    exact⟨rfl,rfl,rfl,rfl,rfl,rfl,rfl,rfl,rfl,a2,fz2,q1,q2,rfl⟩
   ·have ek0:zqk b=0:=by
     match b,h1 with
     | [],_=>rfl
     | [_],_=>rfl
     | _::_::_,h=>exact absurd (by simp) h
    rw[ek0] at sk ⊢
    refine W ?_
    refine ct ?_
    refine tRTk (n:=2) (by omega) ⟨Nat.zero_le _,rfl,by omega,lget rfl rfl,lget rfl rfl⟩ fun a2 fz2 q1 q2=>?_
    rw[rdSetL rfl]
    refine W ?_
    exact⟨rfl,rfl,rfl,rfl,rfl,rfl,rfl,rfl,rfl,a2,fz2,q1,q2,rfl⟩
  ·have e0:zq0 k b=⟨{ mr0 with k:=k },b,false⟩:=by unfold zq0;rw[if_neg h4]
   rw[e0]
   refine W ?_
   exact⟨rfl,rfl,rfl,rfl,rfl,rfl,rfl,rfl,rfl,0,false,Nat.zero_le _,rfl,rfl⟩
 ·have e:qrough k b=({ mr0 with k:=k },false):=by unfold qrough;rw[ofF_no hr];rfl
  rw[e] at hk
  by_cases k1:k<1
  ·refine W ?_
   exact hk
  ·have k2:7<k:=by omega
   refine W ?_
   exact hk
theorem uR7TakeG {l:List UInt8} {s:Int} {rt sz:Mr→Bool} (hl:l.length≤140737488355328)
  (hR:∀ (x y:UInt8) r,l=x::y::r→¬ r.length<y.toNat→U Tryz.prog 151 [.agg (mrc (qrough (x.toNat:Int) (r.take y.toNat)).1)] (.bool (rt (qrough (x.toNat:Int) (r.take y.toNat)).1)))
  (hS:∀ (x y:UInt8) r,l=x::y::r→¬ r.length<y.toNat→rt (qrough (x.toNat:Int) (r.take y.toNat)).1=true→U Tryz.prog 254 [.agg (mrc (qrough (x.toNat:Int) (r.take y.toNat)).1),.int .i64 s] (.bool (sz (qrough (x.toNat:Int) (r.take y.toNat)).1))):U Tryz.prog 229 [.sl (bsl l),.int .i64 s] (.tup [.agg (mrc (takeG rt sz l s).m),.int .i64 ((takeG rt sz l s).n:Int),.int .i64 (takeG rt sz l s).e]):=by
 intro σ Post hk
 have bl:=bsl_len l
 have d0:splice [PV.int .i64 0,D.o,D.o,D.o,D.o,D.o,D.o,D.o,D.o,.int .i64 0,.int .i64 0,D.o,D.o,D.o,D.o,D.o,D.o,D.o,D.o,D.o,D.o,D.o,D.o,D.o,D.o,D.o,D.o,.int .i64 0,D.o,D.o,D.o,D.o,D.o,D.o,D.o,D.o,D.o,D.o,D.o,D.o,D.o,D.o,D.o,D.o,.int .i64 0,D.o,D.o,D.o,D.o,D.o,D.o,D.o,D.o,D.o,D.o,D.o,D.o,D.o,D.o,D.o,D.o,.str []] 0 [PV.int .i64 0,D.o,D.o,D.o,D.o,D.o,D.o,D.o,D.o,.int .i64 0,.int .i64 0,D.o,D.o,D.o,D.o,D.o,D.o,D.o,D.o,D.o,D.o,D.o,D.o,D.o,D.o,D.o,D.o,.int .i64 0,D.o,D.o,D.o,D.o,D.o,D.o,D.o,D.o,D.o,D.o,D.o,D.o,D.o,D.o,D.o,D.o,.int .i64 0,D.o,D.o,D.o,D.o,D.o,D.o,D.o,D.o,D.o,D.o,D.o,D.o,D.o,D.o,D.o,D.o,.str []]=mrc mr0:=rfl
 have z1:=mrc_all mr0_ok
 have z2:=mrc_len mr0_ok
 have z3:=mrc_sc (m:=mr0)
 by_cases hs:s=4∨s=16
 ·match l,hk,hR,hS,hl,bl with
  | [],hk,hR,hS,hl,bl=>
    have e:takeG rt sz [] s=⟨mr0,0,3⟩:=by unfold takeG;rw[if_neg (by omega)]
    rw[e] at hk
    refine T229 fun hB hA=>?_
    rcases hs with hs|hs
    ·refine W ?_
     exact hk
    ·refine W ?_
     exact hk
  | [x],hk,hR,hS,hl,bl=>
    have e:takeG rt sz [x] s=⟨mr0,0,3⟩:=by unfold takeG;rw[if_neg (by omega)]
    rw[e] at hk
    refine T229 fun hB hA=>?_
    rcases hs with hs|hs
    ·refine W ?_
     exact hk
    ·refine W ?_
     exact hk
  | x::y::r,hk,hR,hS,hl,bl=>
    have ll:(x::y::r).length=r.length+2:=rfl
    have hg0:(bsl (x::y::r))[(0:Int).toNat]?=some [byt x]:=rfl
    have hg1:(bsl (x::y::r))[(1:Int).toNat]?=some [byt y]:=rfl
    have hx:=x.toNat_lt
    have hy:=y.toNat_lt
    by_cases hr:r.length<y.toNat
    ·have e:takeG rt sz (x::y::r) s=⟨mr0,0,3⟩:=by unfold takeG;rw[if_neg (by omega)];dsimp only;rw[if_pos hr]
     rw[e] at hk
     have h2:((r.length:Int)+2 - 2)<(y.toNat:Int):=by omega
     refine T229 fun hB hA=>?_
     rcases hs with hs|hs
     ·refine W ?_
      exact hk
     ·refine W ?_
      exact hk
    ·rw[take_q rt sz x y r s hs hr] at hk
     have uq:=uRough (k:=(x.toNat:Int)) (b:=r.take y.toNat) (by rw[List.length_take];omega)
     have he:List.take ((2+(y.toNat:Int)).toNat - Int.toNat 2) (List.drop (Int.toNat 2) (x::y::r))=r.take y.toNat:=by
      rw[show (2+(y.toNat:Int)).toNat - Int.toNat 2=y.toNat by show (2+(y.toNat:Int)).toNat - 2=_;omega]
      rfl
     have hR:=hR x y r rfl hr
     have hS:=hS x y r rfl hr
     have oq:=qrough_ok (x.toNat:Int) (r.take y.toNat)
     have uq:U Tryz.prog 253 [.int .i64 (x.toNat:Int),.sl ((List.take ((2+(y.toNat:Int)).toNat - Int.toNat 2) (List.drop (Int.toNat 2) (x::y::r))).map fun b=>[byt b])] (.tup [.agg (mrc (qrough (x.toNat:Int) (r.take y.toNat)).1),.bool (qrough (x.toNat:Int) (r.take y.toNat)).2]):=by rw[he];exact uq
     clear he
     generalize qrough (x.toNat:Int) (r.take y.toNat)=G at *
     obtain⟨gm,gb⟩:=G
     dsimp only at *
     have ml:=mrc_len oq
     have ma:=mrc_all oq
     have ms:=mrc_sc (m:=gm)
     have sa:=ms_any oq (cs:=[PV.int .i64 0,D.o,D.o,D.o,D.o,D.o,D.o,D.o,D.o,.int .i64 0,.int .i64 0,D.o,D.o,D.o,D.o,D.o,D.o,D.o,D.o,D.o,D.o,D.o,D.o,D.o,D.o,D.o,D.o,.int .i64 0,D.o,D.o,D.o,D.o,D.o,D.o,D.o,D.o,D.o,D.o,D.o,D.o,D.o,D.o,D.o,D.o,.int .i64 0,D.o,D.o,D.o,D.o,D.o,D.o,D.o,D.o,D.o,D.o,D.o,D.o,D.o,D.o,D.o,D.o,.str []]) rfl
     have en:((2+y.toNat:Nat):Int)=2+(y.toNat:Int):=by omega
     refine T229 fun hB hA=>?_
     rcases hs with hs|hs
     all_goals
      refine Wo ?_
      refine drJ (fun _=>True) [(2,0),(2,1),(2,2),(2,3),(2,4),(2,5),(2,6),(2,7),(2,8),(2,9),(2,10),(0,11),(0,12),(2,13)] (by kernel_rfl) (by kernel_rfl) (by exact z_ol) trivial ?_
      refine Wo ?_
      refine s2 uq ?_
      refine Wo ?_
      cases gb with
      | false=>
        rw[if_neg (by simp)] at hk
        refine W ?_
        exact hk
      | true=>
      refine W ?_
      refine cu hR ?_
      cases hrt:rt gm with
      | false=>
        rw[hrt,if_neg (by simp)] at hk
        refine W ?_
        exact hk
      | true=>
      refine W ?_
      refine cu (hS hrt) ?_
      cases hsz:sz gm with
      | false=>
        rw[hsz,if_neg (by simp)] at hk
        refine W ?_
        exact hk
      | true=>
        rw[hrt,hsz,if_pos (by simp)] at hk
        dsimp only at hk
        rw[en] at hk
        refine W ?_
        exact hk
 ·have e:takeG rt sz l s=⟨mr0,0,1⟩:=by unfold takeG;rw[if_pos (by omega)]
  rw[e] at hk
  have h4:¬ s=4:=fun e=>hs (.inl e)
  have h16:¬ s=16:=fun e=>hs (.inr e)
  refine T229 fun hB hA=>?_
  refine W ?_
  exact hk
theorem uR7KeyG {b:List UInt8} (hb:b.length≤140737488355328) (hT:b.head?≠some 4→∀ s,s=4∨s=16→U Tryz.prog 229 [.sl (bsl b),.int .i64 s] (.tup [.agg (mrc (takeN b s).m),.int .i64 ((takeN b s).n:Int),.int .i64 (takeN b s).e])):U Tryz.prog 193 [.sl (bsl b)] (.bool (refKey b)):=by
 intro σ Post hk
 have bl:=bsl_len b
 unfold refKey at hk
 match b,hk,hT,hb,bl with
 | [],hk,hT,hb,bl=>
   refine T193 fun hB hA=>?_
   refine W ?_
   exact hk
 | x::r,hk,hT,hb,bl=>
 have hg0:(bsl (x::r))[(0:Int).toNat]?=some [byt x]:=rfl
 have ll:(x::r).length=r.length+1:=rfl
 have hh:(x::r).head?=some x:=rfl
 have hx2:=x.toNat_lt
 rw[hh] at hk hT
 rw[decide_eq_true (show 1≤(x::r).length by omega),Bool.true_and] at hk
 refine T193 fun hB hA=>?_
 by_cases h300:(x::r).length≤300
 ·have n300:¬ 300<(r.length:Int)+1:=by omega
  rw[decide_eq_true h300,Bool.true_and] at hk
  by_cases h23:x=2∨x=3
  ·have h4:(some x:Option UInt8)≠some 4:=by rcases h23 with e|e<;>rw[e]<;>decide
   have hx:(x.toNat:Int)=2∨(x.toNat:Int)=3:=by rcases h23 with e|e<;>rw[e]<;>decide
   have hT:=hT h4
   have e23:(decide (some x=some 2)||decide (some x=some 3))=true:=by rcases h23 with e|e<;>rw[e]<;>rfl
   rw[e23,Bool.true_and] at hk
   generalize hbb:x::r=b at *
   have bl1:(bsl b).length=r.length+1:=by omega
   have okT:∀ s,okM (takeN b s).m:=fun s=>takeG_ok _ _ _ _
   have gK:∀ s,goodK b s=(decide ((takeN b s).e=0)&&(decide ((takeN b s).n=b.length)&&(decide ((takeN b s).m.k=2)||decide ((takeN b s).m.k=3)))):=fun s=>rfl
   have step:∀ s:Int,True:=fun _=>trivial
   clear step
   rcases hx with hx|hx
   all_goals
    refine W ?_
    refine lp (fun k e h=>∃ (s:Int) (g:Nat) (o:VObj),e 3=.int .i64 s∧((k=2∧s=4)∨(k=1∧s=16∧goodK b 4=false)∨(k=0∧s=28∧goodK b 4=false∧goodK b 16=false))∧h=σ++[(g,o)]) 2 ⟨4,0,.dead,rfl,.inl ⟨rfl,rfl⟩,rfl⟩ ?_
    rintro k u _ ⟨s,g,o,e3,hI,rfl⟩
    by_cases hs:s=4∨s=16
    ·have le16:s≤16:=by omega
     have hT:=hT s hs
     have okm:=okT s
     have ml:=mrc_len okm
     have ma:=mrc_all okm
     have ms:=mrc_sc (m:=(takeN b s).m)
     have sa:=ms_any okm (cs:=[PV.int .i64 0,D.o,D.o,D.o,D.o,D.o,D.o,D.o,D.o,.int .i64 0,.int .i64 0,D.o,D.o,D.o,D.o,D.o,D.o,D.o,D.o,D.o,D.o,D.o,D.o,D.o,D.o,D.o,D.o,.int .i64 0,D.o,D.o,D.o,D.o,D.o,D.o,D.o,D.o,D.o,D.o,D.o,D.o,D.o,D.o,D.o,D.o,.int .i64 0,D.o,D.o,D.o,D.o,D.o,D.o,D.o,D.o,D.o,D.o,D.o,D.o,D.o,D.o,D.o,D.o,.str []]) rfl
     have g0:cut (mrc (takeN b s).m) 0 none=some (.int .i64 (takeN b s).m.k):=rfl
     have gk:=gK s
     have yes:goodK b s=true→Post (.bool true) σ:=fun hg=>by
      refine finP hk ?_
      rcases hs with rfl|rfl
      ·rw[hg];rfl
      ·rw[hg,Bool.or_true]
     have nxt:goodK b s=false→((k - 1=1∧s+12=16∧goodK b 4=false)∨(k - 1=0∧s+12=28∧goodK b 4=false∧goodK b 16=false))∧k - 1<k:=fun hg=>by
      rcases hI with ⟨h1,h2⟩|⟨h1,h2,h3⟩|⟨h1,h2,h3⟩
      ·subst h1 h2;exact⟨.inl ⟨rfl,rfl,hg⟩,by omega⟩
      ·subst h1 h2;exact⟨.inr ⟨rfl,rfl,h3,hg⟩,by omega⟩
      ·omega
     generalize takeN b s=t at *
     by_cases h0:t.e=0
     ·by_cases h1:t.n=b.length
      ·have h1':(t.n:Int)=(r.length:Int)+1:=by omega
       by_cases h2:t.m.k=2
       ·have:=yes (by rw[gk];simp[h0,h1,h2])
        refine W ?_
        refine cu hT ?_
        refine W ?_
        exact this
       ·by_cases h3:t.m.k=3
        ·have:=yes (by rw[gk];simp[h0,h1,h3])
         refine W ?_
         refine cu hT ?_
         refine W ?_
         exact this
        ·obtain⟨n1,n2⟩:=nxt (by rw[gk];simp[h2,h3])
         refine W ?_
         refine cu hT ?_
         refine W ?_
         exact⟨k - 1,n2,s+12,g+1,_,rfl,.inr n1,rfl⟩
      ·have h1':¬ (t.n:Int)=(r.length:Int)+1:=by omega
       obtain⟨n1,n2⟩:=nxt (by rw[gk];simp[h1])
       refine W ?_
       refine cu hT ?_
       refine W ?_
       exact⟨k - 1,n2,s+12,g+1,_,rfl,.inr n1,rfl⟩
     ·obtain⟨n1,n2⟩:=nxt (by rw[gk];simp[h0])
      refine W ?_
      refine cu hT ?_
      refine W ?_
      exact⟨k - 1,n2,s+12,g+1,_,rfl,.inr n1,rfl⟩
    ·have h28:s=28∧goodK b 4=false∧goodK b 16=false:=by
      rcases hI with ⟨h1,h2⟩|⟨h1,h2,h3⟩|⟨h1,h2,h3⟩
      ·exact absurd (.inl h2) hs
      ·exact absurd (.inr h2) hs
      ·exact⟨h2,h3⟩
     have gt:¬ s≤16:=by omega
     rw[h28.2.1,h28.2.2] at hk
     refine W ?_
     exact hk
  ·have n2:¬ (x.toNat:Int)=2:=fun e=>h23 (.inl (UInt8.toNat_inj.1 (by show x.toNat=2;omega)))
   have n3:¬ (x.toNat:Int)=3:=fun e=>h23 (.inr (UInt8.toNat_inj.1 (by show x.toNat=3;omega)))
   have e23:(decide (some x=some 2)||decide (some x=some 3))=false:=by
    have a1:¬ x=2:=fun e=>h23 (.inl e)
    have a2:¬ x=3:=fun e=>h23 (.inr e)
    simp[a1,a2]
   rw[e23,Bool.false_and] at hk
   have bl2:(bsl (x::r)).length=r.length+1:=by omega
   refine W ?_
   exact hk
 ·have n300:300<(r.length:Int)+1:=by omega
  rw[decide_eq_false h300,Bool.false_and] at hk
  refine W ?_
  exact hk
theorem mc_ss {m:Mr} (h:okM m):cut (mrc m) 10 none=some (.int .i64 m.s.s):=by
 have e:mrc m=([.int .i64 m.k]++(u8c m.rd++[.int .i64 m.aa]))++(.int .i64 m.s.s::(u8c m.s.b++(adc m.g++(adc m.f++[.str m.key])))):=by simp[mrc,adc,adr]
 rw[e];exact cut_one (l_s h)
theorem mc_gs {m:Mr} (h:okM m):cut (mrc m) 27 none=some (.int .i64 m.g.s):=by
 have e:mrc m=([.int .i64 m.k]++(u8c m.rd++([.int .i64 m.aa]++adc m.s)))++(.int .i64 m.g.s::(u8c m.g.b++(adc m.f++[.str m.key]))):=by simp[mrc,adc,adr]
 rw[e];exact cut_one (l_g h)
theorem uR7SizedG {m:Mr} {s:Int} {t:MT} (h:okM m) (hkl:m.key.length≤140737488355328) (ot:okM t.m) (hT:m.k=4→U Tryz.prog 229 [.sl (bsl m.key),.int .i64 s] (.tup [.agg (mrc t.m),.int .i64 (t.n:Int),.int .i64 t.e])):U Tryz.prog 254 [.agg (mrc m),.int .i64 s] (.bool (if m.k=4 then decide (t.e=0)&&(decide (t.m.k=2)||decide (t.m.k=3)) else sizeOk m s)):=by
 intro σ Post hk
 have sc:=mrc_sc (m:=m)
 have ml:=mrc_len h
 have g0:cut (mrc m) 0 none=some (.int .i64 m.k):=rfl
 have g6:=mc_key h
 have gs:=mc_ss h
 have gg:=mc_gs h
 refine T254 fun hB hA=>?_
 by_cases h4:m.k=4
 ·rw[if_pos h4] at hk
  have hT:=hT h4
  have tl:=mrc_len ot
  have ts:=mrc_sc (m:=t.m)
  have ta:=ms_any ot (cs:=[PV.int .i64 0,D.o,D.o,D.o,D.o,D.o,D.o,D.o,D.o,.int .i64 0,.int .i64 0,D.o,D.o,D.o,D.o,D.o,D.o,D.o,D.o,D.o,D.o,D.o,D.o,D.o,D.o,D.o,D.o,.int .i64 0,D.o,D.o,D.o,D.o,D.o,D.o,D.o,D.o,D.o,D.o,D.o,D.o,D.o,D.o,D.o,D.o,.int .i64 0,D.o,D.o,D.o,D.o,D.o,D.o,D.o,D.o,D.o,D.o,D.o,D.o,D.o,D.o,D.o,D.o,.str []]) rfl
  have t0:cut (mrc t.m) 0 none=some (.int .i64 t.m.k):=rfl
  refine W ?_
  refine cu hT ?_
  by_cases h0:t.e=0
  ·by_cases h2:t.m.k=2
   ·refine W ?_;exact finP hk (by simp[h0,h2])
   ·by_cases h3:t.m.k=3
    ·refine W ?_;exact finP hk (by simp[h0,h3])
    ·refine W ?_;exact finP hk (by simp[h2,h3])
  ·refine W ?_;exact finP hk (by simp[h0])
 ·rw[if_neg h4] at hk
  unfold sizeOk fitA at hk
  have last:∀ (E:Env),True:=fun _=>trivial
  clear last
  by_cases h1:m.s.s=0
  ·by_cases h3:m.g.s=0
   ·refine W ?_;exact finP hk (by simp[h1,h3])
   ·by_cases h5:m.g.s=s
    ·refine W ?_;exact finP hk (by simp[h1,h5])
    ·refine W ?_;exact finP hk (by simp[h3,h5])
  ·by_cases h2:m.s.s=s
   ·by_cases h3:m.g.s=0
    ·refine W ?_;exact finP hk (by simp[h2,h3])
    ·by_cases h5:m.g.s=s
     ·refine W ?_;exact finP hk (by simp[h2,h5])
     ·refine W ?_;exact finP hk (by simp[h3,h5])
   ·refine W ?_;exact finP hk (by simp[h1,h2])
theorem uR7TakeN {l:List UInt8} {s:Int} (hl:l.length≤140737488355328) (h4:l.head?≠some 4):U Tryz.prog 229 [.sl (bsl l),.int .i64 s] (.tup [.agg (mrc (takeN l s).m),.int .i64 ((takeN l s).n:Int),.int .i64 (takeN l s).e]):=by
 have kx:∀ (x y:UInt8) r,l=x::y::r→¬ (qrough (x.toNat:Int) (r.take y.toNat)).1.k=4:=fun x y r e hk=>by
  rw[qrough_k] at hk
  refine h4 ?_
  rw[e,List.head?_cons]
  exact congrArg some (UInt8.toNat_inj.1 (by show x.toNat=4;omega))
 have kl:∀ (x y:UInt8) (r:List UInt8),(qrough (x.toNat:Int) (r.take y.toNat)).1.key.length≤140737488355328:=fun x y r=>by
  have h1:=qrough_key (x.toNat:Int) (r.take y.toNat)
  have h2:=y.toNat_lt
  rw[List.length_take] at h1
  omega
 refine uR7TakeG hl (fun x y r e hr=>?_) (fun x y r e hr _=>?_)
 ·exact uR7RightG (B:=false) (qrough_ok _ _) (kl x y r) fun hk=>absurd hk (kx x y r e)
 ·have u:=uR7SizedG (s:=s) (t:=⟨mr0,0,0⟩) (qrough_ok (x.toNat:Int) (r.take y.toNat)) (kl x y r) mr0_ok fun hk=>absurd hk (kx x y r e)
  rw[if_neg (kx x y r e)] at u
  have e2:szN s (qrough (x.toNat:Int) (r.take y.toNat)).1=sizeOk (qrough (x.toNat:Int) (r.take y.toNat)).1 s:=by
   unfold szN sizedG
   rw[decide_eq_true (kx x y r e)]
   simp
  rw[e2];exact u
theorem uR7Key {b:List UInt8} (hb:b.length≤140737488355328):U Tryz.prog 193 [.sl (bsl b)] (.bool (refKey b)):=uR7KeyG hb fun h4 s _=>uR7TakeN hb h4
theorem uR7Right {m:Mr} (h:okM m) (hkl:m.key.length≤140737488355328):U Tryz.prog 151 [.agg (mrc m)] (.bool (rightF m)):=by
 have:=uR7RightG (B:=refKey m.key) h hkl fun _=>uR7Key hkl
 unfold rightF
 rw[ans_key];exact this
theorem sized_leaf {m:Mr} {s:Int} (hr:rightF m=true) (h4:m.k=4):szF s m=(decide ((takeN m.key s).e=0)&&(decide ((takeN m.key s).m.k=2)||decide ((takeN m.key s).m.k=3))):=by
 have R:=rightM hr
 have hk:=R.key h4
 rw[ans_key] at hk
 unfold refKey at hk
 simp only[Bool.and_eq_true,Bool.or_eq_true,decide_eq_true_eq] at hk
 obtain⟨_,_,hd,hg⟩:=hk
 have hb:=R.bare
 rw[h4] at hb
 have e1:m.s=ad0:=(congrArg Mr.s hb).symm
 have e2:m.g=ad0:=(congrArg Mr.g hb).symm
 have hlen:∃ x y r,m.key=x::y::r∧2+y.toNat=m.key.length:=by
  rcases hg with hg|hg
  all_goals
   unfold goodK at hg
   simp only[Bool.and_eq_true,decide_eq_true_eq] at hg
   obtain⟨x,y,r,e,hn,_⟩:=takeG_e0 (rt:=rtN) (sz:=szN _) hg.1
   refine⟨x,y,r,e,?_⟩
   have:=hg.2.1
   have hn':(takeN m.key _).n=2+y.toNat:=hn
   omega
 obtain⟨x,y,r,ek,hl⟩:=hlen
 unfold szF sizedG sizeOk fitA
 rw[e1,e2,h4]
 have p0:(parseN m.key s).2=0↔(takeN m.key s).e=0:=by
  unfold parseN prs
  by_cases h0:(takeN m.key s).e=0
  ·obtain⟨x',y',r',e',hn,_⟩:=takeG_e0 (rt:=rtN) (sz:=szN s) h0
   have hn':(takeN m.key s).n=2+y'.toNat:=hn
   have:y'=y:=by rw[ek] at e';injection e' with _ e';injection e' with e' _;exact e'.symm
   subst this
   rw[if_neg (by simp[h0]),if_neg (by omega)]
   simp[h0]
  ·rw[if_pos h0]
 by_cases h0:(takeN m.key s).e=0
 ·obtain⟨x',y',r',e',_,hx,_⟩:=takeG_e0 (rt:=rtN) (sz:=szN s) h0
  have hx':(takeN m.key s).m.k=(x'.toNat:Int):=hx
  have:x'=x:=by rw[ek] at e';injection e' with e' _;exact e'.symm
  subst this
  rw[ek,List.head?_cons] at hd
  have:(x'.toNat:Int)=2∨(x'.toNat:Int)=3:=by
   rcases hd with hd|hd
   ·exact .inl (by rw[Option.some.inj hd];rfl)
   ·exact .inr (by rw[Option.some.inj hd];rfl)
  rw[decide_eq_true h0,decide_eq_true (p0.2 h0),hx']
  rcases this with e|e<;>rw[e]<;>rfl
 ·rw[decide_eq_false h0,decide_eq_false (fun e=>h0 (p0.1 e))]
  rfl
theorem uR7Sized {m:Mr} {s:Int} (h:okM m) (hkl:m.key.length≤140737488355328) (hr:rightF m=true):U Tryz.prog 254 [.agg (mrc m),.int .i64 s] (.bool (szF s m)):=by
 have hk4:m.k=4→m.key.head?≠some 4:=fun h4 hd=>by
  have hk:=(rightM hr).key h4
  rw[ans_key] at hk
  unfold refKey at hk
  rw[hd] at hk
  simp at hk
 have u:=uR7SizedG (s:=s) (t:=takeN m.key s) h hkl (takeG_ok _ _ _ _) fun h4=>uR7TakeN hkl (hk4 h4)
 by_cases h4:m.k=4
 ·rw[if_pos h4,← sized_leaf hr h4] at u;exact u
 ·rw[if_neg h4] at u
  have e2:szF s m=sizeOk m s:=by
   unfold szF sizedG
   rw[decide_eq_true h4]
   simp
  rw[e2];exact u
theorem uR7Take {l:List UInt8} {s:Int} (hl:l.length≤140737488355328):U Tryz.prog 229 [.sl (bsl l),.int .i64 s] (.tup [.agg (mrc (takeM l s).m),.int .i64 ((takeM l s).n:Int),.int .i64 (takeM l s).e]):=by
 have kl:∀ (x y:UInt8) (r:List UInt8),(qrough (x.toNat:Int) (r.take y.toNat)).1.key.length≤140737488355328:=fun x y r=>by
  have h1:=qrough_key (x.toNat:Int) (r.take y.toNat)
  have h2:=y.toNat_lt
  rw[List.length_take] at h1
  omega
 exact uR7TakeG hl (fun x y r e hr=>uR7Right (qrough_ok _ _) (kl x y r)) (fun x y r e hr hrt=>uR7Sized (qrough_ok _ _) (kl x y r) hrt)
end Go.Proofs.YtdpeaefgbmkegaaGreatDoor
