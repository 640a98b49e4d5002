/- mroute.answered. -/
import Derived.Test.YtdpeaefgbmkegaaGreatDoorHB
set_option maxHeartbeats 8000000
namespace Go.Proofs.YtdpeaefgbmkegaaGreatDoor
open Go Go.V
set_option maxRecDepth 10000
attribute [local irreducible] vBuild vCallV
def goodA (t:Mr × Int):Bool:=decide (t.2=0)&&(decide (t.1.k=2)||decide (t.1.k=3))
def ansG (P:Int→Mr × Int):Mr × Bool:=if goodA (P 4)=true then((P 4).1,true) else if goodA (P 16)=true then((P 16).1,true) else(mr0,false)
theorem uAns4 {t:List UInt8}:U Tryz.prog 220 [.str (4::t)] (.tup [.agg mz,.bool false]):=by
 intro σ Post hk
 have w1:=mz_zz
 have w2:=mz_zy
 have w3:=mz_all
 have w4:=mz_len
 have w5:=mz_sc
 have i0:(4::t)[0]?=some (4:UInt8):=rfl
 have k1:IntKind.i64.wrap ((4:UInt8).toNat:Int)=4:=rfl
 refine T220 fun hB hA=>?_
 refine W ?_
 exact hk
theorem byte_ne4 {x:UInt8} (h:x≠4):¬ (x.toNat:Int)=4:=fun e=>h (UInt8.toNat_inj.1 (by rw[show (4:UInt8).toNat=4 from rfl];omega))
theorem uAnsG {key:List UInt8} {P:Int→Mr × Int} (hkl:key.length≤140737488355328) (hkey:key.head?≠some 4) (hP:∀ s,s=4∨s=16→U Tryz.prog 243 [.sl (bsl key),.int .i64 s] (.tup [.agg (mrc (P s).1),.int .i64 (P s).2])) (okP:∀ s,s=4∨s=16→okM (P s).1) :
  U Tryz.prog 220 [.str key] (.tup [.agg (mrc (ansG P).1),.bool (ansG P).2]):=by
 intro σ Post hk
 have w1:=mz_zz
 have w2:=mz_zy
 have w3:=mz_all
 have w4:=mz_len
 have w5:=mz_sc
 have p4:=hP 4 (.inl rfl)
 have p16:=hP 16 (.inr rfl)
 have eb:bsl key=bytesEs key:=by unfold bsl bytesEs;rfl
 rw[eb] at p4 p16
 have o4:=okP 4 (.inl rfl)
 have o16:=okP 16 (.inr rfl)
 unfold ansG at hk
 generalize P 4=A at *
 generalize P 16=B at *
 have a1:=mz_st o4
 have a2:splice mz 0 (mrc A.1)=mrc A.1:=ms_all o4
 have a3:=mrc_len o4
 have a4:=mrc_sc (m:=A.1)
 have a5:=mrc_all o4
 have a6:cut (mrc A.1) 0 none=some (.int .i64 A.1.k):=rfl
 have b1:=mz_st o16
 have b2:splice mz 0 (mrc B.1)=mrc B.1:=ms_all o16
 have b3:=mrc_len o16
 have b4:=mrc_sc (m:=B.1)
 have b5:=mrc_all o16
 have b6:cut (mrc B.1) 0 none=some (.int .i64 B.1.k):=rfl
 refine T220 fun hB hA=>?_
 refine cutp (fun e h=>e 0=.str key∧(∃ g,e 2=.ptr (σ.length+0) g 0∧g=1)∧h=σ++[(1,.box mz false),(0,.dead),(0,.dead),(0,.dead)]) ?_ ?_
 ·refine W ?_
  exact⟨rfl,⟨1,rfl,rfl⟩,rfl⟩
 rintro u _ ⟨e0,⟨_,e2,rfl⟩,rfl⟩
 refine cutp (fun e h=>e 0=.str key∧(∃ g,e 2=.ptr (σ.length+0) g 0∧g=1)∧h=σ++[(1,.box mz false),(0,.dead),(0,.dead),(0,.dead)]) ?_ ?_
 ·cases key with
  | nil=>
    refine W ?_
    exact⟨e0,⟨1,e2,rfl⟩,rfl⟩
  | cons x t=>
    have hx:¬ (x.toNat:Int)=4:=byte_ne4 fun e=>hkey (by rw[List.head?_cons,e])
    have i0:(x::t)[0]?=some x:=rfl
    have hx2:=x.toNat_lt
    have k1:IntKind.i64.wrap (x.toNat:Int)=(x.toNat:Int):=w_i64 (by omega) (by omega)
    refine W ?_
    exact⟨e0,⟨1,e2,rfl⟩,rfl⟩
 clear e0 e2
 rintro u _ ⟨e0,⟨_,e2,rfl⟩,rfl⟩
 refine W ?_
 refine lp (fun j e h=>e 0=.str key∧(∃ g,e 2=.ptr (σ.length+0) g 0∧g=1)∧(∃ g,e 17=.row (σ.length+1) g∧g=1)∧e 18=.int .i64 2∧(j=2∧e 19=.int .i64 0∨j=1∧e 19=.int .i64 1∧goodA A=false∨j=0∧e 19=.int .i64 2∧goodA A=false∧goodA B=false)∧
  ∃ g2 b2 g3 b3,h=σ++[(1,.box mz false),(1,.row 1 [[.int .i64 4],[.int .i64 16]] false),(g2,b2),(g3,b3)]) 2 ⟨e0,⟨1,e2,rfl⟩,⟨1,rfl,rfl⟩,rfl,.inl ⟨rfl,rfl⟩,_,_,_,_,rfl⟩ ?_
 intro j u s' hI
 revert hI
 generalize mix _ u _=E
 rintro ⟨e0,⟨_,e2,rfl⟩,⟨_,e17,rfl⟩,e18,hj,g2,b2',g3,b3',rfl⟩
 clear u
 have ln2:([[PV.int IntKind.i64 4],[PV.int IntKind.i64 16]]:List (List PV)).length=2:=rfl
 rcases hj with ⟨rfl,e19⟩|⟨rfl,e19,hA0⟩|⟨rfl,e19,hA0,hB0⟩
 ·refine W ?_
  refine cu p4 ?_
  by_cases hz:A.2=0
  ·by_cases h2:A.1.k=2
   ·have hb:goodA A=true:=by unfold goodA;simp[hz,h2]
    rw[if_pos hb] at hk
    refine W ?_
    exact hk
   ·by_cases h3:A.1.k=3
    ·have hb:goodA A=true:=by unfold goodA;simp[hz,h3]
     rw[if_pos hb] at hk
     refine W ?_
     exact hk
    ·have hb:goodA A=false:=by unfold goodA;simp[hz,h2,h3]
     refine W ?_
     exact⟨1,by omega,e0,⟨1,e2,rfl⟩,⟨1,e17,rfl⟩,e18,.inr (.inl ⟨rfl,rfl,hb⟩),_,_,_,_,rfl⟩
  ·have hb:goodA A=false:=by unfold goodA;simp[hz]
   refine W ?_
   exact⟨1,by omega,e0,⟨1,e2,rfl⟩,⟨1,e17,rfl⟩,e18,.inr (.inl ⟨rfl,rfl,hb⟩),_,_,_,_,rfl⟩
 ·refine W ?_
  refine cu p16 ?_
  by_cases hz:B.2=0
  ·by_cases h2:B.1.k=2
   ·have hb:goodA B=true:=by unfold goodA;simp[hz,h2]
    rw[if_neg (by rw[hA0];simp)] at hk
    rw[if_pos hb] at hk
    refine W ?_
    exact hk
   ·by_cases h3:B.1.k=3
    ·have hb:goodA B=true:=by unfold goodA;simp[hz,h3]
     rw[if_neg (by rw[hA0];simp)] at hk
     rw[if_pos hb] at hk
     refine W ?_
     exact hk
    ·have hb:goodA B=false:=by unfold goodA;simp[hz,h2,h3]
     refine W ?_
     exact⟨0,by omega,e0,⟨1,e2,rfl⟩,⟨1,e17,rfl⟩,e18,.inr (.inr ⟨rfl,rfl,hA0,hb⟩),_,_,_,_,rfl⟩
  ·have hb:goodA B=false:=by unfold goodA;simp[hz]
   refine W ?_
   exact⟨0,by omega,e0,⟨1,e2,rfl⟩,⟨1,e17,rfl⟩,e18,.inr (.inr ⟨rfl,rfl,hA0,hb⟩),_,_,_,_,rfl⟩
 ·rw[if_neg (by rw[hA0];simp),if_neg (by rw[hB0];simp)] at hk
  refine W ?_
  exact hk
end Go.Proofs.YtdpeaefgbmkegaaGreatDoor
namespace Go.Proofs.YtdpeaefgbmkegaaGreatDoor
open Go Go.V
set_option maxRecDepth 10000
attribute [local irreducible] vBuild vCallV vBuildSlice
def fitA (a:Ad) (s:Int):Bool:=decide (a.s=0)||decide (a.s=s)
def sizeOk (m:Mr) (s:Int):Bool:=fitA m.s s&&fitA m.g s
def sizedG (m:Mr) (s:Int) (e:Int):Bool:=sizeOk m s&&(decide (m.k≠4)||decide (e=0))
theorem uSizedG {m:Mr} {s:Int} {t:Mr × Int} (h:okM m) (hkl:m.key.length≤140737488355328) (ht:okM t.1) (hP:m.k=4→U Tryz.prog 243 [.sl (bsl m.key),.int .i64 s] (.tup [.agg (mrc t.1),.int .i64 t.2])) :
  U Tryz.prog 278 [.agg (mrc m),.int .i64 s] (.bool (sizedG m s t.2)):=by
 intro σ Post hk
 have sc:=mrc_sc (m:=m)
 have ln:=mrc_len h
 have c0:=mrc_all h
 have c3:=mc_s h
 have c4:=mc_g h
 have c6:=mc_key h
 have c7:cut (mrc m) 0 none=some (.int .i64 m.k):=rfl
 have l1:=adc_len h.s
 have l2:=adc_len h.g
 have s1':=adc_sc (a:=m.s)
 have s2':=adc_sc (a:=m.g)
 have d1:=ad_set h.s
 have d2:=ad_set h.g
 have d3:=adc_all h.s
 have d4:=adc_all h.g
 have d5:=adc_s (a:=m.s)
 have d6:=adc_s (a:=m.g)
 have w6:=mz_st ht
 have w8:=mrc_len ht
 have w9:=mrc_sc (m:=t.1)
 have ln2:([adc m.s,adc m.g]:List (List PV)).length=2:=rfl
 refine T278 fun hB hA=>?_
 refine W ?_
 refine lp (fun j e h=>e 1=.int .i64 s∧(∃ g,e 2=.ptr (σ.length+0) g 0∧g=1)∧(∃ g,e 13=.row (σ.length+1) g∧g=1)∧e 14=.int .i64 2∧(j=2∧e 15=.int .i64 0∨j=1∧e 15=.int .i64 1∧fitA m.s s=true∨j=0∧e 15=.int .i64 2∧fitA m.s s=true∧fitA m.g s=true)∧
  ∃ g2 b2 g3 b3 g4 b4,h=σ++[(1,.box (mrc m) false),(1,.row 17 [adc m.s,adc m.g] false),(g2,b2),(g3,b3),(g4,b4)]) 2 ⟨rfl,⟨1,rfl,rfl⟩,⟨1,rfl,rfl⟩,rfl,.inl ⟨rfl,rfl⟩,_,_,_,_,_,_,rfl⟩ ?_
 intro j u s' hI
 revert hI
 generalize mix _ u _=E
 rintro ⟨e1,⟨_,e2,rfl⟩,⟨_,e13,rfl⟩,e14,hj,g2,b2,g3,b3,g4,b4,rfl⟩
 clear u
 unfold sizedG sizeOk at hk
 rcases hj with ⟨rfl,e15⟩|⟨rfl,e15,hA0⟩|⟨rfl,e15,hA0,hB0⟩
 ·by_cases z0:m.s.s=0
  ·have hf:fitA m.s s=true:=by unfold fitA;simp[z0]
   refine W ?_
   exact⟨1,by omega,e1,⟨1,e2,rfl⟩,⟨1,e13,rfl⟩,e14,.inr (.inl ⟨rfl,rfl,hf⟩),_,_,_,_,_,_,rfl⟩
  ·by_cases z1:m.s.s=s
   ·have hf:fitA m.s s=true:=by unfold fitA;simp[z1]
    refine W ?_
    exact⟨1,by omega,e1,⟨1,e2,rfl⟩,⟨1,e13,rfl⟩,e14,.inr (.inl ⟨rfl,rfl,hf⟩),_,_,_,_,_,_,rfl⟩
   ·have hf:fitA m.s s=false:=by unfold fitA;simp[z0,z1]
    rw[hf,Bool.false_and,Bool.false_and] at hk
    refine W ?_
    exact hk
 ·rw[hA0,Bool.true_and] at hk
  by_cases z0:m.g.s=0
  ·have hf:fitA m.g s=true:=by unfold fitA;simp[z0]
   refine W ?_
   exact⟨0,by omega,e1,⟨1,e2,rfl⟩,⟨1,e13,rfl⟩,e14,.inr (.inr ⟨rfl,rfl,hA0,hf⟩),_,_,_,_,_,_,rfl⟩
  ·by_cases z1:m.g.s=s
   ·have hf:fitA m.g s=true:=by unfold fitA;simp[z1]
    refine W ?_
    exact⟨0,by omega,e1,⟨1,e2,rfl⟩,⟨1,e13,rfl⟩,e14,.inr (.inr ⟨rfl,rfl,hA0,hf⟩),_,_,_,_,_,_,rfl⟩
   ·have hf:fitA m.g s=false:=by unfold fitA;simp[z0,z1]
    rw[hf,Bool.false_and] at hk
    refine W ?_
    exact hk
 ·rw[hA0,hB0,Bool.true_and,Bool.true_and] at hk
  by_cases k4:m.k=4
  ·rw[decide_eq_false (by simpa using k4),Bool.false_or] at hk
   have p:=hP k4
   have eb:bsl m.key=bytesEs m.key:=rfl
   rw[eb] at p
   refine W ?_
   refine cu p ?_
   by_cases hz:t.2=0
   ·rw[decide_eq_true hz] at hk
    refine W ?_
    exact hk
   ·rw[decide_eq_false hz] at hk
    refine W ?_
    exact hk
  ·rw[decide_eq_true k4,Bool.true_or] at hk
   refine W ?_
   exact hk
end Go.Proofs.YtdpeaefgbmkegaaGreatDoor
namespace Go.Proofs.YtdpeaefgbmkegaaGreatDoor
open Go Go.V
set_option maxRecDepth 10000
theorem rs1_key (p:Pt) (S:RS):(rs1 p S).m.key=S.m.key:=by unfold rs1;split<;>rfl
theorem rs2_key (p:Pt) (S:RS):(rs2 p S).m.key=S.m.key:=by unfold rs2;split<;>rfl
theorem rs3_key (p:Pt) (S:RS):(rs3 p S).m.key=S.m.key:=by unfold rs3;split<;>rfl
theorem rs4_key (p:Pt) (S:RS):(rs4 p S).m.key=S.m.key:=by unfold rs4;split<;>rfl
theorem readM_key (k:Int) (l:List UInt8) (bad:Bool) (key:List UInt8):(readM k l bad key).m.key=key:=by unfold readM;rw[rs4_key,rs3_key,rs2_key,rs1_key];rfl
theorem takeG_ok (rt sz:Mr→Bool) (l:List UInt8) (s:Int):okM (takeG rt sz l s).m:=by
 unfold takeG
 split
 ·exact mr0_ok
 ·split
  ·split
   ·exact mr0_ok
   ·split
    ·exact mr0_ok
    ·split
     ·exact readM_ok _ _ _ _
     ·exact mr0_ok
  ·exact mr0_ok
theorem prs_ok {t:MT} (h:okM t.m) (n:Nat):okM (prs t n).1:=by
 unfold prs;split
 ·exact mr0_ok
 ·split
  ·exact mr0_ok
  ·exact h
def rtN (m:Mr):Bool:=rightG m false
def szN (s:Int) (m:Mr):Bool:=sizedG m s 0
def takeN (l:List UInt8) (s:Int):MT:=takeG rtN (szN s) l s
def parseN (l:List UInt8) (s:Int):Mr × Int:=prs (takeN l s) l.length
theorem uTakeN {l:List UInt8} {s:Int} (hl:l.length≤140737488355328) (h4:l.head?≠some 4):U Tryz.prog 260 [.sl (bsl l),.int .i64 s] (.tup [.agg (mrc (takeN l s).m),.int .i64 ((takeN l s).n:Int),.int .i64 (takeN l s).e]):=by
 have hx:∀ x t,l=x::t→¬ (x.toNat:Int)=4:=fun x t e=>byte_ne4 fun e'=>h4 (by rw[e,List.head?_cons,e'])
 refine uTakeG hl (fun x t e key l' bad hk=>?_) (fun x t e key l' bad hk _=>?_)
 ·exact uRightG (X:=mr0) (readM_ok _ _ _ _) mr0_ok fun h=>absurd (by rw[readM_k] at h;exact h) (hx x t e)
 ·exact uSizedG (t:=(mr0,0)) (readM_ok _ _ _ _) (by rw[readM_key];omega) mr0_ok fun h=>absurd (by rw[readM_k] at h;exact h) (hx x t e)
theorem uParseN {l:List UInt8} {s:Int} (hl:l.length≤140737488355328) (h4:l.head?≠some 4):U Tryz.prog 243 [.sl (bsl l),.int .i64 s] (.tup [.agg (mrc (parseN l s).1),.int .i64 (parseN l s).2]):=
 uParseG (takeG_ok _ _ _ _) (uTakeN hl h4)
def ansF (key:List UInt8):Mr × Bool:=if key.head?=some 4 then(mr0,false) else ansG (parseN key)
theorem ansG_ok {P:Int→Mr × Int} (h:∀ s,okM (P s).1):okM (ansG P).1:=by
 unfold ansG;split
 ·exact h 4
 ·split
  ·exact h 16
  ·exact mr0_ok
theorem ansF_ok (key:List UInt8):okM (ansF key).1:=by
 unfold ansF;split
 ·exact mr0_ok
 ·exact ansG_ok fun s=>prs_ok (takeG_ok _ _ _ _) _
theorem uAns {key:List UInt8} (hkl:key.length≤140737488355328):U Tryz.prog 220 [.str key] (.tup [.agg (mrc (ansF key).1),.bool (ansF key).2]):=by
 unfold ansF
 split
 ·rename_i h
  cases key with
  | nil=>cases h
  | cons x t=>
    rw[List.head?_cons,Option.some.injEq] at h
    subst h
    exact uAns4
 ·rename_i h
  exact uAnsG hkl h (fun s _=>uParseN hkl h) fun s _=>prs_ok (takeG_ok _ _ _ _) _
def rightF (m:Mr):Bool:=rightG m (ansF m.key).2
theorem uRightM {m:Mr} (h:okM m) (hkl:m.key.length≤140737488355328):U Tryz.prog 168 [.agg (mrc m)] (.bool (rightF m)):=
 uRightG h (ansF_ok m.key) fun _=>uAns hkl
theorem rightF_key {m:Mr} (h:rightF m=true) (h4:m.k=4):m.key.head?≠some 4:=by
 intro e
 unfold rightF rightG ansF at h
 rw[if_pos e,decide_eq_false (show ¬ m.k≠4 by simpa using h4)] at h
 simp at h
def szF (s:Int) (m:Mr):Bool:=sizedG m s (parseN m.key s).2
theorem uSizedM {m:Mr} {s:Int} (h:okM m) (hkl:m.key.length≤140737488355328) (hr:rightF m=true):U Tryz.prog 278 [.agg (mrc m),.int .i64 s] (.bool (szF s m)):=
 uSizedG (t:=parseN m.key s) h hkl (prs_ok (takeG_ok _ _ _ _) _) fun h4=>uParseN hkl (rightF_key hr h4)
def takeM (l:List UInt8) (s:Int):MT:=takeG rightF (szF s) l s
theorem uTakeM {l:List UInt8} {s:Int} (hl:l.length≤140737488355328):U Tryz.prog 260 [.sl (bsl l),.int .i64 s] (.tup [.agg (mrc (takeM l s).m),.int .i64 ((takeM l s).n:Int),.int .i64 (takeM l s).e]):=
 uTakeG hl (fun x t _ key l' bad hk=>uRightM (readM_ok _ _ _ _) (by rw[readM_key];omega)) (fun x t _ key l' bad hk hr=>uSizedM (readM_ok _ _ _ _) (by rw[readM_key];omega) hr)
end Go.Proofs.YtdpeaefgbmkegaaGreatDoor
