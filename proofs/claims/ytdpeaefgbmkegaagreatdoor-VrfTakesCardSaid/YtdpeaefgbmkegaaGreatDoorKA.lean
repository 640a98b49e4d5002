/- The reference's reading of a multicast route against the program's: plain laws. -/
import Derived.Test.YtdpeaefgbmkegaaGreatDoorHC
import Derived.Test.YtdpeaefgbmkegaaGreatDoorFAD
import Derived.Test.YtdpeaefgbmkegaaGreatDoorEC
import Derived.Test.YtdpeaefgbmkegaaGreatDoorGD
import Derived.Test.YtdpeaefgbmkegaaGreatDoorHA
set_option maxHeartbeats 8000000
namespace Go.Proofs.YtdpeaefgbmkegaaGreatDoor
open Go Go.V
set_option maxRecDepth 10000
set_option linter.unusedVariables false
structure RR where
 m:Mr
 l:List UInt8
 no:Bool
def zqk:List UInt8→Nat
 | _::y::_=>y.toNat
 | _=>0
def zq0 (k:Int) (b:List UInt8):RR:=if k=4 then⟨{ mr0 with k:=k,key:=(rdT b false (2+zqk b)).1 },(rdT b false (2+zqk b)).2.1,(rdT b false (2+zqk b)).2.2⟩ else⟨{ mr0 with k:=k },b,false⟩
def zq1 (p:Pt) (S:RR):RR:=if p.rd=true then⟨{ S.m with rd:=over (rdT S.l S.no 8).1 z8 },(rdT S.l S.no 8).2.1,(rdT S.l S.no 8).2.2⟩ else S
def zq2 (p:Pt) (S:RR):RR:=if p.aa=true then⟨{ S.m with aa:=(big (rdT S.l S.no 4).1 0:Nat) },(rdT S.l S.no 4).2.1,(rdT S.l S.no 4).2.2⟩ else S
def zqb (l:List UInt8) (no:Bool):Nat:=big (rdT l no 1).1 0
def zqn (l:List UInt8) (no:Bool):Bool:=(rdT l no 1).2.2||decide (zqb l no % 8≠0)
def zqu (l:List UInt8) (no:Bool):List UInt8 × List UInt8 × Bool:=rdT (rdT l no 1).2.1 (zqn l no) (zqb l no / 8)
def zqa (l:List UInt8) (no:Bool):Ad × List UInt8 × Bool:=((ofA (zqu l no).1).1,(zqu l no).2.1,(zqu l no).2.2||decide ((ofA (zqu l no).1).2≠0))
def zqS (S:RR):RR:=⟨{ S.m with s:=(zqa S.l S.no).1 },(zqa S.l S.no).2.1,(zqa S.l S.no).2.2⟩
def zqG (S:RR):RR:=⟨{ S.m with g:=(zqa S.l S.no).1 },(zqa S.l S.no).2.1,(zqa S.l S.no).2.2⟩
def zq3 (p:Pt) (S:RR):RR:=if p.fl=true then zqG (zqS S) else S
def zqR (S:RR):List UInt8 × List UInt8 × Bool:=rdT S.l S.no (if S.no then 0 else S.l.length)
def zqE (p:Pt) (S:RR):Mr × Bool:=if p.fr=true then({ S.m with f:=(ofA (zqR S).1).1 },decide ((ofA (zqR S).1).2=0)&&(!(zqR S).2.2&&decide ((zqR S).2.1.length=0))) else(S.m,!S.no&&decide (S.l.length=0))
def qrough (k:Int) (b:List UInt8):Mr × Bool:=if (ofF k).2=true then zqE (ofF k).1 (zq3 (ofF k).1 (zq2 (ofF k).1 (zq1 (ofF k).1 (zq0 k b)))) else({ mr0 with k:=k },false)
def SimR (S:RS) (R:RR):Prop:=(R.no=false→S.bad=false∧S.ok=true∧S.m=R.m∧S.l=R.l)∧(R.no=true→S.bad=true∨S.ok=false)
theorem rdT_true (l:List UInt8) (n:Nat):rdT l true n=([],l,true):=by unfold rdT;rw[if_pos (.inl rfl)]
section
variable {p:Pt} {S:RS} {R:RR}
theorem sim1 (h:SimR S R) (hz:R.no=false→S.m.rd=z8):SimR (rs1 p S) (zq1 p R):=by
 unfold rs1 zq1
 by_cases hp:p.rd=true
 ·rw[if_pos hp,if_pos hp]
  cases hn:R.no with
  | true=>
    refine⟨fun e=>?_,fun _=>?_⟩
    ·dsimp only at e;rw[rdT_true] at e;cases e
    ·rcases h.2 hn with e|e
     ·exact .inl (by dsimp only;rw[e,rdT_true])
     ·exact .inr e
  | false=>
    obtain⟨h1,h2,h3,h4⟩:=h.1 hn
    have h5:=hz hn
    rw[h1,h4]
    refine⟨fun e=>⟨e,h2,?_,rfl⟩,fun e=>.inl e⟩
    dsimp only
    rw[h5,h3]
 ·rw[if_neg hp,if_neg hp];exact h
theorem sim2 (h:SimR S R):SimR (rs2 p S) (zq2 p R):=by
 unfold rs2 zq2
 by_cases hp:p.aa=true
 ·rw[if_pos hp,if_pos hp]
  cases hn:R.no with
  | true=>
    refine⟨fun e=>?_,fun _=>?_⟩
    ·dsimp only at e;rw[rdT_true] at e;cases e
    ·rcases h.2 hn with e|e
     ·exact .inl (by dsimp only;rw[e,rdT_true])
     ·exact .inr e
  | false=>
    obtain⟨h1,h2,h3,h4⟩:=h.1 hn
    rw[h1,h4]
    refine⟨fun e=>⟨e,h2,?_,rfl⟩,fun e=>.inl e⟩
    dsimp only
    rw[h3]
 ·rw[if_neg hp,if_neg hp];exact h
theorem btT_bad (l:List UInt8):(btT l true).1.2.2=true:=by unfold btT;dsimp only;rw[rdT_true,rdT_true]
theorem qa_bad (l:List UInt8):(zqa l true).2.2=true:=by unfold zqa zqu zqn;dsimp only;rw[rdT_true];simp[rdT_true]
theorem simA (l:List UInt8):((zqa l false).2.2=false→(btT l false).1.2.2=false∧(btT l false).2=true∧(ofA (btT l false).1.1).2=0∧(ofA (btT l false).1.1).1=(zqa l false).1∧(btT l false).1.2.1=(zqa l false).2.1)∧((zqa l false).2.2=true→(btT l false).1.2.2=true∨(btT l false).2=false∨(ofA (btT l false).1.1).2≠0):=by
 unfold zqa zqu zqn zqb btT
 dsimp only
 by_cases h8:big (rdT l false 1).1 0 % 8=0
 ·have e:((rdT l false 1).2.2||decide (big (rdT l false 1).1 0 % 8≠0))=(rdT l false 1).2.2:=by simp[h8]
  rw[e]
  refine⟨fun h=>?_,fun h=>?_⟩
  ·rw[Bool.or_eq_false_iff] at h
   exact⟨h.1,by simp[h8],by simpa using h.2,rfl,rfl⟩
  ·rw[Bool.or_eq_true] at h
   rcases h with h|h
   ·exact .inl h
   ·exact .inr (.inr (by simpa using h))
 ·refine⟨fun h=>?_,fun h=>.inr (.inl (by simp[h8]))⟩
  have e:((rdT l false 1).2.2||decide (big (rdT l false 1).1 0 % 8≠0))=true:=by simp[h8]
  rw[e,rdT_true] at h
  simp at h
theorem simS (h:SimR S R):SimR (rsS S) (zqS R):=by
 unfold rsS zqS
 cases hn:R.no with
 | true=>
   refine⟨fun e=>?_,fun _=>?_⟩
   ·dsimp only at e;rw[qa_bad] at e;cases e
   ·rcases h.2 hn with e|e
    ·exact .inl (by dsimp only;rw[e,btT_bad])
    ·exact .inr (by dsimp only;rw[e];rfl)
 | false=>
   obtain⟨h1,h2,h3,h4⟩:=h.1 hn
   rw[h1,h2,h4]
   obtain⟨a1,a2⟩:=simA R.l
   refine⟨fun e=>?_,fun e=>?_⟩
   ·obtain⟨b1,b2,b3,b4,b5⟩:=a1 e
    refine⟨b1,?_,?_,b5⟩
    ·dsimp only;rw[b2,b3];rfl
    ·dsimp only;rw[b4,h3]
   ·rcases a2 e with b|b|b
    ·exact .inl b
    ·exact .inr (by dsimp only;rw[b];rfl)
    ·exact .inr (by dsimp only;rw[decide_eq_false b,Bool.and_false])
theorem simG (h:SimR S R):SimR (rsG S) (zqG R):=by
 unfold rsG zqG
 cases hn:R.no with
 | true=>
   refine⟨fun e=>?_,fun _=>?_⟩
   ·dsimp only at e;rw[qa_bad] at e;cases e
   ·rcases h.2 hn with e|e
    ·exact .inl (by dsimp only;rw[e,btT_bad])
    ·exact .inr (by dsimp only;rw[e];rfl)
 | false=>
   obtain⟨h1,h2,h3,h4⟩:=h.1 hn
   rw[h1,h2,h4]
   obtain⟨a1,a2⟩:=simA R.l
   refine⟨fun e=>?_,fun e=>?_⟩
   ·obtain⟨b1,b2,b3,b4,b5⟩:=a1 e
    refine⟨b1,?_,?_,b5⟩
    ·dsimp only;rw[b2,b3];rfl
    ·dsimp only;rw[b4,h3]
   ·rcases a2 e with b|b|b
    ·exact .inl b
    ·exact .inr (by dsimp only;rw[b];rfl)
    ·exact .inr (by dsimp only;rw[decide_eq_false b,Bool.and_false])
theorem sim3 (h:SimR S R):SimR (rs3 p S) (zq3 p R):=by
 unfold rs3 zq3
 split
 ·exact simG (simS h)
 ·exact h
theorem simE (h:SimR S R):okB (rs4 p S)=(zqE p R).2∧((zqE p R).2=true→(zqE p R).1=(rs4 p S).m):=by
 unfold rs4 zqE
 by_cases hp:p.fr=true
 ·rw[if_pos hp,if_pos hp]
  unfold rsF zqR okB
  cases hn:R.no with
  | true=>
    have e:rdT R.l true (if true=true then 0 else R.l.length)=([],R.l,true):=rdT_true _ _
    rw[e]
    refine⟨?_,fun x=>by simp at x⟩
    rcases h.2 hn with b|b
    ·dsimp only;rw[b,rdT_true];simp
    ·dsimp only;rw[b];simp
  | false=>
    obtain⟨h1,h2,h3,h4⟩:=h.1 hn
    rw[h1,h2,h3,h4]
    dsimp only
    refine⟨by simp only[Bool.true_and],fun _=>rfl⟩
 ·rw[if_neg hp,if_neg hp]
  unfold okB
  cases hn:R.no with
  | true=>
    refine⟨?_,fun x=>by simp at x⟩
    rcases h.2 hn with b|b
    ·rw[b];simp
    ·rw[b];simp
  | false=>
    obtain⟨h1,h2,h3,h4⟩:=h.1 hn
    rw[h1,h2,h3,h4]
    exact⟨by simp,fun _=>rfl⟩
end
theorem sim_all (k:Int) (l:List UInt8) (bad:Bool) (key b:List UInt8) (hk:(ofF k).2=true) (h:SimR (rs0 k l bad key) (zq0 k b)):okB (readM k l bad key)=(qrough k b).2∧((qrough k b).2=true→(qrough k b).1=(readM k l bad key).m):=by
 unfold qrough readM
 rw[if_pos hk]
 exact simE (sim3 (sim2 (sim1 h fun _=>rfl)))
theorem rough_ok (x:UInt8) (b:List UInt8):match keyOf x b with
  | none=>(qrough (x.toNat:Int) b).2=false
  | some t=>okB (readM (x.toNat:Int) t.2.1 t.2.2 t.1)=(qrough (x.toNat:Int) b).2∧((qrough (x.toNat:Int) b).2=true→(qrough (x.toNat:Int) b).1=(readM (x.toNat:Int) t.2.1 t.2.2 t.1).m):=by
 by_cases hk:(ofF (x.toNat:Int)).2=true
 ·by_cases h4:x=4
  ·subst h4
   have e4:((4:UInt8).toNat:Int)=4:=rfl
   unfold keyOf
   rw[if_pos rfl,e4]
   match b with
   | []=>rfl
   | [y]=>
     show (qrough 4 [y]).2=false
     have e:zq0 4 [y]=⟨{ mr0 with k:=4 },[y],true⟩:=rfl
     unfold qrough
     rw[if_pos (by rfl),e]
     have e1:zq1 (ofF 4).1 ⟨{ mr0 with k:=4 },[y],true⟩=⟨{ mr0 with k:=4 },[y],true⟩:=rfl
     rw[e1]
     have e2:zq2 (ofF 4).1 ⟨{ mr0 with k:=4 },[y],true⟩=⟨{ mr0 with k:=4 },[y],true⟩:=rfl
     rw[e2]
     have e3:zq3 (ofF 4).1 ⟨{ mr0 with k:=4 },[y],true⟩=⟨{ mr0 with k:=4 },[y],true⟩:=rfl
     rw[e3]
     rfl
   | y::z::r=>
     dsimp only
     refine sim_all 4 _ _ _ _ rfl ?_
     unfold zq0
     rw[if_pos rfl]
     have ek:zqk (y::z::r)=z.toNat:=rfl
     rw[ek]
     by_cases hl:r.length<z.toNat
     ·have e1:rdT (y::z::r) false (2+z.toNat)=([],y::z::r,true):=by
       unfold rdT;rw[if_pos (.inr (by simp only[List.length_cons];omega))]
      have e2:rdT r false z.toNat=([],r,true):=by unfold rdT;rw[if_pos (.inr hl)]
      rw[e1,e2]
      exact⟨fun e=>(by cases e),fun _=>.inl rfl⟩
     ·have e1:rdT (y::z::r) false (2+z.toNat)=(y::z::r.take z.toNat,r.drop z.toNat,false):=by
       unfold rdT
       rw[if_neg (by rintro (e|e);cases e;simp only[List.length_cons] at e;omega),show 2+z.toNat=z.toNat+1+1 by omega]
       rfl
      have e2:rdT r false z.toNat=(r.take z.toNat,r.drop z.toNat,false):=by
       unfold rdT;rw[if_neg (by rintro (e|e);cases e;exact hl e)]
      rw[e1,e2]
      exact⟨fun _=>⟨rfl,rfl,rfl,rfl⟩,fun e=>by cases e⟩
  ·unfold keyOf
   rw[if_neg h4]
   have h4':¬ (x.toNat:Int)=4:=byte_ne4 h4
   refine sim_all _ _ _ _ _ hk ?_
   unfold zq0
   rw[if_neg h4']
   exact⟨fun _=>⟨rfl,hk,rfl,rfl⟩,fun e=>by cases e⟩
 ·have e:(qrough (x.toNat:Int) b).2=false:=by unfold qrough;rw[if_neg hk]
  have hok:∀ l bad key,okB (readM (x.toNat:Int) l bad key)=false:=by
   intro l bad key
   have:ofF (x.toNat:Int)=(⟨false,false,false,false⟩,false):=by
    refine ofF_no fun hh=>hk ?_
    have:(x.toNat:Int)=1∨(x.toNat:Int)=2∨(x.toNat:Int)=3∨(x.toNat:Int)=4∨(x.toNat:Int)=5∨(x.toNat:Int)=6∨(x.toNat:Int)=7:=by omega
    rcases this with h|h|h|h|h|h|h<;>rw[h]<;>rfl
   unfold readM rs4 rs3 rs2 rs1 rs0 okB
   rw[this]
   rfl
  split
  ·exact e
  ·rw[e,hok]
   exact⟨rfl,fun x=>by cases x⟩
theorem take_q (rt sz:Mr→Bool) (x y:UInt8) (r:List UInt8) (s:Int) (hs:s=4∨s=16) (hl:¬ r.length<y.toNat):takeG rt sz (x::y::r) s=if ((qrough (x.toNat:Int) (r.take y.toNat)).2&&(rt (qrough (x.toNat:Int) (r.take y.toNat)).1&&sz (qrough (x.toNat:Int) (r.take y.toNat)).1))=true then⟨(qrough (x.toNat:Int) (r.take y.toNat)).1,2+y.toNat,0⟩ else⟨mr0,0,4⟩:=by
 have h:=rough_ok x (r.take y.toNat)
 unfold takeG
 rw[if_neg (by rcases hs with rfl|rfl<;>omega)]
 dsimp only
 rw[if_neg hl]
 revert h
 cases keyOf x (r.take y.toNat) with
 | none=>intro h;dsimp only at h ⊢;rw[h];rfl
 | some t=>
   intro h
   dsimp only at h ⊢
   obtain⟨h1,h2⟩:=h
   rw[h1]
   cases hq:(qrough (x.toNat:Int) (r.take y.toNat)).2 with
   | false=>rfl
   | true=>rw[h2 hq]
set_option linter.unusedVariables false
theorem takeG_e0 {rt sz:Mr→Bool} {l:List UInt8} {s:Int} (h:(takeG rt sz l s).e=0):∃ x y r,l=x::y::r∧(takeG rt sz l s).n=2+y.toNat∧(takeG rt sz l s).m.k=(x.toNat:Int)∧y.toNat≤r.length:=by
 unfold takeG at h ⊢
 split at h
 ·cases h
 ·rename_i hs
  rw[if_neg hs]
  split at h
  ·rename_i x y r
   refine⟨x,y,r,rfl,?_⟩
   split at h
   ·cases h
   ·rename_i hl
    rw[if_neg hl]
    revert h
    cases keyOf x (r.take y.toNat) with
    | none=>intro h;cases h
    | some t=>
      intro h
      dsimp only at h ⊢
      split at h
      ·rename_i hc
       rw[if_pos hc]
       exact⟨rfl,readM_k _ _ _ _,by omega⟩
      ·cases h
  ·cases h
def goodK (b:List UInt8) (s:Int):Bool:=decide ((takeN b s).e=0)&&(decide ((takeN b s).n=b.length)&&(decide ((takeN b s).m.k=2)||decide ((takeN b s).m.k=3)))
def refKey (b:List UInt8):Bool:=decide (1≤b.length)&&(decide (b.length≤300)&&((decide (b.head?=some 2)||decide (b.head?=some 3))&&(goodK b 4||goodK b 16)))
theorem goodA_K (b:List UInt8) (s:Int):goodA (parseN b s)=goodK b s:=by
 unfold goodK parseN prs
 by_cases h:(takeN b s).e=0
 ·rw[if_neg (by simp[h])]
  by_cases h2:(takeN b s).n=b.length
  ·rw[if_neg (by simp[h2])]
   unfold goodA
   simp[h,h2]
  ·rw[if_pos h2]
   unfold goodA
   simp[h2]
 ·rw[if_pos h]
  unfold goodA
  simp[h]
theorem goodK_sz {b:List UInt8} {s:Int} (h:goodK b s=true):1≤b.length∧b.length≤300∧(b.head?=some 2∨b.head?=some 3):=by
 unfold goodK at h
 simp only[Bool.and_eq_true,Bool.or_eq_true,decide_eq_true_eq] at h
 obtain⟨h1,h2,h3⟩:=h
 obtain⟨x,y,r,rfl,hn,hk,hy⟩:=takeG_e0 (rt:=rtN) (sz:=szN s) h1
 have hn':(takeN (x::y::r) s).n=2+y.toNat:=hn
 have hk':(takeN (x::y::r) s).m.k=(x.toNat:Int):=hk
 rw[hn'] at h2
 rw[hk'] at h3
 have:=y.toNat_lt
 refine⟨by simp,by omega,?_⟩
 rw[List.head?_cons]
 rcases h3 with h3|h3
 ·exact .inl (congrArg some (UInt8.toNat_inj.1 (by show x.toNat=2;omega)))
 ·exact .inr (congrArg some (UInt8.toNat_inj.1 (by show x.toNat=3;omega)))
theorem ans_key (b:List UInt8):(ansF b).2=refKey b:=by
 unfold ansF refKey
 by_cases h4:b.head?=some 4
 ·rw[if_pos h4,h4]
  simp
 ·rw[if_neg h4]
  unfold ansG
  rw[goodA_K,goodA_K]
  cases h1:goodK b 4 with
  | true=>
    obtain⟨a1,a2,a3⟩:=goodK_sz h1
    rcases a3 with a3|a3<;>simp[a1,a2,a3]
  | false=>
    cases h2:goodK b 16 with
    | true=>
      obtain⟨a1,a2,a3⟩:=goodK_sz h2
      rcases a3 with a3|a3<;>simp[a1,a2,a3]
    | false=>simp
def refR (m:Mr) (B:Bool):Bool:=
 if m.k<1∨7<m.k then false else
 if ((ofF m.k).1.rd=false∧m.rd≠z8)∨((ofF m.k).1.aa=false∧m.aa≠0)∨((ofF m.k).1.fl=false∧(m.s≠ad0∨m.g≠ad0))∨((ofF m.k).1.fr=false∧m.f≠ad0)∨(m.k≠4∧m.key≠[]) then false else
 if m.aa<0∨4294967295<m.aa then false else
 if (ofF m.k).1.fr=true∧someA m.f=false then false else
 if (ofF m.k).1.fl=true∧flowsF m.s m.g (decide (m.k=3))=false then false else
 if m.k=4 then B else true
theorem refR_eq (m:Mr) (B:Bool):refR m B=rightG m B:=by
 by_cases hk:1≤m.k∧m.k≤7
 ·have h7:m.k=1∨m.k=2∨m.k=3∨m.k=4∨m.k=5∨m.k=6∨m.k=7:=by omega
  obtain⟨k,rd,aa,s,g,f,key⟩:=m
  dsimp only at h7
  have e:∀ (a b c d:Bool),((!a)||b)=true↔(a=true→b=true):=by intro a b c d;cases a<;>cases b<;>simp
  rcases h7 with rfl|rfl|rfl|rfl|rfl|rfl|rfl
  all_goals
   rw[Bool.eq_iff_iff]
   simp only[refR,rightG,ofF,bareF]
   simp
   try grind
 ·have e1:refR m B=false:=by unfold refR;rw[if_pos (by omega)]
  rw[e1]
  unfold rightG
  rw[ofF_no hk]
  rfl
end Go.Proofs.YtdpeaefgbmkegaaGreatDoor
namespace Go.Proofs.YtdpeaefgbmkegaaGreatDoor
open Go Go.V
set_option maxRecDepth 10000
set_option linter.unusedVariables false
attribute [local irreducible] vBuild vCallV
theorem snocT {α:Type} {l:List α} {i:Nat} {x:α} (h:l[i]?=some x):l.take (i+1)=l.take i++[x]:=by
 obtain⟨hi,rfl⟩:=List.getElem?_eq_some_iff.1 h
 exact List.take_succ_eq_append_getElem hi
theorem cutH0 {X:List PV} {n:Nat} (h:X.length=n):cut X 0 (some n)=some (.agg X):=by
 simp only[cut];rw[if_pos (by omega),List.drop_zero,List.take_of_length_le (by omega)]
theorem splH0 {v X:List PV} (h:v.length=X.length):splice X 0 v=v:=by
 unfold splice
 rw[List.drop_of_length_le (by omega)]
 simp
theorem finP {Post:KP} {v w:PV} {σ:VHeap} (hk:Post v σ) (e:v=w):Post w σ:=e▸hk
theorem bsl_app (a b:List UInt8):bsl (a++b)=bsl a++bsl b:=by simp[bsl]
def rdc (rid rg at':Nat) (no:Bool):List PV:=[.row rid rg,.int .i64 (at':Nat),.bool no]
theorem tROpen {σ L L':VHeap} {n k:Nat} {Post:KP} {l:List UInt8} (hl:l.length≤140737488355328) (hk:Post (.ptr (n+(k+2)) 1 0) (σ++L'))
  (hn:σ.length=n:=by exact z_hn) (hL:L.length=k:=by exact z_ll) (hL':L++[(2,VObj.row 1 (bsl l) false),(0,.dead),(1,.box (rdc (n+k) 2 0 false) false)]=L':=by exact z_nl):T Tryz.prog 265 [.sl (bsl l)] (σ++L) Post:=by
 subst hn hL hL'
 have bl:=bsl_len l
 unfold rdc at hk
 refine T265 ?_
 refine W ?_
 rw[List.append_assoc]
 have e1:(σ++L).length+2=σ.length+(L.length+2):=by rw[List.length_append];omega
 have e2:(σ++L).length+0=σ.length+L.length:=by rw[List.length_append];omega
 rw[e1,e2]
 exact hk
theorem vset_same {σ:VHeap} {i g:Nat} {o:VObj} (h:vGet σ i g=some o):σ.set i (g,o)=σ:=by
 have h:=vGet_some h
 refine List.ext_getElem? fun j=>?_
 by_cases hj:i=j
 ·subst hj
  rw[List.getElem?_set_self (List.getElem?_eq_some_iff.1 h).1,h]
 ·rw[List.getElem?_set_ne hj]
theorem e_sliceO {P:Program} {n sz:Nat} {x:VA} {lo hi:Option VA} {rid rg l u:Nat} {es q:List (List PV)} {fz:Bool} {env:Env} {σ L:VHeap} (e:va env x=.row rid rg) (hg:vGet σ rid rg=some (.row sz es fz)) (e1:bound (lo.map (va env)) 0=some l) (e2:bound (hi.map (va env)) es.length=some u) (h1:l≤u) (h2:u≤es.length) (hq:(es.drop l).take (u - l)=q):E P n (.slice sz x lo hi) env (σ++L) (.sl q) (σ.set rid (rg,.row sz es true)++L):=fun K hk=>by
 subst hq
 have hf:frzId (σ++L) rid=σ.set rid (rg,.row sz es true)++L:=by
  unfold frzId
  rw[List.getElem?_append_left (vGet_lt hg),vGet_some hg]
  exact oset _ (vGet_lt hg)
 simp only[vop,vSlice];rw[e];simp only[oget hg,e1,e2,hf];exact⟨trivial,h1,h2,hk⟩
section
variable {σ:VHeap} {Post:KP} {id g rid rg at':Nat} {B l:List UInt8} {no fz:Bool} {n:Nat}
theorem tRTake (hB:B.length≤140737488355328) (ha:at'≤B.length) (hl:B.drop at'=l) (hne:id≠rid) (h:vGet σ id g=some (.box (rdc rid rg at' no) false)) (hr:vGet σ rid rg=some (.row 1 (bsl B) fz))
  (hk:∀ a2 fz2,a2≤B.length→B.drop a2=(rdT l no n).2.1→Post (.sl (bsl (rdT l no n).1)) ((σ.set rid (rg,.row 1 (bsl B) fz2)).set id (g,.box (rdc rid rg a2 (rdT l no n).2.2) false))):T Tryz.prog 266 [.ptr id g 0,.int .i64 (n:Int)] σ Post:=by
 have bl:=bsl_len B
 have dl:l.length=B.length - at':=by rw[← hl];exact List.length_drop
 have rl:=vGet_lt hr
 have hset:∀ (τ:VHeap) (m:Int) (b:Bool),belH σ.length τ→belH σ.length (τ.set id (g,.box [.row rid rg,.int .i64 m,.bool b] false)):=fun _ m b hb=>belH_set hb ⟨rl,trivial,trivial,trivial⟩
 unfold rdc at *
 refine T266 fun hB0 hA=>?_
 have hB1:=hset σ (at':Nat) true hB0
 have hl2:vGet (σ.set rid (rg,.row 1 (bsl B) true)) id g=some (.box [.row rid rg,.int .i64 (at':Nat),.bool no] false):=hget_ne (Ne.symm hne) h
 have hbs:belH σ.length (σ.set rid (rg,.row 1 (bsl B) true)):=belH_setR hB0
 have hB2:=hset _ ((at':Int)+(n:Int)) false hbs
 have hln:(σ.set rid (rg,VObj.row 1 (bsl B) true)).length=σ.length:=List.length_set
 refine Wo ?_
 refine drJ (fun _=>True) [(2,0),(1,1),(1,2),(1,3),(2,4),(2,5),(2,6),(2,7),(2,8),(2,9),(2,10),(1,11),(1,12),(1,13),(1,14),(2,15),(1,16),(1,17),(1,18),(2,19),(2,20),(2,21)] (by kernel_rfl) (by kernel_rfl) (by exact z_ol) trivial ?_
 have no':∀ b,b=true∨l.length<n→rdT l b n=([],l,true):=fun b hb=>by unfold rdT;rw[if_pos hb]
 cases no with
 | true=>
   have hk:=hk at' fz ha (by rw[no' true (.inl rfl)];exact hl)
   rw[no' true (.inl rfl),vset_same hr] at hk
   refine Wo ?_
   refine W ?_
   exact hk
 | false=>
   have h0:¬ (n:Int)<0:=by omega
   by_cases h1:l.length<n
   ·have h2:((B.length:Int) - (at':Int))<n:=by omega
    have hk:=hk at' fz ha (by rw[no' false (.inr h1)];exact hl)
    rw[no' false (.inr h1),vset_same hr] at hk
    refine Wo ?_
    refine W ?_
    exact hk
   ·have h2:¬ ((B.length:Int) - (at':Int))<n:=by omega
    have e:rdT l false n=(l.take n,l.drop n,false):=by unfold rdT;rw[if_neg (by rintro (e|e);cases e;exact h1 e)]
    have hk:=hk (at'+n) true (by omega) (by rw[e,← hl,List.drop_drop])
    rw[e,show ((at'+n:Nat):Int)=(at':Int)+(n:Int) from rfl] at hk
    have hq:((bsl B).drop at').take (at'+n - at')=bsl (l.take n):=by
     rw[Nat.add_sub_cancel_left,← hl];simp[bsl,List.map_drop,List.map_take]
    have b1:bound (some (PV.int .i64 (at':Int))) 0=some at':=by simp[bound]
    have b2:bound (some (PV.int .i64 ((at':Int)+(n:Int)))) (bsl B).length=some (at'+n):=by
     simp only[bound];rw[if_pos (by omega)];congr 1
    refine Wo ?_
    refine drTree (fun h=>∃ fz,vGet h id g=some (.box [.row rid rg,.int .i64 (at':Nat),.bool false] false)∧vGet h rid rg=some (.row 1 (bsl B) fz)) (.br [(2,1),(2,2),(2,3),(2,4),(2,5),(2,6),(2,7),(2,8),(2,9),(2,10),(2,11),(2,12),(2,13),(2,14)] 0 (.br [] 15 (.br [] 16 (.fin [(2,17)]) .stop) .stop) (.br [] 15 (.br [] 0 (.br [] 16 (.fin [(2,17)]) .stop) .stop) .stop)) (by kernel_rfl) (by kernel_rfl) ⟨fz,oget h,oget hr⟩ ?_
    refine vt_br (by exact z_ol) ?_
    (repeat (refine sv2n (fun hh hJ=>by obtain⟨fz,hJ1,hJ2⟩:=hJ;exact z_ya) ?_))
    refine sv_nil ?_
    refine va_br rfl ?_ (va_br rfl ?_ va_stop)
    ·refine est (by exact z_ea) ?_
     refine st_end ⟨⟨fz,oget h,oget hr⟩,?_⟩
     refine vt_br (by exact z_ol) ?_
     refine sv_nil ?_
     refine va_br rfl ?_ va_stop
     refine est (e_sliceO (by exact rfl) hr b1 b2 (by omega) (by omega) hq) ?_
     refine st_end ⟨⟨true,oget hl2,oget (hget_eq rl)⟩,?_⟩
     refine vt_br (by exact z_ol) ?_
     refine sv_nil ?_
     refine va_br rfl ?_ va_stop
     refine est (by exact z_ea) ?_
     refine st_end ⟨⟨true,oget hl2,oget (hget_eq rl)⟩,?_⟩
     refine vt_fin (by exact z_ol) ?_
     refine Wo ?_
     refine W ?_
     exact hk
    ·refine est (e_sliceO (by exact rfl) hr b1 b2 (by omega) (by omega) hq) ?_
     refine st_end ⟨⟨true,oget hl2,oget (hget_eq rl)⟩,?_⟩
     refine vt_br (by exact z_ol) ?_
     refine sv_nil ?_
     refine va_br rfl ?_ va_stop
     refine est (by exact z_ea) ?_
     refine st_end ⟨⟨true,oget hl2,oget (hget_eq rl)⟩,?_⟩
     refine vt_br (by exact z_ol) ?_
     refine sv_nil ?_
     refine va_br rfl ?_ va_stop
     refine est (by exact z_ea) ?_
     refine st_end ⟨⟨true,oget hl2,oget (hget_eq rl)⟩,?_⟩
     refine vt_fin (by exact z_ol) ?_
     refine Wo ?_
     refine W ?_
     exact hk
end
end Go.Proofs.YtdpeaefgbmkegaaGreatDoor
namespace Go.Proofs.YtdpeaefgbmkegaaGreatDoor
open Go Go.V
set_option maxRecDepth 10000
set_option linter.unusedVariables false
attribute [local irreducible] vBuild vCallV
theorem all_snoc0 {b:List UInt8} {s i:Nat} {x:UInt8} (hs:s≤i) (hx:b[i]?=some x):((b.drop s).take (i+1 - s)).all (·==0)=(((b.drop s).take (i - s)).all (·==0)&&(x==0)):=by
 have h:(b.drop s)[i - s]?=some x:=by rw[List.getElem?_drop,show s+(i - s)=i by omega];exact hx
 rw[show i+1 - s=(i - s)+1 by omega,snocT h,List.all_append]
 simp
theorem all_stop {b:List UInt8} {s n:Nat} (h:((b.drop s).take n).all (·==0)=false):(b.drop s).all (·==0)=false:=by
 rw[← Bool.not_eq_true] at h ⊢
 intro hh
 refine h ?_
 rw[List.all_eq_true] at hh ⊢
 exact fun x hx=>hh x (List.mem_of_mem_take hx)
theorem uR2 {a:Ad} (h:okD a):U Tryz.prog 55 [.agg (adc a)] (.bool (okAd a)):=by
 intro σ Post hk
 have sc:=adc_sc (a:=a)
 have ln:=adc_len h
 have c0:=adc_all h
 have c1:=adc_s (a:=a)
 unfold okAd okA at hk
 refine T55 fun hB hA=>?_
 by_cases h0:a.s=0∨a.s=4∨a.s=16
 ·have e1:(a.s==0||a.s==4||a.s==16)=true:=by rcases h0 with e|e|e<;>simp[e]
  rw[e1,Bool.true_and] at hk
  have key:∀ n:Nat,a.s=n→n≤16→∀ (E:Env),E 1=.ptr (σ.length+0) 1 0→E 3=.int .i64 (n:Int)→True:=fun _ _ _ _ _ _=>trivial
  clear key
  have hn:((a.s.toNat:Nat):Int)=a.s:=by omega
  rcases h0 with e|e|e
  rotate_right
  ·have hd:a.b.drop a.s.toNat=[]:=List.drop_of_length_le (by rw[h];omega)
   rw[hd] at hk
   refine W ?_
   refine lp (fun k e s=>e 3=.int .i64 a.s∧s=σ++[(1,VObj.box (adc a) false)]) 0 ⟨rfl,rfl⟩ ?_
   rintro k u _ ⟨e3,rfl⟩
   refine W ?_
   exact hk
  all_goals
   refine W ?_
   refine lp (fun k e s=>∃ i:Nat,i+k=16∧a.s.toNat≤i∧e 3=.int .i64 i∧((a.b.drop a.s.toNat).take (i - a.s.toNat)).all (·==0)=true∧s=σ++[(1,VObj.box (adc a) false)]) (16 - a.s.toNat) ⟨a.s.toNat,by omega,Nat.le_refl _,by rw[hn];rfl,by simp,rfl⟩ ?_
   rintro k u _ ⟨i,hi,hsi,e3,hal,rfl⟩
   by_cases h5:i<16
   ·obtain⟨x,hx⟩:∃ x,a.b[i]?=some x:=⟨_,List.getElem?_eq_getElem (by rw[h];exact h5)⟩
    have hc:cut (adc a) (1+i) none=some (byt x):=cut_adr hx
    have hst:=all_snoc0 hsi hx
    rw[hal,Bool.true_and] at hst
    by_cases hx0:x=0
    ·subst hx0
     refine W ?_
     exact⟨k - 1,by omega,i+1,by omega,by omega,rfl,by rw[hst];rfl,rfl⟩
    ·have hxn:¬ (x.toNat:Int)=0:=fun e=>hx0 (UInt8.toNat_inj.1 (by show x.toNat=0;omega))
     have hf:(x==0)=false:=by simpa using hx0
     rw[hf] at hst
     rw[all_stop hst] at hk
     refine W ?_
     exact hk
   ·have h9:(a.b.drop a.s.toNat).take (i - a.s.toNat)=a.b.drop a.s.toNat:=List.take_of_length_le (by rw[List.length_drop,h];omega)
    rw[h9] at hal
    rw[hal] at hk
    refine W ?_
    exact hk
 ·have e1:(a.s==0||a.s==4||a.s==16)=false:=by simp;omega
  rw[e1,Bool.false_and] at hk
  have h1:¬ a.s=0:=fun e=>h0 (.inl e)
  have h2:¬ a.s=4:=fun e=>h0 (.inr (.inl e))
  have h3:¬ a.s=16:=fun e=>h0 (.inr (.inr e))
  refine W ?_
  exact hk
theorem uR2Multi {a:Ad} (h:okD a):U Tryz.prog 179 [.agg (adc a)] (.bool (mcA a)):=by
 intro σ Post hk
 have sc:=adc_sc (a:=a)
 have ln:=adc_len h
 have c0:=adc_all h
 have c1:=adc_s (a:=a)
 obtain⟨x,hx⟩:∃ x,a.b[0]?=some x:=⟨_,List.getElem?_eq_getElem (by rw[h];omega)⟩
 have c2:=adc_b0 h hx
 have hd:a.b.headD 0=x:=by
  cases hb:a.b with
  | nil=>rw[hb] at hx;simp at hx
  | cons y r=>rw[hb] at hx;simp at hx;simp[hx]
 have hx2:=x.toNat_lt
 unfold mcA at hk
 rw[hd] at hk
 refine T179 fun hB hA=>?_
 refine W ?_
 refine cu (uR2 h) ?_
 cases ho:okAd a with
 | false=>
   rw[ho,Bool.false_and] at hk
   refine W ?_
   exact hk
 | true=>
   rw[ho,Bool.true_and] at hk
   by_cases h4:a.s=4
   ·have h16:¬ a.s=16:=by omega
    rw[if_pos h4] at hk
    by_cases h14:x.toNat / 16=14
    ·have a1:224≤(x.toNat:Int):=by omega
     have a2:(x.toNat:Int)<240:=by omega
     rw[decide_eq_true h14] at hk
     refine W ?_
     exact hk
    ·rw[decide_eq_false h14] at hk
     by_cases a1:224≤(x.toNat:Int)
     ·have a2:¬ (x.toNat:Int)<240:=by omega
      refine W ?_
      exact hk
     ·refine W ?_
      exact hk
   ·rw[if_neg h4] at hk
    by_cases h16:a.s=16
    ·rw[decide_eq_true h16,Bool.true_and] at hk
     by_cases hff:x.toNat=255
     ·have a1:(x.toNat:Int)=255:=by omega
      rw[decide_eq_true hff] at hk
      refine W ?_
      exact hk
     ·have a1:¬ (x.toNat:Int)=255:=by omega
      rw[decide_eq_false hff] at hk
      refine W ?_
      exact hk
    ·rw[decide_eq_false h16,Bool.false_and] at hk
     refine W ?_
     exact hk
theorem uR2Bytes {a:Ad} (h:okD a):U Tryz.prog 58 [.agg (adc a)] (.sl (bsl (abytes a))):=by
 intro σ Post hk
 have sc:=adc_sc (a:=a)
 have ln:=adc_len h
 have c0:=adc_all h
 have c1:=adc_s (a:=a)
 unfold abytes at hk
 refine T58 fun hB hA=>?_
 refine W ?_
 refine cu (uR2 h) ?_
 cases ho:okAd a with
 | false=>
   rw[ho] at hk
   refine W ?_
   exact hk
 | true=>
   rw[ho,if_pos rfl] at hk
   have hs:=okAd_s ho
   have v:VCut (adc a) (0+1) a.s.toNat (bsl (a.b.take a.s.toNat)):=⟨by
    unfold adc adr;rw[List.drop_succ_cons,List.drop_zero];simp[u8c,bsl,List.map_take,Function.comp_def]⟩
   refine W ?_
   exact hk
theorem uBig {l:List UInt8} (hl:l.length≤4):U Tryz.prog 57 [.sl (bsl l)] (.int .i64 (big l 0:Nat)):=by
 intro σ Post hk
 have bl:=bsl_len l
 refine T57 fun hB hA=>?_
 refine W ?_
 refine lp (fun k e s=>∃ i:Nat,i+k=l.length∧e 4=.int .i64 i∧e 3=.int .i64 (big (l.take i) 0:Nat)∧s=σ++[]) l.length ⟨0,by simp,rfl,rfl,rfl⟩ ?_
 rintro k u _ ⟨i,hi,e4,e3,rfl⟩
 have h6:=big_lt (l.take i) 0
 by_cases h5:i<l.length
 ·have h7:256 ^ (l.take i).length≤256 ^ 3:=Nat.pow_le_pow_right (by omega) (by rw[List.length_take];omega)
  have h8:=l[i].toNat_lt
  have b1:ibin .mul .i64 (big (l.take i) 0:Int) .i64 256=some (.int .i64 ((big (l.take i) 0 * 256:Nat):Int)):=by
   rw[show ibin .mul .i64 (big (l.take i) 0:Int) .i64 256=some (.int .i64 (IntKind.i64.wrap ((big (l.take i) 0:Int) * 256))) from rfl,w_i64 (by omega) (by omega)]
   rfl
  have b2:ibin .add .i64 ((big (l.take i) 0 * 256:Nat):Int) .i64 (l[i].toNat:Int)=some (.int .i64 ((big (l.take (i+1)) 0:Nat):Int)):=by
   rw[show ibin .add .i64 ((big (l.take i) 0 * 256:Nat):Int) .i64 (l[i].toNat:Int)=some (.int .i64 (IntKind.i64.wrap (((big (l.take i) 0 * 256:Nat):Int)+(l[i].toNat:Int)))) from rfl,w_i64 (by omega) (by omega),List.take_succ_eq_append_getElem h5,big_app]
   congr 2
  refine W ?_
  exact⟨k - 1,by omega,i+1,by omega,rfl,rfl,rfl⟩
 ·have h9:l.take i=l:=List.take_of_length_le (by omega)
  rw[h9] at e3
  refine W ?_
  exact hk
theorem uR2Of {l:List UInt8} (hl:l.length≤140737488355328):U Tryz.prog 178 [.sl (bsl l)] (.tup [.agg (adc (ofA l).1),.int .i64 (ofA l).2]):=by
 intro σ Post hk
 have bl:=bsl_len l
 by_cases h:l.length=0∨l.length=4∨l.length=16
 ·have e:ofA l=(⟨l.length,over l z16⟩,0):=by unfold ofA;rw[if_pos h]
  rw[e] at hk
  have d1:splice [.int .i64 0,D.o,D.o,D.o,D.o,D.o,D.o,D.o,D.o,D.o,D.o,D.o,D.o,D.o,D.o,D.o,D.o] 0 [PV.int .i64 (l.length:Int)]=adc ⟨(l.length:Int),over (l.take 0) z16⟩:=rfl
  have done:∀ E:Env,True:=fun _=>trivial
  clear done
  rcases h with h|h|h
  all_goals
   refine T178 fun hB hA=>?_
   refine W ?_
   refine lp (fun k e s=>∃ i:Nat,i+k=l.length∧e 5=.int .i64 i∧s=σ++[(1,VObj.box [.int .i64 0,D.o,D.o,D.o,D.o,D.o,D.o,D.o,D.o,D.o,D.o,D.o,D.o,D.o,D.o,D.o,D.o] false),(1,.box (adc ⟨(l.length:Int),over (l.take i) z16⟩) false)]) l.length ⟨0,by simp,rfl,rfl⟩ ?_
   rintro k u _ ⟨i,hi,e5,rfl⟩
   have hov:∀ j,j≤l.length→(over (l.take j) z16).length=16:=fun j hj=>over_len (by rw[List.length_take];show _≤16;omega)
   have oi:okD ⟨(l.length:Int),over (l.take i) z16⟩:=hov i (by omega)
   have li:=adc_len oi
   have si:=adc_sc (a:=⟨(l.length:Int),over (l.take i) z16⟩)
   by_cases h5:i<l.length
   ·obtain⟨x,hx⟩:∃ x,l[i]?=some x:=⟨_,List.getElem?_eq_getElem h5⟩
    have hg:(bsl l)[(i:Int).toNat]?=some [byt x]:=by rw[Int.toNat_natCast];unfold bsl;rw[List.getElem?_map,hx];rfl
    have hs2:splice (adc ⟨(l.length:Int),over (l.take i) z16⟩) (1+i) [byt x]=adc ⟨(l.length:Int),over (l.take (i+1)) z16⟩:=by
     rw[show adc ⟨(l.length:Int),over (l.take i) z16⟩=adr (l.length:Int) (over (l.take i) z16) from rfl,spl_adr (by rw[hov i (by omega)];omega)]
     show adr _ _=adr _ _
     congr 1
     rw[snocT hx]
     have hli:(l.take i).length=i:=by rw[List.length_take];omega
     unfold over
     rw[List.set_append_right _ _ (by omega),hli,Nat.sub_self,List.length_append,hli,List.length_singleton]
     have hz:z16.drop i=0::z16.drop (i+1):=by
      rw[List.drop_eq_getElem_cons (show i<z16.length by show i<16;omega)]
      congr 1
      have:∀ j:Fin 16,z16[j.1]'(by exact j.2)=0:=by decide
      exact this ⟨i,by omega⟩
     rw[hz,List.set_cons_zero,List.append_assoc]
     rfl
    refine W ?_
    exact⟨k - 1,by omega,i+1,by omega,rfl,rfl⟩
   ·have h9:l.take i=l:=List.take_of_length_le (by omega)
    rw[h9] at oi li si ⊢
    have dA:=ad_set oi
    have cA:=adc_all oi
    refine W ?_
    exact hk
 ·have e:ofA l=(ad0,1):=by unfold ofA;rw[if_neg h]
  rw[e] at hk
  have h0:¬ l.length=0:=fun e=>h (.inl e)
  have h4:¬ l.length=4:=fun e=>h (.inr (.inl e))
  have h16:¬ l.length=16:=fun e=>h (.inr (.inr e))
  clear h
  refine T178 fun hB hA=>?_
  have d0:splice [.int .i64 0,D.o,D.o,D.o,D.o,D.o,D.o,D.o,D.o,D.o,D.o,D.o,D.o,D.o,D.o,D.o,D.o] 0 [PV.int .i64 0,D.o,D.o,D.o,D.o,D.o,D.o,D.o,D.o,D.o,D.o,D.o,D.o,D.o,D.o,D.o,D.o]=adc ad0:=rfl
  have c0:=adc_all ad0_ok
  have l0:=adc_len ad0_ok
  refine W ?_
  exact hk
theorem uR3Of {l:List UInt8} (hl:l.length≤8):U Tryz.prog 150 [.sl (bsl l)] (.agg (u8c (over l z8))):=by
 intro σ Post hk
 have bl:=bsl_len l
 have hov:∀ j,j≤l.length→(over (l.take j) z8).length=8:=fun j hj=>over_len (by rw[List.length_take];show _≤8;omega)
 refine T150 fun hB hA=>?_
 refine W ?_
 refine lp (fun k e s=>∃ i:Nat,i+k=l.length∧e 4=.int .i64 i∧s=σ++[(1,VObj.box [D.o,D.o,D.o,D.o,D.o,D.o,D.o,D.o] false),(1,.box (u8c (over (l.take i) z8)) false)]) l.length ⟨0,by simp,rfl,rfl⟩ ?_
 rintro k u _ ⟨i,hi,e4,rfl⟩
 have oi:=hov i (by omega)
 have li:(u8c (over (l.take i) z8)).length=8:=by rw[u8c_len,oi]
 have si:=u8c_sc (over (l.take i) z8)
 by_cases h5:i<l.length
 ·have h8:i<8:=by omega
  obtain⟨x,hx⟩:∃ x,l[i]?=some x:=⟨_,List.getElem?_eq_getElem h5⟩
  have hg:(bsl l)[(i:Int).toNat]?=some [byt x]:=by rw[Int.toNat_natCast];unfold bsl;rw[List.getElem?_map,hx];rfl
  have hs2:splice (u8c (over (l.take i) z8)) i [byt x]=u8c (over (l.take (i+1)) z8):=by
   have e1:(over (l.take i) z8).set i x=over (l.take (i+1)) z8:=by
    rw[snocT hx]
    have hli:(l.take i).length=i:=by rw[List.length_take];omega
    unfold over
    rw[List.set_append_right _ _ (by omega),hli,Nat.sub_self,List.length_append,hli,List.length_singleton]
    have hz:z8.drop i=0::z8.drop (i+1):=by
     rw[List.drop_eq_getElem_cons (show i<z8.length by show i<8;omega)]
     congr 1
     have:∀ j:Fin 8,z8[j.1]'(by exact j.2)=0:=by decide
     exact this ⟨i,by omega⟩
    rw[hz,List.set_cons_zero,List.append_assoc]
    rfl
   rw[← e1]
   unfold splice u8c
   rw[List.set_eq_take_append_cons_drop,if_pos (by rw[oi];omega)]
   simp
  have hs3:splice (u8c (over (l.take i) z8)) (0+i) [byt x]=u8c (over (l.take (i+1)) z8):=by rw[Nat.zero_add];exact hs2
  refine W ?_
  exact⟨k - 1,by omega,i+1,by omega,rfl,rfl⟩
 ·have h9:l.take i=l:=List.take_of_length_le (by omega)
  rw[h9] at oi li si ⊢
  have cA:cut (u8c (over l z8)) 0 (some 8)=some (.agg (u8c (over l z8))):=cutH0 li
  have dA:splice [D.o,D.o,D.o,D.o,D.o,D.o,D.o,D.o] 0 (u8c (over l z8))=u8c (over l z8):=splH0 (by rw[li];rfl)
  by_cases h8:i<8
  ·refine W ?_
   exact hk
  ·refine W ?_
   exact hk
end Go.Proofs.YtdpeaefgbmkegaaGreatDoor
namespace Go.Proofs.YtdpeaefgbmkegaaGreatDoor
open Go Go.V
set_option maxRecDepth 10000
set_option linter.unusedVariables false
attribute [local irreducible] vBuild vCallV
section
variable {σ:VHeap} {Post:KP} {id g rid rg at':Nat} {B l:List UInt8} {no fz:Bool} {n:Nat}
def RdAt (σ:VHeap) (id g rid rg at':Nat) (B l:List UInt8) (no fz:Bool):Prop:=at'≤B.length∧B.drop at'=l∧id≠rid∧vGet σ id g=some (.box (rdc rid rg at' no) false)∧vGet σ rid rg=some (.row 1 (bsl B) fz)
def rdSet (σ:VHeap) (id g rid rg a2:Nat) (B:List UInt8) (no fz:Bool):VHeap:=(σ.set rid (rg,.row 1 (bsl B) fz)).set id (g,.box (rdc rid rg a2 no) false)
theorem RdAt.set (h:RdAt σ id g rid rg at' B l no fz) {a2:Nat} {l2:List UInt8} {no2 fz2:Bool} (h1:a2≤B.length) (h2:B.drop a2=l2):RdAt (rdSet σ id g rid rg a2 B no2 fz2) id g rid rg a2 B l2 no2 fz2:=by
 obtain⟨_,_,hne,hi,hr⟩:=h
 refine⟨h1,h2,hne,?_,?_⟩
 ·exact hget_eq (by rw[List.length_set];exact vGet_lt hi)
 ·exact hget_ne hne (hget_eq (vGet_lt hr))
theorem rdSet_set {a1 a2:Nat} {n1 n2 f1 f2:Bool} (hne:id≠rid):rdSet (rdSet σ id g rid rg a1 B n1 f1) id g rid rg a2 B n2 f2=rdSet σ id g rid rg a2 B n2 f2:=by
 unfold rdSet
 rw[List.set_comm _ _ hne,List.set_set,List.set_set]
theorem rdSet_len {a1:Nat} {n1 f1:Bool}:(rdSet σ id g rid rg a1 B n1 f1).length=σ.length:=by unfold rdSet;rw[List.length_set,List.length_set]
theorem rdSet_bel {m a1:Nat} {n1 f1:Bool} (h:belH m σ) (hr:rid<m):belH m (rdSet σ id g rid rg a1 B n1 f1):=belH_set (belH_setR h) ⟨hr,trivial,trivial,trivial⟩
theorem rdSet_app {L:VHeap} {a1:Nat} {n1 f1:Bool} (hi:id<σ.length) (hr:rid<σ.length):rdSet (σ++L) id g rid rg a1 B n1 f1=rdSet σ id g rid rg a1 B n1 f1++L:=by
 unfold rdSet
 rw[oset _ hr,oset _ (by rw[List.length_set];exact hi)]
theorem RdAt.app {L:VHeap} (h:RdAt σ id g rid rg at' B l no fz):RdAt (σ++L) id g rid rg at' B l no fz:=⟨h.1,h.2.1,h.2.2.1,oget h.2.2.2.1,oget h.2.2.2.2⟩
theorem tRTk (hB:B.length≤140737488355328) (h:RdAt σ id g rid rg at' B l no fz) (hk:∀ a2 fz2,a2≤B.length→B.drop a2=(rdT l no n).2.1→Post (.sl (bsl (rdT l no n).1)) (rdSet σ id g rid rg a2 B (rdT l no n).2.2 fz2)):T Tryz.prog 266 [.ptr id g 0,.int .i64 (n:Int)] σ Post:=tRTake hB h.1 h.2.1 h.2.2.1 h.2.2.2.1 h.2.2.2.2 hk
theorem tRNum (hB:B.length≤140737488355328) (h:RdAt σ id g rid rg at' B l no fz) (h1:1≤n) (h4:n≤4) (hk:∀ a2 fz2,a2≤B.length→B.drop a2=(rdT l no n).2.1→Post (.int .i64 (big (rdT l no n).1 0:Nat)) (rdSet σ id g rid rg a2 B (rdT l no n).2.2 fz2)):T Tryz.prog 267 [.ptr id g 0,.int .i64 (n:Int)] σ Post:=by
 refine T267 fun hB0 hA=>?_
 refine W ?_
 refine ct ?_
 refine tRTk hB h.app fun a2 fz2 q1 q2=>?_
 rw[rdSet_app (vGet_lt h.2.2.2.1) (vGet_lt h.2.2.2.2)]
 have hk:=hk a2 fz2 q1 q2
 have hl:=rdSet_len (σ:=σ) (id:=id) (g:=g) (rid:=rid) (rg:=rg) (a1:=a2) (B:=B) (n1:=(rdT l no n).2.2) (f1:=fz2)
 have hb:=rdSet_bel (id:=id) (g:=g) (rg:=rg) (a1:=a2) (B:=B) (n1:=(rdT l no n).2.2) (f1:=fz2) hB0 (vGet_lt h.2.2.2.2)
 generalize rdSet σ id g rid rg a2 B (rdT l no n).2.2 fz2=τ at *
 have h5:=(rdT_len l no n).1
 refine W ?_
 refine cu (uBig (l:=(rdT l no n).1) (by omega)) ?_
 refine W ?_
 exact hk
theorem rdSet_box {a3:Nat} {n1 f1 b:Bool}:(rdSet σ id g rid rg a3 B n1 f1).set id (g,.box [.row rid rg,.int .i64 (a3:Nat),.bool b] false)=rdSet σ id g rid rg a3 B b f1:=by
 unfold rdSet rdc
 rw[List.set_set]
open D in
def vb268_3:VC:=
 Rg [Mv 15 0,Mv 16 3,m 17 (.bin .quo .num (t 16) (Ci 8)),m 18 (.call false 266 [(t 15),(t 17)]),m 19 (.call false 178 [(t 18)]),Mv 14 19,m 20 (.extract 0 (t 14)),m 21 (.extract 1 (t 14)),m 4 (.alloc 1 [q,o,o,o,o,o,o,o,o,o,o,o,o,o,o,o,o]),e (.store 17 (t 4) (t 20)),Mv 5 21]<|
 .seq (Rg [Mv 22 5,m 23 (.bin .neq .num (t 22) (.c q))]<|
 .cond (t 23) (.region [Mv 24 0,m 25 (.nilCheck (t 24)),m 26 (Fl 2 25),e (.store 1 (t 26) Bt)]) (.skip))<|
 Rg [m 27 (Ls 17 4),e (.store 17 (t 2) (t 27))]<|
 .ret
open D in
theorem vb268_3_eq:vb268_3 =
 (Rg [Mv 15 0,Mv 16 3,m 17 (.bin .quo .num (t 16) (Ci 8)),m 18 (.call false 266 [(t 15),(t 17)]),m 19 (.call false 178 [(t 18)]),Mv 14 19,m 20 (.extract 0 (t 14)),m 21 (.extract 1 (t 14)),m 4 (.alloc 1 [q,o,o,o,o,o,o,o,o,o,o,o,o,o,o,o,o]),e (.store 17 (t 4) (t 20)),Mv 5 21]<|
 .seq (Rg [Mv 22 5,m 23 (.bin .neq .num (t 22) (.c q))]<|
 .cond (t 23) (.region [Mv 24 0,m 25 (.nilCheck (t 24)),m 26 (Fl 2 25),e (.store 1 (t 26) Bt)]) (.skip))<|
 Rg [m 27 (Ls 17 4),e (.store 17 (t 2) (t 27))]<|
 .ret):=rfl
open D in
theorem vb268_eq:vb268 =
 (Rg [m 2 (.alloc 0 [q,o,o,o,o,o,o,o,o,o,o,o,o,o,o,o,o])]<|
 Rg [Mv 6 0,m 7 (.call false 267 [(t 6),(Ci 1)]),Mv 3 7]<|
 .seq (Rg [Mv 8 3,m 9 (.bin .rem .num (t 8) (Ci 8)),m 10 (.bin .neq .num (t 9) (.c q))]<|
 .cond (t 10) (.region [Mv 11 0,m 12 (.nilCheck (t 11)),m 13 (Fl 2 12),e (.store 1 (t 13) Bt)]) (.skip))<|
 vb268_3):=rfl
theorem tRRead2 {a2:Nat} {fz2:Bool} {E:Env} (hB:B.length≤140737488355328) (hB0:belH σ.length σ) (h:RdAt σ id g rid rg at' B l no fz) (q1:a2≤B.length) (q2:B.drop a2=(rdT l no 1).2.1) (e0:E 0=.ptr id g 0) (e2:E 2=.ptr (σ.length+0) 1 0) (e3:E 3=.int .i64 (zqb l no:Int)) (hk:∀ a2 fz2,a2≤B.length→B.drop a2=(zqa l no).2.1→Post (.agg (adc (zqa l no).1)) (rdSet σ id g rid rg a2 B (zqa l no).2.2 fz2)) :
  vrun Tryz.prog σ.length vb268_3 E (rdSet σ id g rid rg a2 B (zqn l no) fz2++[(1,.box [.int .i64 0,D.o,D.o,D.o,D.o,D.o,D.o,D.o,D.o,D.o,D.o,D.o,D.o,D.o,D.o,D.o,D.o] false),(0,.dead)]) (vend vf268 (TrimP σ.length Post)):=by
 have hb1:zqb l no<256:=by
  have:=big_lt (rdT l no 1).1 0
  have:256 ^ (rdT l no 1).1.length≤256 ^ 1:=Nat.pow_le_pow_right (by omega) (rdT_len l no 1).1
  unfold zqb;omega
 have hne:=h.2.2.1
 have li:=vGet_lt h.2.2.2.1
 have lr:=vGet_lt h.2.2.2.2
 have hR:=h.set (no2:=zqn l no) (fz2:=fz2) q1 q2
 have hl:=rdSet_len (σ:=σ) (id:=id) (g:=g) (rid:=rid) (rg:=rg) (a1:=a2) (B:=B) (n1:=zqn l no) (f1:=fz2)
 have eq:ibin .quo .i64 (zqb l no:Int) .i64 8=some (.int .i64 ((zqb l no / 8:Nat):Int)):=ib_quo8 hb1
 have ou:=ofA_ok (zqu l no).1
 have ul:=adc_len ou
 have ua:=adc_all ou
 have us:=adc_sc (a:=(ofA (zqu l no).1).1)
 have ud:splice [.int .i64 0,D.o,D.o,D.o,D.o,D.o,D.o,D.o,D.o,D.o,D.o,D.o,D.o,D.o,D.o,D.o,D.o] 0 (adc (ofA (zqu l no).1).1)=adc (ofA (zqu l no).1).1:=ad_set ou
 have lu:(zqu l no).1.length≤zqb l no / 8:=(rdT_len (rdT l no 1).2.1 (zqn l no) (zqb l no / 8)).1
 generalize hτ:rdSet σ id g rid rg a2 B (zqn l no) fz2=τ at *
 rw[vb268_3_eq]
 refine W ?_
 refine ct ?_
 refine tRTk (n:=zqb l no / 8) hB hR.app fun a3 fz3 q3 q4=>?_
 rw[rdSet_app (by rw[hl];exact li) (by rw[hl];exact lr),← hτ,rdSet_set hne]
 have eu:rdT (rdT l no 1).2.1 (zqn l no) (zqb l no / 8)=zqu l no:=rfl
 rw[eu] at q4 ⊢
 have hl3:=rdSet_len (σ:=σ) (id:=id) (g:=g) (rid:=rid) (rg:=rg) (a1:=a3) (B:=B) (n1:=(zqu l no).2.2) (f1:=fz3)
 have hk:=hk a3 fz3 q3 q4
 have hb3:=rdSet_bel (id:=id) (g:=g) (rg:=rg) (a1:=a3) (B:=B) (n1:=(zqa l no).2.2) (f1:=fz3) hB0 lr
 have hR3:=h.set (no2:=(zqu l no).2.2) (fz2:=fz3) q3 q4
 have hg3:=hR3.2.2.2.1
 unfold rdc at hg3
 refine W ?_
 refine cu (uR2Of (l:=(zqu l no).1) (by omega)) ?_
 by_cases h0:(ofA (zqu l no).1).2=0
 ·have ez:(zqa l no).2.2=(zqu l no).2.2:=by unfold zqa;simp[h0]
  rw[ez] at hk hb3
  refine W ?_
  exact hk
 ·have ez:(zqa l no).2.2=true:=by unfold zqa;simp[h0]
  rw[ez] at hk hb3
  rw[← rdSet_box (n1:=(zqu l no).2.2)] at hk hb3
  refine W ?_
  exact hk
theorem tRRead (hB:B.length≤140737488355328) (h:RdAt σ id g rid rg at' B l no fz) (hk:∀ a2 fz2,a2≤B.length→B.drop a2=(zqa l no).2.1→Post (.agg (adc (zqa l no).1)) (rdSet σ id g rid rg a2 B (zqa l no).2.2 fz2)):T Tryz.prog 268 [.ptr id g 0] σ Post:=by
 have li:=vGet_lt h.2.2.2.1
 have lr:=vGet_lt h.2.2.2.2
 refine T268 fun hB0 hA=>?_
 rw[vb268_eq]
 refine W ?_
 refine ct ?_
 refine tRNum (n:=1) hB h.app (by omega) (by omega) fun a2 fz2 q1 q2=>?_
 rw[rdSet_app li lr]
 have hR:=h.set (no2:=(rdT l no 1).2.2) (fz2:=fz2) q1 q2
 have hg2:=hR.2.2.2.1
 unfold rdc at hg2
 have hl:=rdSet_len (σ:=σ) (id:=id) (g:=g) (rid:=rid) (rg:=rg) (a1:=a2) (B:=B) (n1:=(rdT l no 1).2.2) (f1:=fz2)
 have e1:big (rdT l no 1).1 0=zqb l no:=rfl
 rw[e1]
 have er:ibin .rem .i64 (zqb l no:Int) .i64 8=some (.int .i64 ((zqb l no % 8:Nat):Int)):=ib_rem8
 by_cases h8:zqb l no % 8=0
 ·have h8':((zqb l no % 8:Nat):Int)=0:=by omega
  have en:zqn l no=(rdT l no 1).2.2:=by unfold zqn;simp[h8]
  refine W ?_
  rw[← en]
  exact tRRead2 hB hB0 h q1 q2 rfl rfl rfl hk
 ·have h8':¬ ((zqb l no % 8:Nat):Int)=0:=by omega
  have en:zqn l no=true:=by unfold zqn;simp[h8]
  refine W ?_
  rw[rdSet_box,← en]
  exact tRRead2 hB hB0 h q1 q2 rfl rfl rfl hk
theorem tRLeft (hB:B.length≤140737488355328) (h:RdAt σ id g rid rg at' B l no fz) (hk:Post (.int .i64 ((if no=true then 0 else l.length:Nat):Int)) σ):T Tryz.prog 281 [.ptr id g 0] σ Post:=by
 obtain⟨ha,hl,hne,hi,hr⟩:=h
 have bl:=bsl_len B
 have dl:l.length=B.length - at':=by rw[← hl];exact List.length_drop
 unfold rdc at *
 refine T281 fun hB0 hA=>?_
 cases no with
 | true=>
   refine W ?_
   exact hk
 | false=>
   have e:((if false=true then 0 else l.length:Nat):Int)=(B.length:Int) - (at':Int):=by rw[if_neg (by decide)];omega
   rw[e] at hk
   refine Wo ?_
   refine drJ (fun _=>True) [(2,0),(1,1),(1,2),(1,3),(1,4),(2,5),(1,6),(1,7),(1,8),(2,9),(2,10)] (by kernel_rfl) (by kernel_rfl) (by exact z_ol) trivial ?_
   refine Wo ?_
   refine W ?_
   exact hk
theorem tRRest (hB:B.length≤140737488355328) (h:RdAt σ id g rid rg at' B l no fz) (hk:∀ a2 fz2,a2≤B.length→B.drop a2=(rdT l no (if no=true then 0 else l.length)).2.1→Post (.sl (bsl (rdT l no (if no=true then 0 else l.length)).1)) (rdSet σ id g rid rg a2 B (rdT l no (if no=true then 0 else l.length)).2.2 fz2)):T Tryz.prog 269 [.ptr id g 0] σ Post:=by
 generalize hn:(if no=true then 0 else l.length:Nat)=n at *
 refine T269 fun hB0 hA=>?_
 refine W ?_
 refine ct ?_
 refine tRLeft hB h.app ?_
 rw[hn]
 refine W ?_
 refine ct ?_
 refine tRTk hB h.app fun a2 fz2 q1 q2=>?_
 rw[rdSet_app (vGet_lt h.2.2.2.1) (vGet_lt h.2.2.2.2)]
 have hk:=hk a2 fz2 q1 q2
 have hl:=rdSet_len (σ:=σ) (id:=id) (g:=g) (rid:=rid) (rg:=rg) (a1:=a2) (B:=B) (n1:=(rdT l no n).2.2) (f1:=fz2)
 have hb:=rdSet_bel (id:=id) (g:=g) (rg:=rg) (a1:=a2) (B:=B) (n1:=(rdT l no n).2.2) (f1:=fz2) hB0 (vGet_lt h.2.2.2.2)
 generalize rdSet σ id g rid rg a2 B (rdT l no n).2.2 fz2=τ at *
 refine W ?_
 exact hk
theorem tRDone (hB:B.length≤140737488355328) (h:RdAt σ id g rid rg at' B l no fz) (hk:Post (.bool (!no&&decide (l.length=0))) σ):T Tryz.prog 270 [.ptr id g 0] σ Post:=by
 obtain⟨ha,hl,hne,hi,hr⟩:=h
 have bl:=bsl_len B
 have dl:l.length=B.length - at':=by rw[← hl];exact List.length_drop
 unfold rdc at *
 refine T270 fun hB0 hA=>?_
 refine Wo ?_
 refine drJ (fun _=>True) [(2,0),(1,1),(1,2),(1,3),(2,4),(2,5),(2,6),(1,7),(1,8),(1,9),(2,10),(1,11),(1,12),(1,13),(1,14),(2,15),(2,16),(2,17)] (by kernel_rfl) (by kernel_rfl) (by exact z_ol) trivial ?_
 cases no with
 | true=>
   refine Wo ?_
   refine W ?_
   exact hk
 | false=>
   by_cases h0:l.length=0
   ·have h1:(at':Int)=(B.length:Int):=by omega
    rw[decide_eq_true h0] at hk
    refine Wo ?_
    refine W ?_
    exact hk
   ·have h1:¬ (at':Int)=(B.length:Int):=by omega
    rw[decide_eq_false h0] at hk
    refine Wo ?_
    refine W ?_
    exact hk
theorem rdSetL {L:VHeap} {n i r a2:Nat} {fz2:Bool} (hn:σ.length=n):rdSet (σ++L) (n+i) g (n+r) rg a2 B no fz2=σ++(L.set r (rg,.row 1 (bsl B) fz2)).set i (g,.box (rdc (n+r) rg a2 no) false):=by
 unfold rdSet
 rw[lset hn,lset hn]
end
end Go.Proofs.YtdpeaefgbmkegaaGreatDoor
namespace Go.Proofs.YtdpeaefgbmkegaaGreatDoor
open Go Go.V
set_option maxRecDepth 10000
set_option linter.unusedVariables false
attribute [local irreducible] vBuild vCallV
theorem be_get (n:Nat):∀ (z j:Nat),j<z→(be n z)[j]?=some (UInt8.ofNat (n / 256 ^ (z - 1 - j)))
 | 0,j,h=>absurd h (by omega)
 | k+1,0,_=>by rw[be,List.getElem?_cons_zero,show k+1 - 1 - 0=k by omega]
 | k+1,j+1,h=>by rw[be,List.getElem?_cons_succ,be_get n k j (by omega),show k+1 - 1 - (j+1)=k - 1 - j by omega]
theorem pow8 (k:Nat):(2:Nat) ^ (8 * k)=256 ^ k:=by rw[Nat.pow_mul]
theorem uR1Bytes {n z:Nat} (hz:z≤4) (hn:n≤1099511627776):U Tryz.prog 149 [.int .i64 (n:Int),.int .i64 (z:Int)] (.sl (bsl (be n z))):=by
 intro σ Post hk
 have bl:=be_len n z
 refine T149 fun hB hA=>?_
 refine W ?_
 refine lp (fun k e s=>∃ (i g g2:Nat) (o2:VObj),i+k=z∧e 6=.int .i64 ((z:Int) - 1 - i)∧e 5=.row (σ.length+1) g∧s=σ++[(1,VObj.row 1 [] false),(g,.row 1 (bsl ((be n z).take i)) false),(g2,o2),(0,.dead)]) z ⟨0,1,0,.dead,by omega,by show PV.int _ _=PV.int _ _;congr 1;omega,rfl,rfl⟩ ?_
 rintro k u _ ⟨i,g,g2,o2,hi,e6,e5,rfl⟩
 by_cases h5:i<z
 ·have hg:=be_get n z i h5
  have hst:=snocT hg
  have h3:((z:Int) - 1 - i)=((z - 1 - i:Nat):Int):=by omega
  have hlt:z - 1 - i≤3:=by omega
  have hq:n / 256 ^ (z - 1 - i)≤n:=Nat.div_le_self _ _
  have b0:IntKind.i64.wrap (8 * ((z:Int) - 1 - i))=8 * ((z:Int) - 1 - i):=w_i64 (by omega) (by omega)
  have b1:ibin .shr .i64 (n:Int) .i64 (8 * ((z:Int) - 1 - i))=some (.int .i64 ((n / 256 ^ (z - 1 - i):Nat):Int)):=by
   rw[h3,show (8 * ((z - 1 - i:Nat):Int))=((8 * (z - 1 - i):Nat):Int) by omega,ib_shrN (n:=8 * (z - 1 - i)) (by show _≤64;omega),pow8]
  have b2:IntKind.u8.wrap ((n / 256 ^ (z - 1 - i):Nat):Int)=((UInt8.ofNat (n / 256 ^ (z - 1 - i))).toNat:Int):=by
   rw[show (UInt8.ofNat (n / 256 ^ (z - 1 - i))).toNat=n / 256 ^ (z - 1 - i) % 256 by simp]
   show ((n / 256 ^ (z - 1 - i):Nat):Int) % 256=_
   omega
  refine W ?_
  refine⟨k - 1,by omega,i+1,g+1,g2+1,.row 1 [[byt (UInt8.ofNat (n / 256 ^ (z - 1 - i)))]] false,by omega,?_,rfl,?_⟩
  ·show PV.int _ _=_
   congr 1;omega
  ·rw[hst]
 ·have h9:(be n z).take i=be n z:=List.take_of_length_le (by omega)
  rw[h9]
  refine W ?_
  exact hk
end Go.Proofs.YtdpeaefgbmkegaaGreatDoor
