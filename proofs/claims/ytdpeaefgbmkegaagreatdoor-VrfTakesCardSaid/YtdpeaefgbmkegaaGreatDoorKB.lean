/- The reference's multicast routes: Right, rough. -/
import Derived.Test.YtdpeaefgbmkegaaGreatDoorS6
import Derived.Test.YtdpeaefgbmkegaaGreatDoorKA
set_option maxHeartbeats 16000000
namespace Go.Proofs.YtdpeaefgbmkegaaGreatDoor
open Go Go.V
set_option maxRecDepth 10000
set_option linter.unusedVariables false
attribute [local irreducible] vBuild vCallV
theorem uR7RightG {m:Mr} {B:Bool} (h:okM m) (hkl:m.key.length≤140737488355328) (hkey:m.k=4→U Tryz.prog 193 [.sl (bsl m.key)] (.bool B)):U Tryz.prog 151 [.agg (mrc m)] (.bool (rightG m B)):=by
 intro σ Post hk
 rw[← refR_eq] at hk
 have sc:=mrc_sc (m:=m)
 have ml:=mrc_len h
 have c0:=mrc_all h
 have g0:cut (mrc m) 0 none=some (.int .i64 m.k):=rfl
 have g2:=mc_as h
 have g3:=mc_s h
 have g4:=mc_g h
 have g5:=mc_f h
 have g6:=mc_key h
 have ls:=adc_len h.s
 have lg:=adc_len h.g
 have lf:=adc_len h.f
 unfold refR at hk
 refine T151 fun hB hA=>?_
 rw[vb151_eq]
 by_cases hr:m.k<1∨7<m.k
 ·rw[if_pos hr] at hk
  rcases hr with hr|hr
  ·refine W ?_
   exact hk
  ·have hr':¬ m.k<1:=by omega
   refine W ?_
   exact hk
 rw[if_neg hr] at hk
 have hr1:¬ m.k<1:=fun e=>hr (.inl e)
 have hr2:¬ 7<m.k:=fun e=>hr (.inr e)
 clear hr
 have ek:(ofF m.k).2=true:=by
  have h7:m.k=1∨m.k=2∨m.k=3∨m.k=4∨m.k=5∨m.k=6∨m.k=7:=by omega
  rcases h7 with e|e|e|e|e|e|e<;>rw[e]<;>rfl
 refine W ?_
 refine cu (uWhat ek) ?_
 generalize (ofF m.k).1=p at *
 refine W ?_
 unfold vb151_5
 refine cutp (fun E h=>E 1=.ptr (σ.length+0) 1 0∧E 5=.bool p.fl∧E 6=.bool p.fr∧¬ ((p.rd=false∧m.rd≠z8)∨(p.aa=false∧m.aa≠0)∨(p.fl=false∧(m.s≠ad0∨m.g≠ad0))∨(p.fr=false∧m.f≠ad0)∨(m.k≠4∧m.key≠[]))∧h=σ++[(1,VObj.box (mrc m) false),(1,.box [PV.int .i64 0,D.o,D.o,D.o,D.o,D.o,D.o,D.o,D.o,D.o,D.o,D.o,D.o,D.o,D.o,D.o,D.o] false),(1,.box [D.o,D.o,D.o,D.o,D.o,D.o,D.o,D.o] false),(0,.dead)]) ?_ ?_
 ·refine sc_seq ?_
  refine rg5 (p:=p) h rfl rfl rfl rfl rfl rfl rfl rfl fun E hE f81=>?_
  obtain⟨e1,e3,e4,e5,e6,e7,e8⟩:=hE
  cases hc:(((((!p.rd&&!decide (m.rd=z8))||(!p.aa&&!decide (m.aa=0)))||(!p.fl&&(!decide (m.s=ad0)||!decide (m.g=ad0))))||(!p.fr&&!decide (m.f=ad0)))||(!decide (m.k=4)&&!decide (m.key=[]))) with
  | true=>
    rw[hc] at f81
    rw[if_pos (by simpa [or_assoc] using hc)] at hk
    refine W ?_
    exact hk
  | false=>
    rw[hc] at f81
    refine W ?_
    refine⟨e1,e5,e6,?_,rfl⟩
    intro hh
    have:(((((!p.rd&&!decide (m.rd=z8))||(!p.aa&&!decide (m.aa=0)))||(!p.fl&&(!decide (m.s=ad0)||!decide (m.g=ad0))))||(!p.fr&&!decide (m.f=ad0)))||(!decide (m.k=4)&&!decide (m.key=[])))=true:=by simpa [or_assoc] using hh
    rw[hc] at this
    cases this
 rintro u _ ⟨e1,e5,e6,hno,rfl⟩
 rw[if_neg hno] at hk
 clear hno
 generalize mix _ u _=E at *
 unfold vb151_6
 by_cases ha0:m.aa<0
 ·rw[if_pos (.inl ha0)] at hk
  refine W ?_
  exact hk
 by_cases ha1:4294967295<m.aa
 ·rw[if_pos (.inr ha1)] at hk
  refine W ?_
  exact hk
 rw[if_neg (by rintro (e|e);exact ha0 e;exact ha1 e)] at hk
 have last:∀ (E:Env),True:=fun _=>trivial
 clear last
 cases hf:p.fr with
 | false=>
   rw[hf] at e6
   rw[if_neg (by simp[hf])] at hk
   cases hl:p.fl with
   | false=>
     rw[hl] at e5
     rw[if_neg (by simp[hl])] at hk
     by_cases h4:m.k=4
     ·rw[if_pos h4] at hk
      refine W ?_
      refine cu (hkey h4) ?_
      refine W ?_
      exact hk
     ·rw[if_neg h4] at hk
      refine W ?_
      exact hk
   | true=>
   rw[hl] at e5
   have dk:decide (m.k=3)=decide (m.k=3):=rfl
   cases hq:flowsF m.s m.g (decide (m.k=3)) with
   | false=>
     by_cases h3:m.k=3
     ·have uf:=uR7Flow (w:=true) h.s h.g
      have dk:=hq;rw[decide_eq_true h3] at dk;rw[dk] at uf
      rw[if_pos ⟨hl,hq⟩] at hk
      refine W ?_
      refine cu uf ?_
      refine W ?_
      exact hk
     ·have uf:=uR7Flow (w:=false) h.s h.g
      have dk:=hq;rw[decide_eq_false h3] at dk;rw[dk] at uf
      rw[if_pos ⟨hl,hq⟩] at hk
      refine W ?_
      refine cu uf ?_
      refine W ?_
      exact hk
   | true=>
     by_cases h3:m.k=3
     ·have uf:=uR7Flow (w:=true) h.s h.g
      have dk:=hq;rw[decide_eq_true h3] at dk;rw[dk] at uf
      rw[if_neg (by simp[hq])] at hk
      refine W ?_
      refine cu uf ?_
      by_cases h4:m.k=4
      ·rw[if_pos h4] at hk
       refine W ?_
       refine cu (hkey h4) ?_
       refine W ?_
       exact hk
      ·rw[if_neg h4] at hk
       refine W ?_
       exact hk
     ·have uf:=uR7Flow (w:=false) h.s h.g
      have dk:=hq;rw[decide_eq_false h3] at dk;rw[dk] at uf
      rw[if_neg (by simp[hq])] at hk
      refine W ?_
      refine cu uf ?_
      by_cases h4:m.k=4
      ·rw[if_pos h4] at hk
       refine W ?_
       refine cu (hkey h4) ?_
       refine W ?_
       exact hk
      ·rw[if_neg h4] at hk
       refine W ?_
       exact hk
 | true=>
 rw[hf] at e6
 cases hs:someA m.f with
 | false=>
   rw[if_pos ⟨hf,hs⟩] at hk
   have us:=uR7Some h.f
   rw[hs] at us
   refine W ?_
   refine cu us ?_
   refine W ?_
   exact hk
 | true=>
 rw[if_neg (by simp[hs])] at hk
 have us:=uR7Some h.f
 rw[hs] at us
 refine W ?_
 refine cu us ?_
 cases hl:p.fl with
 | false=>
   rw[hl] at e5
   rw[if_neg (by simp[hl])] at hk
   by_cases h4:m.k=4
   ·rw[if_pos h4] at hk
    refine W ?_
    refine cu (hkey h4) ?_
    refine W ?_
    exact hk
   ·rw[if_neg h4] at hk
    refine W ?_
    exact hk
 | true=>
 rw[hl] at e5
 have dk:decide (m.k=3)=decide (m.k=3):=rfl
 cases hq:flowsF m.s m.g (decide (m.k=3)) with
 | false=>
   by_cases h3:m.k=3
   ·have uf:=uR7Flow (w:=true) h.s h.g
    have dk:=hq;rw[decide_eq_true h3] at dk;rw[dk] at uf
    rw[if_pos ⟨hl,hq⟩] at hk
    refine W ?_
    refine cu uf ?_
    refine W ?_
    exact hk
   ·have uf:=uR7Flow (w:=false) h.s h.g
    have dk:=hq;rw[decide_eq_false h3] at dk;rw[dk] at uf
    rw[if_pos ⟨hl,hq⟩] at hk
    refine W ?_
    refine cu uf ?_
    refine W ?_
    exact hk
 | true=>
   by_cases h3:m.k=3
   ·have uf:=uR7Flow (w:=true) h.s h.g
    have dk:=hq;rw[decide_eq_true h3] at dk;rw[dk] at uf
    rw[if_neg (by simp[hq])] at hk
    refine W ?_
    refine cu uf ?_
    by_cases h4:m.k=4
    ·rw[if_pos h4] at hk
     refine W ?_
     refine cu (hkey h4) ?_
     refine W ?_
     exact hk
    ·rw[if_neg h4] at hk
     refine W ?_
     exact hk
   ·have uf:=uR7Flow (w:=false) h.s h.g
    have dk:=hq;rw[decide_eq_false h3] at dk;rw[dk] at uf
    rw[if_neg (by simp[hq])] at hk
    refine W ?_
    refine cu uf ?_
    by_cases h4:m.k=4
    ·rw[if_pos h4] at hk
     refine W ?_
     refine cu (hkey h4) ?_
     refine W ?_
     exact hk
    ·rw[if_neg h4] at hk
     refine W ?_
     exact hk
end Go.Proofs.YtdpeaefgbmkegaaGreatDoor
namespace Go.Proofs.YtdpeaefgbmkegaaGreatDoor
open Go Go.V
set_option maxRecDepth 10000
set_option linter.unusedVariables false
attribute [local irreducible] vBuild vCallV
open D in
def vb253_10:VC:=
 .seq (.dreg [(m 76 (Ls 62 6),[]),(Mv 77 11,[]),(m 78 (.call false 270 [(t 77)]),[1]),(e (.store 62 (t 4) (t 76)),[0,2,0]),(Mv 5 78,[2,3,0,1,2,3])] [(2,0),(2,1),(0,2),(0,3),(2,4)] [0,0,2,7,15])<|
 .ret
open D in
def vb253_9:VC:=
 .seq (Rg [Mv 64 10]<|
 .cond (t 64) (Rg [Mv 66 11,m 67 (.call false 269 [(t 66)]),m 68 (.call false 178 [(t 67)]),Mv 65 68,m 69 (.extract 0 (t 65)),m 70 (.extract 1 (t 65)),m 13 (.alloc 2 [q,o,o,o,o,o,o,o,o,o,o,o,o,o,o,o,o]),e (.store 17 (t 13) (t 69)),Mv 14 70]<|
 Rg [m 71 (Ls 17 13),m 72 (Fl 44 6),e (.store 17 (t 72) (t 71))]<|
 Rg [Mv 73 14,m 74 (.bin .neq .num (t 73) (.c q))]<|
 .cond (t 74) (Rg [m 75 (Ls 62 6),e (.store 62 (t 4) (t 75)),m 5 (.mov Bf)]<|
 .ret) (.skip)) (.skip))<|
 vb253_10
open D in
def vb253_8:VC:=
 .seq (Rg [Mv 57 9]<|
 .cond (t 57) (Rg [Mv 58 11,m 59 (.call false 268 [(t 58)]),m 60 (Fl 10 6),e (.store 17 (t 60) (t 59))]<|
 .region [Mv 61 11,m 62 (.call false 268 [(t 61)]),m 63 (Fl 27 6),e (.store 17 (t 63) (t 62))]) (.skip))<|
 vb253_9
open D in
def vb253_7:VC:=
 .seq (Rg [Mv 53 8]<|
 .cond (t 53) (.region [Mv 54 11,m 55 (.call false 267 [(t 54),(Ci 4)]),m 56 (Fl 9 6),e (.store 1 (t 56) (t 55))]) (.skip))<|
 vb253_8
open D in
def vb253_6:VC:=
 .seq (Rg [Mv 48 7]<|
 .cond (t 48) (.region [Mv 49 11,m 50 (.call false 266 [(t 49),(Ci 8)]),m 51 (.call false 150 [(t 50)]),m 52 (Fl 1 6),e (.store 8 (t 52) (t 51))]) (.skip))<|
 vb253_7
open D in
def vb253_5:VC:=
 .seq (Rg [Mv 33 0,m 34 (.bin .eql .num (t 33) (Ci 4))]<|
 .cond (t 34) (Rg [m 12 (.mov (.c q))]<|
 .seq (Rg [Mv 35 1,m 36 (.len (t 35)),m 37 (.bin .gtr .num (t 36) (Ci 1))]<|
 .cond (t 37) (.region [Mv 38 1,m 39 (.index 1 (t 38) (Ci 1)),m 40 (Ld 39),m 41 (.convInt .i64 (t 40)),Mv 12 41]) (.skip))<|
 .region [Mv 42 11,Mv 43 12,m 44 (.bin .add .num (Ci 2) (t 43)),m 45 (.call false 266 [(t 42),(t 44)]),m 46 (.b2s (t 45)),m 47 (Fl 61 6),e (.store 1 (t 47) (t 46))]) (.skip))<|
 vb253_6
open D in
theorem vb253_eq:vb253 =
 (Rg [m 4 (.alloc 0 [q,o,o,o,o,o,o,o,o,q,q,o,o,o,o,o,o,o,o,o,o,o,o,o,o,o,o,q,o,o,o,o,o,o,o,o,o,o,o,o,o,o,o,o,q,o,o,o,o,o,o,o,o,o,o,o,o,o,o,o,o,(.str [])]),m 5 (.mov Bf)]<|
 Rg [Mv 15 0,m 16 (.build [q,o,o,o,o,o,o,o,o,q,q,o,o,o,o,o,o,o,o,o,o,o,o,o,o,o,o,q,o,o,o,o,o,o,o,o,o,o,o,o,o,o,o,o,q,o,o,o,o,o,o,o,o,o,o,o,o,o,o,o,o,(.str [])] [(0,1,(t 15))]),m 6 (.alloc 1 [q,o,o,o,o,o,o,o,o,q,q,o,o,o,o,o,o,o,o,o,o,o,o,o,o,o,o,q,o,o,o,o,o,o,o,o,o,o,o,o,o,o,o,o,q,o,o,o,o,o,o,o,o,o,o,o,o,o,o,o,o,(.str [])]),e (.store 62 (t 6) (t 16))]<|
 .seq (Rg [Mv 17 0,m 18 (.bin .lss .num (t 17) (Ci 1)),Mv 19 18,Gf 20 19 (.mov (t 0)),Gf 21 19 (.bin .gtr .num (t 20) (Ci 7)),m 22 (.pick (t 19) Bt (t 21))]<|
 .cond (t 22) (Rg [m 23 (Ls 62 6),e (.store 62 (t 4) (t 23)),m 5 (.mov Bf)]<|
 .ret) (.skip))<|
 Rg [Mv 25 0,m 26 (.call false 152 [(t 25)]),Mv 24 26,m 27 (.extract 0 (t 24)),m 28 (.extract 1 (t 24)),m 29 (.extract 2 (t 24)),m 30 (.extract 3 (t 24)),Mv 7 27,Mv 8 28,Mv 9 29,Mv 10 30]<|
 Rg [Mv 31 1,m 32 (.call false 265 [(t 31)]),Mv 11 32]<|
 vb253_5):=rfl
def RoI (σ:VHeap) (k:Int) (b:List UInt8) (p:Pt) (S:RR) (E:Env) (h:VHeap):Prop:=E 0=.int .i64 k∧E 1=.sl (bsl b)∧E 4=.ptr (σ.length+0) 1 0∧E 6=.ptr (σ.length+1) 1 0∧E 7=.bool p.rd∧E 8=.bool p.aa∧E 9=.bool p.fl∧E 10=.bool p.fr∧E 11=.ptr (σ.length+5) 1 0∧∃ a fz,a≤b.length∧b.drop a=S.l∧h=σ++[(1,.box mz false),(1,.box (mrc S.m) false),(0,.dead),(2,.row 1 (bsl b) fz),(0,.dead),(1,.box (rdc (σ.length+3) 2 a S.no) false)]
section
variable {σ:VHeap} {Q:QP} {k:Int} {b:List UInt8} {p:Pt} {S:RR} {E:Env} {h:VHeap}
theorem zq1_ok (oS:okM S.m):okM (zq1 p S).m:=by
 unfold zq1;split
 ·exact⟨over_len (by have:=(rdT_len S.l S.no 8).1;show _≤8;omega),oS.s,oS.g,oS.f⟩
 ·exact oS
theorem zq2_ok (oS:okM S.m):okM (zq2 p S).m:=by
 unfold zq2;split
 ·exact⟨oS.rd,oS.s,oS.g,oS.f⟩
 ·exact oS
theorem zq3_ok (oS:okM S.m):okM (zq3 p S).m:=by
 unfold zq3;split
 ·exact⟨oS.rd,ofA_ok _,ofA_ok _,oS.f⟩
 ·exact oS
theorem ro6 (hb:b.length≤1000000) (oS:okM S.m) (hI:RoI σ k b p S E h) (kk:∀ E' h',RoI σ k b p (zq1 p S) E' h'→vrun Tryz.prog σ.length vb253_7 E' h' Q):vrun Tryz.prog σ.length vb253_6 E h Q:=by
 obtain⟨e0,e1,e4,e6,e7,e8,e9,e10,e11,a,fz,ha,hl,rfl⟩:=hI
 have ml:=mrc_len oS
 unfold vb253_6
 refine cutp (RoI σ k b p (zq1 p S)) ?_ fun u s' hI'=>kk _ _ hI'
 cases hp:p.rd with
 | false=>
   rw[hp] at e7
   have e:zq1 p S=S:=by unfold zq1;rw[hp];rfl
   rw[e]
   refine W ?_
   exact⟨e0,e1,e4,e6,hp▸e7,e8,e9,e10,e11,a,fz,ha,hl,rfl⟩
 | true=>
   rw[hp] at e7
   have e:zq1 p S=⟨{ S.m with rd:=over (rdT S.l S.no 8).1 z8 },(rdT S.l S.no 8).2.1,(rdT S.l S.no 8).2.2⟩:=by unfold zq1;rw[hp];rfl
   rw[e]
   have h8:=(rdT_len S.l S.no 8).1
   have o8:(over (rdT S.l S.no 8).1 z8).length=8:=over_len (by show _≤8;omega)
   have st:=ms_rd oS (q:=over (rdT S.l S.no 8).1 z8) o8
   have ou:(u8c (over (rdT S.l S.no 8).1 z8)).length=8:=by rw[u8c_len,o8]
   have os:=u8c_sc (over (rdT S.l S.no 8).1 z8)
   refine W ?_
   refine ct ?_
   refine tRTk (n:=8) (by omega) ⟨ha,hl,by omega,lget rfl rfl,lget rfl rfl⟩ fun a2 fz2 q1 q2=>?_
   rw[rdSetL rfl]
   refine W ?_
   refine cu (uR3Of (l:=(rdT S.l S.no 8).1) h8) ?_
   refine W ?_
   exact⟨e0,e1,e4,e6,hp▸e7,e8,e9,e10,e11,a2,fz2,q1,q2,rfl⟩
theorem ro7 (hb:b.length≤1000000) (oS:okM S.m) (hI:RoI σ k b p S E h) (kk:∀ E' h',RoI σ k b p (zq2 p S) E' h'→vrun Tryz.prog σ.length vb253_8 E' h' Q):vrun Tryz.prog σ.length vb253_7 E h Q:=by
 obtain⟨e0,e1,e4,e6,e7,e8,e9,e10,e11,a,fz,ha,hl,rfl⟩:=hI
 have ml:=mrc_len oS
 unfold vb253_7
 refine cutp (RoI σ k b p (zq2 p S)) ?_ fun u s' hI'=>kk _ _ hI'
 cases hp:p.aa with
 | false=>
   rw[hp] at e8
   have e:zq2 p S=S:=by unfold zq2;rw[hp];rfl
   rw[e]
   refine W ?_
   exact⟨e0,e1,e4,e6,e7,hp▸e8,e9,e10,e11,a,fz,ha,hl,rfl⟩
 | true=>
   rw[hp] at e8
   have e:zq2 p S=⟨{ S.m with aa:=(big (rdT S.l S.no 4).1 0:Nat) },(rdT S.l S.no 4).2.1,(rdT S.l S.no 4).2.2⟩:=by unfold zq2;rw[hp];rfl
   rw[e]
   have st:=ms_as oS (z:=(big (rdT S.l S.no 4).1 0:Nat))
   refine W ?_
   refine ct ?_
   refine tRNum (n:=4) (by omega) ⟨ha,hl,by omega,lget rfl rfl,lget rfl rfl⟩ (by omega) (by omega) fun a2 fz2 q1 q2=>?_
   rw[rdSetL rfl]
   refine W ?_
   exact⟨e0,e1,e4,e6,e7,hp▸e8,e9,e10,e11,a2,fz2,q1,q2,rfl⟩
theorem ro8 (hb:b.length≤1000000) (oS:okM S.m) (hI:RoI σ k b p S E h) (kk:∀ E' h',RoI σ k b p (zq3 p S) E' h'→vrun Tryz.prog σ.length vb253_9 E' h' Q):vrun Tryz.prog σ.length vb253_8 E h Q:=by
 obtain⟨e0,e1,e4,e6,e7,e8,e9,e10,e11,a,fz,ha,hl,rfl⟩:=hI
 have ml:=mrc_len oS
 unfold vb253_8
 refine cutp (RoI σ k b p (zq3 p S)) ?_ fun u s' hI'=>kk _ _ hI'
 cases hp:p.fl with
 | false=>
   rw[hp] at e9
   have e:zq3 p S=S:=by unfold zq3;rw[hp];rfl
   rw[e]
   refine W ?_
   exact⟨e0,e1,e4,e6,e7,e8,hp▸e9,e10,e11,a,fz,ha,hl,rfl⟩
 | true=>
   rw[hp] at e9
   have e:zq3 p S=zqG (zqS S):=by unfold zq3;rw[hp];rfl
   rw[e]
   have oa:okD (zqa S.l S.no).1:=ofA_ok _
   have oS1:okM (zqS S).m:=⟨oS.rd,oa,oS.g,oS.f⟩
   have ob:okD (zqa (zqS S).l (zqS S).no).1:=ofA_ok _
   have st:=ms_s oS oa
   have st2:=ms_g oS1 ob
   have la:=adc_len oa
   have sa:=adc_sc (a:=(zqa S.l S.no).1)
   have lb:=adc_len ob
   have sb:=adc_sc (a:=(zqa (zqS S).l (zqS S).no).1)
   have ml1:=mrc_len oS1
   have e1':mrc { S.m with s:=(zqa S.l S.no).1 }=mrc (zqS S).m:=rfl
   have e2':(zqa S.l S.no).2.1=(zqS S).l:=rfl
   have e3':(zqa S.l S.no).2.2=(zqS S).no:=rfl
   rw[e1'] at st
   refine W ?_
   refine ct ?_
   refine tRRead (by omega) ⟨ha,hl,by omega,lget rfl rfl,lget rfl rfl⟩ fun a2 fz2 q1 q2=>?_
   rw[rdSetL rfl,e3']
   rw[e2'] at q2
   refine W ?_
   refine ct ?_
   refine tRRead (by omega) ⟨q1,q2,by omega,lget rfl rfl,lget rfl rfl⟩ fun a3 fz3 q3 q4=>?_
   rw[rdSetL rfl]
   refine W ?_
   exact⟨e0,e1,e4,e6,e7,e8,hp▸e9,e10,e11,a3,fz3,q3,q4,rfl⟩
theorem ro10 {Post:KP} {a:Nat} {fz:Bool} {g2:Nat} {o2:VObj} (hb:b.length≤1000000) (hB:belH σ.length σ) (oS:okM S.m) (e4:E 4=.ptr (σ.length+0) 1 0) (e6:E 6=.ptr (σ.length+1) 1 0) (e11:E 11=.ptr (σ.length+5) 1 0) (ha:a≤b.length) (hl:b.drop a=S.l) (hk:Post (.tup [.agg (mrc S.m),.bool (!S.no&&decide (S.l.length=0))]) σ):vrun Tryz.prog σ.length vb253_10 E (σ++[(1,.box mz false),(1,.box (mrc S.m) false),(g2,o2),(2,.row 1 (bsl b) fz),(0,.dead),(1,.box (rdc (σ.length+3) 2 a S.no) false)]) (vend vf253 (TrimP σ.length Post)):=by
 have ml:=mrc_len oS
 have ma:=mrc_all oS
 have ms:=mrc_sc (m:=S.m)
 have st:=ms_all oS
 have lz:mz.length=62:=rfl
 unfold vb253_10
 refine Wo ?_
 refine drJ (fun h=>vGet h (σ.length+1) 1=some (.box (mrc S.m) false)) [(2,0),(2,1),(0,2),(0,3),(2,4)] (by kernel_rfl) (by kernel_rfl) (by exact z_ol) (lget rfl rfl) ?_
 refine Wo ?_
 refine sv_0 ?_
 refine ct ?_
 refine tRDone (by omega) ⟨ha,hl,by omega,lget rfl rfl,lget rfl rfl⟩ ?_
 refine st_end ⟨lget rfl rfl,?_⟩
 refine sv_0 ?_
 refine est (by exact z_ea) ?_
 refine st_end ⟨lget rfl rfl,?_⟩
 refine Wo ?_
 refine W ?_
 exact hk
theorem ro9 {Post:KP} (hb:b.length≤1000000) (hB:belH σ.length σ) (oS:okM S.m) (hI:RoI σ k b p S E h) (hk:Post (.tup [.agg (mrc (zqE p S).1),.bool (zqE p S).2]) σ):vrun Tryz.prog σ.length vb253_9 E h (vend vf253 (TrimP σ.length Post)):=by
 obtain⟨e0,e1,e4,e6,e7,e8,e9,e10,e11,a,fz,ha,hl,rfl⟩:=hI
 have ml:=mrc_len oS
 unfold vb253_9
 cases hp:p.fr with
 | false=>
   rw[hp] at e10
   have e:zqE p S=(S.m,!S.no&&decide (S.l.length=0)):=by unfold zqE;rw[hp];rfl
   rw[e] at hk
   refine W ?_
   exact ro10 hb hB oS e4 e6 e11 ha hl hk
 | true=>
   rw[hp] at e10
   have e:zqE p S=({ S.m with f:=(ofA (zqR S).1).1 },decide ((ofA (zqR S).1).2=0)&&(!(zqR S).2.2&&decide ((zqR S).2.1.length=0))):=by unfold zqE;rw[hp];rfl
   rw[e] at hk
   have oa:=ofA_ok (zqR S).1
   have oS2:okM { S.m with f:=(ofA (zqR S).1).1 }:=⟨oS.rd,oS.s,oS.g,oa⟩
   have st:=ms_f oS oa
   have la:=adc_len oa
   have aa:=adc_all oa
   have sa:=adc_sc (a:=(ofA (zqR S).1).1)
   have ad:splice [PV.int .i64 0,D.o,D.o,D.o,D.o,D.o,D.o,D.o,D.o,D.o,D.o,D.o,D.o,D.o,D.o,D.o,D.o] 0 (adc (ofA (zqR S).1).1)=adc (ofA (zqR S).1).1:=ad_set oa
   have lr:=(rdT_len S.l S.no (if S.no=true then 0 else S.l.length)).2.1
   have hS:S.l.length≤b.length:=by rw[← hl,List.length_drop];omega
   have ml2:=mrc_len oS2
   have ma2:=mrc_all oS2
   have ms2:=mrc_sc (m:={ S.m with f:=(ofA (zqR S).1).1 })
   have st2:=ms_all oS2
   have lz:mz.length=62:=rfl
   dsimp only at hk
   refine W ?_
   refine ct ?_
   refine tRRest (by omega) ⟨ha,hl,by omega,lget rfl rfl,lget rfl rfl⟩ fun a2 fz2 q1 q2=>?_
   have er:rdT S.l S.no (if S.no=true then 0 else S.l.length)=zqR S:=rfl
   rw[er] at q2 lr ⊢
   rw[rdSetL rfl]
   refine W ?_
   refine cu (uR2Of (l:=(zqR S).1) (by omega)) ?_
   by_cases h0:(ofA (zqR S).1).2=0
   ·rw[decide_eq_true h0,Bool.true_and] at hk
    refine W ?_
    exact ro10 (S:=⟨{ S.m with f:=(ofA (zqR S).1).1 },(zqR S).2.1,(zqR S).2.2⟩) hb hB oS2 e4 e6 e11 q1 q2 hk
   ·rw[decide_eq_false h0,Bool.false_and] at hk
    refine W ?_
    exact hk
end
end Go.Proofs.YtdpeaefgbmkegaaGreatDoor
