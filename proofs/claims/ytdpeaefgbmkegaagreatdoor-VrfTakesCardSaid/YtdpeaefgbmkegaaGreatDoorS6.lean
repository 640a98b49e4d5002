/- The reference's multicast routes: Right. -/
import Derived.Test.YtdpeaefgbmkegaaGreatDoorKA
import Derived.Test.YtdpeaefgbmkegaaGreatDoorFAD
set_option maxHeartbeats 16000000
namespace Go.Proofs.YtdpeaefgbmkegaaGreatDoor
open Go Go.V
set_option maxRecDepth 10000
set_option linter.unusedVariables false
attribute [local irreducible] vBuild vCallV
theorem uWhat {k:Int} (h:(ofF k).2=true):U Tryz.prog 152 [.int .i64 k] (.tup [.bool (ofF k).1.rd,.bool (ofF k).1.aa,.bool (ofF k).1.fl,.bool (ofF k).1.fr]):=by
 intro σ Post hk
 rcases kinds h with rfl|rfl|rfl|rfl|rfl|rfl|rfl
 all_goals
  refine T152 fun hB hA=>?_
  refine W ?_
  exact hk
theorem uR7Some {a:Ad} (h:okD a):U Tryz.prog 191 [.agg (adc a)] (.bool (someA a)):=by
 intro σ Post hk
 have sc:=adc_sc (a:=a)
 have ln:=adc_len h
 have c0:=adc_all h
 have c1:=adc_s (a:=a)
 unfold someA at hk
 refine T191 fun hB hA=>?_
 refine W ?_
 refine cu (uR2 h) ?_
 cases ho:okAd a with
 | false=>
   rw[ho,Bool.false_and] at hk
   refine W ?_
   exact hk
 | true=>
   rw[ho,Bool.true_and] at hk
   by_cases h0:0<a.s
   ·rw[decide_eq_true h0] at hk
    refine W ?_
    exact hk
   ·rw[decide_eq_false h0] at hk
    refine W ?_
    exact hk
theorem vrunOps_app {P:Program} {n:Nat} {K:Env→VHeap→Prop} {b:List VO}:∀ (a:List VO) (env:Env) (h:VHeap),vrunOps P n (fun e s=>vrunOps P n K b e s) a env h→vrunOps P n K (a++b) env h
 | [],_,_,h=>h
 | o::l,env,σ,h=>by
   rw[List.cons_append]
   simp only[vrunOps] at *
   split
   ·exact vop_mono (fun r σ' h=>vrunOps_app l _ _ h) (by simpa [*] using h)
   ·rename_i slot pol hg
    simp only[hg] at h
    split
    ·rename_i b hb
     simp only[hb] at h
     split
     ·rename_i hp;rw[if_pos hp] at h;exact vop_mono (fun r σ' h=>vrunOps_app l _ _ h) h
     ·rename_i hp;rw[if_neg hp] at h;exact vrunOps_app l _ _ h
    ·rename_i hb;simp only[hb] at h;exact vrunOps_app l _ _ h
    ·rename_i h1 h2
     split at h
     ·rename_i b hb;exact(h1 b hb).elim
     ·rename_i hb;exact(h2 hb).elim
     ·exact h
theorem cutO {P:Program} {n:Nat} {K:Env→VHeap→Prop} {a b l:List VO} {env:Env} {h:VHeap} (I:Env→VHeap→Prop) (ho:l=a++b) (h1:vrunOps P n I a env h) (h2:∀ e s,I e s→vrunOps P n K b e s):vrunOps P n K l env h:=by
 subst ho
 exact vrunOps_app a env h (vrunOps_mono (fun e s hh=>h2 e s hh) _ _ _ h1)
open D in
def vb192_7:VC:=
 Rg [m 48 (Fl 0 3),m 49 (Ld 48),m 50 (.bin .gtr .num (t 49) (.c q)),Mv 51 50,Gt 52 51 (Fl 0 3),Gt 53 51 (Ld 52),Gt 54 51 (Fl 0 4),Gt 55 51 (Ld 54),Gt 56 51 (.bin .eql .num (t 53) (t 55)),m 57 (.pick (t 51) (t 56) Bf),Mv 6 57]<|
 .ret
open D in
def vb192_6:VC:=
 .seq (Rg [Mv 37 2,Mv 38 37,Gt 39 38 (Fl 0 3),Gt 40 38 (Ld 39),Gt 41 38 (.bin .eql .num (t 40) (.c q)),Gt 42 38 (.mov (t 41)),Gf 43 42 (Fl 0 4),Gf 44 42 (Ld 43),Gf 45 42 (.bin .eql .num (t 44) (.c q)),Gt 46 38 (.pick (t 42) Bt (t 45)),m 47 (.pick (t 38) (t 46) Bf)]<|
 .cond (t 47) (Rg [m 6 (.mov Bt)]<|
 .ret) (.skip))<|
 vb192_7
open D in
def vb192_5:VC:=
 .seq (Rg [Mv 19 7,m 20 (.un .not (t 19)),Mv 21 20,Gf 22 21 (.mov (t 8)),Gf 23 21 (.un .not (t 22)),m 24 (.pick (t 21) Bt (t 23)),Mv 25 24,Gf 26 25 (.mov (t 9)),m 27 (.pick (t 25) Bt (t 26)),Mv 28 27,Gf 29 28 (Fl 0 4),Gf 30 28 (Ld 29),Gf 31 28 (.bin .gtr .num (t 30) (.c q)),Gf 32 28 (.mov (t 31)),Gt 33 32 (.mov (t 10)),Gt 34 32 (.un .not (t 33)),Gf 35 28 (.pick (t 32) (t 34) Bf),m 36 (.pick (t 28) Bt (t 35))]<|
 .cond (t 36) (Rg [m 6 (.mov Bf)]<|
 .ret) (.skip))<|
 vb192_6
open D in
theorem vb192_eq:vb192 =
 (Rg [m 3 (.box 0 (t 0)),m 4 (.box 1 (t 1)),m 6 (.mov Bf)]<|
 Rg [m 11 (Ls 17 3),m 12 (.call false 55 [(t 11)]),Mv 7 12]<|
 Rg [m 13 (Ls 17 4),m 14 (.call false 55 [(t 13)]),Mv 8 14]<|
 Rg [m 15 (Ls 17 3),m 16 (.call false 179 [(t 15)]),Mv 9 16]<|
 Rg [m 17 (Ls 17 4),m 18 (.call false 179 [(t 17)]),Mv 10 18]<|
 vb192_5):=rfl
open D in
theorem uR7Flow {s g:Ad} {w:Bool} (hs:okD s) (hg:okD g):U Tryz.prog 192 [.agg (adc s),.agg (adc g),.bool w] (.bool (flowsF s g w)):=by
 intro σ Post hk
 have sc:=adc_sc (a:=s)
 have ln:=adc_len hs
 have c0:=adc_all hs
 have c1:=adc_s (a:=s)
 have sc':=adc_sc (a:=g)
 have ln':=adc_len hg
 have c0':=adc_all hg
 have c1':=adc_s (a:=g)
 unfold flowsF at hk
 refine T192 fun hB hA=>?_
 rw[vb192_eq]
 refine W ?_
 refine cu (uR2 hs) ?_
 refine W ?_
 refine cu (uR2 hg) ?_
 refine W ?_
 refine cu (uR2Multi hs) ?_
 refine W ?_
 refine cu (uR2Multi hg) ?_
 refine W ?_
 unfold vb192_5
 refine cutp (fun E h=>E 2=.bool w∧E 3=.ptr (σ.length+0) 1 0∧E 4=.ptr (σ.length+1) 1 0∧okAd s=true∧okAd g=true∧mcA s=false∧(g.s≤0∨mcA g=true)∧h=σ++[(1,VObj.box (adc s) false),(1,.box (adc g) false)]) ?_ ?_
 ·cases h1:okAd s with
  | false=>refine W ?_;exact finP hk (by simp[h1])
  | true=>
  cases h2:okAd g with
  | false=>refine W ?_;exact finP hk (by simp[h2])
  | true=>
  cases h3:mcA s with
  | true=>refine W ?_;exact finP hk (by simp[h3])
  | false=>
  by_cases h4:0<g.s
  ·cases h5:mcA g with
   | false=>refine W ?_;exact finP hk (by simp[h5];omega)
   | true=>
     refine W ?_
     exact⟨rfl,rfl,rfl,rfl,rfl,rfl,.inr rfl,rfl⟩
  ·refine W ?_
   exact⟨rfl,rfl,rfl,rfl,rfl,rfl,.inl (by omega),rfl⟩
 rintro u _ ⟨e2,e3,e4,h1,h2,h3,h4,rfl⟩
 have e5:(decide (g.s≤0)||mcA g)=true:=by rcases h4 with h4|h4<;>simp[h4]
 rw[h1,h2,h3,e5] at hk
 simp only[Bool.true_and,Bool.not_false,Bool.and_true] at hk
 clear h1 h2 h3 h4 e5
 generalize mix _ u _=E at *
 unfold vb192_6
 refine cutp (fun E h=>E 3=.ptr (σ.length+0) 1 0∧E 4=.ptr (σ.length+1) 1 0∧(w&&(decide (s.s=0)||decide (g.s=0)))=false∧h=σ++[(1,VObj.box (adc s) false),(1,.box (adc g) false)]) ?_ ?_
 ·cases w with
  | false=>refine W ?_;exact⟨e3,e4,rfl,rfl⟩
  | true=>
    by_cases h7:s.s=0
    ·refine W ?_;exact finP hk (by simp[h7])
    ·by_cases h6:g.s=0
     ·refine W ?_;exact finP hk (by simp[h6])
     ·refine W ?_;exact⟨e3,e4,by simp[h6,h7],rfl⟩
 clear e3 e4 e2
 rintro u _ ⟨e3,e4,h1,rfl⟩
 rw[h1] at hk
 generalize mix _ u _=E at *
 unfold vb192_7
 by_cases h8:0<s.s
 ·by_cases h9:s.s=g.s
  ·refine W ?_;exact finP hk (by simp[h9];omega)
  ·refine W ?_;exact finP hk (by simp[h9])
 ·refine W ?_;exact finP hk (by simp[h8])
open D in
def vb151_6:VC:=
 .seq (Rg [m 82 (Fl 9 1),m 83 (Ld 82),m 84 (.bin .lss .num (t 83) (.c q)),Mv 85 84,Gf 86 85 (Fl 9 1),Gf 87 85 (Ld 86),Gf 88 85 (.bin .gtr .num (t 87) (Ci 4294967295)),m 89 (.pick (t 85) Bt (t 88))]<|
 .cond (t 89) (Rg [m 2 (.mov Bf)]<|
 .ret) (.skip))<|
 .seq (Rg [Mv 90 6]<|
 .cond (t 90) (Rg [m 91 (Fl 44 1),m 92 (Ls 17 91),m 93 (.call false 191 [(t 92)]),Mv 9 93]<|
 Rg [Mv 94 9,m 95 (.un .not (t 94))]<|
 .cond (t 95) (Rg [m 2 (.mov Bf)]<|
 .ret) (.skip)) (.skip))<|
 .seq (Rg [Mv 96 5]<|
 .cond (t 96) (Rg [m 97 (Fl 10 1),m 98 (Ls 17 97),m 99 (Fl 27 1),m 100 (Ls 17 99),m 101 (Fl 0 1),m 102 (Ld 101),m 103 (.bin .eql .num (t 102) (Ci 3)),m 104 (.call false 192 [(t 98),(t 100),(t 103)]),Mv 10 104]<|
 Rg [Mv 105 10,m 106 (.un .not (t 105))]<|
 .cond (t 106) (Rg [m 2 (.mov Bf)]<|
 .ret) (.skip)) (.skip))<|
 .seq (Rg [m 107 (Fl 0 1),m 108 (Ld 107),m 109 (.bin .eql .num (t 108) (Ci 4))]<|
 .cond (t 109) (Rg [m 110 (Fl 61 1),m 111 (Ld 110),m 112 (.s2b 3 (t 111)),m 113 (.call false 193 [(t 112)]),Mv 2 113]<|
 .ret) (.skip))<|
 Rg [m 2 (.mov Bt)]<|
 .ret
open D in
def vb151_5:VC:=
 .seq (Rg [Mv 29 3,m 30 (.un .not (t 29)),Mv 31 30,Gt 32 31 (Fl 1 1),Gt 33 31 (Ls 8 32),Gt 34 31 (Ls 8 8),Gt 35 31 (.eqAgg [(.i .u8),(.i .u8),(.i .u8),(.i .u8),(.i .u8),(.i .u8),(.i .u8),(.i .u8)] true (t 33) (t 34)),m 36 (.pick (t 31) (t 35) Bf),Mv 37 36,Gf 38 37 (.mov (t 4)),Gf 39 37 (.un .not (t 38)),Gf 40 37 (.mov (t 39)),Gt 41 40 (Fl 9 1),Gt 42 40 (Ld 41),Gt 43 40 (.bin .neq .num (t 42) (.c q)),Gf 44 37 (.pick (t 40) (t 43) Bf),m 45 (.pick (t 37) Bt (t 44)),Mv 46 45,Gf 47 46 (.mov (t 5)),Gf 48 46 (.un .not (t 47)),Gf 49 46 (.mov (t 48)),Gt 50 49 (Fl 10 1),Gt 51 49 (Ls 17 50),Gt 52 49 (Ls 17 7),Gt 53 49 (.eqAgg [(.i .i64),(.i .u8),(.i .u8),(.i .u8),(.i .u8),(.i .u8),(.i .u8),(.i .u8),(.i .u8),(.i .u8),(.i .u8),(.i .u8),(.i .u8),(.i .u8),(.i .u8),(.i .u8),(.i .u8)] true (t 51) (t 52)),Gt 54 49 (.mov (t 53)),Gf 55 54 (Fl 27 1),Gf 56 54 (Ls 17 55),Gf 57 54 (Ls 17 7),Gf 58 54 (.eqAgg [(.i .i64),(.i .u8),(.i .u8),(.i .u8),(.i .u8),(.i .u8),(.i .u8),(.i .u8),(.i .u8),(.i .u8),(.i .u8),(.i .u8),(.i .u8),(.i .u8),(.i .u8),(.i .u8),(.i .u8)] true (t 56) (t 57)),Gt 59 49 (.pick (t 54) Bt (t 58)),Gf 60 46 (.pick (t 49) (t 59) Bf),m 61 (.pick (t 46) Bt (t 60)),Mv 62 61,Gf 63 62 (.mov (t 6)),Gf 64 62 (.un .not (t 63)),Gf 65 62 (.mov (t 64)),Gt 66 65 (Fl 44 1),Gt 67 65 (Ls 17 66),Gt 68 65 (Ls 17 7),Gt 69 65 (.eqAgg [(.i .i64),(.i .u8),(.i .u8),(.i .u8),(.i .u8),(.i .u8),(.i .u8),(.i .u8),(.i .u8),(.i .u8),(.i .u8),(.i .u8),(.i .u8),(.i .u8),(.i .u8),(.i .u8),(.i .u8)] true (t 67) (t 68)),Gf 70 62 (.pick (t 65) (t 69) Bf),m 71 (.pick (t 62) Bt (t 70)),Mv 72 71,Gf 73 72 (Fl 0 1),Gf 74 72 (Ld 73),Gf 75 72 (.bin .neq .num (t 74) (Ci 4)),Gf 76 72 (.mov (t 75)),Gt 77 76 (Fl 61 1),Gt 78 76 (Ld 77),Gt 79 76 (.bin .neq .num (t 78) (.c (.str []))),Gf 80 72 (.pick (t 76) (t 79) Bf),m 81 (.pick (t 72) Bt (t 80))]<|
 .cond (t 81) (Rg [m 2 (.mov Bf)]<|
 .ret) (.skip))<|
 vb151_6
open D in
theorem vb151_eq:vb151 =
 (Rg [m 1 (.box 0 (t 0)),m 2 (.mov Bf)]<|
 .seq (Rg [m 11 (Fl 0 1),m 12 (Ld 11),m 13 (.bin .lss .num (t 12) (Ci 1)),Mv 14 13,Gf 15 14 (Fl 0 1),Gf 16 14 (Ld 15),Gf 17 14 (.bin .gtr .num (t 16) (Ci 7)),m 18 (.pick (t 14) Bt (t 17))]<|
 .cond (t 18) (Rg [m 2 (.mov Bf)]<|
 .ret) (.skip))<|
 Rg [m 20 (Fl 0 1),m 21 (Ld 20),m 22 (.call false 152 [(t 21)]),Mv 19 22,m 23 (.extract 0 (t 19)),m 24 (.extract 1 (t 19)),m 25 (.extract 2 (t 19)),m 26 (.extract 3 (t 19)),Mv 3 23,Mv 4 24,Mv 5 25,Mv 6 26]<|
 Rg [m 27 (.build [q,o,o,o,o,o,o,o,o,o,o,o,o,o,o,o,o] []),m 7 (.alloc 1 [q,o,o,o,o,o,o,o,o,o,o,o,o,o,o,o,o]),e (.store 17 (t 7) (t 27))]<|
 Rg [m 28 (.build [o,o,o,o,o,o,o,o] []),m 8 (.alloc 2 [o,o,o,o,o,o,o,o]),e (.store 8 (t 8) (t 28))]<|
 vb151_5):=rfl
open D in
theorem rg5 {m:Mr} {p:Pt} {σ:VHeap} {Q:QP} {E:Env} {H:VHeap} (h:okM m) (hH:H=σ++[(1,VObj.box (mrc m) false),(1,.box [PV.int .i64 0,D.o,D.o,D.o,D.o,D.o,D.o,D.o,D.o,D.o,D.o,D.o,D.o,D.o,D.o,D.o,D.o] false),(1,.box [D.o,D.o,D.o,D.o,D.o,D.o,D.o,D.o] false),(0,.dead)]) (e1:E 1=.ptr (σ.length+0) 1 0) (e3:E 3=.bool p.rd) (e4:E 4=.bool p.aa) (e5:E 5=.bool p.fl) (e6:E 6=.bool p.fr) (e7:E 7=.ptr (σ.length+1) 1 0) (e8:E 8=.ptr (σ.length+2) 1 0)
  (kk:∀ E:Env,E 1=.ptr (σ.length+0) 1 0∧E 3=.bool p.rd∧E 4=.bool p.aa∧E 5=.bool p.fl∧E 6=.bool p.fr∧E 7=.ptr (σ.length+1) 1 0∧E 8=.ptr (σ.length+2) 1 0→E 81=.bool (((((!p.rd&&!decide (m.rd=z8))||(!p.aa&&!decide (m.aa=0)))||(!p.fl&&(!decide (m.s=ad0)||!decide (m.g=ad0))))||(!p.fr&&!decide (m.f=ad0)))||(!decide (m.k=4)&&!decide (m.key=[])))→Q .normal E H):vrun Tryz.prog σ.length (.region [D.m 29 (.mov (D.t 3)),D.m 30 (.un .not (D.t 29)),D.m 31 (.mov (D.t 30)),D.g 32 31 true (.field 1 (D.t 1)),D.g 33 31 true (.load (some 8) (D.t 32)),D.g 34 31 true (.load (some 8) (D.t 8)),D.g 35 31 true (.eqAgg [(.i .u8),(.i .u8),(.i .u8),(.i .u8),(.i .u8),(.i .u8),(.i .u8),(.i .u8)] true (D.t 33) (D.t 34)),D.m 36 (.pick (D.t 31) (D.t 35) (.c (.bool false))),D.m 37 (.mov (D.t 36)),D.g 38 37 false (.mov (D.t 4)),D.g 39 37 false (.un .not (D.t 38)),D.g 40 37 false (.mov (D.t 39)),D.g 41 40 true (.field 9 (D.t 1)),D.g 42 40 true (.load none (D.t 41)),D.g 43 40 true (.bin .neq .num (D.t 42) (.c (D.i 0))),D.g 44 37 false (.pick (D.t 40) (D.t 43) (.c (.bool false))),D.m 45 (.pick (D.t 37) (.c (.bool true)) (D.t 44)),D.m 46 (.mov (D.t 45)),D.g 47 46 false (.mov (D.t 5)),D.g 48 46 false (.un .not (D.t 47)),D.g 49 46 false (.mov (D.t 48)),D.g 50 49 true (.field 10 (D.t 1)),D.g 51 49 true (.load (some 17) (D.t 50)),D.g 52 49 true (.load (some 17) (D.t 7)),D.g 53 49 true (.eqAgg [(.i .i64),(.i .u8),(.i .u8),(.i .u8),(.i .u8),(.i .u8),(.i .u8),(.i .u8),(.i .u8),(.i .u8),(.i .u8),(.i .u8),(.i .u8),(.i .u8),(.i .u8),(.i .u8),(.i .u8)] true (D.t 51) (D.t 52)),D.g 54 49 true (.mov (D.t 53)),D.g 55 54 false (.field 27 (D.t 1)),D.g 56 54 false (.load (some 17) (D.t 55)),D.g 57 54 false (.load (some 17) (D.t 7)),D.g 58 54 false (.eqAgg [(.i .i64),(.i .u8),(.i .u8),(.i .u8),(.i .u8),(.i .u8),(.i .u8),(.i .u8),(.i .u8),(.i .u8),(.i .u8),(.i .u8),(.i .u8),(.i .u8),(.i .u8),(.i .u8),(.i .u8)] true (D.t 56) (D.t 57)),D.g 59 49 true (.pick (D.t 54) (.c (.bool true)) (D.t 58)),D.g 60 46 false (.pick (D.t 49) (D.t 59) (.c (.bool false))),D.m 61 (.pick (D.t 46) (.c (.bool true)) (D.t 60)),D.m 62 (.mov (D.t 61)),D.g 63 62 false (.mov (D.t 6)),D.g 64 62 false (.un .not (D.t 63)),D.g 65 62 false (.mov (D.t 64)),D.g 66 65 true (.field 44 (D.t 1)),D.g 67 65 true (.load (some 17) (D.t 66)),D.g 68 65 true (.load (some 17) (D.t 7)),D.g 69 65 true (.eqAgg [(.i .i64),(.i .u8),(.i .u8),(.i .u8),(.i .u8),(.i .u8),(.i .u8),(.i .u8),(.i .u8),(.i .u8),(.i .u8),(.i .u8),(.i .u8),(.i .u8),(.i .u8),(.i .u8),(.i .u8)] true (D.t 67) (D.t 68)),D.g 70 62 false (.pick (D.t 65) (D.t 69) (.c (.bool false))),D.m 71 (.pick (D.t 62) (.c (.bool true)) (D.t 70)),D.m 72 (.mov (D.t 71)),D.g 73 72 false (.field 0 (D.t 1)),D.g 74 72 false (.load none (D.t 73)),D.g 75 72 false (.bin .neq .num (D.t 74) (.c (D.i 4))),D.g 76 72 false (.mov (D.t 75)),D.g 77 76 true (.field 61 (D.t 1)),D.g 78 76 true (.load none (D.t 77)),D.g 79 76 true (.bin .neq .num (D.t 78) (.c (.str []))),D.g 80 72 false (.pick (D.t 76) (D.t 79) (.c (.bool false))),D.m 81 (.pick (D.t 72) (.c (.bool true)) (D.t 80))]) E H Q:=by
 subst hH
 have sc:=mrc_sc (m:=m)
 have ml:=mrc_len h
 have g0:cut (mrc m) 0 none=some (.int .i64 m.k):=rfl
 have g1:=mc_rd h
 have g2:=mc_as h
 have g3:=mc_s h
 have g4:=mc_g h
 have g5:=mc_f h
 have g6:=mc_key h
 have lr:(u8c m.rd).length=8:=by rw[u8c_len,h.rd]
 have ls:=adc_len h.s
 have lg:=adc_len h.g
 have lf:=adc_len h.f
 have q1:eqCells [.i .u8,.i .u8,.i .u8,.i .u8,.i .u8,.i .u8,.i .u8,.i .u8] (u8c m.rd) [D.o,D.o,D.o,D.o,D.o,D.o,D.o,D.o]=some (decide (m.rd=z8)):=by
  have q:=eqC_u8 m.rd z8 (by rw[h.rd];rfl)
  rw[h.rd] at q
  exact q.trans (by rw[Bool.beq_eq_decide_eq])
 have z0:adc ad0=[PV.int .i64 0,D.o,D.o,D.o,D.o,D.o,D.o,D.o,D.o,D.o,D.o,D.o,D.o,D.o,D.o,D.o,D.o]:=rfl
 have q3:eqCells [.i .i64,.i .u8,.i .u8,.i .u8,.i .u8,.i .u8,.i .u8,.i .u8,.i .u8,.i .u8,.i .u8,.i .u8,.i .u8,.i .u8,.i .u8,.i .u8,.i .u8] (adc m.s) [PV.int .i64 0,D.o,D.o,D.o,D.o,D.o,D.o,D.o,D.o,D.o,D.o,D.o,D.o,D.o,D.o,D.o,D.o]=some (decide (m.s=ad0)):=by
  have q:=eqC_ad h.s ad0_ok;rw[z0] at q;exact q.trans (by rw[Bool.beq_eq_decide_eq])
 have q4:eqCells [.i .i64,.i .u8,.i .u8,.i .u8,.i .u8,.i .u8,.i .u8,.i .u8,.i .u8,.i .u8,.i .u8,.i .u8,.i .u8,.i .u8,.i .u8,.i .u8,.i .u8] (adc m.g) [PV.int .i64 0,D.o,D.o,D.o,D.o,D.o,D.o,D.o,D.o,D.o,D.o,D.o,D.o,D.o,D.o,D.o,D.o]=some (decide (m.g=ad0)):=by
  have q:=eqC_ad h.g ad0_ok;rw[z0] at q;exact q.trans (by rw[Bool.beq_eq_decide_eq])
 have q5:eqCells [.i .i64,.i .u8,.i .u8,.i .u8,.i .u8,.i .u8,.i .u8,.i .u8,.i .u8,.i .u8,.i .u8,.i .u8,.i .u8,.i .u8,.i .u8,.i .u8,.i .u8] (adc m.f) [PV.int .i64 0,D.o,D.o,D.o,D.o,D.o,D.o,D.o,D.o,D.o,D.o,D.o,D.o,D.o,D.o,D.o,D.o]=some (decide (m.f=ad0)):=by
  have q:=eqC_ad h.f ad0_ok;rw[z0] at q;exact q.trans (by rw[Bool.beq_eq_decide_eq])
 refine sc_region ?_
 refine cutO (a:=[D.m 29 (.mov (D.t 3)),D.m 30 (.un .not (D.t 29)),D.m 31 (.mov (D.t 30)),D.g 32 31 true (.field 1 (D.t 1)),D.g 33 31 true (.load (some 8) (D.t 32)),D.g 34 31 true (.load (some 8) (D.t 8)),D.g 35 31 true (.eqAgg [(.i .u8),(.i .u8),(.i .u8),(.i .u8),(.i .u8),(.i .u8),(.i .u8),(.i .u8)] true (D.t 33) (D.t 34)),D.m 36 (.pick (D.t 31) (D.t 35) (.c (.bool false))),D.m 37 (.mov (D.t 36))]) (b:=[D.g 38 37 false (.mov (D.t 4)),D.g 39 37 false (.un .not (D.t 38)),D.g 40 37 false (.mov (D.t 39)),D.g 41 40 true (.field 9 (D.t 1)),D.g 42 40 true (.load none (D.t 41)),D.g 43 40 true (.bin .neq .num (D.t 42) (.c (D.i 0))),D.g 44 37 false (.pick (D.t 40) (D.t 43) (.c (.bool false))),D.m 45 (.pick (D.t 37) (.c (.bool true)) (D.t 44)),D.m 46 (.mov (D.t 45)),D.g 47 46 false (.mov (D.t 5)),D.g 48 46 false (.un .not (D.t 47)),D.g 49 46 false (.mov (D.t 48)),D.g 50 49 true (.field 10 (D.t 1)),D.g 51 49 true (.load (some 17) (D.t 50)),D.g 52 49 true (.load (some 17) (D.t 7)),D.g 53 49 true (.eqAgg [(.i .i64),(.i .u8),(.i .u8),(.i .u8),(.i .u8),(.i .u8),(.i .u8),(.i .u8),(.i .u8),(.i .u8),(.i .u8),(.i .u8),(.i .u8),(.i .u8),(.i .u8),(.i .u8),(.i .u8)] true (D.t 51) (D.t 52)),D.g 54 49 true (.mov (D.t 53)),D.g 55 54 false (.field 27 (D.t 1)),D.g 56 54 false (.load (some 17) (D.t 55)),D.g 57 54 false (.load (some 17) (D.t 7)),D.g 58 54 false (.eqAgg [(.i .i64),(.i .u8),(.i .u8),(.i .u8),(.i .u8),(.i .u8),(.i .u8),(.i .u8),(.i .u8),(.i .u8),(.i .u8),(.i .u8),(.i .u8),(.i .u8),(.i .u8),(.i .u8),(.i .u8)] true (D.t 56) (D.t 57)),D.g 59 49 true (.pick (D.t 54) (.c (.bool true)) (D.t 58)),D.g 60 46 false (.pick (D.t 49) (D.t 59) (.c (.bool false))),D.m 61 (.pick (D.t 46) (.c (.bool true)) (D.t 60)),D.m 62 (.mov (D.t 61)),D.g 63 62 false (.mov (D.t 6)),D.g 64 62 false (.un .not (D.t 63)),D.g 65 62 false (.mov (D.t 64)),D.g 66 65 true (.field 44 (D.t 1)),D.g 67 65 true (.load (some 17) (D.t 66)),D.g 68 65 true (.load (some 17) (D.t 7)),D.g 69 65 true (.eqAgg [(.i .i64),(.i .u8),(.i .u8),(.i .u8),(.i .u8),(.i .u8),(.i .u8),(.i .u8),(.i .u8),(.i .u8),(.i .u8),(.i .u8),(.i .u8),(.i .u8),(.i .u8),(.i .u8),(.i .u8)] true (D.t 67) (D.t 68)),D.g 70 62 false (.pick (D.t 65) (D.t 69) (.c (.bool false))),D.m 71 (.pick (D.t 62) (.c (.bool true)) (D.t 70)),D.m 72 (.mov (D.t 71)),D.g 73 72 false (.field 0 (D.t 1)),D.g 74 72 false (.load none (D.t 73)),D.g 75 72 false (.bin .neq .num (D.t 74) (.c (D.i 4))),D.g 76 72 false (.mov (D.t 75)),D.g 77 76 true (.field 61 (D.t 1)),D.g 78 76 true (.load none (D.t 77)),D.g 79 76 true (.bin .neq .num (D.t 78) (.c (.str []))),D.g 80 72 false (.pick (D.t 76) (D.t 79) (.c (.bool false))),D.m 81 (.pick (D.t 72) (.c (.bool true)) (D.t 80))]) (fun E h=>(E 1=.ptr (σ.length+0) 1 0∧E 3=.bool p.rd∧E 4=.bool p.aa∧E 5=.bool p.fl∧E 6=.bool p.fr∧E 7=.ptr (σ.length+1) 1 0∧E 8=.ptr (σ.length+2) 1 0)∧E 37=.bool (!p.rd&&!decide (m.rd=z8))∧h=σ++[(1,VObj.box (mrc m) false),(1,.box [PV.int .i64 0,D.o,D.o,D.o,D.o,D.o,D.o,D.o,D.o,D.o,D.o,D.o,D.o,D.o,D.o,D.o,D.o] false),(1,.box [D.o,D.o,D.o,D.o,D.o,D.o,D.o,D.o] false),(0,.dead)]) rfl ?_ ?_
 ·cases hp:p.rd with
  | true=>
    rw[hp] at e3
    refine W ?_
    exact⟨⟨e1,hp▸e3,e4,e5,e6,e7,e8⟩,by show PV.bool _=PV.bool _;simp,rfl⟩
  | false=>
  rw[hp] at e3
  by_cases ht:m.rd=z8
  ·rw[decide_eq_true ht] at q1
   refine W ?_
   exact⟨⟨e1,hp▸e3,e4,e5,e6,e7,e8⟩,by show PV.bool _=PV.bool _;simp[ht],rfl⟩
  ·rw[decide_eq_false ht] at q1
   refine W ?_
   exact⟨⟨e1,hp▸e3,e4,e5,e6,e7,e8⟩,by show PV.bool _=PV.bool _;simp[ht],rfl⟩
 clear e1 e3 e4 e5 e6 e7 e8
 rintro E _ ⟨⟨e1,e3,e4,e5,e6,e7,e8⟩,f1,rfl⟩
 generalize hC1:(!p.rd&&!decide (m.rd=z8))=c1 at *
 refine cutO (a:=[D.g 38 37 false (.mov (D.t 4)),D.g 39 37 false (.un .not (D.t 38)),D.g 40 37 false (.mov (D.t 39)),D.g 41 40 true (.field 9 (D.t 1)),D.g 42 40 true (.load none (D.t 41)),D.g 43 40 true (.bin .neq .num (D.t 42) (.c (D.i 0))),D.g 44 37 false (.pick (D.t 40) (D.t 43) (.c (.bool false))),D.m 45 (.pick (D.t 37) (.c (.bool true)) (D.t 44)),D.m 46 (.mov (D.t 45))]) (b:=[D.g 47 46 false (.mov (D.t 5)),D.g 48 46 false (.un .not (D.t 47)),D.g 49 46 false (.mov (D.t 48)),D.g 50 49 true (.field 10 (D.t 1)),D.g 51 49 true (.load (some 17) (D.t 50)),D.g 52 49 true (.load (some 17) (D.t 7)),D.g 53 49 true (.eqAgg [(.i .i64),(.i .u8),(.i .u8),(.i .u8),(.i .u8),(.i .u8),(.i .u8),(.i .u8),(.i .u8),(.i .u8),(.i .u8),(.i .u8),(.i .u8),(.i .u8),(.i .u8),(.i .u8),(.i .u8)] true (D.t 51) (D.t 52)),D.g 54 49 true (.mov (D.t 53)),D.g 55 54 false (.field 27 (D.t 1)),D.g 56 54 false (.load (some 17) (D.t 55)),D.g 57 54 false (.load (some 17) (D.t 7)),D.g 58 54 false (.eqAgg [(.i .i64),(.i .u8),(.i .u8),(.i .u8),(.i .u8),(.i .u8),(.i .u8),(.i .u8),(.i .u8),(.i .u8),(.i .u8),(.i .u8),(.i .u8),(.i .u8),(.i .u8),(.i .u8),(.i .u8)] true (D.t 56) (D.t 57)),D.g 59 49 true (.pick (D.t 54) (.c (.bool true)) (D.t 58)),D.g 60 46 false (.pick (D.t 49) (D.t 59) (.c (.bool false))),D.m 61 (.pick (D.t 46) (.c (.bool true)) (D.t 60)),D.m 62 (.mov (D.t 61)),D.g 63 62 false (.mov (D.t 6)),D.g 64 62 false (.un .not (D.t 63)),D.g 65 62 false (.mov (D.t 64)),D.g 66 65 true (.field 44 (D.t 1)),D.g 67 65 true (.load (some 17) (D.t 66)),D.g 68 65 true (.load (some 17) (D.t 7)),D.g 69 65 true (.eqAgg [(.i .i64),(.i .u8),(.i .u8),(.i .u8),(.i .u8),(.i .u8),(.i .u8),(.i .u8),(.i .u8),(.i .u8),(.i .u8),(.i .u8),(.i .u8),(.i .u8),(.i .u8),(.i .u8),(.i .u8)] true (D.t 67) (D.t 68)),D.g 70 62 false (.pick (D.t 65) (D.t 69) (.c (.bool false))),D.m 71 (.pick (D.t 62) (.c (.bool true)) (D.t 70)),D.m 72 (.mov (D.t 71)),D.g 73 72 false (.field 0 (D.t 1)),D.g 74 72 false (.load none (D.t 73)),D.g 75 72 false (.bin .neq .num (D.t 74) (.c (D.i 4))),D.g 76 72 false (.mov (D.t 75)),D.g 77 76 true (.field 61 (D.t 1)),D.g 78 76 true (.load none (D.t 77)),D.g 79 76 true (.bin .neq .num (D.t 78) (.c (.str []))),D.g 80 72 false (.pick (D.t 76) (D.t 79) (.c (.bool false))),D.m 81 (.pick (D.t 72) (.c (.bool true)) (D.t 80))]) (fun E h=>(E 1=.ptr (σ.length+0) 1 0∧E 3=.bool p.rd∧E 4=.bool p.aa∧E 5=.bool p.fl∧E 6=.bool p.fr∧E 7=.ptr (σ.length+1) 1 0∧E 8=.ptr (σ.length+2) 1 0)∧E 46=.bool (c1||(!p.aa&&!decide (m.aa=0)))∧h=σ++[(1,VObj.box (mrc m) false),(1,.box [PV.int .i64 0,D.o,D.o,D.o,D.o,D.o,D.o,D.o,D.o,D.o,D.o,D.o,D.o,D.o,D.o,D.o,D.o] false),(1,.box [D.o,D.o,D.o,D.o,D.o,D.o,D.o,D.o] false),(0,.dead)]) rfl ?_ ?_
 ·cases hc1:c1 with
  | true=>
    rw[hc1] at f1
    refine W ?_
    exact⟨⟨e1,e3,e4,e5,e6,e7,e8⟩,by show PV.bool _=PV.bool _;simp,rfl⟩
  | false=>
  rw[hc1] at f1
  cases hp:p.aa with
  | true=>
    rw[hp] at e4
    refine W ?_
    exact⟨⟨e1,e3,hp▸e4,e5,e6,e7,e8⟩,by show PV.bool _=PV.bool _;simp,rfl⟩
  | false=>
  rw[hp] at e4
  by_cases ht:m.aa=0
  ·refine W ?_
   exact⟨⟨e1,e3,hp▸e4,e5,e6,e7,e8⟩,by show PV.bool _=PV.bool _;simp[ht],rfl⟩
  ·refine W ?_
   exact⟨⟨e1,e3,hp▸e4,e5,e6,e7,e8⟩,by show PV.bool _=PV.bool _;simp[ht],rfl⟩
 clear e1 e3 e4 e5 e6 e7 e8 f1
 rintro E _ ⟨⟨e1,e3,e4,e5,e6,e7,e8⟩,f2,rfl⟩
 generalize hC2:(c1||(!p.aa&&!decide (m.aa=0)))=c2 at *
 refine cutO (a:=[D.g 47 46 false (.mov (D.t 5)),D.g 48 46 false (.un .not (D.t 47)),D.g 49 46 false (.mov (D.t 48)),D.g 50 49 true (.field 10 (D.t 1)),D.g 51 49 true (.load (some 17) (D.t 50)),D.g 52 49 true (.load (some 17) (D.t 7)),D.g 53 49 true (.eqAgg [(.i .i64),(.i .u8),(.i .u8),(.i .u8),(.i .u8),(.i .u8),(.i .u8),(.i .u8),(.i .u8),(.i .u8),(.i .u8),(.i .u8),(.i .u8),(.i .u8),(.i .u8),(.i .u8),(.i .u8)] true (D.t 51) (D.t 52)),D.g 54 49 true (.mov (D.t 53)),D.g 55 54 false (.field 27 (D.t 1)),D.g 56 54 false (.load (some 17) (D.t 55)),D.g 57 54 false (.load (some 17) (D.t 7)),D.g 58 54 false (.eqAgg [(.i .i64),(.i .u8),(.i .u8),(.i .u8),(.i .u8),(.i .u8),(.i .u8),(.i .u8),(.i .u8),(.i .u8),(.i .u8),(.i .u8),(.i .u8),(.i .u8),(.i .u8),(.i .u8),(.i .u8)] true (D.t 56) (D.t 57)),D.g 59 49 true (.pick (D.t 54) (.c (.bool true)) (D.t 58)),D.g 60 46 false (.pick (D.t 49) (D.t 59) (.c (.bool false))),D.m 61 (.pick (D.t 46) (.c (.bool true)) (D.t 60)),D.m 62 (.mov (D.t 61))]) (b:=[D.g 63 62 false (.mov (D.t 6)),D.g 64 62 false (.un .not (D.t 63)),D.g 65 62 false (.mov (D.t 64)),D.g 66 65 true (.field 44 (D.t 1)),D.g 67 65 true (.load (some 17) (D.t 66)),D.g 68 65 true (.load (some 17) (D.t 7)),D.g 69 65 true (.eqAgg [(.i .i64),(.i .u8),(.i .u8),(.i .u8),(.i .u8),(.i .u8),(.i .u8),(.i .u8),(.i .u8),(.i .u8),(.i .u8),(.i .u8),(.i .u8),(.i .u8),(.i .u8),(.i .u8),(.i .u8)] true (D.t 67) (D.t 68)),D.g 70 62 false (.pick (D.t 65) (D.t 69) (.c (.bool false))),D.m 71 (.pick (D.t 62) (.c (.bool true)) (D.t 70)),D.m 72 (.mov (D.t 71)),D.g 73 72 false (.field 0 (D.t 1)),D.g 74 72 false (.load none (D.t 73)),D.g 75 72 false (.bin .neq .num (D.t 74) (.c (D.i 4))),D.g 76 72 false (.mov (D.t 75)),D.g 77 76 true (.field 61 (D.t 1)),D.g 78 76 true (.load none (D.t 77)),D.g 79 76 true (.bin .neq .num (D.t 78) (.c (.str []))),D.g 80 72 false (.pick (D.t 76) (D.t 79) (.c (.bool false))),D.m 81 (.pick (D.t 72) (.c (.bool true)) (D.t 80))]) (fun E h=>(E 1=.ptr (σ.length+0) 1 0∧E 3=.bool p.rd∧E 4=.bool p.aa∧E 5=.bool p.fl∧E 6=.bool p.fr∧E 7=.ptr (σ.length+1) 1 0∧E 8=.ptr (σ.length+2) 1 0)∧E 62=.bool (c2||(!p.fl&&(!decide (m.s=ad0)||!decide (m.g=ad0))))∧h=σ++[(1,VObj.box (mrc m) false),(1,.box [PV.int .i64 0,D.o,D.o,D.o,D.o,D.o,D.o,D.o,D.o,D.o,D.o,D.o,D.o,D.o,D.o,D.o,D.o] false),(1,.box [D.o,D.o,D.o,D.o,D.o,D.o,D.o,D.o] false),(0,.dead)]) rfl ?_ ?_
 ·cases hc2:c2 with
  | true=>
    rw[hc2] at f2
    refine W ?_
    exact⟨⟨e1,e3,e4,e5,e6,e7,e8⟩,by show PV.bool _=PV.bool _;simp,rfl⟩
  | false=>
  rw[hc2] at f2
  cases hp:p.fl with
  | true=>
    rw[hp] at e5
    refine W ?_
    exact⟨⟨e1,e3,e4,hp▸e5,e6,e7,e8⟩,by show PV.bool _=PV.bool _;simp,rfl⟩
  | false=>
  rw[hp] at e5
  by_cases ht:m.s=ad0
  ·rw[decide_eq_true ht] at q3
   by_cases hu:m.g=ad0
   ·rw[decide_eq_true hu] at q4
    refine W ?_
    exact⟨⟨e1,e3,e4,hp▸e5,e6,e7,e8⟩,by show PV.bool _=PV.bool _;simp[ht,hu],rfl⟩
   ·rw[decide_eq_false hu] at q4
    refine W ?_
    exact⟨⟨e1,e3,e4,hp▸e5,e6,e7,e8⟩,by show PV.bool _=PV.bool _;simp[ht,hu],rfl⟩
  ·rw[decide_eq_false ht] at q3
   refine W ?_
   exact⟨⟨e1,e3,e4,hp▸e5,e6,e7,e8⟩,by show PV.bool _=PV.bool _;simp[ht],rfl⟩
 clear e1 e3 e4 e5 e6 e7 e8 f2
 rintro E _ ⟨⟨e1,e3,e4,e5,e6,e7,e8⟩,f3,rfl⟩
 generalize hC3:(c2||(!p.fl&&(!decide (m.s=ad0)||!decide (m.g=ad0))))=c3 at *
 refine cutO (a:=[D.g 63 62 false (.mov (D.t 6)),D.g 64 62 false (.un .not (D.t 63)),D.g 65 62 false (.mov (D.t 64)),D.g 66 65 true (.field 44 (D.t 1)),D.g 67 65 true (.load (some 17) (D.t 66)),D.g 68 65 true (.load (some 17) (D.t 7)),D.g 69 65 true (.eqAgg [(.i .i64),(.i .u8),(.i .u8),(.i .u8),(.i .u8),(.i .u8),(.i .u8),(.i .u8),(.i .u8),(.i .u8),(.i .u8),(.i .u8),(.i .u8),(.i .u8),(.i .u8),(.i .u8),(.i .u8)] true (D.t 67) (D.t 68)),D.g 70 62 false (.pick (D.t 65) (D.t 69) (.c (.bool false))),D.m 71 (.pick (D.t 62) (.c (.bool true)) (D.t 70)),D.m 72 (.mov (D.t 71))]) (b:=[D.g 73 72 false (.field 0 (D.t 1)),D.g 74 72 false (.load none (D.t 73)),D.g 75 72 false (.bin .neq .num (D.t 74) (.c (D.i 4))),D.g 76 72 false (.mov (D.t 75)),D.g 77 76 true (.field 61 (D.t 1)),D.g 78 76 true (.load none (D.t 77)),D.g 79 76 true (.bin .neq .num (D.t 78) (.c (.str []))),D.g 80 72 false (.pick (D.t 76) (D.t 79) (.c (.bool false))),D.m 81 (.pick (D.t 72) (.c (.bool true)) (D.t 80))]) (fun E h=>(E 1=.ptr (σ.length+0) 1 0∧E 3=.bool p.rd∧E 4=.bool p.aa∧E 5=.bool p.fl∧E 6=.bool p.fr∧E 7=.ptr (σ.length+1) 1 0∧E 8=.ptr (σ.length+2) 1 0)∧E 72=.bool (c3||(!p.fr&&!decide (m.f=ad0)))∧h=σ++[(1,VObj.box (mrc m) false),(1,.box [PV.int .i64 0,D.o,D.o,D.o,D.o,D.o,D.o,D.o,D.o,D.o,D.o,D.o,D.o,D.o,D.o,D.o,D.o] false),(1,.box [D.o,D.o,D.o,D.o,D.o,D.o,D.o,D.o] false),(0,.dead)]) rfl ?_ ?_
 ·cases hc3:c3 with
  | true=>
    rw[hc3] at f3
    refine W ?_
    exact⟨⟨e1,e3,e4,e5,e6,e7,e8⟩,by show PV.bool _=PV.bool _;simp,rfl⟩
  | false=>
  rw[hc3] at f3
  cases hp:p.fr with
  | true=>
    rw[hp] at e6
    refine W ?_
    exact⟨⟨e1,e3,e4,e5,hp▸e6,e7,e8⟩,by show PV.bool _=PV.bool _;simp,rfl⟩
  | false=>
  rw[hp] at e6
  by_cases ht:m.f=ad0
  ·rw[decide_eq_true ht] at q5
   refine W ?_
   exact⟨⟨e1,e3,e4,e5,hp▸e6,e7,e8⟩,by show PV.bool _=PV.bool _;simp[ht],rfl⟩
  ·rw[decide_eq_false ht] at q5
   refine W ?_
   exact⟨⟨e1,e3,e4,e5,hp▸e6,e7,e8⟩,by show PV.bool _=PV.bool _;simp[ht],rfl⟩
 clear e1 e3 e4 e5 e6 e7 e8 f3
 rintro E _ ⟨⟨e1,e3,e4,e5,e6,e7,e8⟩,f4,rfl⟩
 generalize hC4:(c3||(!p.fr&&!decide (m.f=ad0)))=c4 at *
 cases hc4:c4 with
 | true=>
   rw[hc4] at f4
   refine W ?_
   exact kk _ ⟨e1,e3,e4,e5,e6,e7,e8⟩ (by show PV.bool _=PV.bool _;simp[hc4])
 | false=>
 rw[hc4] at f4
 by_cases h4:m.k=4
 ·refine W ?_
  exact kk _ ⟨e1,e3,e4,e5,e6,e7,e8⟩ (by show PV.bool _=PV.bool _;simp[hc4,h4])
 ·by_cases hy:m.key=[]
  ·have sb:sbin .neq m.key []=some (.bool false):=by rw[sb_neq];simp[hy]
   refine W ?_
   exact kk _ ⟨e1,e3,e4,e5,e6,e7,e8⟩ (by show PV.bool _=PV.bool _;simp[hc4,h4,hy])
  ·have sb:sbin .neq m.key []=some (.bool true):=by rw[sb_neq];simp[hy]
   refine W ?_
   exact kk _ ⟨e1,e3,e4,e5,e6,e7,e8⟩ (by show PV.bool _=PV.bool _;simp[hc4,h4,hy])
end Go.Proofs.YtdpeaefgbmkegaaGreatDoor
