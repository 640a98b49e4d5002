/- mroute.Bytes. -/
import Derived.Test.YtdpeaefgbmkegaaGreatDoorHD
set_option maxHeartbeats 4000000
namespace Go.Proofs.YtdpeaefgbmkegaaGreatDoor
open Go Go.V
set_option maxRecDepth 10000
open D in
def vb118_4:VC:=
 .seq (Rg [m 19 (Fl 0 4),m 20 (Ld 19)]<|
 .cond (t 20) (.region [Mv 21 6,m 22 (Fl 1 1),m 23 (.sliceArr 8 1 (t 22) none none),m 24 (.append 4 1 1 (t 21) (t 23)),Mv 6 24]) (.skip))<|
 .seq (Rg [m 25 (Fl 1 4),m 26 (Ld 25)]<|
 .cond (t 26) (.region [Mv 28 6,m 29 (Fl 9 1),m 30 (Ld 29),m 31 (.call false 147 [(t 28),(t 30),(Ci 4)]),Mv 27 31,m 32 (.extract 0 (t 27)),m 33 (.extract 1 (t 27)),Mv 6 32]) (.skip))<|
 .seq (Rg [m 34 (Fl 2 4),m 35 (Ld 34)]<|
 .cond (t 35) (.dreg [(Mv 36 6,[]),(m 37 (Fl 10 1),[]),(m 38 (Ls 17 37),[1]),(m 39 (.call false 170 [(t 38)]),[2]),(m 40 (.append 5 1 1 (t 36) (t 39)),[0,3,3]),(m 41 (Fl 27 1),[]),(m 42 (Ls 17 41),[5]),(m 43 (.call false 170 [(t 42)]),[6,4]),(m 44 (.append 6 1 1 (t 40) (t 43)),[4,7,7]),(Mv 6 44,[8,8,0,1,2,3,4,5,6,7,8])] [(2,0),(1,1),(1,2),(1,3),(2,5),(2,6),(0,4),(1,7),(0,8),(2,9)] [0,0,2,6,15,0,32,127,255,511]) (.skip))<|
 .seq (Rg [m 45 (Fl 3 4),m 46 (Ld 45)]<|
 .cond (t 46) (.region [Mv 47 6,m 48 (Fl 44 1),m 49 (Ls 17 48),m 50 (.call false 53 [(t 49)]),m 51 (.append 7 1 1 (t 47) (t 50)),Mv 6 51]) (.skip))<|
 Rg [m 52 (Fl 0 1),m 53 (Ld 52),m 54 (.convInt .u8 (t 53)),Mv 55 6,m 56 (.len (t 55)),m 57 (.convInt .u8 (t 56)),m 58 (.buildSlice 8 1 2 [o] [(0,(t 54)),(1,(t 57))]),Mv 59 6,m 60 (.append 9 1 1 (t 58) (t 59)),Mv 2 60,m 3 (.mov (.c q))]<|
 .ret
open D in
theorem vb118_eq:vb118 =
 (Rg [m 1 (.box 0 (t 0)),m 2 (.newRow 1 1),m 3 (.mov (.c q))]<|
 .seq (Rg [m 7 (Ls 62 1),m 8 (.call false 168 [(t 7)]),m 9 (.un .not (t 8))]<|
 .cond (t 9) (Rg [m 2 (.newRow 1 1),m 3 (.mov (Ci 1))]<|
 .ret) (.skip))<|
 Rg [m 11 (Fl 0 1),m 12 (Ld 11),m 13 (.call false 169 [(t 12)]),Mv 10 13,m 14 (.extract 0 (t 10)),m 15 (.extract 1 (t 10)),m 4 (.alloc 2 [(.bool false),(.bool false),(.bool false),(.bool false)]),e (.store 4 (t 4) (t 14)),Mv 5 15]<|
 Rg [m 16 (Fl 61 1),m 17 (Ld 16),m 18 (.s2b 3 (t 17)),Mv 6 18]<|
 vb118_4):=rfl
theorem prs_n {t:MT} {n:Nat} (h:(prs t n).2=0):t.e=0∧t.n=n∧(prs t n).1=t.m:=by
 unfold prs at *
 split at h
 ·rename_i he;exact absurd h he
 ·rename_i he
  split at h
  ·cases h
  ·rename_i hn
   rw[if_neg he,if_neg hn]
   exact⟨Decidable.not_not.1 he,Decidable.not_not.1 hn,rfl⟩
theorem takeG_n {rt sz:Mr→Bool} {l:List UInt8} {s:Int} (h:(takeG rt sz l s).e=0):(takeG rt sz l s).n≤257:=by
 unfold takeG at *
 split at h
 ·cases h
 ·rename_i hs
  rw[if_neg hs]
  split at h
  ·rename_i x y r
   try dsimp only
   have:=y.toNat_lt
   split at h
   ·cases h
   ·rename_i hl
    rw[if_neg hl]
    split at h
    ·cases h
    ·rename_i t ht
     split at h
     ·rename_i hc
      rw[if_pos hc];dsimp only;omega
     ·cases h
  ·cases h
theorem goodA_z {t:Mr × Int} (h:goodA t=true):t.2=0∧(t.1.k=2∨t.1.k=3):=by
 unfold goodA at h;simpa using h
theorem ansF_len {key:List UInt8} (h:(ansF key).2=true):key.length≤257:=by
 unfold ansF at h
 split at h
 ·cases h
 ·have go:∀ s,goodA (parseN key s)=true→key.length≤257:=fun s hs=>by
   obtain⟨h1,h2,_⟩:=prs_n (goodA_z hs).1
   rw[← h2];exact takeG_n h1
  unfold ansG at h
  split at h
  ·rename_i h4;exact go 4 h4
  ·split at h
   ·rename_i h16;exact go 16 h16
   ·cases h
structure RightM (m:Mr):Prop where
 k:(ofF m.k).2=true
 bare:bareF m (ofF m.k).1=m
 a0:0≤m.aa
 a1:m.aa≤4294967295
 fr:(ofF m.k).1.fr=true→someA m.f=true
 fl:(ofF m.k).1.fl=true→flowsF m.s m.g (decide (m.k=3))=true
 key:m.k=4→(ansF m.key).2=true
theorem rightM {m:Mr} (h:rightF m=true):RightM m:=by
 unfold rightF rightG at h
 simp only[Bool.and_eq_true,Bool.or_eq_true,Bool.not_eq_true',decide_eq_true_eq,beq_iff_eq] at h
 obtain⟨h1,h2,h3,h4,h5,h6,h7⟩:=h
 refine⟨h1,h2,h3,h4,fun e=>?_,fun e=>?_,fun e=>?_⟩
 ·rcases h5 with h5|h5
  ·rw[e] at h5;cases h5
  ·exact h5
 ·rcases h6 with h6|h6
  ·rw[e] at h6;cases h6
  ·exact h6
 ·rcases h7 with h7|h7
  ·exact absurd e h7
  ·exact h7
theorem rightM_len {m:Mr} (h:RightM m):m.key.length≤257:=by
 by_cases h4:m.k=4
 ·exact ansF_len (h.key h4)
 ·have:=congrArg Mr.key h.bare
  unfold bareF at this
  dsimp only at this
  rw[if_neg h4] at this
  rw[← this];simp
theorem flows_ok {s g:Ad} {w:Bool} (h:flowsF s g w=true):okAd s=true∧okAd g=true:=by
 unfold flowsF at h
 simp only[Bool.and_eq_true] at h
 exact⟨h.1.1.1.1,h.1.1.1.2⟩
theorem vc_rd {m:Mr} (h:okM m):VCut (mrc m) 1 8 (bsl m.rd):=⟨by
 have:(mrc m).drop 1=u8c m.rd++([.int .i64 m.aa]++(adc m.s++(adc m.g++(adc m.f++[.str m.key])))):=rfl
 rw[this,List.take_left' (by rw[u8c_len,h.rd])];simp[u8c,bsl,Function.comp_def]⟩
attribute [local irreducible] vBuild vCallV
theorem uMBytes0 {m:Mr} (h:okM m) (hkl:m.key.length≤140737488355328) (hr:rightF m=false):U Tryz.prog 118 [.agg (mrc m)] (.tup [.sl [],.int .i64 1]):=by
 intro σ Post hk
 have sc:=mrc_sc (m:=m)
 have ln:=mrc_len h
 have c0:=mrc_all h
 refine T118 fun hB hA=>?_
 refine W ?_
 refine cu (uRightM h hkl) ?_
 rw[hr]
 refine W ?_
 exact hk
section
variable {m:Mr} {σ:VHeap} {Post:KP} {env:Env}
theorem mb_head (k:Int) (q:List UInt8) (h0:0≤k) (h1:k≤7):[[PV.int .u8 k],[byt (UInt8.ofNat q.length)]]++bsl q=bsl (UInt8.ofNat k.toNat::UInt8.ofNat q.length::q):=by
 show [PV.int .u8 k]::[byt (UInt8.ofNat q.length)]::bsl q=[byt (UInt8.ofNat k.toNat)]::[byt (UInt8.ofNat q.length)]::bsl q
 have:(UInt8.ofNat k.toNat).toNat=k.toNat:=by simp;omega
 congr 2
 show PV.int _ _=PV.int _ _
 congr 1
 omega
theorem mb1 (h:okM m) (R:RightM m) (h3:m.k=1) (hB:belH σ.length σ) (e1:env 1=.ptr (σ.length+0) 1 0) (e4:env 4=.ptr (σ.length+2) 1 0) (e6:env 6=.row (σ.length+3) 1) (hk:Post (.tup [.sl (bsl (mbytes m)),.int .i64 0]) σ) :
  vrun Tryz.prog σ.length vb118_4 env (σ++[(1,VObj.box (mrc m) false),(1,.row 1 [] false),(1,.box (ptc ⟨true,false,false,true⟩) false),(1,.row 1 (bsl m.key) false),(0,.dead),(0,.dead),(0,.dead),(0,.dead),(0,.dead),(0,.dead)]) (vend vf118 (TrimP σ.length Post)):=by
 have hp:(ofF m.k).1=⟨true,false,false,true⟩:=by rw[h3];rfl
 have kl:=rightM_len R
 have ln:=mrc_len h
 have c0:=mrc_all h
 have c2:=mc_as h
 have c3:=mc_s h
 have c4:=mc_g h
 have c5:=mc_f h
 have c7:cut (mrc m) 0 none=some (.int .i64 m.k):=rfl
 have v1:=vc_rd h
 have lrd:=h.rd
 have lf:=abytes_len h.f
 have ls:=longF_len h.s
 have lg:=longF_len h.g
 have q1:partsB m (ofF m.k).1=((m.key++m.rd)++abytes m.f):=by
  rw[hp];unfold partsB;simp
 unfold mbytes at hk
 rw[q1,← mb_head m.k ((m.key++m.rd)++abytes m.f) (by omega) (by omega)] at hk
 have ql:(((m.key++m.rd)++abytes m.f)).length≤400:=by simp only[List.length_append];omega
 have w9:=wrap8 (((m.key++m.rd)++abytes m.f)).length
 unfold vb118_4
 refine W ?_
 refine cu (uABytes h.f) ?_
 refine W ?_
 exact hk
theorem mb2 (h:okM m) (R:RightM m) (h3:m.k=2) (hB:belH σ.length σ) (e1:env 1=.ptr (σ.length+0) 1 0) (e4:env 4=.ptr (σ.length+2) 1 0) (e6:env 6=.row (σ.length+3) 1) (hk:Post (.tup [.sl (bsl (mbytes m)),.int .i64 0]) σ) :
  vrun Tryz.prog σ.length vb118_4 env (σ++[(1,VObj.box (mrc m) false),(1,.row 1 [] false),(1,.box (ptc ⟨true,true,false,false⟩) false),(1,.row 1 (bsl m.key) false),(0,.dead),(0,.dead),(0,.dead),(0,.dead),(0,.dead),(0,.dead)]) (vend vf118 (TrimP σ.length Post)):=by
 have hp:(ofF m.k).1=⟨true,true,false,false⟩:=by rw[h3];rfl
 have kl:=rightM_len R
 have ln:=mrc_len h
 have c0:=mrc_all h
 have c2:=mc_as h
 have c3:=mc_s h
 have c4:=mc_g h
 have c5:=mc_f h
 have c7:cut (mrc m) 0 none=some (.int .i64 m.k):=rfl
 have v1:=vc_rd h
 have lrd:=h.rd
 have lf:=abytes_len h.f
 have ls:=longF_len h.s
 have lg:=longF_len h.g
 obtain⟨a,ha⟩:∃ a:Nat,m.aa=(a:Int):=⟨m.aa.toNat,(Int.toNat_of_nonneg R.a0).symm⟩
 have ha1:=R.a1
 have ht:m.aa.toNat=a:=by omega
 rw[ha] at c2
 have lb:=be_len a 4
 have q1:partsB m (ofF m.k).1=((m.key++m.rd)++be a 4):=by
  rw[hp];unfold partsB;rw[ht];simp
 unfold mbytes at hk
 rw[q1,← mb_head m.k ((m.key++m.rd)++be a 4) (by omega) (by omega)] at hk
 have ql:(((m.key++m.rd)++be a 4)).length≤400:=by simp only[List.length_append];omega
 have w9:=wrap8 (((m.key++m.rd)++be a 4)).length
 unfold vb118_4
 refine W ?_
 refine ct ?_
 refine tPutR (l:=m.key++m.rd) (q:=a) (z:=4) (by decide) (by decide) (by omega) (by rw[List.length_append];omega) (fun e=>by have:=congrArg List.length e;rw[List.length_append,lrd] at this;simp at this) (fun g5 o5=>?_)
 refine W ?_
 exact hk
theorem mb3 (h:okM m) (R:RightM m) (h3:m.k=3) (hB:belH σ.length σ) (e1:env 1=.ptr (σ.length+0) 1 0) (e4:env 4=.ptr (σ.length+2) 1 0) (e6:env 6=.row (σ.length+3) 1) (hk:Post (.tup [.sl (bsl (mbytes m)),.int .i64 0]) σ) :
  vrun Tryz.prog σ.length vb118_4 env (σ++[(1,VObj.box (mrc m) false),(1,.row 1 [] false),(1,.box (ptc ⟨true,false,true,true⟩) false),(1,.row 1 (bsl m.key) false),(0,.dead),(0,.dead),(0,.dead),(0,.dead),(0,.dead),(0,.dead)]) (vend vf118 (TrimP σ.length Post)):=by
 have hp:(ofF m.k).1=⟨true,false,true,true⟩:=by rw[h3];rfl
 have kl:=rightM_len R
 have ln:=mrc_len h
 have c0:=mrc_all h
 have c2:=mc_as h
 have c3:=mc_s h
 have c4:=mc_g h
 have c5:=mc_f h
 have c7:cut (mrc m) 0 none=some (.int .i64 m.k):=rfl
 have v1:=vc_rd h
 have lrd:=h.rd
 have lf:=abytes_len h.f
 have ls:=longF_len h.s
 have lg:=longF_len h.g
 obtain⟨o1,o2⟩:=flows_ok (R.fl (by rw[hp]))
 have q1:partsB m (ofF m.k).1=((((m.key++m.rd)++longF m.s)++longF m.g)++abytes m.f):=by
  rw[hp];unfold partsB;simp
 unfold mbytes at hk
 rw[q1,← mb_head m.k ((((m.key++m.rd)++longF m.s)++longF m.g)++abytes m.f) (by omega) (by omega)] at hk
 have ql:(((((m.key++m.rd)++longF m.s)++longF m.g)++abytes m.f)).length≤400:=by simp only[List.length_append];omega
 have w9:=wrap8 (((((m.key++m.rd)++longF m.s)++longF m.g)++abytes m.f)).length
 unfold vb118_4
 refine Wo ?_
 refine drJ (fun h=>vGet h (σ.length+0) 1=some (.box (mrc m) false)) [(2,0),(1,1),(1,2),(1,3),(2,5),(2,6),(0,4),(1,7),(0,8),(2,9)] (by kernel_rfl) (by kernel_rfl) (by exact z_ol) (lget rfl rfl) ?_
 refine Wo ?_
 refine s1 (uLong h.s o1) ?_
 refine Wo ?_
 refine sv_0 ?_
 refine est (by exact z_ea) ?_
 refine st_end ⟨lget rfl rfl,?_⟩
 refine s1 (uLong h.g o2) ?_
 refine sv_0 ?_
 refine est (by exact z_ea) ?_
 refine st_end ⟨lget rfl rfl,?_⟩
 refine W ?_
 refine cu (uABytes h.f) ?_
 refine W ?_
 exact hk
theorem mb4 (h:okM m) (R:RightM m) (h3:m.k=4) (hB:belH σ.length σ) (e1:env 1=.ptr (σ.length+0) 1 0) (e4:env 4=.ptr (σ.length+2) 1 0) (e6:env 6=.row (σ.length+3) 1) (hk:Post (.tup [.sl (bsl (mbytes m)),.int .i64 0]) σ) :
  vrun Tryz.prog σ.length vb118_4 env (σ++[(1,VObj.box (mrc m) false),(1,.row 1 [] false),(1,.box (ptc ⟨false,false,false,true⟩) false),(1,.row 1 (bsl m.key) false),(0,.dead),(0,.dead),(0,.dead),(0,.dead),(0,.dead),(0,.dead)]) (vend vf118 (TrimP σ.length Post)):=by
 have hp:(ofF m.k).1=⟨false,false,false,true⟩:=by rw[h3];rfl
 have kl:=rightM_len R
 have ln:=mrc_len h
 have c0:=mrc_all h
 have c2:=mc_as h
 have c3:=mc_s h
 have c4:=mc_g h
 have c5:=mc_f h
 have c7:cut (mrc m) 0 none=some (.int .i64 m.k):=rfl
 have v1:=vc_rd h
 have lrd:=h.rd
 have lf:=abytes_len h.f
 have ls:=longF_len h.s
 have lg:=longF_len h.g
 have q1:partsB m (ofF m.k).1=(m.key++abytes m.f):=by
  rw[hp];unfold partsB;simp
 unfold mbytes at hk
 rw[q1,← mb_head m.k (m.key++abytes m.f) (by omega) (by omega)] at hk
 have ql:((m.key++abytes m.f)).length≤400:=by simp only[List.length_append];omega
 have w9:=wrap8 ((m.key++abytes m.f)).length
 unfold vb118_4
 refine W ?_
 refine cu (uABytes h.f) ?_
 refine W ?_
 exact hk
theorem mb5 (h:okM m) (R:RightM m) (h3:m.k=5) (hB:belH σ.length σ) (e1:env 1=.ptr (σ.length+0) 1 0) (e4:env 4=.ptr (σ.length+2) 1 0) (e6:env 6=.row (σ.length+3) 1) (hk:Post (.tup [.sl (bsl (mbytes m)),.int .i64 0]) σ) :
  vrun Tryz.prog σ.length vb118_4 env (σ++[(1,VObj.box (mrc m) false),(1,.row 1 [] false),(1,.box (ptc ⟨true,false,true,false⟩) false),(1,.row 1 (bsl m.key) false),(0,.dead),(0,.dead),(0,.dead),(0,.dead),(0,.dead),(0,.dead)]) (vend vf118 (TrimP σ.length Post)):=by
 have hp:(ofF m.k).1=⟨true,false,true,false⟩:=by rw[h3];rfl
 have kl:=rightM_len R
 have ln:=mrc_len h
 have c0:=mrc_all h
 have c2:=mc_as h
 have c3:=mc_s h
 have c4:=mc_g h
 have c5:=mc_f h
 have c7:cut (mrc m) 0 none=some (.int .i64 m.k):=rfl
 have v1:=vc_rd h
 have lrd:=h.rd
 have lf:=abytes_len h.f
 have ls:=longF_len h.s
 have lg:=longF_len h.g
 obtain⟨o1,o2⟩:=flows_ok (R.fl (by rw[hp]))
 have q1:partsB m (ofF m.k).1=(((m.key++m.rd)++longF m.s)++longF m.g):=by
  rw[hp];unfold partsB;simp
 unfold mbytes at hk
 rw[q1,← mb_head m.k (((m.key++m.rd)++longF m.s)++longF m.g) (by omega) (by omega)] at hk
 have ql:((((m.key++m.rd)++longF m.s)++longF m.g)).length≤400:=by simp only[List.length_append];omega
 have w9:=wrap8 ((((m.key++m.rd)++longF m.s)++longF m.g)).length
 unfold vb118_4
 refine Wo ?_
 refine drJ (fun h=>vGet h (σ.length+0) 1=some (.box (mrc m) false)) [(2,0),(1,1),(1,2),(1,3),(2,5),(2,6),(0,4),(1,7),(0,8),(2,9)] (by kernel_rfl) (by kernel_rfl) (by exact z_ol) (lget rfl rfl) ?_
 refine Wo ?_
 refine s1 (uLong h.s o1) ?_
 refine Wo ?_
 refine sv_0 ?_
 refine est (by exact z_ea) ?_
 refine st_end ⟨lget rfl rfl,?_⟩
 refine s1 (uLong h.g o2) ?_
 refine sv_0 ?_
 refine est (by exact z_ea) ?_
 refine st_end ⟨lget rfl rfl,?_⟩
 refine W ?_
 exact hk
theorem mb6 (h:okM m) (R:RightM m) (h3:m.k=6∨m.k=7) (hB:belH σ.length σ) (e1:env 1=.ptr (σ.length+0) 1 0) (e4:env 4=.ptr (σ.length+2) 1 0) (e6:env 6=.row (σ.length+3) 1) (hk:Post (.tup [.sl (bsl (mbytes m)),.int .i64 0]) σ) :
  vrun Tryz.prog σ.length vb118_4 env (σ++[(1,VObj.box (mrc m) false),(1,.row 1 [] false),(1,.box (ptc ⟨true,true,true,false⟩) false),(1,.row 1 (bsl m.key) false),(0,.dead),(0,.dead),(0,.dead),(0,.dead),(0,.dead),(0,.dead)]) (vend vf118 (TrimP σ.length Post)):=by
 have hp:(ofF m.k).1=⟨true,true,true,false⟩:=by rcases h3 with h3|h3<;>rw[h3]<;>rfl
 have kl:=rightM_len R
 have ln:=mrc_len h
 have c0:=mrc_all h
 have c2:=mc_as h
 have c3:=mc_s h
 have c4:=mc_g h
 have c5:=mc_f h
 have c7:cut (mrc m) 0 none=some (.int .i64 m.k):=rfl
 have v1:=vc_rd h
 have lrd:=h.rd
 have lf:=abytes_len h.f
 have ls:=longF_len h.s
 have lg:=longF_len h.g
 obtain⟨o1,o2⟩:=flows_ok (R.fl (by rw[hp]))
 obtain⟨a,ha⟩:∃ a:Nat,m.aa=(a:Int):=⟨m.aa.toNat,(Int.toNat_of_nonneg R.a0).symm⟩
 have ha1:=R.a1
 have ht:m.aa.toNat=a:=by omega
 rw[ha] at c2
 have lb:=be_len a 4
 have q1:partsB m (ofF m.k).1=((((m.key++m.rd)++be a 4)++longF m.s)++longF m.g):=by
  rw[hp];unfold partsB;rw[ht];simp
 unfold mbytes at hk
 rw[q1,← mb_head m.k ((((m.key++m.rd)++be a 4)++longF m.s)++longF m.g) (by omega) (by omega)] at hk
 have ql:(((((m.key++m.rd)++be a 4)++longF m.s)++longF m.g)).length≤400:=by simp only[List.length_append];omega
 have w9:=wrap8 (((((m.key++m.rd)++be a 4)++longF m.s)++longF m.g)).length
 unfold vb118_4
 refine W ?_
 refine ct ?_
 refine tPutR (l:=m.key++m.rd) (q:=a) (z:=4) (by decide) (by decide) (by omega) (by rw[List.length_append];omega) (fun e=>by have:=congrArg List.length e;rw[List.length_append,lrd] at this;simp at this) (fun g5 o5=>?_)
 refine Wo ?_
 refine drJ (fun h=>vGet h (σ.length+0) 1=some (.box (mrc m) false)) [(2,0),(1,1),(1,2),(1,3),(2,5),(2,6),(0,4),(1,7),(0,8),(2,9)] (by kernel_rfl) (by kernel_rfl) (by exact z_ol) (lget rfl rfl) ?_
 refine Wo ?_
 refine s1 (uLong h.s o1) ?_
 refine Wo ?_
 refine sv_0 ?_
 refine est (by exact z_ea) ?_
 refine st_end ⟨lget rfl rfl,?_⟩
 refine s1 (uLong h.g o2) ?_
 refine sv_0 ?_
 refine est (by exact z_ea) ?_
 refine st_end ⟨lget rfl rfl,?_⟩
 refine W ?_
 exact hk
end
theorem uMBytes {m:Mr} (h:okM m) (hkl:m.key.length≤140737488355328) (hr:rightF m=true):U Tryz.prog 118 [.agg (mrc m)] (.tup [.sl (bsl (mbytes m)),.int .i64 0]):=by
 intro σ Post hk
 have R:=rightM hr
 have kl:=rightM_len R
 have sc:=mrc_sc (m:=m)
 have ln:=mrc_len h
 have c0:=mrc_all h
 have c6:=mc_key h
 have c7:cut (mrc m) 0 none=some (.int .i64 m.k):=rfl
 have oU:=uOf (k:=m.k)
 have ps:=pt_set (ofF m.k).1
 have pc:=pt_sc (ofF m.k).1
 have fin:∀ env,belH σ.length σ→env 1=.ptr (σ.length+0) 1 0→env 4=.ptr (σ.length+2) 1 0→env 6=.row (σ.length+3) 1→vrun Tryz.prog σ.length vb118_4 env (σ++[(1,VObj.box (mrc m) false),(1,.row 1 [] false),(1,.box (ptc (ofF m.k).1) false),(1,.row 1 (bsl m.key) false),(0,.dead),(0,.dead),(0,.dead),(0,.dead),(0,.dead),(0,.dead)]) (vend vf118 (TrimP σ.length Post)):=by
  intro env hB e1 e4 e6
  rcases kinds R.k with h3|h3|h3|h3|h3|h3|h3
  ·rw[show (ofF m.k).1=⟨true,false,false,true⟩ by rw[h3];rfl];exact mb1 h R h3 hB e1 e4 e6 hk
  ·rw[show (ofF m.k).1=⟨true,true,false,false⟩ by rw[h3];rfl];exact mb2 h R h3 hB e1 e4 e6 hk
  ·rw[show (ofF m.k).1=⟨true,false,true,true⟩ by rw[h3];rfl];exact mb3 h R h3 hB e1 e4 e6 hk
  ·rw[show (ofF m.k).1=⟨false,false,false,true⟩ by rw[h3];rfl];exact mb4 h R h3 hB e1 e4 e6 hk
  ·rw[show (ofF m.k).1=⟨true,false,true,false⟩ by rw[h3];rfl];exact mb5 h R h3 hB e1 e4 e6 hk
  ·rw[show (ofF m.k).1=⟨true,true,true,false⟩ by rw[h3];rfl];exact mb6 h R (.inl h3) hB e1 e4 e6 hk
  ·rw[show (ofF m.k).1=⟨true,true,true,false⟩ by rw[h3];rfl];exact mb6 h R (.inr h3) hB e1 e4 e6 hk
 clear hk
 generalize (ofF m.k).1=p at *
 refine T118 fun hB hA=>?_
 rw[vb118_eq]
 refine W ?_
 refine cu (uRightM h hkl) ?_
 rw[hr]
 refine W ?_
 refine cu oU ?_
 refine W ?_
 rw[bytesEs_eq]
 exact fin _ hB rfl rfl rfl
end Go.Proofs.YtdpeaefgbmkegaaGreatDoor
