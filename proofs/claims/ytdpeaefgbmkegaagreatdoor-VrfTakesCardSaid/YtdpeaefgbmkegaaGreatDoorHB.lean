/- mroute.Take: from read on; with what Right and sized say of its route. -/
import Derived.Test.YtdpeaefgbmkegaaGreatDoorM7
import Derived.Test.YtdpeaefgbmkegaaGreatDoorHA
set_option maxHeartbeats 4000000
namespace Go.Proofs.YtdpeaefgbmkegaaGreatDoor
open Go Go.V
set_option maxRecDepth 10000
open D in
def vb260_9:VC:=
 Rg [Mv 56 8,Mv 57 10,Mv 58 11,m 59 (.call false 277 [(t 56),(t 57),(t 58)]),Mv 55 59,m 60 (.extract 0 (t 55)),m 61 (.extract 1 (t 55)),m 13 (.alloc 1 [q,o,o,o,o,o,o,o,o,q,q,o,o,o,o,o,o,o,o,o,o,o,o,o,o,o,o,q,o,o,o,o,o,o,o,o,o,o,o,o,o,o,o,o,q,o,o,o,o,o,o,o,o,o,o,o,o,o,o,o,o,(.str [])]),e (.store 62 (t 13) (t 60)),Mv 14 61]<|
 .seq (Rg [Mv 62 14,m 63 (.un .not (t 62)),Mv 64 63,Gf 65 64 (Ls 62 13),Gf 66 64 (.call false 168 [(t 65)]),Gf 67 64 (.un .not (t 66)),m 68 (.pick (t 64) Bt (t 67)),Mv 69 68,Gf 70 69 (Ls 62 13),Gf 71 69 (.mov (t 1)),Gf 72 69 (.call false 278 [(t 70),(t 71)]),Gf 73 69 (.un .not (t 72)),m 74 (.pick (t 69) Bt (t 73))]<|
 .cond (t 74) (Rg [m 75 (.build [q,o,o,o,o,o,o,o,o,q,q,o,o,o,o,o,o,o,o,o,o,o,o,o,o,o,o,q,o,o,o,o,o,o,o,o,o,o,o,o,o,o,o,o,q,o,o,o,o,o,o,o,o,o,o,o,o,o,o,o,o,(.str [])] []),e (.store 62 (t 4) (t 75)),m 5 (.mov (.c q)),m 6 (.mov (Ci 4))]<|
 .ret) (.skip))<|
 Rg [m 76 (Ls 62 13),Mv 77 9,m 78 (.bin .add .num (Ci 2) (t 77)),e (.store 62 (t 4) (t 76)),Mv 5 78,m 6 (.mov (.c q))]<|
 .ret
open D in
def vb260_2:VC:=
 Rg [Mv 22 0,m 23 (.call false 52 [(t 22)]),Mv 7 23]<|
 Rg [Mv 24 7,m 25 (.call false 54 [(t 24),(Ci 1)]),Mv 8 25]<|
 Rg [Mv 26 7,m 27 (.call false 54 [(t 26),(Ci 1)]),Mv 9 27]<|
 Rg [Mv 28 7,Mv 29 9,m 30 (.call false 275 [(t 28),(t 29)]),Mv 10 30]<|
 .seq (Rg [Mv 31 7,m 32 (.nilCheck (t 31)),m 33 (Fl 0 32),m 34 (.call false 276 [(t 33)])]<|
 .cond (t 34) (Rg [m 35 (.build [q,o,o,o,o,o,o,o,o,q,q,o,o,o,o,o,o,o,o,o,o,o,o,o,o,o,o,q,o,o,o,o,o,o,o,o,o,o,o,o,o,o,o,o,q,o,o,o,o,o,o,o,o,o,o,o,o,o,o,o,o,(.str [])] []),e (.store 62 (t 4) (t 35)),m 5 (.mov (.c q)),m 6 (.mov (Ci 3))]<|
 .ret) (.skip))<|
 Rg [m 11 (.mov (.c (.str [])))]<|
 .seq (Rg [Mv 36 8,m 37 (.bin .eql .num (t 36) (Ci 4))]<|
 .cond (t 37) (Rg [Mv 38 10,m 39 (.call false 123 [(t 38),(Ci 2)]),Mv 12 39]<|
 .seq (Rg [Mv 40 10,m 41 (.nilCheck (t 40)),m 42 (Fl 0 41),m 43 (.call false 276 [(t 42)])]<|
 .cond (t 43) (Rg [m 44 (.build [q,o,o,o,o,o,o,o,o,q,q,o,o,o,o,o,o,o,o,o,o,o,o,o,o,o,o,q,o,o,o,o,o,o,o,o,o,o,o,o,o,o,o,o,q,o,o,o,o,o,o,o,o,o,o,o,o,o,o,o,o,(.str [])] []),e (.store 62 (t 4) (t 44)),m 5 (.mov (.c q)),m 6 (.mov (Ci 4))]<|
 .ret) (.skip))<|
 .dreg [(Mv 45 12,[]),(m 46 (.b2s (t 45)),[0]),(Mv 47 10,[]),(Mv 48 12,[]),(m 49 (.index 1 (t 48) (Ci 1)),[3]),(m 50 (Ld 49),[4]),(m 51 (.convInt .i64 (t 50)),[5]),(m 52 (.call false 123 [(t 47),(t 51)]),[2,6]),(m 53 (.b2s (t 52)),[7]),(m 54 (.bin .add .num (t 46) (t 53)),[1,8]),(Mv 11 54,[9,7,0,1,2,3,4,5,6,7,8,9])] [(2,0),(2,1),(2,2),(2,3),(1,4),(1,5),(2,6),(0,7),(1,8),(2,9),(2,10)] [0,1,0,0,8,24,56,124,252,511,1023]) (.skip))<|
 vb260_9
open D in
theorem vb260_eq:vb260 =
 (Rg [m 4 (.alloc 0 [q,o,o,o,o,o,o,o,o,q,q,o,o,o,o,o,o,o,o,o,o,o,o,o,o,o,o,q,o,o,o,o,o,o,o,o,o,o,o,o,o,o,o,o,q,o,o,o,o,o,o,o,o,o,o,o,o,o,o,o,o,(.str [])]),m 5 (.mov (.c q)),m 6 (.mov (.c q))]<|
 .seq (Rg [Mv 15 1,m 16 (.bin .neq .num (t 15) (Ci 4)),Mv 17 16,Gt 18 17 (.mov (t 1)),Gt 19 17 (.bin .neq .num (t 18) (Ci 16)),m 20 (.pick (t 17) (t 19) Bf)]<|
 .cond (t 20) (Rg [m 21 (.build [q,o,o,o,o,o,o,o,o,q,q,o,o,o,o,o,o,o,o,o,o,o,o,o,o,o,o,q,o,o,o,o,o,o,o,o,o,o,o,o,o,o,o,o,q,o,o,o,o,o,o,o,o,o,o,o,o,o,o,o,o,(.str [])] []),e (.store 62 (t 4) (t 21)),m 5 (.mov (.c q)),m 6 (.mov (Ci 1))]<|
 .ret) (.skip))<|
 vb260_2):=rfl
attribute [local irreducible] vBuild vCallV
theorem mz_zz:splice [.int .i64 0,D.o,D.o,D.o,D.o,D.o,D.o,D.o,D.o,.int .i64 0,.int .i64 0,D.o,D.o,D.o,D.o,D.o,D.o,D.o,D.o,D.o,D.o,D.o,D.o,D.o,D.o,D.o,D.o,.int .i64 0,D.o,D.o,D.o,D.o,D.o,D.o,D.o,D.o,D.o,D.o,D.o,D.o,D.o,D.o,D.o,D.o,.int .i64 0,D.o,D.o,D.o,D.o,D.o,D.o,D.o,D.o,D.o,D.o,D.o,D.o,D.o,D.o,D.o,D.o,.str []] 0 [.int .i64 0,D.o,D.o,D.o,D.o,D.o,D.o,D.o,D.o,.int .i64 0,.int .i64 0,D.o,D.o,D.o,D.o,D.o,D.o,D.o,D.o,D.o,D.o,D.o,D.o,D.o,D.o,D.o,D.o,.int .i64 0,D.o,D.o,D.o,D.o,D.o,D.o,D.o,D.o,D.o,D.o,D.o,D.o,D.o,D.o,D.o,D.o,.int .i64 0,D.o,D.o,D.o,D.o,D.o,D.o,D.o,D.o,D.o,D.o,D.o,D.o,D.o,D.o,D.o,D.o,.str []]=mz:=rfl
theorem mz_zy:splice mz 0 [.int .i64 0,D.o,D.o,D.o,D.o,D.o,D.o,D.o,D.o,.int .i64 0,.int .i64 0,D.o,D.o,D.o,D.o,D.o,D.o,D.o,D.o,D.o,D.o,D.o,D.o,D.o,D.o,D.o,D.o,.int .i64 0,D.o,D.o,D.o,D.o,D.o,D.o,D.o,D.o,D.o,D.o,D.o,D.o,D.o,D.o,D.o,D.o,.int .i64 0,D.o,D.o,D.o,D.o,D.o,D.o,D.o,D.o,D.o,D.o,D.o,D.o,D.o,D.o,D.o,D.o,.str []]=mz:=rfl
instance:ClL mz:=(inferInstance:ClL (mrc mr0))
instance:PlL mz:=(inferInstance:PlL (mrc mr0))
theorem mz_all:cut mz 0 (some 62)=some (.agg mz):=rfl
theorem mz_len:mz.length=62:=rfl
theorem mz_sc:mz.all scalar=true:=rfl
section
variable {σ:VHeap} {Post:KP} {env:Env} {kk s:Int} {y:Nat} {l key:List UInt8} {bad B1 B2 O:Bool} {M:Mr} {o2:Nat × VObj}
theorem take9 (hB:belH σ.length σ) (hl:l.length≤140737488355328) (hy:y<256) (e1:env 1=.int .i64 s) (e4:env 4=.ptr (σ.length+0) 1 0) (e8:env 8=.int .i64 kk) (e9:env 9=.int .i64 (y:Int)) (e10:env 10=.ptr (σ.length+3) 1 0) (e11:env 11=.str key)
  (hM:okM M) (eM:(readM kk l bad key).m=M) (eO:((readM kk l bad key).ok&&(!(readM kk l bad key).bad&&decide ((readM kk l bad key).l.length=0)))=O)
  (hR:U Tryz.prog 168 [.agg (mrc M)] (.bool B1)) (hS:B1=true→U Tryz.prog 278 [.agg (mrc M),.int .i64 s] (.bool B2))
  (hk:Post (if (O&&(B1&&B2))=true then .tup [.agg (mrc M),.int .i64 (2+(y:Int)),.int .i64 0] else .tup [.agg mz,.int .i64 0,.int .i64 4]) σ) :
  vrun Tryz.prog σ.length vb260_9 env (σ++[(1,.box mz false),D.dd,o2,(1,.box [.sl (bsl l),.bool bad] false)]) (vend vf260 (TrimP σ.length Post)):=by
 have w1:=mz_zz
 have w2:=mz_zy
 have w3:=mz_all
 have w4:=mz_len
 have w5:=mz_sc
 have w6:=mz_st hM
 have w7:splice mz 0 (mrc M)=mrc M:=ms_all hM
 have w8:=mrc_len hM
 have w9:=mrc_sc (m:=M)
 have wA:=mrc_all hM
 have k1:IntKind.i64.wrap (2+(y:Int))=2+(y:Int):=w_i64 (by omega) (by omega)
 unfold vb260_9
 refine W ?_
 refine ct ?_
 refine tRead (k:=kk) (l:=l) (bad:=bad) (key:=key) hl (lget rfl rfl) ?_
 rw[eM,eO,lset rfl]
 generalize rdO 1 (readM kk l bad key).l (readM kk l bad key).bad=o3
 cases O with
 | false=>
   rw[Bool.false_and,if_neg (by simp)] at hk
   refine W ?_
   exact hk
 | true=>
   rw[Bool.true_and] at hk
   refine W ?_
   refine cu hR ?_
   cases B1 with
   | false=>
     rw[Bool.false_and,if_neg (by simp)] at hk
     refine W ?_
     exact hk
   | true=>
     rw[Bool.true_and] at hk
     refine W ?_
     refine cu (hS rfl) ?_
     cases B2 with
     | false=>
       rw[if_neg (by simp)] at hk
       refine W ?_
       exact hk
     | true=>
       rw[if_pos rfl] at hk
       refine W ?_
       exact hk
end
end Go.Proofs.YtdpeaefgbmkegaaGreatDoor
namespace Go.Proofs.YtdpeaefgbmkegaaGreatDoor
open Go Go.V
set_option maxRecDepth 10000
structure MT where
 m:Mr
 n:Nat
 e:Int
def keyOf (x:UInt8) (R:List UInt8):Option (List UInt8 × List UInt8 × Bool):=
 if x=4 then match R with
  | a::b::r=>some (a::b::(rdT r false b.toNat).1,(rdT r false b.toNat).2.1,(rdT r false b.toNat).2.2)
  | _=>none
 else some ([],R,false)
def okB (R:RS):Bool:=R.ok&&(!R.bad&&decide (R.l.length=0))
def takeG (rt sz:Mr→Bool) (l:List UInt8) (s:Int):MT:=
 if s≠4∧s≠16 then⟨mr0,0,1⟩ else match l with
 | x::y::r=>if r.length<y.toNat then⟨mr0,0,3⟩ else match keyOf x (r.take y.toNat) with
   | none=>⟨mr0,0,4⟩
   | some t=>if (okB (readM (x.toNat:Int) t.2.1 t.2.2 t.1)&&(rt (readM (x.toNat:Int) t.2.1 t.2.2 t.1).m&&sz (readM (x.toNat:Int) t.2.1 t.2.2 t.1).m))=true then⟨(readM (x.toNat:Int) t.2.1 t.2.2 t.1).m,2+y.toNat,0⟩ else⟨mr0,0,4⟩
 | _=>⟨mr0,0,3⟩
theorem rs1_k (p:Pt) (S:RS):(rs1 p S).m.k=S.m.k:=by unfold rs1;split<;>rfl
theorem rs2_k (p:Pt) (S:RS):(rs2 p S).m.k=S.m.k:=by unfold rs2;split<;>rfl
theorem rs3_k (p:Pt) (S:RS):(rs3 p S).m.k=S.m.k:=by unfold rs3;split<;>rfl
theorem rs4_k (p:Pt) (S:RS):(rs4 p S).m.k=S.m.k:=by unfold rs4;split<;>rfl
theorem readM_k (k:Int) (l:List UInt8) (bad:Bool) (key:List UInt8):(readM k l bad key).m.k=k:=by unfold readM;rw[rs4_k,rs3_k,rs2_k,rs1_k];rfl
theorem readM_ok (k:Int) (l:List UInt8) (bad:Bool) (key:List UInt8):okM (readM k l bad key).m:=(rs4_ok (rs3_ok (rs2_ok (rs1_ok (rs0_ok (Nat.le_refl l.length)))))).m
attribute [local irreducible] vBuild vCallV
section
variable {l:List UInt8} {s:Int} {rt sz:Mr→Bool}
theorem uTakeArgM (h4:s≠4) (h16:s≠16):U Tryz.prog 260 [.sl (bsl l),.int .i64 s] (.tup [.agg mz,.int .i64 0,.int .i64 1]):=by
 intro σ Post hk
 have w1:=mz_zz
 have w2:=mz_zy
 have w3:=mz_all
 have w4:=mz_len
 have w5:=mz_sc
 refine T260 fun hB hA=>?_
 rw[vb260_eq]
 refine W ?_
 exact hk
theorem uTakeEndM (hl:l.length≤140737488355328) (hs:s=4∨s=16) (h:∀ x y r,l=x::y::r→r.length<y.toNat):U Tryz.prog 260 [.sl (bsl l),.int .i64 s] (.tup [.agg mz,.int .i64 0,.int .i64 3]):=by
 intro σ Post hk
 have w1:=mz_zz
 have w2:=mz_zy
 have w3:=mz_all
 have w4:=mz_len
 have w5:=mz_sc
 refine T260 fun hB hA=>?_
 rw[vb260_eq]
 refine cutp (fun e h=>e 0=.sl (bsl l)∧e 1=.int .i64 s∧(∃ k,e 4=.ptr (σ.length+0) k 0∧k=1)∧h=σ++[(1,.box mz false),(0,.dead)]) ?_ ?_
 ·refine W ?_
  exact⟨rfl,rfl,⟨1,rfl,rfl⟩,rfl⟩
 rintro u _ ⟨e0,e1,⟨k,e4,rfl⟩,rfl⟩
 refine cutp (fun e h=>e 0=.sl (bsl l)∧e 1=.int .i64 s∧(∃ k,e 4=.ptr (σ.length+0) k 0∧k=1)∧h=σ++[(1,.box mz false),(0,.dead)]) ?_ ?_
 ·rcases hs with hs|hs
  ·refine W ?_
   exact⟨e0,e1,⟨1,e4,rfl⟩,rfl⟩
  ·refine W ?_
   exact⟨e0,e1,⟨1,e4,rfl⟩,rfl⟩
 clear e0 e1 e4
 rintro u _ ⟨e0,e1,⟨k,e4,rfl⟩,rfl⟩
 obtain⟨p1,r1,b1,h1⟩:∃ p q c,rdT l false 1=(p,q,c):=⟨_,_,_,rfl⟩
 obtain⟨p2,r2,b2,h2⟩:∃ p q c,rdT r1 b1 1=(p,q,c):=⟨_,_,_,rfl⟩
 obtain⟨p3,r3,b3,h3⟩:∃ p q c,rdT r2 b2 (big p2 0)=(p,q,c):=⟨_,_,_,rfl⟩
 have a1:=rdT_len l false 1
 have a2:=rdT_len r1 b1 1
 rw[h1] at a1
 rw[h2] at a2
 dsimp only at a1 a2
 have hb3:b3=true:=by
  cases l with
  | nil=>
    rw[show rdT [] false 1=([],[],true) from rfl] at h1
    cases h1
    rw[show rdT [] true 1=([],[],true) from rfl] at h2
    cases h2
    rw[show rdT [] true (big [] 0)=([],[],true) from rfl] at h3
    cases h3;rfl
  | cons x t=>
    rw[show rdT (x::t) false 1=([x],t,false) by unfold rdT;rw[if_neg (by simp)];rfl] at h1
    have e2:t=r1:=congrArg (fun z=>z.2.1) h1
    have e3:false=b1:=congrArg (fun z=>z.2.2) h1
    rw[← e2,← e3] at h2
    cases t with
    | nil=>
      rw[show rdT [] false 1=([],[],true) from rfl] at h2
      cases h2
      rw[show rdT [] true (big [] 0)=([],[],true) from rfl] at h3
      cases h3;rfl
    | cons y r=>
      rw[show rdT (y::r) false 1=([y],r,false) by unfold rdT;rw[if_neg (by simp)];rfl] at h2
      have e4':[y]=p2:=congrArg (fun z=>z.1) h2
      have e5:r=r2:=congrArg (fun z=>z.2.1) h2
      have e6:false=b2:=congrArg (fun z=>z.2.2) h2
      rw[← e4',← e5,← e6] at h3
      have:=h x y r rfl
      rw[big_one] at h3
      unfold rdT at h3
      rw[if_pos (.inr this)] at h3
      cases h3;rfl
 subst hb3
 unfold vb260_2
 refine W ?_
 refine ct ?_
 refine tOpen (l:=l) hl ?_
 refine W ?_
 refine ct ?_
 refine lNum (z:=1) (l:=l) (bad:=false) h1 (by decide) (by decide) rfl ?_
 refine W ?_
 refine ct ?_
 refine lNum (z:=1) (l:=r1) (bad:=b1) h2 (by decide) (by decide) rfl ?_
 refine W ?_
 refine ct ?_
 refine lSub (z:=big p2 0) (l:=r2) (bad:=b2) h3 (by omega) rfl ?_
 refine W ?_
 refine ct ?_
 refine lBad rfl ?_
 refine W ?_
 exact hk
theorem takeHead {x y:UInt8} {r:List UInt8} {σ:VHeap} {Post:KP} (hl:(x::y::r).length≤140737488355328) (hs:s=4∨s=16) (hr:¬ r.length<y.toNat)
  (hR:∀ key l' bad,key.length≤300→U Tryz.prog 168 [.agg (mrc (readM (x.toNat:Int) l' bad key).m)] (.bool (rt (readM (x.toNat:Int) l' bad key).m)))
  (hS:∀ key l' bad,key.length≤300→rt (readM (x.toNat:Int) l' bad key).m=true→U Tryz.prog 278 [.agg (mrc (readM (x.toNat:Int) l' bad key).m),.int .i64 s] (.bool (sz (readM (x.toNat:Int) l' bad key).m)))
  (hk:Post (.tup [.agg (mrc (takeG rt sz (x::y::r) s).m),.int .i64 ((takeG rt sz (x::y::r) s).n:Int),.int .i64 (takeG rt sz (x::y::r) s).e]) σ):T Tryz.prog 260 [.sl (bsl (x::y::r)),.int .i64 s] σ Post:=by
 have w1:=mz_zz
 have w2:=mz_zy
 have w3:=mz_all
 have w4:=mz_len
 have w5:=mz_sc
 have hx:=x.toNat_lt
 have hy:=y.toNat_lt
 have hne:¬ (s≠4∧s≠16):=by omega
 have hRl:(r.take y.toNat).length≤255:=by rw[List.length_take];omega
 unfold takeG at hk
 rw[if_neg hne] at hk
 dsimp only at hk
 rw[if_neg hr] at hk
 generalize hRR:r.take y.toNat=R at hk hRl
 refine T260 fun hB hA=>?_
 rw[vb260_eq]
 refine cutp (fun e h=>e 0=.sl (bsl (x::y::r))∧e 1=.int .i64 s∧(∃ k,e 4=.ptr (σ.length+0) k 0∧k=1)∧h=σ++[(1,.box mz false),(0,.dead)]) ?_ ?_
 ·refine W ?_
  exact⟨rfl,rfl,⟨1,rfl,rfl⟩,rfl⟩
 rintro u _ ⟨e0,e1,⟨k,e4,rfl⟩,rfl⟩
 refine cutp (fun e h=>e 0=.sl (bsl (x::y::r))∧e 1=.int .i64 s∧(∃ k,e 4=.ptr (σ.length+0) k 0∧k=1)∧h=σ++[(1,.box mz false),(0,.dead)]) ?_ ?_
 ·rcases hs with hs|hs
  ·refine W ?_
   exact⟨e0,e1,⟨1,e4,rfl⟩,rfl⟩
  ·refine W ?_
   exact⟨e0,e1,⟨1,e4,rfl⟩,rfl⟩
 clear e0 e1 e4
 rintro u _ ⟨e0,e1,⟨k,e4,rfl⟩,rfl⟩
 unfold vb260_2
 refine W ?_
 refine ct ?_
 refine tOpen (l:=x::y::r) hl ?_
 refine W ?_
 refine ct ?_
 refine lNum (z:=1) (l:=x::y::r) (bad:=false) (p:=[x]) (q:=y::r) (c:=false) (by unfold rdT;rw[if_neg (by simp)];rfl) (by decide) (by decide) rfl ?_
 rw[big_one]
 refine W ?_
 refine ct ?_
 refine lNum (z:=1) (l:=y::r) (bad:=false) (p:=[y]) (q:=r) (c:=false) (by unfold rdT;rw[if_neg (by simp)];rfl) (by decide) (by decide) rfl ?_
 rw[big_one]
 refine W ?_
 refine ct ?_
 refine lSub (z:=y.toNat) (l:=r) (bad:=false) (p:=R) (q:=r.drop y.toNat) (c:=false) (by unfold rdT;rw[if_neg (by simp;omega),hRR]) (by simp at hl;omega) rfl ?_
 refine W ?_
 refine ct ?_
 refine lBad rfl ?_
 by_cases h4:x=4
 ·subst h4
  have ht:(4:UInt8).toNat=4:=rfl
  rcases hcase:R with _|⟨a,_|⟨b,r2⟩⟩
  ·subst hcase
   refine W ?_
   refine ct ?_
   refine lTake (z:=2) (l:=[]) (bad:=false) (p:=[]) (q:=[]) (c:=true) rfl (by decide) rfl ?_
   refine W ?_
   refine ct ?_
   refine lBad rfl ?_
   refine W ?_
   exact hk
  ·subst hcase
   refine W ?_
   refine ct ?_
   refine lTake (z:=2) (l:=[a]) (bad:=false) (p:=[]) (q:=[a]) (c:=true) rfl (by show 1≤_;decide) rfl ?_
   refine W ?_
   refine ct ?_
   refine lBad rfl ?_
   refine W ?_
   exact hk
  ·subst hcase
   have hb:=b.toNat_lt
   obtain⟨p,q,c,hp⟩:∃ p q c,rdT r2 false b.toNat=(p,q,c):=⟨_,_,_,rfl⟩
   have a1:=rdT_len r2 false b.toNat
   rw[hp] at a1
   dsimp only at a1
   have ek:keyOf 4 (a::b::r2)=some (a::b::p,q,c):=by unfold keyOf;rw[if_pos rfl];dsimp only;rw[hp]
   rw[ek] at hk
   dsimp only at hk
   rw[List.length_cons,List.length_cons] at hRl
   have i1:(bsl [a,b])[1]?=some [byt b]:=rfl
   have k1:IntKind.i64.wrap (b.toNat:Int)=(b.toNat:Int):=w_i64 (by omega) (by omega)
   refine W ?_
   refine ct ?_
   refine lTake (z:=2) (l:=a::b::r2) (bad:=false) (p:=[a,b]) (q:=r2) (c:=false) (by unfold rdT;rw[if_neg (by simp)];rfl) (by simp;omega) rfl ?_
   refine W ?_
   refine ct ?_
   refine lBad rfl ?_
   refine W ?_
   refine sv_0 ?_
   refine ct ?_
   refine lTake (z:=b.toNat) (l:=r2) (bad:=false) hp (by omega) rfl ?_
   refine st_end ⟨trivial,?_⟩
   refine Wo ?_
   refine take9 (kk:=(((4:UInt8).toNat:Nat):Int)) (y:=y.toNat) (s:=s) (l:=q) (bad:=c) (key:=a::b::p) (O:=okB (readM (((4:UInt8).toNat:Nat):Int) q c (a::b::p))) hB (by omega) hy e1 e4 rfl rfl rfl rfl (readM_ok _ _ _ _) rfl rfl (hR (a::b::p) q c (by simp;omega)) (hS (a::b::p) q c (by simp;omega)) ?_
   split at hk
   ·rename_i hc;rw[if_pos hc]
    have e2:((2+y.toNat:Nat):Int)=2+(y.toNat:Int):=by omega
    rw[e2] at hk
    exact hk
   ·rename_i hc;rw[if_neg hc];exact hk
 ·have h4n:¬ x.toNat=4:=fun e=>h4 (UInt8.toNat_inj.1 e)
  have ek:keyOf x R=some ([],R,false):=by unfold keyOf;rw[if_neg h4]
  rw[ek] at hk
  dsimp only at hk
  refine W ?_
  refine take9 (kk:=(x.toNat:Int)) (y:=y.toNat) (s:=s) (l:=R) (bad:=false) (key:=[]) (O:=okB (readM (x.toNat:Int) R false [])) hB (by omega) hy e1 e4 rfl rfl rfl rfl (readM_ok _ _ _ _) rfl rfl (hR [] R false (by decide)) (hS [] R false (by decide)) ?_
  split at hk
  ·rename_i hc;rw[if_pos hc]
   have e2:((2+y.toNat:Nat):Int)=2+(y.toNat:Int):=by omega
   rw[e2] at hk
   exact hk
  ·rename_i hc;rw[if_neg hc];exact hk
theorem uTakeG (hl:l.length≤140737488355328)
  (hR:∀ x t,l=x::t→∀ key l' bad,key.length≤300→U Tryz.prog 168 [.agg (mrc (readM (x.toNat:Int) l' bad key).m)] (.bool (rt (readM (x.toNat:Int) l' bad key).m)))
  (hS:∀ x t,l=x::t→∀ key l' bad,key.length≤300→rt (readM (x.toNat:Int) l' bad key).m=true→U Tryz.prog 278 [.agg (mrc (readM (x.toNat:Int) l' bad key).m),.int .i64 s] (.bool (sz (readM (x.toNat:Int) l' bad key).m))) :
  U Tryz.prog 260 [.sl (bsl l),.int .i64 s] (.tup [.agg (mrc (takeG rt sz l s).m),.int .i64 ((takeG rt sz l s).n:Int),.int .i64 (takeG rt sz l s).e]):=by
 by_cases hs:s≠4∧s≠16
 ·have e:takeG rt sz l s=⟨mr0,0,1⟩:=by unfold takeG;rw[if_pos hs]
  rw[e];exact uTakeArgM hs.1 hs.2
 have hs':s=4∨s=16:=by omega
 have short:takeG rt sz l s=⟨mr0,0,3⟩→(∀ x y r,l=x::y::r→r.length<y.toNat)→U Tryz.prog 260 [.sl (bsl l),.int .i64 s] (.tup [.agg (mrc (takeG rt sz l s).m),.int .i64 ((takeG rt sz l s).n:Int),.int .i64 (takeG rt sz l s).e]):=fun e h=>by
  rw[e];exact uTakeEndM hl hs' h
 rcases l with _|⟨x,_|⟨y,r⟩⟩
 ·exact short (by unfold takeG;rw[if_neg hs]) (fun x y r h=>by cases h)
 ·exact short (by unfold takeG;rw[if_neg hs]) (fun x y r h=>by cases h)
 ·by_cases hr:r.length<y.toNat
  ·exact short (by unfold takeG;rw[if_neg hs];dsimp only;rw[if_pos hr]) (fun x' y' r' h=>by cases h;exact hr)
  ·intro σ Post hk
   exact takeHead hl hs' hr (hR x _ rfl) (hS x _ rfl) hk
end
end Go.Proofs.YtdpeaefgbmkegaaGreatDoor
namespace Go.Proofs.YtdpeaefgbmkegaaGreatDoor
open Go Go.V
set_option maxRecDepth 10000
attribute [local irreducible] vBuild vCallV
def prs (t:MT) (n:Nat):Mr × Int:=if t.e≠0 then(mr0,t.e) else if t.n≠n then(mr0,4) else(t.m,0)
theorem uParseG {l:List UInt8} {s:Int} {t:MT} (ht:okM t.m) (hT:U Tryz.prog 260 [.sl (bsl l),.int .i64 s] (.tup [.agg (mrc t.m),.int .i64 (t.n:Int),.int .i64 t.e])) :
  U Tryz.prog 243 [.sl (bsl l),.int .i64 s] (.tup [.agg (mrc (prs t l.length).1),.int .i64 (prs t l.length).2]):=by
 intro σ Post hk
 have w1:=mz_zz
 have w2:=mz_zy
 have w3:=mz_all
 have w4:=mz_len
 have w5:=mz_sc
 have w6:=mz_st ht
 have w7:splice mz 0 (mrc t.m)=mrc t.m:=ms_all ht
 have w8:=mrc_len ht
 have w9:=mrc_sc (m:=t.m)
 have wA:=mrc_all ht
 have bl:=bsl_len l
 unfold prs at hk
 refine T243 fun hB hA=>?_
 refine W ?_
 refine cu hT ?_
 by_cases he:t.e=0
 ·rw[if_neg (by simpa using he)] at hk
  by_cases hn:t.n=l.length
  ·rw[if_neg (by simpa using hn)] at hk
   refine W ?_
   exact hk
  ·rw[if_pos hn] at hk
   refine W ?_
   exact hk
 ·rw[if_pos he] at hk
  refine W ?_
  exact hk
end Go.Proofs.YtdpeaefgbmkegaaGreatDoor
