/- mroute.read. -/
import Derived.Test.YtdpeaefgbmkegaaGreatDoorHA
set_option maxHeartbeats 4000000
namespace Go.Proofs.YtdpeaefgbmkegaaGreatDoor
open Go Go.V
set_option maxRecDepth 10000
open D in
def vb277_9:VC:=
 .seq (.dreg [(m 52 (Ls 62 8),[]),(m 53 (Ld 10),[]),(Mv 54 53,[1]),(Gt 55 54 (Ld 4),[2]),(Gt 56 54 (.nilCheck (t 55)),[3,2]),(Gt 57 54 (Fl 0 56),[4,2]),(Gt 58 54 (.call false 276 [(t 57)]),[5,2,2]),(Gt 59 54 (.un .not (t 58)),[6,2]),(m 60 (.pick (t 54) (t 59) Bf),[2,7]),(Mv 61 60,[8,6]),(Gt 62 61 (Ld 4),[9]),(Gt 63 61 (.nilCheck (t 62)),[10,9]),(Gt 64 61 (Fl 0 63),[11,9]),(Gt 65 61 (.call false 128 [(t 64)]),[12,9,9]),(Gt 66 61 (.bin .eql .num (t 65) (.c q)),[13,9]),(m 67 (.pick (t 61) (t 66) Bf),[9,14]),(e (.store 62 (t 6) (t 52)),[0,13,0]),(Mv 7 67,[15,16,0,1,2,3,4,5,6,7,8,9,10,11,12,13,14,15,16])] [(2,0),(1,1),(2,2),(1,3),(1,4),(1,5),(0,6),(2,7),(2,8),(2,9),(1,10),(1,11),(1,12),(0,13),(2,14),(2,15),(0,16),(2,17)] [0,0,2,6,14,30,62,126,254,510,1022,2046,4094,8190,16382,32766,16383,131071])<|
 .ret
open D in
def vb277_8:VC:=
 .seq (Rg [m 43 (Fl 3 9),m 44 (Ld 43)]<|
 .cond (t 44) (.dreg [(m 45 (Ld 11),[]),(m 46 (Ld 4),[]),(m 47 (.nilCheck (t 46)),[1]),(m 48 (Fl 0 47),[2]),(m 49 (.call false 128 [(t 48)]),[3]),(m 50 (.callV (t 45) [(t 49)]),[0,4,4]),(m 51 (Fl 44 8),[0,1,2,3,4,5]),(e (.store 17 (t 51) (t 50)),[6,5,5,0,1,2,3,4,5])] [(2,0),(1,1),(1,2),(1,3),(0,4),(0,5),(1,6),(0,7)] [0,0,2,6,14,31,63,127]) (.skip))<|
 vb277_9
open D in
def vb277_7:VC:=
 .seq (Rg [m 35 (Fl 2 9),m 36 (Ld 35)]<|
 .cond (t 36) (Rg [Mv 37 12,m 38 (.callV (t 37) []),m 39 (Fl 10 8),e (.store 17 (t 39) (t 38))]<|
 .region [Mv 40 12,m 41 (.callV (t 40) []),m 42 (Fl 27 8),e (.store 17 (t 42) (t 41))]) (.skip))<|
 vb277_8
open D in
def vb277_6:VC:=
 .seq (Rg [m 30 (Fl 1 9),m 31 (Ld 30)]<|
 .cond (t 31) (.region [m 32 (Ld 4),m 33 (.call false 54 [(t 32),(Ci 4)]),m 34 (Fl 9 8),e (.store 1 (t 34) (t 33))]) (.skip))<|
 vb277_7
open D in
def vb277_5:VC:=
 .seq (Rg [m 23 (Fl 0 9),m 24 (Ld 23)]<|
 .cond (t 24) (.dreg [(m 25 (Fl 1 8),[]),(m 26 (.sliceArr 8 1 (t 25) none none),[0]),(m 27 (Ld 4),[]),(m 28 (.call false 123 [(t 27),(Ci 8)]),[2]),(m 29 (.copyTo 1 (t 26) (t 28)),[1,3,3])] [(2,0),(2,1),(1,2),(0,3),(0,4)] [0,1,0,4,15]) (.skip))<|
 vb277_6
open D in
theorem vb277_eq:vb277 =
 (Rg [m 4 (.box 0 (t 1)),m 6 (.alloc 1 [q,o,o,o,o,o,o,o,o,q,q,o,o,o,o,o,o,o,o,o,o,o,o,o,o,o,o,q,o,o,o,o,o,o,o,o,o,o,o,o,o,o,o,o,q,o,o,o,o,o,o,o,o,o,o,o,o,o,o,o,o,(.str [])]),m 7 (.mov Bf)]<|
 Rg [Mv 13 0,Mv 14 2,m 15 (.build [q,o,o,o,o,o,o,o,o,q,q,o,o,o,o,o,o,o,o,o,o,o,o,o,o,o,o,q,o,o,o,o,o,o,o,o,o,o,o,o,o,o,o,o,q,o,o,o,o,o,o,o,o,o,o,o,o,o,o,o,o,(.str [])] [(0,1,(t 13)),(61,1,(t 14))]),m 8 (.alloc 2 [q,o,o,o,o,o,o,o,o,q,q,o,o,o,o,o,o,o,o,o,o,o,o,o,o,o,o,q,o,o,o,o,o,o,o,o,o,o,o,o,o,o,o,o,q,o,o,o,o,o,o,o,o,o,o,o,o,o,o,o,o,(.str [])]),e (.store 62 (t 8) (t 15))]<|
 Rg [Mv 17 0,m 18 (.call false 169 [(t 17)]),Mv 16 18,m 19 (.extract 0 (t 16)),m 20 (.extract 1 (t 16)),m 9 (.alloc 3 [(.bool false),(.bool false),(.bool false),(.bool false)]),m 10 (.alloc 4 [(.bool false)]),e (.store 4 (t 9) (t 19)),e (.store 1 (t 10) (t 20))]<|
 Rg [m 21 (.func 283 [(t 4),(t 10)]),m 11 (.alloc 5 [.undef]),e (.store 1 (t 11) (t 21))]<|
 Rg [m 22 (.func 284 [(t 4),(t 10),(t 11)]),Mv 12 22]<|
 vb277_5):=rfl
def RInv (σ:VHeap) (i gi:Nat) (p:Pt) (S:RS) (e:Env) (s:VHeap):Prop:=(∃ g,e 4=.ptr (σ.length+0) g 0∧g=1)∧(∃ g,e 6=.ptr (σ.length+1) g 0∧g=1)∧(∃ g,e 8=.ptr (σ.length+2) g 0∧g=1)∧(∃ g,e 9=.ptr (σ.length+3) g 0∧g=1)∧(∃ g,e 10=.ptr (σ.length+4) g 0∧g=1)∧(∃ g,e 11=.ptr (σ.length+5) g 0∧g=1)∧e 12=.fn 284 [.ptr (σ.length+0) 1 0,.ptr (σ.length+4) 1 0,.ptr (σ.length+5) 1 0]∧s=σ.set i (rdO gi S.l S.bad)++[(1,.box [.ptr i gi 0] false),(1,.box mz false),(1,.box (mrc S.m) false),(1,.box (ptc p) false),(1,.box [.bool S.ok] false),(1,.box [.fn 283 [.ptr (σ.length+0) 1 0,.ptr (σ.length+4) 1 0]] false)]
attribute [local irreducible] vBuild vCallV
section
variable {σ:VHeap} {i gi:Nat} {p:Pt} {S:RS} {Q:QP} {env:Env} {h:VHeap} {N:Nat}
theorem rd5 (hi:i<σ.length) (hN:N≤140737488355328) (oS:okS N S) (hI:RInv σ i gi p S env h) (k:∀ env' h',RInv σ i gi p (rs1 p S) env' h'→vrun Tryz.prog σ.length vb277_6 env' h' Q):vrun Tryz.prog σ.length vb277_5 env h Q:=by
 obtain⟨⟨_,e4,rfl⟩,⟨_,e6,rfl⟩,⟨_,e8,rfl⟩,⟨_,e9,rfl⟩,⟨_,e10,rfl⟩,⟨_,e11,rfl⟩,e12,rfl⟩:=hI
 have hn:(σ.set i (rdO gi S.l S.bad)).length=σ.length:=List.length_set
 have q1:cut (ptc p) 0 none=some (.bool p.rd):=rfl
 have ml:=mrc_len oS.m
 unfold vb277_5
 refine cutp (RInv σ i gi p (rs1 p S)) ?_ fun u s' hI'=>k _ _ hI'
 cases hp:p.rd with
 | false=>
   rw[hp] at q1
   have e:rs1 p S=S:=by unfold rs1;rw[hp,if_neg (by simp)]
   rw[e]
   refine W ?_
   exact⟨⟨1,e4,rfl⟩,⟨1,e6,rfl⟩,⟨1,e8,rfl⟩,⟨1,e9,rfl⟩,⟨1,e10,rfl⟩,⟨1,e11,rfl⟩,e12,rfl⟩
 | true=>
   rw[hp] at q1
   have hl:=rdT_len S.l S.bad 8
   have oS2:=rs1_ok (p:=p) oS
   obtain⟨x,q,c,hx⟩:∃ x q c,rdT S.l S.bad 8=(x,q,c):=⟨_,_,_,rfl⟩
   have e:rs1 p S=⟨{ S.m with rd:=over x S.m.rd },q,c,S.ok⟩:=by unfold rs1;rw[hp,if_pos rfl,hx]
   rw[e] at oS2
   rw[e]
   rw[hx] at hl
   dsimp only at hl
   have hn2:(σ.set i (rdO gi q c)).length=σ.length:=List.length_set
   have dB:splice (mrc S.m) 1 (((bsl x).take 8).flatten)=mrc { S.m with rd:=over x S.m.rd }:=by
    rw[sl_flat,List.take_of_length_le (by omega)]
    exact ms_over oS.m hl.1
   have ml2:=mrc_len oS2.m
   refine Wo ?_
   refine drJ (fun h=>∃ cs,vGet h (σ.length+2) 1=some (.box cs false)∧cs.length=62) [(2,0),(2,1),(1,2),(0,3),(0,4)] (by kernel_rfl) (by kernel_rfl) (by exact z_ol) ⟨_,lget hn rfl,ml⟩ ?_
   refine sv2n (fun hh ⟨cs,hg,hcl⟩=>by exact z_ya) ?_
   refine sv2n (fun hh ⟨cs,hg,hcl⟩=>by exact z_ya) ?_
   refine sv1n (by exact z_ya) ?_
   refine sv_0 ?_
   refine ct ?_
   refine oTake hx (by have:=oS.l;omega) hi ?_
   refine st_end ⟨⟨_,lget hn2 rfl,ml⟩,?_⟩
   refine sv_0 ?_
   refine est (by exact z_ea) ?_
   refine st_end ⟨⟨_,lget hn2 rfl,ml2⟩,?_⟩
   refine Wo ?_
   exact⟨⟨1,e4,rfl⟩,⟨1,e6,rfl⟩,⟨1,e8,rfl⟩,⟨1,e9,rfl⟩,⟨1,e10,rfl⟩,⟨1,e11,rfl⟩,e12,rfl⟩
theorem rd6 (hi:i<σ.length) (_hN:N≤140737488355328) (oS:okS N S) (hI:RInv σ i gi p S env h) (k:∀ env' h',RInv σ i gi p (rs2 p S) env' h'→vrun Tryz.prog σ.length vb277_7 env' h' Q):vrun Tryz.prog σ.length vb277_6 env h Q:=by
 obtain⟨⟨_,e4,rfl⟩,⟨_,e6,rfl⟩,⟨_,e8,rfl⟩,⟨_,e9,rfl⟩,⟨_,e10,rfl⟩,⟨_,e11,rfl⟩,e12,rfl⟩:=hI
 have hn:(σ.set i (rdO gi S.l S.bad)).length=σ.length:=List.length_set
 have q1:cut (ptc p) 1 none=some (.bool p.aa):=rfl
 have ml:=mrc_len oS.m
 unfold vb277_6
 refine cutp (RInv σ i gi p (rs2 p S)) ?_ fun u s' hI'=>k _ _ hI'
 cases hp:p.aa with
 | false=>
   rw[hp] at q1
   have e:rs2 p S=S:=by unfold rs2;rw[hp,if_neg (by simp)]
   rw[e]
   refine W ?_
   exact⟨⟨1,e4,rfl⟩,⟨1,e6,rfl⟩,⟨1,e8,rfl⟩,⟨1,e9,rfl⟩,⟨1,e10,rfl⟩,⟨1,e11,rfl⟩,e12,rfl⟩
 | true=>
   rw[hp] at q1
   obtain⟨x,q,c,hx⟩:∃ x q c,rdT S.l S.bad 4=(x,q,c):=⟨_,_,_,rfl⟩
   have e:rs2 p S=⟨{ S.m with aa:=(big x 0:Nat) },q,c,S.ok⟩:=by unfold rs2;rw[hp,if_pos rfl,hx]
   rw[e]
   have hn2:(σ.set i (rdO gi q c)).length=σ.length:=List.length_set
   have dB:=ms_as (z:=(big x 0:Nat)) oS.m
   refine W ?_
   refine ct ?_
   refine oNum (z:=4) hx (by decide) (by decide) hi ?_
   refine W ?_
   exact⟨⟨1,e4,rfl⟩,⟨1,e6,rfl⟩,⟨1,e8,rfl⟩,⟨1,e9,rfl⟩,⟨1,e10,rfl⟩,⟨1,e11,rfl⟩,e12,rfl⟩
theorem rd7 (hi:i<σ.length) (hN:N≤140737488355328) (oS:okS N S) (hI:RInv σ i gi p S env h) (k:∀ env' h',RInv σ i gi p (rs3 p S) env' h'→vrun Tryz.prog σ.length vb277_8 env' h' Q):vrun Tryz.prog σ.length vb277_7 env h Q:=by
 obtain⟨⟨_,e4,rfl⟩,⟨_,e6,rfl⟩,⟨_,e8,rfl⟩,⟨_,e9,rfl⟩,⟨_,e10,rfl⟩,⟨_,e11,rfl⟩,e12,rfl⟩:=hI
 have hn:(σ.set i (rdO gi S.l S.bad)).length=σ.length:=List.length_set
 have q1:cut (ptc p) 2 none=some (.bool p.fl):=rfl
 have ml:=mrc_len oS.m
 have hcl:callOk Tryz.prog 284=true:=by kernel_rfl
 unfold vb277_7
 refine cutp (RInv σ i gi p (rs3 p S)) ?_ fun u s' hI'=>k _ _ hI'
 cases hp:p.fl with
 | false=>
   rw[hp] at q1
   have e:rs3 p S=S:=by unfold rs3;rw[hp,if_neg (by simp)]
   rw[e]
   refine W ?_
   exact⟨⟨1,e4,rfl⟩,⟨1,e6,rfl⟩,⟨1,e8,rfl⟩,⟨1,e9,rfl⟩,⟨1,e10,rfl⟩,⟨1,e11,rfl⟩,e12,rfl⟩
 | true=>
   rw[hp] at q1
   have e:rs3 p S=rsG (rsS S):=by unfold rs3;rw[hp,if_pos rfl]
   rw[e]
   have o1:=rsS_ok oS
   have o2:=rsG_ok o1
   have l1:=oS.l
   have l2:=o1.l
   obtain⟨x,q,c,hx⟩:∃ x q c,rdT S.l S.bad 1=(x,q,c):=⟨_,_,_,rfl⟩
   obtain⟨x',q',c',hx'⟩:∃ x' q' c',rdT q c (big x 0 / 8)=(x',q',c'):=⟨_,_,_,rfl⟩
   have eS:rsS S=⟨{ S.m with s:=(ofA x').1 },q',c',S.ok&&decide (big x 0 % 8=0)&&decide ((ofA x').2=0)⟩:=by
    unfold rsS btT;rw[hx];dsimp only;rw[hx']
   have hn2:(σ.set i (rdO gi q' c')).length=σ.length:=List.length_set
   have dB:=ms_s oS.m (ofA_ok x')
   have al:=adc_len (ofA_ok x')
   have as1:=adc_sc (a:=(ofA x').1)
   have ml1:(mrc { S.m with s:=(ofA x').1 }).length=62:=by have:=mrc_len o1.m;rw[eS] at this;exact this
   generalize hok:(S.ok&&decide (big x 0 % 8=0)&&decide ((ofA x').2=0))=ok1 at *
   obtain⟨y,r,d,hy⟩:∃ x q c,rdT q' c' 1=(x,q,c):=⟨_,_,_,rfl⟩
   obtain⟨y',r',d',hy'⟩:∃ x' q' c',rdT r d (big y 0 / 8)=(x',q',c'):=⟨_,_,_,rfl⟩
   have eG:rsG (rsS S)=⟨{ { S.m with s:=(ofA x').1 } with g:=(ofA y').1 },r',d',ok1&&decide (big y 0 % 8=0)&&decide ((ofA y').2=0)⟩:=by
    rw[eS];unfold rsG btT;rw[hy];dsimp only;rw[hy']
   have hn3:(σ.set i (rdO gi r' d')).length=σ.length:=List.length_set
   have okm1:okM { S.m with s:=(ofA x').1 }:=by have:=o1.m;rw[eS] at this;exact this
   have dC:=ms_g okm1 (ofA_ok y')
   have al':=adc_len (ofA_ok y')
   have as2:=adc_sc (a:=(ofA y').1)
   rw[eS] at l2
   dsimp only at l2
   rw[eG]
   refine W ?_
   refine callC (vs:=[]) rfl hcl rfl ?_
   refine oBits (m:=mrc S.m) (pt:=p) (ok:=S.ok) hx hx' (by omega) hi ?_
   rw[hok]
   unfold rdL
   refine W ?_
   refine callC (vs:=[]) rfl hcl rfl ?_
   refine oBits (m:=mrc { S.m with s:=(ofA x').1 }) (pt:=p) (ok:=ok1) hy hy' (by omega) hi ?_
   unfold rdL
   refine W ?_
   exact⟨⟨1,e4,rfl⟩,⟨1,e6,rfl⟩,⟨1,e8,rfl⟩,⟨1,e9,rfl⟩,⟨1,e10,rfl⟩,⟨1,e11,rfl⟩,e12,rfl⟩
theorem rd8 (hi:i<σ.length) (hN:N≤140737488355328) (oS:okS N S) (hI:RInv σ i gi p S env h) (k:∀ env' h',RInv σ i gi p (rs4 p S) env' h'→vrun Tryz.prog σ.length vb277_9 env' h' Q):vrun Tryz.prog σ.length vb277_8 env h Q:=by
 obtain⟨⟨_,e4,rfl⟩,⟨_,e6,rfl⟩,⟨_,e8,rfl⟩,⟨_,e9,rfl⟩,⟨_,e10,rfl⟩,⟨_,e11,rfl⟩,e12,rfl⟩:=hI
 have hn:(σ.set i (rdO gi S.l S.bad)).length=σ.length:=List.length_set
 have hr:vGet (σ.set i (rdO gi S.l S.bad)) i gi=some (.box [.sl (bsl S.l),.bool S.bad] false):=hget_eq hi
 have q1:cut (ptc p) 3 none=some (.bool p.fr):=rfl
 have ml:=mrc_len oS.m
 have hcl:callOk Tryz.prog 283=true:=by kernel_rfl
 unfold vb277_8
 refine cutp (RInv σ i gi p (rs4 p S)) ?_ fun u s' hI'=>k _ _ hI'
 cases hp:p.fr with
 | false=>
   rw[hp] at q1
   have e:rs4 p S=S:=by unfold rs4;rw[hp,if_neg (by simp)]
   rw[e]
   refine W ?_
   exact⟨⟨1,e4,rfl⟩,⟨1,e6,rfl⟩,⟨1,e8,rfl⟩,⟨1,e9,rfl⟩,⟨1,e10,rfl⟩,⟨1,e11,rfl⟩,e12,rfl⟩
 | true=>
   rw[hp] at q1
   have l1:=oS.l
   obtain⟨x,q,c,hx⟩:∃ x q c,rdT S.l S.bad (if S.bad then 0 else S.l.length)=(x,q,c):=⟨_,_,_,rfl⟩
   have e:rs4 p S=⟨{ S.m with f:=(ofA x).1 },q,c,S.ok&&decide ((ofA x).2=0)⟩:=by unfold rs4 rsF;rw[hp,if_pos rfl,hx]
   rw[e]
   have hn2:(σ.set i (rdO gi q c)).length=σ.length:=List.length_set
   have dB:=ms_f oS.m (ofA_ok x)
   have al:=adc_len (ofA_ok x)
   have as1:=adc_sc (a:=(ofA x).1)
   have ml1:(mrc { S.m with f:=(ofA x).1 }).length=62:=mrc_len ⟨oS.m.rd,oS.m.s,oS.m.g,ofA_ok x⟩
   refine Wo ?_
   refine drJ (fun h=>vGet h (σ.length+5) 1=some (.box [.fn 283 [.ptr (σ.length+0) 1 0,.ptr (σ.length+4) 1 0]] false)) [(2,0),(1,1),(1,2),(1,3),(0,4),(0,5),(1,6),(0,7)] (by kernel_rfl) (by kernel_rfl) (by exact z_ol) (lget hn rfl) ?_
   refine sv2n (fun hh hg=>by exact z_ya) ?_
   refine Wo ?_
   refine sv_0 ?_
   refine ct ?_
   refine oLeft hi ?_
   refine st_end ⟨lget hn rfl,?_⟩
   refine Wo ?_
   refine sv_0 ?_
   refine callC (vs:=[.int .i64 ((if S.bad then 0 else S.l.length:Nat):Int)]) rfl hcl rfl ?_
   refine oTk (m:=mrc S.m) (pt:=p) (ok:=S.ok) (tk:=.fn 283 [.ptr (σ.length+0) 1 0,.ptr (σ.length+4) 1 0]) hx (by omega) hi ?_
   refine st_end ⟨lget hn2 rfl,?_⟩
   unfold rdL
   refine Wo ?_
   refine sv_0 ?_
   refine est (by exact z_ea) ?_
   refine st_end ⟨lget hn2 rfl,?_⟩
   refine Wo ?_
   exact⟨⟨1,e4,rfl⟩,⟨1,e6,rfl⟩,⟨1,e8,rfl⟩,⟨1,e9,rfl⟩,⟨1,e10,rfl⟩,⟨1,e11,rfl⟩,e12,rfl⟩
theorem rd9 {Post:KP} (hB:belH σ.length σ) (hi:i<σ.length) (oS:okM S.m) (hI:RInv σ i gi p S env h) (hk:Post (.tup [.agg (mrc S.m),.bool (S.ok&&(!S.bad&&decide (S.l.length=0)))]) (σ.set i (rdO gi S.l S.bad))):vrun Tryz.prog σ.length vb277_9 env h (vend vf277 (TrimP σ.length Post)):=by
 obtain⟨⟨_,e4,rfl⟩,⟨_,e6,rfl⟩,⟨_,e8,rfl⟩,⟨_,e9,rfl⟩,⟨_,e10,rfl⟩,⟨_,e11,rfl⟩,e12,rfl⟩:=hI
 have hn:(σ.set i (rdO gi S.l S.bad)).length=σ.length:=List.length_set
 have hr:vGet (σ.set i (rdO gi S.l S.bad)) i gi=some (.box [.sl (bsl S.l),.bool S.bad] false):=hget_eq hi
 have hB1:belH σ.length (σ.set i (rdO gi S.l S.bad)):=belH_setB hB
 have ml:=mrc_len oS
 have mc:=mrc_all oS
 have ms:=mrc_sc (m:=S.m)
 have mm:splice mz 0 (mrc S.m)=mrc S.m:=ms_all oS
 have mzl:mz.length=62:=rfl
 unfold vb277_9
 cases ho:S.ok with
 | false=>
   rw[ho,Bool.false_and] at hk
   refine Wo ?_
   refine drJ (fun h=>vGet h (σ.length+2) 1=some (.box (mrc S.m) false)) [(2,0),(1,1),(2,2),(1,3),(1,4),(1,5),(0,6),(2,7),(2,8),(2,9),(1,10),(1,11),(1,12),(0,13),(2,14),(2,15),(0,16),(2,17)] (by kernel_rfl) (by kernel_rfl) (by exact z_ol) (lget hn rfl) ?_
   have jj:vGet (σ.set i (rdO gi S.l S.bad)++[(1,VObj.box [.ptr i gi 0] false),(1,.box mz false),(1,.box (mrc S.m) false),(1,.box (ptc p) false),(1,.box [.bool false] false),(1,.box [.fn 283 [.ptr (σ.length+0) 1 0,.ptr (σ.length+4) 1 0]] false)]) (σ.length+2) 1=some (.box (mrc S.m) false):=lget hn rfl
   refine Wo ?_
   refine sv_0 ?_
   refine est (by exact z_ea) ?_
   refine st_end ⟨lget hn rfl,?_⟩
   refine Wo ?_
   exact hk
 | true=>
   rw[ho,Bool.true_and] at hk
   refine Wo ?_
   refine drJ (fun h=>vGet h (σ.length+2) 1=some (.box (mrc S.m) false)) [(2,0),(1,1),(2,2),(1,3),(1,4),(1,5),(0,6),(2,7),(2,8),(2,9),(1,10),(1,11),(1,12),(0,13),(2,14),(2,15),(0,16),(2,17)] (by kernel_rfl) (by kernel_rfl) (by exact z_ol) (lget hn rfl) ?_
   refine Wo ?_
   refine sv_0 ?_
   refine gt rfl ?_
   refine ct ?_
   refine oBad hi ?_
   refine st_end ⟨lget hn rfl,?_⟩
   cases hb:S.bad with
   | true=>
     rw[hb] at hk hn hr hB1
     rw[Bool.not_true,Bool.false_and] at hk
     have jj:vGet (σ.set i (rdO gi S.l true)++[(1,VObj.box [.ptr i gi 0] false),(1,.box mz false),(1,.box (mrc S.m) false),(1,.box (ptc p) false),(1,.box [.bool true] false),(1,.box [.fn 283 [.ptr (σ.length+0) 1 0,.ptr (σ.length+4) 1 0]] false)]) (σ.length+2) 1=some (.box (mrc S.m) false):=lget hn rfl
     refine Wo ?_
     refine sv_0 ?_
     refine est (by exact z_ea) ?_
     refine st_end ⟨lget hn rfl,?_⟩
     refine Wo ?_
     exact hk
   | false=>
     rw[hb] at hk hn hr hB1
     rw[Bool.not_false,Bool.true_and] at hk
     refine Wo ?_
     refine sv_0 ?_
     refine gt rfl ?_
     refine ct ?_
     refine oLeft hi ?_
     rw[if_neg (by simp)]
     refine st_end ⟨lget hn rfl,?_⟩
     by_cases h0:S.l.length=0
     ·rw[decide_eq_true h0] at hk
      refine Wo ?_
      refine sv_0 ?_
      refine est (by exact z_ea) ?_
      refine st_end ⟨lget hn rfl,?_⟩
      refine Wo ?_
      exact hk
     ·rw[decide_eq_false h0] at hk
      refine Wo ?_
      refine sv_0 ?_
      refine est (by exact z_ea) ?_
      refine st_end ⟨lget hn rfl,?_⟩
      refine Wo ?_
      exact hk
end
theorem tRead {σ:VHeap} {Post:KP} {k:Int} {i gi:Nat} {l key:List UInt8} {bad:Bool} (hl:l.length≤140737488355328) (hg:vGet σ i gi=some (.box [.sl (bsl l),.bool bad] false))
  (hk:Post (.tup [.agg (mrc (readM k l bad key).m),.bool ((readM k l bad key).ok&&(!(readM k l bad key).bad&&decide ((readM k l bad key).l.length=0)))]) (σ.set i (rdO gi (readM k l bad key).l (readM k l bad key).bad))):T Tryz.prog 277 [.int .i64 k,.ptr i gi 0,.str key] σ Post:=by
 have hi:=vGet_lt hg
 have same:σ.set i (rdO gi l bad)=σ:=set_same hg
 have oS:okS l.length (rs0 k l bad key):=rs0_ok (Nat.le_refl _)
 have w1:splice [.int .i64 k,D.o,D.o,D.o,D.o,D.o,D.o,D.o,D.o,.int .i64 0,.int .i64 0,D.o,D.o,D.o,D.o,D.o,D.o,D.o,D.o,D.o,D.o,D.o,D.o,D.o,D.o,D.o,D.o,.int .i64 0,D.o,D.o,D.o,D.o,D.o,D.o,D.o,D.o,D.o,D.o,D.o,D.o,D.o,D.o,D.o,D.o,.int .i64 0,D.o,D.o,D.o,D.o,D.o,D.o,D.o,D.o,D.o,D.o,D.o,D.o,D.o,D.o,D.o,D.o,.str []] 61 [.str key]=mrc { mr0 with k:=k,key:=key }:=rfl
 have w2:splice [.int .i64 0,D.o,D.o,D.o,D.o,D.o,D.o,D.o,D.o,.int .i64 0,.int .i64 0,D.o,D.o,D.o,D.o,D.o,D.o,D.o,D.o,D.o,D.o,D.o,D.o,D.o,D.o,D.o,D.o,.int .i64 0,D.o,D.o,D.o,D.o,D.o,D.o,D.o,D.o,D.o,D.o,D.o,D.o,D.o,D.o,D.o,D.o,.int .i64 0,D.o,D.o,D.o,D.o,D.o,D.o,D.o,D.o,D.o,D.o,D.o,D.o,D.o,D.o,D.o,D.o,.str []] 0 [.int .i64 k]=[.int .i64 k,D.o,D.o,D.o,D.o,D.o,D.o,D.o,D.o,.int .i64 0,.int .i64 0,D.o,D.o,D.o,D.o,D.o,D.o,D.o,D.o,D.o,D.o,D.o,D.o,D.o,D.o,D.o,D.o,.int .i64 0,D.o,D.o,D.o,D.o,D.o,D.o,D.o,D.o,D.o,D.o,D.o,D.o,D.o,D.o,D.o,D.o,.int .i64 0,D.o,D.o,D.o,D.o,D.o,D.o,D.o,D.o,D.o,D.o,D.o,D.o,D.o,D.o,D.o,D.o,.str []]:=rfl
 have w3:=mz_st (m:={ mr0 with k:=k,key:=key }) ⟨rfl,rfl,rfl,rfl⟩
 have w4:=mrc_len (m:={ mr0 with k:=k,key:=key }) ⟨rfl,rfl,rfl,rfl⟩
 have w5:=mrc_sc (m:={ mr0 with k:=k,key:=key })
 have oU:=uOf (k:=k)
 have ps:=pt_set (ofF k).1
 have pl:=pt_len (ofF k).1
 have pc:=pt_sc (ofF k).1
 have fin:∀ env h,RInv σ i gi (ofF k).1 (rs0 k l bad key) env h→belH σ.length σ→vrun Tryz.prog σ.length vb277_5 env h (vend vf277 (TrimP σ.length Post)):=by
  intro env h hI hB
  refine rd5 hi hl oS hI fun e1 h1 I1=>?_
  have o1:=rs1_ok (p:=(ofF k).1) oS
  refine rd6 hi hl o1 I1 fun e2 h2 I2=>?_
  have o2:=rs2_ok (p:=(ofF k).1) o1
  refine rd7 hi hl o2 I2 fun e3 h3 I3=>?_
  have o3:=rs3_ok (p:=(ofF k).1) o2
  refine rd8 hi hl o3 I3 fun e4 h4 I4=>?_
  have o4:=rs4_ok (p:=(ofF k).1) o3
  exact rd9 hB hi o4.m I4 hk
 unfold RInv rs0 at fin
 dsimp only at fin
 rw[same] at fin
 generalize ofF k=PK at oU ps pl pc fin
 obtain⟨P,K⟩:=PK
 dsimp only at oU ps pl pc fin
 clear hk oS
 refine T277 fun hB hA=>?_
 rw[vb277_eq]
 refine W ?_
 refine cu oU ?_
 refine W ?_
 refine fin _ _ ⟨⟨1,rfl,rfl⟩,⟨1,rfl,rfl⟩,⟨1,rfl,rfl⟩,⟨1,rfl,rfl⟩,⟨1,rfl,rfl⟩,⟨1,rfl,rfl⟩,rfl,rfl⟩ hB
end Go.Proofs.YtdpeaefgbmkegaaGreatDoor
