/- uroute.Take. -/
import Derived.Test.YtdpeaefgbmkegaaGreatDoorGC
import Derived.Test.YtdpeaefgbmkegaaGreatDoorEC
set_option maxHeartbeats 4000000
namespace Go.Proofs.YtdpeaefgbmkegaaGreatDoor
open Go Go.V
set_option maxRecDepth 10000
def z8:List UInt8:=[0,0,0,0,0,0,0,0]
def z16:List UInt8:=[0,0,0,0,0,0,0,0,0,0,0,0,0,0,0,0]
def nm0:Nm:=⟨z8,0,z16,0⟩
theorem nm0_eq:nmU nm0 0=uz:=rfl
theorem nm0_ok:okN nm0:=⟨rfl,rfl⟩
def over (q b:List UInt8):List UInt8:=q++b.drop q.length
theorem over_len {q b:List UInt8} (h:q.length≤b.length):(over q b).length=b.length:=by simp[over];omega
section
variable {x:Nm} {a s k:Int} {q:List UInt8}
theorem spl_rd (h:okN x) (hq:q.length≤8):splice (nmU x a) 0 (u8c q)=nmU { x with rd:=over q x.rd } a:=by
 unfold splice nmU urc over
 have h1:(u8c q).length=q.length:=u8c_len q
 rw[List.take_zero,List.nil_append,Nat.zero_add,h1,List.drop_append_of_le_length (by rw[u8c_len,h.1];exact hq),← List.append_assoc]
 congr 1
 simp[u8c]
theorem spl_b (h:okN x) (hq:q.length≤16):splice (nmU x a) 9 (u8c q)=nmU { x with b:=over q x.b } a:=by
 have e:∀ y:Nm,nmU y a=(u8c y.rd++[.int .i64 y.s])++(u8c y.b++[.int .i64 y.k,.int .i64 a]):=fun y=>by simp[nmU,urc,pfx,adr]
 have h1:(u8c x.rd++[PV.int .i64 x.s]).length=9:=by rw[List.length_append,u8c_len,h.1];rfl
 rw[e,e]
 unfold splice
 rw[List.take_left' h1,u8c_len,← List.drop_drop,List.drop_left' h1,List.drop_append_of_le_length (by rw[u8c_len,h.2];exact hq),List.append_assoc,← List.append_assoc (u8c q)]
 congr 2
 simp[u8c,over]
theorem spl_p (h:okN x):splice (nmU x a) 8 (pfx s z16 k)=nmU { x with s:=s,b:=z16,k:=k } a:=by
 have h1:(u8c x.rd).length=8:=by rw[u8c_len,h.1]
 unfold splice nmU urc
 rw[List.take_left' h1,← List.drop_drop,List.drop_left' h1,List.drop_left' (by rw[pfx_len,pfx_len,h.2];rfl),List.append_assoc]
theorem spl_a:splice uz 26 [.int .i64 a]=nmU nm0 a:=spl_label nm0_ok
end
def cand (x:UInt8) (R:List UInt8) (s:Int):Nm:=⟨(R.drop 3).take 8,s,over ((R.drop 11).take 16) z16,(x.toNat:Int) - 88⟩
def candA (R:List UInt8):Int:=(readL (R.take 3)).1
def whole (x:UInt8):Nat:=(x.toNat+7) / 8
theorem whole_lt (x:UInt8):whole x≤32:=by have:=x.toNat_lt;unfold whole;omega
theorem uWholeN (x:UInt8):U Tryz.prog 274 [.int .i64 (x.toNat:Int)] (.int .i64 (whole x:Nat)):=by
 have h:=x.toNat_lt
 have:=uWhole (n:=(x.toNat:Int)) (by omega) (by omega)
 have e:IntKind.i64.wrap (((x.toNat:Int)+7).tdiv 8)=((whole x:Nat):Int):=by
  rw[Int.tdiv_eq_ediv_of_nonneg (by omega),w_i64 (by omega) (by omega)];unfold whole;omega
 rw[e] at this;exact this
theorem uz_set:splice [D.o,D.o,D.o,D.o,D.o,D.o,D.o,D.o,.int .i64 0,D.o,D.o,D.o,D.o,D.o,D.o,D.o,D.o,D.o,D.o,D.o,D.o,D.o,D.o,D.o,D.o,.int .i64 0,.int .i64 0] 0 [D.o,D.o,D.o,D.o,D.o,D.o,D.o,D.o,.int .i64 0,D.o,D.o,D.o,D.o,D.o,D.o,D.o,D.o,D.o,D.o,D.o,D.o,D.o,D.o,D.o,D.o,.int .i64 0,.int .i64 0]=[D.o,D.o,D.o,D.o,D.o,D.o,D.o,D.o,.int .i64 0,D.o,D.o,D.o,D.o,D.o,D.o,D.o,D.o,D.o,D.o,D.o,D.o,D.o,D.o,D.o,D.o,.int .i64 0,.int .i64 0]:=rfl
theorem uz_cut:cut [D.o,D.o,D.o,D.o,D.o,D.o,D.o,D.o,.int .i64 0,D.o,D.o,D.o,D.o,D.o,D.o,D.o,D.o,D.o,D.o,D.o,D.o,D.o,D.o,D.o,D.o,.int .i64 0,.int .i64 0] 0 (some 27)=some (.agg [D.o,D.o,D.o,D.o,D.o,D.o,D.o,D.o,.int .i64 0,D.o,D.o,D.o,D.o,D.o,D.o,D.o,D.o,D.o,D.o,D.o,D.o,D.o,D.o,D.o,D.o,.int .i64 0,.int .i64 0]):=rfl
theorem uzz_set:splice uz 0 [D.o,D.o,D.o,D.o,D.o,D.o,D.o,D.o,.int .i64 0,D.o,D.o,D.o,D.o,D.o,D.o,D.o,D.o,D.o,D.o,D.o,D.o,D.o,D.o,D.o,D.o,.int .i64 0,.int .i64 0]=uz:=rfl
theorem uzz_cut:cut uz 0 (some 27)=some (.agg uz):=rfl
theorem uzz_len:uz.length=27:=rfl
instance:ClL uz:=nm0_eq▸(inferInstance:ClL (nmU nm0 0))
instance:PlL uz:=nm0_eq▸(inferInstance:PlL (nmU nm0 0))
theorem uTakeArg {l:List UInt8} {s:Int} (h4:s≠4) (h16:s≠16):U Tryz.prog 261 [.sl (bsl l),.int .i64 s] (.tup [.agg uz,.int .i64 0,.int .i64 1]):=by
 intro σ Post hk
 have d0:=uz_set
 have c0:=uz_cut
 refine T261 fun hB hA=>?_
 refine W ?_
 exact hk
def rdT (l:List UInt8) (bad:Bool) (n:Nat):List UInt8 × List UInt8 × Bool:=if bad=true∨l.length<n then([],l,true) else(l.take n,l.drop n,false)
theorem rdT_len (l:List UInt8) (bad:Bool) (n:Nat):(rdT l bad n).1.length≤n∧(rdT l bad n).1.length≤l.length∧(rdT l bad n).2.1.length≤l.length:=by
 unfold rdT;split
 ·simp
 ·simp;omega
theorem bcond {bad:Bool} {l n:Nat}:(bad=true∨(n:Int)<0∨(l:Int)<n)↔(bad=true∨l<n):=by
 constructor
 ·rintro (h|h|h)
  ·exact .inl h
  ·omega
  ·exact .inr (by omega)
 ·rintro (h|h)
  ·exact .inl h
  ·exact .inr (.inr (by omega))
theorem bcond4 {bad:Bool} {l n:Nat} (h1:1≤n) (h4:n≤4):(bad=true∨(n:Int)<1∨(4:Int)<n∨(l:Int)<n)↔(bad=true∨l<n):=by
 constructor
 ·rintro (h|h|h|h)
  ·exact .inl h
  ·omega
  ·omega
  ·exact .inr (by omega)
 ·rintro (h|h)
  ·exact .inl h
  ·exact .inr (.inr (.inr (by omega)))
theorem big_one (x:UInt8):big [x] 0=x.toNat:=by simp[big]
section
variable {σ L L':VHeap} {n k g:Nat} {Post:KP} {l p q:List UInt8} {bad c:Bool} {z:Nat}
theorem rdT_cond (h:rdT l bad z=(p,q,c)) {l1 l2:List UInt8} {b:Bool} (hb:if bad=true∨l.length<z then l1=[]∧l2=l∧b=true else l1=l.take (z:Int).toNat∧l2=l.drop (z:Int).toNat∧b=false):l1=p∧l2=q∧b=c:=by
 unfold rdT at h
 by_cases hc:bad=true∨l.length<z
 ·rw[if_pos hc] at hb h;cases h;exact hb
 ·rw[if_neg hc] at hb h;rw[Int.toNat_natCast] at hb;cases h;exact hb
theorem lTake (e:rdT l bad z=(p,q,c)) (hl:l.length≤140737488355328) (hg:vGet L k g=some (.box [.sl (bsl l),.bool bad] false)) (hk:Post (.sl (bsl p)) (σ++L'))
  (hn:σ.length=n:=by exact z_hn) (hL:L.set k (g,.box [.sl (bsl q),.bool c] false)=L':=by exact z_nl):T Tryz.prog 123 [.ptr (n+k) g 0,.int .i64 z] (σ++L) Post:=by
 subst hn hL
 refine tTake hl (lget rfl hg) fun l1 l2 b hb=>?_
 simp only[bcond] at hb
 obtain⟨rfl,rfl,rfl⟩:=rdT_cond e hb
 rw[lset rfl];exact hk
theorem lNum (e:rdT l bad z=(p,q,c)) (h1:1≤z) (h4:z≤4) (hg:vGet L k g=some (.box [.sl (bsl l),.bool bad] false)) (hk:Post (.int .i64 (big p 0)) (σ++L'))
  (hn:σ.length=n:=by exact z_hn) (hL:L.set k (g,.box [.sl (bsl q),.bool c] false)=L':=by exact z_nl):T Tryz.prog 54 [.ptr (n+k) g 0,.int .i64 z] (σ++L) Post:=by
 subst hn hL
 refine tNum (lget rfl hg) fun l1 l2 b hb=>?_
 simp only[bcond4 h1 h4] at hb
 obtain⟨rfl,rfl,rfl⟩:=rdT_cond e hb
 rw[lset rfl];exact hk
theorem lSub {m:Nat} (e:rdT l bad z=(p,q,c)) (hl:l.length≤140737488355328) (hg:vGet L k g=some (.box [.sl (bsl l),.bool bad] false)) (hk:Post (.ptr (n+m) 1 0) (σ++L'))
  (hn:σ.length=n:=by exact z_hn) (hm:L.length=m:=by exact z_ll) (hL:L.set k (g,.box [.sl (bsl q),.bool c] false)++[(1,VObj.box [.sl (bsl p),.bool c] false)]=L':=by exact z_nl):T Tryz.prog 275 [.ptr (n+k) g 0,.int .i64 z] (σ++L) Post:=by
 subst hn hL hm
 refine tSub hl hg fun l1 l2 b hb=>?_
 simp only[bcond] at hb
 obtain⟨rfl,rfl,rfl⟩:=rdT_cond e hb
 exact hk
theorem lLeft (hg:vGet L k g=some (.box [.sl (bsl l),.bool bad] false)) (hk:Post (.int .i64 (if bad then 0 else l.length:Nat)) (σ++L)) (hn:σ.length=n:=by exact z_hn):T Tryz.prog 128 [.ptr (n+k) g 0] (σ++L) Post:=by
 subst hn
 refine tLeft (lget rfl hg) ?_
 rw[bsl_len]
 cases bad<;>exact hk
theorem lBad (hg:vGet L k g=some (.box [.sl (bsl l),.bool bad] false)) (hk:Post (.bool bad) (σ++L)) (hn:σ.length=n:=by exact z_hn):T Tryz.prog 276 [.ptr (n+k) g 0] (σ++L) Post:=by
 subst hn
 exact tBad (lget rfl hg) hk
end
theorem uTakeEnd {l:List UInt8} {s:Int} (hl:l.length≤140737488355328) (hs:s=4∨s=16) (h:∀ x r,l=x::r→r.length<whole x):U Tryz.prog 261 [.sl (bsl l),.int .i64 s] (.tup [.agg uz,.int .i64 0,.int .i64 3]):=by
 intro σ Post hk
 have d0:=uz_set
 have c0:=uz_cut
 have d1:=uzz_set
 have c1:=uzz_cut
 have lz:=uzz_len
 refine T261 fun hB hA=>?_
 refine cutp (fun e h=>e 0=.sl (bsl l)∧e 1=.int .i64 s∧(∃ k,e 4=.ptr (σ.length+0) k 0∧k=1)∧h=σ++[(1,.box uz false),(0,.dead)]) ?_ ?_
 ·refine W ?_
  exact⟨rfl,rfl,⟨1,rfl,rfl⟩,rfl⟩
 rintro u _ ⟨e0,e1,⟨k,e4,rfl⟩,rfl⟩
 refine cutp (fun e h=>e 0=.sl (bsl l)∧e 1=.int .i64 s∧(∃ k,e 4=.ptr (σ.length+0) k 0∧k=1)∧h=σ++[(1,.box uz false),(0,.dead)]) ?_ ?_
 ·by_cases h4:s=4
  ·refine W ?_
   exact⟨e0,e1,⟨1,e4,rfl⟩,rfl⟩
  ·refine W ?_
   exact⟨e0,e1,⟨1,e4,rfl⟩,rfl⟩
 clear e0 e1 e4
 rintro u _ ⟨e0,e1,⟨k,e4,rfl⟩,rfl⟩
 refine W ?_
 refine ct ?_
 refine tOpen (l:=l) hl ?_
 refine W ?_
 refine ct ?_
 cases l with
 | nil=>
   refine lNum (z:=1) (l:=[]) (bad:=false) (p:=[]) (q:=[]) (c:=true) rfl (by omega) (by omega) rfl ?_
   refine W ?_
   refine cu (uWhole (n:=0) (by omega) (by omega)) ?_
   refine W ?_
   refine ct ?_
   refine lSub (z:=0) (l:=[]) (bad:=true) (p:=[]) (q:=[]) (c:=true) rfl (by simp) rfl ?_
   refine W ?_
   refine ct ?_
   refine lBad rfl ?_
   refine W ?_
   exact hk
 | cons x r=>
   have hh:=h x r rfl
   refine lNum (z:=1) (l:=x::r) (bad:=false) (p:=[x]) (q:=r) (c:=false) (by unfold rdT;rw[if_neg (by simp)];rfl) (by omega) (by omega) rfl ?_
   rw[big_one]
   refine W ?_
   refine cu (uWholeN x) ?_
   refine W ?_
   refine ct ?_
   refine lSub (z:=whole x) (l:=r) (bad:=false) (p:=[]) (q:=r) (c:=true) (by unfold rdT;rw[if_pos (by omega)]) (by simp at hl;omega) rfl ?_
   refine W ?_
   refine ct ?_
   refine lBad rfl ?_
   refine W ?_
   exact hk
theorem uEqual {a b:List UInt8}:U Tryz.prog 258 [.sl (bsl a),.sl (bsl b)] (.bool (decide (a=b))):=by
 intro σ Post hk
 refine T258 fun hB hA=>?_
 refine W ?_
 exact hk
def q1 (R:List UInt8):=rdT R false 3
def q2 (R:List UInt8):=rdT (q1 R).2.1 (q1 R).2.2 8
def lft (R:List UInt8):Nat:=if (q2 R).2.2=true then 0 else(q2 R).2.1.length
def q3 (R:List UInt8):=rdT (q2 R).2.1 (q2 R).2.2 (lft R)
def candG (x:UInt8) (R:List UInt8) (s:Int):Nm:=⟨over (q2 R).1 z8,s,over ((q3 R).1.take 16) z16,(x.toNat:Int) - 88⟩
def candGA (R:List UInt8):Int:=(readL (q1 R).1).1
theorem candG_ok (x:UInt8) (R:List UInt8) (s:Int):okN (candG x R s):=by
 have h:=(rdT_len (q1 R).2.1 (q1 R).2.2 8).1
 exact⟨over_len h,over_len (by rw[List.length_take];exact Nat.min_le_left _ _)⟩
theorem candG_eq {x:UInt8} {R:List UInt8} {s:Int} (h:11≤R.length):candG x R s=cand x R s∧candGA R=candA R:=by
 have e1:q1 R=(R.take 3,R.drop 3,false):=by unfold q1 rdT;rw[if_neg (by simp;omega)]
 have e2:q2 R=((R.drop 3).take 8,(R.drop 3).drop 8,false):=by unfold q2;rw[e1];unfold rdT;rw[if_neg (by simp;omega)]
 have e3:q3 R=(R.drop 11,[],false):=by
  unfold q3 lft;rw[e2];unfold rdT;simp;exact⟨List.take_of_length_le (by simp),by omega⟩
 unfold candG candGA cand candA
 rw[e1,e2,e3]
 refine⟨?_,rfl⟩
 congr 1
 unfold over
 have:((R.drop 3).take 8).length=8:=by simp;omega
 rw[this];simp[z8]
theorem sl_flat (l:List UInt8) (n:Nat):((bsl l).take n).flatten=u8c (l.take n):=by
 have e:(bsl l).take n=bsl (l.take n):=by simp[bsl,List.map_take]
 rw[e,bsl,u8c]
 induction l.take n with
 | nil=>rfl
 | cons a r ih=>simp[ih]
theorem readL_rng (l:List UInt8):0≤(readL l).1∧(readL l).1≤1048575:=by
 unfold readL
 split
 ·rename_i h
  have:=big_lt l 0
  rw[h.1] at this
  simp only[];omega
 ·simp
theorem uTakeGo {x:UInt8} {r:List UInt8} {s:Int} (hl:(x::r).length≤140737488355328) (hs:s=4∨s=16) (hr:whole x≤r.length) {c:Nm} {a:Int} (hc:candG x (r.take (whole x)) s=c) (ha:candGA (r.take (whole x))=a) :
  (okR c a=true∧ubN c a=(x::r).take (1+whole x)→U Tryz.prog 261 [.sl (bsl (x::r)),.int .i64 s] (.tup [.agg (nmU c a),.int .i64 (1+(whole x:Int)),.int .i64 0]))∧
  (¬ (okR c a=true∧ubN c a=(x::r).take (1+whole x))→U Tryz.prog 261 [.sl (bsl (x::r)),.int .i64 s] (.tup [.agg uz,.int .i64 0,.int .i64 4])):=by
 have hw:=whole_lt x
 have hxl:=x.toNat_lt
 have hR:(r.take (whole x)).length=whole x:=by rw[List.length_take];omega
 have key:∀ {σ:VHeap} {Post:KP},(okR c a=true∧ubN c a=(x::r).take (1+whole x)→Post (.tup [.agg (nmU c a),.int .i64 (1+(whole x:Int)),.int .i64 0]) σ)→
   (¬ (okR c a=true∧ubN c a=(x::r).take (1+whole x))→Post (.tup [.agg uz,.int .i64 0,.int .i64 4]) σ)→T Tryz.prog 261 [.sl (bsl (x::r)),.int .i64 s] σ Post:=by
  intro σ Post hk1 hk2
  generalize hRR:r.take (whole x)=R at *
  have hl1:=rdT_len R false 3
  have hl2:=rdT_len (q1 R).2.1 (q1 R).2.2 8
  have hl3:=rdT_len (q2 R).2.1 (q2 R).2.2 (lft R)
  obtain⟨p1,r1,b1,h1⟩:∃ p q c,rdT R false 3=(p,q,c):=⟨_,_,_,rfl⟩
  obtain⟨p2,r2,b2,h2⟩:∃ p q c,rdT r1 b1 8=(p,q,c):=⟨_,_,_,rfl⟩
  obtain⟨p3,r3,b3,h3⟩:∃ p q c,rdT r2 b2 (if b2 then 0 else r2.length)=(p,q,c):=⟨_,_,_,rfl⟩
  have e1:q1 R=(p1,r1,b1):=h1
  have e2:q2 R=(p2,r2,b2):=by unfold q2;rw[e1];exact h2
  have e3:q3 R=(p3,r3,b3):=by unfold q3 lft;rw[e2];exact h3
  have hcc:c=⟨over p2 z8,s,over (p3.take 16) z16,(x.toNat:Int) - 88⟩:=by rw[← hc];unfold candG;rw[e2,e3]
  have haa:a=(readL p1).1:=by rw[← ha];unfold candGA;rw[e1]
  rw[h1] at hl1
  have e1':rdT (q1 R).2.1 (q1 R).2.2 8=(p2,r2,b2):=e2
  rw[e1',e1] at hl2
  have e2':rdT (q2 R).2.1 (q2 R).2.2 (lft R)=(p3,r3,b3):=e3
  rw[e2',e2] at hl3
  dsimp only at hl1 hl2 hl3
  have hc2:okN c:=by rw[← hc];exact candG_ok _ _ _
  clear e1 e2 e3 e1' e2' hc ha
  have ra:=readL_rng p1
  rw[← haa] at ra
  have d0:=uz_set
  have c0:=uz_cut
  have d1:=uzz_set
  have c1:=uzz_cut
  have lz:=uzz_len
  have dA:splice uz 26 [.int .i64 a]=nmU nm0 a:=spl_a
  refine T261 fun hB hA=>?_
  refine cutp (fun e h=>e 0=.sl (bsl (x::r))∧e 1=.int .i64 s∧(∃ k,e 4=.ptr (σ.length+0) k 0∧k=1)∧h=σ++[(1,.box uz false),(0,.dead)]) ?_ ?_
  ·refine W ?_
   exact⟨rfl,rfl,⟨1,rfl,rfl⟩,rfl⟩
  rintro u _ ⟨e0,e1,⟨k,e4,rfl⟩,rfl⟩
  refine cutp (fun e h=>e 0=.sl (bsl (x::r))∧e 1=.int .i64 s∧(∃ k,e 4=.ptr (σ.length+0) k 0∧k=1)∧h=σ++[(1,.box uz false),(0,.dead)]) ?_ ?_
  ·by_cases h4:s=4
   ·refine W ?_
    exact⟨e0,e1,⟨1,e4,rfl⟩,rfl⟩
   ·refine W ?_
    exact⟨e0,e1,⟨1,e4,rfl⟩,rfl⟩
  clear e0 e1 e4
  rintro u _ ⟨e0,e1,⟨k,e4,rfl⟩,rfl⟩
  -- the readers, to the label
  refine W ?_
  refine ct ?_
  refine tOpen (l:=x::r) hl ?_
  refine W ?_
  refine ct ?_
  refine lNum (z:=1) (l:=x::r) (bad:=false) (p:=[x]) (q:=r) (c:=false) (by unfold rdT;rw[if_neg (by simp)];rfl) (by omega) (by omega) rfl ?_
  rw[big_one]
  refine W ?_
  refine cu (uWholeN x) ?_
  refine W ?_
  refine ct ?_
  refine lSub (z:=whole x) (l:=r) (bad:=false) (p:=R) (q:=r.drop (whole x)) (c:=false) (by unfold rdT;rw[if_neg (by simp;omega),hRR]) (by simp at hl;omega) rfl ?_
  refine W ?_
  refine ct ?_
  refine lBad rfl ?_
  refine W ?_
  refine ct ?_
  refine lTake (z:=3) (l:=R) (bad:=false) h1 (by omega) rfl ?_
  refine W ?_
  refine cu (uReadL (l:=p1) (by omega)) ?_
  rw[← haa]
  have lA:=nmU_len (a:=a) nm0_ok
  have okP2:okN ⟨over p2 z8,0,z16,0⟩:=⟨over_len (by show p2.length≤8;omega),rfl⟩
  have dB:splice (nmU nm0 a) 0 (((bsl p2).take 8).flatten)=nmU ⟨over p2 z8,0,z16,0⟩ a:=by
   rw[sl_flat,spl_rd nm0_ok (by rw[List.length_take];omega),List.take_of_length_le (by omega)];rfl
  refine Wo ?_
  refine drJ (fun h=>∃ cs,vGet h (σ.length+1) 1=some (.box cs false)∧cs.length=27) [(2,0),(2,1),(2,2),(0,3),(0,4)] (by kernel_rfl) (by kernel_rfl) (by exact z_ol) ⟨_,lget rfl rfl,lA⟩ ?_
  refine sv2n (fun hh ⟨cs,hg,hcl⟩=>by exact z_ya) ?_
  refine sv2n (fun hh ⟨cs,hg,hcl⟩=>by exact z_ya) ?_
  refine sv2n (fun hh ⟨cs,hg,hcl⟩=>by exact z_ya) ?_
  refine sv_0 ?_
  refine ct ?_
  refine lTake (z:=8) (l:=r1) (bad:=b1) h2 (by omega) rfl ?_
  refine st_end ⟨⟨_,lget rfl rfl,lA⟩,?_⟩
  refine sv_0 ?_
  refine est (by exact z_ea) ?_
  refine st_end ⟨⟨_,lget rfl rfl,nmU_len okP2⟩,?_⟩
  have lB:=nmU_len (a:=a) okP2
  have k1:IntKind.i64.wrap ((x.toNat:Int) - 88)=(x.toNat:Int) - 88:=w_i64 (by omega) (by omega)
  have dC:splice [.int .i64 0,D.o,D.o,D.o,D.o,D.o,D.o,D.o,D.o,D.o,D.o,D.o,D.o,D.o,D.o,D.o,D.o,.int .i64 0] 0 [.int .i64 s,D.o,D.o,D.o,D.o,D.o,D.o,D.o,D.o,D.o,D.o,D.o,D.o,D.o,D.o,D.o,D.o]=[.int .i64 s,D.o,D.o,D.o,D.o,D.o,D.o,D.o,D.o,D.o,D.o,D.o,D.o,D.o,D.o,D.o,D.o,.int .i64 0]:=rfl
  have dD:splice (nmU ⟨over p2 z8,0,z16,0⟩ a) 8 [.int .i64 s,D.o,D.o,D.o,D.o,D.o,D.o,D.o,D.o,D.o,D.o,D.o,D.o,D.o,D.o,D.o,D.o,.int .i64 ((x.toNat:Int) - 88)]=nmU ⟨over p2 z8,s,z16,(x.toNat:Int) - 88⟩ a:=spl_p okP2
  have okP3:okN ⟨over p2 z8,s,z16,(x.toNat:Int) - 88⟩:=⟨okP2.1,rfl⟩
  have lC:=nmU_len (a:=a) okP3
  have dE:splice (nmU ⟨over p2 z8,s,z16,(x.toNat:Int) - 88⟩ a) 9 (((bsl p3).take 16).flatten)=nmU c a:=by
   rw[sl_flat,spl_b okP3 (by rw[List.length_take];omega),hcc]
  have lE:=nmU_len (a:=a) hc2
  have cE:=nmU_all (a:=a) hc2
  have sE:=nmU_sc (x:=c) (a:=a)
  have dF:splice uz 0 (nmU c a)=nmU c a:=spl_all hc2
  have kz:(if b2=true then 0 else r2.length)≤1000000:=by split<;>omega
  refine Wo ?_
  refine drJ (fun h=>∃ cs,vGet h (σ.length+1) 1=some (.box cs false)∧cs.length=27) [(2,0),(2,1),(2,2),(2,3),(2,4),(2,5),(1,6),(1,7),(0,8),(0,9),(0,10)] (by kernel_rfl) (by kernel_rfl) (by exact z_ol) ⟨_,lget rfl rfl,lC⟩ ?_
  refine sv2n (fun hh ⟨cs,hg,hcl⟩=>by exact z_ya) ?_
  refine sv2n (fun hh ⟨cs,hg,hcl⟩=>by exact z_ya) ?_
  refine sv2n (fun hh ⟨cs,hg,hcl⟩=>by exact z_ya) ?_
  refine sv2n (fun hh ⟨cs,hg,hcl⟩=>by exact z_ya) ?_
  refine sv2n (fun hh ⟨cs,hg,hcl⟩=>by exact z_ya) ?_
  refine sv2n (fun hh ⟨cs,hg,hcl⟩=>by exact z_ya) ?_
  refine Wo ?_
  refine sv_0 ?_
  refine ct ?_
  refine lLeft (l:=r2) (bad:=b2) rfl ?_
  refine st_end ⟨⟨_,lget rfl rfl,lC⟩,?_⟩
  refine sv_0 ?_
  refine ct ?_
  refine lTake (l:=r2) (bad:=b2) h3 (by omega) rfl ?_
  refine st_end ⟨⟨_,lget rfl rfl,lC⟩,?_⟩
  refine sv_0 ?_
  refine est (by exact z_ea) ?_
  refine st_end ⟨⟨_,lget rfl rfl,lE⟩,?_⟩
  refine Wo ?_
  refine cu (uWholeN x) ?_
  refine Wo ?_
  cases ho:okR c a with
  | false=>
    have hk2:=hk2 (by rw[ho];simp)
    refine cu (uNmBytes0 hc2 ho) ?_
    refine W ?_
    exact hk2
  | true=>
    refine cu (uNmBytes hc2 ho) ?_
    refine W ?_
    refine cu (uEqual (a:=ubN c a) (b:=(x::r).take (1+(whole x:Int)).toNat)) ?_
    have e5:(1+(whole x:Int)).toNat=1+whole x:=by omega
    rw[e5]
    by_cases hq:ubN c a=(x::r).take (1+whole x)
    ·have hk1:=hk1 ⟨ho,hq⟩
     rw[decide_eq_true hq]
     refine W ?_
     exact hk1
    ·have hk2:=hk2 (fun h=>hq h.2)
     rw[decide_eq_false hq]
     refine W ?_
     exact hk2
 exact⟨fun h σ Post hk=>key (fun _=>hk) fun h'=>(h' h).elim,fun h σ Post hk=>key (fun h'=>(h h').elim) fun _=>hk⟩
structure TR where
 x:Nm
 a:Int
 n:Nat
 e:Int
def takeF (l:List UInt8) (s:Int):TR:=
 if s≠4∧s≠16 then⟨nm0,0,0,1⟩ else match l with
 | []=>⟨nm0,0,0,3⟩
 | x::r=>if r.length<whole x then⟨nm0,0,0,3⟩ else
   if okR (candG x (r.take (whole x)) s) (candGA (r.take (whole x)))=true∧ubN (candG x (r.take (whole x)) s) (candGA (r.take (whole x)))=(x::r).take (1+whole x) then⟨candG x (r.take (whole x)) s,candGA (r.take (whole x)),1+whole x,0⟩ else⟨nm0,0,0,4⟩
theorem uTake {l:List UInt8} {s:Int} (hl:l.length≤140737488355328):U Tryz.prog 261 [.sl (bsl l),.int .i64 s] (.tup [.agg (nmU (takeF l s).x (takeF l s).a),.int .i64 ((takeF l s).n:Int),.int .i64 (takeF l s).e]):=by
 unfold takeF
 by_cases hs:s≠4∧s≠16
 ·rw[if_pos hs];exact uTakeArg hs.1 hs.2
 ·rw[if_neg hs]
  have hs':s=4∨s=16:=by omega
  cases l with
  | nil=>exact uTakeEnd hl hs' fun x r h=>by cases h
  | cons x r=>
    dsimp only
    by_cases hr:r.length<whole x
    ·rw[if_pos hr]
     exact uTakeEnd hl hs' fun y q h=>by cases h;exact hr
    ·rw[if_neg hr]
     obtain⟨h1,h2⟩:=uTakeGo hl hs' (by omega) (c:=candG x (r.take (whole x)) s) (a:=candGA (r.take (whole x))) rfl rfl
     split
     ·rename_i hc
      have:=h1 hc
      rw[show (1+(whole x:Int))=((1+whole x:Nat):Int) by omega] at this
      exact this
     ·rename_i hc;exact h2 hc
theorem takeF_ok (l:List UInt8) (s:Int):okN (takeF l s).x:=by
 unfold takeF
 split
 ·exact nm0_ok
 ·split
  ·exact nm0_ok
  ·split
   ·exact nm0_ok
   ·split
    ·exact candG_ok _ _ _
    ·exact nm0_ok
theorem ubN_len1 {x:Nm} {a:Int} (h:okN x) (hk:0≤x.k) (hk2:x.k≤128):(ubN x a).length=12+((x.k+7) / 8).toNat:=by
 rw[ubN_len h];omega
theorem okR_parts {x:Nm} {a:Int} (h:okR x a=true):(x.s=4∨x.s=16)∧0≤x.k∧x.k≤8 * x.s∧cutB x.b x.k=x.b∧okA x.s x.b=true:=by
 have h1:=h
 unfold okR okU okP at h1
 simp only[Bool.and_eq_true,decide_eq_true_eq,bne_iff_ne,ne_eq,beq_iff_eq] at h1
 obtain⟨⟨⟨⟨⟨⟨h2,h3⟩,h4⟩,h5⟩,h6⟩,_⟩,_⟩:=h1
 refine⟨?_,h4,h5,h6,h2⟩
 unfold okA at h2
 simp only[Bool.and_eq_true,Bool.or_eq_true,beq_iff_eq] at h2
 omega
theorem takeF_good {l:List UInt8} {s:Int} (h:(takeF l s).e=0):okR (takeF l s).x (takeF l s).a=true∧(takeF l s).x.s=s∧ubN (takeF l s).x (takeF l s).a=l.take (takeF l s).n∧(takeF l s).n≤l.length∧12≤(takeF l s).n:=by
 have h':=h
 unfold takeF at h
 split at h
 ·cases h
 ·rename_i hs
  split at h
  ·cases h
  ·rename_i x r
   split at h
   ·cases h
   ·rename_i hr
    split at h
    ·rename_i hc
     have e:takeF (x::r) s=⟨candG x (r.take (whole x)) s,candGA (r.take (whole x)),1+whole x,0⟩:=by
      unfold takeF
      rw[if_neg hs];dsimp only;rw[if_neg hr,if_pos hc]
     rw[e]
     have h5:=congrArg List.length hc.2
     rw[ubN_len (candG_ok _ _ _),List.length_take,List.length_cons] at h5
     exact⟨hc.1,rfl,hc.2,by rw[List.length_cons];show 1+whole x≤_;omega,by show 12≤1+whole x;omega⟩
    ·cases h
theorem cutB_zero:∀ (b:List UInt8) (k:Int) (w:Nat),cutB b k=b→k≤8 * w→b.drop w=List.replicate (b.length - w) 0
 | [],_,_,_,_=>by simp
 | x::r,k,w,h,hk=>by
   rw[cutB,List.cons.injEq] at h
   cases w with
   | zero=>
     have h0:maskB k=0:=by unfold maskB;rw[if_pos (by omega)]
     rw[h0] at h
     have hx:x=0:=by rw[← h.1];simp
     have:=cutB_zero r (k - 8) 0 h.2 (by omega)
     rw[List.drop_zero] at this ⊢
     rw[hx,List.length_cons,Nat.sub_zero,List.replicate_succ]
     rw[Nat.sub_zero] at this
     rw[← this]
   | succ w=>
     rw[List.drop_succ_cons,cutB_zero r (k - 8) w h.2 (by omega),List.length_cons];congr 1;omega
theorem over_cut {b:List UInt8} {k:Int} {w:Nat} (hb:b.length=16) (h:cutB b k=b) (hw:w≤16) (hk:k≤8 * w):over (b.take w) z16=b:=by
 have e:=cutB_zero b k w h hk
 have e2:z16=List.replicate 16 0:=rfl
 unfold over
 rw[List.length_take,hb,Nat.min_eq_left hw,e2,List.drop_replicate,← hb,← e,List.take_append_drop]
theorem readL_be {c:Nat} (h:c≤1048575):(readL (be (c * 16+1) 3)).1=c:=by
 have e:=big_be (c * 16+1) 3 0
 have h3:(256:Nat) ^ 3=16777216:=by decide
 rw[h3,Nat.mod_eq_of_lt (by omega),Nat.zero_mul,Nat.zero_add] at e
 unfold readL
 rw[e,if_pos ⟨be_len _ 3,by omega⟩]
 simp only[];omega
theorem takeF_back {y:Nm} {c:Int} (hy:okN y) (h:okR y c=true) (t:List UInt8):takeF (ubN y c++t) y.s=⟨y,c,(ubN y c).length,0⟩:=by
 obtain⟨h1,h2,h3,h4,h5⟩:=okR_parts h
 have h6:=okR_lab h
 have hk:y.k≤128:=by omega
 obtain⟨w,hw⟩:∃ w:Nat,(y.k+7) / 8=w:=⟨((y.k+7) / 8).toNat,by omega⟩
 have hw16:w≤16:=by omega
 have hlen:(ubN y c).length=12+w:=by rw[ubN_len1 hy h2 hk,hw];simp
 have hcons:=ubN_cons y c
 rw[hw,Int.toNat_natCast] at hcons
 generalize hx:UInt8.ofNat (88+y.k).toNat=x at hcons
 have hxn:(x.toNat:Int)=88+y.k:=by
  rw[← hx]
  have:(UInt8.ofNat (88+y.k).toNat).toNat=(88+y.k).toNat:=by simp;omega
  omega
 have hwh:whole x=11+w:=by unfold whole;omega
 have hbe:=be_len (c.toNat * 16+1) 3
 have hbt:(y.b.take w).length=w:=by rw[List.length_take,hy.2];omega
 generalize hq:be (c.toNat * 16+1) 3=q at hcons hbe
 have hr:((q++(y.rd++y.b.take w))++t).take (whole x)=q++(y.rd++y.b.take w):=by
  rw[List.take_left'];simp only[List.length_append,hbe,hy.1,hbt,hwh];omega
 have hrl:whole x≤((q++(y.rd++y.b.take w))++t).length:=by simp only[List.length_append,hbe,hy.1,hbt,hwh];omega
 have hR11:11≤(q++(y.rd++y.b.take w)).length:=by simp only[List.length_append,hbe,hy.1,hbt];omega
 obtain⟨c1,c2⟩:=candG_eq (x:=x) (s:=y.s) hR11
 have d3:(q++(y.rd++y.b.take w)).drop 3=y.rd++y.b.take w:=List.drop_left' hbe
 have d11:(q++(y.rd++y.b.take w)).drop 11=y.b.take w:=by
  rw[show 11=3+8 from rfl,← List.drop_drop,d3,List.drop_left' hy.1]
 have e1:cand x (q++(y.rd++y.b.take w)) y.s=y:=by
  unfold cand
  rw[d3,d11,List.take_left' hy.1,List.take_of_length_le (l:=y.b.take w) (by omega),over_cut hy.2 h4 hw16 (by omega),hxn]
  have:(88+y.k - 88)=y.k:=by omega
  rw[this]
 have e2:candA (q++(y.rd++y.b.take w))=c:=by
  unfold candA
  rw[List.take_left' hbe,← hq,readL_be (by omega)];omega
 rw[e1] at c1
 rw[e2] at c2
 have hne:¬ (y.s≠4∧y.s≠16):=by omega
 rw[hcons,List.cons_append]
 unfold takeF
 rw[if_neg hne];dsimp only
 rw[if_neg (by omega),hr,c1,c2,if_pos]
 ·rw[hwh,← hcons,hlen];congr 1;omega
 ·refine⟨h,?_⟩
  rw[show (1+whole x)=(whole x)+1 by omega,List.take_succ_cons,hr];exact hcons
abbrev UR:=Nm × Int
@[reducible] def rows (l:List UR):List (List PV):=l.map fun p=>nmU p.1 p.2
def okRow (l:List UR):Prop:=∀ p,p∈l→okN p.1
def flatB (l:List UR):List UInt8:=(l.map fun p=>ubN p.1 p.2).flatten
def rowF (l:List UR):List UInt8 × Int:=if l.all (fun p=>okR p.1 p.2) then(flatB l,0) else([],1)
theorem flatB_len {l:List UR} (h:okRow l):(flatB l).length≤28 * l.length:=by
 induction l with
 | nil=>simp[flatB]
 | cons p r ih=>
   have h1:=ubN_len (a:=p.2) (h p (by simp))
   have:=ih fun q hq=>h q (by simp[hq])
   unfold flatB at this ⊢
   rw[List.map_cons,List.flatten_cons,List.length_append,List.length_cons];omega
theorem flatB_snoc (l:List UR) (p:UR):flatB (l++[p])=flatB l++ubN p.1 p.2:=by simp[flatB]
theorem gir {l:List UR} {i:Nat} {p:UR} (h:l[i]?=some p):(rows l)[(i:Int).toNat]?=some (nmU p.1 p.2):=by rw[Int.toNat_natCast,List.getElem?_map,h];rfl
theorem uRow {l:List UR} (h:okRow l) (hl:l.length≤1000000):U Tryz.prog 238 [.sl (rows l)] (.tup [.sl (bsl (rowF l).1),.int .i64 (rowF l).2]):=by
 intro σ Post hk
 have d0:=uz_set
 refine T238 fun hB hA=>?_
 refine W ?_
 refine lp (fun j e s=>∃ (i g1 g2:Nat) (o1 o2:VObj),i+j=l.length∧e 11=.int .i64 i∧e 4=.row (σ.length+1) (i+1)∧(l.take i).all (fun p=>okR p.1 p.2)=true∧
  s=σ++[(1,.row 1 [] false),(i+1,.row 1 (bsl (flatB (l.take i))) false),(g1,o1),(g2,o2)]) l.length ⟨0,0,0,.dead,.dead,by simp,rfl,rfl,rfl,rfl⟩ ?_
 rintro j u _ ⟨i,g1,g2,o1,o2,hi,e11,e4,hal,rfl⟩
 by_cases h5:i<l.length
 ·obtain⟨p,hp⟩:∃ p,l[i]?=some p:=⟨_,List.getElem?_eq_getElem h5⟩
  have hg:=gir hp
  have hpo:=h p (List.mem_of_getElem? hp)
  have ln:=nmU_len (a:=p.2) hpo
  have c0:=nmU_all (a:=p.2) hpo
  have sc:=nmU_sc (x:=p.1) (a:=p.2)
  have d1:=spl_all' (a:=p.2) (cs:=[D.o,D.o,D.o,D.o,D.o,D.o,D.o,D.o,.int .i64 0,D.o,D.o,D.o,D.o,D.o,D.o,D.o,D.o,D.o,D.o,D.o,D.o,D.o,D.o,D.o,D.o,.int .i64 0,.int .i64 0]) rfl hpo
  have hfl:=flatB_len (l:=l.take i) fun q hq=>h q (List.mem_of_mem_take hq)
  have hub:=ubN_len (a:=p.2) hpo
  rw[List.length_take] at hfl
  have e7:l.take (i+1)=l.take i++[p]:=by
   rw[List.take_succ_eq_append_getElem h5];congr 2
   rw[List.getElem?_eq_getElem h5] at hp;exact Option.some.inj hp
  refine W ?_
  cases ho:okR p.1 p.2 with
  | true=>
    refine cu (uNmBytes hpo ho) ?_
    refine W ?_
    refine⟨j - 1,by omega,i+1,g1+1,g2,.box (nmU p.1 p.2) false,o2,by omega,rfl,rfl,?_,?_⟩
    ·rw[e7,List.all_append,hal];simp[ho]
    ·rw[e7,flatB_snoc]
  | false=>
    have hr:rowF l=([],1):=by
     unfold rowF
     rw[if_neg]
     intro hall
     have:=List.all_eq_true.1 hall p (List.mem_of_getElem? hp)
     rw[ho] at this;cases this
    rw[hr] at hk
    refine cu (uNmBytes0 hpo ho) ?_
    refine W ?_
    exact hk
 ·have h9:l.take i=l:=List.take_of_length_le (by omega)
  rw[h9] at hal
  rw[h9]
  have hr:rowF l=(flatB l,0):=by unfold rowF;rw[if_pos hal]
  rw[hr] at hk
  refine W ?_
  exact hk
def rrF (s:Int) (l:List UInt8) (out:List UR):List UR × Int:=
 if l=[] then(out,0) else if (takeF l s).e=0∧0<(takeF l s).n∧0<l.length then rrF s (l.drop (takeF l s).n) (out++[((takeF l s).x,(takeF l s).a)]) else([],(takeF l s).e)
termination_by l.length
decreasing_by simp only[List.length_drop];omega
def readF (l:List UInt8) (s:Int):List UR × Int:=if s≠4∧s≠16 then([],1) else rrF s l []
theorem uReadRow {l:List UInt8} {s:Int} (hl:l.length≤1000000):U Tryz.prog 240 [.sl (bsl l),.int .i64 s] (.tup [.sl (rows (readF l s).1),.int .i64 (readF l s).2]):=by
 intro σ Post hk
 have d0:=uz_set
 unfold readF at hk
 by_cases hs:s≠4∧s≠16
 ·rw[if_pos hs] at hk
  have h4:=hs.1
  have h16:=hs.2
  refine T240 fun hB hA=>?_
  refine W ?_
  exact hk
 rw[if_neg hs] at hk
 refine T240 fun hB hA=>?_
 refine cutp (fun e h=>e 0=.sl (bsl l)∧e 1=.int .i64 s∧h=σ++[(1,.row 27 [] false),(0,.dead),(0,.dead),(0,.dead),(0,.dead)]) ?_ ?_
 ·refine W ?_
  exact⟨rfl,rfl,rfl⟩
 rintro u _ ⟨e0,e1,rfl⟩
 refine cutp (fun e h=>e 0=.sl (bsl l)∧e 1=.int .i64 s∧h=σ++[(1,.row 27 [] false),(0,.dead),(0,.dead),(0,.dead),(0,.dead)]) ?_ ?_
 ·by_cases h4:s=4
  ·refine W ?_
   exact⟨e0,e1,rfl⟩
  ·have h16:s=16:=by omega
   refine W ?_
   exact⟨e0,e1,rfl⟩
 clear e0 e1
 rintro u _ ⟨e0,e1,rfl⟩
 refine W ?_
 refine lp (fun j e h=>∃ (r:List UInt8) (out:List UR) (g1 g2 g3:Nat) (o1 o2 o3:VObj),r.length=j∧e 0=.sl (bsl r)∧e 1=.int .i64 s∧okRow out∧out.length+r.length≤l.length∧rrF s r out=rrF s l []∧e 6=.row (σ.length+1) (out.length+1)∧
  h=σ++[(1,.row 27 [] false),(out.length+1,.row 27 (rows out) false),(g1,o1),(g2,o2),(g3,o3)]) l.length ⟨l,[],0,0,0,.dead,.dead,.dead,rfl,rfl,rfl,fun p hp=>by simp at hp,by simp,rfl,rfl,rfl⟩ ?_
 rintro j u _ ⟨r,out,g1,g2,g3,o1,o2,o3,hj,e0,e1,hout,hlen,hrr,e6,rfl⟩
 by_cases h5:0<r.length
 ·have hne:r≠[]:=fun e=>by rw[e] at h5;simp at h5
  rw[rrF,if_neg hne] at hrr
  have hxo:=takeF_ok r s
  have hu:=uTake (l:=r) (s:=s) (by omega)
  have hgood:=takeF_good (l:=r) (s:=s)
  generalize takeF r s=t at *
  have ln:=nmU_len (a:=t.a) hxo
  have c0:=nmU_all (a:=t.a) hxo
  have sc:=nmU_sc (x:=t.x) (a:=t.a)
  have d1:=spl_all' (a:=t.a) (cs:=[D.o,D.o,D.o,D.o,D.o,D.o,D.o,D.o,.int .i64 0,D.o,D.o,D.o,D.o,D.o,D.o,D.o,D.o,D.o,D.o,D.o,D.o,D.o,D.o,D.o,D.o,.int .i64 0,.int .i64 0]) rfl hxo
  refine W ?_
  refine cu hu ?_
  by_cases he:t.e=0
  ·obtain⟨a1,a2,a3,a4,a5⟩:=hgood he
   rw[if_pos ⟨he,by omega,h5⟩] at hrr
   have hrok:RowOk 27 [nmU t.x t.a]:=by intro e he;simp at he;subst he;exact⟨ln,sc⟩
   refine W ?_
   refine⟨j - t.n,by omega,r.drop t.n,out++[(t.x,t.a)],g1+1,g2+1,g3,.box (nmU t.x t.a) false,.row 27 [nmU t.x t.a] false,o3,by rw[List.length_drop];omega,?_,e1,?_,?_,hrr,?_,?_⟩
   ·show PV.sl _=PV.sl _
    rw[Int.toNat_natCast]
   ·intro p hp
    rcases List.mem_append.1 hp with hp|hp
    ·exact hout p hp
    ·simp at hp;subst hp;exact hxo
   ·rw[List.length_append,List.length_drop];simp only[List.length_cons,List.length_nil];omega
   ·show PV.row _ _=PV.row _ _
    rw[List.length_append];rfl
   ·rw[List.length_append]
    simp[rows]
  ·rw[if_neg (fun h=>he h.1)] at hrr
   rw[← hrr] at hk
   refine W ?_
   exact hk
 ·have hr:r=[]:=List.length_eq_zero_iff.1 (by omega)
  subst hr
  rw[rrF,if_pos rfl] at hrr
  rw[← hrr] at hk
  refine W ?_
  exact hk
end Go.Proofs.YtdpeaefgbmkegaaGreatDoor
