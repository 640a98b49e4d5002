/- update: row, read, sameTable, wrong; rib: alone. -/
import Derived.Test.YtdpeaefgbmkegaaGreatDoorHW
set_option maxHeartbeats 8000000
namespace Go.Proofs.YtdpeaefgbmkegaaGreatDoor
open Go Go.V
set_option maxRecDepth 10000
attribute [local irreducible] vBuild vCallV
theorem InlA_app {n:Nat} {L0 L L1 L':VHeap} {xs us bs vs:List PV} (h:InlA n L0 L xs us L1) (k:InlA n L0 L1 bs vs L'):InlA n L0 L (xs++bs) (us++vs) L':=by
 induction h with
 | nil L=>exact k
 | pl h _ ih=>exact .pl h (ih k)
 | nils _ ih=>exact .nils (ih k)
 | row h e _ ih=>exact .row h e (ih k)
 | bview h hq e _ ih=>exact .bview h hq e (ih k)
 | rview h e _ ih=>exact .rview h e (ih k)
 | agg h _ _ ih=>exact .agg h (ih k)
theorem InlA_pl {n:Nat} {L0 L:VHeap}:∀ {cs:List PV},PlL cs→InlA n L0 L cs cs L
 | [],_=>.nil _
 | c::cs,h=>by
   have h1:∀ σ,inl σ c=c:=fun σ=>by have:=h.pl.1 σ;rw[inlL] at this;exact(List.cons.inj this).1
   have h2:refs c=[]:=by have:=h.pl.2;rw[refsL] at this;exact(List.append_eq_nil_iff.1 this).1
   have h3:∀ σ,inlL σ cs=cs:=fun σ=>by have:=h.pl.1 σ;rw[inlL] at this;exact(List.cons.inj this).2
   have h4:refsL cs=[]:=by have:=h.pl.2;rw[refsL] at this;exact(List.append_eq_nil_iff.1 this).2
   exact .pl ⟨h1,h2⟩ (InlA_pl ⟨h3,h4⟩)
def tbR (s f:Int) (a:Ad) (c d:PV):List PV:=[.int .i64 s]++([.int .i64 f]++(adc a++([c]++[d])))
section
variable {s f:Int} {a:Ad} {c d v:PV}
theorem tbC_R (t:Tb):tbC t=tbR t.size t.safi t.next (.sl (t.m.map mrc)) (.sl (t.u.map urU)):=rfl
theorem tbR_len (h:okD a):(tbR s f a c d).length=21:=by
 unfold tbR
 simp only[List.length_append,List.length_cons,List.length_nil,adc_len h]
theorem tbR_all (h:okD a):cut (tbR s f a c d) 0 (some 21)=some (.agg (tbR s f a c d)):=cut_hd0 (tbR_len h)
theorem tbR_any (h:okD a) {cs:List PV} (hc:cs.length=21):splice cs 0 (tbR s f a c d)=tbR s f a c d:=spl_hd0 (by rw[hc,tbR_len h])
theorem tbR_sm (h:okD a):splice (tbR s f a c d) 19 [v]=tbR s f a v d:=spl_sk (o:=18) rfl rfl (spl_sk (o:=17) rfl rfl (spl_sk (o:=0) (adc_len h) rfl (spl_hd rfl)))
theorem tbR_su (h:okD a):splice (tbR s f a c d) 20 [v]=tbR s f a c v:=spl_sk (o:=19) rfl rfl (spl_sk (o:=18) rfl rfl (spl_sk (o:=1) (adc_len h) rfl (spl_sk (o:=0) rfl rfl (spl_hd0 rfl))))
theorem tbR_b (h:okD a):splice [.int .i64 s,.int .i64 f,.int .i64 0,D.o,D.o,D.o,D.o,D.o,D.o,D.o,D.o,D.o,D.o,D.o,D.o,D.o,D.o,D.o,D.o,.nils,.nils] 2 (adc a)=tbR s f a .nils .nils:=by
 have e:([.int .i64 s,.int .i64 f,.int .i64 0,D.o,D.o,D.o,D.o,D.o,D.o,D.o,D.o,D.o,D.o,D.o,D.o,D.o,D.o,D.o,D.o,.nils,.nils]:List PV)=[.int .i64 s]++([.int .i64 f]++(adc ad0++([.nils]++[.nils]))):=rfl
 rw[e]
 exact spl_sk (o:=1) rfl rfl (spl_sk (o:=0) rfl rfl (spl_hd (by rw[adc_len h];rfl)))
theorem tbR_sc (hc:scalar c=true) (hd:scalar d=true):(tbR s f a c d).all scalar=true:=by
 unfold tbR
 have si:∀ n,scalar (.int .i64 n)=true:=fun _=>rfl
 simp only[List.all_append,adc_sc,List.all_cons,List.all_nil,hc,hd,si,Bool.and_self]
theorem tbR_inl {n:Nat} {L0 L L':VHeap} {c' d':PV} (h:InlA n L0 L [c,d] [c',d'] L'):InlA n L0 L (tbR s f a c d) (tbR s f a c' d') L':=by
 have h1:InlA n L0 L (adc a++([c]++[d])) (adc a++([c']++[d'])) L':=InlA_app (InlA_pl inferInstance) h
 exact InlA.pl inferInstance (InlA.pl inferInstance h1)
instance [PlL [c]] [PlL [d]]:PlL (tbR s f a c d):=by unfold tbR;infer_instance
instance [ClL [c]] [ClL [d]]:ClL (tbR s f a c d):=by unfold tbR;infer_instance
end
def aloneT (r:Rt):Tb:=⟨r.size,r.safi,r.next,if r.safi=5 then[r.m] else[],if r.safi≠5∧r.safi=128 then[r.u] else[]⟩
theorem aloneT_ok {r:Rt} (h:okRt r):okTb (aloneT r):=⟨h.next⟩
theorem uAlone {r:Rt} (h:okRt r):U Tryz.prog 117 [.agg (rtC r)] (.agg (tbC (aloneT r))):=by
 intro σ Post hk
 have sc:=rtC_sc (x:=r)
 have ln:=rtC_len h
 have c0:=rtC_all h
 have g1:=rtC_gsize h
 have g2:=rtC_gsafi h
 have g3:=rtC_gm h
 have g4:=rtC_gu h
 have g5:=rtC_gnext h
 have ma:=mrc_len h.m
 have mb:=mrc_sc (m:=r.m)
 have ua:=nmU_len (a:=r.u.2) h.u
 have ub:=nmU_sc (x:=r.u.1) (a:=r.u.2)
 have na:=adc_len h.next
 have nb:=adc_sc (a:=r.next)
 have z2:=tbR_b (s:=r.size) (f:=r.safi) h.next
 have z3:=tbR_len (s:=r.size) (f:=r.safi) (c:=.nils) (d:=.nils) h.next
 have z4:=tbR_all (s:=r.size) (f:=r.safi) (c:=.nils) (d:=.nils) h.next
 have z5:=tbR_any (s:=r.size) (f:=r.safi) (c:=.nils) (d:=.nils) h.next (cs:=[.int .i64 0,.int .i64 0,.int .i64 0,D.o,D.o,D.o,D.o,D.o,D.o,D.o,D.o,D.o,D.o,D.o,D.o,D.o,D.o,D.o,D.o,.nils,.nils]) rfl
 have z6:=tbR_sc (s:=r.size) (f:=r.safi) (a:=r.next) (c:=.nils) (d:=.nils) rfl rfl
 rw[tbC_R] at hk
 unfold aloneT at hk
 dsimp only at hk
 refine T117 fun hB hA=>?_
 by_cases f5:r.safi=5
 ·have w:=tbR_sm (s:=r.size) (f:=r.safi) (c:=.nils) (d:=.nils) (v:=.row (σ.length+3) 1) h.next
  have y3:=tbR_len (s:=r.size) (f:=r.safi) (c:=(.row (σ.length+3) 1)) (d:=.nils) h.next
  have y4:=tbR_all (s:=r.size) (f:=r.safi) (c:=(.row (σ.length+3) 1)) (d:=.nils) h.next
  have y5:=tbR_any (s:=r.size) (f:=r.safi) (c:=(.row (σ.length+3) 1)) (d:=.nils) h.next (cs:=[.int .i64 0,.int .i64 0,.int .i64 0,D.o,D.o,D.o,D.o,D.o,D.o,D.o,D.o,D.o,D.o,D.o,D.o,D.o,D.o,D.o,D.o,.nils,.nils]) rfl
  have y6:=tbR_sc (a:=r.next) (s:=r.size) (f:=r.safi) (c:=(.row (σ.length+3) 1)) (d:=.nils) rfl rfl
  rw[if_pos f5,if_neg (fun e=>e.1 f5)] at hk
  refine W ?_
  refine ret_a (v':=.agg (tbR r.size r.safi r.next (.sl [mrc r.m]) (.sl []))) (.inl rfl) rfl (by exact z_rw) (InlA.agg (tbR_inl (.row (vGet_of rfl) rfl (.nils (.nil _)))) (.nil _)) (by exact z_be) (by exact z_hn) (by exact z_hb) ?_
  exact hk
 ·by_cases f128:r.safi=128
  ·have w:=tbR_su (s:=r.size) (f:=r.safi) (c:=.nils) (d:=.nils) (v:=.row (σ.length+4) 1) h.next
   have y3:=tbR_len (s:=r.size) (f:=r.safi) (c:=.nils) (d:=(.row (σ.length+4) 1)) h.next
   have y4:=tbR_all (s:=r.size) (f:=r.safi) (c:=.nils) (d:=(.row (σ.length+4) 1)) h.next
   have y5:=tbR_any (s:=r.size) (f:=r.safi) (c:=.nils) (d:=(.row (σ.length+4) 1)) h.next (cs:=[.int .i64 0,.int .i64 0,.int .i64 0,D.o,D.o,D.o,D.o,D.o,D.o,D.o,D.o,D.o,D.o,D.o,D.o,D.o,D.o,D.o,D.o,.nils,.nils]) rfl
   have y6:=tbR_sc (a:=r.next) (s:=r.size) (f:=r.safi) (c:=.nils) (d:=(.row (σ.length+4) 1)) rfl rfl
   rw[if_neg f5,if_pos ⟨f5,f128⟩] at hk
   refine W ?_
   refine ret_a (v':=.agg (tbR r.size r.safi r.next (.sl []) (.sl [urU r.u]))) (.inl rfl) rfl (by exact z_rw) (InlA.agg (tbR_inl (.nils (.row (vGet_of rfl) rfl (.nil _)))) (.nil _)) (by exact z_be) (by exact z_hn) (by exact z_hb) ?_
   exact hk
  ·rw[if_neg f5,if_neg (fun e=>f128 e.2)] at hk
   refine W ?_
   refine ret_a (v':=.agg (tbR r.size r.safi r.next (.sl []) (.sl []))) (.inl rfl) rfl (by exact z_rw) (InlA.agg (tbR_inl (.nils (.nils (.nil _)))) (.nil _)) (by exact z_be) (by exact z_hn) (by exact z_hb) ?_
   exact hk
def rowTb (t:Tb):List UInt8 × Int:=if t.safi=5 then rowM t.m else rowF t.u
structure okRows (t:Tb):Prop where
 m:okRowM t.m
 u:okRow t.u
 lm:t.m.length≤7000
 lu:t.u.length≤7000
theorem uRowTb {t:Tb} (h:okTb t) (o:okRows t):U Tryz.prog 214 [.agg (tbC t)] (.tup [.sl (bsl (rowTb t).1),.int .i64 (rowTb t).2]):=by
 intro σ Post hk
 have sc:=tbC_sc (x:=t)
 have ln:=tbC_len h
 have c0:=tbC_all h
 have gsize:=tbC_gsize h
 have gsafi:=tbC_gsafi h
 have gnext:=tbC_gnext h
 have gm:=tbC_gm h
 have gu:=tbC_gu h
 have lm:=o.lm
 have lu:=o.lu
 unfold rowTb at hk
 refine T214 fun hB hA=>?_
 by_cases f5:t.safi=5
 ·rw[if_pos f5] at hk
  refine W ?_
  refine cu (uMRow (l:=t.m) o.m (by omega)) ?_
  refine W ?_
  exact hk
 ·rw[if_neg f5] at hk
  refine W ?_
  refine cu (uRow (l:=t.u) o.u (by omega)) ?_
  refine W ?_
  exact hk
def readTb (t:Tb) (b:List UInt8):Tb × Int:=if t.safi=5 then({ t with m:=(readRM b t.size).1 },(readRM b t.size).2) else({ t with u:=(readF b t.size).1 },(readF b t.size).2)
theorem tReadTb {t:Tb} {σ:VHeap} {Post:KP} {i g:Nat} {b:List UInt8} (h:okTb t) (hb:b.length≤1000000) (hg:vGet σ i g=some (.box (tbC t) false)) (hk:Post (.int .i64 (readTb t b).2) (σ.set i (g,.box (tbC (readTb t b).1) false))):T Tryz.prog 215 [.ptr i g 0,.sl (bsl b)] σ Post:=by
 skip
 have sc:=tbC_sc (x:=t)
 have ln:=tbC_len h
 have c0:=tbC_all h
 have gsize:=tbC_gsize h
 have gsafi:=tbC_gsafi h
 have gnext:=tbC_gnext h
 have gm:=tbC_gm h
 have gu:=tbC_gu h
 have hi:=vGet_lt hg
 have sm:=tbC_sm h (v:=(readRM b t.size).1)
 have su:=tbC_su h (v:=(readF b t.size).1)
 unfold readTb at hk
 refine T215 fun hB hA=>?_
 by_cases f5:t.safi=5
 ·rw[if_pos f5] at hk
  refine W ?_
  refine cu (uMReadRow (l:=b) (s:=t.size) hb) ?_
  refine W ?_
  exact hk
 ·rw[if_neg f5] at hk
  refine W ?_
  refine cu (uReadRow (l:=b) (s:=t.size) hb) ?_
  refine W ?_
  exact hk
def sameTb (a b:Tb):Bool:=decide (a.size=b.size)&&(decide (a.safi=b.safi)&&((a.next==b.next)&&(eqBy (fun x y=>x==y) a.m b.m&&eqBy eqUr a.u b.u)))
theorem uSameTb {a b:Tb} (ha:okTb a) (hb:okTb b) (am:∀ x,x∈a.m→okM x) (bm:∀ x,x∈b.m→okM x) (au:okRow a.u) (bu:okRow b.u) (la:a.m.length≤4611686018427387904) (lb:b.m.length≤4611686018427387904) (lc:a.u.length≤4611686018427387904) (ld:b.u.length≤4611686018427387904):U Tryz.prog 216 [.agg (tbC a),.agg (tbC b)] (.bool (sameTb a b)):=by
 intro σ Post hk
 have psc:=tbC_sc (x:=a)
 have pln:=tbC_len ha
 have pc0:=tbC_all ha
 have pgsize:=tbC_gsize ha
 have pgsafi:=tbC_gsafi ha
 have pgnext:=tbC_gnext ha
 have pgm:=tbC_gm ha
 have pgu:=tbC_gu ha
 have qsc:=tbC_sc (x:=b)
 have qln:=tbC_len hb
 have qc0:=tbC_all hb
 have qgsize:=tbC_gsize hb
 have qgsafi:=tbC_gsafi hb
 have qgnext:=tbC_gnext hb
 have qgm:=tbC_gm hb
 have qgu:=tbC_gu hb
 have q0:=eqC_ad ha.next hb.next
 have xa:=adc_all ha.next
 have xb:=adc_all hb.next
 refine T216 fun hB hA=>?_
 by_cases s1:a.size=b.size
 ·by_cases s2:a.safi=b.safi
  ·cases s3:a.next==b.next with
   | true=>
     rw[s3] at q0
     refine W ?_
     refine cu (uEqlM (a:=a.m) (b:=b.m) la lb am bm) ?_
     cases s4:eqBy (fun x y=>x==y) a.m b.m with
     | true=>
       refine W ?_
       refine cu (uEqlU (a:=a.u) (b:=b.u) lc ld au bu) ?_
       refine W ?_
       exact fin hk (by simp[sameTb,s1,s2,s3,s4])
     | false=>
       refine W ?_
       exact fin hk (by simp[sameTb,s1,s2,s3,s4])
   | false=>
     rw[s3] at q0
     refine W ?_
     exact fin hk (by simp[sameTb,s1,s2,s3])
  ·refine W ?_
   exact fin hk (by simp[sameTb,s1,s2])
 ·refine W ?_
  exact fin hk (by simp[sameTb,s1])
end Go.Proofs.YtdpeaefgbmkegaaGreatDoor
namespace Go.Proofs.YtdpeaefgbmkegaaGreatDoor
open Go Go.V
set_option maxRecDepth 10000
attribute [local irreducible] vBuild vCallV
def badTb (t:Tb) (r:Bool):Bool:=(decide (t.size≠4)&&decide (t.size≠16))||(!okAd t.next||(decide (0<t.next.s) != r))
def oneTb (t:Tb):Bool:=(decide (t.safi=5)&&decide (t.u.length=0))||(decide (t.safi=128)&&decide (t.m.length=0))
def wrongTb (t:Tb) (r:Bool):Bool:=badTb t r||(!oneTb t||(decide ((rowTb t).2≠0)||(decide ((readTb t (rowTb t).1).2≠0)||!sameTb (readTb t (rowTb t).1).1 t)))
theorem rowTb_len {t:Tb} (o:okRows t):(rowTb t).1.length≤1000000:=by
 have h1:=o.lm
 have h2:=o.lu
 unfold rowTb
 split
 ·unfold rowM
  split
  ·rename_i h
   have:=flatM_len o.m h
   dsimp only;omega
  ·simp
 ·unfold rowF
  split
  ·have:=flatB_len o.u
   dsimp only;omega
  ·simp
theorem readTb_ok {t:Tb} {b:List UInt8} (h:okTb t):okTb (readTb t b).1:=by
 unfold readTb;split
 ·exact⟨h.next⟩
 ·exact⟨h.next⟩
theorem readTb_m {t:Tb} {b:List UInt8} (o:okRows t) (hb:b.length≤1000000) (he:(readTb t b).2=0):(∀ x,x∈(readTb t b).1.m→okM x)∧okRow (readTb t b).1.u∧(readTb t b).1.m.length≤4611686018427387904∧(readTb t b).1.u.length≤4611686018427387904:=by
 have h1:=o.lm
 have h2:=o.lu
 unfold readTb at *
 split at he
 ·rename_i hf
  rw[if_pos hf]
  have l:=readRM_len b t.size
  exact⟨fun x hx=>((readRM_good he).1 x hx).1,o.u,by dsimp only;omega,by dsimp only;omega⟩
 ·rename_i hf
  rw[if_neg hf]
  have l:=read_len b t.size
  exact⟨fun x hx=>(o.m x hx).1,(read_good he).1,by dsimp only;omega,by dsimp only;omega⟩
theorem uWrong {t:Tb} {r:Bool} (h:okTb t) (o:okRows t):U Tryz.prog 165 [.agg (tbC t),.bool r] (.bool (wrongTb t r)):=by
 intro σ Post hk
 have sc:=tbC_sc (x:=t)
 have ln:=tbC_len h
 have c0:=tbC_all h
 have gsize:=tbC_gsize h
 have gsafi:=tbC_gsafi h
 have gnext:=tbC_gnext h
 have gm:=tbC_gm h
 have gu:=tbC_gu h
 have na:=adc_all h.next
 have ns:cut (tbC t) 2 none=some (.int .i64 t.next.s):=rfl
 have bl:=rowTb_len o
 have lm:=o.lm
 have lu:=o.lu
 have z1:=tbC_any h (cs:=[.int .i64 0,.int .i64 0,.int .i64 0,D.o,D.o,D.o,D.o,D.o,D.o,D.o,D.o,D.o,D.o,D.o,D.o,D.o,D.o,D.o,D.o,.nils,.nils]) rfl
 have b1:(t.m.map mrc).length=t.m.length:=List.length_map _
 have b2:(t.u.map urU).length=t.u.length:=List.length_map _
 refine T165 fun hB hA=>?_
 refine cutp (fun e h=>e 1=.bool r∧(∃ g,e 2=.ptr (σ.length+0) g 0∧g=1)∧h=σ++[(1,VObj.box (tbC t) false),(0,.dead)]) ?_ ?_
 ·refine W ?_
  exact⟨rfl,⟨1,rfl,rfl⟩,rfl⟩
 rintro u _ ⟨e1,⟨_,e2,rfl⟩,rfl⟩
 refine sc_seq ?_
 refine sc_block ?_
 refine cutp (fun e h=>(∃ g,e 2=.ptr (σ.length+0) g 0∧g=1)∧e 8=.bool (badTb t r)∧h=σ++[(1,VObj.box (tbC t) false),(0,.dead)]) ?_ ?_
 ·skip
  by_cases a4:t.size=4
  ·refine W ?_
   refine cu (uRightD h.next) ?_
   cases o1:okAd t.next with
   | true=>
     by_cases n0:0<t.next.s
     ·refine W ?_
      exact⟨⟨1,e2,rfl⟩,(congrArg PV.bool (by simp[badTb,a4,o1,n0]):PV.bool (true != r)=_),rfl⟩
     ·refine W ?_
      exact⟨⟨1,e2,rfl⟩,(congrArg PV.bool (by simp[badTb,a4,o1,n0]):PV.bool (false != r)=_),rfl⟩
   | false=>
     refine W ?_
     exact⟨⟨1,e2,rfl⟩,(congrArg PV.bool (by simp[badTb,a4,o1]):PV.bool true=_),rfl⟩
  ·by_cases a16:t.size=16
   ·refine W ?_
    refine cu (uRightD h.next) ?_
    cases o1:okAd t.next with
    | true=>
      by_cases n0:0<t.next.s
      ·refine W ?_
       exact⟨⟨1,e2,rfl⟩,(congrArg PV.bool (by simp[badTb,a16,o1,n0]):PV.bool (true != r)=_),rfl⟩
      ·refine W ?_
       exact⟨⟨1,e2,rfl⟩,(congrArg PV.bool (by simp[badTb,a16,o1,n0]):PV.bool (false != r)=_),rfl⟩
    | false=>
      refine W ?_
      exact⟨⟨1,e2,rfl⟩,(congrArg PV.bool (by simp[badTb,a16,o1]):PV.bool true=_),rfl⟩
   ·refine W ?_
    exact⟨⟨1,e2,rfl⟩,(congrArg PV.bool (by simp[badTb,a4,a16]):PV.bool true=_),rfl⟩
 clear e1 e2
 rintro u _ ⟨⟨_,e2,rfl⟩,e8,rfl⟩
 cases hb:badTb t r with
 | true=>
   rw[hb] at e8
   refine W ?_
   exact fin hk (by simp[wrongTb,hb])
 | false=>
   rw[hb] at e8
   by_cases f5:t.safi=5
   ·by_cases u0:t.u.length=0
    ·refine W ?_
     refine cu (uRowTb h o) ?_
     by_cases e0:(rowTb t).2=0
     ·refine W ?_
      refine ct ?_
      refine tReadTb h bl (lget rfl rfl) ?_
      rw[lset rfl]
      by_cases e1:(readTb t (rowTb t).1).2=0
      ·obtain⟨rm,ru,l1,l2⟩:=readTb_m o bl e1
       have ro:=readTb_ok (b:=(rowTb t).1) h
       have rc:=tbC_all ro
       refine W ?_
       refine cu (uSameTb ro h rm (fun x hx=>(o.m x hx).1) ru o.u l1 (by omega) l2 (by omega)) ?_
       cases e2:sameTb (readTb t (rowTb t).1).1 t with
       | true=>
         refine W ?_
         exact fin hk (by simp[wrongTb,oneTb,hb,f5,u0,e0,e1,e2])
       | false=>
         refine W ?_
         exact fin hk (by simp[wrongTb,oneTb,hb,f5,u0,e0,e1,e2])
      ·refine W ?_
       exact fin hk (by simp[wrongTb,oneTb,hb,f5,u0,e0,e1])
     ·refine W ?_
      exact fin hk (by simp[wrongTb,oneTb,hb,f5,u0,e0])
    ·refine W ?_
     exact fin hk (by simp[wrongTb,oneTb,hb,f5,u0])
   ·by_cases f128:t.safi=128
    ·by_cases m0:t.m.length=0
     ·refine W ?_
      refine cu (uRowTb h o) ?_
      by_cases e0:(rowTb t).2=0
      ·refine W ?_
       refine ct ?_
       refine tReadTb h bl (lget rfl rfl) ?_
       rw[lset rfl]
       by_cases e1:(readTb t (rowTb t).1).2=0
       ·obtain⟨rm,ru,l1,l2⟩:=readTb_m o bl e1
        have ro:=readTb_ok (b:=(rowTb t).1) h
        have rc:=tbC_all ro
        refine W ?_
        refine cu (uSameTb ro h rm (fun x hx=>(o.m x hx).1) ru o.u l1 (by omega) l2 (by omega)) ?_
        cases e2:sameTb (readTb t (rowTb t).1).1 t with
        | true=>
          refine W ?_
          exact fin hk (by simp[wrongTb,oneTb,hb,f128,m0,e0,e1,e2])
        | false=>
          refine W ?_
          exact fin hk (by simp[wrongTb,oneTb,hb,f128,m0,e0,e1,e2])
       ·refine W ?_
        exact fin hk (by simp[wrongTb,oneTb,hb,f128,m0,e0,e1])
      ·refine W ?_
       exact fin hk (by simp[wrongTb,oneTb,hb,f128,m0,e0])
     ·refine W ?_
      exact fin hk (by simp[wrongTb,oneTb,hb,f128,m0])
    ·refine W ?_
     exact fin hk (by simp[wrongTb,oneTb,hb,f5,f128])
theorem uCount {t:Tb} (h:okTb t) (o:okRows t):U Tryz.prog 166 [.agg (tbC t)] (.int .i64 ((t.m.length:Int)+(t.u.length:Int))):=by
 intro σ Post hk
 have sc:=tbC_sc (x:=t)
 have ln:=tbC_len h
 have c0:=tbC_all h
 have gsize:=tbC_gsize h
 have gsafi:=tbC_gsafi h
 have gnext:=tbC_gnext h
 have gm:=tbC_gm h
 have gu:=tbC_gu h
 have lm:=o.lm
 have lu:=o.lu
 refine T166 fun hB hA=>?_
 refine W ?_
 exact hk
theorem uBadReach {t:Tb} (h:okTb t) (o:okRows t):U Tryz.prog 164 [.agg (tbC t)] (.bool (wrongTb t true||decide (t.m.length+t.u.length=0))):=by
 intro σ Post hk
 have sc:=tbC_sc (x:=t)
 have ln:=tbC_len h
 have c0:=tbC_all h
 have gsize:=tbC_gsize h
 have gsafi:=tbC_gsafi h
 have gnext:=tbC_gnext h
 have gm:=tbC_gm h
 have gu:=tbC_gu h
 refine T164 fun hB hA=>?_
 refine W ?_
 refine cu (uWrong h o) ?_
 cases hw:wrongTb t true with
 | true=>
   refine W ?_
   exact fin hk (by simp[hw])
 | false=>
   refine W ?_
   refine cu (uCount h o) ?_
   by_cases hz:t.m.length+t.u.length=0
   ·refine W ?_
    exact fin hk (by rw[hw,decide_eq_true hz];rfl)
   ·refine W ?_
    exact fin hk (by rw[hw,decide_eq_false hz];rfl)
theorem uUpRight1 {a:At} {t:Tb} (ha:okAt a) (hk3:∀ c,c∈a.cl→okD c) (hk4:(∀ t,t∈a.tn→okTn t)∧∀ t,t∈a.tn→t.id.length≤140737488355328) (h:okTb t) (o:okRows t) (hc:wrongTb t true=false→t.m.length+t.u.length≠0):U Tryz.prog 116 [.agg (upC ⟨a,[t],[]⟩)] (.bool (atR a&&!wrongTb t true)):=by
 intro σ Post hk
 have sc:=upC_sc (x:=⟨a,[t],[]⟩)
 have ln:=upC_len (x:=⟨a,[t],[]⟩) ⟨ha⟩
 have c0:=upC_all (x:=⟨a,[t],[]⟩) ⟨ha⟩
 have g1:=upC_gatt (x:=⟨a,[t],[]⟩) ⟨ha⟩
 have g2:=upC_greach (x:=⟨a,[t],[]⟩) ⟨ha⟩
 have g3:=upC_gunreach (x:=⟨a,[t],[]⟩) ⟨ha⟩
 have h1:callOk Tryz.prog 164=true:=by kernel_rfl
 have h2:callOk Tryz.prog 167=true:=by kernel_rfl
 dsimp only at g1 g2 g3
 refine T116 fun hB hA=>?_
 refine W ?_
 refine cu (uAtR ha hk3 hk4) ?_
 cases hr:atR a with
 | true=>
   refine W ?_
   refine ct ?_
   refine tConB (l:=[t]) (p:=fun t=>wrongTb t true||decide (t.m.length+t.u.length=0)) (by simp) h1 (fun x hx=>by simp at hx;subst hx;exact h) (fun x hx L Q hq=>by simp at hx;subst hx;exact uBadReach h o _ _ hq) ?_
   cases hw:wrongTb t true with
   | true=>
     simp only[List.any_cons,List.any_nil,hw,Bool.true_or,Bool.or_false]
     refine W ?_
     exact fin hk (by simp[hr,hw])
   | false=>
     simp only[List.any_cons,List.any_nil,hw,Bool.or_false,decide_eq_false (hc hw)]
     refine W ?_
     refine ct ?_
     refine tConB (l:=[]) (p:=fun t=>wrongTb t false) (by decide) h2 (fun x hx=>by cases hx) (fun x hx=>by cases hx) ?_
     refine W ?_
     exact fin hk (by simp[hr,hw])
 | false=>
   refine W ?_
   exact fin hk (by simp[hr])
def upR (a:At) (c d:PV):List PV:=atC a++([c]++[d])
theorem upR_b {a:At} (h:okAt a):splice [.int .i64 0,.nils,.int .i64 0,.int .i64 0,.int .i64 0,D.o,D.o,D.o,D.o,D.o,D.o,D.o,D.o,D.o,D.o,D.o,D.o,D.o,D.o,D.o,D.o,.nils,.nils,.nils,.nils,.nils] 0 (atC a)=upR a .nils .nils:=by
 have e:([.int .i64 0,.nils,.int .i64 0,.int .i64 0,.int .i64 0,D.o,D.o,D.o,D.o,D.o,D.o,D.o,D.o,D.o,D.o,D.o,D.o,D.o,D.o,D.o,D.o,.nils,.nils,.nils,.nils,.nils]:List PV)=[.int .i64 0,.nils,.int .i64 0,.int .i64 0,.int .i64 0,D.o,D.o,D.o,D.o,D.o,D.o,D.o,D.o,D.o,D.o,D.o,D.o,D.o,D.o,D.o,D.o,.nils,.nils,.nils]++([.nils]++[.nils]):=rfl
 rw[e]
 exact spl_hd (by rw[atC_len h];rfl)
theorem upR_sm {a:At} (h:okAt a) {c d v:PV}:splice (upR a c d) 24 [v]=upR a v d:=spl_sk (o:=0) (atC_len h) rfl (spl_hd rfl)
theorem upR_len {a:At} (h:okAt a) {c d:PV}:(upR a c d).length=26:=by
 unfold upR;simp only[List.length_append,List.length_cons,List.length_nil,atC_len h]
theorem uRtRight {r:Rt} (h:okRt r) (hk3:∀ c,c∈r.att.cl→okD c) (hk4:(∀ t,t∈r.att.tn→okTn t)∧∀ t,t∈r.att.tn→t.id.length≤140737488355328) (o:okRows (aloneT r)) (hc:wrongTb (aloneT r) true=false→(aloneT r).m.length+(aloneT r).u.length≠0):U Tryz.prog 73 [.agg (rtC r)] (.bool ((if r.safi=5 then eqUr r.u (nm0,0) else if r.safi=128 then r.m==mr0 else true)&&(atR r.att&&!wrongTb (aloneT r) true))):=by
 intro σ Post hk
 have sc:=rtC_sc (x:=r)
 have ln:=rtC_len h
 have c0:=rtC_all h
 have g2:=rtC_gsafi h
 have g3:=rtC_gm h
 have g4:=rtC_gu h
 have g6:=rtC_gatt h
 have at1:=atC_len h.att
 have at2:=atC_sc (x:=r.att)
 have tok:=aloneT_ok h
 have t1:=tbC_len (aloneT_ok h)
 have t2:=tbC_sc (x:=aloneT r)
 have w1:=upR_b h.att
 have w2:=upR_sm h.att (c:=.nils) (d:=.nils) (v:=.row (σ.length+1) 1)
 have w3:=upR_len h.att (c:=.nils) (d:=.nils)
 have q0:=eqC_U (a:=r.u.2) (b:=(0:Int)) h.u nm0_ok
 have q1:=eqC_mr h.m mr0_ok
 rw[show (sameU r.u.1.rd r.u.1.s r.u.1.b r.u.1.k nm0.rd nm0.s nm0.b nm0.k&&(r.u.2==0))=eqUr r.u (nm0,0) from rfl] at q0
 refine T73 fun hB hA=>?_
 by_cases f5:r.safi=5
 ·cases hq:eqUr r.u (nm0,0) with
  | true=>
    rw[hq] at q0
    refine Wo ?_
    refine drJ (fun h=>vGet h (σ.length+0) 1=some (.box (rtC r) false)) [(2,0),(2,1),(1,2),(1,3),(0,4),(2,5),(0,6),(2,7)] (by kernel_rfl) (by kernel_rfl) (by exact z_ol) (lget rfl rfl) ?_
    refine Wo ?_
    refine s1 (uAlone h) ?_
    refine Wo ?_
    refine sv_0 ?_
    refine est (by exact z_ea) ?_
    refine st_end ⟨lget rfl rfl,?_⟩
    refine Wo ?_
    refine sv_0 ?_
    refine cu (uUpRight1 (t:=aloneT r) h.att hk3 hk4 tok o hc) ?_ (by exact z_hn) (by exact z_ma) (InlA.agg (InlA_app (InlA_pl inferInstance) (.row (vGet_of rfl) rfl (.nils (.nil _)))) (.nil _)) rfl
    refine st_end ⟨lget rfl rfl,?_⟩
    refine Wo ?_
    exact fin hk (by simp[f5,hq])
  | false=>
    rw[hq] at q0
    refine Wo ?_
    exact fin hk (by simp[f5,hq])
 ·by_cases f128:r.safi=128
  ·cases hq:r.m==mr0 with
   | true=>
     rw[hq] at q1
     refine Wo ?_
     refine drJ (fun h=>vGet h (σ.length+0) 1=some (.box (rtC r) false)) [(2,0),(2,1),(1,2),(1,3),(0,4),(2,5),(0,6),(2,7)] (by kernel_rfl) (by kernel_rfl) (by exact z_ol) (lget rfl rfl) ?_
     refine Wo ?_
     refine s1 (uAlone h) ?_
     refine Wo ?_
     refine sv_0 ?_
     refine est (by exact z_ea) ?_
     refine st_end ⟨lget rfl rfl,?_⟩
     refine Wo ?_
     refine sv_0 ?_
     refine cu (uUpRight1 (t:=aloneT r) h.att hk3 hk4 tok o hc) ?_ (by exact z_hn) (by exact z_ma) (InlA.agg (InlA_app (InlA_pl inferInstance) (.row (vGet_of rfl) rfl (.nils (.nil _)))) (.nil _)) rfl
     refine st_end ⟨lget rfl rfl,?_⟩
     refine Wo ?_
     exact fin hk (by simp[f128,hq])
   | false=>
     rw[hq] at q1
     refine Wo ?_
     exact fin hk (by simp[f128,hq])
  ·refine Wo ?_
   refine drJ (fun h=>vGet h (σ.length+0) 1=some (.box (rtC r) false)) [(2,0),(2,1),(1,2),(1,3),(0,4),(2,5),(0,6),(2,7)] (by kernel_rfl) (by kernel_rfl) (by exact z_ol) (lget rfl rfl) ?_
   refine Wo ?_
   refine s1 (uAlone h) ?_
   refine Wo ?_
   refine sv_0 ?_
   refine est (by exact z_ea) ?_
   refine st_end ⟨lget rfl rfl,?_⟩
   refine Wo ?_
   refine sv_0 ?_
   refine cu (uUpRight1 (t:=aloneT r) h.att hk3 hk4 tok o hc) ?_ (by exact z_hn) (by exact z_ma) (InlA.agg (InlA_app (InlA_pl inferInstance) (.row (vGet_of rfl) rfl (.nils (.nil _)))) (.nil _)) rfl
   refine st_end ⟨lget rfl rfl,?_⟩
   refine Wo ?_
   exact fin hk (by simp[f5,f128])
end Go.Proofs.YtdpeaefgbmkegaaGreatDoor
