/- The reference's updates of one route; which routes are right. -/
import Derived.Test.YtdpeaefgbmkegaaGreatDoorKE
import Derived.Test.YtdpeaefgbmkegaaGreatDoorHT
import Derived.Test.YtdpeaefgbmkegaaGreatDoorHL
import Derived.Test.YtdpeaefgbmkegaaGreatDoorFAD
set_option maxHeartbeats 16000000
namespace Go.Proofs.YtdpeaefgbmkegaaGreatDoor
open Go Go.V
set_option maxRecDepth 10000
set_option linter.unusedVariables false
attribute [local irreducible] vBuild vCallV
theorem uR10RightM {t:Tb} {m:Mr} (ht:okTb t) (hm:t.m=[m]) (hu:t.u=[]) (h:okM m) (hkl:m.key.length≤140737488355328) (f5:t.safi=5):U Tryz.prog 95 [.agg (tbC t),.bool true] (.bool ((decide (t.size=4)||decide (t.size=16))&&(okAd t.next&&(decide (0<t.next.s)&&mOne m t.size)))):=by
 intro σ Post hk
 have sc:=tbC_sc (x:=t)
 have ln:=tbC_len ht
 have c0:=tbC_all ht
 have g1:=tbC_gsize ht
 have g2:=tbC_gsafi ht
 have g3:=tbC_gnext ht
 have gn:cut (tbC t) 2 none=some (.int .i64 t.next.s):=rfl
 have g4:cut (tbC t) 19 none=some (.sl [mrc m]):=by have:=tbC_gm ht;rw[hm] at this;exact this
 have g5:cut (tbC t) 20 none=some (.sl []):=by have:=tbC_gu ht;rw[hu] at this;exact this
 have n8:¬ t.safi=128:=by omega
 have uf:=uR10Fam (s:=t.size) (f:=t.safi)
 have un:=uR2 ht.next
 refine T95 fun hB hA=>?_
 by_cases hs:t.size=4∨t.size=16
 ·have e1:(decide (t.size=4)||decide (t.size=16))=true:=by rcases hs with e|e<;>simp[e]
  have ur:=uR10RoutesM ht hm h hkl f5 hs
  rw[e1,Bool.true_and] at hk
  rw[e1,Bool.true_and,show (decide (t.safi=5)||decide (t.safi=128))=true by simp[f5]] at uf
  generalize mOne m t.size=X at *
  cases hx:X with
  | false=>
    rw[hx] at ur
    refine W ?_
    refine cu uf ?_
    refine W ?_
    refine cu ur ?_
    refine W ?_
    refine cu un ?_
    refine W ?_
    exact finP hk (by simp[hx])
  | true=>
  rw[hx] at ur
  cases hn:okAd t.next with
  | false=>
    rw[hn] at un
    refine W ?_
    refine cu uf ?_
    refine W ?_
    refine cu ur ?_
    refine W ?_
    refine cu un ?_
    refine W ?_
    exact finP hk (by simp[hn])
  | true=>
  rw[hn] at un
  by_cases h0:0<t.next.s
  ·refine W ?_
   refine cu uf ?_
   refine W ?_
   refine cu ur ?_
   refine W ?_
   refine cu un ?_
   refine W ?_
   exact finP hk (by simp[hx,hn,h0])
  ·refine W ?_
   refine cu uf ?_
   refine W ?_
   refine cu ur ?_
   refine W ?_
   refine cu un ?_
   refine W ?_
   exact finP hk (by simp[h0])
 ·have e1:(decide (t.size=4)||decide (t.size=16))=false:=by simp;omega
  rw[e1,Bool.false_and] at hk
  rw[e1,Bool.false_and] at uf
  refine W ?_
  refine cu uf ?_
  refine W ?_
  exact hk
theorem uR10RightU {t:Tb} {u:UR} (ht:okTb t) (hm:t.m=[]) (hu:t.u=[u]) (h:okN u.1) (f8:t.safi=128):U Tryz.prog 95 [.agg (tbC t),.bool true] (.bool ((decide (t.size=4)||decide (t.size=16))&&(okAd t.next&&(decide (0<t.next.s)&&uOne u t.size)))):=by
 intro σ Post hk
 have sc:=tbC_sc (x:=t)
 have ln:=tbC_len ht
 have c0:=tbC_all ht
 have g1:=tbC_gsize ht
 have g2:=tbC_gsafi ht
 have g3:=tbC_gnext ht
 have gn:cut (tbC t) 2 none=some (.int .i64 t.next.s):=rfl
 have g4:cut (tbC t) 19 none=some (.sl []):=by have:=tbC_gm ht;rw[hm] at this;exact this
 have g5:cut (tbC t) 20 none=some (.sl [nmU u.1 u.2]):=by have:=tbC_gu ht;rw[hu] at this;exact this
 have n5:¬ t.safi=5:=by omega
 have uf:=uR10Fam (s:=t.size) (f:=t.safi)
 have un:=uR2 ht.next
 refine T95 fun hB hA=>?_
 by_cases hs:t.size=4∨t.size=16
 ·have e1:(decide (t.size=4)||decide (t.size=16))=true:=by rcases hs with e|e<;>simp[e]
  have ur:=uR10RoutesU ht hm hu h f8 hs
  rw[e1,Bool.true_and] at hk
  rw[e1,Bool.true_and,show (decide (t.safi=5)||decide (t.safi=128))=true by simp[f8]] at uf
  generalize uOne u t.size=X at *
  cases hx:X with
  | false=>
    rw[hx] at ur
    refine W ?_
    refine cu uf ?_
    refine W ?_
    refine cu ur ?_
    refine W ?_
    refine cu un ?_
    refine W ?_
    exact finP hk (by simp[hx])
  | true=>
  rw[hx] at ur
  cases hn:okAd t.next with
  | false=>
    rw[hn] at un
    refine W ?_
    refine cu uf ?_
    refine W ?_
    refine cu ur ?_
    refine W ?_
    refine cu un ?_
    refine W ?_
    exact finP hk (by simp[hn])
  | true=>
  rw[hn] at un
  by_cases h0:0<t.next.s
  ·refine W ?_
   refine cu uf ?_
   refine W ?_
   refine cu ur ?_
   refine W ?_
   refine cu un ?_
   refine W ?_
   exact finP hk (by simp[hx,hn,h0])
  ·refine W ?_
   refine cu uf ?_
   refine W ?_
   refine cu ur ?_
   refine W ?_
   refine cu un ?_
   refine W ?_
   exact finP hk (by simp[h0])
 ·have e1:(decide (t.size=4)||decide (t.size=16))=false:=by simp;omega
  rw[e1,Bool.false_and] at hk
  rw[e1,Bool.false_and] at uf
  refine W ?_
  refine cu uf ?_
  refine W ?_
  exact hk
theorem uR10RightN {t:Tb} (ht:okTb t) (n5:¬ t.safi=5) (n8:¬ t.safi=128):U Tryz.prog 95 [.agg (tbC t),.bool true] (.bool false):=by
 intro σ Post hk
 have sc:=tbC_sc (x:=t)
 have ln:=tbC_len ht
 have c0:=tbC_all ht
 have g1:=tbC_gsize ht
 have g2:=tbC_gsafi ht
 have g3:=tbC_gnext ht
 have gn:cut (tbC t) 2 none=some (.int .i64 t.next.s):=rfl
 have uf:=uR10Fam (s:=t.size) (f:=t.safi)
 rw[show (decide (t.safi=5)||decide (t.safi=128))=false by simp[n5,n8],Bool.and_false] at uf
 refine T95 fun hB hA=>?_
 refine W ?_
 refine cu uf ?_
 refine W ?_
 exact hk
theorem uR10Up {a:At} {t:Tb} {X:Bool} (h:okAt a) (hc:∀ c,c∈a.cl→okD c) (htn:∀ t,t∈a.tn→okTn t) (hid:∀ t,t∈a.tn→t.id.length≤140737488355328) (l1:a.cl.length≤4611686018427387904) (l2:a.tn.length≤4611686018427387904) (hpl:a.path.length≤4611686018427387904) (hpn:∀ s,s∈a.path→s.nums.length≤4611686018427387904) (ht:okTb t) (hX:U Tryz.prog 95 [.agg (tbC t),.bool true] (.bool X)) (hcnt:X=true→t.m.length+t.u.length=1):U Tryz.prog 44 [.agg (upC ⟨a,[t],[]⟩)] (.bool (atR a&&X)):=by
 intro σ Post hk
 have ou:okUp ⟨a,[t],[]⟩:=⟨h⟩
 have sc:=upC_sc (x:=⟨a,[t],[]⟩)
 have ln:=upC_len ou
 have c0:=upC_all ou
 have g1:cut (upC ⟨a,[t],[]⟩) 0 (some 24)=some (.agg (atC a)):=upC_gatt ou
 have g2:cut (upC ⟨a,[t],[]⟩) 24 none=some (.sl [tbC t]):=upC_greach ou
 have g3:cut (upC ⟨a,[t],[]⟩) 25 none=some (.sl []):=upC_gunreach ou
 have tsc:=tbC_sc (x:=t)
 have tln:=tbC_len ht
 have tc0:=tbC_all ht
 have tg4:=tbC_gm ht
 have tg5:=tbC_gu ht
 have b1:[tbC t].length=1:=rfl
 have b2:(t.m.map mrc).length=t.m.length:=List.length_map _
 have b3:(t.u.map urU).length=t.u.length:=List.length_map _
 have hg:[tbC t][(0:Int).toNat]?=some (tbC t):=rfl
 have ua:=uR9Right h hc htn hid l1 l2 hpl hpn
 refine T44 fun hB hA=>?_
 cases ha:atR a with
 | false=>
   rw[ha] at ua hk
   refine W ?_
   refine cu ua ?_
   refine W ?_
   exact hk
 | true=>
   rw[ha,Bool.true_and] at hk
   rw[ha] at ua
   refine W ?_
   refine cu ua ?_
   refine W ?_
   cases hx:X with
   | false=>
     rw[hx] at hX hk
     refine lp (fun k e hh=>e 4=.int .i64 0∧hh=σ++[(1,VObj.box (upC ⟨a,[t],[]⟩) false)]) 0 ⟨rfl,rfl⟩ ?_
     rintro k u _ ⟨e4,rfl⟩
     refine W ?_
     refine cu hX ?_
     refine W ?_
     exact hk
   | true=>
     rw[hx] at hX hk
     have hcnt:=hcnt hx
     have hn0:¬ ((t.m.length:Int)+(t.u.length:Int))=0:=by omega
     refine lp (fun k e hh=>(k=1∧e 4=.int .i64 0∧hh=σ++[(1,VObj.box (upC ⟨a,[t],[]⟩) false)])∨(k=0∧e 4=.int .i64 1∧hh=σ++[(1,VObj.box (upC ⟨a,[t],[]⟩) false)])) 1 (.inl ⟨rfl,rfl,rfl⟩) ?_
     rintro k u _ (⟨rfl,e4,rfl⟩|⟨rfl,e4,rfl⟩)
     ·refine W ?_
      refine cu hX ?_
      refine W ?_
      exact⟨0,by omega,.inr ⟨rfl,rfl,rfl⟩⟩
     ·refine W ?_
      refine lp (fun k e hh=>e 6=.int .i64 0∧hh=σ++[(1,VObj.box (upC ⟨a,[t],[]⟩) false)]) 0 ⟨rfl,rfl⟩ ?_
      rintro k2 u2 _ ⟨e6,rfl⟩
      refine W ?_
      exact hk
theorem uRRightG {r:Rt} {X:Bool} (h:okRt r) (uUp:U Tryz.prog 44 [.agg (upC ⟨r.att,[aloneT r],[]⟩)] (.bool X)):U Tryz.prog 15 [.agg (rtC r)] (.bool ((if r.safi=5 then eqUr r.u (nm0,0) else if r.safi=128 then r.m==mr0 else true)&&X)):=by
 intro σ Post hk
 have sc:=rtC_sc (x:=r)
 have ln:=rtC_len h
 have c0:=rtC_all h
 have g2:=rtC_gsafi h
 have g3:=rtC_gm h
 have g4:=rtC_gu h
 have g6:=rtC_gatt h
 have at1:=atC_len h.att
 have at2:=atC_sc (x:=r.att)
 have tok:=aloneT_ok h
 have t1:=tbC_len (aloneT_ok h)
 have t2:=tbC_sc (x:=aloneT r)
 have w1:=upR_b h.att
 have w2:=upR_sm h.att (c:=.nils) (d:=.nils) (v:=.row (σ.length+3) 1)
 have w3:=upR_len h.att (c:=.nils) (d:=.nils)
 have q0:=eqC_U (a:=r.u.2) (b:=(0:Int)) h.u nm0_ok
 have q1:=eqC_mr h.m mr0_ok
 rw[show (sameU r.u.1.rd r.u.1.s r.u.1.b r.u.1.k nm0.rd nm0.s nm0.b nm0.k&&(r.u.2==0))=eqUr r.u (nm0,0) from rfl] at q0
 have dn0:splice [D.o,D.o,D.o,D.o,D.o,D.o,D.o,D.o,.int .i64 0,D.o,D.o,D.o,D.o,D.o,D.o,D.o,D.o,D.o,D.o,D.o,D.o,D.o,D.o,D.o,D.o,.int .i64 0,.int .i64 0] 0 [D.o,D.o,D.o,D.o,D.o,D.o,D.o,D.o,.int .i64 0,D.o,D.o,D.o,D.o,D.o,D.o,D.o,D.o,D.o,D.o,D.o,D.o,D.o,D.o,D.o,D.o,.int .i64 0,.int .i64 0]=nmU nm0 0:=rfl
 have dm0:splice [PV.int .i64 0,D.o,D.o,D.o,D.o,D.o,D.o,D.o,D.o,.int .i64 0,.int .i64 0,D.o,D.o,D.o,D.o,D.o,D.o,D.o,D.o,D.o,D.o,D.o,D.o,D.o,D.o,D.o,D.o,.int .i64 0,D.o,D.o,D.o,D.o,D.o,D.o,D.o,D.o,D.o,D.o,D.o,D.o,D.o,D.o,D.o,D.o,.int .i64 0,D.o,D.o,D.o,D.o,D.o,D.o,D.o,D.o,D.o,D.o,D.o,D.o,D.o,D.o,D.o,D.o,.str []] 0 [PV.int .i64 0,D.o,D.o,D.o,D.o,D.o,D.o,D.o,D.o,.int .i64 0,.int .i64 0,D.o,D.o,D.o,D.o,D.o,D.o,D.o,D.o,D.o,D.o,D.o,D.o,D.o,D.o,D.o,D.o,.int .i64 0,D.o,D.o,D.o,D.o,D.o,D.o,D.o,D.o,D.o,D.o,D.o,D.o,D.o,D.o,D.o,D.o,.int .i64 0,D.o,D.o,D.o,D.o,D.o,D.o,D.o,D.o,D.o,D.o,D.o,D.o,D.o,D.o,D.o,D.o,.str []]=mrc mr0:=rfl
 have nl:=nmU_len (a:=(0:Int)) nm0_ok
 have na:=nmU_all (a:=(0:Int)) nm0_ok
 have ml:=mrc_len mr0_ok
 have ma:=mrc_all mr0_ok
 have ul:=nmU_len (a:=r.u.2) h.u
 have mml:=mrc_len h.m
 refine T15 fun hB hA=>?_
 by_cases f5:r.safi=5
 ·cases hq:eqUr r.u (nm0,0) with
  | true=>
    rw[hq] at q0
    refine Wo ?_
    refine drJ (fun h=>vGet h (σ.length+0) 1=some (.box (rtC r) false)) [(2,0),(2,1),(1,2),(1,3),(0,4),(2,5),(0,6),(2,7)] (by kernel_rfl) (by kernel_rfl) (by exact z_ol) (lget rfl rfl) ?_
    refine Wo ?_
    refine s1 (uRTable h) ?_
    refine Wo ?_
    refine sv_0 ?_
    refine est (by exact z_ea) ?_
    refine st_end ⟨lget rfl rfl,?_⟩
    refine Wo ?_
    refine sv_0 ?_
    refine cu (uUp) ?_ (by exact z_hn) (by exact z_ma) (InlA.agg (InlA_app (InlA_pl inferInstance) (.row (vGet_of rfl) rfl (.nils (.nil _)))) (.nil _)) rfl
    refine st_end ⟨lget rfl rfl,?_⟩
    refine Wo ?_
    exact finP hk (by simp[f5,hq])
  | false=>
    rw[hq] at q0
    refine Wo ?_
    exact finP hk (by simp[f5,hq])
 ·by_cases f128:r.safi=128
  ·cases hq:r.m==mr0 with
   | true=>
     rw[hq] at q1
     refine Wo ?_
     refine drJ (fun h=>vGet h (σ.length+0) 1=some (.box (rtC r) false)) [(2,0),(2,1),(1,2),(1,3),(0,4),(2,5),(0,6),(2,7)] (by kernel_rfl) (by kernel_rfl) (by exact z_ol) (lget rfl rfl) ?_
     refine Wo ?_
     refine s1 (uRTable h) ?_
     refine Wo ?_
     refine sv_0 ?_
     refine est (by exact z_ea) ?_
     refine st_end ⟨lget rfl rfl,?_⟩
     refine Wo ?_
     refine sv_0 ?_
     refine cu (uUp) ?_ (by exact z_hn) (by exact z_ma) (InlA.agg (InlA_app (InlA_pl inferInstance) (.row (vGet_of rfl) rfl (.nils (.nil _)))) (.nil _)) rfl
     refine st_end ⟨lget rfl rfl,?_⟩
     refine Wo ?_
     exact finP hk (by simp[f128,hq])
   | false=>
     rw[hq] at q1
     refine Wo ?_
     exact finP hk (by simp[f128,hq])
  ·refine Wo ?_
   refine drJ (fun h=>vGet h (σ.length+0) 1=some (.box (rtC r) false)) [(2,0),(2,1),(1,2),(1,3),(0,4),(2,5),(0,6),(2,7)] (by kernel_rfl) (by kernel_rfl) (by exact z_ol) (lget rfl rfl) ?_
   refine Wo ?_
   refine s1 (uRTable h) ?_
   refine Wo ?_
   refine sv_0 ?_
   refine est (by exact z_ea) ?_
   refine st_end ⟨lget rfl rfl,?_⟩
   refine Wo ?_
   refine sv_0 ?_
   refine cu (uUp) ?_ (by exact z_hn) (by exact z_ma) (InlA.agg (InlA_app (InlA_pl inferInstance) (.row (vGet_of rfl) rfl (.nils (.nil _)))) (.nil _)) rfl
   refine st_end ⟨lget rfl rfl,?_⟩
   refine Wo ?_
   exact finP hk (by simp[f5,f128])
structure okLen (a:At):Prop where
 cl:a.cl.length≤4611686018427387904
 tn:a.tn.length≤4611686018427387904
 path:a.path.length≤4611686018427387904
 nums:∀ s,s∈a.path→s.nums.length≤4611686018427387904
theorem few_len {r:Rt} (hf:few15 r=true):okLen r.att:=by
 unfold few15 few9 at hf
 simp only[Bool.and_eq_true,Bool.not_eq_true',List.any_eq_false,decide_eq_true_eq] at hf
 obtain⟨⟨h1,h2,h3,h4,h5,h6⟩,h7⟩:=hf
 refine⟨by omega,by omega,by omega,fun s hs=>?_⟩
 have:=h1 s hs
 omega
theorem uRRight {r:Rt} (o:okRib r) (ol:okLen r.att):U Tryz.prog 15 [.agg (rtC r)] (.bool (rtR r)):=by
 have ht:=aloneT_ok o.ok
 have hX:U Tryz.prog 95 [.agg (tbC (aloneT r)),.bool true] (.bool (rtT r)):=by
  unfold rtT
  by_cases f5:r.safi=5
  ·have hm:(aloneT r).m=[r.m]:=by unfold aloneT;dsimp only;rw[if_pos f5]
   have hu:(aloneT r).u=[]:=by unfold aloneT;dsimp only;rw[if_neg (fun e=>e.1 f5)]
   rw[if_pos f5]
   exact uR10RightM ht hm hu o.ok.m o.key f5
  ·rw[if_neg f5]
   have hm:(aloneT r).m=[]:=by unfold aloneT;dsimp only;rw[if_neg f5]
   by_cases f8:r.safi=128
   ·have hu:(aloneT r).u=[r.u]:=by unfold aloneT;dsimp only;rw[if_pos ⟨f5,f8⟩]
    rw[if_pos f8]
    exact uR10RightU ht hm hu o.ok.u f8
   ·rw[if_neg f8]
    have:=uR10RightN ht f5 f8
    simpa using this
 have hcnt:rtT r=true→(aloneT r).m.length+(aloneT r).u.length=1:=by
  intro hh
  unfold aloneT
  dsimp only
  by_cases f5:r.safi=5
  ·rw[if_pos f5,if_neg (fun e=>e.1 f5)];rfl
  ·by_cases f8:r.safi=128
   ·rw[if_neg f5,if_pos ⟨f5,f8⟩];rfl
   ·unfold rtT at hh
    rw[if_neg f5,if_neg f8] at hh
    simp at hh
 exact uRRightG o.ok (uR10Up o.ok.att o.cl o.tn o.id ol.cl ol.tn ol.path ol.nums ht hX hcnt)
end Go.Proofs.YtdpeaefgbmkegaaGreatDoor
namespace Go.Proofs.YtdpeaefgbmkegaaGreatDoor
open Go Go.V
set_option maxRecDepth 10000
set_option linter.unusedVariables false
attribute [local irreducible] vBuild vCallV
theorem rt_u1 {r:Rt} (h:okRt r) {o:Nat} {X:PV} (hn:o<27) (e:cut (urU r.u) o none=some X):cut (rtC r) (64+o) none=some X:=by
 have hl:=urU_len h.u
 exact cut_sk (n:=1) (o:=63+o) rfl (by omega) (cut_sk (n:=1) (o:=62+o) rfl (by omega) (cut_sk (o:=o) (mrc_len h.m) (by omega) ((cut_pre1 (by rw[hl];exact hn)).trans e)))
theorem uR15NameM {r:Rt} (h:okRt r) (hs:r.size=4∨r.size=16) (hf:r.safi=5) (hr:rightF r.m=true) (hkl:r.m.key.length≤140737488355328):U Tryz.prog 62 [.agg (rtC r)] (.str (nameF r)):=by
 intro σ Post hk
 have sc:=rtC_sc (x:=r)
 have ln:=rtC_len h
 have c0:=rtC_all h
 have g1:=rtC_gsize h
 have g2:=rtC_gsafi h
 have g3:=rtC_gm h
 have s0:0≤r.size∧r.size≤255:=by omega
 have pl:=mb_len h.m hr
 have e:([[PV.int .u8 r.size],[PV.int .u8 r.safi]]++bsl (mbytes r.m)).mapM V.byteOf=some (nameF r):=by rw[nm_rows s0.1 s0.2 (by omega) (by omega),m_bytes];unfold nameF;rw[if_pos hf]
 refine T62 fun hB hA=>?_
 refine W ?_
 refine cu (uR7Bytes1 h.m hkl hr) ?_
 refine W ?_
 exact hk
theorem uR15NameU {r:Rt} (h:okRt r) (hs:r.size=4∨r.size=16) (hf:r.safi=128) (hr:okR r.u.1 r.u.2=true):U Tryz.prog 62 [.agg (rtC r)] (.str (nameF r)):=by
 intro σ Post hk
 have sc:=rtC_sc (x:=r)
 have ln:=rtC_len h
 have c0:=rtC_all h
 have g1:=rtC_gsize h
 have g2:=rtC_gsafi h
 have g3:=rtC_gm h
 have s0:0≤r.size∧r.size≤255:=by omega
 have hp:=okR_parts hr
 have rdc:cut (rtC r) 64 (some 8)=some (.agg (u8c r.u.1.rd)):=rt_u h (o:=0) (by decide) (urc_rd (rd:=r.u.1.rd) (s:=r.u.1.s) (b:=r.u.1.b) (k:=r.u.1.k) (a:=r.u.2) h.u.1 h.u.2)
 have vr:VCut (rtC r) 64 8 (bsl r.u.1.rd):=by have:=vcut_of rdc;rwa [u8c_rows] at this
 have lrd:=h.u.1
 have pa:cut (rtC r) 72 (some 17)=some (.agg (adc ⟨r.u.1.s,r.u.1.b⟩)):=rt_u h (o:=8) (by decide) (urc_adr (rd:=r.u.1.rd) (s:=r.u.1.s) (b:=r.u.1.b) (k:=r.u.1.k) (a:=r.u.2) h.u.1 h.u.2)
 have ps:cut (rtC r) 72 none=some (.int .i64 r.u.1.s):=rt_u1 h (o:=8) (by decide) (cut_sk (n:=8) (o:=0) (by simp[u8c,lrd]) rfl rfl)
 have pk:cut (rtC r) 89 none=some (.int .i64 r.u.1.k):=rt_u1 h (o:=25) (by decide) (urc_k (rd:=r.u.1.rd) (s:=r.u.1.s) (b:=r.u.1.b) (k:=r.u.1.k) (a:=r.u.2) h.u.1 h.u.2)
 have lab:=abytes_len (a:=⟨r.u.1.s,r.u.1.b⟩) h.u.2
 have k0:0≤r.u.1.k∧r.u.1.k≤255:=by omega
 have s1:0≤r.u.1.s∧r.u.1.s≤255:=by omega
 have e:(((([[PV.int .u8 r.size],[PV.int .u8 r.safi]]++bsl r.u.1.rd)++[[PV.int .u8 r.u.1.s]])++bsl (abytes ⟨r.u.1.s,r.u.1.b⟩))++[[PV.int .u8 r.u.1.k]]).mapM V.byteOf=some (nameF r):=by
  rw[nm_rows s0.1 s0.2 (by omega) (by omega),byte_i s1.1 s1.2,byte_i k0.1 k0.2]
  have q:∀ x y:List UInt8,bsl x++bsl y=bsl (x++y):=fun x y=>by simp[bsl]
  have q1:∀ x:UInt8,([[byt x]]:List (List PV))=bsl [x]:=fun x=>rfl
  rw[q1,q1,q,q,q,m_bytes]
  unfold nameF uName
  rw[if_neg (by omega)];simp
 have oa:okD ⟨r.u.1.s,r.u.1.b⟩:=h.u.2
 refine T62 fun hB hA=>?_
 refine W ?_
 refine cu (uR2Bytes oa) ?_
 refine W ?_
 exact hk
theorem uR15Name {r:Rt} (o:okRib r) (ol:okLen r.att):U Tryz.prog 26 [.agg (rtC r)] (.tup [.str (nameR r),.bool (rtR r)]):=by
 intro σ Post hk
 have sc:=rtC_sc (x:=r)
 have ln:=rtC_len o.ok
 have c0:=rtC_all o.ok
 unfold nameR at hk
 refine T26 fun hB hA=>?_
 refine W ?_
 refine cu (uRRight o ol) ?_
 cases hr:rtR r with
 | false=>
   rw[hr] at hk
   refine W ?_
   exact hk
 | true=>
   rw[hr] at hk
   have un:U Tryz.prog 62 [.agg (rtC r)] (.str (nameF r)):=by
    obtain⟨hs,h|h⟩:=rtR_parts hr
    ·exact uR15NameM o.ok hs h.1 h.2 o.key
    ·exact uR15NameU o.ok hs h.1 h.2
   refine W ?_
   refine cu un ?_
   refine W ?_
   exact hk
end Go.Proofs.YtdpeaefgbmkegaaGreatDoor
