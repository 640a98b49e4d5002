/- The reference's updates of one route; which routes are right. -/
import Derived.Test.YtdpeaefgbmkegaaGreatDoorKE
import Derived.Test.YtdpeaefgbmkegaaGreatDoorHT
import Derived.Test.YtdpeaefgbmkegaaGreatDoorHL
import Derived.Test.YtdpeaefgbmkegaaGreatDoorHS
import Derived.Test.YtdpeaefgbmkegaaGreatDoorF55
set_option maxHeartbeats 16000000
namespace Go.Proofs.YtdpeaefgbmkegaaGreatDoor
open Go Go.V
set_option maxRecDepth 10000
set_option linter.unusedVariables false
attribute [local irreducible] vBuild vCallV
theorem uR10RightM {t:Tb} {m:Mr} (ht:okTb t) (hm:t.m=[m]) (hu:t.u=[]) (h:okM m) (hkl:m.key.length≤140737488355328) (f5:t.safi=5):U Tryz.prog 95 [.agg (tbC t),.bool true] (.bool ((decide (t.size=4)||decide (t.size=16))&&(okAd t.next&&(decide (0<t.next.s)&&mOne m t.size)))):=by
 intro σ Post hk
 have sc:=tbC_sc (x:=t)
 have ln:=tbC_len ht
 have c0:=tbC_all ht
 have g1:=tbC_gsize ht
 have g2:=tbC_gsafi ht
 have g3:=tbC_gnext ht
 have gn:cut (tbC t) 2 none=some (.int .i64 t.next.s):=rfl
 have g4:cut (tbC t) 19 none=some (.sl [mrc m]):=by have:=tbC_gm ht;rw[hm] at this;exact this
 have g5:cut (tbC t) 20 none=some (.sl []):=by have:=tbC_gu ht;rw[hu] at this;exact this
 have n8:¬ t.safi=128:=by omega
 have uf:=uR10Fam (s:=t.size) (f:=t.safi)
 have un:=uR2 ht.next
 refine T95 fun hB hA=>?_
 by_cases hs:t.size=4∨t.size=16
 ·have e1:(decide (t.size=4)||decide (t.size=16))=true:=by rcases hs with e|e<;>simp[e]
  have ur:=uR10RoutesM ht hm h hkl f5 hs
  rw[e1,Bool.true_and] at hk
  rw[e1,Bool.true_and,show (decide (t.safi=5)||decide (t.safi=128))=true by simp[f5]] at uf
  generalize mOne m t.size=X at *
  cases hx:X with
  | false=>
    rw[hx] at ur
    refine W ?_
    refine cu uf ?_
    refine W ?_
    refine cu ur ?_
    refine W ?_
    refine cu un ?_
    refine W ?_
    exact finP hk (by simp[hx])
  | true=>
  rw[hx] at ur
  cases hn:okAd t.next with
  | false=>
    rw[hn] at un
    refine W ?_
    refine cu uf ?_
    refine W ?_
    refine cu ur ?_
    refine W ?_
    refine cu un ?_
    refine W ?_
    exact finP hk (by simp[hn])
  | true=>
  rw[hn] at un
  by_cases h0:0<t.next.s
  ·refine W ?_
   refine cu uf ?_
   refine W ?_
   refine cu ur ?_
   refine W ?_
   refine cu un ?_
   refine W ?_
   exact finP hk (by simp[hx,hn,h0])
  ·refine W ?_
   refine cu uf ?_
   refine W ?_
   refine cu ur ?_
   refine W ?_
   refine cu un ?_
   refine W ?_
   exact finP hk (by simp[h0])
 ·have e1:(decide (t.size=4)||decide (t.size=16))=false:=by simp;omega
  rw[e1,Bool.false_and] at hk
  rw[e1,Bool.false_and] at uf
  refine W ?_
  refine cu uf ?_
  refine W ?_
  exact hk
theorem uR10RightU {t:Tb} {u:UR} (ht:okTb t) (hm:t.m=[]) (hu:t.u=[u]) (h:okN u.1) (f8:t.safi=128):U Tryz.prog 95 [.agg (tbC t),.bool true] (.bool ((decide (t.size=4)||decide (t.size=16))&&(okAd t.next&&(decide (0<t.next.s)&&uOne u t.size)))):=by
 intro σ Post hk
 have sc:=tbC_sc (x:=t)
 have ln:=tbC_len ht
 have c0:=tbC_all ht
 have g1:=tbC_gsize ht
 have g2:=tbC_gsafi ht
 have g3:=tbC_gnext ht
 have gn:cut (tbC t) 2 none=some (.int .i64 t.next.s):=rfl
 have g4:cut (tbC t) 19 none=some (.sl []):=by have:=tbC_gm ht;rw[hm] at this;exact this
 have g5:cut (tbC t) 20 none=some (.sl [nmU u.1 u.2]):=by have:=tbC_gu ht;rw[hu] at this;exact this
 have n5:¬ t.safi=5:=by omega
 have uf:=uR10Fam (s:=t.size) (f:=t.safi)
 have un:=uR2 ht.next
 refine T95 fun hB hA=>?_
 by_cases hs:t.size=4∨t.size=16
 ·have e1:(decide (t.size=4)||decide (t.size=16))=true:=by rcases hs with e|e<;>simp[e]
  have ur:=uR10RoutesU ht hm hu h f8 hs
  rw[e1,Bool.true_and] at hk
  rw[e1,Bool.true_and,show (decide (t.safi=5)||decide (t.safi=128))=true by simp[f8]] at uf
  generalize uOne u t.size=X at *
  cases hx:X with
  | false=>
    rw[hx] at ur
    refine W ?_
    refine cu uf ?_
    refine W ?_
    refine cu ur ?_
    refine W ?_
    refine cu un ?_
    refine W ?_
    exact finP hk (by simp[hx])
  | true=>
  rw[hx] at ur
  cases hn:okAd t.next with
  | false=>
    rw[hn] at un
    refine W ?_
    refine cu uf ?_
    refine W ?_
    refine cu ur ?_
    refine W ?_
    refine cu un ?_
    refine W ?_
    exact finP hk (by simp[hn])
  | true=>
  rw[hn] at un
  by_cases h0:0<t.next.s
  ·refine W ?_
   refine cu uf ?_
   refine W ?_
   refine cu ur ?_
   refine W ?_
   refine cu un ?_
   refine W ?_
   exact finP hk (by simp[hx,hn,h0])
  ·refine W ?_
   refine cu uf ?_
   refine W ?_
   refine cu ur ?_
   refine W ?_
   refine cu un ?_
   refine W ?_
   exact finP hk (by simp[h0])
 ·have e1:(decide (t.size=4)||decide (t.size=16))=false:=by simp;omega
  rw[e1,Bool.false_and] at hk
  rw[e1,Bool.false_and] at uf
  refine W ?_
  refine cu uf ?_
  refine W ?_
  exact hk
theorem uR10RightN {t:Tb} (ht:okTb t) (n5:¬ t.safi=5) (n8:¬ t.safi=128):U Tryz.prog 95 [.agg (tbC t),.bool true] (.bool false):=by
 intro σ Post hk
 have sc:=tbC_sc (x:=t)
 have ln:=tbC_len ht
 have c0:=tbC_all ht
 have g1:=tbC_gsize ht
 have g2:=tbC_gsafi ht
 have g3:=tbC_gnext ht
 have gn:cut (tbC t) 2 none=some (.int .i64 t.next.s):=rfl
 have uf:=uR10Fam (s:=t.size) (f:=t.safi)
 rw[show (decide (t.safi=5)||decide (t.safi=128))=false by simp[n5,n8],Bool.and_false] at uf
 refine T95 fun hB hA=>?_
 refine W ?_
 refine cu uf ?_
 refine W ?_
 exact hk
theorem uR10Up {a:At} {t:Tb} {X:Bool} (h:okAt a) (hc:∀ c,c∈a.cl→okD c) (htn:∀ t,t∈a.tn→okTn t) (hid:∀ t,t∈a.tn→t.id.length≤140737488355328) (l1:a.cl.length≤4611686018427387904) (l2:a.tn.length≤4611686018427387904) (hpl:a.path.length≤4611686018427387904) (hpn:∀ s,s∈a.path→s.nums.length≤4611686018427387904) (ht:okTb t) (hX:U Tryz.prog 95 [.agg (tbC t),.bool true] (.bool X)) (hcnt:X=true→t.m.length+t.u.length=1):U Tryz.prog 44 [.agg (upC ⟨a,[t],[]⟩)] (.bool (atR a&&X)):=by
 intro σ Post hk
 have ou:okUp ⟨a,[t],[]⟩:=⟨h⟩
 have sc:=upC_sc (x:=⟨a,[t],[]⟩)
 have ln:=upC_len ou
 have c0:=upC_all ou
 have g1:cut (upC ⟨a,[t],[]⟩) 0 (some 24)=some (.agg (atC a)):=upC_gatt ou
 have g2:cut (upC ⟨a,[t],[]⟩) 24 none=some (.sl [tbC t]):=upC_greach ou
 have g3:cut (upC ⟨a,[t],[]⟩) 25 none=some (.sl []):=upC_gunreach ou
 have tsc:=tbC_sc (x:=t)
 have tln:=tbC_len ht
 have tc0:=tbC_all ht
 have tg4:=tbC_gm ht
 have tg5:=tbC_gu ht
 have b1:[tbC t].length=1:=rfl
 have b2:(t.m.map mrc).length=t.m.length:=List.length_map _
 have b3:(t.u.map urU).length=t.u.length:=List.length_map _
 have hg:[tbC t][(0:Int).toNat]?=some (tbC t):=rfl
 have ua:=uR9Right h hc htn hid l1 l2 hpl hpn
 refine T44 fun hB hA=>?_
 cases ha:atR a with
 | false=>
   rw[ha] at ua hk
   refine W ?_
   refine cu ua ?_
   refine W ?_
   exact hk
 | true=>
   rw[ha,Bool.true_and] at hk
   rw[ha] at ua
   refine W ?_
   refine cu ua ?_
   refine W ?_
   cases hx:X with
   | false=>
     rw[hx] at hX hk
     refine lp (fun k e hh=>e 4=.int .i64 0∧hh=σ++[(1,VObj.box (upC ⟨a,[t],[]⟩) false)]) 0 ⟨rfl,rfl⟩ ?_
     rintro k u _ ⟨e4,rfl⟩
     refine W ?_
     refine cu hX ?_
     refine W ?_
     exact hk
   | true=>
     rw[hx] at hX hk
     have hcnt:=hcnt hx
     have hn0:¬ ((t.m.length:Int)+(t.u.length:Int))=0:=by omega
     refine lp (fun k e hh=>(k=1∧e 4=.int .i64 0∧hh=σ++[(1,VObj.box (upC ⟨a,[t],[]⟩) false)])∨(k=0∧e 4=.int .i64 1∧hh=σ++[(1,VObj.box (upC ⟨a,[t],[]⟩) false)])) 1 (.inl ⟨rfl,rfl,rfl⟩) ?_
     rintro k u _ (⟨rfl,e4,rfl⟩|⟨rfl,e4,rfl⟩)
     ·refine W ?_
      refine cu hX ?_
      refine W ?_
      exact⟨0,by omega,.inr ⟨rfl,rfl,rfl⟩⟩
     ·refine W ?_
      refine lp (fun k e hh=>e 6=.int .i64 0∧hh=σ++[(1,VObj.box (upC ⟨a,[t],[]⟩) false)]) 0 ⟨rfl,rfl⟩ ?_
      rintro k2 u2 _ ⟨e6,rfl⟩
      refine W ?_
      exact hk
theorem uRRightG {r:Rt} {X:Bool} (h:okRt r) (uUp:U Tryz.prog 44 [.agg (upC ⟨r.att,[aloneT r],[]⟩)] (.bool X)):U Tryz.prog 15 [.agg (rtC r)] (.bool ((if r.safi=5 then eqUr r.u (nm0,0) else if r.safi=128 then r.m==mr0 else true)&&X)):=by
 intro σ Post hk
 have sc:=rtC_sc (x:=r)
 have ln:=rtC_len h
 have c0:=rtC_all h
 have g2:=rtC_gsafi h
 have g3:=rtC_gm h
 have g4:=rtC_gu h
 have g6:=rtC_gatt h
 have at1:=atC_len h.att
 have at2:=atC_sc (x:=r.att)
 have tok:=aloneT_ok h
 have t1:=tbC_len (aloneT_ok h)
 have t2:=tbC_sc (x:=aloneT r)
 have w1:=upR_b h.att
 have w2:=upR_sm h.att (c:=.nils) (d:=.nils) (v:=.row (σ.length+3) 1)
 have w3:=upR_len h.att (c:=.nils) (d:=.nils)
 have q0:=eqC_U (a:=r.u.2) (b:=(0:Int)) h.u nm0_ok
 have q1:=eqC_mr h.m mr0_ok
 rw[show (sameU r.u.1.rd r.u.1.s r.u.1.b r.u.1.k nm0.rd nm0.s nm0.b nm0.k&&(r.u.2==0))=eqUr r.u (nm0,0) from rfl] at q0
 have dn0:splice [D.o,D.o,D.o,D.o,D.o,D.o,D.o,D.o,.int .i64 0,D.o,D.o,D.o,D.o,D.o,D.o,D.o,D.o,D.o,D.o,D.o,D.o,D.o,D.o,D.o,D.o,.int .i64 0,.int .i64 0] 0 [D.o,D.o,D.o,D.o,D.o,D.o,D.o,D.o,.int .i64 0,D.o,D.o,D.o,D.o,D.o,D.o,D.o,D.o,D.o,D.o,D.o,D.o,D.o,D.o,D.o,D.o,.int .i64 0,.int .i64 0]=nmU nm0 0:=rfl
 have dm0:splice [PV.int .i64 0,D.o,D.o,D.o,D.o,D.o,D.o,D.o,D.o,.int .i64 0,.int .i64 0,D.o,D.o,D.o,D.o,D.o,D.o,D.o,D.o,D.o,D.o,D.o,D.o,D.o,D.o,D.o,D.o,.int .i64 0,D.o,D.o,D.o,D.o,D.o,D.o,D.o,D.o,D.o,D.o,D.o,D.o,D.o,D.o,D.o,D.o,.int .i64 0,D.o,D.o,D.o,D.o,D.o,D.o,D.o,D.o,D.o,D.o,D.o,D.o,D.o,D.o,D.o,D.o,.str []] 0 [PV.int .i64 0,D.o,D.o,D.o,D.o,D.o,D.o,D.o,D.o,.int .i64 0,.int .i64 0,D.o,D.o,D.o,D.o,D.o,D.o,D.o,D.o,D.o,D.o,D.o,D.o,D.o,D.o,D.o,D.o,.int .i64 0,D.o,D.o,D.o,D.o,D.o,D.o,D.o,D.o,D.o,D.o,D.o,D.o,D.o,D.o,D.o,D.o,.int .i64 0,D.o,D.o,D.o,D.o,D.o,D.o,D.o,D.o,D.o,D.o,D.o,D.o,D.o,D.o,D.o,D.o,.str []]=mrc mr0:=rfl
 have nl:=nmU_len (a:=(0:Int)) nm0_ok
 have na:=nmU_all (a:=(0:Int)) nm0_ok
 have ml:=mrc_len mr0_ok
 have ma:=mrc_all mr0_ok
 have ul:=nmU_len (a:=r.u.2) h.u
 have mml:=mrc_len h.m
 refine T15 fun hB hA=>?_
 by_cases f5:r.safi=5
 ·cases hq:eqUr r.u (nm0,0) with
  | true=>
    rw[hq] at q0
    refine Wo ?_
    refine drJ (fun h=>vGet h (σ.length+0) 1=some (.box (rtC r) false)) [(2,0),(2,1),(1,2),(1,3),(0,4),(2,5),(0,6),(2,7)] (by kernel_rfl) (by kernel_rfl) (by exact z_ol) (lget rfl rfl) ?_
    refine Wo ?_
    refine s1 (uRTable h) ?_
    refine Wo ?_
    refine sv_0 ?_
    refine est (by exact z_ea) ?_
    refine st_end ⟨lget rfl rfl,?_⟩
    refine Wo ?_
    refine sv_0 ?_
    refine cu (uUp) ?_ (by exact z_hn) (by exact z_ma) (InlA.agg (InlA_app (InlA_pl inferInstance) (.row (vGet_of rfl) rfl (.nils (.nil _)))) (.nil _)) rfl
    refine st_end ⟨lget rfl rfl,?_⟩
    refine Wo ?_
    exact finP hk (by simp[f5,hq])
  | false=>
    rw[hq] at q0
    refine Wo ?_
    exact finP hk (by simp[f5,hq])
 ·by_cases f128:r.safi=128
  ·cases hq:r.m==mr0 with
   | true=>
     rw[hq] at q1
     refine Wo ?_
     refine drJ (fun h=>vGet h (σ.length+0) 1=some (.box (rtC r) false)) [(2,0),(2,1),(1,2),(1,3),(0,4),(2,5),(0,6),(2,7)] (by kernel_rfl) (by kernel_rfl) (by exact z_ol) (lget rfl rfl) ?_
     refine Wo ?_
     refine s1 (uRTable h) ?_
     refine Wo ?_
     refine sv_0 ?_
     refine est (by exact z_ea) ?_
     refine st_end ⟨lget rfl rfl,?_⟩
     refine Wo ?_
     refine sv_0 ?_
     refine cu (uUp) ?_ (by exact z_hn) (by exact z_ma) (InlA.agg (InlA_app (InlA_pl inferInstance) (.row (vGet_of rfl) rfl (.nils (.nil _)))) (.nil _)) rfl
     refine st_end ⟨lget rfl rfl,?_⟩
     refine Wo ?_
     exact finP hk (by simp[f128,hq])
   | false=>
     rw[hq] at q1
     refine Wo ?_
     exact finP hk (by simp[f128,hq])
  ·refine Wo ?_
   refine drJ (fun h=>vGet h (σ.length+0) 1=some (.box (rtC r) false)) [(2,0),(2,1),(1,2),(1,3),(0,4),(2,5),(0,6),(2,7)] (by kernel_rfl) (by kernel_rfl) (by exact z_ol) (lget rfl rfl) ?_
   refine Wo ?_
   refine s1 (uRTable h) ?_
   refine Wo ?_
   refine sv_0 ?_
   refine est (by exact z_ea) ?_
   refine st_end ⟨lget rfl rfl,?_⟩
   refine Wo ?_
   refine sv_0 ?_
   refine cu (uUp) ?_ (by exact z_hn) (by exact z_ma) (InlA.agg (InlA_app (InlA_pl inferInstance) (.row (vGet_of rfl) rfl (.nils (.nil _)))) (.nil _)) rfl
   refine st_end ⟨lget rfl rfl,?_⟩
   refine Wo ?_
   exact finP hk (by simp[f5,f128])
structure okLen (a:At):Prop where
 cl:a.cl.length≤4611686018427387904
 tn:a.tn.length≤4611686018427387904
 path:a.path.length≤4611686018427387904
 nums:∀ s,s∈a.path→s.nums.length≤4611686018427387904
theorem few_len {r:Rt} (hf:few15 r=true):okLen r.att:=by
 unfold few15 few9 at hf
 simp only[Bool.and_eq_true,Bool.not_eq_true',List.any_eq_false,decide_eq_true_eq] at hf
 obtain⟨⟨h1,h2,h3,h4,h5,h6⟩,h7⟩:=hf
 refine⟨by omega,by omega,by omega,fun s hs=>?_⟩
 have:=h1 s hs
 omega
theorem uRRight {r:Rt} (o:okRib r) (ol:okLen r.att):U Tryz.prog 15 [.agg (rtC r)] (.bool (rtR r)):=by
 have ht:=aloneT_ok o.ok
 have hX:U Tryz.prog 95 [.agg (tbC (aloneT r)),.bool true] (.bool (rtT r)):=by
  unfold rtT
  by_cases f5:r.safi=5
  ·have hm:(aloneT r).m=[r.m]:=by unfold aloneT;dsimp only;rw[if_pos f5]
   have hu:(aloneT r).u=[]:=by unfold aloneT;dsimp only;rw[if_neg (fun e=>e.1 f5)]
   rw[if_pos f5]
   exact uR10RightM ht hm hu o.ok.m o.key f5
  ·rw[if_neg f5]
   have hm:(aloneT r).m=[]:=by unfold aloneT;dsimp only;rw[if_neg f5]
   by_cases f8:r.safi=128
   ·have hu:(aloneT r).u=[r.u]:=by unfold aloneT;dsimp only;rw[if_pos ⟨f5,f8⟩]
    rw[if_pos f8]
    exact uR10RightU ht hm hu o.ok.u f8
   ·rw[if_neg f8]
    have:=uR10RightN ht f5 f8
    simpa using this
 have hcnt:rtT r=true→(aloneT r).m.length+(aloneT r).u.length=1:=by
  intro hh
  unfold aloneT
  dsimp only
  by_cases f5:r.safi=5
  ·rw[if_pos f5,if_neg (fun e=>e.1 f5)];rfl
  ·by_cases f8:r.safi=128
   ·rw[if_neg f5,if_pos ⟨f5,f8⟩];rfl
   ·unfold rtT at hh
    rw[if_neg f5,if_neg f8] at hh
    simp at hh
 exact uRRightG o.ok (uR10Up o.ok.att o.cl o.tn o.id ol.cl ol.tn ol.path ol.nums ht hX hcnt)
end Go.Proofs.YtdpeaefgbmkegaaGreatDoor
namespace Go.Proofs.YtdpeaefgbmkegaaGreatDoor
open Go Go.V
set_option maxRecDepth 10000
set_option linter.unusedVariables false
attribute [local irreducible] vBuild vCallV
def kindF (l:List Int) (p:Int):Int:=if p<1∨(l.length:Int)<p then 0 else(l[(p - 1).toNat]?).getD 0
theorem uKind {l:List Int} {p:Int} (hl:l.length≤9223372036854775807) (hp:p≤9223372036854775807) (hp0:-9223372036854775808≤p):U Tryz.prog 11 [.sl (l.map fun n=>[PV.int .i64 n]),.int .i64 p] (.int .i64 (kindF l p)):=by
 intro σ Post hk
 have bl:(l.map fun n=>[PV.int .i64 n]).length=l.length:=List.length_map _
 unfold kindF at hk
 refine T11 fun hB hA=>?_
 by_cases h1:p<1
 ·rw[if_pos (.inl h1)] at hk
  refine W ?_
  exact hk
 ·by_cases h2:(l.length:Int)<p
  ·rw[if_pos (.inr h2)] at hk
   refine W ?_
   exact hk
  ·rw[if_neg (by omega)] at hk
   obtain⟨x,hx⟩:∃ x,l[(p - 1).toNat]?=some x:=⟨_,List.getElem?_eq_getElem (by omega)⟩
   have hg:(l.map fun n=>[PV.int .i64 n])[(p - 1).toNat]?=some [PV.int .i64 x]:=by rw[List.getElem?_map,hx];rfl
   rw[hx] at hk
   refine W ?_
   exact hk
theorem uR17Kind {l:List Int} {p:Int} (hl:l.length≤9223372036854775807) (hp:p≤9223372036854775807) (hp0:-9223372036854775808≤p):U Tryz.prog 12 [.sl (l.map fun n=>[PV.int .i64 n]),.int .i64 p] (.int .i64 (kindF l p)):=by
 intro σ Post hk
 have bl:(l.map fun n=>[PV.int .i64 n]).length=l.length:=List.length_map _
 unfold kindF at hk
 refine T12 fun hB hA=>?_
 by_cases h1:p<1
 ·rw[if_pos (.inl h1)] at hk
  refine W ?_
  exact hk
 ·by_cases h2:(l.length:Int)<p
  ·rw[if_pos (.inr h2)] at hk
   refine W ?_
   exact hk
  ·rw[if_neg (by omega)] at hk
   obtain⟨x,hx⟩:∃ x,l[(p - 1).toNat]?=some x:=⟨_,List.getElem?_eq_getElem (by omega)⟩
   have hg:(l.map fun n=>[PV.int .i64 n])[(p - 1).toNat]?=some [PV.int .i64 x]:=by rw[List.getElem?_map,hx];rfl
   rw[hx] at hk
   refine W ?_
   exact hk
open D in
def vb10_4:VC:=
 .seq (Rg [m 11 (.mov (.c q))]<|
 .block 0<|.loop<|.seq (Rg [Mv 31 11,m 32 (Fl 108 7),m 33 (Fl 21 32),m 34 (Ld 33),m 35 (.len (t 34)),m 36 (.bin .lss .num (t 31) (t 35))]<|
 .cond (t 36) (.skip) (.exit 0))<|
 .seq (.block 1<|.seq (.dreg [(m 39 (Fl 108 7),[]),(m 40 (Fl 21 39),[0]),(m 41 (Ld 40),[1]),(Mv 42 11,[]),(m 43 (.index 17 (t 41) (t 42)),[2,3]),(m 44 (Ls 17 43),[4]),(m 45 (Ls 17 6),[]),(m 46 (.eqAgg [(.i .i64),(.i .u8),(.i .u8),(.i .u8),(.i .u8),(.i .u8),(.i .u8),(.i .u8),(.i .u8),(.i .u8),(.i .u8),(.i .u8),(.i .u8),(.i .u8),(.i .u8),(.i .u8),(.i .u8)] false (t 44) (t 45)),[5,6]),(Mv 47 46,[7]),(Gt 48 47 (Ls 17 6),[8]),(Gt 49 47 (Ls 17 9),[8]),(Gt 50 47 (.eqAgg [(.i .i64),(.i .u8),(.i .u8),(.i .u8),(.i .u8),(.i .u8),(.i .u8),(.i .u8),(.i .u8),(.i .u8),(.i .u8),(.i .u8),(.i .u8),(.i .u8),(.i .u8),(.i .u8),(.i .u8)] true (t 48) (t 49)),[9,10,8]),(m 51 (.pick (t 47) (t 50) Bf),[8,11])] [(1,0),(1,1),(1,2),(2,3),(1,4),(1,5),(1,6),(2,7),(2,8),(1,9),(1,10),(2,11),(2,12)] [0,1,3,0,15,31,0,127,255,511,511,2047,4095])<|
 .cond (t 51) (Rg [m 8 (.mov Bf)]<|
 .ret) (.skip))<|
 .region [Mv 37 11,m 38 (.bin .add .num (t 37) (Ci 1)),Mv 11 38])<|
 .seq (Rg [m 12 (.mov (.c q))]<|
 .block 2<|.loop<|.seq (Rg [Mv 52 12,m 53 (Fl 108 7),m 54 (Fl 1 53),m 55 (Ld 54),m 56 (.len (t 55)),m 57 (.bin .lss .num (t 52) (t 56))]<|
 .cond (t 57) (.skip) (.exit 2))<|
 .seq (.block 3<|Rg [m 13 (.mov (.c q))]<|
 .block 4<|.loop<|.seq (Rg [Mv 60 13,m 61 (Fl 108 7),m 62 (Fl 1 61),m 63 (Ld 62),Mv 64 12,m 65 (.index 2 (t 63) (t 64)),m 66 (Fl 1 65),m 67 (Ld 66),m 68 (.len (t 67)),m 69 (.bin .lss .num (t 60) (t 68))]<|
 .cond (t 69) (.skip) (.exit 4))<|
 .seq (.block 5<|Rg [m 72 (Fl 108 7),m 73 (Fl 1 72),m 74 (Ld 73),Mv 75 12,m 76 (.index 2 (t 74) (t 75)),m 77 (Fl 1 76),m 78 (Ld 77),Mv 79 13,m 80 (.index 1 (t 78) (t 79)),m 81 (Ld 80),Mv 82 0,m 83 (.bin .eql .num (t 81) (t 82))]<|
 .cond (t 83) (Rg [m 8 (.mov Bf)]<|
 .ret) (.skip))<|
 .region [Mv 70 13,m 71 (.bin .add .num (t 70) (Ci 1)),Mv 13 71])<|
 .region [Mv 58 12,m 59 (.bin .add .num (t 58) (Ci 1)),Mv 12 59])<|
 Rg [m 8 (.mov Bt)]<|
 .ret
open D in
theorem vb10_eq:vb10 =
 (Rg [m 5 (.box 0 (t 1)),m 6 (.box 1 (t 2)),m 7 (.box 2 (t 3)),m 8 (.mov Bf)]<|
 Rg [m 14 (.build [q,o,o,o,o,o,o,o,o,o,o,o,o,o,o,o,o] []),m 9 (.alloc 3 [q,o,o,o,o,o,o,o,o,o,o,o,o,o,o,o,o]),e (.store 17 (t 9) (t 14))]<|
 Rg [m 15 (Ls 132 7),m 16 (.call false 15 [(t 15)]),Mv 10 16]<|
 .seq (Rg [Mv 17 10,m 18 (.un .not (t 17)),Mv 19 18,Gf 20 19 (Fl 108 7),Gf 21 19 (Fl 4 20),Gf 22 19 (Ls 17 21),Gf 23 19 (Ls 17 5),Gf 24 19 (.eqAgg [(.i .i64),(.i .u8),(.i .u8),(.i .u8),(.i .u8),(.i .u8),(.i .u8),(.i .u8),(.i .u8),(.i .u8),(.i .u8),(.i .u8),(.i .u8),(.i .u8),(.i .u8),(.i .u8),(.i .u8)] false (t 22) (t 23)),Gf 25 19 (.mov (t 24)),Gt 26 25 (Ls 17 5),Gt 27 25 (Ls 17 9),Gt 28 25 (.eqAgg [(.i .i64),(.i .u8),(.i .u8),(.i .u8),(.i .u8),(.i .u8),(.i .u8),(.i .u8),(.i .u8),(.i .u8),(.i .u8),(.i .u8),(.i .u8),(.i .u8),(.i .u8),(.i .u8),(.i .u8)] true (t 26) (t 27)),Gf 29 19 (.pick (t 25) (t 28) Bf),m 30 (.pick (t 19) Bt (t 29))]<|
 .cond (t 30) (Rg [m 8 (.mov Bf)]<|
 .ret) (.skip))<|
 vb10_4):=rfl
theorem uR17Takes {r:Rt} {v:Int} {id cl:Ad} (h:okRib r) (ol:okLen r.att) (hi:okD id) (hc:okD cl):U Tryz.prog 10 [.int .i64 v,.agg (adc id),.agg (adc cl),.agg (rtC r)] (.bool (takesF v id cl r)):=by
 intro σ Post hk
 have sc:=rtC_sc (x:=r)
 have ln:=rtC_len h.ok
 have c0:=rtC_all h.ok
 have is:=adc_sc (a:=id)
 have il:=adc_len hi
 have ia:=adc_all hi
 have cs:=adc_sc (a:=cl)
 have cl1:=adc_len hc
 have ca:=adc_all hc
 have go:cut (rtC r) 112 (some 17)=some (.agg (adc r.att.orig)):=rt_ga (o:=4) h.ok (atC_gorig h.ok.att)
 have gc:cut (rtC r) 129 none=some (.sl (r.att.cl.map adc)):=rt_ga (o:=21) h.ok (atC_gcl h.ok.att)
 have gp:cut (rtC r) 109 none=some (.sl (r.att.path.map segC)):=rt_ga (o:=1) h.ok (atC_gpath h.ok.att)
 have bc:(r.att.cl.map adc).length=r.att.cl.length:=List.length_map _
 have bp:(r.att.path.map segC).length=r.att.path.length:=List.length_map _
 have lc:=ol.cl
 have lp':=ol.path
 have og:=adc_len h.ok.att.orig
 have dA:splice [PV.int .i64 0,D.o,D.o,D.o,D.o,D.o,D.o,D.o,D.o,D.o,D.o,D.o,D.o,D.o,D.o,D.o,D.o] 0 [PV.int .i64 0,D.o,D.o,D.o,D.o,D.o,D.o,D.o,D.o,D.o,D.o,D.o,D.o,D.o,D.o,D.o,D.o]=adc ad0:=rfl
 have al:=adc_len ad0_ok
 have aa:=adc_all ad0_ok
 have q1:=eqC_ad h.ok.att.orig hi
 have q2:=eqC_ad hi ad0_ok
 have q3:=eqC_ad hc ad0_ok
 have ur:=uRRight h ol
 refine T10 fun hB hA=>?_
 cases hr:rtR r with
 | false=>
   rw[hr] at ur
   refine W ?_
   refine cu ur ?_
   refine W ?_
   exact finP hk (by simp[takesF,hr])
 | true=>
 rw[hr] at ur
 have e2:isA r.att.orig id=((r.att.orig==id)&&!(id==ad0)):=by
  unfold isA
  cases hq:r.att.orig==id with
  | true=>rw[beq_iff_eq] at hq;rw[hq]
  | false=>rfl
 cases h1:((r.att.orig==id)&&!(id==ad0)) with
 | true=>
   rw[Bool.and_eq_true,Bool.not_eq_true'] at h1
   rw[h1.1] at q1
   rw[h1.2] at q2
   refine W ?_
   refine cu ur ?_
   refine W ?_
   exact finP hk (by unfold takesF;rw[e2,h1.1,h1.2];simp)
 | false=>
 have loops:∀ E:Env,E 0=.int .i64 v→E 6=.ptr (σ.length+1) 1 0→E 7=.ptr (σ.length+2) 1 0→E 9=.ptr (σ.length+3) 1 0→vrun Tryz.prog σ.length vb10_4 E (σ++[(1,VObj.box (adc id) false),(1,.box (adc cl) false),(1,.box (rtC r) false),(1,.box (adc ad0) false)]) (vend vf10 (TrimP σ.length Post)):=by
  intro E e0 e6 e7 e9
  clear ur
  unfold vb10_4
  refine cutp (fun E hh=>E 0=.int .i64 v∧E 7=.ptr (σ.length+2) 1 0∧(r.att.cl.any fun a=>isA a cl)=false∧hh=σ++[(1,VObj.box (adc id) false),(1,.box (adc cl) false),(1,.box (rtC r) false),(1,.box (adc ad0) false)]) ?_ ?_
  ·refine W ?_
   refine lp (fun k e hh=>∃ i:Nat,i+k=r.att.cl.length∧e 11=.int .i64 i∧((r.att.cl.take i).any fun a=>isA a cl)=false∧hh=σ++[(1,VObj.box (adc id) false),(1,.box (adc cl) false),(1,.box (rtC r) false),(1,.box (adc ad0) false)]) r.att.cl.length ⟨0,by simp,rfl,rfl,rfl⟩ ?_
   rintro k u _ ⟨i,hik,e11,hal,rfl⟩
   by_cases h5:i<r.att.cl.length
   ·obtain⟨x,hx⟩:∃ x,r.att.cl[i]?=some x:=⟨_,List.getElem?_eq_getElem h5⟩
    have hg:(r.att.cl.map adc)[(i:Int).toNat]?=some (adc x):=by rw[Int.toNat_natCast,List.getElem?_map,hx];rfl
    have hm:=h.cl x (List.mem_of_getElem? hx)
    have xl:=adc_len hm
    have xc:=adc_all hm
    have q4:=eqC_ad hm hc
    have ex:isA x cl=((x==cl)&&!(cl==ad0)):=by
     unfold isA
     cases hq:x==cl with
     | true=>rw[beq_iff_eq] at hq;rw[hq]
     | false=>rfl
    cases h2:((x==cl)&&!(cl==ad0)) with
    | true=>
      rw[Bool.and_eq_true,Bool.not_eq_true'] at h2
      rw[h2.1] at q4
      rw[h2.2] at q3
      have:(r.att.cl.any fun a=>isA a cl)=true:=List.any_eq_true.2 ⟨x,List.mem_of_getElem? hx,by rw[ex,h2.1,h2.2];rfl⟩
      have hf:takesF v id cl r=false:=by unfold takesF;rw[this];simp
      rw[hf] at hk
      refine W ?_
      exact hk
    | false=>
      have hst:((r.att.cl.take (i+1)).any fun a=>isA a cl)=false:=by rw[snocT hx,List.any_append,hal];simp[ex,h2]
      cases hq:x==cl with
      | false=>
        rw[hq] at q4
        refine W ?_
        exact⟨k - 1,by omega,i+1,by omega,rfl,hst,rfl⟩
      | true=>
        rw[hq] at q4 h2
        have h3:(cl==ad0)=true:=by simpa using h2
        rw[h3] at q3
        refine W ?_
        exact⟨k - 1,by omega,i+1,by omega,rfl,hst,rfl⟩
   ·have h9:r.att.cl.take i=r.att.cl:=List.take_of_length_le (by omega)
    rw[h9] at hal
    refine W ?_
    exact⟨e0,e7,hal,rfl⟩
  clear e0 e6 e7 e9
  rintro u _ ⟨e0,e7,hcl,rfl⟩
  generalize mix _ u _=E at *
  refine W ?_
  refine lp (fun k e hh=>∃ i:Nat,i+k=r.att.path.length∧e 12=.int .i64 i∧((r.att.path.take i).any fun s=>hasI v s.nums)=false∧hh=σ++[(1,VObj.box (adc id) false),(1,.box (adc cl) false),(1,.box (rtC r) false),(1,.box (adc ad0) false)]) r.att.path.length ⟨0,by simp,rfl,rfl,rfl⟩ ?_
  rintro k u _ ⟨i,hik,e12,hal,rfl⟩
  by_cases h5:i<r.att.path.length
  ·obtain⟨x,hx⟩:∃ x,r.att.path[i]?=some x:=⟨_,List.getElem?_eq_getElem h5⟩
   have hg:(r.att.path.map segC)[(i:Int).toNat]?=some (segC x):=by rw[Int.toNat_natCast,List.getElem?_map,hx];rfl
   have hm:=ol.nums x (List.mem_of_getElem? hx)
   have gn:=segC_gnums (x:=x) ⟨trivial⟩
   have bn:(x.nums.map fun n=>[PV.int .i64 n]).length=x.nums.length:=List.length_map _
   refine W ?_
   refine lp (fun k2 e hh=>∃ j:Nat,j+k2=x.nums.length∧e 13=.int .i64 j∧hasI v (x.nums.take j)=false∧hh=σ++[(1,VObj.box (adc id) false),(1,.box (adc cl) false),(1,.box (rtC r) false),(1,.box (adc ad0) false)]) x.nums.length ⟨0,by simp,rfl,rfl,rfl⟩ ?_
   rintro k2 u2 _ ⟨j,hj,e13,hal2,rfl⟩
   by_cases h6:j<x.nums.length
   ·obtain⟨y,hy⟩:∃ y,x.nums[j]?=some y:=⟨_,List.getElem?_eq_getElem h6⟩
    have hg2:(x.nums.map fun n=>[PV.int .i64 n])[(j:Int).toNat]?=some [PV.int .i64 y]:=by rw[Int.toNat_natCast,List.getElem?_map,hy];rfl
    by_cases hv:y=v
    ·have hx2:hasI v x.nums=true:=List.any_eq_true.2 ⟨y,List.mem_of_getElem? hy,by simp[hv]⟩
     have:(r.att.path.any fun s=>hasI v s.nums)=true:=List.any_eq_true.2 ⟨x,List.mem_of_getElem? hx,hx2⟩
     have hf:takesF v id cl r=false:=by unfold takesF;rw[this];simp
     rw[hf] at hk
     refine W ?_
     exact hk
    ·have hst:hasI v (x.nums.take (j+1))=false:=by
      have hne:¬ v=y:=fun e=>hv e.symm
      rw[snocT hy];unfold hasI at hal2 ⊢;rw[List.any_append,hal2];simp[hne]
     refine W ?_
     exact⟨k2 - 1,by omega,j+1,by omega,rfl,hst,rfl⟩
   ·have h9:x.nums.take j=x.nums:=List.take_of_length_le (by omega)
    rw[h9] at hal2
    refine W ?_
    exact⟨k - 1,by omega,i+1,by omega,rfl,by rw[snocT hx,List.any_append,hal];simp[hal2],rfl⟩
  ·have h9:r.att.path.take i=r.att.path:=List.take_of_length_le (by omega)
   rw[h9] at hal
   have hf:takesF v id cl r=true:=by unfold takesF;rw[hr,e2,h1,hcl,hal];rfl
   rw[hf] at hk
   refine W ?_
   exact hk
 rw[vb10_eq]
 cases hq:r.att.orig==id with
 | false=>
   rw[hq] at q1
   refine W ?_
   refine cu ur ?_
   refine W ?_
   exact loops _ rfl rfl rfl rfl
 | true=>
   rw[hq] at q1 h1
   have h3:(id==ad0)=true:=by simpa using h1
   rw[h3] at q2
   refine W ?_
   refine cu ur ?_
   refine W ?_
   exact loops _ rfl rfl rfl rfl
theorem tRelayTakes {v p:Int} {id cl:Ad} {r:Rt} {l:List Int} (hr:okArg r) (hi:okD id) (hc:okD cl) (hl:l.length≤9223372036854775807) (hp:p≤9223372036854775807) (hp0:-9223372036854775808≤p) (sm:U Tryz.prog 7 [] (.bool true)):U Tryz.prog 3 [.int .i64 v,.agg (adc id),.agg (adc cl),.agg (rtC r),.sl (l.map fun n=>[PV.int .i64 n]),.int .i64 p] (.bool true):=by
 intro σ Post hk
 have sc:=rtC_sc (x:=r)
 have ln:=rtC_len hr.ok
 have c0:=rtC_all hr.ok
 have is:=adc_sc (a:=id)
 have il:=adc_len hi
 have ia:=adc_all hi
 have cs:=adc_sc (a:=cl)
 have cl1:=adc_len hc
 have ca:=adc_all hc
 refine T3 fun hB hA=>?_
 refine W ?_
 refine cu sm ?_
 refine W ?_
 refine cu (uFew15 hr.ok hr.tn hr.l1 hr.l2 hr.l3) ?_
 cases hf:few15 r with
 | false=>
   refine W ?_
   exact hk
 | true=>
 have o:=okArg_few hr hf
 have u1:=uTakes (v:=v) o hi hc
 have u2:=uR17Takes (v:=v) o (few_len hf) hi hc
 have u3:=uKind hl hp hp0
 have u4:=uR17Kind hl hp hp0
 generalize takesF v id cl r=X at *
 generalize kindF l p=Y at *
 refine Wo ?_
 refine drJ (fun h=>vGet h (σ.length+0) 1=some (.box (adc id) false)∧vGet h (σ.length+1) 1=some (.box (adc cl) false)∧vGet h (σ.length+2) 1=some (.box (rtC r) false)) [(2,0),(2,1),(2,2),(1,3),(1,4),(1,5),(1,6),(2,7),(1,8),(1,9),(1,10),(1,11),(2,12),(2,13),(2,14),(2,15),(2,16),(1,17),(2,18),(2,19),(1,20),(2,21),(2,22),(2,23)] (by kernel_rfl) (by kernel_rfl) (by exact z_ol) ⟨lget rfl rfl,lget rfl rfl,lget rfl rfl⟩ ?_
 refine Wo ?_
 refine sv1t rfl (y_call u1 (by exact z_ma)) ?_
 refine Wo ?_
 refine sv1t rfl (y_call u2 (by exact z_ma)) ?_
 have eX:(X==X)=true:=by simp
 refine Wo ?_
 rw[eX]
 refine Wo ?_
 refine sv1t rfl (y_call u3 (by exact z_ma)) ?_
 refine Wo ?_
 refine sv1t rfl (y_call u4 (by exact z_ma)) ?_
 have eY:Y=Y:=rfl
 refine Wo ?_
 refine W ?_
 exact hk
end Go.Proofs.YtdpeaefgbmkegaaGreatDoor
