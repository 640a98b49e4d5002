/- mroute.Right, given what it says of a leaf's key. -/
import Derived.Test.YtdpeaefgbmkegaaGreatDoorHN
set_option maxHeartbeats 4000000
namespace Go.Proofs.YtdpeaefgbmkegaaGreatDoor
open Go Go.V
set_option maxRecDepth 10000
theorem eqC_s (a b:List UInt8):eqCells [.s] [.str a] [.str b]=some (a==b):=by simp[eqCells,eqCell,eqS]
theorem eqC_ad {a b:Ad} (ha:okD a) (hb:okD b):eqCells ([.i .i64]++List.replicate 16 (.i .u8)) (adc a) (adc b)=some (a==b):=by
 have h:=eqC_app (eqC_i a.s b.s) (eqC_u8 a.b b.b (by rw[ha,hb]))
 rw[ha] at h
 have e:(a==b)=(a.s==b.s&&(a.b==b.b)):=by
  cases a;cases b
  rw[Bool.eq_iff_iff]
  simp[Ad.mk.injEq]
 rw[e]
 exact h
theorem eqC_mr {a b:Mr} (ha:okM a) (hb:okM b):eqCells [.i .i64,.i .u8,.i .u8,.i .u8,.i .u8,.i .u8,.i .u8,.i .u8,.i .u8,.i .i64,.i .i64,.i .u8,.i .u8,.i .u8,.i .u8,.i .u8,.i .u8,.i .u8,.i .u8,.i .u8,.i .u8,.i .u8,.i .u8,.i .u8,.i .u8,.i .u8,.i .u8,.i .i64,.i .u8,.i .u8,.i .u8,.i .u8,.i .u8,.i .u8,.i .u8,.i .u8,.i .u8,.i .u8,.i .u8,.i .u8,.i .u8,.i .u8,.i .u8,.i .u8,.i .i64,.i .u8,.i .u8,.i .u8,.i .u8,.i .u8,.i .u8,.i .u8,.i .u8,.i .u8,.i .u8,.i .u8,.i .u8,.i .u8,.i .u8,.i .u8,.i .u8,.s] (mrc a) (mrc b)=some (a==b):=by
 have h:=eqC_app (eqC_i a.k b.k) (eqC_app (eqC_u8 a.rd b.rd (by rw[ha.rd,hb.rd])) (eqC_app (eqC_i a.aa b.aa) (eqC_app (eqC_ad ha.s hb.s) (eqC_app (eqC_ad ha.g hb.g) (eqC_app (eqC_ad ha.f hb.f) (eqC_s a.key b.key))))))
 rw[ha.rd] at h
 have e:(a==b)=(a.k==b.k&&(a.rd==b.rd&&(a.aa==b.aa&&(a.s==b.s&&(a.g==b.g&&(a.f==b.f&&(a.key==b.key))))))):=by
  cases a;cases b
  rw[Bool.eq_iff_iff]
  simp[Mr.mk.injEq]
 rw[e]
 exact h
def rightG (m:Mr) (B:Bool):Bool:=(ofF m.k).2&&((bareF m (ofF m.k).1==m)&&(decide (0≤m.aa)&&(decide (m.aa≤4294967295)&&((!(ofF m.k).1.fr||someA m.f)&&((!(ofF m.k).1.fl||flowsF m.s m.g (decide (m.k=3)))&&(decide (m.k≠4)||B))))))
attribute [local irreducible] vBuild
theorem uRightG {m X:Mr} {B:Bool} (h:okM m) (hX:okM X) (ha:m.k=4→U Tryz.prog 220 [.str m.key] (.tup [.agg (mrc X),.bool B])):U Tryz.prog 168 [.agg (mrc m)] (.bool (rightG m B)):=by
 intro σ Post hp
 have sc:=mrc_sc (m:=m)
 have ln:=mrc_len h
 have c0:=mrc_all h
 have c2:=mc_as h
 have c3:=mc_s h
 have c4:=mc_g h
 have c5:=mc_f h
 have c6:=mc_key h
 have c7:cut (mrc m) 0 none=some (.int .i64 m.k):=rfl
 have scX:=mrc_sc (m:=X)
 have lnX:=mrc_len hX
 have setX:=mz_st hX
 have as2:=adc_len h.s
 have as3:=adc_len h.g
 have as4:=adc_len h.f
 have bare:=uBare h
 unfold rightG at hp
 have bok:=bareF_ok h (ofF m.k).1
 have oU:=uOf (k:=m.k)
 generalize ofF m.k=pq at hp bare bok oU
 obtain⟨p,K⟩:=pq
 dsimp only at hp bare bok oU
 have q2:cut (ptc p) 2 none=some (.bool p.fl):=rfl
 have q3:cut (ptc p) 3 none=some (.bool p.fr):=rfl
 have qs:=pt_set p
 have qa:cut (ptc p) 0 (some 4)=some (.agg (ptc p)):=rfl
 have ql:=pt_len p
 have qc:=pt_sc p
 refine T168 fun hB hA=>?_
 refine W ?_
 refine cu oU ?_
 cases K with
 | false=>
   rw[Bool.false_and] at hp
   refine W ?_
   exact hp
 | true=>
   rw[Bool.true_and] at hp
   have bU:=bare rfl
   have scb:=mrc_sc (m:=bareF m p)
   have eqc:=eqC_mr bok h
   refine W ?_
   refine s1 bU ?_
   cases he:(bareF m p==m) with
   | false=>
     rw[he,Bool.false_and] at hp
     rw[he] at eqc
     refine W ?_
     exact hp
   | true=>
     rw[he,Bool.true_and] at hp
     rw[he] at eqc
     clear bU bare oU
     by_cases h0:m.aa<0
     ·rw[decide_eq_false (show ¬ 0≤m.aa by omega),Bool.false_and] at hp
      refine W ?_
      exact hp
     rw[decide_eq_true (show 0≤m.aa by omega),Bool.true_and] at hp
     by_cases h1:m.aa > 4294967295
     ·rw[decide_eq_false (show ¬ m.aa≤4294967295 by omega),Bool.false_and] at hp
      refine W ?_
      exact hp
     rw[decide_eq_true (show m.aa≤4294967295 by omega),Bool.true_and] at hp
     have last:∀ {b:Bool},b=(decide (m.k≠4)||B)→(m.k≠4→b=true)∧(m.k=4→b=B):=fun hb=>by
      constructor
      ·intro h4;rw[hb,decide_eq_true h4,Bool.true_or]
      ·intro h4;rw[hb,decide_eq_false (by simpa using h4),Bool.false_or]
     cases hfr:p.fr with
     | true=>
       rw[hfr] at q3
       rw[hfr,Bool.not_true,Bool.false_or] at hp
       refine W ?_
       refine cu (uSome h.f) ?_
       cases hs:someA m.f with
       | false=>
         rw[hs,Bool.false_and] at hp
         refine W ?_
         exact hp
       | true=>
         rw[hs,Bool.true_and] at hp
         cases hfl:p.fl with
         | true=>
           rw[hfl] at q2
           rw[hfl,Bool.not_true,Bool.false_or] at hp
           by_cases k3:m.k=3
           ·rw[decide_eq_true k3] at hp
            refine W ?_
            refine cu (uFlows h.s h.g) ?_
            cases hw:flowsF m.s m.g true with
            | false=>
              rw[hw,Bool.false_and] at hp
              refine W ?_
              exact hp
            | true=>
              rw[hw,Bool.true_and,decide_eq_true (show m.k≠4 by omega),Bool.true_or] at hp
              refine W ?_
              exact hp
           ·rw[decide_eq_false k3] at hp
            refine W ?_
            refine cu (uFlows h.s h.g) ?_
            cases hw:flowsF m.s m.g false with
            | false=>
              rw[hw,Bool.false_and] at hp
              refine W ?_
              exact hp
            | true=>
              rw[hw,Bool.true_and] at hp
              by_cases k4:m.k=4
              ·rw[(last rfl).2 k4] at hp
               have hU:=ha k4
               refine W ?_
               refine cu hU ?_
               refine W ?_
               exact hp
              ·rw[(last rfl).1 k4] at hp
               refine W ?_
               exact hp
         | false=>
           rw[hfl] at q2
           rw[hfl,Bool.not_false,Bool.true_or,Bool.true_and] at hp
           by_cases k4:m.k=4
           ·rw[(last rfl).2 k4] at hp
            have hU:=ha k4
            refine W ?_
            refine cu hU ?_
            refine W ?_
            exact hp
           ·rw[(last rfl).1 k4] at hp
            refine W ?_
            exact hp
     | false=>
       rw[hfr] at q3
       rw[hfr,Bool.not_false,Bool.true_or,Bool.true_and] at hp
       cases hfl:p.fl with
       | true=>
         rw[hfl] at q2
         rw[hfl,Bool.not_true,Bool.false_or] at hp
         by_cases k3:m.k=3
         ·rw[decide_eq_true k3] at hp
          refine W ?_
          refine cu (uFlows h.s h.g) ?_
          cases hw:flowsF m.s m.g true with
          | false=>
            rw[hw,Bool.false_and] at hp
            refine W ?_
            exact hp
          | true=>
            rw[hw,Bool.true_and,decide_eq_true (show m.k≠4 by omega),Bool.true_or] at hp
            refine W ?_
            exact hp
         ·rw[decide_eq_false k3] at hp
          refine W ?_
          refine cu (uFlows h.s h.g) ?_
          cases hw:flowsF m.s m.g false with
          | false=>
            rw[hw,Bool.false_and] at hp
            refine W ?_
            exact hp
          | true=>
            rw[hw,Bool.true_and] at hp
            by_cases k4:m.k=4
            ·rw[(last rfl).2 k4] at hp
             have hU:=ha k4
             refine W ?_
             refine cu hU ?_
             refine W ?_
             exact hp
            ·rw[(last rfl).1 k4] at hp
             refine W ?_
             exact hp
       | false=>
         rw[hfl] at q2
         rw[hfl,Bool.not_false,Bool.true_or,Bool.true_and] at hp
         by_cases k4:m.k=4
         ·rw[(last rfl).2 k4] at hp
          have hU:=ha k4
          refine W ?_
          refine cu hU ?_
          refine W ?_
          exact hp
         ·rw[(last rfl).1 k4] at hp
          refine W ?_
          exact hp
end Go.Proofs.YtdpeaefgbmkegaaGreatDoor
namespace Go.Proofs.YtdpeaefgbmkegaaGreatDoor
open Go Go.V
set_option maxRecDepth 10000
def ofA (l:List UInt8):Ad × Int:=if l.length=0∨l.length=4∨l.length=16 then(⟨l.length,over l z16⟩,0) else(ad0,1)
theorem ofA_ok (l:List UInt8):okD (ofA l).1:=by
 unfold ofA
 split
 ·exact over_len (by show l.length≤16;omega)
 ·rfl
theorem spl_over {x:PV} {b q:List UInt8}:splice (x::u8c b) 1 (u8c q)=x::u8c (over q b):=by
 unfold splice over
 rw[u8c_len,Nat.add_comm,List.drop_succ_cons]
 show _::_=_
 congr 1
 simp[u8c]
theorem ad_set {a:Ad} (h:okD a):splice [.int .i64 0,D.o,D.o,D.o,D.o,D.o,D.o,D.o,D.o,D.o,D.o,D.o,D.o,D.o,D.o,D.o,D.o] 0 (adc a)=adc a:=by
 unfold splice
 rw[List.drop_of_length_le (by rw[adc_len h];exact Nat.le_refl _)]
 simp
theorem ad_any {a:Ad} {cs:List PV} (h:okD a) (hc:cs.length=17):splice cs 0 (adc a)=adc a:=by
 unfold splice
 rw[List.drop_of_length_le (by rw[adc_len h,hc];exact Nat.le_refl _)]
 simp
theorem uOfA {l:List UInt8} (hl:l.length≤140737488355328):U Tryz.prog 121 [.sl (bsl l)] (.tup [.agg (adc (ofA l).1),.int .i64 (ofA l).2]):=by
 intro σ Post hk
 have bl:=bsl_len l
 have key:(l.length=0∨l.length=4∨l.length=16)→T Tryz.prog 121 [.sl (bsl l)] σ Post:=by
  intro h
  have e:ofA l=(⟨l.length,over l z16⟩,0):=by unfold ofA;rw[if_pos h]
  rw[e] at hk
  have oA:okD ⟨l.length,over l z16⟩:=over_len (by show l.length≤16;omega)
  have d0:splice [.int .i64 0,D.o,D.o,D.o,D.o,D.o,D.o,D.o,D.o,D.o,D.o,D.o,D.o,D.o,D.o,D.o,D.o] 0 [.int .i64 (l.length:Int),D.o,D.o,D.o,D.o,D.o,D.o,D.o,D.o,D.o,D.o,D.o,D.o,D.o,D.o,D.o,D.o]=[.int .i64 (l.length:Int),D.o,D.o,D.o,D.o,D.o,D.o,D.o,D.o,D.o,D.o,D.o,D.o,D.o,D.o,D.o,D.o]:=rfl
  have dB:splice [.int .i64 (l.length:Int),D.o,D.o,D.o,D.o,D.o,D.o,D.o,D.o,D.o,D.o,D.o,D.o,D.o,D.o,D.o,D.o] 1 (((bsl l).take 16).flatten)=adc ⟨l.length,over l z16⟩:=by
   rw[sl_flat,List.take_of_length_le (by omega)]
   exact spl_over (b:=z16)
  have dA:=ad_set oA
  have cA:=adc_all oA
  have lA:=adc_len oA
  have sA:=adc_sc (a:=⟨l.length,over l z16⟩)
  generalize (⟨l.length,over l z16⟩:Ad)=A at *
  rcases h with h|h|h
  all_goals
   refine T121 fun hB hA=>?_
   refine W ?_
   exact hk
 by_cases h:l.length=0∨l.length=4∨l.length=16
 ·exact key h
 ·have e:ofA l=(ad0,1):=by unfold ofA;rw[if_neg h]
  rw[e] at hk
  refine T121 fun hB hA=>?_
  have h0:¬ l.length=0:=fun e=>h (.inl e)
  have h4:¬ l.length=4:=fun e=>h (.inr (.inl e))
  have h16:¬ l.length=16:=fun e=>h (.inr (.inr e))
  clear h
  have d0:splice [.int .i64 0,D.o,D.o,D.o,D.o,D.o,D.o,D.o,D.o,D.o,D.o,D.o,D.o,D.o,D.o,D.o,D.o] 0 [.int .i64 0,D.o,D.o,D.o,D.o,D.o,D.o,D.o,D.o,D.o,D.o,D.o,D.o,D.o,D.o,D.o,D.o]=adc ad0:=rfl
  have c0:=adc_all ad0_ok
  have l0:=adc_len ad0_ok
  refine W ?_
  exact hk
theorem ib_rem8 {a:Nat}:ibin .rem .i64 (a:Int) .i64 8=some (.int .i64 ((a % 8:Nat):Int)):=by
 simp only[ibin]
 rfl
theorem ib_quo8 {a:Nat} (h:a<256):ibin .quo .i64 (a:Int) .i64 8=some (.int .i64 ((a / 8:Nat):Int)):=by
 have e:IntKind.i64.wrap ((a:Int).tdiv 8)=((a / 8:Nat):Int):=by
  rw[Int.tdiv_eq_ediv_of_nonneg (by omega),w_i64 (by omega) (by omega)];omega
 rw[show ibin .quo .i64 (a:Int) .i64 8=some (.int .i64 (IntKind.i64.wrap ((a:Int).tdiv 8))) from rfl,e]
section
variable {σ:VHeap} {Post:KP} {rb gr i gi ob go tb tg n:Nat} {l p q p2 q2:List UInt8} {bad ok c c2:Bool}
theorem tTk (e:rdT l bad n=(p,q,c)) (hl:l.length≤140737488355328) (hr:vGet σ rb gr=some (.box [.ptr i gi 0] false)) (hi:vGet σ i gi=some (.box [.sl (bsl l),.bool bad] false)) (ho:vGet σ ob go=some (.box [.bool ok] false)) (h1:i≠ob)
  (hk:Post (.agg (adc (ofA p).1)) ((σ.set i (gi,.box [.sl (bsl q),.bool c] false)).set ob (go,.box [.bool (ok&&decide ((ofA p).2=0))] false))):T Tryz.prog 283 [.int .i64 (n:Int),.ptr rb gr 0,.ptr ob go 0] σ Post:=by
 have hpl:=rdT_len l bad n
 rw[e] at hpl
 dsimp only at hpl
 refine T283 fun hB hA=>?_
 refine W ?_
 refine ct ?_
 refine tTake hl (oget hi) fun l1 l2 b hb=>?_
 simp only[bcond] at hb
 obtain⟨rfl,rfl,rfl⟩:=rdT_cond e hb
 rw[oset _ (vGet_lt hi)]
 have ho':vGet (σ.set i (gi,.box [.sl (bsl l2),.bool b] false)) ob go=_:=hget_ne h1 ho
 have hsz:(σ.set i (gi,VObj.box [.sl (bsl l2),.bool b] false)).length=σ.length:=List.length_set
 have hob:=vGet_lt ho'
 have oA:=ofA_ok l1
 have dA:=ad_set oA
 have dA':=ad_any oA (adc_len oA)
 have cA:=adc_all oA
 have lA:=adc_len oA
 have sA:=adc_sc (a:=(ofA l1).1)
 have uA:=uOfA (l:=l1) (by omega)
 generalize ofA l1=AZ at *
 obtain⟨A,z⟩:=AZ
 have hB1:belH σ.length (σ.set i (gi,.box [.sl (bsl l2),.bool b] false)):=by exact z_hb
 generalize σ.set i (gi,.box [.sl (bsl l2),.bool b] false)=σ1 at *
 dsimp only at *
 refine W ?_
 refine cu uA ?_
 by_cases hz:z=0
 ·rw[decide_eq_true hz] at hk
  cases ok with
  | true=>
    refine W ?_
    exact hk
  | false=>
    refine W ?_
    exact hk
 ·rw[decide_eq_false hz] at hk
  cases ok with
  | true=>
    refine W ?_
    exact hk
  | false=>
    refine W ?_
    exact hk
attribute [local irreducible] vBin vBuild vCallV
theorem tBits (e:rdT l bad 1=(p,q,c)) (e2:rdT q c (big p 0 / 8)=(p2,q2,c2)) (hl:l.length≤140737488355328) (hr:vGet σ rb gr=some (.box [.ptr i gi 0] false)) (hi:vGet σ i gi=some (.box [.sl (bsl l),.bool bad] false)) (ho:vGet σ ob go=some (.box [.bool ok] false)) (ht:vGet σ tb tg=some (.box [.fn 283 [.ptr rb gr 0,.ptr ob go 0]] false)) (h1:i≠ob) (h2:i≠rb) (h3:i≠tb) (h4:ob≠rb) (h5:ob≠tb)
  (hk:Post (.agg (adc (ofA p2).1)) ((σ.set i (gi,.box [.sl (bsl q2),.bool c2] false)).set ob (go,.box [.bool (ok&&decide (big p 0 % 8=0)&&decide ((ofA p2).2=0))] false))):T Tryz.prog 284 [.ptr rb gr 0,.ptr ob go 0,.ptr tb tg 0] σ Post:=by
 have hpl:=rdT_len l bad 1
 rw[e] at hpl
 dsimp only at hpl
 have hb0:big p 0<256:=by
  have:=big_lt p 0
  have h6:256 ^ p.length≤256 ^ 1:=Nat.pow_le_pow_right (by decide) hpl.1
  omega
 refine T284 fun hB hA=>?_
 refine W ?_
 refine ct ?_
 refine tNum (l:=l) (bad:=bad) (z:=1) (oget hi) fun l1 l2 b hb=>?_
 have hb:if bad=true∨l.length<1 then l1=[]∧l2=l∧b=true else l1=l.take ((1:Nat):Int).toNat∧l2=l.drop ((1:Nat):Int).toNat∧b=false:=by
  have h9:(bad=true∨(1:Int)<1∨(4:Int)<1∨(l.length:Int)<1)↔(bad=true∨l.length<1):=@bcond4 bad l.length 1 (Nat.le_refl 1) (by omega)
  by_cases hc:bad=true∨l.length<1
  ·rw[if_pos hc];rw[if_pos (h9.2 hc)] at hb;exact hb
  ·rw[if_neg hc];rw[if_neg fun x=>hc (h9.1 x)] at hb;exact hb
 obtain⟨rfl,rfl,rfl⟩:=rdT_cond e hb
 rw[oset _ (vGet_lt hi)]
 have hr':vGet (σ.set i (gi,.box [.sl (bsl l2),.bool b] false)) rb gr=_:=hget_ne h2 hr
 have ho':vGet (σ.set i (gi,.box [.sl (bsl l2),.bool b] false)) ob go=_:=hget_ne h1 ho
 have ht':vGet (σ.set i (gi,.box [.sl (bsl l2),.bool b] false)) tb tg=_:=hget_ne h3 ht
 have hi':vGet (σ.set i (gi,.box [.sl (bsl l2),.bool b] false)) i gi=_:=hget_eq (vGet_lt hi)
 have hsz:(σ.set i (gi,VObj.box [.sl (bsl l2),.bool b] false)).length=σ.length:=List.length_set
 have hB1:belH σ.length (σ.set i (gi,.box [.sl (bsl l2),.bool b] false)):=by exact z_hb
 have hs2:∀ x y,((σ.set i (gi,VObj.box [.sl (bsl l2),.bool b] false)).set ob y).set i x=(σ.set i x).set ob y:=fun x y=>by
  rw[List.set_comm _ _ h1.symm,List.set_set]
 generalize σ.set i (gi,.box [.sl (bsl l2),.bool b] false)=σ1 at *
 have r8:=ib_rem8 (a:=big l1 0)
 have q8:=ib_quo8 hb0
 have key:∀ ok':Bool,ok'=(ok&&decide (big l1 0 % 8=0))→T Tryz.prog 283 [.int .i64 ((big l1 0 / 8:Nat):Int),.ptr rb gr 0,.ptr ob go 0] (σ1.set ob (go,.box [.bool ok'] false)++[(1,.box [.int .i64 0,D.o,D.o,D.o,D.o,D.o,D.o,D.o,D.o,D.o,D.o,D.o,D.o,D.o,D.o,D.o,D.o] false)]) (fun v h=>v=.agg (adc (ofA p2).1)∧h=(σ.set i (gi,.box [.sl (bsl q2),.bool c2] false)).set ob (go,.box [.bool (ok'&&decide ((ofA p2).2=0))] false)++[(1,.box [.int .i64 0,D.o,D.o,D.o,D.o,D.o,D.o,D.o,D.o,D.o,D.o,D.o,D.o,D.o,D.o,D.o,D.o] false)]):=by
  intro ok' hok
  refine tTk (bad:=b) (ok:=ok') e2 (by omega) (oget (hget_ne h4 hr')) (oget (hget_ne h1.symm hi')) (oget (hget_eq (vGet_lt ho'))) h1 ⟨rfl,?_⟩
  rw[oset _ (by rw[List.length_set];exact vGet_lt hi'),oset _ (by rw[List.length_set,List.length_set];exact vGet_lt ho'),hs2]
  rw[List.set_set]
 have oA:=ofA_ok p2
 have dA:=ad_set oA
 have lA:=adc_len oA
 have cA:=adc_all oA
 have sA:=adc_sc (a:=(ofA p2).1)
 have hcl:callOk Tryz.prog 283=true:=by kernel_rfl
 by_cases h8:big l1 0 % 8=0
 ·rw[decide_eq_true h8,Bool.and_true] at hk
  cases ok with
  | true=>
    refine W ?_
    refine callC (vs:=[.int .i64 ((big l1 0 / 8:Nat):Int)]) rfl hcl rfl ?_
    refine T.mono (key true (by simp[h8])) ?_
    rintro v h' ⟨rfl,rfl⟩
    rw[Bool.true_and] at *
    refine W ?_
    exact hk
  | false=>
    refine W ?_
    refine callC (vs:=[.int .i64 ((big l1 0 / 8:Nat):Int)]) rfl hcl rfl ?_
    refine T.mono (key false (by simp)) ?_
    rintro v h' ⟨rfl,rfl⟩
    refine W ?_
    exact hk
 ·rw[decide_eq_false h8,Bool.and_false] at hk
  cases ok with
  | true=>
    refine W ?_
    refine callC (vs:=[.int .i64 ((big l1 0 / 8:Nat):Int)]) rfl hcl rfl ?_
    refine T.mono (key false (by simp[h8])) ?_
    rintro v h' ⟨rfl,rfl⟩
    refine W ?_
    exact hk
  | false=>
    refine W ?_
    refine callC (vs:=[.int .i64 ((big l1 0 / 8:Nat):Int)]) rfl hcl rfl ?_
    refine T.mono (key false (by simp)) ?_
    rintro v h' ⟨rfl,rfl⟩
    refine W ?_
    exact hk
end
end Go.Proofs.YtdpeaefgbmkegaaGreatDoor
namespace Go.Proofs.YtdpeaefgbmkegaaGreatDoor
open Go Go.V
set_option maxRecDepth 10000
theorem spl_in {A C:List PV} {b q:List UInt8} {o:Nat} (ho:A.length=o) (hq:q.length≤b.length):splice (A++(u8c b++C)) o (u8c q)=A++(u8c (over q b)++C):=by
 subst ho
 unfold splice over
 rw[List.take_left,u8c_len,← List.drop_drop,List.drop_left,List.drop_append_of_le_length (by rw[u8c_len];exact hq),List.append_assoc]
 congr 1
 rw[← List.append_assoc]
 congr 1
 simp[u8c]
theorem ms_over {m:Mr} (h:okM m) {q:List UInt8} (hq:q.length≤8):splice (mrc m) 1 (u8c q)=mrc { m with rd:=over q m.rd }:=spl_in (A:=[.int .i64 m.k]) rfl (by rw[h.rd];exact hq)
theorem set_same {σ:VHeap} {i g:Nat} {o:VObj} (h:vGet σ i g=some o):σ.set i (g,o)=σ:=by
 have h:=vGet_some h
 apply List.ext_getElem?
 intro j
 by_cases hj:i=j
 ·subst hj;rw[List.getElem?_set_self (List.getElem?_eq_some_iff.1 h).1,h]
 ·rw[List.getElem?_set_ne hj]
section
variable {σ L:VHeap} {Post:KP} {i gi n z:Nat} {l p q p2 q2:List UInt8} {bad ok c c2:Bool} {a1 a2 a3 a5:Nat × VObj}
def rdO (gi:Nat) (l:List UInt8) (bad:Bool):Nat × VObj:=(gi,.box [.sl (bsl l),.bool bad] false)
theorem rdO_get (hi:i<σ.length):vGet (σ.set i (rdO gi l bad)++L) i gi=some (.box [.sl (bsl l),.bool bad] false):=oget (hget_eq hi)
theorem rdO_set (hi:i<σ.length) {y:Nat × VObj}:(σ.set i (rdO gi l bad)++L).set i y=σ.set i y++L:=by
 rw[oset _ (by rw[List.length_set];exact hi),List.set_set]
theorem oTake (e:rdT l bad z=(p,q,c)) (hl:l.length≤140737488355328) (hi:i<σ.length) (hk:Post (.sl (bsl p)) (σ.set i (rdO gi q c)++L)):T Tryz.prog 123 [.ptr i gi 0,.int .i64 z] (σ.set i (rdO gi l bad)++L) Post:=by
 refine tTake hl (rdO_get hi) fun l1 l2 b hb=>?_
 simp only[bcond] at hb
 obtain⟨rfl,rfl,rfl⟩:=rdT_cond e hb
 rw[rdO_set hi];exact hk
theorem oNum (e:rdT l bad z=(p,q,c)) (h1:1≤z) (h4:z≤4) (hi:i<σ.length) (hk:Post (.int .i64 (big p 0)) (σ.set i (rdO gi q c)++L)):T Tryz.prog 54 [.ptr i gi 0,.int .i64 z] (σ.set i (rdO gi l bad)++L) Post:=by
 refine tNum (rdO_get hi) fun l1 l2 b hb=>?_
 simp only[bcond4 h1 h4] at hb
 obtain⟨rfl,rfl,rfl⟩:=rdT_cond e hb
 rw[rdO_set hi];exact hk
theorem oLeft (hi:i<σ.length) (hk:Post (.int .i64 (if bad then 0 else l.length:Nat)) (σ.set i (rdO gi l bad)++L)):T Tryz.prog 128 [.ptr i gi 0] (σ.set i (rdO gi l bad)++L) Post:=by
 refine tLeft (rdO_get hi) ?_
 rw[bsl_len]
 cases bad<;>exact hk
theorem oBad (hi:i<σ.length) (hk:Post (.bool bad) (σ.set i (rdO gi l bad)++L)):T Tryz.prog 276 [.ptr i gi 0] (σ.set i (rdO gi l bad)++L) Post:=tBad (rdO_get hi) hk
def rdL (i gi:Nat) (m:List PV) (p:Pt) (ok:Bool) (tk:PV):VHeap:=[(1,.box [.ptr i gi 0] false),(1,.box mz false),(1,.box m false),(1,.box (ptc p) false),(1,.box [.bool ok] false),(1,.box [tk] false)]
variable {m:List PV} {pt:Pt} {tk:PV}
theorem oTk (e:rdT l bad n=(p,q,c)) (hl:l.length≤140737488355328) (hi:i<σ.length)
  (hk:Post (.agg (adc (ofA p).1)) (σ.set i (rdO gi q c)++rdL i gi m pt (ok&&decide ((ofA p).2=0)) tk)):T Tryz.prog 283 [.int .i64 (n:Int),.ptr (σ.length+0) 1 0,.ptr (σ.length+4) 1 0] (σ.set i (rdO gi l bad)++rdL i gi m pt ok tk) Post:=by
 have hn:(σ.set i (rdO gi l bad)).length=σ.length:=List.length_set
 have hn2:(σ.set i (rdO gi q c)).length=σ.length:=List.length_set
 refine tTk e hl (lget hn rfl) (rdO_get hi) (lget hn rfl) (by omega) ?_
 have e1:(σ.set i (rdO gi l bad)++rdL i gi m pt ok tk).set i (gi,.box [.sl (bsl q),.bool c] false)=σ.set i (rdO gi q c)++rdL i gi m pt ok tk:=rdO_set hi
 rw[e1,lset hn2]
 exact hk
theorem oBits (e:rdT l bad 1=(p,q,c)) (e2:rdT q c (big p 0 / 8)=(p2,q2,c2)) (hl:l.length≤140737488355328) (hi:i<σ.length)
  (hk:Post (.agg (adc (ofA p2).1)) (σ.set i (rdO gi q2 c2)++rdL i gi m pt (ok&&decide (big p 0 % 8=0)&&decide ((ofA p2).2=0)) (.fn 283 [.ptr (σ.length+0) 1 0,.ptr (σ.length+4) 1 0]))) :
  T Tryz.prog 284 [.ptr (σ.length+0) 1 0,.ptr (σ.length+4) 1 0,.ptr (σ.length+5) 1 0] (σ.set i (rdO gi l bad)++rdL i gi m pt ok (.fn 283 [.ptr (σ.length+0) 1 0,.ptr (σ.length+4) 1 0])) Post:=by
 have hn:(σ.set i (rdO gi l bad)).length=σ.length:=List.length_set
 have hn2:(σ.set i (rdO gi q2 c2)).length=σ.length:=List.length_set
 refine tBits e e2 hl (lget hn rfl) (rdO_get hi) (lget hn rfl) (lget hn rfl) (by omega) (by omega) (by omega) (by omega) (by omega) ?_
 have e1:(σ.set i (rdO gi l bad)++rdL i gi m pt ok (.fn 283 [.ptr (σ.length+0) 1 0,.ptr (σ.length+4) 1 0])).set i (gi,.box [.sl (bsl q2),.bool c2] false)=σ.set i (rdO gi q2 c2)++rdL i gi m pt ok (.fn 283 [.ptr (σ.length+0) 1 0,.ptr (σ.length+4) 1 0]):=rdO_set hi
 rw[e1,lset hn2]
 exact hk
end
structure RS where
 m:Mr
 l:List UInt8
 bad:Bool
 ok:Bool
def rs1 (p:Pt) (S:RS):RS:=if p.rd=true then⟨{ S.m with rd:=over (rdT S.l S.bad 8).1 S.m.rd },(rdT S.l S.bad 8).2.1,(rdT S.l S.bad 8).2.2,S.ok⟩ else S
def rs2 (p:Pt) (S:RS):RS:=if p.aa=true then⟨{ S.m with aa:=(big (rdT S.l S.bad 4).1 0:Nat) },(rdT S.l S.bad 4).2.1,(rdT S.l S.bad 4).2.2,S.ok⟩ else S
def btT (l:List UInt8) (bad:Bool):(List UInt8 × List UInt8 × Bool) × Bool:=(rdT (rdT l bad 1).2.1 (rdT l bad 1).2.2 (big (rdT l bad 1).1 0 / 8),decide (big (rdT l bad 1).1 0 % 8=0))
def rsS (S:RS):RS:=⟨{ S.m with s:=(ofA (btT S.l S.bad).1.1).1 },(btT S.l S.bad).1.2.1,(btT S.l S.bad).1.2.2,S.ok&&(btT S.l S.bad).2&&decide ((ofA (btT S.l S.bad).1.1).2=0)⟩
def rsG (S:RS):RS:=⟨{ S.m with g:=(ofA (btT S.l S.bad).1.1).1 },(btT S.l S.bad).1.2.1,(btT S.l S.bad).1.2.2,S.ok&&(btT S.l S.bad).2&&decide ((ofA (btT S.l S.bad).1.1).2=0)⟩
def rs3 (p:Pt) (S:RS):RS:=if p.fl=true then rsG (rsS S) else S
def rsF (S:RS):RS:=⟨{ S.m with f:=(ofA (rdT S.l S.bad (if S.bad then 0 else S.l.length)).1).1 },(rdT S.l S.bad (if S.bad then 0 else S.l.length)).2.1,(rdT S.l S.bad (if S.bad then 0 else S.l.length)).2.2,S.ok&&decide ((ofA (rdT S.l S.bad (if S.bad then 0 else S.l.length)).1).2=0)⟩
def rs4 (p:Pt) (S:RS):RS:=if p.fr=true then rsF S else S
def rs0 (k:Int) (l:List UInt8) (bad:Bool) (key:List UInt8):RS:=⟨{ mr0 with k:=k,key:=key },l,bad,(ofF k).2⟩
def readM (k:Int) (l:List UInt8) (bad:Bool) (key:List UInt8):RS:=rs4 (ofF k).1 (rs3 (ofF k).1 (rs2 (ofF k).1 (rs1 (ofF k).1 (rs0 k l bad key))))
theorem btT_len (l:List UInt8) (bad:Bool):(btT l bad).1.2.1.length≤l.length:=by
 have h1:=rdT_len l bad 1
 have h2:=rdT_len (rdT l bad 1).2.1 (rdT l bad 1).2.2 (big (rdT l bad 1).1 0 / 8)
 unfold btT
 dsimp only
 omega
structure okS (n:Nat) (S:RS):Prop where
 m:okM S.m
 l:S.l.length≤n
section
variable {n:Nat} {S:RS} {p:Pt}
theorem rs0_ok {k:Int} {l:List UInt8} {bad:Bool} {key:List UInt8} (h:l.length≤n):okS n (rs0 k l bad key):=⟨⟨rfl,rfl,rfl,rfl⟩,h⟩
theorem rs1_ok (h:okS n S):okS n (rs1 p S):=by
 have h1:=rdT_len S.l S.bad 8
 have h2:=h.l
 unfold rs1;split
 ·exact⟨⟨by show (over _ _).length=8;rw[over_len (by rw[h.m.rd];omega),h.m.rd],h.m.s,h.m.g,h.m.f⟩,by dsimp only;omega⟩
 ·exact h
theorem rs2_ok (h:okS n S):okS n (rs2 p S):=by
 have h1:=rdT_len S.l S.bad 4
 have h2:=h.l
 unfold rs2;split
 ·exact⟨⟨h.m.rd,h.m.s,h.m.g,h.m.f⟩,by dsimp only;omega⟩
 ·exact h
theorem rsS_ok (h:okS n S):okS n (rsS S):=by
 have h1:=btT_len S.l S.bad
 have h2:=h.l
 exact⟨⟨h.m.rd,ofA_ok _,h.m.g,h.m.f⟩,by unfold rsS;dsimp only;omega⟩
theorem rsG_ok (h:okS n S):okS n (rsG S):=by
 have h1:=btT_len S.l S.bad
 have h2:=h.l
 exact⟨⟨h.m.rd,h.m.s,ofA_ok _,h.m.f⟩,by unfold rsG;dsimp only;omega⟩
theorem rs3_ok (h:okS n S):okS n (rs3 p S):=by
 unfold rs3;split
 ·exact rsG_ok (rsS_ok h)
 ·exact h
theorem rsF_ok (h:okS n S):okS n (rsF S):=by
 have h1:=rdT_len S.l S.bad (if S.bad then 0 else S.l.length)
 have h2:=h.l
 exact⟨⟨h.m.rd,h.m.s,h.m.g,ofA_ok _⟩,by unfold rsF;dsimp only;omega⟩
theorem rs4_ok (h:okS n S):okS n (rs4 p S):=by
 unfold rs4;split
 ·exact rsF_ok h
 ·exact h
end
end Go.Proofs.YtdpeaefgbmkegaaGreatDoor
