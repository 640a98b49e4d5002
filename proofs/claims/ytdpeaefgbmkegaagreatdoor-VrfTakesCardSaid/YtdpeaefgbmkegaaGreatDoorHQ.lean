/- relay.Tells. -/
import Derived.Test.YtdpeaefgbmkegaaGreatDoorHS
import Derived.Test.YtdpeaefgbmkegaaGreatDoorHT
set_option maxHeartbeats 16000000
namespace Go.Proofs.YtdpeaefgbmkegaaGreatDoor
open Go Go.V
set_option maxRecDepth 10000
set_option linter.unusedVariables false
attribute [local irreducible] vBuild vCallV
def ownR (r:Rt):Rt:=if r.att.pref=-1 then { r with att:={ r.att with pref:=100 } } else r
def tellsF (k:Ad) (fl:Bool) (c:Ch) (fr to peer:Int) (o:Ad):Rt × Bool:=
 if rtR c.route=false∨peer=c.peer∨isA c.route.att.orig o=true then(rt0,false)
 else if c.peer=0 then(ownR c.route,true)
 else if fl=false∨(fr=0∧to=0)∨(c.route.att.orig.s=0∧router4 c.id=false) then(rt0,false)
 else passF k c
theorem passF_ok {k:Ad} {c:Ch} (hk:okD k) (h:okRib c.route) (hi:okD c.id):okRt (passF k c).1:=by
 unfold passF;split
 ·exact(clR_ok hk (origR_ok h hi)).ok
 ·exact rt0_ok
theorem uTells {k o:Ad} {c:Ch} {fl:Bool} {fr to peer:Int} (hk:okD k) (ho:okD o) (h:okRib c.route) (ex8:∀ e,e∈c.route.att.ex→e.length=8) (hi:okD c.id):U Tryz.prog 30 [.agg (adc k),.bool fl,.agg (chC c),.int .i64 fr,.int .i64 to,.int .i64 peer,.agg (adc o)] (.tup [.agg (rtC (tellsF k fl c fr to peer o).1),.bool (tellsF k fl c fr to peer o).2]):=by
 intro σ Post hp
 have oc:okCh c:=⟨h.ok,hi⟩
 have ks:=adc_sc (a:=k)
 have kl:=adc_len hk
 have kc:=adc_all hk
 have os:=adc_sc (a:=o)
 have ol:=adc_len ho
 have oa:=adc_all ho
 have cs:=chC_sc (x:=c)
 have cl:=chC_len oc
 have ca:=chC_all oc
 have g1:=chC_groute oc
 have g2:=chC_gid oc
 have g3:=chC_gpeer oc
 have rl:=rtC_len h.ok
 have rs:=rtC_sc (x:=c.route)
 have ra:=rtC_all h.ok
 have z1:=rtC_any h.ok (cs:=[PV.int .i64 0,.int .i64 0,.int .i64 0,D.o,D.o,D.o,D.o,D.o,D.o,D.o,D.o,.int .i64 0,.int .i64 0,D.o,D.o,D.o,D.o,D.o,D.o,D.o,D.o,D.o,D.o,D.o,D.o,D.o,D.o,D.o,D.o,.int .i64 0,D.o,D.o,D.o,D.o,D.o,D.o,D.o,D.o,D.o,D.o,D.o,D.o,D.o,D.o,D.o,D.o,.int .i64 0,D.o,D.o,D.o,D.o,D.o,D.o,D.o,D.o,D.o,D.o,D.o,D.o,D.o,D.o,D.o,D.o,.str [],D.o,D.o,D.o,D.o,D.o,D.o,D.o,D.o,.int .i64 0,D.o,D.o,D.o,D.o,D.o,D.o,D.o,D.o,D.o,D.o,D.o,D.o,D.o,D.o,D.o,D.o,.int .i64 0,.int .i64 0,.int .i64 0,D.o,D.o,D.o,D.o,D.o,D.o,D.o,D.o,D.o,D.o,D.o,D.o,D.o,D.o,D.o,D.o,.int .i64 0,.nils,.int .i64 0,.int .i64 0,.int .i64 0,D.o,D.o,D.o,D.o,D.o,D.o,D.o,D.o,D.o,D.o,D.o,D.o,D.o,D.o,D.o,D.o,.nils,.nils,.nils]) rfl
 have go:cut (chC c) 112 (some 17)=some (.agg (adc c.route.att.orig)):=(cut_pre (by rw[rl];decide)).trans (rt_ga (o:=4) h.ok (atC_gorig h.ok.att))
 have gos:cut (chC c) 112 none=some (.int .i64 c.route.att.orig.s):=(cut_pre1 (by rw[rl];decide)).trans (rt_ga (o:=4) h.ok rfl)
 have gp:cut (rtC c.route) 111 none=some (.int .i64 c.route.att.pref):=rt_ga (o:=3) h.ok rfl
 have sp:splice (rtC c.route) 111 [.int .i64 100]=rtC { c.route with att:={ c.route.att with pref:=100 } }:=rt_sa (o:=3) h.ok (atC_spref h.ok.att (v:=100))
 have z0:splice [PV.int .i64 0,.int .i64 0,.int .i64 0,D.o,D.o,D.o,D.o,D.o,D.o,D.o,D.o,.int .i64 0,.int .i64 0,D.o,D.o,D.o,D.o,D.o,D.o,D.o,D.o,D.o,D.o,D.o,D.o,D.o,D.o,D.o,D.o,.int .i64 0,D.o,D.o,D.o,D.o,D.o,D.o,D.o,D.o,D.o,D.o,D.o,D.o,D.o,D.o,D.o,D.o,.int .i64 0,D.o,D.o,D.o,D.o,D.o,D.o,D.o,D.o,D.o,D.o,D.o,D.o,D.o,D.o,D.o,D.o,.str [],D.o,D.o,D.o,D.o,D.o,D.o,D.o,D.o,.int .i64 0,D.o,D.o,D.o,D.o,D.o,D.o,D.o,D.o,D.o,D.o,D.o,D.o,D.o,D.o,D.o,D.o,.int .i64 0,.int .i64 0,.int .i64 0,D.o,D.o,D.o,D.o,D.o,D.o,D.o,D.o,D.o,D.o,D.o,D.o,D.o,D.o,D.o,D.o,.int .i64 0,.nils,.int .i64 0,.int .i64 0,.int .i64 0,D.o,D.o,D.o,D.o,D.o,D.o,D.o,D.o,D.o,D.o,D.o,D.o,D.o,D.o,D.o,D.o,.nils,.nils,.nils] 0 [PV.int .i64 0,.int .i64 0,.int .i64 0,D.o,D.o,D.o,D.o,D.o,D.o,D.o,D.o,.int .i64 0,.int .i64 0,D.o,D.o,D.o,D.o,D.o,D.o,D.o,D.o,D.o,D.o,D.o,D.o,D.o,D.o,D.o,D.o,.int .i64 0,D.o,D.o,D.o,D.o,D.o,D.o,D.o,D.o,D.o,D.o,D.o,D.o,D.o,D.o,D.o,D.o,.int .i64 0,D.o,D.o,D.o,D.o,D.o,D.o,D.o,D.o,D.o,D.o,D.o,D.o,D.o,D.o,D.o,D.o,.str [],D.o,D.o,D.o,D.o,D.o,D.o,D.o,D.o,.int .i64 0,D.o,D.o,D.o,D.o,D.o,D.o,D.o,D.o,D.o,D.o,D.o,D.o,D.o,D.o,D.o,D.o,.int .i64 0,.int .i64 0,.int .i64 0,D.o,D.o,D.o,D.o,D.o,D.o,D.o,D.o,D.o,D.o,D.o,D.o,D.o,D.o,D.o,D.o,.int .i64 0,.nils,.int .i64 0,.int .i64 0,.int .i64 0,D.o,D.o,D.o,D.o,D.o,D.o,D.o,D.o,D.o,D.o,D.o,D.o,D.o,D.o,D.o,D.o,.nils,.nils,.nils]=rtZ:=rtZ_any rtZ_len
 have zc:cut rtZ 0 (some 132)=some (.agg rtZ):=cut_hd0 rtZ_len
 have zl:=rtZ_len
 unfold tellsF at hp
 refine T30 fun hB hA=>?_
 refine W ?_
 refine cu (uName15 h) ?_
 cases hr:rtR c.route with
 | true=>
   by_cases hpe:peer=c.peer
   ·rw[if_pos (.inr (.inl hpe))] at hp
    refine W ?_
    refine ret_t (xs:=[.agg rtZ,.bool false]) (vs:=[.agg (rtC rt0),.bool false]) (.inl rfl) rfl (by exact z_rw) (InlA.agg rtZ_inl (.pl inferInstance (.nil _))) (ClL.cl _) (by exact z_hn) (by exact z_hb) ?_
    exact hp
   ·refine W ?_
    refine cu (uIs h.ok.att.orig ho) ?_
    cases hia:isA c.route.att.orig o with
    | true=>
      rw[if_pos (.inr (.inr hia))] at hp
      refine W ?_
      refine ret_t (xs:=[.agg rtZ,.bool false]) (vs:=[.agg (rtC rt0),.bool false]) (.inl rfl) rfl (by exact z_rw) (InlA.agg rtZ_inl (.pl inferInstance (.nil _))) (ClL.cl _) (by exact z_hn) (by exact z_hb) ?_
      exact hp
    | false=>
      have hno:¬ (rtR c.route=false∨peer=c.peer∨isA c.route.att.orig o=true):=fun e=>e.elim (fun e=>by rw[hr] at e;cases e) (fun e=>e.elim hpe (fun e=>by rw[hia] at e;cases e))
      by_cases p0:c.peer=0
      ·rw[if_neg hno,if_pos p0] at hp
       by_cases pf:c.route.att.pref=-1
       ·have eo:ownR c.route={ c.route with att:={ c.route.att with pref:=100 } }:=by unfold ownR;rw[if_pos pf]
        rw[eo] at hp
        have r2o:okRt { c.route with att:={ c.route.att with pref:=100 } }:=⟨h.ok.m,h.ok.u,h.ok.next,⟨h.ok.att.orig⟩⟩
        have rl2:=rtC_len r2o
        have ra2:=rtC_all r2o
        have rs2:=rtC_sc (x:={ c.route with att:={ c.route.att with pref:=100 } })
        have z3:=rtC_any r2o (cs:=[PV.int .i64 0,.int .i64 0,.int .i64 0,D.o,D.o,D.o,D.o,D.o,D.o,D.o,D.o,.int .i64 0,.int .i64 0,D.o,D.o,D.o,D.o,D.o,D.o,D.o,D.o,D.o,D.o,D.o,D.o,D.o,D.o,D.o,D.o,.int .i64 0,D.o,D.o,D.o,D.o,D.o,D.o,D.o,D.o,D.o,D.o,D.o,D.o,D.o,D.o,D.o,D.o,.int .i64 0,D.o,D.o,D.o,D.o,D.o,D.o,D.o,D.o,D.o,D.o,D.o,D.o,D.o,D.o,D.o,D.o,.str [],D.o,D.o,D.o,D.o,D.o,D.o,D.o,D.o,.int .i64 0,D.o,D.o,D.o,D.o,D.o,D.o,D.o,D.o,D.o,D.o,D.o,D.o,D.o,D.o,D.o,D.o,.int .i64 0,.int .i64 0,.int .i64 0,D.o,D.o,D.o,D.o,D.o,D.o,D.o,D.o,D.o,D.o,D.o,D.o,D.o,D.o,D.o,D.o,.int .i64 0,.nils,.int .i64 0,.int .i64 0,.int .i64 0,D.o,D.o,D.o,D.o,D.o,D.o,D.o,D.o,D.o,D.o,D.o,D.o,D.o,D.o,D.o,D.o,.nils,.nils,.nils]) rfl
        refine W ?_
        refine cu (uRelCopied h ex8 hr) ?_
        refine W ?_
        exact hp
       ·have eo:ownR c.route=c.route:=by unfold ownR;rw[if_neg pf]
        rw[eo] at hp
        refine W ?_
        refine cu (uRelCopied h ex8 hr) ?_
        refine W ?_
        exact hp
      ·rw[if_neg hno,if_neg p0] at hp
       cases fl with
       | true=>
         by_cases f0:fr=0
         ·by_cases t0:to=0
          ·rw[if_pos (.inr (.inl ⟨f0,t0⟩))] at hp
           refine W ?_
           refine ret_t (xs:=[.agg rtZ,.bool false]) (vs:=[.agg (rtC rt0),.bool false]) (.inl rfl) rfl (by exact z_rw) (InlA.agg rtZ_inl (.pl inferInstance (.nil _))) (ClL.cl _) (by exact z_hn) (by exact z_hb) ?_
           exact hp
          ·have np:¬ (fr=0∧to=0):=fun e=>t0 e.2
           by_cases s0:c.route.att.orig.s=0
           ·refine W ?_
            refine cu (uRouterR hi) ?_
            cases r4:router4 c.id with
            | true=>
              rw[if_neg (fun e=>e.elim (fun e=>by cases e) (fun e=>e.elim np (fun e=>by rw[r4] at e;cases e.2)))] at hp
              have po:=passF_ok hk h hi
              have pl:=rtC_len po
              have pa:=rtC_all po
              have ps:=rtC_sc (x:=(passF k c).1)
              have z4:=rtC_any po (cs:=[PV.int .i64 0,.int .i64 0,.int .i64 0,D.o,D.o,D.o,D.o,D.o,D.o,D.o,D.o,.int .i64 0,.int .i64 0,D.o,D.o,D.o,D.o,D.o,D.o,D.o,D.o,D.o,D.o,D.o,D.o,D.o,D.o,D.o,D.o,.int .i64 0,D.o,D.o,D.o,D.o,D.o,D.o,D.o,D.o,D.o,D.o,D.o,D.o,D.o,D.o,D.o,D.o,.int .i64 0,D.o,D.o,D.o,D.o,D.o,D.o,D.o,D.o,D.o,D.o,D.o,D.o,D.o,D.o,D.o,D.o,.str [],D.o,D.o,D.o,D.o,D.o,D.o,D.o,D.o,.int .i64 0,D.o,D.o,D.o,D.o,D.o,D.o,D.o,D.o,D.o,D.o,D.o,D.o,D.o,D.o,D.o,D.o,.int .i64 0,.int .i64 0,.int .i64 0,D.o,D.o,D.o,D.o,D.o,D.o,D.o,D.o,D.o,D.o,D.o,D.o,D.o,D.o,D.o,D.o,.int .i64 0,.nils,.int .i64 0,.int .i64 0,.int .i64 0,D.o,D.o,D.o,D.o,D.o,D.o,D.o,D.o,D.o,D.o,D.o,D.o,D.o,D.o,D.o,D.o,.nils,.nils,.nils]) rfl
              refine W ?_
              refine cu (uPassed hk h ex8 hi hr) ?_
              refine W ?_
              exact hp
            | false=>
              rw[if_pos (.inr (.inr ⟨s0,r4⟩))] at hp
              refine W ?_
              refine ret_t (xs:=[.agg rtZ,.bool false]) (vs:=[.agg (rtC rt0),.bool false]) (.inl rfl) rfl (by exact z_rw) (InlA.agg rtZ_inl (.pl inferInstance (.nil _))) (ClL.cl _) (by exact z_hn) (by exact z_hb) ?_
              exact hp
           ·rw[if_neg (fun e=>e.elim (fun e=>by cases e) (fun e=>e.elim np (fun e=>s0 e.1)))] at hp
            have po:=passF_ok hk h hi
            have pl:=rtC_len po
            have pa:=rtC_all po
            have ps:=rtC_sc (x:=(passF k c).1)
            have z4:=rtC_any po (cs:=[PV.int .i64 0,.int .i64 0,.int .i64 0,D.o,D.o,D.o,D.o,D.o,D.o,D.o,D.o,.int .i64 0,.int .i64 0,D.o,D.o,D.o,D.o,D.o,D.o,D.o,D.o,D.o,D.o,D.o,D.o,D.o,D.o,D.o,D.o,.int .i64 0,D.o,D.o,D.o,D.o,D.o,D.o,D.o,D.o,D.o,D.o,D.o,D.o,D.o,D.o,D.o,D.o,.int .i64 0,D.o,D.o,D.o,D.o,D.o,D.o,D.o,D.o,D.o,D.o,D.o,D.o,D.o,D.o,D.o,D.o,.str [],D.o,D.o,D.o,D.o,D.o,D.o,D.o,D.o,.int .i64 0,D.o,D.o,D.o,D.o,D.o,D.o,D.o,D.o,D.o,D.o,D.o,D.o,D.o,D.o,D.o,D.o,.int .i64 0,.int .i64 0,.int .i64 0,D.o,D.o,D.o,D.o,D.o,D.o,D.o,D.o,D.o,D.o,D.o,D.o,D.o,D.o,D.o,D.o,.int .i64 0,.nils,.int .i64 0,.int .i64 0,.int .i64 0,D.o,D.o,D.o,D.o,D.o,D.o,D.o,D.o,D.o,D.o,D.o,D.o,D.o,D.o,D.o,D.o,.nils,.nils,.nils]) rfl
            refine W ?_
            refine cu (uPassed hk h ex8 hi hr) ?_
            refine W ?_
            exact hp
         ·have np:¬ (fr=0∧to=0):=fun e=>f0 e.1
          by_cases s0:c.route.att.orig.s=0
          ·refine W ?_
           refine cu (uRouterR hi) ?_
           cases r4:router4 c.id with
           | true=>
             rw[if_neg (fun e=>e.elim (fun e=>by cases e) (fun e=>e.elim np (fun e=>by rw[r4] at e;cases e.2)))] at hp
             have po:=passF_ok hk h hi
             have pl:=rtC_len po
             have pa:=rtC_all po
             have ps:=rtC_sc (x:=(passF k c).1)
             have z4:=rtC_any po (cs:=[PV.int .i64 0,.int .i64 0,.int .i64 0,D.o,D.o,D.o,D.o,D.o,D.o,D.o,D.o,.int .i64 0,.int .i64 0,D.o,D.o,D.o,D.o,D.o,D.o,D.o,D.o,D.o,D.o,D.o,D.o,D.o,D.o,D.o,D.o,.int .i64 0,D.o,D.o,D.o,D.o,D.o,D.o,D.o,D.o,D.o,D.o,D.o,D.o,D.o,D.o,D.o,D.o,.int .i64 0,D.o,D.o,D.o,D.o,D.o,D.o,D.o,D.o,D.o,D.o,D.o,D.o,D.o,D.o,D.o,D.o,.str [],D.o,D.o,D.o,D.o,D.o,D.o,D.o,D.o,.int .i64 0,D.o,D.o,D.o,D.o,D.o,D.o,D.o,D.o,D.o,D.o,D.o,D.o,D.o,D.o,D.o,D.o,.int .i64 0,.int .i64 0,.int .i64 0,D.o,D.o,D.o,D.o,D.o,D.o,D.o,D.o,D.o,D.o,D.o,D.o,D.o,D.o,D.o,D.o,.int .i64 0,.nils,.int .i64 0,.int .i64 0,.int .i64 0,D.o,D.o,D.o,D.o,D.o,D.o,D.o,D.o,D.o,D.o,D.o,D.o,D.o,D.o,D.o,D.o,.nils,.nils,.nils]) rfl
             refine W ?_
             refine cu (uPassed hk h ex8 hi hr) ?_
             refine W ?_
             exact hp
           | false=>
             rw[if_pos (.inr (.inr ⟨s0,r4⟩))] at hp
             refine W ?_
             refine ret_t (xs:=[.agg rtZ,.bool false]) (vs:=[.agg (rtC rt0),.bool false]) (.inl rfl) rfl (by exact z_rw) (InlA.agg rtZ_inl (.pl inferInstance (.nil _))) (ClL.cl _) (by exact z_hn) (by exact z_hb) ?_
             exact hp
          ·rw[if_neg (fun e=>e.elim (fun e=>by cases e) (fun e=>e.elim np (fun e=>s0 e.1)))] at hp
           have po:=passF_ok hk h hi
           have pl:=rtC_len po
           have pa:=rtC_all po
           have ps:=rtC_sc (x:=(passF k c).1)
           have z4:=rtC_any po (cs:=[PV.int .i64 0,.int .i64 0,.int .i64 0,D.o,D.o,D.o,D.o,D.o,D.o,D.o,D.o,.int .i64 0,.int .i64 0,D.o,D.o,D.o,D.o,D.o,D.o,D.o,D.o,D.o,D.o,D.o,D.o,D.o,D.o,D.o,D.o,.int .i64 0,D.o,D.o,D.o,D.o,D.o,D.o,D.o,D.o,D.o,D.o,D.o,D.o,D.o,D.o,D.o,D.o,.int .i64 0,D.o,D.o,D.o,D.o,D.o,D.o,D.o,D.o,D.o,D.o,D.o,D.o,D.o,D.o,D.o,D.o,.str [],D.o,D.o,D.o,D.o,D.o,D.o,D.o,D.o,.int .i64 0,D.o,D.o,D.o,D.o,D.o,D.o,D.o,D.o,D.o,D.o,D.o,D.o,D.o,D.o,D.o,D.o,.int .i64 0,.int .i64 0,.int .i64 0,D.o,D.o,D.o,D.o,D.o,D.o,D.o,D.o,D.o,D.o,D.o,D.o,D.o,D.o,D.o,D.o,.int .i64 0,.nils,.int .i64 0,.int .i64 0,.int .i64 0,D.o,D.o,D.o,D.o,D.o,D.o,D.o,D.o,D.o,D.o,D.o,D.o,D.o,D.o,D.o,D.o,.nils,.nils,.nils]) rfl
           refine W ?_
           refine cu (uPassed hk h ex8 hi hr) ?_
           refine W ?_
           exact hp
       | false=>
         rw[if_pos (.inl rfl)] at hp
         refine W ?_
         refine ret_t (xs:=[.agg rtZ,.bool false]) (vs:=[.agg (rtC rt0),.bool false]) (.inl rfl) rfl (by exact z_rw) (InlA.agg rtZ_inl (.pl inferInstance (.nil _))) (ClL.cl _) (by exact z_hn) (by exact z_hb) ?_
         exact hp
 | false=>
   rw[if_pos (.inl hr)] at hp
   refine W ?_
   refine ret_t (xs:=[.agg rtZ,.bool false]) (vs:=[.agg (rtC rt0),.bool false]) (.inl rfl) rfl (by exact z_rw) (InlA.agg rtZ_inl (.pl inferInstance (.nil _))) (ClL.cl _) (by exact z_hn) (by exact z_hb) ?_
   exact hp
end Go.Proofs.YtdpeaefgbmkegaaGreatDoor
namespace Go.Proofs.YtdpeaefgbmkegaaGreatDoor
open Go Go.V
set_option maxRecDepth 10000
set_option linter.unusedVariables false
structure Ask where
 cluster:Ad
 refl:Bool
 ch:Ch
 fr:Int
 to:Int
 peer:Int
 other:Ad
def askC (x:Ask):List PV:=adc x.cluster++([.bool x.refl]++(chC x.ch++([.int .i64 x.fr]++([.int .i64 x.to]++([.int .i64 x.peer]++(adc x.other))))))
instance (x:Ask):PlL (askC x):=by unfold askC;infer_instance
instance (x:Ask):ClL (askC x):=by unfold askC;infer_instance
section
variable {x:Ask}
end
attribute [local irreducible] vBuild vCallV
end Go.Proofs.YtdpeaefgbmkegaaGreatDoor
