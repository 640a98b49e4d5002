/- The law VrfReaches as a triple. -/
import Derived.Test.YtdpeaefgbmkegaaGreatDoorKF
import Derived.Test.YtdpeaefgbmkegaaGreatDoorKR
import Derived.Test.YtdpeaefgbmkegaaGreatDoorHU
set_option maxHeartbeats 16000000
namespace Go.Proofs.YtdpeaefgbmkegaaGreatDoor
open Go Go.V
set_option maxRecDepth 10000
set_option linter.unusedVariables false
attribute [local irreducible] vBuild vCallV
theorem few18_len {v:Vr} (h:few18 v=true):v.imp.length<50∧v.exp.length<50:=by
 unfold few18 at h
 simp only[Bool.and_eq_true,decide_eq_true_eq] at h
 exact⟨h.2.1,h.2.2.1⟩
theorem meetF_comm (a b:List (List UInt8)):meetF a b=meetF b a:=by
 have one:∀ a b:List (List UInt8),meetF a b=true→meetF b a=true:=by
  intro a b h
  unfold meetF hasE at h ⊢
  simp only[List.any_eq_true,Bool.and_eq_true,decide_eq_true_eq] at h ⊢
  obtain⟨e,he,hk,x,hx,rfl⟩:=h
  exact⟨e,hx,hk,e,he,rfl⟩
 cases h:meetF a b with
 | true=>exact(one a b h).symm
 | false=>
   cases h2:meetF b a with
   | true=>rw[one b a h2] at h;cases h
   | false=>rfl
def exR (r:Rt) (ex:List (List UInt8)):Rt:={ r with att:={ r.att with ex:=ex } }
theorem tVrfReaches {a b:Vr} {pe:Ad} {r:Rt} (ha:okVrf a) (hb:okVrf b) (hp:okD pe) (hr:okArg r) (sm:U Tryz.prog 13 [] (.bool true)):U Tryz.prog 4 [.agg (vrC a),.agg (vrC b),.agg (adc pe),.agg (rtC r)] (.bool true):=by
 intro σ Post hk
 have oa:=ha.ok
 have asc:=vrC_sc (x:=a)
 have aln:=vrC_len oa
 have aca:=vrC_all oa
 have age:=vrC_gexp oa
 have ob:=hb.ok
 have bsc:=vrC_sc (x:=b)
 have bln:=vrC_len ob
 have bca:=vrC_all ob
 have psc:=adc_sc (a:=pe)
 have pln:=adc_len hp
 have pca:=adc_all hp
 have rsc:=rtC_sc (x:=r)
 have rln:=rtC_len hr.ok
 have rca:=rtC_all hr.ok
 refine T4 fun hB hA=>?_
 refine W ?_
 refine cu sm ?_
 refine W ?_
 refine cu (uFew18 oa) ?_
 refine W ?_
 refine cu (uFew18 ob) ?_
 refine W ?_
 refine cu (uFew15 hr.ok hr.tn hr.l1 hr.l2 hr.l3) ?_
 cases fa:few18 a with
 | false=>
   refine W ?_
   exact hk
 | true=>
 cases fb:few18 b with
 | false=>
   refine W ?_
   exact hk
 | true=>
 cases fr:few15 r with
 | false=>
   refine W ?_
   exact hk
 | true=>
 obtain⟨ai,ae⟩:=few18_len fa
 obtain⟨bi,be⟩:=few18_len fb
 have o:=okArg_few hr fr
 have ol:=few_len fr
 have es1:splice (rtC r) 130 [.sl (a.exp.map u8c)]=rtC (exR r a.exp):=rt_sa (o:=22) hr.ok (atC_sex hr.ok.att)
 have o2:okRib (exR r a.exp):=⟨⟨hr.ok.m,hr.ok.u,hr.ok.next,⟨hr.ok.att.orig⟩⟩,o.cl,o.tn,o.id,o.key⟩
 have ol2:okLen (exR r a.exp).att:=⟨ol.cl,ol.tn,ol.path,ol.nums⟩
 have ex8:∀ e,e∈(exR r a.exp).att.ex→e.length=8:=ha.exp
 have xsc:=rtC_sc (x:=exR r a.exp)
 have xln:=rtC_len o2.ok
 have xca:=rtC_all o2.ok
 have rgk:cut (rtC (exR r a.exp)) 2 none=some (.int .i64 r.m.k):=cut_sk (n:=1) (o:=1) rfl rfl (cut_sk (n:=1) (o:=0) rfl rfl ((cut_pre1 (by rw[mrc_len o2.ok.m];decide)).trans rfl))
 have u1:=uRRight o2 ol2
 have u2:=uTakesV hb hp o2 ex8 (by omega)
 have u3:=uReaches ha hb (by omega) (by omega)
 have et:rtR (exR r a.exp)=true→r.m.k≠4→r.m.k≠6→r.m.k≠7→takeV b pe (exR r a.exp)=meetF a.exp b.imp:=by
  intro h h4 h6 h7
  have e:(exR r a.exp).m.k=r.m.k:=rfl
  have e2:(exR r a.exp).att.ex=a.exp:=rfl
  unfold takeV
  rw[h,e,e2,if_neg (show ¬ (r.m.k=6∨r.m.k=7) by omega),if_pos h4,ite_self,meetF_comm]
  rfl
 refine W ?_
 refine cu u1 ?_
 cases hx:rtR (exR r a.exp) with
 | false=>
   refine W ?_
   exact hk
 | true=>
 by_cases h4:r.m.k=4
 ·refine W ?_
  exact hk
 by_cases h6:r.m.k=6
 ·refine W ?_
  exact hk
 by_cases h7:r.m.k=7
 ·refine W ?_
  exact hk
 rw[et hx h4 h6 h7] at u2
 generalize meetF a.exp b.imp=X at *
 refine W ?_
 refine s1 u2 ?_
 refine W ?_
 refine s1 u3 ?_
 refine W ?_
 exact fin hk (by simp)
end Go.Proofs.YtdpeaefgbmkegaaGreatDoor
