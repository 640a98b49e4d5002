/- rd.Make, Target of whatever number; community.Meet; vrf.Takes, Reaches. -/
import Derived.Test.YtdpeaefgbmkegaaGreatDoorR27
import Derived.Test.YtdpeaefgbmkegaaGreatDoorHS
set_option maxHeartbeats 16000000
namespace Go.Proofs.YtdpeaefgbmkegaaGreatDoor
open Go Go.V
set_option maxRecDepth 10000
set_option linter.unusedVariables false
attribute [local irreducible] vBuild vCallV
theorem uMake1Bad {hi:Nat} {n:Int} (h1:hi<4294967296) (hn:n<0∨65536≤n):U Tryz.prog 101 [.int .i64 1,.int .i64 hi,.int .i64 n] (.tup [.agg (u8c z8),.int .i64 5]):=by
 intro σ Post hk
 have d8:splice [D.o,D.o,D.o,D.o,D.o,D.o,D.o,D.o] 0 [D.o,D.o,D.o,D.o,D.o,D.o,D.o,D.o]=u8c z8:=rfl
 have d9:splice [D.o,D.o,D.o,D.o,D.o,D.o,D.o,D.o] 0 (u8c z8)=u8c z8:=rfl
 have zl:(u8c z8).length=8:=rfl
 have zc:=cut_hd0 zl
 have zs:=u8c_sc z8
 refine T101 fun hB hA=>?_
 refine W ?_
 refine cu (uHigh (k:=1)) ?_
 refine W ?_
 refine cu (uPut (l:=[]) (n:=1) (z:=2) (by omega) (by omega) (by omega) (by simp)) ?_
 refine W ?_
 refine cu (uPut (l:=[]++be 1 2) (n:=hi) (z:=4) (by omega) (by omega) (by omega) (by simp[be_len])) ?_
 refine W ?_
 refine cu (uPutBad (l:=[]++be 1 2++be hi 4) hn) ?_
 refine W ?_
 exact hk
theorem uExtTargetBad {hi:Nat} {n:Int} (h1:hi<4294967296) (hn:n<0∨65536≤n):U Tryz.prog 51 [.int .i64 1,.int .i64 hi,.int .i64 n] (.tup [.agg (u8c z8),.int .i64 5]):=by
 intro σ Post hk
 have d8:splice [D.o,D.o,D.o,D.o,D.o,D.o,D.o,D.o] 0 [D.o,D.o,D.o,D.o,D.o,D.o,D.o,D.o]=u8c z8:=rfl
 have d9:splice [D.o,D.o,D.o,D.o,D.o,D.o,D.o,D.o] 0 (u8c z8)=u8c z8:=rfl
 have zl:(u8c z8).length=8:=rfl
 have zc:=cut_hd0 zl
 have zs:=u8c_sc z8
 refine T51 fun hB hA=>?_
 refine W ?_
 refine cu (uMake1Bad h1 hn) ?_
 refine W ?_
 exact hk
def tgtG (pe:Ad) (n:Int):List UInt8 × Int:=if router4 pe=true then(if n<0∨65536≤n then(z8,5) else(tgt (big (pe.b.take 4) 0) n.toNat,0)) else(z8,1)
theorem tgtG_len (pe:Ad) (n:Int):(tgtG pe n).1.length=8:=by
 unfold tgtG;split
 ·split
  ·rfl
  ·exact tgt_len _ _
 ·rfl
theorem tgtG_in {pe:Ad} {n:Int} (h0:0≤n) (h1:n<65536):tgtG pe n=tgtF pe n:=by
 unfold tgtG tgtF
 rw[if_neg (show ¬ (n<0∨65536≤n) by omega)]
theorem tgtG_out {pe:Ad} {n:Int} (h:n<0∨65536≤n):tgtG pe n=if router4 pe=true then(z8,5) else(z8,1):=by
 unfold tgtG;rw[if_pos h]
theorem uVTargetG {pe:Ad} {n:Int} (hp:okD pe):U Tryz.prog 19 [.agg (adc pe),.int .i64 n] (.tup [.agg (u8c (tgtG pe n).1),.int .i64 (tgtG pe n).2]):=by
 by_cases hn:n<0∨65536≤n
 ·intro σ Post hk
  have sc:=adc_sc (a:=pe)
  have ln:=adc_len hp
  have c0:=adc_all hp
  have cs:=adc_s (a:=pe)
  have d8:splice [D.o,D.o,D.o,D.o,D.o,D.o,D.o,D.o] 0 [D.o,D.o,D.o,D.o,D.o,D.o,D.o,D.o]=u8c z8:=rfl
  have d9:splice [D.o,D.o,D.o,D.o,D.o,D.o,D.o,D.o] 0 (u8c z8)=u8c z8:=rfl
  have zl:(u8c z8).length=8:=rfl
  have zc:=cut_hd0 zl
  have zs:=u8c_sc z8
  rw[tgtG_out hn] at hk
  refine T19 fun hB hA=>?_
  refine W ?_
  refine cu (uRightD hp) ?_
  cases hr:okAd pe with
  | true=>
    by_cases h4:pe.s=4
    ·have hf:router4 pe=true:=by simp[router4,hr,h4]
     rw[if_pos hf] at hk
     clear hf
     have ea:abytes pe=pe.b.take 4:=by unfold abytes;rw[if_pos hr,h4];rfl
     have l4:(pe.b.take 4).length=4:=by rw[List.length_take,hp];rfl
     have hb:big (pe.b.take 4) 0<4294967296:=by have:=big_lt (pe.b.take 4) 0;rw[l4] at this;omega
     refine W ?_
     refine cu (uABytes hp) ?_
     rw[ea]
     refine W ?_
     refine ct ?_
     refine tOpen (l:=pe.b.take 4) (by omega) ?_
     refine W ?_
     refine ct ?_
     refine tNumOk (l:=pe.b.take 4) (z:=4) (lget rfl rfl) (by omega) (by omega) (by omega) ?_
     rw[lset rfl,List.take_take,show min 4 4=4 from rfl]
     refine W ?_
     refine cu (uExtTargetBad hb hn) ?_
     refine W ?_
     exact hk
    ·have hf:¬ router4 pe=true:=by simp[router4,h4]
     rw[if_neg hf] at hk
     clear hf
     refine W ?_
     exact hk
  | false=>
    have hf:¬ router4 pe=true:=by simp[router4,hr]
    rw[if_neg hf] at hk
    clear hf
    refine W ?_
    exact hk
 ·rw[tgtG_in (by omega) (by omega)]
  exact uVTarget hp (by omega) (by omega)
def hasE (e:List UInt8) (l:List (List UInt8)):Bool:=l.any fun x=>decide (e=x)
theorem uIndexE {l:List (List UInt8)} {v:List UInt8} (hv:v.length=8) (ho:∀ x,x∈l→x.length=8) (hl:l.length≤4611686018427387904):U Tryz.prog 98 [.sl (l.map u8c),.agg (u8c v)] (.int .i64 (idxF (fun x=>decide (v=x)) l)):=by
 intro σ Post hk
 have b1:(l.map u8c).length=l.length:=List.length_map _
 have vl:=u8c_len8 hv
 have vs:=u8c_sc v
 have vc:=cut_hd0 vl
 refine T98 fun hB hA=>?_
 refine W ?_
 refine lp (fun j e s=>∃ i:Nat,i+j=l.length∧e 8=.int .i64 i∧((l.take i).any fun x=>decide (v=x))=false∧s=σ++[(1,VObj.box (u8c v) false)]) l.length ⟨0,by simp,rfl,by simp,rfl⟩ ?_
 rintro j u _ ⟨i,hi,e8,hal,rfl⟩
 by_cases h5:i<l.length
 ·obtain⟨x,hx⟩:∃ x,l[i]?=some x:=⟨_,List.getElem?_eq_getElem h5⟩
  have hg:(l.map u8c)[(i:Int).toNat]?=some (u8c x):=by rw[Int.toNat_natCast,List.getElem?_map,hx];rfl
  have hm:=ho x (List.mem_of_getElem? hx)
  have xl:=u8c_len8 hm
  have xc:=cut_hd0 xl
  have q0:eqCells [.i .u8,.i .u8,.i .u8,.i .u8,.i .u8,.i .u8,.i .u8,.i .u8] (u8c v) (u8c x)=some (decide (v=x)):=by have q:=eqC_u8 v x (by rw[hv,hm]);rw[hv] at q;exact q.trans (by rw[Bool.beq_eq_decide_eq])
  by_cases hp:v=x
  ·rw[idxF_at hal hx (by simpa using hp)] at hk
   rw[decide_eq_true hp] at q0
   refine W ?_
   exact hk
  ·rw[decide_eq_false hp] at q0
   refine W ?_
   refine⟨j - 1,by omega,i+1,by omega,rfl,?_,rfl⟩
   rw[take_snoc hx,List.any_append,hal];simp[hp]
 ·have h9:l.take i=l:=List.take_of_length_le (by omega)
  rw[h9] at hal
  rw[idxF_no hal] at hk
  refine W ?_
  exact hk
theorem uContE {l:List (List UInt8)} {v:List UInt8} (hv:v.length=8) (ho:∀ x,x∈l→x.length=8) (hl:l.length≤4611686018427387904):U Tryz.prog 47 [.sl (l.map u8c),.agg (u8c v)] (.bool (hasE v l)):=by
 intro σ Post hk
 have e:decide (0≤idxF (fun x=>decide (v=x)) l)=hasE v l:=idxF_any _ l
 have vl:=u8c_len8 hv
 have vs:=u8c_sc v
 have vc:=cut_hd0 vl
 rw[← e] at hk
 refine T47 fun hB hA=>?_
 refine W ?_
 refine cu (uIndexE hv ho hl) ?_
 refine W ?_
 exact hk
def meetF (a b:List (List UInt8)):Bool:=a.any fun e=>decide (kindE e=1)&&hasE e b
theorem tMeetC {e:List UInt8} {b:List (List UInt8)} {σ:VHeap} {Post:KP} {p g:Nat} (he:e.length=8) (ho:∀ x,x∈b→x.length=8) (hl:b.length≤4611686018427387904) (hg:vGet σ p g=some (.box [.sl (b.map u8c)] false)) (hk:Post (.bool (decide (kindE e=1)&&hasE e b)) σ):T Tryz.prog 97 [.agg (u8c e),.ptr p g 0] σ Post:=by
 skip
 have vl:=u8c_len8 he
 have vs:=u8c_sc e
 have vc:=cut_hd0 vl
 have hi:=vGet_lt hg
 have cb:cut [PV.sl (b.map u8c)] 0 none=some (.sl (b.map u8c)):=rfl
 refine T97 fun hB hA=>?_
 refine W ?_
 refine cu (uKind he) ?_
 by_cases h1:kindE e=1
 ·refine W ?_
  refine cu (uContE he ho hl) ?_
  refine W ?_
  exact fin hk (by simp[h1])
 ·refine W ?_
  exact fin hk (by simp[h1])
theorem uMeet {a b:List (List UInt8)} (ha:∀ x,x∈a→x.length=8) (hb:∀ x,x∈b→x.length=8) (la:a.length≤4611686018427387904) (lb:b.length≤4611686018427387904):U Tryz.prog 46 [.sl (a.map u8c),.sl (b.map u8c)] (.bool (meetF a b)):=by
 intro σ Post hk
 have hc:callOk Tryz.prog 97=true:=by kernel_rfl
 refine T46 fun hB hA=>?_
 refine W ?_
 refine ct ?_
 refine tConE (l:=a) (p:=fun e=>decide (kindE e=1)&&hasE e b) la hc ha (fun x hx L Q hq=>tMeetC (ha x hx) hb lb (oget (lget rfl rfl)) hq) ?_
 refine W ?_
 exact hk
theorem uReaches {v w:Vr} (hv:okVrf v) (hw:okVrf w) (l1:v.exp.length≤4611686018427387904) (l2:w.imp.length≤4611686018427387904):U Tryz.prog 17 [.agg (vrC v),.agg (vrC w)] (.bool (meetF v.exp w.imp)):=by
 intro σ Post hk
 have ov:=hv.ok
 have vsc:=vrC_sc (x:=v)
 have vln:=vrC_len ov
 have vca:=vrC_all ov
 have vg1:=vrC_gnum ov
 have vg2:=vrC_gimp ov
 have vg3:=vrC_gexp ov
 have ow:=hw.ok
 have wsc:=vrC_sc (x:=w)
 have wln:=vrC_len ow
 have wca:=vrC_all ow
 have wg2:=vrC_gimp ow
 refine T17 fun hB hA=>?_
 refine W ?_
 refine cu (uMeet hv.exp hw.imp l1 l2) ?_
 refine W ?_
 exact hk
def takeV (v:Vr) (pe:Ad) (r:Rt):Bool:=
 rtR r&&(if r.safi=128 then meetF v.imp r.att.ex
  else if r.m.k=6∨r.m.k=7 then decide ((tgtG pe v.num).2=0)&&hasE (tgtG pe v.num).1 r.att.ex
  else if r.m.k≠4 then meetF v.imp r.att.ex
  else decide ((tgtG pe 0).2=0)&&hasE (tgtG pe 0).1 r.att.ex)
theorem uTakesV {v:Vr} {pe:Ad} {r:Rt} (hv:okVrf v) (hp:okD pe) (h:okRib r) (ex8:∀ e,e∈r.att.ex→e.length=8) (li:v.imp.length≤1000000):U Tryz.prog 16 [.agg (vrC v),.agg (adc pe),.agg (rtC r)] (.bool (takeV v pe r)):=by
 intro σ Post hk
 have ov:=hv.ok
 have vsc:=vrC_sc (x:=v)
 have vln:=vrC_len ov
 have vca:=vrC_all ov
 have vg1:=vrC_gnum ov
 have vg2:=vrC_gimp ov
 have vg3:=vrC_gexp ov
 have rsc:=rtC_sc (x:=r)
 have rln:=rtC_len h.ok
 have rca:=rtC_all h.ok
 have rg1:=rtC_gsafi h.ok
 have psc:=adc_sc (a:=pe)
 have pln:=adc_len hp
 have pca:=adc_all hp
 have rgk:cut (rtC r) 2 none=some (.int .i64 r.m.k):=cut_sk (n:=1) (o:=1) rfl rfl (cut_sk (n:=1) (o:=0) rfl rfl ((cut_pre1 (by rw[mrc_len h.ok.m];decide)).trans rfl))
 have rge:cut (rtC r) 130 none=some (.sl (r.att.ex.map u8c)):=rt_ga (o:=22) h.ok (atC_gex h.ok.att)
 refine T16 fun hB hA=>?_
 refine W ?_
 refine cu (uName15 h) ?_
 cases hr:rtR r with
 | true=>
   have l3:=(atR_parts (rtR_at hr)).ex
   by_cases s8:r.safi=128
   ·refine W ?_
    refine cu (uMeet hv.imp ex8 (by omega) (by omega)) ?_
    refine W ?_
    exact fin hk (by unfold takeV;simp[hr,s8])
   ·by_cases k6:r.m.k=6
    ·have tl:=u8c_len8 (tgtG_len pe v.num)
     have ts:=u8c_sc (tgtG pe v.num).1
     have tc:=cut_hd0 tl
     have d8:=spl_any8 (cs:=[D.o,D.o,D.o,D.o,D.o,D.o,D.o,D.o]) tl
     refine W ?_
     refine cu (uVTargetG (n:=v.num) hp) ?_
     by_cases h0:(tgtG pe v.num).2=0
     ·refine W ?_
      refine cu (uContE (tgtG_len pe v.num) ex8 (by omega)) ?_
      refine W ?_
      exact fin hk (by unfold takeV;simp[hr,s8,k6,h0])
     ·refine W ?_
      exact fin hk (by unfold takeV;simp[hr,s8,k6,h0])
    ·by_cases k7:r.m.k=7
     ·have tl:=u8c_len8 (tgtG_len pe v.num)
      have ts:=u8c_sc (tgtG pe v.num).1
      have tc:=cut_hd0 tl
      have d8:=spl_any8 (cs:=[D.o,D.o,D.o,D.o,D.o,D.o,D.o,D.o]) tl
      refine W ?_
      refine cu (uVTargetG (n:=v.num) hp) ?_
      by_cases h0:(tgtG pe v.num).2=0
      ·refine W ?_
       refine cu (uContE (tgtG_len pe v.num) ex8 (by omega)) ?_
       refine W ?_
       exact fin hk (by unfold takeV;simp[hr,s8,k7,h0])
      ·refine W ?_
       exact fin hk (by unfold takeV;simp[hr,s8,k7,h0])
     ·by_cases k4:r.m.k=4
      ·have tl:=u8c_len8 (tgtG_len pe 0)
       have ts:=u8c_sc (tgtG pe 0).1
       have tc:=cut_hd0 tl
       have d8:=spl_any8 (cs:=[D.o,D.o,D.o,D.o,D.o,D.o,D.o,D.o]) tl
       refine W ?_
       refine cu (uVTargetG (n:=0) hp) ?_
       by_cases h0:(tgtG pe 0).2=0
       ·refine W ?_
        refine cu (uContE (tgtG_len pe 0) ex8 (by omega)) ?_
        refine W ?_
        exact fin hk (by unfold takeV;simp[hr,s8,k4,h0])
       ·refine W ?_
        exact fin hk (by unfold takeV;simp[hr,s8,k4,h0])
      ·refine W ?_
       refine cu (uMeet hv.imp ex8 (by omega) (by omega)) ?_
       refine W ?_
       exact fin hk (by unfold takeV;simp[hr,s8,k6,k7,k4])
 | false=>
   refine W ?_
   exact fin hk (by unfold takeV;simp[hr])
end Go.Proofs.YtdpeaefgbmkegaaGreatDoor
namespace Go.Proofs.YtdpeaefgbmkegaaGreatDoor
open Go Go.V
set_option maxRecDepth 10000
set_option linter.unusedVariables false
attribute [local irreducible] vBuild vCallV
theorem uTaken {v:Vr} {pe:Ad} {l:List Rt} (hv:okVrf v) (hp:okD pe) (h:∀ r,r∈l→okRib r) (ex8:∀ r,r∈l→∀ e,e∈r.att.ex→e.length=8) (li:v.imp.length≤1000000) (hn:l.length≤1000000):U Tryz.prog 22 [.agg (vrC v),.agg (adc pe),.sl (l.map rtC)] (.sl ((l.filter (takeV v pe)).map rtC)):=by
 intro σ Post hk
 have vs:=vrC_sc (x:=v)
 have vl:=vrC_len hv.ok
 have vc:=vrC_all hv.ok
 have psc:=adc_sc (a:=pe)
 have pln:=adc_len hp
 have pca:=adc_all hp
 have b1:(l.map rtC).length=l.length:=List.length_map _
 refine T22 fun hB hA=>?_
 refine W ?_
 refine lp (fun j e s=>∃ (i g g4 g5:Nat) (o4 o5:VObj),i+j=l.length∧e 12=.int .i64 i∧e 7=.row (σ.length+3) g∧s=σ++[(1,VObj.box (vrC v) false),(1,.box (adc pe) false),(1,.row 132 [] false),(g,.row 132 (((l.take i).filter (takeV v pe)).map rtC) false),(g4,o4),(g5,o5),(0,.dead)]) l.length ⟨0,1,0,0,.dead,.dead,by simp,rfl,rfl,rfl⟩ ?_
 rintro j u _ ⟨i,g,g4,g5,o4,o5,hi,e12,e7,rfl⟩
 by_cases h5:i<l.length
 ·obtain⟨x,hx⟩:∃ x,l[i]?=some x:=⟨_,List.getElem?_eq_getElem h5⟩
  have hg:(l.map rtC)[(i:Int).toNat]?=some (rtC x):=by rw[Int.toNat_natCast,List.getElem?_map,hx];rfl
  have hm:=List.mem_of_getElem? hx
  have ox:=(h x hm).ok
  have xs:=rtC_sc (x:=x)
  have xl:=rtC_len ox
  have xc:=rtC_all ox
  have xd:=rtC_any ox (cs:=[PV.int .i64 0,.int .i64 0,.int .i64 0,D.o,D.o,D.o,D.o,D.o,D.o,D.o,D.o,.int .i64 0,.int .i64 0,D.o,D.o,D.o,D.o,D.o,D.o,D.o,D.o,D.o,D.o,D.o,D.o,D.o,D.o,D.o,D.o,.int .i64 0,D.o,D.o,D.o,D.o,D.o,D.o,D.o,D.o,D.o,D.o,D.o,D.o,D.o,D.o,D.o,D.o,.int .i64 0,D.o,D.o,D.o,D.o,D.o,D.o,D.o,D.o,D.o,D.o,D.o,D.o,D.o,D.o,D.o,D.o,.str [],D.o,D.o,D.o,D.o,D.o,D.o,D.o,D.o,.int .i64 0,D.o,D.o,D.o,D.o,D.o,D.o,D.o,D.o,D.o,D.o,D.o,D.o,D.o,D.o,D.o,D.o,.int .i64 0,.int .i64 0,.int .i64 0,D.o,D.o,D.o,D.o,D.o,D.o,D.o,D.o,D.o,D.o,D.o,D.o,D.o,D.o,D.o,D.o,.int .i64 0,.nils,.int .i64 0,.int .i64 0,.int .i64 0,D.o,D.o,D.o,D.o,D.o,D.o,D.o,D.o,D.o,D.o,D.o,D.o,D.o,D.o,D.o,D.o,.nils,.nils,.nils]) rfl
  have r1:RowOk 132 [rtC x]:=fun e he=>by rw[List.mem_singleton.1 he];exact⟨xl,xs⟩
  have r2:RowOk 132 (((l.take i).filter (takeV v pe)).map rtC):=fun e he=>by
   obtain⟨y,hy,rfl⟩:=List.mem_map.1 he
   exact⟨rtC_len (h y (List.mem_of_mem_take (List.mem_filter.1 hy).1)).ok,rtC_sc⟩
  have b2:(((l.take i).filter (takeV v pe)).map rtC).length≤i:=by
   rw[List.length_map]
   exact Nat.le_trans (List.length_filter_le _ _) (by rw[List.length_take];omega)
  refine W ?_
  refine cu (uTakesV hv hp (h x hm) (ex8 x hm) li) ?_
  cases ht:takeV v pe x with
  | true=>
    have hst:((l.take (i+1)).filter (takeV v pe))=(l.take i).filter (takeV v pe)++[x]:=by
     rw[take_snoc hx,List.filter_append];simp[ht]
    refine W ?_
    exact⟨j - 1,by omega,i+1,g+1,g4+1,g5+1,.box (rtC x) false,.row 132 [rtC x] false,by omega,rfl,rfl,by rw[hst]⟩
  | false=>
    have hst:((l.take (i+1)).filter (takeV v pe))=(l.take i).filter (takeV v pe):=by
     rw[take_snoc hx,List.filter_append];simp[ht]
    refine W ?_
    exact⟨j - 1,by omega,i+1,g,g4+1,g5,.box (rtC x) false,o5,by omega,rfl,e7,by rw[hst]⟩
 ·have h9:l.take i=l:=List.take_of_length_le (by omega)
  rw[h9]
  refine W ?_
  exact hk
end Go.Proofs.YtdpeaefgbmkegaaGreatDoor
