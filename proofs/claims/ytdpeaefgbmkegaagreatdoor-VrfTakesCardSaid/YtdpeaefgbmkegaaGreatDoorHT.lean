/- Few. -/
import Derived.Test.YtdpeaefgbmkegaaGreatDoorHL
import Derived.Test.YtdpeaefgbmkegaaGreatDoorF4
import Derived.Test.YtdpeaefgbmkegaaGreatDoorRows
import Derived.Test.YtdpeaefgbmkegaaGreatDoorVZ
import Derived.Stop.LaidErr
import Derived.Test.YtdpeaefgbmkegaaGreatDoorED
set_option maxHeartbeats 8000000
namespace Go.Proofs.YtdpeaefgbmkegaaGreatDoor
open Go Go.V
set_option maxRecDepth 10000
set_option linter.unusedVariables false
attribute [local irreducible] vBuild vCallV
def few9 (a:At):Bool:=!(a.path.any fun s=>decide (300<s.nums.length))&&(!(a.tn.any fun t=>decide (1024<t.id.length))&&(decide (a.path.length<20)&&(decide (a.cl.length<100)&&(decide (a.ex.length<200)&&decide (a.tn.length<10)))))
def few15 (r:Rt):Bool:=few9 r.att&&decide (r.m.key.length<1024)
theorem uFew9 {a:At} (h:okAt a) (ht:∀ t,t∈a.tn→okTn t) (l1:a.path.length≤9223372036854775807) (l2:a.tn.length≤9223372036854775807):U Tryz.prog 31 [.agg (atC a)] (.bool (few9 a)):=by
 intro σ Post hk
 have sc:=atC_sc (x:=a)
 have ln:=atC_len h
 have c0:=atC_all h
 have g1:=atC_gpath h
 have g2:=atC_gtn h
 have g3:=atC_gcl h
 have g4:=atC_gex h
 have b1:(a.path.map segC).length=a.path.length:=List.length_map _
 have b2:(a.tn.map tnC).length=a.tn.length:=List.length_map _
 have b3:(a.cl.map adc).length=a.cl.length:=List.length_map _
 have b4:(a.ex.map u8c).length=a.ex.length:=List.length_map _
 refine T31 fun hB hA=>?_
 refine W ?_
 refine lp (fun j e s=>∃ i:Nat,i+j=a.path.length∧e 3=.int .i64 i∧((a.path.take i).any fun s=>decide (300<s.nums.length))=false∧s=σ++[(1,VObj.box (atC a) false)]) a.path.length ⟨0,by simp,rfl,by simp,rfl⟩ ?_
 rintro j u _ ⟨i,hi,e3,hal,rfl⟩
 by_cases h5:i<a.path.length
 ·obtain⟨x,hx⟩:∃ x,a.path[i]?=some x:=⟨_,List.getElem?_eq_getElem h5⟩
  have hg:(a.path.map segC)[(i:Int).toNat]?=some (segC x):=by rw[Int.toNat_natCast,List.getElem?_map,hx];rfl
  have tl:=segC_len (x:=x) ⟨trivial⟩
  have g7:=segC_gnums (x:=x) ⟨trivial⟩
  have b7:(x.nums.map fun n=>[PV.int .i64 n]).length=x.nums.length:=List.length_map _
  by_cases h3:300<x.nums.length
  ·have hf:few9 a=false:=by
    unfold few9
    have:(a.path.any fun s=>decide (300<s.nums.length))=true:=List.any_eq_true.2 ⟨x,List.mem_of_getElem? hx,by simpa using h3⟩
    rw[this];rfl
   rw[hf] at hk
   refine W ?_
   exact hk
  ·refine W ?_
   refine⟨j - 1,by omega,i+1,by omega,rfl,?_,rfl⟩
   rw[take_snoc hx,List.any_append,hal];simp;omega
 ·have h9:a.path.take i=a.path:=List.take_of_length_le (by omega)
  rw[h9] at hal
  refine W ?_
  refine lp (fun j e s=>∃ i:Nat,i+j=a.tn.length∧e 4=.int .i64 i∧((a.tn.take i).any fun t=>decide (1024<t.id.length))=false∧s=σ++[(1,VObj.box (atC a) false)]) a.tn.length ⟨0,by simp,rfl,by simp,rfl⟩ ?_
  clear e3 h5 h9 hi
  rintro j u _ ⟨i,hi,e4,hal2,rfl⟩
  by_cases h5:i<a.tn.length
  ·obtain⟨x,hx⟩:∃ x,a.tn[i]?=some x:=⟨_,List.getElem?_eq_getElem h5⟩
   have hg:(a.tn.map tnC)[(i:Int).toNat]?=some (tnC x):=by rw[Int.toNat_natCast,List.getElem?_map,hx];rfl
   have hm:=List.mem_of_getElem? hx
   have tl:=tnC_len (ht x hm)
   have g7:=tnC_gid (ht x hm)
   by_cases h3:1024<x.id.length
   ·have hf:few9 a=false:=by
     unfold few9
     have:(a.tn.any fun t=>decide (1024<t.id.length))=true:=List.any_eq_true.2 ⟨x,hm,by simpa using h3⟩
     rw[this];simp
    rw[hf] at hk
    refine W ?_
    exact hk
   ·refine W ?_
    refine⟨j - 1,by omega,i+1,by omega,rfl,?_,rfl⟩
    rw[take_snoc hx,List.any_append,hal2];simp;omega
  ·have h9:a.tn.take i=a.tn:=List.take_of_length_le (by omega)
   rw[h9] at hal2
   by_cases y1:a.path.length<20
   ·by_cases y2:a.cl.length<100
    ·by_cases y3:a.ex.length<200
     ·by_cases y4:a.tn.length<10
      ·refine W ?_
       exact fin hk (by unfold few9;rw[hal,hal2];simp[y1,y2,y3,y4])
      ·refine W ?_
       exact fin hk (by unfold few9;rw[hal,hal2];simp[y1,y2,y3,y4])
     ·refine W ?_
      exact fin hk (by unfold few9;rw[hal,hal2];simp[y1,y2,y3])
    ·refine W ?_
     exact fin hk (by unfold few9;rw[hal,hal2];simp[y1,y2])
   ·refine W ?_
    exact fin hk (by unfold few9;rw[hal,hal2];simp[y1])
theorem uFew15 {r:Rt} (h:okRt r) (ht:∀ t,t∈r.att.tn→okTn t) (l1:r.att.path.length≤9223372036854775807) (l2:r.att.tn.length≤9223372036854775807) (l3:r.m.key.length≤9223372036854775807):U Tryz.prog 8 [.agg (rtC r)] (.bool (few15 r)):=by
 intro σ Post hk
 have sc:=rtC_sc (x:=r)
 have ln:=rtC_len h
 have c0:=rtC_all h
 have g1:=rtC_gatt h
 have g2:cut (rtC r) 63 none=some (.str r.m.key):=cut_sk (n:=1) (o:=62) rfl rfl (cut_sk (n:=1) (o:=61) rfl rfl ((cut_pre1 (by rw[mrc_len h.m];decide)).trans (mc_key h.m)))
 refine T8 fun hB hA=>?_
 refine W ?_
 refine cu (uFew9 h.att ht l1 l2) ?_
 cases hf:few9 r.att with
 | true=>
   by_cases hk2:r.m.key.length<1024
   ·refine W ?_
    exact fin hk (by simp[few15,hf,hk2])
   ·refine W ?_
    exact fin hk (by simp[few15,hf,hk2])
 | false=>
   refine W ?_
   exact fin hk (by simp[few15,hf])
structure okArg (r:Rt):Prop where
 ok:okRt r
 cl:∀ c,c∈r.att.cl→okD c
 tn:∀ t,t∈r.att.tn→okTn t
 ex8:∀ e,e∈r.att.ex→e.length=8
 l1:r.att.path.length≤9223372036854775807
 l2:r.att.tn.length≤9223372036854775807
 l3:r.m.key.length≤9223372036854775807
theorem okArg_few {r:Rt} (h:okArg r) (hf:few15 r=true):okRib r:=by
 unfold few15 few9 at hf
 simp only[Bool.and_eq_true,Bool.not_eq_true',List.any_eq_false,decide_eq_true_eq] at hf
 refine⟨h.ok,h.cl,h.tn,fun t ht=>?_,by omega⟩
 have:=hf.1.2.1 t ht
 omega
end Go.Proofs.YtdpeaefgbmkegaaGreatDoor
namespace Go.Proofs.YtdpeaefgbmkegaaGreatDoor
open Go Go.V
set_option maxRecDepth 100000
def laidL:List (String × DataW Unit):=[("math/bits.deBruijn32tab",Rows.laid_math_bits_deBruijn32tab),("math/bits.deBruijn64tab",Rows.laid_math_bits_deBruijn64tab),("internal/strconv.uint64pow10",Rows.laid_internal_strconv_uint64pow10),("unicode/utf8.acceptRanges",Rows.laid_unicode_utf8_acceptRanges),("unicode/utf8.first",Rows.laid_unicode_utf8_first)]
def z32:List Int:=[0,1,28,2,29,14,24,3,30,22,20,15,25,17,4,8,31,27,13,23,21,19,16,7,26,12,18,6,11,5,10,9]
def z64:List Int:=[0,1,56,2,57,49,28,3,61,58,42,50,38,29,17,4,62,47,59,36,45,43,51,22,53,39,33,30,24,18,12,5,63,55,48,27,60,41,37,16,46,35,44,21,52,32,23,11,54,26,40,15,34,20,31,10,25,14,19,9,13,8,7,6]
def zpow:List Int:=[1,10,100,1000,10000,100000,1000000,10000000,100000000,1000000000,10000000000,100000000000,1000000000000,10000000000000,100000000000000,1000000000000000,10000000000000000,100000000000000000,1000000000000000000,10000000000000000000]
theorem glo {W:World} (hL:laidMetH Tryz.prog laidL W) (β:Beta):GloRep W [] β:=by
 rw[MakeChecks.laidMetH_plain _ _ _ (by kernel_rfl)] at hL
 have t1:=Lib.tabIs_of_head (P:=Tryz.prog) (k:=.u8) (zs:=z32) (g:=4) (by kernel_rfl) (show _=some 316 by kernel_rfl) Tryz.underlying316 Tryz.underlying5 (by kernel_rfl) (by kernel_rfl) hL
 have hL1:=hL.tail
 have t2:=Lib.tabIs_of_head (P:=Tryz.prog) (k:=.u8) (zs:=z64) (g:=5) (by kernel_rfl) (show _=some 317 by kernel_rfl) Tryz.underlying317 Tryz.underlying5 (by kernel_rfl) (by kernel_rfl) hL1
 have hL2:=hL1.tail
 have t3:=Lib.tabIs_of_head (P:=Tryz.prog) (k:=.u64) (zs:=zpow) (g:=1) (by kernel_rfl) (show _=some 292 by kernel_rfl) Tryz.underlying292 Tryz.underlying273 (by kernel_rfl) (by kernel_rfl) hL2
 intro g cells h
 have e:g=1∧cells=gt1∨g=4∧cells=gt4∨g=5∧cells=gt5:=by
  simp only[Glob.tab] at h
  split at h
  ·cases h;exact .inl ⟨rfl,rfl⟩
  ·cases h;exact .inr (.inl ⟨rfl,rfl⟩)
  ·cases h;exact .inr (.inr ⟨rfl,rfl⟩)
  ·cases h
 rcases e with ⟨rfl,rfl⟩|⟨rfl,rfl⟩|⟨rfl,rfl⟩
 ·exact gloOf (by kernel_rfl) t3 rfl
 ·exact gloOf (by kernel_rfl) t1 rfl
 ·exact gloOf (by kernel_rfl) t2 rfl
theorem fits_1 {x:Sh} {s:List Sh} {cs:List PV} (h:FitsL ([x]++s) cs):∃ c r,cs=c::r∧Fits x c∧FitsL s r:=fits_one h
theorem fits_list {α:Type} {c:α→List PV} {ok:α→Prop} {s:List Sh} (h:∀ e,FitsL s e→∃ x,e=c x∧ok x):∀ {es:List (List PV)},(∀ e,e∈es→FitsL s e)→∃ l:List α,es=l.map c∧∀ x,x∈l→ok x
 | [],_=>⟨[],rfl,fun x hx=>by cases hx⟩
 | e::es,hf=>by
   obtain⟨x,rfl,hx⟩:=h e (hf e (by simp))
   obtain⟨l,rfl,hl⟩:=fits_list h (es:=es) fun e he=>hf e (by simp[he])
   refine⟨x::l,rfl,fun y hy=>?_⟩
   rcases List.mem_cons.1 hy with rfl|hy
   ·exact hx
   ·exact hl y hy
theorem fits_int {e:List PV} (h:FitsL [.int .i64] e):∃ n:Int,e=[PV.int .i64 n]∧True:=by
 obtain⟨c,r,rfl,h1,h2⟩:=fits_one h
 obtain rfl:=fits_nil h2
 cases h1 with
 | int _ n hn=>exact⟨n,rfl,trivial⟩
def shA:List Sh:=.int .i64::List.replicate 16 (.int .u8)
theorem fits_A {cs:List PV} (h:FitsL shA cs):∃ a,cs=adc a∧okD a:=by
 obtain⟨c,r,rfl,h3,h4⟩:=fits_one h
 obtain⟨b,hb,rfl⟩:=fits_bytes 16 h4
 cases h3 with
 | int _ s ws=>exact⟨⟨s,b⟩,by simp[adc,adr,u8c],hb⟩
theorem fits_E {cs:List PV} (h:FitsL (List.replicate 8 (.int .u8)) cs):∃ e,cs=u8c e∧e.length=8:=by
 obtain⟨b,hb,rfl⟩:=fits_bytes 8 h
 exact⟨b,by simp[u8c],hb⟩
def shSeg:List Sh:=[.bool,.sl [.int .i64]]
theorem fits_Seg {cs:List PV} (h:FitsL shSeg cs):∃ s:Seg,cs=segC s∧True:=by
 obtain⟨c,r,rfl,h1,h2⟩:=fits_one h
 obtain⟨d,r,rfl,h3,h4⟩:=fits_one h2
 obtain rfl:=fits_nil h4
 cases h1 with
 | bool b=>
   obtain⟨es,rfl,_,hes⟩:=fits_sl h3
   obtain⟨l,rfl,_⟩:=fits_list (c:=fun n=>[PV.int .i64 n]) (ok:=fun _=>True) (fun e he=>fits_int he) hes
   exact⟨⟨b,l⟩,rfl,trivial⟩
def shTn:List Sh:=[.bool]++([.int .i64]++([.int .i64]++(shA++[.sl [.int .u8]])))
theorem fits_Tn {cs:List PV} (h:FitsL shTn cs):∃ t:Tn,cs=tnC t∧okTn t:=by
 obtain⟨c,r,rfl,h1,h2⟩:=fits_1 h
 obtain⟨d,r,rfl,h3,h4⟩:=fits_1 h2
 obtain⟨e,r,rfl,h5,h6⟩:=fits_1 h4
 obtain⟨p,q,rfl,h7,h8⟩:=fits_split h6
 obtain⟨a,rfl,ha⟩:=fits_A h7
 obtain⟨f,r,rfl,h9,hA⟩:=fits_one h8
 obtain rfl:=fits_nil hA
 obtain⟨es,rfl,_,hes⟩:=fits_sl h9
 obtain⟨l,rfl⟩:=fits_rows hes
 cases h1 with
 | bool b=>
   cases h3 with
   | int _ k _=>
     cases h5 with
     | int _ la _=>exact⟨⟨b,k,la,a,l⟩,rfl,⟨ha⟩⟩
def shAt:List Sh:=[.int .i64]++([.sl shSeg]++([.int .i64]++([.int .i64]++(shA++([.sl shA]++([.sl (List.replicate 8 (.int .u8))]++[.sl shTn]))))))
structure okAtA (a:At):Prop where
 ok:okAt a
 cl:∀ c,c∈a.cl→okD c
 tn:∀ t,t∈a.tn→okTn t
 ex8:∀ e,e∈a.ex→e.length=8
 l1:a.path.length≤9223372036854775807
 l2:a.tn.length≤9223372036854775807
theorem fits_At {cs:List PV} (h:FitsL shAt cs):∃ a:At,cs=atC a∧okAtA a:=by
 obtain⟨c1,r,rfl,h1,kk1⟩:=fits_1 h
 obtain⟨c2,r,rfl,h2,kk2⟩:=fits_1 kk1
 obtain⟨c3,r,rfl,h3,kk3⟩:=fits_1 kk2
 obtain⟨c4,r,rfl,h4,kk4⟩:=fits_1 kk3
 obtain⟨p,q,rfl,h5,kk5⟩:=fits_split kk4
 obtain⟨a,rfl,ha⟩:=fits_A h5
 obtain⟨c6,r,rfl,h6,kk6⟩:=fits_1 kk5
 obtain⟨c7,r,rfl,h7,kk7⟩:=fits_1 kk6
 obtain⟨c8,r,rfl,h8,kk8⟩:=fits_one kk7
 obtain rfl:=fits_nil kk8
 obtain⟨e2,rfl,l2,hes2⟩:=fits_sl h2
 obtain⟨path,rfl,_⟩:=fits_list (c:=segC) (ok:=fun _=>True) (fun e he=>fits_Seg he) hes2
 obtain⟨e6,rfl,_,hes6⟩:=fits_sl h6
 obtain⟨cl,rfl,hcl⟩:=fits_list (c:=adc) (ok:=okD) (fun e he=>fits_A he) hes6
 obtain⟨e7,rfl,_,hes7⟩:=fits_sl h7
 obtain⟨ex,rfl,hex⟩:=fits_list (c:=u8c) (ok:=fun e=>e.length=8) (fun e he=>fits_E he) hes7
 obtain⟨e8,rfl,l8,hes8⟩:=fits_sl h8
 obtain⟨tn,rfl,htn⟩:=fits_list (c:=tnC) (ok:=okTn) (fun e he=>fits_Tn he) hes8
 rw[List.length_map] at l2 l8
 cases h1 with
 | int _ o _=>
   cases h3 with
   | int _ m _=>
     cases h4 with
     | int _ p _=>exact⟨⟨o,path,m,p,a,cl,ex,tn⟩,rfl,⟨⟨ha⟩,hcl,htn,hex,l2,l8⟩⟩
def shU:List Sh:=List.replicate 8 (.int .u8)++(.int .i64::(List.replicate 16 (.int .u8)++[.int .i64,.int .i64]))
theorem fits_U {cs:List PV} (h:FitsL shU cs):∃ x a,cs=nmU x a∧okN x∧-9223372036854775808≤a∧a≤9223372036854775807∧-9223372036854775808≤x.k∧x.k≤9223372036854775807∧-9223372036854775808≤x.s∧x.s≤9223372036854775807:=by
 obtain⟨p,q,rfl,h1,h2⟩:=fits_split h
 obtain⟨rd,hrd,rfl⟩:=fits_bytes 8 h1
 obtain⟨c,r,rfl,h3,h4⟩:=fits_one h2
 obtain⟨p,q,rfl,h5,h6⟩:=fits_split h4
 obtain⟨b,hb,rfl⟩:=fits_bytes 16 h5
 obtain⟨d,r,rfl,h7,h8⟩:=fits_one h6
 obtain⟨f,r,rfl,h9,h10⟩:=fits_one h8
 obtain rfl:=fits_nil h10
 cases h3 with
 | int _ s ws=>
   cases h7 with
   | int _ k wk=>
     cases h9 with
     | int _ a wa=>
       have w1:=wf_i64 ws
       have w2:=wf_i64 wk
       have w3:=wf_i64 wa
       exact⟨⟨rd,s,b,k⟩,a,by simp[nmU,urc,pfx,adr,u8c],⟨hrd,hb⟩,w3.1,w3.2,w2.1,w2.2,w1.1,w1.2⟩
def shM:List Sh:=[.int .i64]++(List.replicate 8 (.int .u8)++([.int .i64]++(shA++(shA++(shA++[.str])))))
theorem fits_M {cs:List PV} (h:FitsL shM cs):∃ m,cs=mrc m∧okM m∧m.key.length≤maxLen:=by
 obtain⟨p,q,rfl,h1,h2⟩:=fits_split h
 obtain⟨c,r,rfl,h3,h4⟩:=fits_one h1
 obtain rfl:=fits_nil h4
 obtain⟨p,q,rfl,h5,h6⟩:=fits_split h2
 obtain⟨rd,hrd,rfl⟩:=fits_bytes 8 h5
 obtain⟨p,q,rfl,h7,h8⟩:=fits_split h6
 obtain⟨d,r,rfl,h9,hA⟩:=fits_one h7
 obtain rfl:=fits_nil hA
 obtain⟨p,q,rfl,hB,hC⟩:=fits_split h8
 obtain⟨s,rfl,hs⟩:=fits_A hB
 obtain⟨p,q,rfl,hD,hE⟩:=fits_split hC
 obtain⟨g,rfl,hg⟩:=fits_A hD
 obtain⟨p,q,rfl,hF,hG⟩:=fits_split hE
 obtain⟨f,rfl,hf⟩:=fits_A hF
 obtain⟨e,r,rfl,hH,hI⟩:=fits_one hG
 obtain rfl:=fits_nil hI
 cases h3 with
 | int _ k wk=>
   cases h9 with
   | int _ a wa=>
     cases hH with
     | str key hk=>
       exact⟨⟨k,rd,a,s,g,f,key⟩,by simp[mrc,u8c],⟨hrd,hs,hg,hf⟩,hk⟩
def shRt:List Sh:=[.int .i64]++([.int .i64]++(shM++(shU++(shA++shAt))))
theorem fits_Rt {cs:List PV} (h:FitsL shRt cs):∃ r:Rt,cs=rtC r∧okArg r:=by
 obtain⟨c1,q,rfl,h1,kk1⟩:=fits_1 h
 obtain⟨c2,q,rfl,h2,kk2⟩:=fits_1 kk1
 obtain⟨p,q,rfl,h3,kk3⟩:=fits_split kk2
 obtain⟨m,rfl,hm,hk⟩:=fits_M h3
 obtain⟨p,q,rfl,h4,kk4⟩:=fits_split kk3
 obtain⟨x,k,rfl,hx,_⟩:=fits_U h4
 obtain⟨p,q,rfl,h5,kk5⟩:=fits_split kk4
 obtain⟨nx,rfl,hn⟩:=fits_A h5
 obtain⟨a,rfl,ha⟩:=fits_At kk5
 cases h1 with
 | int _ s _=>
   cases h2 with
   | int _ f _=>exact⟨⟨s,f,m,(x,k),nx,a⟩,rfl,⟨⟨hm,hx,hn,ha.ok⟩,ha.cl,ha.tn,ha.ex8,ha.l1,ha.l2,Nat.le_trans hk (by decide)⟩⟩
end Go.Proofs.YtdpeaefgbmkegaaGreatDoor
