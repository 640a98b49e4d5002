/- Multicast routes: cells, parts, addresses. -/
import Derived.Test.YtdpeaefgbmkegaaGreatDoorGD
import Derived.Test.YtdpeaefgbmkegaaGreatDoorF3
import Derived.Test.YtdpeaefgbmkegaaGreatDoorVJ
set_option maxHeartbeats 4000000
namespace Go.Proofs.YtdpeaefgbmkegaaGreatDoor
open Go Go.V
set_option maxRecDepth 10000
theorem cut_mid {A X B:List PV} {o n:Nat} (ho:A.length=o) (hn:X.length=n):cut (A++(X++B)) o (some n)=some (.agg X):=by
 subst ho hn
 simp only[cut]
 rw[if_pos (by simp),List.drop_left,List.take_left]
theorem cut_one {A B:List PV} {x:PV} {o:Nat} (ho:A.length=o):cut (A++(x::B)) o none=some x:=by
 subst ho
 simp only[cut]
 rw[List.getElem?_append_right (Nat.le_refl _),Nat.sub_self];rfl
theorem spl_mid {A X Y B:List PV} {o:Nat} (ho:A.length=o) (hn:Y.length=X.length):splice (A++(X++B)) o Y=A++(Y++B):=by
 subst ho
 unfold splice
 rw[List.take_left,hn,← List.drop_drop,List.drop_left,List.drop_left,List.append_assoc]
structure Ad where
 s:Int
 b:List UInt8
 deriving DecidableEq
def adc (a:Ad):List PV:=adr a.s a.b
def ad0:Ad:=⟨0,z16⟩
def okD (a:Ad):Prop:=a.b.length=16
theorem ad0_ok:okD ad0:=rfl
instance (a:Ad):PlL (adc a):=by unfold adc;infer_instance
instance (a:Ad):ClL (adc a):=by unfold adc;infer_instance
section
variable {a g:Ad}
theorem adc_sc:(adc a).all scalar=true:=adr_sc _ _
theorem adc_len (h:okD a):(adc a).length=17:=by unfold adc;rw[adr_len,h]
theorem adc_all (h:okD a):cut (adc a) 0 (some 17)=some (.agg (adc a)):=by
 have:=adc_len h
 simp only[cut];rw[if_pos (by omega),List.drop_zero,List.take_of_length_le (by omega)]
theorem adc_s:cut (adc a) 0 none=some (.int .i64 a.s):=rfl
theorem adc_b0 (_h:okD a) {x:UInt8} (hx:a.b[0]?=some x):cut (adc a) 1 none=some (byt x):=cut_adr (i:=0) hx
def okAd (a:Ad):Bool:=okA a.s a.b
theorem okAd_s (h:okAd a=true):a.s=0∨a.s=4∨a.s=16:=by
 unfold okAd okA at h;simp at h;omega
theorem uRightD (h:okD a):U Tryz.prog 50 [.agg (adc a)] (.bool (okAd a)):=uRightA h
def mcA (a:Ad):Bool:=okAd a&&(if a.s=4 then decide ((a.b.headD 0).toNat / 16=14) else decide (a.s=16)&&decide ((a.b.headD 0).toNat=255))
theorem uMulti (h:okD a):U Tryz.prog 90 [.agg (adc a)] (.bool (mcA a)):=by
 intro σ Post hk
 have sc:=adc_sc (a:=a)
 have ln:=adc_len h
 have c0:=adc_all h
 have c1:=adc_s (a:=a)
 obtain⟨x,hx⟩:∃ x,a.b[0]?=some x:=⟨_,List.getElem?_eq_getElem (by rw[h];omega)⟩
 have c2:=adc_b0 h hx
 have hd:a.b.headD 0=x:=by
  cases hb:a.b with
  | nil=>rw[hb] at hx;simp at hx
  | cons y r=>rw[hb] at hx;simp at hx;simp[hx]
 have hx2:=x.toNat_lt
 have b1:ibin .shr .u8 (x.toNat:Int) .u64 4=some (.int .u8 ((x.toNat / 16:Nat):Int)):=ib_shrN (n:=4) (by decide)
 unfold mcA at hk
 rw[hd] at hk
 refine T90 fun hB hA=>?_
 cases ho:okAd a with
 | false=>
   rw[ho,Bool.false_and] at hk
   refine W ?_
   refine cu (uRightD h) ?_
   rw[ho]
   refine W ?_
   exact hk
 | true=>
   rw[ho,Bool.true_and] at hk
   by_cases h4:a.s=4
   ·rw[if_pos h4] at hk
    by_cases h14:x.toNat / 16=14
    ·rw[decide_eq_true h14] at hk
     refine W ?_
     refine cu (uRightD h) ?_
     rw[ho]
     refine W ?_
     exact hk
    ·rw[decide_eq_false h14] at hk
     refine W ?_
     refine cu (uRightD h) ?_
     rw[ho]
     refine W ?_
     exact hk
   ·rw[if_neg h4] at hk
    by_cases h16:a.s=16
    ·rw[decide_eq_true h16,Bool.true_and] at hk
     by_cases hff:x.toNat=255
     ·rw[decide_eq_true hff] at hk
      refine W ?_
      refine cu (uRightD h) ?_
      rw[ho]
      refine W ?_
      exact hk
     ·rw[decide_eq_false hff] at hk
      refine W ?_
      refine cu (uRightD h) ?_
      rw[ho]
      refine W ?_
      exact hk
    ·rw[decide_eq_false h16,Bool.false_and] at hk
     refine W ?_
     refine cu (uRightD h) ?_
     rw[ho]
     refine W ?_
     exact hk
def someA (a:Ad):Bool:=okAd a&&decide (0<a.s)
theorem uSome (h:okD a):U Tryz.prog 218 [.agg (adc a)] (.bool (someA a)):=by
 intro σ Post hk
 have sc:=adc_sc (a:=a)
 have ln:=adc_len h
 have c0:=adc_all h
 have c1:=adc_s (a:=a)
 unfold someA at hk
 refine T218 fun hB hA=>?_
 refine W ?_
 refine cu (uRightD h) ?_
 cases ho:okAd a with
 | false=>
   rw[ho,Bool.false_and] at hk
   refine W ?_
   exact hk
 | true=>
   rw[ho,Bool.true_and] at hk
   by_cases h0:0<a.s
   ·rw[decide_eq_true h0] at hk
    refine W ?_
    exact hk
   ·rw[decide_eq_false h0] at hk
    refine W ?_
    exact hk
def flowsF (s g:Ad) (w:Bool):Bool:=okAd s&&okAd g&&!mcA s&&(decide (g.s≤0)||mcA g)&&(if w&&(decide (s.s=0)||decide (g.s=0)) then true else decide (0<s.s)&&decide (s.s=g.s))
theorem uFlows {s g:Ad} {w:Bool} (hs:okD s) (hg:okD g):U Tryz.prog 219 [.agg (adc s),.agg (adc g),.bool w] (.bool (flowsF s g w)):=by
 intro σ Post hk
 have sc:=adc_sc (a:=s)
 have ln:=adc_len hs
 have c0:=adc_all hs
 have c1:=adc_s (a:=s)
 have sc':=adc_sc (a:=g)
 have ln':=adc_len hg
 have c0':=adc_all hg
 have c1':=adc_s (a:=g)
 unfold flowsF at hk
 refine T219 fun hB hA=>?_
 refine W ?_
 refine cu (uRightD hs) ?_
 cases o1:okAd s with
 | false=>
   simp only[o1,Bool.false_and] at hk
   refine W ?_
   exact hk
 | true=>
   refine W ?_
   refine cu (uRightD hg) ?_
   cases o2:okAd g with
   | false=>
     simp only[o1,o2,Bool.false_and,Bool.and_false] at hk
     refine W ?_
     exact hk
   | true=>
     refine W ?_
     refine cu (uMulti hs) ?_
     cases o3:mcA s with
     | true=>
       simp only[o1,o2,o3,Bool.not_true,Bool.false_and,Bool.and_false] at hk
       refine W ?_
       exact hk
     | false=>
       simp only[o1,o2,o3,Bool.not_false,Bool.true_and,Bool.and_true] at hk
       have e1:=okAd_s o1
       have e2:=okAd_s o2
       by_cases g0:g.s≤0
       ·have g0':g.s=0:=by omega
        rw[decide_eq_true g0,Bool.true_or,Bool.true_and,decide_eq_true g0',Bool.or_true] at hk
        cases w with
        | true=>
          rw[Bool.and_true,if_pos rfl] at hk
          by_cases s0:s.s=0
          ·refine W ?_
           exact hk
          ·refine W ?_
           exact hk
        | false=>
          rw[Bool.false_and,if_neg (by simp)] at hk
          by_cases s0:0<s.s
          ·rw[decide_eq_true s0,decide_eq_false (show ¬ s.s=g.s by omega)] at hk
           refine W ?_
           exact hk
          ·rw[decide_eq_false s0] at hk
           refine W ?_
           exact hk
       ·have g0':¬ g.s=0:=by omega
        rw[decide_eq_false g0,Bool.false_or,decide_eq_false g0',Bool.or_false] at hk
        refine W ?_
        refine cu (uMulti hg) ?_
        cases o4:mcA g with
        | false=>
          rw[o4,Bool.false_and] at hk
          refine W ?_
          exact hk
        | true=>
          rw[o4,Bool.true_and] at hk
          by_cases s0:s.s=0
          ·rw[decide_eq_true s0,Bool.and_true,decide_eq_false (show ¬ 0<s.s by omega),Bool.false_and] at hk
           cases w with
           | true=>
             rw[if_pos rfl] at hk
             refine W ?_
             exact hk
           | false=>
             rw[if_neg (by simp)] at hk
             refine W ?_
             exact hk
          ·rw[decide_eq_false s0,Bool.and_false,if_neg (by simp),decide_eq_true (show 0<s.s by omega),Bool.true_and] at hk
           by_cases e:s.s=g.s
           ·rw[decide_eq_true e] at hk
            cases w with
            | true=>
              refine W ?_
              exact hk
            | false=>
              refine W ?_
              exact hk
           ·rw[decide_eq_false e] at hk
            cases w with
            | true=>
              refine W ?_
              exact hk
            | false=>
              refine W ?_
              exact hk
def abytes (a:Ad):List UInt8:=if okAd a then a.b.take a.s.toNat else[]
theorem uABytes (h:okD a):U Tryz.prog 53 [.agg (adc a)] (.sl (bsl (abytes a))):=by
 intro σ Post hk
 have sc:=adc_sc (a:=a)
 have ln:=adc_len h
 have c0:=adc_all h
 have c1:=adc_s (a:=a)
 unfold abytes at hk
 refine T53 fun hB hA=>?_
 refine W ?_
 refine cu (uRightD h) ?_
 cases ho:okAd a with
 | false=>
   rw[ho] at hk
   refine W ?_
   exact hk
 | true=>
   rw[ho,if_pos rfl] at hk
   have hs:=okAd_s ho
   have v:VCut (adc a) (0+1) a.s.toNat (bsl (a.b.take a.s.toNat)):=⟨by
    unfold adc adr;rw[List.drop_succ_cons,List.drop_zero];simp[u8c,bsl,List.map_take,Function.comp_def]⟩
   refine W ?_
   refine cu (uClone (l:=a.b.take a.s.toNat) (by rw[List.length_take,h];omega)) ?_
   refine W ?_
   exact hk
theorem abytes_len (h:okD a):(abytes a).length≤16:=by
 unfold abytes;split
 ·rw[List.length_take,h];omega
 ·simp
def longF (a:Ad):List UInt8:=UInt8.ofNat (8 * a.s).toNat::abytes a
theorem uLong (h:okD a) (ho:okAd a=true):U Tryz.prog 170 [.agg (adc a)] (.sl (bsl (longF a))):=by
 intro σ Post hk
 have sc:=adc_sc (a:=a)
 have ln:=adc_len h
 have c0:=adc_all h
 have c1:=adc_s (a:=a)
 have hs:=okAd_s ho
 have hal:=abytes_len h
 have k1:IntKind.i64.wrap (8 * a.s)=8 * a.s:=w_i64 (by omega) (by omega)
 have w8:IntKind.u8.wrap (8 * a.s)=8 * a.s:=w_u8 (by omega) (by omega)
 have e:([PV.int IntKind.u8 (8 * a.s)]::bsl (abytes a))=bsl (longF a):=by
  unfold longF
  show _=[byt (UInt8.ofNat (8 * a.s).toNat)]::bsl (abytes a)
  congr 2
  have:(UInt8.ofNat (8 * a.s).toNat).toNat=(8 * a.s).toNat:=by simp;omega
  show PV.int _ _=PV.int _ _
  congr 1
  omega
 rw[← e] at hk
 refine T170 fun hB hA=>?_
 refine Wo ?_
 refine drJ (fun h'=>vGet h' (σ.length+0) 1=some (.box (adc a) false)) [(1,0),(1,1),(2,2),(2,3),(2,5),(2,6),(0,4),(0,7),(2,8)] (by kernel_rfl) (by kernel_rfl) (by exact z_ol) (lget rfl rfl) ?_
 refine Wo ?_
 refine sv_2 (fun hh hJ=>yn (y_call (uABytes h) (by exact z_ma))) ?_
 refine Wo ?_
 refine sv_0 ?_
 refine est (by exact z_ea) ?_
 refine st_end ⟨lget rfl rfl,?_⟩
 refine sv_0 ?_
 refine est (by exact z_ea) ?_
 refine st_end ⟨lget rfl rfl,?_⟩
 refine W ?_
 exact hk
end
end Go.Proofs.YtdpeaefgbmkegaaGreatDoor
namespace Go.Proofs.YtdpeaefgbmkegaaGreatDoor
open Go Go.V
set_option maxRecDepth 10000
structure Mr where
 k:Int
 rd:List UInt8
 aa:Int
 s:Ad
 g:Ad
 f:Ad
 key:List UInt8
 deriving DecidableEq
def mrc (m:Mr):List PV:=[.int .i64 m.k]++(u8c m.rd++([.int .i64 m.aa]++(adc m.s++(adc m.g++(adc m.f++[.str m.key])))))
structure okM (m:Mr):Prop where
 rd:m.rd.length=8
 s:okD m.s
 g:okD m.g
 f:okD m.f
def mr0:Mr:=⟨0,z8,0,ad0,ad0,ad0,[]⟩
theorem mr0_ok:okM mr0:=⟨rfl,rfl,rfl,rfl⟩
def mz:List PV:=mrc mr0
instance (m:Mr):PlL (mrc m):=by unfold mrc;infer_instance
instance (m:Mr):ClL (mrc m):=by unfold mrc;infer_instance
section
variable {m:Mr}
theorem mrc_sc:(mrc m).all scalar=true:=by
 unfold mrc
 simp only[List.all_append,u8c_sc,adc_sc,List.all_cons,List.all_nil,scalar,Bool.and_self]
theorem mrc_len (h:okM m):(mrc m).length=62:=by
 unfold mrc
 simp only[List.length_append,List.length_cons,List.length_nil,u8c_len,h.rd,adc_len h.s,adc_len h.g,adc_len h.f]
theorem mrc_all (h:okM m):cut (mrc m) 0 (some 62)=some (.agg (mrc m)):=by
 have:=mrc_len h
 simp only[cut];rw[if_pos (by omega),List.drop_zero,List.take_of_length_le (by omega)]
theorem e_as:mrc m=([.int .i64 m.k]++u8c m.rd)++(.int .i64 m.aa::(adc m.s++(adc m.g++(adc m.f++[.str m.key])))):=by simp[mrc]
theorem e_s:mrc m=([.int .i64 m.k]++(u8c m.rd++[.int .i64 m.aa]))++(adc m.s++(adc m.g++(adc m.f++[.str m.key]))):=by simp[mrc]
theorem e_g:mrc m=([.int .i64 m.k]++(u8c m.rd++([.int .i64 m.aa]++adc m.s)))++(adc m.g++(adc m.f++[.str m.key])):=by simp[mrc]
theorem e_f:mrc m=([.int .i64 m.k]++(u8c m.rd++([.int .i64 m.aa]++(adc m.s++adc m.g))))++(adc m.f++[.str m.key]):=by simp[mrc]
theorem e_key:mrc m=([.int .i64 m.k]++(u8c m.rd++([.int .i64 m.aa]++(adc m.s++(adc m.g++adc m.f)))))++(.str m.key::[]):=by simp[mrc]
section
variable (h:okM m)
include h
theorem l_as:([PV.int .i64 m.k]++u8c m.rd).length=9:=by simp[u8c_len,h.rd]
theorem l_s:([PV.int .i64 m.k]++(u8c m.rd++[PV.int .i64 m.aa])).length=10:=by simp[u8c_len,h.rd]
theorem l_g:([PV.int .i64 m.k]++(u8c m.rd++([PV.int .i64 m.aa]++adc m.s))).length=27:=by simp[u8c_len,h.rd,adc_len h.s]
theorem l_f:([PV.int .i64 m.k]++(u8c m.rd++([PV.int .i64 m.aa]++(adc m.s++adc m.g)))).length=44:=by simp[u8c_len,h.rd,adc_len h.s,adc_len h.g]
theorem l_key:([PV.int .i64 m.k]++(u8c m.rd++([PV.int .i64 m.aa]++(adc m.s++(adc m.g++adc m.f))))).length=61:=by simp[u8c_len,h.rd,adc_len h.s,adc_len h.g,adc_len h.f]
theorem mc_rd:cut (mrc m) 1 (some 8)=some (.agg (u8c m.rd)):=cut_mid rfl (by rw[u8c_len,h.rd])
theorem mc_as:cut (mrc m) 9 none=some (.int .i64 m.aa):=by rw[e_as];exact cut_one (l_as h)
theorem mc_s:cut (mrc m) 10 (some 17)=some (.agg (adc m.s)):=by rw[e_s];exact cut_mid (l_s h) (adc_len h.s)
theorem mc_g:cut (mrc m) 27 (some 17)=some (.agg (adc m.g)):=by rw[e_g];exact cut_mid (l_g h) (adc_len h.g)
theorem mc_f:cut (mrc m) 44 (some 17)=some (.agg (adc m.f)):=by rw[e_f];exact cut_mid (l_f h) (adc_len h.f)
theorem mc_key:cut (mrc m) 61 none=some (.str m.key):=by rw[e_key];exact cut_one (l_key h)
theorem ms_all:splice mz 0 (mrc m)=mrc m:=by
 unfold splice
 rw[List.drop_of_length_le (by rw[mrc_len h];exact Nat.le_refl _)]
 simp
theorem ms_any {cs:List PV} (hc:cs.length=62):splice cs 0 (mrc m)=mrc m:=by
 unfold splice
 rw[List.drop_of_length_le (by rw[mrc_len h,hc];exact Nat.le_refl _)]
 simp
theorem ms_rd {q:List UInt8} (hq:q.length=8):splice (mrc m) 1 (u8c q)=mrc { m with rd:=q }:=spl_mid rfl (by rw[u8c_len,u8c_len,h.rd,hq])
theorem ms_as {z:Int}:splice (mrc m) 9 [.int .i64 z]=mrc { m with aa:=z }:=by
 have:=@spl_mid ([PV.int .i64 m.k]++u8c m.rd) [.int .i64 m.aa] [.int .i64 z] (adc m.s++(adc m.g++(adc m.f++[.str m.key]))) 9 (l_as h) rfl
 rw[e_as,e_as (m:={ m with aa:=z })];exact this
theorem ms_s {a:Ad} (ha:okD a):splice (mrc m) 10 (adc a)=mrc { m with s:=a }:=by
 rw[e_s,e_s (m:={ m with s:=a })];exact spl_mid (l_s h) (by rw[adc_len ha,adc_len h.s])
theorem ms_g {a:Ad} (ha:okD a):splice (mrc m) 27 (adc a)=mrc { m with g:=a }:=by
 rw[e_g,e_g (m:={ m with g:=a })];exact spl_mid (l_g h) (by rw[adc_len ha,adc_len h.g])
theorem ms_f {a:Ad} (ha:okD a):splice (mrc m) 44 (adc a)=mrc { m with f:=a }:=by
 rw[e_f,e_f (m:={ m with f:=a })];exact spl_mid (l_f h) (by rw[adc_len ha,adc_len h.f])
theorem ms_key {z:List UInt8}:splice (mrc m) 61 [.str z]=mrc { m with key:=z }:=by
 have:=@spl_mid ([PV.int .i64 m.k]++(u8c m.rd++([PV.int .i64 m.aa]++(adc m.s++(adc m.g++adc m.f))))) [.str m.key] [.str z] [] 61 (l_key h) rfl
 rw[e_key,e_key (m:={ m with key:=z })];simpa using this
end
end
structure Pt where
 rd:Bool
 aa:Bool
 fl:Bool
 fr:Bool
 deriving DecidableEq
def ptc (p:Pt):List PV:=[.bool p.rd,.bool p.aa,.bool p.fl,.bool p.fr]
theorem pt_len (p:Pt):(ptc p).length=4:=rfl
theorem pt_set (p:Pt):splice [.bool false,.bool false,.bool false,.bool false] 0 (ptc p)=ptc p:=rfl
instance (p:Pt):PlL (ptc p):=by unfold ptc;infer_instance
instance (p:Pt):ClL (ptc p):=by unfold ptc;infer_instance
theorem pt_sc (p:Pt):(ptc p).all scalar=true:=rfl
def ofF (k:Int):Pt × Bool:=
 if k=1 then(⟨true,false,false,true⟩,true) else if k=2 then(⟨true,true,false,false⟩,true) else if k=3 then(⟨true,false,true,true⟩,true) else if k=4 then(⟨false,false,false,true⟩,true)
 else if k=5 then(⟨true,false,true,false⟩,true) else if k=6 then(⟨true,true,true,false⟩,true) else if k=7 then(⟨true,true,true,false⟩,true) else(⟨false,false,false,false⟩,false)
theorem kinds {k:Int} (h:(ofF k).2=true):k=1∨k=2∨k=3∨k=4∨k=5∨k=6∨k=7:=by
 unfold ofF at h
 by_cases h1:k=1<;>by_cases h2:k=2<;>by_cases h3:k=3<;>by_cases h4:k=4<;>by_cases h5:k=5<;>by_cases h6:k=6<;>by_cases h7:k=7<;>simp_all
theorem ofF_no {k:Int} (h:¬ (1≤k∧k≤7)):ofF k=(⟨false,false,false,false⟩,false):=by
 unfold ofF
 rw[if_neg (by omega),if_neg (by omega),if_neg (by omega),if_neg (by omega),if_neg (by omega),if_neg (by omega),if_neg (by omega)]
def mtab1:List (Nat × VFun):=[(169,vf169)]
theorem mtab1_ok:TabOk Tryz.prog mtab1:=TabOk.cons ⟨_,rawF,Tryz.func169,cf169⟩ TabOk.nil
theorem box60:splice (List.replicate 32 (PV.bool false)) 0 [PV.bool false,.bool false,.bool false,.bool false,.bool true,.bool false,.bool false,.bool true,.bool true,.bool true,.bool false,.bool false,.bool true,.bool false,.bool true,.bool true,.bool false,.bool false,.bool false,.bool true,.bool true,.bool false,.bool true,.bool false,.bool true,.bool true,.bool true,.bool false,.bool true,.bool true,.bool true,.bool false]=[PV.bool false,.bool false,.bool false,.bool false,.bool true,.bool false,.bool false,.bool true,.bool true,.bool true,.bool false,.bool false,.bool true,.bool false,.bool true,.bool true,.bool false,.bool false,.bool false,.bool true,.bool true,.bool false,.bool true,.bool false,.bool true,.bool true,.bool true,.bool false,.bool true,.bool true,.bool true,.bool false]:=by rfl
theorem of1:U Tryz.prog 169 [.int .i64 1] (.tup [.agg [.bool true,.bool false,.bool false,.bool true],.bool true]):=U_kernelA (tab:=mtab1) (ext:=extX) (spec:=specX) 100 20 [.int .i64 1] (.tup [.agg [.bool true,.bool false,.bool false,.bool true],.bool true]) mtab1_ok extX_ok specX_ok glob_cl (by kernel_rfl) (by kernel_rfl)
theorem of2:U Tryz.prog 169 [.int .i64 2] (.tup [.agg [.bool true,.bool true,.bool false,.bool false],.bool true]):=U_kernelA (tab:=mtab1) (ext:=extX) (spec:=specX) 100 20 [.int .i64 2] (.tup [.agg [.bool true,.bool true,.bool false,.bool false],.bool true]) mtab1_ok extX_ok specX_ok glob_cl (by kernel_rfl) (by kernel_rfl)
theorem of3:U Tryz.prog 169 [.int .i64 3] (.tup [.agg [.bool true,.bool false,.bool true,.bool true],.bool true]):=U_kernelA (tab:=mtab1) (ext:=extX) (spec:=specX) 100 20 [.int .i64 3] (.tup [.agg [.bool true,.bool false,.bool true,.bool true],.bool true]) mtab1_ok extX_ok specX_ok glob_cl (by kernel_rfl) (by kernel_rfl)
theorem of4:U Tryz.prog 169 [.int .i64 4] (.tup [.agg [.bool false,.bool false,.bool false,.bool true],.bool true]):=U_kernelA (tab:=mtab1) (ext:=extX) (spec:=specX) 100 20 [.int .i64 4] (.tup [.agg [.bool false,.bool false,.bool false,.bool true],.bool true]) mtab1_ok extX_ok specX_ok glob_cl (by kernel_rfl) (by kernel_rfl)
theorem of5:U Tryz.prog 169 [.int .i64 5] (.tup [.agg [.bool true,.bool false,.bool true,.bool false],.bool true]):=U_kernelA (tab:=mtab1) (ext:=extX) (spec:=specX) 100 20 [.int .i64 5] (.tup [.agg [.bool true,.bool false,.bool true,.bool false],.bool true]) mtab1_ok extX_ok specX_ok glob_cl (by kernel_rfl) (by kernel_rfl)
theorem of6:U Tryz.prog 169 [.int .i64 6] (.tup [.agg [.bool true,.bool true,.bool true,.bool false],.bool true]):=U_kernelA (tab:=mtab1) (ext:=extX) (spec:=specX) 100 20 [.int .i64 6] (.tup [.agg [.bool true,.bool true,.bool true,.bool false],.bool true]) mtab1_ok extX_ok specX_ok glob_cl (by kernel_rfl) (by kernel_rfl)
theorem of7:U Tryz.prog 169 [.int .i64 7] (.tup [.agg [.bool true,.bool true,.bool true,.bool false],.bool true]):=U_kernelA (tab:=mtab1) (ext:=extX) (spec:=specX) 100 20 [.int .i64 7] (.tup [.agg [.bool true,.bool true,.bool true,.bool false],.bool true]) mtab1_ok extX_ok specX_ok glob_cl (by kernel_rfl) (by kernel_rfl)
section
attribute [local irreducible] vBuild
theorem uOf {k:Int}:U Tryz.prog 169 [.int .i64 k] (.tup [.agg (ptc (ofF k).1),.bool (ofF k).2]):=by
 intro σ Post hk
 by_cases h:1≤k∧k≤7
 ·have h7:k=1∨k=2∨k=3∨k=4∨k=5∨k=6∨k=7:=by omega
  have all:U Tryz.prog 169 [.int .i64 k] (.tup [.agg (ptc (ofF k).1),.bool (ofF k).2]):=by
   rcases h7 with rfl|rfl|rfl|rfl|rfl|rfl|rfl
   ·exact of1
   ·exact of2
   ·exact of3
   ·exact of4
   ·exact of5
   ·exact of6
   ·exact of7
  exact all _ _ hk
 ·rw[ofF_no h] at hk
  have hc:k<1∨k≥8:=by omega
  clear h
  refine T169 fun hB hA=>?_
  have f1:splice [PV.bool false,.bool false,.bool false,.bool false,.bool false,.bool false,.bool false,.bool false,.bool false,.bool false,.bool false,.bool false,.bool false,.bool false,.bool false,.bool false,.bool false,.bool false,.bool false,.bool false,.bool false,.bool false,.bool false,.bool false,.bool false,.bool false,.bool false,.bool false,.bool false,.bool false,.bool false,.bool false] 4 [PV.bool true,.bool false,.bool false,.bool true]=[PV.bool false,.bool false,.bool false,.bool false,.bool true,.bool false,.bool false,.bool true,.bool false,.bool false,.bool false,.bool false,.bool false,.bool false,.bool false,.bool false,.bool false,.bool false,.bool false,.bool false,.bool false,.bool false,.bool false,.bool false,.bool false,.bool false,.bool false,.bool false,.bool false,.bool false,.bool false,.bool false]:=rfl
  have f2:splice [PV.bool false,.bool false,.bool false,.bool false,.bool true,.bool false,.bool false,.bool true,.bool false,.bool false,.bool false,.bool false,.bool false,.bool false,.bool false,.bool false,.bool false,.bool false,.bool false,.bool false,.bool false,.bool false,.bool false,.bool false,.bool false,.bool false,.bool false,.bool false,.bool false,.bool false,.bool false,.bool false] 8 [PV.bool true,.bool true,.bool false,.bool false]=[PV.bool false,.bool false,.bool false,.bool false,.bool true,.bool false,.bool false,.bool true,.bool true,.bool true,.bool false,.bool false,.bool false,.bool false,.bool false,.bool false,.bool false,.bool false,.bool false,.bool false,.bool false,.bool false,.bool false,.bool false,.bool false,.bool false,.bool false,.bool false,.bool false,.bool false,.bool false,.bool false]:=rfl
  have f3:splice [PV.bool false,.bool false,.bool false,.bool false,.bool true,.bool false,.bool false,.bool true,.bool true,.bool true,.bool false,.bool false,.bool false,.bool false,.bool false,.bool false,.bool false,.bool false,.bool false,.bool false,.bool false,.bool false,.bool false,.bool false,.bool false,.bool false,.bool false,.bool false,.bool false,.bool false,.bool false,.bool false] 12 [PV.bool true,.bool false,.bool true,.bool true]=[PV.bool false,.bool false,.bool false,.bool false,.bool true,.bool false,.bool false,.bool true,.bool true,.bool true,.bool false,.bool false,.bool true,.bool false,.bool true,.bool true,.bool false,.bool false,.bool false,.bool false,.bool false,.bool false,.bool false,.bool false,.bool false,.bool false,.bool false,.bool false,.bool false,.bool false,.bool false,.bool false]:=rfl
  have f4:splice [PV.bool false,.bool false,.bool false,.bool false,.bool true,.bool false,.bool false,.bool true,.bool true,.bool true,.bool false,.bool false,.bool true,.bool false,.bool true,.bool true,.bool false,.bool false,.bool false,.bool false,.bool false,.bool false,.bool false,.bool false,.bool false,.bool false,.bool false,.bool false,.bool false,.bool false,.bool false,.bool false] 16 [PV.bool false,.bool false,.bool false,.bool true]=[PV.bool false,.bool false,.bool false,.bool false,.bool true,.bool false,.bool false,.bool true,.bool true,.bool true,.bool false,.bool false,.bool true,.bool false,.bool true,.bool true,.bool false,.bool false,.bool false,.bool true,.bool false,.bool false,.bool false,.bool false,.bool false,.bool false,.bool false,.bool false,.bool false,.bool false,.bool false,.bool false]:=rfl
  have f5:splice [PV.bool false,.bool false,.bool false,.bool false,.bool true,.bool false,.bool false,.bool true,.bool true,.bool true,.bool false,.bool false,.bool true,.bool false,.bool true,.bool true,.bool false,.bool false,.bool false,.bool true,.bool false,.bool false,.bool false,.bool false,.bool false,.bool false,.bool false,.bool false,.bool false,.bool false,.bool false,.bool false] 20 [PV.bool true,.bool false,.bool true,.bool false]=[PV.bool false,.bool false,.bool false,.bool false,.bool true,.bool false,.bool false,.bool true,.bool true,.bool true,.bool false,.bool false,.bool true,.bool false,.bool true,.bool true,.bool false,.bool false,.bool false,.bool true,.bool true,.bool false,.bool true,.bool false,.bool false,.bool false,.bool false,.bool false,.bool false,.bool false,.bool false,.bool false]:=rfl
  have f6:splice [PV.bool false,.bool false,.bool false,.bool false,.bool true,.bool false,.bool false,.bool true,.bool true,.bool true,.bool false,.bool false,.bool true,.bool false,.bool true,.bool true,.bool false,.bool false,.bool false,.bool true,.bool true,.bool false,.bool true,.bool false,.bool false,.bool false,.bool false,.bool false,.bool false,.bool false,.bool false,.bool false] 24 [PV.bool true,.bool true,.bool true,.bool false]=[PV.bool false,.bool false,.bool false,.bool false,.bool true,.bool false,.bool false,.bool true,.bool true,.bool true,.bool false,.bool false,.bool true,.bool false,.bool true,.bool true,.bool false,.bool false,.bool false,.bool true,.bool true,.bool false,.bool true,.bool false,.bool true,.bool true,.bool true,.bool false,.bool false,.bool false,.bool false,.bool false]:=rfl
  have f7:splice [PV.bool false,.bool false,.bool false,.bool false,.bool true,.bool false,.bool false,.bool true,.bool true,.bool true,.bool false,.bool false,.bool true,.bool false,.bool true,.bool true,.bool false,.bool false,.bool false,.bool true,.bool true,.bool false,.bool true,.bool false,.bool true,.bool true,.bool true,.bool false,.bool false,.bool false,.bool false,.bool false] 28 [PV.bool true,.bool true,.bool true,.bool false]=[PV.bool false,.bool false,.bool false,.bool false,.bool true,.bool false,.bool false,.bool true,.bool true,.bool true,.bool false,.bool false,.bool true,.bool false,.bool true,.bool true,.bool false,.bool false,.bool false,.bool true,.bool true,.bool false,.bool true,.bool false,.bool true,.bool true,.bool true,.bool false,.bool true,.bool true,.bool true,.bool false]:=rfl
  have f8:=box60
  have f9:splice [PV.bool false,.bool false,.bool false,.bool false,.bool false,.bool false,.bool false,.bool false,.bool false,.bool false,.bool false,.bool false,.bool false,.bool false,.bool false,.bool false,.bool false,.bool false,.bool false,.bool false,.bool false,.bool false,.bool false,.bool false,.bool false,.bool false,.bool false,.bool false,.bool false,.bool false,.bool false,.bool false] 0 [PV.bool false,.bool false,.bool false,.bool false,.bool true,.bool false,.bool false,.bool true,.bool true,.bool true,.bool false,.bool false,.bool true,.bool false,.bool true,.bool true,.bool false,.bool false,.bool false,.bool true,.bool true,.bool false,.bool true,.bool false,.bool true,.bool true,.bool true,.bool false,.bool true,.bool true,.bool true,.bool false]=[PV.bool false,.bool false,.bool false,.bool false,.bool true,.bool false,.bool false,.bool true,.bool true,.bool true,.bool false,.bool false,.bool true,.bool false,.bool true,.bool true,.bool false,.bool false,.bool false,.bool true,.bool true,.bool false,.bool true,.bool false,.bool true,.bool true,.bool true,.bool false,.bool true,.bool true,.bool true,.bool false]:=box60
  have z0:splice [.bool false,.bool false,.bool false,.bool false] 0 [.bool false,.bool false,.bool false,.bool false]=ptc ⟨false,false,false,false⟩:=rfl
  have z1:cut (ptc ⟨false,false,false,false⟩) 0 (some 4)=some (.agg (ptc ⟨false,false,false,false⟩)):=rfl
  have z2:(ptc ⟨false,false,false,false⟩).length=4:=rfl
  by_cases h1:k<1
  ·clear hc
   refine W ?_
   exact hk
  ·have h8:k≥8:=by omega
   clear hc
   refine W ?_
   exact hk
end
def bareF (m:Mr) (p:Pt):Mr:=⟨m.k,if p.rd then m.rd else z8,if p.aa then m.aa else 0,if p.fl then m.s else ad0,if p.fl then m.g else ad0,if p.fr then m.f else ad0,if m.k=4 then m.key else[]⟩
theorem bareF_ok {m:Mr} (h:okM m) (p:Pt):okM (bareF m p):=by
 unfold bareF
 constructor
 ·show (if p.rd then m.rd else z8).length=8
  split
  ·exact h.rd
  ·rfl
 ·show okD (if p.fl then m.s else ad0)
  split
  ·exact h.s
  ·rfl
 ·show okD (if p.fl then m.g else ad0)
  split
  ·exact h.g
  ·rfl
 ·show okD (if p.fr then m.f else ad0)
  split
  ·exact h.f
  ·rfl
end Go.Proofs.YtdpeaefgbmkegaaGreatDoor
namespace Go.Proofs.YtdpeaefgbmkegaaGreatDoor
open Go Go.V
set_option maxRecDepth 10000
theorem mz_k (k:Int):splice [.int .i64 0,D.o,D.o,D.o,D.o,D.o,D.o,D.o,D.o,.int .i64 0,.int .i64 0,D.o,D.o,D.o,D.o,D.o,D.o,D.o,D.o,D.o,D.o,D.o,D.o,D.o,D.o,D.o,D.o,.int .i64 0,D.o,D.o,D.o,D.o,D.o,D.o,D.o,D.o,D.o,D.o,D.o,D.o,D.o,D.o,D.o,D.o,.int .i64 0,D.o,D.o,D.o,D.o,D.o,D.o,D.o,D.o,D.o,D.o,D.o,D.o,D.o,D.o,D.o,D.o,.str []] 0 [.int .i64 k]=mrc { mr0 with k:=k }:=rfl
theorem mz_st {m:Mr} (h:okM m):splice [.int .i64 0,D.o,D.o,D.o,D.o,D.o,D.o,D.o,D.o,.int .i64 0,.int .i64 0,D.o,D.o,D.o,D.o,D.o,D.o,D.o,D.o,D.o,D.o,D.o,D.o,D.o,D.o,D.o,D.o,.int .i64 0,D.o,D.o,D.o,D.o,D.o,D.o,D.o,D.o,D.o,D.o,D.o,D.o,D.o,D.o,D.o,D.o,.int .i64 0,D.o,D.o,D.o,D.o,D.o,D.o,D.o,D.o,D.o,D.o,D.o,D.o,D.o,D.o,D.o,D.o,.str []] 0 (mrc m)=mrc m:=ms_all h
def bk (k:Int):Mr:={ mr0 with k:=k }
attribute [local irreducible] vBuild
theorem uBare {m:Mr} (h:okM m) (hk:(ofF m.k).2=true):U Tryz.prog 217 [.agg (mrc m),.agg (ptc (ofF m.k).1)] (.agg (mrc (bareF m (ofF m.k).1))):=by
 intro σ Post hp
 have sc:=mrc_sc (m:=m)
 have ln:=mrc_len h
 have c1:=mc_rd h
 have c2:=mc_as h
 have c3:=mc_s h
 have c4:=mc_g h
 have c5:=mc_f h
 have c6:=mc_key h
 have c7:cut (mrc m) 0 none=some (.int .i64 m.k):=rfl
 have k7:=kinds hk
 have d0:=mz_k m.k
 -- the box that is filled
 let b0:Mr:={ mr0 with k:=m.k }
 have o0:okM b0:=⟨rfl,rfl,rfl,rfl⟩
 have key:∀ {p:Pt},(ofF m.k).1=p→T Tryz.prog 217 [.agg (mrc m),.agg (ptc p)] σ Post:=by
  intro p hpp
  rw[hpp] at hp
  let b1:Mr:=if p.rd then { b0 with rd:=m.rd } else b0
  let b2:Mr:=if p.aa then { b1 with aa:=m.aa } else b1
  let b3:Mr:=if p.fl then { b2 with s:=m.s,g:=m.g } else b2
  let b4:Mr:=if p.fr then { b3 with f:=m.f } else b3
  let b5:Mr:=if m.k=4 then { b4 with key:=m.key } else b4
  have e5:b5=bareF m p:=by
   simp only[b5,b4,b3,b2,b1,b0,bareF,mr0]
   cases p with
   | mk a b c d=>cases a<;>cases b<;>cases c<;>cases d<;>by_cases h4:m.k=4<;>simp[h4]
  have o1:okM b1:=by simp only[b1];split;exact⟨h.rd,rfl,rfl,rfl⟩;exact o0
  have o2:okM b2:=by simp only[b2];split;exact⟨o1.rd,o1.s,o1.g,o1.f⟩;exact o1
  have o3:okM b3:=by simp only[b3];split;exact⟨o2.rd,h.s,h.g,o2.f⟩;exact o2
  have o4:okM b4:=by simp only[b4];split;exact⟨o3.rd,o3.s,o3.g,h.f⟩;exact o3
  have o5:okM b5:=by simp only[b5];split;exact⟨o4.rd,o4.s,o4.g,o4.f⟩;exact o4
  rw[← e5] at hp
  have n1:b1=if p.rd then { b0 with rd:=m.rd } else b0:=rfl
  have n2:b2=if p.aa then { b1 with aa:=m.aa } else b1:=rfl
  have n3:b3=if p.fl then { b2 with s:=m.s,g:=m.g } else b2:=rfl
  have n4:b4=if p.fr then { b3 with f:=m.f } else b3:=rfl
  have n5:b5=if m.k=4 then { b4 with key:=m.key } else b4:=rfl
  have n0:({ mr0 with k:=m.k }:Mr)=b0:=rfl
  rw[n0] at d0
  clear_value b5
  clear_value b4
  clear_value b3
  clear_value b2
  clear_value b1
  clear_value b0
  have q1:cut (ptc p) 0 none=some (.bool p.rd):=rfl
  have q2:cut (ptc p) 1 none=some (.bool p.aa):=rfl
  have q3:cut (ptc p) 2 none=some (.bool p.fl):=rfl
  have q4:cut (ptc p) 3 none=some (.bool p.fr):=rfl
  have sb0:=mrc_sc (m:=b0)
  have w0:=mz_st o0
  have rl:(u8c m.rd).length=8:=by rw[u8c_len,h.rd]
  have rs:=u8c_sc m.rd
  have i0:=mrc_len o0
  have i1:=mrc_len o1
  have i2:=mrc_len o2
  have i3:=mrc_len o3
  have i4:=mrc_len o4
  have i5:=mrc_len o5
  have r5:=mrc_all o5
  have s5:=mrc_sc (m:=b5)
  have w1:=ms_rd o0 h.rd
  have w2:=ms_as (z:=m.aa) o1
  have w3:=ms_s o2 h.s
  have w3':=ms_g (m:={ b2 with s:=m.s }) ⟨o2.rd,h.s,o2.g,o2.f⟩ h.g
  have w4:=ms_f o3 h.f
  have w5:=ms_key (z:=m.key) o4
  have w6:=mz_st o5
  refine T217 fun hB hA=>?_
  let Inv:Mr→Env→VHeap→Prop:=fun b e s=>(∃ g,e 2=.ptr (σ.length+0) g 0∧g=1)∧(∃ g,e 3=.ptr (σ.length+1) g 0∧g=1)∧(∃ g,e 4=.ptr (σ.length+2) g 0∧g=1)∧(∃ g,e 5=.ptr (σ.length+3) g 0∧g=1)∧
   s=σ++[(1,.box (mrc m) false),(1,.box (ptc p) false),(1,.box mz false),(1,.box (mrc b) false)]
  refine cutp (fun e s=>(∃ g,e 2=.ptr (σ.length+0) g 0∧g=1)∧(∃ g,e 3=.ptr (σ.length+1) g 0∧g=1)∧(∃ g,e 4=.ptr (σ.length+2) g 0∧g=1)∧s=σ++[(1,.box (mrc m) false),(1,.box (ptc p) false),(1,.box mz false),(0,.dead)]) ?_ ?_
  ·refine W ?_
   exact⟨⟨1,rfl,rfl⟩,⟨1,rfl,rfl⟩,⟨1,rfl,rfl⟩,rfl⟩
  rintro u _ ⟨⟨_,e2,rfl⟩,⟨_,e3,rfl⟩,⟨_,e4,rfl⟩,rfl⟩
  refine cutp (Inv b0) ?_ ?_
  ·refine W ?_
   exact⟨⟨1,e2,rfl⟩,⟨1,e3,rfl⟩,⟨1,e4,rfl⟩,⟨1,rfl,rfl⟩,rfl⟩
  clear e2 e3 e4
  rintro u _ ⟨⟨_,e2,rfl⟩,⟨_,e3,rfl⟩,⟨_,e4,rfl⟩,⟨_,e5,rfl⟩,rfl⟩
  refine cutp (Inv b1) ?_ ?_
  ·cases hq:p.rd with
   | true=>
     rw[hq] at q1
     rw[hq,if_pos rfl] at n1
     rw[← n1] at w1
     refine W ?_
     exact⟨⟨1,e2,rfl⟩,⟨1,e3,rfl⟩,⟨1,e4,rfl⟩,⟨1,e5,rfl⟩,rfl⟩
   | false=>
     rw[hq] at q1
     rw[hq,if_neg (by simp)] at n1
     refine W ?_
     rw[n1]
     exact⟨⟨1,e2,rfl⟩,⟨1,e3,rfl⟩,⟨1,e4,rfl⟩,⟨1,e5,rfl⟩,rfl⟩
  clear e2 e3 e4 e5
  rintro u _ ⟨⟨_,e2,rfl⟩,⟨_,e3,rfl⟩,⟨_,e4,rfl⟩,⟨_,e5,rfl⟩,rfl⟩
  refine cutp (Inv b2) ?_ ?_
  ·cases hq:p.aa with
   | true=>
     rw[hq] at q2
     rw[hq,if_pos rfl] at n2
     rw[← n2] at w2
     refine W ?_
     exact⟨⟨1,e2,rfl⟩,⟨1,e3,rfl⟩,⟨1,e4,rfl⟩,⟨1,e5,rfl⟩,rfl⟩
   | false=>
     rw[hq] at q2
     rw[hq,if_neg (by simp)] at n2
     refine W ?_
     rw[n2]
     exact⟨⟨1,e2,rfl⟩,⟨1,e3,rfl⟩,⟨1,e4,rfl⟩,⟨1,e5,rfl⟩,rfl⟩
  clear e2 e3 e4 e5
  rintro u _ ⟨⟨_,e2,rfl⟩,⟨_,e3,rfl⟩,⟨_,e4,rfl⟩,⟨_,e5,rfl⟩,rfl⟩
  refine cutp (Inv b3) ?_ ?_
  ·cases hq:p.fl with
   | true=>
     rw[hq] at q3
     rw[hq,if_pos rfl] at n3
     rw[← n3] at w3'
     have as1:=adc_len h.s
     have as2:=adc_len h.g
     have as3:=adc_sc (a:=m.s)
     have as4:=adc_sc (a:=m.g)
     have as5:=mrc_len (m:={ b2 with s:=m.s }) ⟨o2.rd,h.s,o2.g,o2.f⟩
     refine Wo ?_
     refine drJ (fun h'=>vGet h' (σ.length+0) 1=some (.box (mrc m) false)) [(1,0),(1,1),(2,2),(2,3),(1,4),(0,5),(1,6),(0,7)] (by kernel_rfl) (by kernel_rfl) (by exact z_ol) (lget rfl rfl) ?_
     refine Wo ?_
     refine sv_0 ?_
     refine est (by exact z_ea) ?_
     refine st_end ⟨lget rfl rfl,?_⟩
     refine Wo ?_
     refine sv_0 ?_
     refine est (by exact z_ea) ?_
     refine st_end ⟨lget rfl rfl,?_⟩
     refine Wo ?_
     exact⟨⟨1,e2,rfl⟩,⟨1,e3,rfl⟩,⟨1,e4,rfl⟩,⟨1,e5,rfl⟩,rfl⟩
   | false=>
     rw[hq] at q3
     rw[hq,if_neg (by simp)] at n3
     refine W ?_
     rw[n3]
     exact⟨⟨1,e2,rfl⟩,⟨1,e3,rfl⟩,⟨1,e4,rfl⟩,⟨1,e5,rfl⟩,rfl⟩
  clear e2 e3 e4 e5
  rintro u _ ⟨⟨_,e2,rfl⟩,⟨_,e3,rfl⟩,⟨_,e4,rfl⟩,⟨_,e5,rfl⟩,rfl⟩
  refine cutp (Inv b4) ?_ ?_
  ·cases hq:p.fr with
   | true=>
     rw[hq] at q4
     rw[hq,if_pos rfl] at n4
     rw[← n4] at w4
     have as2:=adc_len h.f
     have as4:=adc_sc (a:=m.f)
     refine W ?_
     exact⟨⟨1,e2,rfl⟩,⟨1,e3,rfl⟩,⟨1,e4,rfl⟩,⟨1,e5,rfl⟩,rfl⟩
   | false=>
     rw[hq] at q4
     rw[hq,if_neg (by simp)] at n4
     refine W ?_
     rw[n4]
     exact⟨⟨1,e2,rfl⟩,⟨1,e3,rfl⟩,⟨1,e4,rfl⟩,⟨1,e5,rfl⟩,rfl⟩
  clear e2 e3 e4 e5
  rintro u _ ⟨⟨_,e2,rfl⟩,⟨_,e3,rfl⟩,⟨_,e4,rfl⟩,⟨_,e5,rfl⟩,rfl⟩
  refine cutp (Inv b5) ?_ ?_
  ·by_cases h4:m.k=4
   ·rw[if_pos h4] at n5
    rw[← n5] at w5
    refine W ?_
    exact⟨⟨1,e2,rfl⟩,⟨1,e3,rfl⟩,⟨1,e4,rfl⟩,⟨1,e5,rfl⟩,rfl⟩
   ·rw[if_neg h4] at n5
    refine W ?_
    rw[n5]
    exact⟨⟨1,e2,rfl⟩,⟨1,e3,rfl⟩,⟨1,e4,rfl⟩,⟨1,e5,rfl⟩,rfl⟩
  clear e2 e3 e4 e5
  rintro u _ ⟨⟨_,e2,rfl⟩,⟨_,e3,rfl⟩,⟨_,e4,rfl⟩,⟨_,e5,rfl⟩,rfl⟩
  have mzl:mz.length=62:=rfl
  have w7:splice mz 0 (mrc b5)=mrc b5:=ms_all o5
  refine W ?_
  exact hp
 exact key rfl
end Go.Proofs.YtdpeaefgbmkegaaGreatDoor
