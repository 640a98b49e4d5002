/- umh: cells; addr.Has, community.Import, Own, Here. -/
import Derived.Test.YtdpeaefgbmkegaaGreatDoorHU
import Derived.Test.YtdpeaefgbmkegaaGreatDoorFE
set_option maxHeartbeats 16000000
namespace Go.Proofs.YtdpeaefgbmkegaaGreatDoor
open Go Go.V
set_option maxRecDepth 10000
set_option linter.unusedVariables false
structure Pf where
 a:Ad
 bits:Int
def pfC (x:Pf):List PV:=adc x.a++([.int .i64 x.bits])
instance (x:Pf):PlL (pfC x):=by unfold pfC;infer_instance
instance (x:Pf):ClL (pfC x):=by unfold pfC;infer_instance
structure okPf (x:Pf):Prop where
 a:okD x.a
def pf0:Pf:=⟨ad0,0⟩
section
variable {x:Pf}
theorem pfC_sc:(pfC x).all scalar=true:=by
 unfold pfC
 simp only[List.all_append,adc_sc,List.all_cons,List.all_nil,scalar,Bool.and_self]
theorem pfC_len (h:okPf x):(pfC x).length=18:=by
 unfold pfC
 simp only[List.length_append,List.length_cons,List.length_nil,(adc_len h.a)]
theorem pfC_all (h:okPf x):cut (pfC x) 0 (some 18)=some (.agg (pfC x)):=cut_hd0 (pfC_len h)
theorem pfC_any (h:okPf x) {cs:List PV} (hc:cs.length=18):splice cs 0 (pfC x)=pfC x:=spl_hd0 (by rw[hc,pfC_len h])
theorem pfC_ga (h:okPf x):cut (pfC x) 0 (some 17)=some (.agg (adc x.a)):=cut_hd (adc_len h.a)
theorem pfC_sa (h:okPf x) {v:Ad} (hv:okD v):splice (pfC x) 0 (adc v)=pfC { x with a:=v }:=spl_hd (by rw[adc_len hv,adc_len h.a])
theorem pfC_gbits (h:okPf x):cut (pfC x) 17 none=some (.int .i64 x.bits):=cut_sk (o:=0) (adc_len h.a) rfl (rfl)
theorem pfC_sbits (h:okPf x) {v:Int}:splice (pfC x) 17 [.int .i64 v]=pfC { x with bits:=v }:=spl_sk (o:=0) (adc_len h.a) rfl (spl_hd0 rfl)
end
structure Lc where
 vrf:List UInt8
 pf:Pf
 label:Int
def lcC (x:Lc):List PV:=[.str x.vrf]++(pfC x.pf++([.int .i64 x.label]))
instance (x:Lc):PlL (lcC x):=by unfold lcC;infer_instance
instance (x:Lc):ClL (lcC x):=by unfold lcC;infer_instance
structure okLc (x:Lc):Prop where
 pf:okPf x.pf
def lc0:Lc:=⟨[],pf0,0⟩
section
variable {x:Lc}
theorem lcC_sc:(lcC x).all scalar=true:=by
 unfold lcC
 simp only[List.all_append,pfC_sc,List.all_cons,List.all_nil,scalar,Bool.and_self]
theorem lcC_len (h:okLc x):(lcC x).length=20:=by
 unfold lcC
 simp only[List.length_append,List.length_cons,List.length_nil,(pfC_len h.pf)]
theorem lcC_all (h:okLc x):cut (lcC x) 0 (some 20)=some (.agg (lcC x)):=cut_hd0 (lcC_len h)
theorem lcC_any (h:okLc x) {cs:List PV} (hc:cs.length=20):splice cs 0 (lcC x)=lcC x:=spl_hd0 (by rw[hc,lcC_len h])
theorem lcC_gvrf (h:okLc x):cut (lcC x) 0 none=some (.str x.vrf):=rfl
theorem lcC_svrf (h:okLc x) {v:List UInt8}:splice (lcC x) 0 [.str v]=lcC { x with vrf:=v }:=spl_hd rfl
theorem lcC_gpf (h:okLc x):cut (lcC x) 1 (some 18)=some (.agg (pfC x.pf)):=cut_sk (o:=0) rfl rfl (cut_hd (pfC_len h.pf))
theorem lcC_spf (h:okLc x) {v:Pf} (hv:okPf v):splice (lcC x) 1 (pfC v)=lcC { x with pf:=v }:=spl_sk (o:=0) rfl rfl (spl_hd (by rw[pfC_len hv,pfC_len h.pf]))
theorem lcC_glabel (h:okLc x):cut (lcC x) 19 none=some (.int .i64 x.label):=cut_sk (o:=18) rfl rfl (cut_sk (o:=0) (pfC_len h.pf) rfl (rfl))
theorem lcC_slabel (h:okLc x) {v:Int}:splice (lcC x) 19 [.int .i64 v]=lcC { x with label:=v }:=spl_sk (o:=18) rfl rfl (spl_sk (o:=0) (pfC_len h.pf) rfl (spl_hd0 rfl))
end
structure Fl where
 vrf:List UInt8
 src:Ad
 grp:Ad
def flC (x:Fl):List PV:=[.str x.vrf]++(adc x.src++(adc x.grp))
instance (x:Fl):PlL (flC x):=by unfold flC;infer_instance
instance (x:Fl):ClL (flC x):=by unfold flC;infer_instance
structure okFl (x:Fl):Prop where
 src:okD x.src
 grp:okD x.grp
def fl0:Fl:=⟨[],ad0,ad0⟩
section
variable {x:Fl}
theorem flC_sc:(flC x).all scalar=true:=by
 unfold flC
 simp only[List.all_append,adc_sc,List.all_cons,List.all_nil,scalar,Bool.and_self]
theorem flC_len (h:okFl x):(flC x).length=35:=by
 unfold flC
 simp only[List.length_append,List.length_cons,List.length_nil,(adc_len h.src),(adc_len h.grp)]
theorem flC_all (h:okFl x):cut (flC x) 0 (some 35)=some (.agg (flC x)):=cut_hd0 (flC_len h)
theorem flC_any (h:okFl x) {cs:List PV} (hc:cs.length=35):splice cs 0 (flC x)=flC x:=spl_hd0 (by rw[hc,flC_len h])
theorem flC_gvrf (h:okFl x):cut (flC x) 0 none=some (.str x.vrf):=rfl
theorem flC_svrf (h:okFl x) {v:List UInt8}:splice (flC x) 0 [.str v]=flC { x with vrf:=v }:=spl_hd rfl
theorem flC_gsrc (h:okFl x):cut (flC x) 1 (some 17)=some (.agg (adc x.src)):=cut_sk (o:=0) rfl rfl (cut_hd (adc_len h.src))
theorem flC_ssrc (h:okFl x) {v:Ad} (hv:okD v):splice (flC x) 1 (adc v)=flC { x with src:=v }:=spl_sk (o:=0) rfl rfl (spl_hd (by rw[adc_len hv,adc_len h.src]))
theorem flC_ggrp (h:okFl x):cut (flC x) 18 (some 17)=some (.agg (adc x.grp)):=cut_sk (o:=17) rfl rfl (cut_sk (o:=0) (adc_len h.src) rfl (cut_hd0 (adc_len h.grp)))
theorem flC_sgrp (h:okFl x) {v:Ad} (hv:okD v):splice (flC x) 18 (adc v)=flC { x with grp:=v }:=spl_sk (o:=17) rfl rfl (spl_sk (o:=0) (adc_len h.src) rfl (spl_hd0 (by rw[adc_len hv,adc_len h.grp])))
end
structure Jn where
 vrf:List UInt8
 ifc:List UInt8
 src:Ad
 grp:Ad
def jnC (x:Jn):List PV:=[.str x.vrf]++([.str x.ifc]++(adc x.src++(adc x.grp)))
instance (x:Jn):PlL (jnC x):=by unfold jnC;infer_instance
instance (x:Jn):ClL (jnC x):=by unfold jnC;infer_instance
structure okJn (x:Jn):Prop where
 src:okD x.src
 grp:okD x.grp
def jn0:Jn:=⟨[],[],ad0,ad0⟩
section
variable {x:Jn}
theorem jnC_sc:(jnC x).all scalar=true:=by
 unfold jnC
 simp only[List.all_append,adc_sc,List.all_cons,List.all_nil,scalar,Bool.and_self]
theorem jnC_len (h:okJn x):(jnC x).length=36:=by
 unfold jnC
 simp only[List.length_append,List.length_cons,List.length_nil,(adc_len h.src),(adc_len h.grp)]
theorem jnC_all (h:okJn x):cut (jnC x) 0 (some 36)=some (.agg (jnC x)):=cut_hd0 (jnC_len h)
theorem jnC_any (h:okJn x) {cs:List PV} (hc:cs.length=36):splice cs 0 (jnC x)=jnC x:=spl_hd0 (by rw[hc,jnC_len h])
theorem jnC_gvrf (h:okJn x):cut (jnC x) 0 none=some (.str x.vrf):=rfl
theorem jnC_svrf (h:okJn x) {v:List UInt8}:splice (jnC x) 0 [.str v]=jnC { x with vrf:=v }:=spl_hd rfl
theorem jnC_gifc (h:okJn x):cut (jnC x) 1 none=some (.str x.ifc):=cut_sk (o:=0) rfl rfl (rfl)
theorem jnC_sifc (h:okJn x) {v:List UInt8}:splice (jnC x) 1 [.str v]=jnC { x with ifc:=v }:=spl_sk (o:=0) rfl rfl (spl_hd rfl)
theorem jnC_gsrc (h:okJn x):cut (jnC x) 2 (some 17)=some (.agg (adc x.src)):=cut_sk (o:=1) rfl rfl (cut_sk (o:=0) rfl rfl (cut_hd (adc_len h.src)))
theorem jnC_ssrc (h:okJn x) {v:Ad} (hv:okD v):splice (jnC x) 2 (adc v)=jnC { x with src:=v }:=spl_sk (o:=1) rfl rfl (spl_sk (o:=0) rfl rfl (spl_hd (by rw[adc_len hv,adc_len h.src])))
theorem jnC_ggrp (h:okJn x):cut (jnC x) 19 (some 17)=some (.agg (adc x.grp)):=cut_sk (o:=18) rfl rfl (cut_sk (o:=17) rfl rfl (cut_sk (o:=0) (adc_len h.src) rfl (cut_hd0 (adc_len h.grp))))
theorem jnC_sgrp (h:okJn x) {v:Ad} (hv:okD v):splice (jnC x) 19 (adc v)=jnC { x with grp:=v }:=spl_sk (o:=18) rfl rfl (spl_sk (o:=17) rfl rfl (spl_sk (o:=0) (adc_len h.src) rfl (spl_hd0 (by rw[adc_len hv,adc_len h.grp]))))
end
structure Si where
 pe:Ad
 asn:Int
 vrfs:List Vr
 locs:List Lc
 acts:List Fl
 joins:List Jn
 lrn:List Rt
def siC (x:Si):List PV:=adc x.pe++([.int .i64 x.asn]++([.sl (x.vrfs.map vrC)]++([.sl (x.locs.map lcC)]++([.sl (x.acts.map flC)]++([.sl (x.joins.map jnC)]++([.sl (x.lrn.map rtC)]))))))
instance (x:Si):PlL (siC x):=by unfold siC;infer_instance
instance (x:Si):ClL (siC x):=by unfold siC;infer_instance
structure okSi (x:Si):Prop where
 pe:okD x.pe
def si0:Si:=⟨ad0,0,[],[],[],[],[]⟩
section
variable {x:Si}
theorem siC_sc:(siC x).all scalar=true:=by
 unfold siC
 simp only[List.all_append,adc_sc,List.all_cons,List.all_nil,scalar,Bool.and_self]
theorem siC_len (h:okSi x):(siC x).length=23:=by
 unfold siC
 simp only[List.length_append,List.length_cons,List.length_nil,(adc_len h.pe)]
theorem siC_all (h:okSi x):cut (siC x) 0 (some 23)=some (.agg (siC x)):=cut_hd0 (siC_len h)
theorem siC_any (h:okSi x) {cs:List PV} (hc:cs.length=23):splice cs 0 (siC x)=siC x:=spl_hd0 (by rw[hc,siC_len h])
theorem siC_gpe (h:okSi x):cut (siC x) 0 (some 17)=some (.agg (adc x.pe)):=cut_hd (adc_len h.pe)
theorem siC_spe (h:okSi x) {v:Ad} (hv:okD v):splice (siC x) 0 (adc v)=siC { x with pe:=v }:=spl_hd (by rw[adc_len hv,adc_len h.pe])
theorem siC_gasn (h:okSi x):cut (siC x) 17 none=some (.int .i64 x.asn):=cut_sk (o:=0) (adc_len h.pe) rfl (rfl)
theorem siC_sasn (h:okSi x) {v:Int}:splice (siC x) 17 [.int .i64 v]=siC { x with asn:=v }:=spl_sk (o:=0) (adc_len h.pe) rfl (spl_hd rfl)
theorem siC_gvrfs (h:okSi x):cut (siC x) 18 none=some (.sl (x.vrfs.map vrC)):=cut_sk (o:=1) (adc_len h.pe) rfl (cut_sk (o:=0) rfl rfl (rfl))
theorem siC_svrfs (h:okSi x) {v:List Vr}:splice (siC x) 18 [.sl (v.map vrC)]=siC { x with vrfs:=v }:=spl_sk (o:=1) (adc_len h.pe) rfl (spl_sk (o:=0) rfl rfl (spl_hd rfl))
theorem siC_glocs (h:okSi x):cut (siC x) 19 none=some (.sl (x.locs.map lcC)):=cut_sk (o:=2) (adc_len h.pe) rfl (cut_sk (o:=1) rfl rfl (cut_sk (o:=0) rfl rfl (rfl)))
theorem siC_slocs (h:okSi x) {v:List Lc}:splice (siC x) 19 [.sl (v.map lcC)]=siC { x with locs:=v }:=spl_sk (o:=2) (adc_len h.pe) rfl (spl_sk (o:=1) rfl rfl (spl_sk (o:=0) rfl rfl (spl_hd rfl)))
theorem siC_gacts (h:okSi x):cut (siC x) 20 none=some (.sl (x.acts.map flC)):=cut_sk (o:=3) (adc_len h.pe) rfl (cut_sk (o:=2) rfl rfl (cut_sk (o:=1) rfl rfl (cut_sk (o:=0) rfl rfl (rfl))))
theorem siC_sacts (h:okSi x) {v:List Fl}:splice (siC x) 20 [.sl (v.map flC)]=siC { x with acts:=v }:=spl_sk (o:=3) (adc_len h.pe) rfl (spl_sk (o:=2) rfl rfl (spl_sk (o:=1) rfl rfl (spl_sk (o:=0) rfl rfl (spl_hd rfl))))
theorem siC_gjoins (h:okSi x):cut (siC x) 21 none=some (.sl (x.joins.map jnC)):=cut_sk (o:=4) (adc_len h.pe) rfl (cut_sk (o:=3) rfl rfl (cut_sk (o:=2) rfl rfl (cut_sk (o:=1) rfl rfl (cut_sk (o:=0) rfl rfl (rfl)))))
theorem siC_sjoins (h:okSi x) {v:List Jn}:splice (siC x) 21 [.sl (v.map jnC)]=siC { x with joins:=v }:=spl_sk (o:=4) (adc_len h.pe) rfl (spl_sk (o:=3) rfl rfl (spl_sk (o:=2) rfl rfl (spl_sk (o:=1) rfl rfl (spl_sk (o:=0) rfl rfl (spl_hd rfl)))))
theorem siC_glrn (h:okSi x):cut (siC x) 22 none=some (.sl (x.lrn.map rtC)):=cut_sk (o:=5) (adc_len h.pe) rfl (cut_sk (o:=4) rfl rfl (cut_sk (o:=3) rfl rfl (cut_sk (o:=2) rfl rfl (cut_sk (o:=1) rfl rfl (cut_sk (o:=0) rfl rfl (rfl))))))
theorem siC_slrn (h:okSi x) {v:List Rt}:splice (siC x) 22 [.sl (v.map rtC)]=siC { x with lrn:=v }:=spl_sk (o:=5) (adc_len h.pe) rfl (spl_sk (o:=4) rfl rfl (spl_sk (o:=3) rfl rfl (spl_sk (o:=2) rfl rfl (spl_sk (o:=1) rfl rfl (spl_sk (o:=0) rfl rfl (spl_hd0 rfl))))))
end
structure Us where
 pe:Ad
 imp:List UInt8
 asn:Int
 rd:List UInt8
def usC (x:Us):List PV:=adc x.pe++(u8c x.imp++([.int .i64 x.asn]++(u8c x.rd)))
instance (x:Us):PlL (usC x):=by unfold usC;infer_instance
instance (x:Us):ClL (usC x):=by unfold usC;infer_instance
structure okUs (x:Us):Prop where
 pe:okD x.pe
 imp:ok8 x.imp
 rd:ok8 x.rd
def us0:Us:=⟨ad0,[0,0,0,0,0,0,0,0],0,[0,0,0,0,0,0,0,0]⟩
section
variable {x:Us}
theorem usC_sc:(usC x).all scalar=true:=by
 unfold usC
 simp only[List.all_append,adc_sc,u8c_sc x.imp,u8c_sc x.rd,List.all_cons,List.all_nil,scalar,Bool.and_self]
theorem usC_len (h:okUs x):(usC x).length=34:=by
 unfold usC
 simp only[List.length_append,List.length_cons,List.length_nil,(adc_len h.pe),(u8c_len8 h.imp),(u8c_len8 h.rd)]
theorem usC_all (h:okUs x):cut (usC x) 0 (some 34)=some (.agg (usC x)):=cut_hd0 (usC_len h)
theorem usC_any (h:okUs x) {cs:List PV} (hc:cs.length=34):splice cs 0 (usC x)=usC x:=spl_hd0 (by rw[hc,usC_len h])
theorem usC_gpe (h:okUs x):cut (usC x) 0 (some 17)=some (.agg (adc x.pe)):=cut_hd (adc_len h.pe)
theorem usC_spe (h:okUs x) {v:Ad} (hv:okD v):splice (usC x) 0 (adc v)=usC { x with pe:=v }:=spl_hd (by rw[adc_len hv,adc_len h.pe])
theorem usC_gimp (h:okUs x):cut (usC x) 17 (some 8)=some (.agg (u8c x.imp)):=cut_sk (o:=0) (adc_len h.pe) rfl (cut_hd (u8c_len8 h.imp))
theorem usC_simp (h:okUs x) {v:List UInt8} (hv:ok8 v):splice (usC x) 17 (u8c v)=usC { x with imp:=v }:=spl_sk (o:=0) (adc_len h.pe) rfl (spl_hd (by rw[u8c_len8 hv,u8c_len8 h.imp]))
theorem usC_gasn (h:okUs x):cut (usC x) 25 none=some (.int .i64 x.asn):=cut_sk (o:=8) (adc_len h.pe) rfl (cut_sk (o:=0) (u8c_len8 h.imp) rfl (rfl))
theorem usC_sasn (h:okUs x) {v:Int}:splice (usC x) 25 [.int .i64 v]=usC { x with asn:=v }:=spl_sk (o:=8) (adc_len h.pe) rfl (spl_sk (o:=0) (u8c_len8 h.imp) rfl (spl_hd rfl))
theorem usC_grd (h:okUs x):cut (usC x) 26 (some 8)=some (.agg (u8c x.rd)):=cut_sk (o:=9) (adc_len h.pe) rfl (cut_sk (o:=1) (u8c_len8 h.imp) rfl (cut_sk (o:=0) rfl rfl (cut_hd0 (u8c_len8 h.rd))))
theorem usC_srd (h:okUs x) {v:List UInt8} (hv:ok8 v):splice (usC x) 26 (u8c v)=usC { x with rd:=v }:=spl_sk (o:=9) (adc_len h.pe) rfl (spl_sk (o:=1) (u8c_len8 h.imp) rfl (spl_sk (o:=0) rfl rfl (spl_hd0 (by rw[u8c_len8 hv,u8c_len8 h.rd]))))
end
structure Cd where
 up:Us
 bits:Int
 name:List UInt8
def cdC (x:Cd):List PV:=usC x.up++([.int .i64 x.bits]++([.str x.name]))
instance (x:Cd):PlL (cdC x):=by unfold cdC;infer_instance
instance (x:Cd):ClL (cdC x):=by unfold cdC;infer_instance
structure okCd (x:Cd):Prop where
 up:okUs x.up
def cd0:Cd:=⟨us0,0,[]⟩
section
variable {x:Cd}
theorem cdC_sc:(cdC x).all scalar=true:=by
 unfold cdC
 simp only[List.all_append,usC_sc,List.all_cons,List.all_nil,scalar,Bool.and_self]
theorem cdC_len (h:okCd x):(cdC x).length=36:=by
 unfold cdC
 simp only[List.length_append,List.length_cons,List.length_nil,(usC_len h.up)]
theorem cdC_all (h:okCd x):cut (cdC x) 0 (some 36)=some (.agg (cdC x)):=cut_hd0 (cdC_len h)
theorem cdC_any (h:okCd x) {cs:List PV} (hc:cs.length=36):splice cs 0 (cdC x)=cdC x:=spl_hd0 (by rw[hc,cdC_len h])
theorem cdC_gup (h:okCd x):cut (cdC x) 0 (some 34)=some (.agg (usC x.up)):=cut_hd (usC_len h.up)
theorem cdC_sup (h:okCd x) {v:Us} (hv:okUs v):splice (cdC x) 0 (usC v)=cdC { x with up:=v }:=spl_hd (by rw[usC_len hv,usC_len h.up])
theorem cdC_gbits (h:okCd x):cut (cdC x) 34 none=some (.int .i64 x.bits):=cut_sk (o:=0) (usC_len h.up) rfl (rfl)
theorem cdC_sbits (h:okCd x) {v:Int}:splice (cdC x) 34 [.int .i64 v]=cdC { x with bits:=v }:=spl_sk (o:=0) (usC_len h.up) rfl (spl_hd rfl)
theorem cdC_gname (h:okCd x):cut (cdC x) 35 none=some (.str x.name):=cut_sk (o:=1) (usC_len h.up) rfl (cut_sk (o:=0) rfl rfl (rfl))
theorem cdC_sname (h:okCd x) {v:List UInt8}:splice (cdC x) 35 [.str v]=cdC { x with name:=v }:=spl_sk (o:=1) (usC_len h.up) rfl (spl_sk (o:=0) rfl rfl (spl_hd0 rfl))
end
attribute [local irreducible] vBuild vCallV
theorem cutP1 {X B:List PV} {o:Nat} (h:o<X.length):cut (X++B) o none=cut X o none:=by
 simp only[cut]
 rw[List.getElem?_append_left h]
theorem pfC_eq (p:Pf):pfC p=pfx p.a.s p.a.b p.bits:=rfl
def okPP (p:Pf):Bool:=okP p.a.s p.a.b p.bits
def cutD (a:Ad) (k:Int):Ad:=⟨a.s,cutB a.b k⟩
def hasF (p:Pf) (a:Ad):Bool:=okPP p&&(okAd a&&(decide (a.s=p.a.s)&&(cutD a p.bits==p.a)))
theorem uRightPP {p:Pf} (h:okPf p):U Tryz.prog 155 [.agg (pfC p)] (.bool (okPP p)):=uRightP h.a
theorem okPP_b {p:Pf} (h:okPf p) (hr:okPP p=true):0≤p.bits∧p.bits≤1000:=by
 unfold okPP okP okA at hr
 simp only[Bool.and_eq_true,decide_eq_true_eq,Bool.or_eq_true,beq_iff_eq] at hr
 omega
theorem uCutD {a:Ad} {k:Int} (h:okD a) (h0:0≤k) (h1:k≤1000):U Tryz.prog 156 [.agg (adc a),.int .i64 k] (.agg (adc (cutD a k))):=uCutA h h0 h1
theorem cutD_ok {a:Ad} {k:Int} (h:okD a):okD (cutD a k):=(cutB_len _ _).trans h
theorem uHas {p:Pf} {a:Ad} (hp:okPf p) (ha:okD a):U Tryz.prog 110 [.agg (pfC p),.agg (adc a)] (.bool (hasF p a)):=by
 intro σ Post hk
 have ps:=pfC_sc (x:=p)
 have pl:=pfC_len hp
 have pc:=pfC_all hp
 have pa:=pfC_ga hp
 have pb:=pfC_gbits hp
 have pas:cut (pfC p) 0 none=some (.int .i64 p.a.s):=rfl
 have sc:=adc_sc (a:=a)
 have ln:=adc_len ha
 have c0:=adc_all ha
 have cs:=adc_s (a:=a)
 have pal:=adc_len hp.a
 have pas2:=adc_sc (a:=p.a)
 refine T110 fun hB hA=>?_
 refine W ?_
 refine s1 (uRightPP hp) ?_
 cases h1:okPP p with
 | true=>
   obtain⟨hb0,hb1⟩:=okPP_b hp h1
   refine W ?_
   refine s1 (uRightD ha) ?_
   cases h2:okAd a with
   | true=>
     by_cases h3:a.s=p.a.s
     ·have cl:=adc_len (cutD_ok (k:=p.bits) ha)
      have cs2:=adc_sc (a:=cutD a p.bits)
      have q0:=eqC_ad (cutD_ok (k:=p.bits) ha) hp.a
      refine W ?_
      refine s1 (uCutD ha hb0 hb1) ?_
      cases h4:(cutD a p.bits==p.a:Bool) with
      | true=>
        rw[h4] at q0
        refine W ?_
        exact fin hk (by simp[hasF,h1,h2,h3,h4])
      | false=>
        rw[h4] at q0
        refine W ?_
        exact fin hk (by simp[hasF,h1,h2,h3,h4])
     ·refine W ?_
      exact fin hk (by simp[hasF,h1,h2,h3])
   | false=>
     refine W ?_
     exact fin hk (by simp[hasF,h1,h2])
 | false=>
   refine W ?_
   exact fin hk (by simp[hasF,h1])
theorem uPutBad {l:List UInt8} {n:Int} (h:n<0∨65536≤n):U Tryz.prog 147 [.sl (bsl l),.int .i64 n,.int .i64 2] (.tup [.sl [],.int .i64 5]):=by
 intro σ Post hk
 refine T147 fun hB hA=>?_
 by_cases h0:n<0
 ·refine W ?_
  exact hk
 ·obtain⟨k,rfl⟩:∃ k:Nat,n=(k:Int):=⟨n.toNat,by omega⟩
  have b1:ibin .shr .i64 (k:Int) .i64 16=some (.int .i64 ((k / 65536:Nat):Int)):=ib_shrN (a:=k) (k:=.i64) (k':=.i64) (n:=16) (by decide)
  have h2:0<k / 65536:=Nat.div_pos (by omega) (by omega)
  refine W ?_
  exact hk
def impF (a:Ad) (n:Int):List UInt8 × Int:=if router4 a=true then(if n<0∨65536≤n then(z8,5) else(1::11::(a.b.take 4++be n.toNat 2),0)) else(z8,1)
theorem impF_len {a:Ad} {n:Int} (h:okD a):(impF a n).1.length=8:=by
 unfold impF;split
 ·split
  ·rfl
  ·have:a.b.length=16:=h
   simp[be_len,this]
 ·rfl
theorem uImport {a:Ad} {n:Int} (ha:okD a):U Tryz.prog 154 [.agg (adc a),.int .i64 n] (.tup [.agg (u8c (impF a n).1),.int .i64 (impF a n).2]):=by
 intro σ Post hk
 have sc:=adc_sc (a:=a)
 have ln:=adc_len ha
 have c0:=adc_all ha
 have cs:=adc_s (a:=a)
 have d8:splice [D.o,D.o,D.o,D.o,D.o,D.o,D.o,D.o] 0 [D.o,D.o,D.o,D.o,D.o,D.o,D.o,D.o]=u8c z8:=rfl
 have zl:(u8c z8).length=8:=rfl
 have zc:=cut_hd0 zl
 have hb:a.b.length=16:=ha
 refine T154 fun hB hA=>?_
 refine W ?_
 refine cu (uRightD ha) ?_
 cases hr:okAd a with
 | true=>
   by_cases h4:a.s=4
   ·have r4:router4 a=true:=by simp[router4,hr,h4]
    have ea:abytes a=a.b.take 4:=by unfold abytes;rw[if_pos hr,h4];rfl
    have l4:(a.b.take 4).length=4:=by rw[List.length_take,hb];rfl
    refine W ?_
    refine cu (uABytes ha) ?_
    rw[ea]
    refine W ?_
    by_cases hn:n<0∨65536≤n
    ·have hf:impF a n=(z8,5):=by unfold impF;rw[if_pos r4,if_pos hn]
     rw[hf] at hk
     refine cu (uPutBad (l:=a.b.take 4) hn) ?_
     refine W ?_
     exact hk
    ·have hf:impF a n=(1::11::(a.b.take 4++be n.toNat 2),0):=by unfold impF;rw[if_pos r4,if_neg hn]
     rw[hf] at hk
     have en:(n:Int)=((n.toNat:Nat):Int):=by omega
     have up:=uPut (l:=a.b.take 4) (n:=n.toNat) (z:=2) (by omega) (by omega) (by omega) (by omega)
     rw[← en] at up
     have el:(1::11::(a.b.take 4++be n.toNat 2)).length=8:=by simp[be_len,hb]
     have lt:=u8c_len8 el
     have st:=u8c_sc (1::11::(a.b.take 4++be n.toNat 2))
     have ct0:=cut_hd0 lt
     have dt:splice [D.o,D.o,D.o,D.o,D.o,D.o,D.o,D.o] 0 (u8c (1::11::(a.b.take 4++be n.toNat 2)))=u8c (1::11::(a.b.take 4++be n.toNat 2)):=spl_any8 lt
     refine cu up ?_
     refine W ?_
     refine cu (uExtOf (c:=1) (w:=11) (r:=a.b.take 4++be n.toNat 2) (by simp[be_len,hb])) ?_
     refine W ?_
     exact hk
   ·have hf:impF a n=(z8,1):=by unfold impF;rw[if_neg (by simp[router4,h4])]
    rw[hf] at hk
    refine W ?_
    exact hk
 | false=>
   have hf:impF a n=(z8,1):=by unfold impF;rw[if_neg (by simp[router4,hr])]
   rw[hf] at hk
   refine W ?_
   exact hk
def ownF (v:Vr) (s:Si):Us × Int:=if (impF s.pe v.num).2=0 then(⟨s.pe,(impF s.pe v.num).1,s.asn,v.rd⟩,0) else(us0,(impF s.pe v.num).2)
theorem us0_ok:okUs us0:=⟨rfl,rfl,rfl⟩
theorem ownF_ok {v:Vr} {s:Si} (hv:okVr v) (hs:okSi s):okUs (ownF v s).1:=by
 unfold ownF;split
 ·exact⟨hs.pe,impF_len hs.pe,hv.rd⟩
 ·exact us0_ok
theorem ownF_e (v:Vr) (s:Si):(ownF v s).2=(impF s.pe v.num).2:=by
 unfold ownF;split
 ·rename_i h;exact h.symm
 ·rfl
theorem us_fill {p:Ad} {i r:List UInt8} {n:Int} (hp:okD p) (hi:i.length=8) (hr:r.length=8) :
  splice [PV.int .i64 0,D.o,D.o,D.o,D.o,D.o,D.o,D.o,D.o,D.o,D.o,D.o,D.o,D.o,D.o,D.o,D.o,D.o,D.o,D.o,D.o,D.o,D.o,D.o,D.o,.int .i64 0,D.o,D.o,D.o,D.o,D.o,D.o,D.o,D.o] 0 (adc p)=adc p++[D.o,D.o,D.o,D.o,D.o,D.o,D.o,D.o,.int .i64 0,D.o,D.o,D.o,D.o,D.o,D.o,D.o,D.o]∧splice (adc p++[D.o,D.o,D.o,D.o,D.o,D.o,D.o,D.o,.int .i64 0,D.o,D.o,D.o,D.o,D.o,D.o,D.o,D.o]) 17 (u8c i)=adc p++(u8c i++[PV.int .i64 0,D.o,D.o,D.o,D.o,D.o,D.o,D.o,D.o])∧
  splice (adc p++(u8c i++[PV.int .i64 0,D.o,D.o,D.o,D.o,D.o,D.o,D.o,D.o])) 25 [.int .i64 n]=adc p++(u8c i++[PV.int .i64 n,D.o,D.o,D.o,D.o,D.o,D.o,D.o,D.o])∧splice (adc p++(u8c i++[PV.int .i64 n,D.o,D.o,D.o,D.o,D.o,D.o,D.o,D.o])) 26 (u8c r)=usC ⟨p,i,n,r⟩:=by
 have hl:=adc_len hp
 have il:=u8c_len8 hi
 refine⟨?_,?_,?_,?_⟩
 ·show splice ([PV.int .i64 0,D.o,D.o,D.o,D.o,D.o,D.o,D.o,D.o,D.o,D.o,D.o,D.o,D.o,D.o,D.o,D.o]++[D.o,D.o,D.o,D.o,D.o,D.o,D.o,D.o,.int .i64 0,D.o,D.o,D.o,D.o,D.o,D.o,D.o,D.o]) 0 (adc p)=_
  exact spl_hd (by rw[hl];rfl)
 ·refine spl_sk (o:=0) hl rfl ?_
  show splice ([D.o,D.o,D.o,D.o,D.o,D.o,D.o,D.o]++[PV.int .i64 0,D.o,D.o,D.o,D.o,D.o,D.o,D.o,D.o]) 0 (u8c i)=_
  exact spl_hd (by rw[il];rfl)
 ·exact spl_sk (o:=8) hl rfl (spl_sk (o:=0) il rfl rfl)
 ·refine spl_sk (o:=9) hl rfl (spl_sk (o:=1) il rfl ?_)
  show splice ([PV.int .i64 n]++[D.o,D.o,D.o,D.o,D.o,D.o,D.o,D.o]) 1 (u8c r)=[PV.int .i64 n]++u8c r
  exact spl_sk (o:=0) rfl rfl (spl_hd0 (by rw[u8c_len,hr];rfl))
theorem uOwn {v:Vr} {s:Si} (hv:okVr v) (hs:okSi s):U Tryz.prog 108 [.agg (vrC v),.agg (siC s)] (.tup [.agg (usC (ownF v s).1),.int .i64 (ownF v s).2]):=by
 intro σ Post hk
 have vs:=vrC_sc (x:=v)
 have vl:=vrC_len hv
 have vc:=vrC_all hv
 have vg1:=vrC_gname hv
 have vg2:=vrC_gnum hv
 have vg3:=vrC_grd hv
 have ss:=siC_sc (x:=s)
 have sl:=siC_len hs
 have sa:=siC_all hs
 have sg1:=siC_gpe hs
 have sg2:=siC_gasn hs
 have sg3:=siC_glocs hs
 have sg4:=siC_glrn hs
 have pl:=adc_len hs.pe
 have psc:=adc_sc (a:=s.pe)
 have il:=u8c_len8 (impF_len (n:=v.num) hs.pe)
 have isc:=u8c_sc (impF s.pe v.num).1
 have ic:=cut_hd0 il
 have rl:=u8c_len8 hv.rd
 have rsc:=u8c_sc v.rd
 have d8:splice [D.o,D.o,D.o,D.o,D.o,D.o,D.o,D.o] 0 (u8c (impF s.pe v.num).1)=u8c (impF s.pe v.num).1:=spl_any8 il
 have z34:splice [PV.int .i64 0,D.o,D.o,D.o,D.o,D.o,D.o,D.o,D.o,D.o,D.o,D.o,D.o,D.o,D.o,D.o,D.o,D.o,D.o,D.o,D.o,D.o,D.o,D.o,D.o,.int .i64 0,D.o,D.o,D.o,D.o,D.o,D.o,D.o,D.o] 0 [PV.int .i64 0,D.o,D.o,D.o,D.o,D.o,D.o,D.o,D.o,D.o,D.o,D.o,D.o,D.o,D.o,D.o,D.o,D.o,D.o,D.o,D.o,D.o,D.o,D.o,D.o,.int .i64 0,D.o,D.o,D.o,D.o,D.o,D.o,D.o,D.o]=usC us0:=rfl
 have zl:=usC_len us0_ok
 have zc:=usC_all us0_ok
 have zs:=usC_sc (x:=us0)
 unfold ownF at hk
 refine T108 fun hB hA=>?_
 refine W ?_
 refine cu (uImport hs.pe) ?_
 obtain⟨f1,f2,f3,f4⟩:=us_fill (p:=s.pe) (i:=(impF s.pe v.num).1) (r:=v.rd) (n:=s.asn) hs.pe (impF_len hs.pe) hv.rd
 have ok1:okUs ⟨s.pe,(impF s.pe v.num).1,s.asn,v.rd⟩:=⟨hs.pe,impF_len hs.pe,hv.rd⟩
 have ul:=usC_len ok1
 have uc:=usC_all ok1
 have usn:=usC_sc (x:=⟨s.pe,(impF s.pe v.num).1,s.asn,v.rd⟩)
 have ua:=usC_any ok1 (cs:=[PV.int .i64 0,D.o,D.o,D.o,D.o,D.o,D.o,D.o,D.o,D.o,D.o,D.o,D.o,D.o,D.o,D.o,D.o,D.o,D.o,D.o,D.o,D.o,D.o,D.o,D.o,.int .i64 0,D.o,D.o,D.o,D.o,D.o,D.o,D.o,D.o]) rfl
 by_cases h0:(impF s.pe v.num).2=0
 ·rw[if_pos h0] at hk
  dsimp only at hk
  refine W ?_
  exact hk
 ·rw[if_neg h0] at hk
  dsimp only at hk
  refine W ?_
  exact hk
def hereG (n:List UInt8) (a:Ad):List Lc→Pf × Bool→Pf × Bool
 | [],b=>b
 | l::r,b=>hereG n a r (if l.vrf=n∧hasF l.pf a=true∧(b.2=false∨b.1.bits<l.pf.bits) then(l.pf,true) else b)
def hereF (v:Vr) (s:Si) (a:Ad):Pf × Bool:=hereG v.name a s.locs (pf0,false)
theorem pf0_ok:okPf pf0:=⟨rfl⟩
theorem hereG_ok {n:List UInt8} {a:Ad}:∀ (l:List Lc) (b:Pf × Bool),(∀ x,x∈l→okLc x)→okPf b.1→okPf (hereG n a l b).1
 | [],b,_,h=>h
 | x::r,b,hl,h=>by
   unfold hereG
   refine hereG_ok r _ (fun y hy=>hl y (List.mem_cons_of_mem _ hy)) ?_
   split
   ·exact(hl x List.mem_cons_self).pf
   ·exact h
theorem hereG_snoc {n:List UInt8} {a:Ad} (x:Lc):∀ (l:List Lc) (b:Pf × Bool),hereG n a (l++[x]) b=(if x.vrf=n∧hasF x.pf a=true∧((hereG n a l b).2=false∨(hereG n a l b).1.bits<x.pf.bits) then(x.pf,true) else hereG n a l b)
 | [],b=>rfl
 | y::r,b=>by rw[List.cons_append,hereG,hereG_snoc x r,hereG]
theorem uHere {v:Vr} {s:Si} {a:Ad} (hv:okVr v) (hs:okSi s) (ha:okD a) (hl:∀ x,x∈s.locs→okLc x) (hn:s.locs.length≤1000000):U Tryz.prog 109 [.agg (vrC v),.agg (siC s),.agg (adc a)] (.tup [.agg (pfC (hereF v s a).1),.bool (hereF v s a).2]):=by
 intro σ Post hk
 have vs:=vrC_sc (x:=v)
 have vl:=vrC_len hv
 have vc:=vrC_all hv
 have vg1:=vrC_gname hv
 have vg2:=vrC_gnum hv
 have vg3:=vrC_grd hv
 have ss:=siC_sc (x:=s)
 have sl:=siC_len hs
 have sa:=siC_all hs
 have sg1:=siC_gpe hs
 have sg2:=siC_gasn hs
 have sg3:=siC_glocs hs
 have sg4:=siC_glrn hs
 have sc:=adc_sc (a:=a)
 have ln:=adc_len ha
 have c0:=adc_all ha
 have cs:=adc_s (a:=a)
 have b1:(s.locs.map lcC).length=s.locs.length:=List.length_map _
 have key:∀ i,okPf (hereG v.name a (s.locs.take i) (pf0,false)).1:=fun i=>hereG_ok _ _ (fun x hx=>hl x (List.mem_of_mem_take hx)) pf0_ok
 refine T109 fun hB hA=>?_
 refine W ?_
 refine lp (fun j e h=>∃ (i g:Nat) (o:VObj),i+j=s.locs.length∧e 13=.int .i64 i∧e 7=.bool (hereG v.name a (s.locs.take i) (pf0,false)).2∧h=σ++[(1,VObj.box (vrC v) false),(1,.box (siC s) false),(1,.box (adc a) false),(1,.box (pfC (hereG v.name a (s.locs.take i) (pf0,false)).1) false),(g,o)]) s.locs.length ⟨0,0,.dead,by simp,rfl,rfl,rfl⟩ ?_
 rintro j u _ ⟨i,g,o,hi,e13,e7,rfl⟩
 have kb:=key i
 have bl:=pfC_len kb
 have bc:=pfC_all kb
 have bb:=pfC_gbits kb
 have bs:=pfC_sc (x:=(hereG v.name a (s.locs.take i) (pf0,false)).1)
 have hst:=fun x=>hereG_snoc (n:=v.name) (a:=a) x (s.locs.take i) (pf0,false)
 by_cases h5:i<s.locs.length
 ·obtain⟨x,hx⟩:∃ x,s.locs[i]?=some x:=⟨_,List.getElem?_eq_getElem h5⟩
  have hg:(s.locs.map lcC)[(i:Int).toNat]?=some (lcC x):=by rw[Int.toNat_natCast,List.getElem?_map,hx];rfl
  have hm:=hl x (List.mem_of_getElem? hx)
  have hst:=hst x
  rw[← take_snoc hx] at hst
  have xs:=lcC_sc (x:=x)
  have xl:=lcC_len hm
  have xc:=lcC_all hm
  have xg1:=lcC_gvrf hm
  have xg2:=lcC_gpf hm
  have xg3:cut (lcC x) 18 none=some (.int .i64 x.pf.bits):=cut_sk (n:=1) (o:=17) rfl rfl ((cutP1 (by rw[pfC_len hm.pf];decide)).trans (pfC_gbits hm.pf))
  have pl:=pfC_len hm.pf
  have pc:=pfC_all hm.pf
  have ps:=pfC_sc (x:=x.pf)
  have d20:=lcC_any hm (cs:=[PV.str [],.int .i64 0,D.o,D.o,D.o,D.o,D.o,D.o,D.o,D.o,D.o,D.o,D.o,D.o,D.o,D.o,D.o,D.o,.int .i64 0,.int .i64 0]) rfl
  have d18:=pfC_any hm.pf (cs:=pfC (hereG v.name a (s.locs.take i) (pf0,false)).1) bl
  generalize hereG v.name a (s.locs.take i) (pf0,false)=B at *
  obtain⟨bp,bi⟩:=B
  dsimp only at *
  by_cases h1:x.vrf=v.name
  ·have sb:sbin .eql x.vrf v.name=some (.bool true):=sb_eqlT h1
   refine W ?_
   refine cu (uHas hm.pf ha) ?_
   cases h2:hasF x.pf a with
   | true=>
     cases bi with
     | true=>
       by_cases h3:bp.bits<x.pf.bits
       ·rw[if_pos ⟨h1,h2,.inr h3⟩] at hst
        refine W ?_
        refine⟨j - 1,by omega,i+1,g+1,.box (lcC x) false,by omega,rfl,?_,?_⟩
        ·rw[hst]<;>first|rfl|exact e7
        ·rw[hst]<;>rfl
       ·rw[if_neg (show ¬ (x.vrf=v.name∧hasF x.pf a=true∧((true:Bool)=false∨bp.bits<x.pf.bits)) by simp[h3])] at hst
        refine W ?_
        refine⟨j - 1,by omega,i+1,g+1,.box (lcC x) false,by omega,rfl,?_,?_⟩
        ·rw[hst]<;>first|rfl|exact e7
        ·rw[hst]<;>rfl
     | false=>
       rw[if_pos ⟨h1,h2,.inl rfl⟩] at hst
       refine W ?_
       refine⟨j - 1,by omega,i+1,g+1,.box (lcC x) false,by omega,rfl,?_,?_⟩
       ·rw[hst]<;>first|rfl|exact e7
       ·rw[hst]<;>rfl
   | false=>
     rw[if_neg (show ¬ (x.vrf=v.name∧hasF x.pf a=true∧(bi=false∨bp.bits<x.pf.bits)) by simp[h2])] at hst
     refine W ?_
     refine⟨j - 1,by omega,i+1,g+1,.box (lcC x) false,by omega,rfl,?_,?_⟩
     ·rw[hst]<;>first|rfl|exact e7
     ·rw[hst]<;>rfl
  ·have sb:sbin .eql x.vrf v.name=some (.bool false):=by rw[sb_eql,decide_eq_false h1]
   rw[if_neg (show ¬ (x.vrf=v.name∧hasF x.pf a=true∧(bi=false∨bp.bits<x.pf.bits)) by simp[h1])] at hst
   refine W ?_
   refine⟨j - 1,by omega,i+1,g+1,.box (lcC x) false,by omega,rfl,?_,?_⟩
   ·rw[hst]<;>first|rfl|exact e7
   ·rw[hst]<;>rfl
 ·have h9:s.locs.take i=s.locs:=List.take_of_length_le (by omega)
  rw[h9] at kb bl bc bb bs e7 ⊢
  unfold hereF at hk
  have d18:=pfC_any kb (cs:=pfC (hereG v.name a s.locs (pf0,false)).1) bl
  generalize hereG v.name a s.locs (pf0,false)=B at *
  obtain⟨bp,bi⟩:=B
  dsimp only at *
  refine W ?_
  exact hk
end Go.Proofs.YtdpeaefgbmkegaaGreatDoor
