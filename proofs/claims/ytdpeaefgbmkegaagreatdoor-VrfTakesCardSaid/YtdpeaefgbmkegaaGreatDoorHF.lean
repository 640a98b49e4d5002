/- Cells of routes, tables, updates and what they bear. -/
import Derived.Test.YtdpeaefgbmkegaaGreatDoorM20
namespace Go.Proofs.YtdpeaefgbmkegaaGreatDoor
open Go Go.V
set_option maxRecDepth 10000
set_option linter.unusedVariables false
section
variable {a b X B v r:List PV} {n o o':Nat}
theorem cut_sk {sz:Option Nat} {r:Option PV} (ha:a.length=n) (ho:o'=n+o) (h:cut b o sz=r):cut (a++b) o' sz=r:=by
 subst ha ho h
 cases sz with
 | none=>simp only[cut];rw[List.getElem?_append_right (by omega),Nat.add_sub_cancel_left]
 | some k=>
   simp only[cut]
   rw[List.length_append,List.drop_append,Nat.add_sub_cancel_left,List.drop_of_length_le (by omega),List.nil_append]
   by_cases hk:o+k≤b.length
   ·rw[if_pos hk,if_pos (by omega)]
   ·rw[if_neg hk,if_neg (by omega)]
theorem cut_hd (h:X.length=n):cut (X++B) 0 (some n)=some (.agg X):=by
 subst h;simp only[cut];rw[if_pos (by simp),List.drop_zero,List.take_left]
theorem cut_hd0 (h:X.length=n):cut X 0 (some n)=some (.agg X):=by
 subst h;simp only[cut];rw[if_pos (by simp),List.drop_zero,List.take_length]
theorem spl_sk (ha:a.length=n) (ho:o'=n+o) (h:splice b o v=r):splice (a++b) o' v=a++r:=by
 subst ha ho h
 unfold splice
 rw[List.take_append,List.drop_append,List.take_of_length_le (by omega),Nat.add_sub_cancel_left,List.drop_of_length_le (by omega),List.nil_append]
 have:a.length+o+v.length - a.length=o+v.length:=by omega
 rw[this];simp[List.append_assoc]
theorem spl_hd (h:v.length=X.length):splice (X++B) 0 v=v++B:=by
 unfold splice;rw[Nat.zero_add,h,List.drop_left];rfl
theorem spl_hd0 (h:v.length=X.length):splice X 0 v=v:=by
 unfold splice;rw[Nat.zero_add,h,List.drop_length];simp
end
@[reducible] def urU (p:UR):List PV:=nmU p.1 p.2
def okUr (p:UR):Prop:=okN p.1
theorem urU_len {p:UR} (h:okUr p):(urU p).length=27:=nmU_len h
theorem urU_sc {p:UR}:(urU p).all scalar=true:=nmU_sc
structure Seg where
 set:Bool
 nums:List Int
def segC (x:Seg):List PV:=[.bool x.set]++([.sl (x.nums.map fun n=>[PV.int .i64 n])])
instance (x:Seg):PlL (segC x):=by unfold segC;infer_instance
instance (x:Seg):ClL (segC x):=by unfold segC;infer_instance
structure okSeg (x:Seg):Prop where
 tt:True
section
variable {x:Seg}
theorem segC_sc:(segC x).all scalar=true:=by
 unfold segC
 simp only[List.all_append,List.all_cons,List.all_nil,scalar,Bool.and_self]
theorem segC_len (h:okSeg x):(segC x).length=2:=by
 unfold segC
 simp only[List.length_append,List.length_cons,List.length_nil]
theorem segC_all (h:okSeg x):cut (segC x) 0 (some 2)=some (.agg (segC x)):=cut_hd0 (segC_len h)
theorem segC_gset (h:okSeg x):cut (segC x) 0 none=some (.bool x.set):=rfl
theorem segC_gnums (h:okSeg x):cut (segC x) 1 none=some (.sl (x.nums.map fun n=>[PV.int .i64 n])):=cut_sk (o:=0) rfl rfl (rfl)
theorem segC_snums (h:okSeg x) {v:List Int}:splice (segC x) 1 [.sl (v.map fun n=>[PV.int .i64 n])]=segC { x with nums:=v }:=spl_sk (o:=0) rfl rfl (spl_hd0 rfl)
end
structure Tn where
 leaf:Bool
 kind:Int
 label:Int
 root:Ad
 id:List UInt8
def tnC (x:Tn):List PV:=[.bool x.leaf]++([.int .i64 x.kind]++([.int .i64 x.label]++(adc x.root++([.sl (bsl x.id)]))))
instance (x:Tn):PlL (tnC x):=by unfold tnC;infer_instance
instance (x:Tn):ClL (tnC x):=by unfold tnC;infer_instance
structure okTn (x:Tn):Prop where
 root:okD x.root
section
variable {x:Tn}
theorem tnC_sc:(tnC x).all scalar=true:=by
 unfold tnC
 simp only[List.all_append,adc_sc,List.all_cons,List.all_nil,scalar,Bool.and_self]
theorem tnC_len (h:okTn x):(tnC x).length=21:=by
 unfold tnC
 simp only[List.length_append,List.length_cons,List.length_nil,(adc_len h.root)]
theorem tnC_all (h:okTn x):cut (tnC x) 0 (some 21)=some (.agg (tnC x)):=cut_hd0 (tnC_len h)
theorem tnC_gleaf (h:okTn x):cut (tnC x) 0 none=some (.bool x.leaf):=rfl
theorem tnC_gkind (h:okTn x):cut (tnC x) 1 none=some (.int .i64 x.kind):=cut_sk (o:=0) rfl rfl (rfl)
theorem tnC_glabel (h:okTn x):cut (tnC x) 2 none=some (.int .i64 x.label):=cut_sk (o:=1) rfl rfl (cut_sk (o:=0) rfl rfl (rfl))
theorem tnC_groot (h:okTn x):cut (tnC x) 3 (some 17)=some (.agg (adc x.root)):=cut_sk (o:=2) rfl rfl (cut_sk (o:=1) rfl rfl (cut_sk (o:=0) rfl rfl (cut_hd (adc_len h.root))))
theorem tnC_gid (h:okTn x):cut (tnC x) 20 none=some (.sl (bsl x.id)):=cut_sk (o:=19) rfl rfl (cut_sk (o:=18) rfl rfl (cut_sk (o:=17) rfl rfl (cut_sk (o:=0) (adc_len h.root) rfl (rfl))))
theorem tnC_sid (h:okTn x) {v:List UInt8}:splice (tnC x) 20 [.sl (bsl v)]=tnC { x with id:=v }:=spl_sk (o:=19) rfl rfl (spl_sk (o:=18) rfl rfl (spl_sk (o:=17) rfl rfl (spl_sk (o:=0) (adc_len h.root) rfl (spl_hd0 rfl))))
end
structure At where
 origin:Int
 path:List Seg
 med:Int
 pref:Int
 orig:Ad
 cl:List Ad
 ex:List (List UInt8)
 tn:List Tn
def atC (x:At):List PV:=[.int .i64 x.origin]++([.sl (x.path.map segC)]++([.int .i64 x.med]++([.int .i64 x.pref]++(adc x.orig++([.sl (x.cl.map adc)]++([.sl (x.ex.map u8c)]++([.sl (x.tn.map tnC)])))))))
instance (x:At):PlL (atC x):=by unfold atC;infer_instance
instance (x:At):ClL (atC x):=by unfold atC;infer_instance
structure okAt (x:At):Prop where
 orig:okD x.orig
def at0:At:=⟨0,[],0,0,ad0,[],[],[]⟩
section
variable {x:At}
theorem atC_sc:(atC x).all scalar=true:=by
 unfold atC
 simp only[List.all_append,adc_sc,List.all_cons,List.all_nil,scalar,Bool.and_self]
theorem atC_len (h:okAt x):(atC x).length=24:=by
 unfold atC
 simp only[List.length_append,List.length_cons,List.length_nil,(adc_len h.orig)]
theorem atC_all (h:okAt x):cut (atC x) 0 (some 24)=some (.agg (atC x)):=cut_hd0 (atC_len h)
theorem atC_any (h:okAt x) {cs:List PV} (hc:cs.length=24):splice cs 0 (atC x)=atC x:=spl_hd0 (by rw[hc,atC_len h])
theorem atC_gorigin (h:okAt x):cut (atC x) 0 none=some (.int .i64 x.origin):=rfl
theorem atC_gpath (h:okAt x):cut (atC x) 1 none=some (.sl (x.path.map segC)):=cut_sk (o:=0) rfl rfl (rfl)
theorem atC_gmed (h:okAt x):cut (atC x) 2 none=some (.int .i64 x.med):=cut_sk (o:=1) rfl rfl (cut_sk (o:=0) rfl rfl (rfl))
theorem atC_gpref (h:okAt x):cut (atC x) 3 none=some (.int .i64 x.pref):=cut_sk (o:=2) rfl rfl (cut_sk (o:=1) rfl rfl (cut_sk (o:=0) rfl rfl (rfl)))
theorem atC_spref (h:okAt x) {v:Int}:splice (atC x) 3 [.int .i64 v]=atC { x with pref:=v }:=spl_sk (o:=2) rfl rfl (spl_sk (o:=1) rfl rfl (spl_sk (o:=0) rfl rfl (spl_hd rfl)))
theorem atC_gorig (h:okAt x):cut (atC x) 4 (some 17)=some (.agg (adc x.orig)):=cut_sk (o:=3) rfl rfl (cut_sk (o:=2) rfl rfl (cut_sk (o:=1) rfl rfl (cut_sk (o:=0) rfl rfl (cut_hd (adc_len h.orig)))))
theorem atC_sorig (h:okAt x) {v:Ad} (hv:okD v):splice (atC x) 4 (adc v)=atC { x with orig:=v }:=spl_sk (o:=3) rfl rfl (spl_sk (o:=2) rfl rfl (spl_sk (o:=1) rfl rfl (spl_sk (o:=0) rfl rfl (spl_hd (by rw[adc_len hv,adc_len h.orig])))))
theorem atC_gcl (h:okAt x):cut (atC x) 21 none=some (.sl (x.cl.map adc)):=cut_sk (o:=20) rfl rfl (cut_sk (o:=19) rfl rfl (cut_sk (o:=18) rfl rfl (cut_sk (o:=17) rfl rfl (cut_sk (o:=0) (adc_len h.orig) rfl (rfl)))))
theorem atC_gex (h:okAt x):cut (atC x) 22 none=some (.sl (x.ex.map u8c)):=cut_sk (o:=21) rfl rfl (cut_sk (o:=20) rfl rfl (cut_sk (o:=19) rfl rfl (cut_sk (o:=18) rfl rfl (cut_sk (o:=1) (adc_len h.orig) rfl (cut_sk (o:=0) rfl rfl (rfl))))))
theorem atC_sex (h:okAt x) {v:List (List UInt8)}:splice (atC x) 22 [.sl (v.map u8c)]=atC { x with ex:=v }:=spl_sk (o:=21) rfl rfl (spl_sk (o:=20) rfl rfl (spl_sk (o:=19) rfl rfl (spl_sk (o:=18) rfl rfl (spl_sk (o:=1) (adc_len h.orig) rfl (spl_sk (o:=0) rfl rfl (spl_hd rfl))))))
theorem atC_gtn (h:okAt x):cut (atC x) 23 none=some (.sl (x.tn.map tnC)):=cut_sk (o:=22) rfl rfl (cut_sk (o:=21) rfl rfl (cut_sk (o:=20) rfl rfl (cut_sk (o:=19) rfl rfl (cut_sk (o:=2) (adc_len h.orig) rfl (cut_sk (o:=1) rfl rfl (cut_sk (o:=0) rfl rfl (rfl)))))))
end
structure Rt where
 size:Int
 safi:Int
 m:Mr
 u:UR
 next:Ad
 att:At
def rtC (x:Rt):List PV:=[.int .i64 x.size]++([.int .i64 x.safi]++(mrc x.m++(urU x.u++(adc x.next++(atC x.att)))))
instance (x:Rt):PlL (rtC x):=by unfold rtC;infer_instance
instance (x:Rt):ClL (rtC x):=by unfold rtC;infer_instance
structure okRt (x:Rt):Prop where
 m:okM x.m
 u:okUr x.u
 next:okD x.next
 att:okAt x.att
def rt0:Rt:=⟨0,0,mr0,(nm0,0),ad0,at0⟩
section
variable {x:Rt}
theorem rtC_sc:(rtC x).all scalar=true:=by
 unfold rtC
 simp only[List.all_append,mrc_sc,urU_sc,adc_sc,atC_sc,List.all_cons,List.all_nil,scalar,Bool.and_self]
theorem rtC_len (h:okRt x):(rtC x).length=132:=by
 unfold rtC
 simp only[List.length_append,List.length_cons,List.length_nil,(mrc_len h.m),(urU_len h.u),(adc_len h.next),(atC_len h.att)]
theorem rtC_all (h:okRt x):cut (rtC x) 0 (some 132)=some (.agg (rtC x)):=cut_hd0 (rtC_len h)
theorem rtC_any (h:okRt x) {cs:List PV} (hc:cs.length=132):splice cs 0 (rtC x)=rtC x:=spl_hd0 (by rw[hc,rtC_len h])
theorem rtC_gsize (h:okRt x):cut (rtC x) 0 none=some (.int .i64 x.size):=rfl
theorem rtC_gsafi (h:okRt x):cut (rtC x) 1 none=some (.int .i64 x.safi):=cut_sk (o:=0) rfl rfl (rfl)
theorem rtC_gm (h:okRt x):cut (rtC x) 2 (some 62)=some (.agg (mrc x.m)):=cut_sk (o:=1) rfl rfl (cut_sk (o:=0) rfl rfl (cut_hd (mrc_len h.m)))
theorem rtC_gu (h:okRt x):cut (rtC x) 64 (some 27)=some (.agg (urU x.u)):=cut_sk (o:=63) rfl rfl (cut_sk (o:=62) rfl rfl (cut_sk (o:=0) (mrc_len h.m) rfl (cut_hd (urU_len h.u))))
theorem rtC_gnext (h:okRt x):cut (rtC x) 91 (some 17)=some (.agg (adc x.next)):=cut_sk (o:=90) rfl rfl (cut_sk (o:=89) rfl rfl (cut_sk (o:=27) (mrc_len h.m) rfl (cut_sk (o:=0) (urU_len h.u) rfl (cut_hd (adc_len h.next)))))
theorem rtC_gatt (h:okRt x):cut (rtC x) 108 (some 24)=some (.agg (atC x.att)):=cut_sk (o:=107) rfl rfl (cut_sk (o:=106) rfl rfl (cut_sk (o:=44) (mrc_len h.m) rfl (cut_sk (o:=17) (urU_len h.u) rfl (cut_sk (o:=0) (adc_len h.next) rfl (cut_hd0 (atC_len h.att))))))
theorem rtC_satt (h:okRt x) {v:At} (hv:okAt v):splice (rtC x) 108 (atC v)=rtC { x with att:=v }:=spl_sk (o:=107) rfl rfl (spl_sk (o:=106) rfl rfl (spl_sk (o:=44) (mrc_len h.m) rfl (spl_sk (o:=17) (urU_len h.u) rfl (spl_sk (o:=0) (adc_len h.next) rfl (spl_hd0 (by rw[atC_len hv,atC_len h.att]))))))
end
structure Tb where
 size:Int
 safi:Int
 next:Ad
 m:List Mr
 u:List UR
def tbC (x:Tb):List PV:=[.int .i64 x.size]++([.int .i64 x.safi]++(adc x.next++([.sl (x.m.map mrc)]++([.sl (x.u.map urU)]))))
instance (x:Tb):PlL (tbC x):=by unfold tbC;infer_instance
instance (x:Tb):ClL (tbC x):=by unfold tbC;infer_instance
structure okTb (x:Tb):Prop where
 next:okD x.next
section
variable {x:Tb}
theorem tbC_sc:(tbC x).all scalar=true:=by
 unfold tbC
 simp only[List.all_append,adc_sc,List.all_cons,List.all_nil,scalar,Bool.and_self]
theorem tbC_len (h:okTb x):(tbC x).length=21:=by
 unfold tbC
 simp only[List.length_append,List.length_cons,List.length_nil,(adc_len h.next)]
theorem tbC_all (h:okTb x):cut (tbC x) 0 (some 21)=some (.agg (tbC x)):=cut_hd0 (tbC_len h)
theorem tbC_any (h:okTb x) {cs:List PV} (hc:cs.length=21):splice cs 0 (tbC x)=tbC x:=spl_hd0 (by rw[hc,tbC_len h])
theorem tbC_gsize (h:okTb x):cut (tbC x) 0 none=some (.int .i64 x.size):=rfl
theorem tbC_gsafi (h:okTb x):cut (tbC x) 1 none=some (.int .i64 x.safi):=cut_sk (o:=0) rfl rfl (rfl)
theorem tbC_gnext (h:okTb x):cut (tbC x) 2 (some 17)=some (.agg (adc x.next)):=cut_sk (o:=1) rfl rfl (cut_sk (o:=0) rfl rfl (cut_hd (adc_len h.next)))
theorem tbC_gm (h:okTb x):cut (tbC x) 19 none=some (.sl (x.m.map mrc)):=cut_sk (o:=18) rfl rfl (cut_sk (o:=17) rfl rfl (cut_sk (o:=0) (adc_len h.next) rfl (rfl)))
theorem tbC_sm (h:okTb x) {v:List Mr}:splice (tbC x) 19 [.sl (v.map mrc)]=tbC { x with m:=v }:=spl_sk (o:=18) rfl rfl (spl_sk (o:=17) rfl rfl (spl_sk (o:=0) (adc_len h.next) rfl (spl_hd rfl)))
theorem tbC_gu (h:okTb x):cut (tbC x) 20 none=some (.sl (x.u.map urU)):=cut_sk (o:=19) rfl rfl (cut_sk (o:=18) rfl rfl (cut_sk (o:=1) (adc_len h.next) rfl (cut_sk (o:=0) rfl rfl (rfl))))
theorem tbC_su (h:okTb x) {v:List UR}:splice (tbC x) 20 [.sl (v.map urU)]=tbC { x with u:=v }:=spl_sk (o:=19) rfl rfl (spl_sk (o:=18) rfl rfl (spl_sk (o:=1) (adc_len h.next) rfl (spl_sk (o:=0) rfl rfl (spl_hd0 rfl))))
end
structure Up where
 att:At
 reach:List Tb
 unreach:List Tb
def upC (x:Up):List PV:=atC x.att++([.sl (x.reach.map tbC)]++([.sl (x.unreach.map tbC)]))
instance (x:Up):PlL (upC x):=by unfold upC;infer_instance
instance (x:Up):ClL (upC x):=by unfold upC;infer_instance
structure okUp (x:Up):Prop where
 att:okAt x.att
section
variable {x:Up}
theorem upC_sc:(upC x).all scalar=true:=by
 unfold upC
 simp only[List.all_append,atC_sc,List.all_cons,List.all_nil,scalar,Bool.and_self]
theorem upC_len (h:okUp x):(upC x).length=26:=by
 unfold upC
 simp only[List.length_append,List.length_cons,List.length_nil,(atC_len h.att)]
theorem upC_all (h:okUp x):cut (upC x) 0 (some 26)=some (.agg (upC x)):=cut_hd0 (upC_len h)
theorem upC_any (h:okUp x) {cs:List PV} (hc:cs.length=26):splice cs 0 (upC x)=upC x:=spl_hd0 (by rw[hc,upC_len h])
theorem upC_gatt (h:okUp x):cut (upC x) 0 (some 24)=some (.agg (atC x.att)):=cut_hd (atC_len h.att)
theorem upC_greach (h:okUp x):cut (upC x) 24 none=some (.sl (x.reach.map tbC)):=cut_sk (o:=0) (atC_len h.att) rfl (rfl)
theorem upC_gunreach (h:okUp x):cut (upC x) 25 none=some (.sl (x.unreach.map tbC)):=cut_sk (o:=1) (atC_len h.att) rfl (cut_sk (o:=0) rfl rfl (rfl))
end
def router4 (a:Ad):Bool:=decide (a.s=4)&&okAd a
def tnK (t:Tn):Bool:=
 if t.kind=0 then decide (t.root.s+t.id.length=0) else if t.kind=1 then decide (t.root.s=4)&&decide (t.id.length=6) else if t.kind=2∨t.kind=7 then decide (0<t.root.s)&&decide (t.id.length≤64)
 else if t.kind=3∨t.kind=4∨t.kind=5 then decide ((ofA t.id).2=0)&&(decide ((ofA t.id).1.s=t.root.s)&&mcA (ofA t.id).1) else if t.kind=6 then decide (0<t.root.s)&&decide (t.id.length=0) else false
def tnR (t:Tn):Bool:=okAd t.root&&(decide (0≤t.label)&&(decide (t.label≤1048575)&&tnK t))
def segW (s:Seg):Bool:=decide (s.nums.length<1)||(decide (255<s.nums.length)||s.nums.any fun n=>decide (n<0)||decide (4294967295<n))
def pathR (l:List Seg):Bool:=decide (l.length≤16)&&!l.any segW
def atR (a:At):Bool:=
 decide (0≤a.origin)&&(decide (a.origin≤2)&&(decide (-1≤a.med)&&(decide (a.med≤4294967295)&&(decide (-1≤a.pref)&&(decide (a.pref≤4294967295)&&((a.orig==ad0||router4 a.orig)&&(decide (a.cl.length≤32)&&(decide (a.ex.length≤64)&&(decide (a.tn.length≤1) &&
 (!(a.cl.any fun c=>!router4 c)&&(!(a.tn.any fun t=>!tnR t)&&pathR a.path)))))))))))
def mOne (m:Mr) (s:Int):Bool:=rightF m&&szF s m
def uOne (p:UR) (s:Int):Bool:=okR p.1 p.2&&decide (p.1.s=s)
def rtT (r:Rt):Bool:=(decide (r.size=4)||decide (r.size=16))&&(okAd r.next&&(decide (0<r.next.s)&&(if r.safi=5 then mOne r.m r.size else if r.safi=128 then uOne r.u r.size else false)))
def eqUr (x y:UR):Bool:=sameU x.1.rd x.1.s x.1.b x.1.k y.1.rd y.1.s y.1.b y.1.k&&(x.2==y.2)
def rtR (r:Rt):Bool:=(if r.safi=5 then eqUr r.u (nm0,0) else if r.safi=128 then r.m==mr0 else true)&&(atR r.att&&rtT r)
theorem rowM_one (m:Mr):rowM [m]=if rightF m=true then(mbytes m,0) else([],1):=by
 unfold rowM flatM
 cases h:rightF m with
 | true=>simp[h]
 | false=>simp[h]
theorem mbytes_ne (m:Mr):mbytes m≠[]:=by unfold mbytes;simp
theorem takeM_all {m:Mr} {s:Int} (h:okM m) (hr:rightF m=true) (hs:s=4∨s=16):takeM (mbytes m) s=if szF s m=true then⟨m,(mbytes m).length,0⟩ else⟨mr0,0,4⟩:=by
 have:=takeM_back (t:=[]) h hr hs
 rw[List.append_nil] at this;exact this
theorem readM_one {m:Mr} {s:Int} (h:okM m) (hr:rightF m=true) (hs:s=4∨s=16):readRM (mbytes m) s=if szF s m=true then([m],0) else([],4):=by
 have ht:=takeM_all h hr hs
 have hl:0<(mbytes m).length:=List.length_pos_iff.2 (mbytes_ne m)
 unfold readRM
 rw[if_neg (fun e=>hs.elim e.1 e.2),rrM,if_neg (mbytes_ne m)]
 cases hz:szF s m with
 | true=>
   rw[hz,if_pos rfl] at ht
   rw[ht,if_pos ⟨rfl,hl,hl⟩,if_pos rfl]
   show rrM s ((mbytes m).drop (mbytes m).length) ([]++[m])=_
   rw[List.drop_length,rrM,if_pos rfl];rfl
 | false=>
   rw[hz,if_neg (by simp)] at ht
   rw[ht,if_neg (fun e=>by have:=e.1;cases this)]
   rfl
theorem rowF_one (p:UR):rowF [p]=if okR p.1 p.2=true then(ubN p.1 p.2,0) else([],1):=by
 unfold rowF flatB
 cases h:okR p.1 p.2 with
 | true=>simp[h]
 | false=>simp[h]
theorem rrF_s:∀ (n:Nat) (s:Int) (l:List UInt8) (out:List UR),l.length=n→∀ q,q∈(rrF s l out).1→q∈out∨q.1.s=s:=by
 intro n
 induction n using Nat.strongRecOn with
 | _ n ih=>
   intro s l out hn q hq
   rw[rrF] at hq
   split at hq
   ·exact .inl hq
   ·split at hq
    ·rename_i ht
     rcases ih (l.drop (takeF l s).n).length (by rw[List.length_drop];omega) s _ _ rfl q hq with h|h
     ·rcases List.mem_append.1 h with h|h
      ·exact .inl h
      ·simp at h;subst h;exact .inr (takeF_good ht.1).2.1
     ·exact .inr h
    ·cases hq
theorem ubN_ne {x:Nm} {a:Int} (h:okN x):ubN x a≠[]:=fun e=>by
 have:=congrArg List.length e
 rw[ubN_len h] at this
 simp at this
theorem readF_one {p:UR} (h:okUr p) (hr:okR p.1 p.2=true):readF (ubN p.1 p.2) p.1.s=([p],0):=by
 have ht:=takeF_back h hr []
 rw[List.append_nil] at ht
 have hs:=(okR_parts hr).1
 have hne:=ubN_ne (a:=p.2) h
 have hl:0<(ubN p.1 p.2).length:=List.length_pos_iff.2 hne
 unfold readF
 rw[if_neg (fun e=>hs.elim e.1 e.2),rrF,if_neg hne,ht,if_pos ⟨rfl,hl,hl⟩]
 try dsimp only
 rw[List.drop_length,rrF,if_pos rfl];rfl
theorem readF_other {p:UR} {s:Int} {l:List UInt8} (hs:p.1.s≠s):(readF l s).1≠[p]:=by
 intro e
 unfold readF at e
 split at e
 ·cases e
 ·have:=rrF_s _ s l [] rfl p (by rw[e];simp)
  rcases this with h|h
  ·cases h
  ·exact hs h
theorem rr_good:∀ (n:Nat) (s:Int) (l:List UInt8) (out:List UR),l.length=n→(rrF s l out).2=0→(okRow out→okRow (rrF s l out).1)∧(out.all (fun p=>okR p.1 p.2)=true→(rrF s l out).1.all (fun p=>okR p.1 p.2)=true)∧flatB (rrF s l out).1=flatB out++l:=by
 intro n
 induction n using Nat.strongRecOn with
 | _ n ih=>
   intro s l out hn h
   rw[rrF] at h ⊢
   split at h
   ·rename_i hl
    rw[if_pos hl,hl,List.append_nil]
    exact⟨id,id,rfl⟩
   ·rename_i hl
    rw[if_neg hl]
    split at h
    ·rename_i ht
     rw[if_pos ht]
     obtain⟨a1,a2,a3,a4,a5⟩:=takeF_good ht.1
     obtain⟨b1,b2,b3⟩:=ih (l.drop (takeF l s).n).length (by rw[List.length_drop];omega) s _ _ rfl h
     refine⟨fun ho=>b1 fun p hp=>?_,fun ho=>b2 ?_,?_⟩
     ·rcases List.mem_append.1 hp with hp|hp
      ·exact ho p hp
      ·simp at hp;subst hp;exact takeF_ok l s
     ·rw[List.all_append,ho];simp[a1]
     ·rw[b3,flatB_snoc,a3,List.append_assoc,List.take_append_drop]
    ·rename_i ht
     rw[if_neg ht]
     exfalso
     refine ht ⟨h,?_,List.length_pos_iff.2 hl⟩
     have:=(takeF_good h).2.2.2.2
     omega
theorem read_good {l:List UInt8} {s:Int} (h:(readF l s).2=0):okRow (readF l s).1∧rowF (readF l s).1=(l,0):=by
 unfold readF at *
 split at h
 ·cases h
 ·rename_i hs
  rw[if_neg hs]
  obtain⟨a,b,c⟩:=rr_good _ s l [] rfl h
  refine⟨a fun p hp=>by simp at hp,?_⟩
  unfold rowF
  rw[if_pos (b rfl),c];rfl
theorem rr_len:∀ (n:Nat) (s:Int) (l:List UInt8) (out:List UR),l.length=n→(rrF s l out).1.length≤out.length+l.length:=by
 intro n
 induction n using Nat.strongRecOn with
 | _ n ih=>
   intro s l out hn
   rw[rrF]
   split
   ·simp
   ·split
    ·rename_i ht
     have:=ih (l.drop (takeF l s).n).length (by rw[List.length_drop];omega) s _ (out++[((takeF l s).x,(takeF l s).a)]) rfl
     rw[List.length_append,List.length_drop] at this
     simp only[List.length_cons,List.length_nil] at this
     omega
    ·simp
theorem read_len (l:List UInt8) (s:Int):(readF l s).1.length≤l.length:=by
 unfold readF;split
 ·simp
 ·have:=rr_len _ s l [] rfl;simpa using this
end Go.Proofs.YtdpeaefgbmkegaaGreatDoor
