/- slices.Clone; rib.copied. -/
import Derived.Test.YtdpeaefgbmkegaaGreatDoorHL
import Derived.Test.YtdpeaefgbmkegaaGreatDoorF55
set_option maxHeartbeats 8000000
namespace Go.Proofs.YtdpeaefgbmkegaaGreatDoor
open Go Go.V
set_option maxRecDepth 10000
attribute [local irreducible] vBuild vCallV
def atP (a:At) (p t:PV):List PV:=[.int .i64 a.origin]++([p]++([.int .i64 a.med]++([.int .i64 a.pref]++(adc a.orig++([.sl (a.cl.map adc)]++([.sl (a.ex.map u8c)]++[t]))))))
section
variable {a:At} {p t v:PV}
theorem atP_len (h:okAt a):(atP a p t).length=24:=by
 unfold atP;simp only[List.length_append,List.length_cons,List.length_nil,adc_len h.orig]
theorem atP_all (h:okAt a):cut (atP a p t) 0 (some 24)=some (.agg (atP a p t)):=cut_hd0 (atP_len h)
theorem atP_sc (hp:scalar p=true) (ht:scalar t=true):(atP a p t).all scalar=true:=by
 unfold atP
 have si:∀ n,scalar (.int .i64 n)=true:=fun _=>rfl
 have sl:∀ es,scalar (.sl es)=true:=fun _=>rfl
 simp only[List.all_append,adc_sc,List.all_cons,List.all_nil,hp,ht,si,sl,Bool.and_self]
theorem atP_gp:cut (atP a p t) 1 none=some p:=rfl
theorem atP_gc (h:okAt a):cut (atP a p t) 21 none=some (.sl (a.cl.map adc)):=cut_sk (n:=1) (o:=20) rfl rfl (cut_sk (n:=1) (o:=19) rfl rfl (cut_sk (n:=1) (o:=18) rfl rfl (cut_sk (n:=1) (o:=17) rfl rfl (cut_sk (o:=0) (adc_len h.orig) rfl rfl))))
theorem atP_ge (h:okAt a):cut (atP a p t) 22 none=some (.sl (a.ex.map u8c)):=cut_sk (n:=1) (o:=21) rfl rfl (cut_sk (n:=1) (o:=20) rfl rfl (cut_sk (n:=1) (o:=19) rfl rfl (cut_sk (n:=1) (o:=18) rfl rfl (cut_sk (o:=1) (adc_len h.orig) rfl rfl))))
theorem atP_gt (h:okAt a):cut (atP a p t) 23 none=some t:=cut_sk (n:=1) (o:=22) rfl rfl (cut_sk (n:=1) (o:=21) rfl rfl (cut_sk (n:=1) (o:=20) rfl rfl (cut_sk (n:=1) (o:=19) rfl rfl (cut_sk (o:=2) (adc_len h.orig) rfl rfl))))
theorem atP_sp:splice (atP a p t) 1 [v]=atP a v t:=spl_sk (n:=1) (o:=0) rfl rfl (spl_hd rfl)
theorem atP_s5 (h:okAt a):splice (atP a p t) 21 [.sl (a.cl.map adc)]=atP a p t:=spl_sk (n:=1) (o:=20) rfl rfl (spl_sk (n:=1) (o:=19) rfl rfl (spl_sk (n:=1) (o:=18) rfl rfl (spl_sk (n:=1) (o:=17) rfl rfl (spl_sk (o:=0) (adc_len h.orig) rfl (spl_hd rfl)))))
theorem atP_s6 (h:okAt a):splice (atP a p t) 22 [.sl (a.ex.map u8c)]=atP a p t:=spl_sk (n:=1) (o:=21) rfl rfl (spl_sk (n:=1) (o:=20) rfl rfl (spl_sk (n:=1) (o:=19) rfl rfl (spl_sk (n:=1) (o:=18) rfl rfl (spl_sk (o:=1) (adc_len h.orig) rfl (spl_sk (n:=1) (o:=0) rfl rfl (spl_hd rfl))))))
theorem atP_st (h:okAt a):splice (atP a p t) 23 [v]=atP a p v:=spl_sk (n:=1) (o:=22) rfl rfl (spl_sk (n:=1) (o:=21) rfl rfl (spl_sk (n:=1) (o:=20) rfl rfl (spl_sk (n:=1) (o:=19) rfl rfl (spl_sk (o:=2) (adc_len h.orig) rfl (spl_sk (n:=1) (o:=1) rfl rfl (spl_sk (n:=1) (o:=0) rfl rfl (spl_hd0 rfl)))))))
theorem atP_inl {n:Nat} {L0 L L1 L':VHeap} {p' t':PV} (h1:InlA n L0 L [p] [p'] L1) (h2:InlA n L0 L1 [t] [t'] L'):InlA n L0 L (atP a p t) (atP a p' t') L':=by
 have h3:InlA n L0 L1 ([.int .i64 a.med]++([.int .i64 a.pref]++(adc a.orig++([.sl (a.cl.map adc)]++([.sl (a.ex.map u8c)]++[t]))))) ([.int .i64 a.med]++([.int .i64 a.pref]++(adc a.orig++([.sl (a.cl.map adc)]++([.sl (a.ex.map u8c)]++[t']))))) L':=
  InlA_app (InlA_pl inferInstance) (InlA_app (InlA_pl inferInstance) (InlA_app (InlA_pl inferInstance) (InlA_app (InlA_pl inferInstance) (InlA_app (InlA_pl inferInstance) h2))))
 exact InlA_app (InlA_pl inferInstance) (InlA_app h1 h3)
end
def rtP (r:Rt) (x:List PV):List PV:=[.int .i64 r.size]++([.int .i64 r.safi]++(mrc r.m++(urU r.u++(adc r.next++x))))
section
variable {r:Rt} {x y:List PV}
theorem rtP_len (h:okRt r) (hx:x.length=24):(rtP r x).length=132:=by
 unfold rtP
 rw[List.length_append,List.length_append,List.length_append,List.length_append,List.length_append,mrc_len h.m,urU_len h.u,adc_len h.next,hx];rfl
theorem rtP_all (h:okRt r) (hx:x.length=24):cut (rtP r x) 0 (some 132)=some (.agg (rtP r x)):=cut_hd0 (rtP_len h hx)
theorem rtP_sc (hx:x.all scalar=true):(rtP r x).all scalar=true:=by
 unfold rtP
 have si:∀ n,scalar (.int .i64 n)=true:=fun _=>rfl
 simp only[List.all_append,mrc_sc,urU_sc,adc_sc,List.all_cons,List.all_nil,hx,si,Bool.and_self]
theorem rtP_s (h:okRt r) (hx:x.length=24) (hy:y.length=24):splice (rtP r x) 108 y=rtP r y:=spl_sk (n:=1) (o:=107) rfl rfl (spl_sk (n:=1) (o:=106) rfl rfl (spl_sk (o:=44) (mrc_len h.m) rfl (spl_sk (o:=17) (urU_len h.u) rfl (spl_sk (o:=0) (adc_len h.next) rfl (spl_hd0 (by rw[hx,hy]))))))
theorem rtP_inl {n:Nat} {L0 L L':VHeap} (h:InlA n L0 L x y L'):InlA n L0 L (rtP r x) (rtP r y) L':=
 InlA_app (InlA_pl inferInstance) (InlA_app (InlA_pl inferInstance) (InlA_app (InlA_pl inferInstance) (InlA_app (InlA_pl inferInstance) (InlA_app (InlA_pl inferInstance) h))))
instance [PlL x]:PlL (rtP r x):=by unfold rtP;infer_instance
instance [ClL x]:ClL (rtP r x):=by unfold rtP;infer_instance
end
theorem uClE {es:List (List PV)} [ClLL es] (hok:RowOk 8 es) (hl:es.length * 8≤140737488355328):U Tryz.prog 119 [.sl es] (.sl es):=by
 intro σ Post hk
 refine T119 fun hB hA=>?_
 refine W ?_
 refine nilE rfl rfl ?_ fun hn=>?_
 ·refine W ?_
  exact hk
 ·refine W ?_
  rw[hn] at hk
  exact hk
theorem uClA {es:List (List PV)} [ClLL es] (hok:RowOk 17 es) (hl:es.length * 24≤140737488355328):U Tryz.prog 120 [.sl es] (.sl es):=by
 intro σ Post hk
 refine T120 fun hB hA=>?_
 refine W ?_
 refine nilE rfl rfl ?_ fun hn=>?_
 ·refine W ?_
  exact hk
 ·refine W ?_
  rw[hn] at hk
  exact hk
theorem uClI {es:List (List PV)} [ClLL es] (hok:RowOk 1 es) (hl:es.length * 8≤140737488355328):U Tryz.prog 198 [.sl es] (.sl es):=by
 intro σ Post hk
 refine T198 fun hB hA=>?_
 refine W ?_
 refine nilE rfl rfl ?_ fun hn=>?_
 ·refine W ?_
  exact hk
 ·refine W ?_
  rw[hn] at hk
  exact hk
theorem uClB {es:List (List PV)} [ClLL es] (hok:RowOk 1 es) (hl:es.length * 1≤140737488355328):U Tryz.prog 200 [.sl es] (.sl es):=by
 intro σ Post hk
 refine T200 fun hB hA=>?_
 refine W ?_
 refine nilE rfl rfl ?_ fun hn=>?_
 ·refine W ?_
  exact hk
 ·refine W ?_
  rw[hn] at hk
  exact hk
theorem cf197r:cFun Tryz.prog rawF true Tryz.f197=some ⟨8,3,vb197,[.tmp 2],true⟩:=by kernel_rfl
theorem tClS {σ L:VHeap} {n k:Nat} {Post:KP} {es:List (List PV)} (hok:RowOk 2 es) (hl:es.length * 32≤140737488355328)
  (hk:∀ (J:VHeap) (b g:Nat),J.length=3→vGet J b g=some (.row 2 es false)→Post (.row (n+(k+b)) g) (σ++(L++J))) (hn:σ.length=n:=by exact z_hn) (hL:L.length=k:=by exact z_ll):T Tryz.prog 197 [.sl es] (σ++L) Post:=by
 subst hn hL
 refine T.walkR Tryz.func197 cf197r (Nat.le_of_ble_eq_true rfl) rfl ?_
 refine W ?_
 refine nilE rfl rfl ?_ fun hn=>?_
 ·refine W ?_
  refine ret_raw (.inl rfl) rfl (by exact z_rw) ?_
  have:=hk [(1,.row 2 [] false),(2,.row 2 es false),(0,.dead)] 1 2 rfl rfl
  rw[← Nat.add_assoc,← List.length_append,← List.append_assoc] at this
  exact this
 ·subst hn
  refine W ?_
  refine ret_raw (.inl rfl) rfl (by exact z_rw) ?_
  have:=hk [(2,.row 2 [] false),(0,.dead),(0,.dead)] 0 2 rfl rfl
  rw[← Nat.add_assoc,← List.length_append,← List.append_assoc] at this
  exact this
theorem cf199r:cFun Tryz.prog rawF true Tryz.f199=some ⟨8,3,vb199,[.tmp 2],true⟩:=by kernel_rfl
theorem tClT {σ L:VHeap} {n k:Nat} {Post:KP} {es:List (List PV)} (hok:RowOk 21 es) (hl:es.length * 72≤140737488355328)
  (hk:∀ (J:VHeap) (b g:Nat),J.length=3→vGet J b g=some (.row 21 es false)→Post (.row (n+(k+b)) g) (σ++(L++J))) (hn:σ.length=n:=by exact z_hn) (hL:L.length=k:=by exact z_ll):T Tryz.prog 199 [.sl es] (σ++L) Post:=by
 subst hn hL
 refine T.walkR Tryz.func199 cf199r (Nat.le_of_ble_eq_true rfl) rfl ?_
 refine W ?_
 refine nilE rfl rfl ?_ fun hn=>?_
 ·refine W ?_
  refine ret_raw (.inl rfl) rfl (by exact z_rw) ?_
  have:=hk [(1,.row 21 [] false),(2,.row 21 es false),(0,.dead)] 1 2 rfl rfl
  rw[← Nat.add_assoc,← List.length_append,← List.append_assoc] at this
  exact this
 ·subst hn
  refine W ?_
  refine ret_raw (.inl rfl) rfl (by exact z_rw) ?_
  have:=hk [(2,.row 21 [] false),(0,.dead),(0,.dead)] 0 2 rfl rfl
  rw[← Nat.add_assoc,← List.length_append,← List.append_assoc] at this
  exact this
end Go.Proofs.YtdpeaefgbmkegaaGreatDoor
