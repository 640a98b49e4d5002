/- relay.passed. -/
import Derived.Test.YtdpeaefgbmkegaaGreatDoorHJ
set_option maxHeartbeats 8000000
namespace Go.Proofs.YtdpeaefgbmkegaaGreatDoor
open Go Go.V
set_option maxRecDepth 10000
set_option linter.unusedVariables false
structure Ch where
 route:Rt
 peer:Int
 id:Ad
def chC (x:Ch):List PV:=rtC x.route++([.int .i64 x.peer]++(adc x.id))
instance (x:Ch):PlL (chC x):=by unfold chC;infer_instance
instance (x:Ch):ClL (chC x):=by unfold chC;infer_instance
structure okCh (x:Ch):Prop where
 route:okRt x.route
 id:okD x.id
section
variable {x:Ch}
theorem chC_sc:(chC x).all scalar=true:=by
 unfold chC
 simp only[List.all_append,rtC_sc,adc_sc,List.all_cons,List.all_nil,scalar,Bool.and_self]
theorem chC_len (h:okCh x):(chC x).length=150:=by
 unfold chC
 simp only[List.length_append,List.length_cons,List.length_nil,(rtC_len h.route),(adc_len h.id)]
theorem chC_all (h:okCh x):cut (chC x) 0 (some 150)=some (.agg (chC x)):=cut_hd0 (chC_len h)
theorem chC_groute (h:okCh x):cut (chC x) 0 (some 132)=some (.agg (rtC x.route)):=cut_hd (rtC_len h.route)
theorem chC_gpeer (h:okCh x):cut (chC x) 132 none=some (.int .i64 x.peer):=cut_sk (o:=0) (rtC_len h.route) rfl (rfl)
theorem chC_gid (h:okCh x):cut (chC x) 133 (some 17)=some (.agg (adc x.id)):=cut_sk (o:=1) (rtC_len h.route) rfl (cut_sk (o:=0) rfl rfl (cut_hd0 (adc_len h.id)))
end
open D in
def vb72_6:VC:=
 Rg [Mv 37 7,m 38 (Fl 108 6),m 39 (Fl 21 38),e (.store 1 (t 39) (t 37))]<|
 .seq (Rg [m 41 (Ls 132 6),m 42 (.call false 32 [(t 41)]),Mv 40 42,m 43 (.extract 0 (t 40)),m 44 (.extract 1 (t 40)),Mv 8 43,Mv 9 44]<|
 Rg [Mv 45 9,m 46 (.un .not (t 45)),Mv 47 46,Gf 48 47 (Ls 17 2),Gf 49 47 (.call false 71 [(t 48)]),Gf 50 47 (.un .not (t 49)),m 51 (.pick (t 47) Bt (t 50))]<|
 .cond (t 51) (Rg [m 52 (.build [q,q,q,o,o,o,o,o,o,o,o,q,q,o,o,o,o,o,o,o,o,o,o,o,o,o,o,o,o,q,o,o,o,o,o,o,o,o,o,o,o,o,o,o,o,o,q,o,o,o,o,o,o,o,o,o,o,o,o,o,o,o,o,(.str []),o,o,o,o,o,o,o,o,q,o,o,o,o,o,o,o,o,o,o,o,o,o,o,o,o,q,q,q,o,o,o,o,o,o,o,o,o,o,o,o,o,o,o,o,q,.nils,q,q,q,o,o,o,o,o,o,o,o,o,o,o,o,o,o,o,o,.nils,.nils,.nils] []),e (.store 132 (t 4) (t 52)),m 5 (.mov Bf)]<|
 .ret) (.skip))<|
 Rg [m 53 (Ls 132 6),e (.store 132 (t 4) (t 53)),m 5 (.mov Bt)]<|
 .ret
open D in
theorem vb72_6_eq:vb72_6 =
 (Rg [Mv 37 7,m 38 (Fl 108 6),m 39 (Fl 21 38),e (.store 1 (t 39) (t 37))]<|
 .seq (Rg [m 41 (Ls 132 6),m 42 (.call false 32 [(t 41)]),Mv 40 42,m 43 (.extract 0 (t 40)),m 44 (.extract 1 (t 40)),Mv 8 43,Mv 9 44]<|
 Rg [Mv 45 9,m 46 (.un .not (t 45)),Mv 47 46,Gf 48 47 (Ls 17 2),Gf 49 47 (.call false 71 [(t 48)]),Gf 50 47 (.un .not (t 49)),m 51 (.pick (t 47) Bt (t 50))]<|
 .cond (t 51) (Rg [m 52 (.build [q,q,q,o,o,o,o,o,o,o,o,q,q,o,o,o,o,o,o,o,o,o,o,o,o,o,o,o,o,q,o,o,o,o,o,o,o,o,o,o,o,o,o,o,o,o,q,o,o,o,o,o,o,o,o,o,o,o,o,o,o,o,o,(.str []),o,o,o,o,o,o,o,o,q,o,o,o,o,o,o,o,o,o,o,o,o,o,o,o,o,q,q,q,o,o,o,o,o,o,o,o,o,o,o,o,o,o,o,o,q,.nils,q,q,q,o,o,o,o,o,o,o,o,o,o,o,o,o,o,o,o,.nils,.nils,.nils] []),e (.store 132 (t 4) (t 52)),m 5 (.mov Bf)]<|
 .ret) (.skip))<|
 Rg [m 53 (Ls 132 6),e (.store 132 (t 4) (t 53)),m 5 (.mov Bt)]<|
 .ret):=rfl
open D in
def vb72_5:VC:=
 .seq (.dreg [(Mv 31 7,[]),(m 32 (.sliceV 17 (t 31) (some (Ci 1)) none),[0]),(m 33 (Fl 108 6),[]),(m 34 (Fl 21 33),[2]),(m 35 (Ld 34),[3]),(m 36 (.copyTo 17 (t 32) (t 35)),[1,4])] [(2,0),(1,1),(1,2),(1,3),(1,4),(0,5)] [0,1,0,4,12,31])<|
 vb72_6
open D in
theorem vb72_5_eq:vb72_5 =
 (.seq (.dreg [(Mv 31 7,[]),(m 32 (.sliceV 17 (t 31) (some (Ci 1)) none),[0]),(m 33 (Fl 108 6),[]),(m 34 (Fl 21 33),[2]),(m 35 (Ld 34),[3]),(m 36 (.copyTo 17 (t 32) (t 35)),[1,4])] [(2,0),(1,1),(1,2),(1,3),(1,4),(0,5)] [0,1,0,4,12,31])<|
 vb72_6):=rfl
open D in
def vb72_3:VC:=
 Rg [m 22 (Fl 108 6),m 23 (Fl 21 22),m 24 (Ld 23),m 25 (.len (t 24)),m 26 (.bin .add .num (Ci 1) (t 25)),m 27 (.makeSlice 4 17 24 [q,o,o,o,o,o,o,o,o,o,o,o,o,o,o,o,o] (t 26) (t 26)),Mv 7 27]<|
 Rg [Mv 28 7,m 29 (Ls 17 2),m 30 (.index 17 (t 28) (.c q)),e (.store 17 (t 30) (t 29))]<|
 vb72_5
open D in
theorem vb72_3_eq:vb72_3 =
 (Rg [m 22 (Fl 108 6),m 23 (Fl 21 22),m 24 (Ld 23),m 25 (.len (t 24)),m 26 (.bin .add .num (Ci 1) (t 25)),m 27 (.makeSlice 4 17 24 [q,o,o,o,o,o,o,o,o,o,o,o,o,o,o,o,o] (t 26) (t 26)),Mv 7 27]<|
 Rg [Mv 28 7,m 29 (Ls 17 2),m 30 (.index 17 (t 28) (.c q)),e (.store 17 (t 30) (t 29))]<|
 vb72_5):=rfl
open D in
theorem vb72_eq:vb72 =
 (Rg [m 2 (.box 0 (t 0)),m 3 (.box 1 (t 1)),m 4 (.alloc 2 [q,q,q,o,o,o,o,o,o,o,o,q,q,o,o,o,o,o,o,o,o,o,o,o,o,o,o,o,o,q,o,o,o,o,o,o,o,o,o,o,o,o,o,o,o,o,q,o,o,o,o,o,o,o,o,o,o,o,o,o,o,o,o,(.str []),o,o,o,o,o,o,o,o,q,o,o,o,o,o,o,o,o,o,o,o,o,o,o,o,o,q,q,q,o,o,o,o,o,o,o,o,o,o,o,o,o,o,o,o,q,.nils,q,q,q,o,o,o,o,o,o,o,o,o,o,o,o,o,o,o,o,.nils,.nils,.nils]),m 5 (.mov Bf)]<|
 Rg [m 10 (Fl 0 3),m 11 (Ls 132 10),m 12 (.call false 70 [(t 11)]),m 6 (.alloc 3 [q,q,q,o,o,o,o,o,o,o,o,q,q,o,o,o,o,o,o,o,o,o,o,o,o,o,o,o,o,q,o,o,o,o,o,o,o,o,o,o,o,o,o,o,o,o,q,o,o,o,o,o,o,o,o,o,o,o,o,o,o,o,o,(.str []),o,o,o,o,o,o,o,o,q,o,o,o,o,o,o,o,o,o,o,o,o,o,o,o,o,q,q,q,o,o,o,o,o,o,o,o,o,o,o,o,o,o,o,o,q,.nils,q,q,q,o,o,o,o,o,o,o,o,o,o,o,o,o,o,o,o,.nils,.nils,.nils]),e (.store 132 (t 6) (t 12))]<|
 .seq (Rg [m 13 (Fl 108 6),m 14 (Fl 4 13),m 15 (Fl 0 14),m 16 (Ld 15),m 17 (.bin .eql .num (t 16) (.c q))]<|
 .cond (t 17) (.region [m 18 (Fl 133 3),m 19 (Ls 17 18),m 20 (Fl 108 6),m 21 (Fl 4 20),e (.store 17 (t 21) (t 19))]) (.skip))<|
 vb72_3):=rfl
attribute [local irreducible] vBuild vCallV
section
variable {r:Rt} {x v:PV} {a:At} {o:Nat} {c d:PV}
theorem rt_ga {o:Nat} {sz:Option Nat} {q:Option PV} (h:okRt r) (e:cut (atC r.att) o sz=q):cut (rtC r) (108+o) sz=q:=
 cut_sk (n:=1) (o:=107+o) rfl (by omega) (cut_sk (n:=1) (o:=106+o) rfl (by omega) (cut_sk (o:=44+o) (mrc_len h.m) (by omega) (cut_sk (o:=17+o) (urU_len h.u) (by omega) (cut_sk (o:=o) (adc_len h.next) (by omega) e))))
theorem rt_sa {o:Nat} {v q:List PV} (h:okRt r) (e:splice (atC r.att) o v=q):splice (rtC r) (108+o) v=rtP r q:=
 spl_sk (n:=1) (o:=107+o) rfl (by omega) (spl_sk (n:=1) (o:=106+o) rfl (by omega) (spl_sk (o:=44+o) (mrc_len h.m) (by omega) (spl_sk (o:=17+o) (urU_len h.u) (by omega) (spl_sk (o:=o) (adc_len h.next) (by omega) e))))
def atQ (a:At) (c:PV):List PV:=[.int .i64 a.origin]++([.sl (a.path.map segC)]++([.int .i64 a.med]++([.int .i64 a.pref]++(adc a.orig++([c]++([.sl (a.ex.map u8c)]++[.sl (a.tn.map tnC)]))))))
theorem atQ_len (h:okAt a):(atQ a c).length=24:=by
 unfold atQ;simp only[List.length_append,List.length_cons,List.length_nil,adc_len h.orig]
theorem atQ_sc (hc:scalar c=true):(atQ a c).all scalar=true:=by
 unfold atQ
 have si:∀ n,scalar (.int .i64 n)=true:=fun _=>rfl
 have sl:∀ es,scalar (.sl es)=true:=fun _=>rfl
 simp only[List.all_append,adc_sc,List.all_cons,List.all_nil,hc,si,sl,Bool.and_self]
theorem atC_sQ (h:okAt a):splice (atC a) 21 [c]=atQ a c:=spl_sk (n:=1) (o:=20) rfl rfl (spl_sk (n:=1) (o:=19) rfl rfl (spl_sk (n:=1) (o:=18) rfl rfl (spl_sk (n:=1) (o:=17) rfl rfl (spl_sk (o:=0) (adc_len h.orig) rfl (spl_hd rfl)))))
theorem atQ_inl {n:Nat} {L0 L L':VHeap} (h:InlA n L0 L [c] [d] L'):InlA n L0 L (atQ a c) (atQ a d) L':=
 InlA_app (InlA_pl inferInstance) (InlA_app (InlA_pl inferInstance) (InlA_app (InlA_pl inferInstance) (InlA_app (InlA_pl inferInstance) (InlA_app (InlA_pl inferInstance) (InlA_app h (InlA_pl inferInstance))))))
end
def zAt:List PV:=[.int .i64 0]++([.nils]++([.int .i64 0]++([.int .i64 0]++(adc ad0++([.nils]++([.nils]++[.nils]))))))
def rtZ:List PV:=rtP rt0 zAt
theorem rt0_ok:okRt rt0:=⟨mr0_ok,nm0_ok,ad0_ok,⟨ad0_ok⟩⟩
theorem rtZ_len:rtZ.length=132:=rtP_len rt0_ok rfl
theorem rtZ_any {Zb:List PV} (hZ:Zb.length=132):splice Zb 0 rtZ=rtZ:=spl_hd0 (by rw[rtZ_len,hZ])
theorem rtZ_inl {n:Nat} {L0 L:VHeap}:InlA n L0 L rtZ (rtC rt0) L:=
 rtP_inl (y:=atC at0) (InlA_app (InlA_pl inferInstance) (InlA_app (.nils (.nil _)) (InlA_app (InlA_pl inferInstance) (InlA_app (InlA_pl inferInstance) (InlA_app (InlA_pl inferInstance) (InlA_app (.nils (.nil _)) (InlA_app (.nils (.nil _)) (.nils (.nil _)))))))))
def origR (c:Ch):Rt:=if c.route.att.orig.s=0 then { c.route with att:={ c.route.att with orig:=c.id } } else c.route
def clR (k:Ad) (r:Rt):Rt:={ r with att:={ r.att with cl:=k::r.att.cl } }
def passF (k:Ad) (c:Ch):Rt × Bool:=if rtR (clR k (origR c))=true∧router4 k=true then(clR k (origR c),true) else(rt0,false)
theorem clR_ok {k:Ad} {r:Rt} (hk:okD k) (h:okRib r):okRib (clR k r):=by
 refine⟨⟨h.ok.m,h.ok.u,h.ok.next,⟨h.ok.att.orig⟩⟩,fun c hc=>?_,h.tn,h.id,h.key⟩
 rcases List.mem_cons.1 hc with rfl|hc
 ·exact hk
 ·exact h.cl c hc
theorem origR_ok {c:Ch} (h:okRib c.route) (hi:okD c.id):okRib (origR c):=by
 unfold origR;split
 ·exact⟨⟨h.ok.m,h.ok.u,h.ok.next,⟨hi⟩⟩,h.cl,h.tn,h.id,h.key⟩
 ·exact h
section
variable {r:Rt} {k:Ad} {c:Ch} {σ:VHeap} {Post:KP} {Zb:List PV} {q:List (List PV)} {env:Env} {g:Nat}
def psH (k:Ad) (c:Ch) (Zb x:List PV) (o:Nat × VObj):VHeap:=[(1,VObj.box (adc k) false),(1,.box (chC c) false),(1,.box Zb false),(1,.box x false),o]
theorem ps6 (h:okRib r) (hk:okD k) (hB:belH σ.length σ) (e2:env 2=.ptr (σ.length+0) 1 0) (e3:env 3=.ptr (σ.length+1) 1 0) (e4:env 4=.ptr (σ.length+2) 1 0) (e6:env 6=.ptr (σ.length+3) 1 0) (e7:env 7=.row (σ.length+4) 1) (hZ:Zb.length=132) (hp:Post (.tup [.agg (rtC (if rtR (clR k r)=true∧router4 k=true then(clR k r,true) else(rt0,false)).1),.bool (if rtR (clR k r)=true∧router4 k=true then(clR k r,true) else(rt0,false)).2]) σ) :
  vrun Tryz.prog σ.length vb72_6 env (σ++psH k c Zb (rtC r) (1,.row 17 ((k::r.att.cl).map adc) false)) (vend vf72 (TrimP σ.length Post)):=by
 rw[vb72_6_eq]
 unfold psH
 have kl:=adc_len hk
 have kc:=adc_all hk
 have ks:=adc_sc (a:=k)
 have al:(atQ r.att (.row (σ.length+4) 1)).length=24:=atQ_len h.ok.att
 have asc:=atQ_sc (a:=r.att) (c:=.row (σ.length+4) 1) rfl
 have q1:splice (rtC r) 129 [.row (σ.length+4) 1]=rtP r (atQ r.att (.row (σ.length+4) 1)):=rt_sa (o:=21) h.ok (atC_sQ h.ok.att)
 have rl:=rtC_len h.ok
 have pl:=rtP_len h.ok al
 have pa:=rtP_all h.ok al
 have ps:=rtP_sc (r:=r) asc
 have q2:splice Zb 0 (rtP r (atQ r.att (.row (σ.length+4) 1)))=rtP r (atQ r.att (.row (σ.length+4) 1)):=spl_hd0 (by rw[pl,hZ])
 have z0:splice Zb 0 [PV.int .i64 0,.int .i64 0,.int .i64 0,D.o,D.o,D.o,D.o,D.o,D.o,D.o,D.o,.int .i64 0,.int .i64 0,D.o,D.o,D.o,D.o,D.o,D.o,D.o,D.o,D.o,D.o,D.o,D.o,D.o,D.o,D.o,D.o,.int .i64 0,D.o,D.o,D.o,D.o,D.o,D.o,D.o,D.o,D.o,D.o,D.o,D.o,D.o,D.o,D.o,D.o,.int .i64 0,D.o,D.o,D.o,D.o,D.o,D.o,D.o,D.o,D.o,D.o,D.o,D.o,D.o,D.o,D.o,D.o,.str [],D.o,D.o,D.o,D.o,D.o,D.o,D.o,D.o,.int .i64 0,D.o,D.o,D.o,D.o,D.o,D.o,D.o,D.o,D.o,D.o,D.o,D.o,D.o,D.o,D.o,D.o,.int .i64 0,.int .i64 0,.int .i64 0,D.o,D.o,D.o,D.o,D.o,D.o,D.o,D.o,D.o,D.o,D.o,D.o,D.o,D.o,D.o,D.o,.int .i64 0,.nils,.int .i64 0,.int .i64 0,.int .i64 0,D.o,D.o,D.o,D.o,D.o,D.o,D.o,D.o,D.o,D.o,D.o,D.o,D.o,D.o,D.o,D.o,.nils,.nils,.nils]=rtZ:=rtZ_any hZ
 have z1:cut rtZ 0 (some 132)=some (.agg rtZ):=cut_hd0 rtZ_len
 have z2:=rtZ_len
 have o2:=clR_ok hk h
 refine W ?_
 refine cu (uName15 o2) ?_ (by exact z_hn) (by exact z_ma) (InlA.agg (rtP_inl (y:=atC (clR k r).att) (atQ_inl (.row (vGet_of rfl) rfl (.nil _)))) (.nil _)) rfl
 cases hr:rtR (clR k r) with
 | false=>
   rw[hr,if_neg (by simp)] at hp
   refine W ?_
   refine ret_t (xs:=[.agg rtZ,.bool false]) (vs:=[.agg (rtC rt0),.bool false]) (.inl rfl) rfl (by exact z_rw) (InlA.agg rtZ_inl (.pl inferInstance (.nil _))) (ClL.cl _) (by exact z_hn) (by exact z_hb) ?_
   exact hp
 | true=>
   refine W ?_
   refine cu (uRouterR hk) ?_
   cases hk4:router4 k with
   | false=>
     rw[hk4,if_neg (by simp)] at hp
     refine W ?_
     refine ret_t (xs:=[.agg rtZ,.bool false]) (vs:=[.agg (rtC rt0),.bool false]) (.inl rfl) rfl (by exact z_rw) (InlA.agg rtZ_inl (.pl inferInstance (.nil _))) (ClL.cl _) (by exact z_hn) (by exact z_hb) ?_
     exact hp
   | true=>
     rw[hr,hk4,if_pos ⟨rfl,rfl⟩] at hp
     refine W ?_
     refine ret_t (xs:=[.agg (rtP r (atQ r.att (.row (σ.length+4) 1))),.bool true]) (vs:=[.agg (rtC (clR k r)),.bool true]) (.inl rfl) rfl (by exact z_rw) (InlA.agg (rtP_inl (y:=atC (clR k r).att) (atQ_inl (.row (vGet_of rfl) rfl (.nil _)))) (.pl inferInstance (.nil _))) (ClL.cl _) (by exact z_hn) (by exact z_hb) ?_
     exact hp
theorem ps5 (h:okRib r) (hk:okD k) (hB:belH σ.length σ) (e2:env 2=.ptr (σ.length+0) 1 0) (e3:env 3=.ptr (σ.length+1) 1 0) (e4:env 4=.ptr (σ.length+2) 1 0) (e6:env 6=.ptr (σ.length+3) 1 0) (e7:env 7=.row (σ.length+4) 1) (hZ:Zb.length=132) (hq:q.length=r.att.cl.length) (hl:r.att.cl.length≤100000) (hp:Post (.tup [.agg (rtC (if rtR (clR k r)=true∧router4 k=true then(clR k r,true) else(rt0,false)).1),.bool (if rtR (clR k r)=true∧router4 k=true then(clR k r,true) else(rt0,false)).2]) σ) :
  vrun Tryz.prog σ.length vb72_5 env (σ++psH k c Zb (rtC r) (1,.row 17 (adc k::q) false)) (vend vf72 (TrimP σ.length Post)):=by
 rw[vb72_5_eq]
 unfold psH
 have g1:cut (rtC r) 129 none=some (.sl (r.att.cl.map adc)):=rt_ga (o:=21) h.ok (atC_gcl h.ok.att)
 have rl:=rtC_len h.ok
 have b1:(r.att.cl.map adc).length=r.att.cl.length:=List.length_map _
 have oc:RowOk 17 (r.att.cl.map adc):=fun e he=>by obtain⟨c,hc,rfl⟩:=List.mem_map.1 he;exact⟨adc_len (h.cl c hc),adc_sc⟩
 have fin:ovl (adc k::q) (Int.toNat 1) ((adc k::q).length - Int.toNat 1) (r.att.cl.map adc)=(k::r.att.cl).map adc:=by
  show ovl (adc k::q) 1 ((adc k::q).length - 1) (r.att.cl.map adc)=(k::r.att.cl).map adc
  unfold ovl
  rw[List.length_cons,Nat.add_sub_cancel,hq,List.take_of_length_le (l:=r.att.cl.map adc) (by rw[b1];omega),b1,Nat.min_self,List.drop_of_length_le (by rw[List.length_cons];omega),List.append_nil]
  rfl
 refine W ?_
 rw[fin]
 exact ps6 h hk hB e2 e3 e4 e6 e7 hZ hp
theorem ps3 (h:okRib r) (hk:okD k) (hB:belH σ.length σ) (e2:env 2=.ptr (σ.length+0) 1 0) (e3:env 3=.ptr (σ.length+1) 1 0) (e4:env 4=.ptr (σ.length+2) 1 0) (e6:env 6=.ptr (σ.length+3) 1 0) (hZ:Zb.length=132) (hl:r.att.cl.length≤100000) (hp:Post (.tup [.agg (rtC (if rtR (clR k r)=true∧router4 k=true then(clR k r,true) else(rt0,false)).1),.bool (if rtR (clR k r)=true∧router4 k=true then(clR k r,true) else(rt0,false)).2]) σ) :
  vrun Tryz.prog σ.length vb72_3 env (σ++psH k c Zb (rtC r) (0,.dead)) (vend vf72 (TrimP σ.length Post)):=by
 rw[vb72_3_eq]
 unfold psH
 have g1:cut (rtC r) 129 none=some (.sl (r.att.cl.map adc)):=rt_ga (o:=21) h.ok (atC_gcl h.ok.att)
 have rl:=rtC_len h.ok
 have b1:(r.att.cl.map adc).length=r.att.cl.length:=List.length_map _
 have kl:=adc_len hk
 have kc:=adc_all hk
 have ks:=adc_sc (a:=k)
 have hx0:(0:Int)<((List.replicate (1+(r.att.cl.length:Int)).toNat [PV.int .i64 0,D.o,D.o,D.o,D.o,D.o,D.o,D.o,D.o,D.o,D.o,D.o,D.o,D.o,D.o,D.o,D.o]).length:Int):=by rw[List.length_replicate];omega
 have er:List.replicate (1+(r.att.cl.length:Int)).toNat [PV.int .i64 0,D.o,D.o,D.o,D.o,D.o,D.o,D.o,D.o,D.o,D.o,D.o,D.o,D.o,D.o,D.o,D.o]=[PV.int .i64 0,D.o,D.o,D.o,D.o,D.o,D.o,D.o,D.o,D.o,D.o,D.o,D.o,D.o,D.o,D.o,D.o]::List.replicate r.att.cl.length [PV.int .i64 0,D.o,D.o,D.o,D.o,D.o,D.o,D.o,D.o,D.o,D.o,D.o,D.o,D.o,D.o,D.o,D.o]:=by
  rw[show (1+(r.att.cl.length:Int)).toNat=r.att.cl.length+1 by omega,List.replicate_succ]
 have hx1:(List.replicate (1+(r.att.cl.length:Int)).toNat [PV.int .i64 0,D.o,D.o,D.o,D.o,D.o,D.o,D.o,D.o,D.o,D.o,D.o,D.o,D.o,D.o,D.o,D.o])[(0:Int).toNat]?=some [PV.int .i64 0,D.o,D.o,D.o,D.o,D.o,D.o,D.o,D.o,D.o,D.o,D.o,D.o,D.o,D.o,D.o,D.o]:=by rw[er];rfl
 have fin:(List.replicate (1+(r.att.cl.length:Int)).toNat [PV.int .i64 0,D.o,D.o,D.o,D.o,D.o,D.o,D.o,D.o,D.o,D.o,D.o,D.o,D.o,D.o,D.o,D.o]).set (0:Int).toNat (splice [PV.int .i64 0,D.o,D.o,D.o,D.o,D.o,D.o,D.o,D.o,D.o,D.o,D.o,D.o,D.o,D.o,D.o,D.o] 0 (adc k))=adc k::List.replicate r.att.cl.length [PV.int .i64 0,D.o,D.o,D.o,D.o,D.o,D.o,D.o,D.o,D.o,D.o,D.o,D.o,D.o,D.o,D.o,D.o]:=by
  rw[er,show splice [PV.int .i64 0,D.o,D.o,D.o,D.o,D.o,D.o,D.o,D.o,D.o,D.o,D.o,D.o,D.o,D.o,D.o,D.o] 0 (adc k)=adc k from spl_hd0 (by rw[kl];rfl)];rfl
 refine W ?_
 rw[fin]
 exact ps5 h hk hB e2 e3 e4 e6 rfl hZ (List.length_replicate ..) hl hp
end
theorem uPassed {k:Ad} {c:Ch} (hk:okD k) (h:okRib c.route) (ex8:∀ e,e∈c.route.att.ex→e.length=8) (hi:okD c.id) (hr:rtR c.route=true):U Tryz.prog 72 [.agg (adc k),.agg (chC c)] (.tup [.agg (rtC (passF k c).1),.bool (passF k c).2]):=by
 intro σ Post hp
 unfold passF at hp
 have oc:okCh c:=⟨h.ok,hi⟩
 have ks:=adc_sc (a:=k)
 have cs:=chC_sc (x:=c)
 have cl:=chC_len oc
 have g1:=chC_groute oc
 have g2:=chC_gid oc
 have il:=adc_len hi
 have isc:=adc_sc (a:=c.id)
 have rl:=rtC_len h.ok
 have rs:=rtC_sc (x:=c.route)
 have z1:=rtC_any h.ok (cs:=[PV.int .i64 0,.int .i64 0,.int .i64 0,D.o,D.o,D.o,D.o,D.o,D.o,D.o,D.o,.int .i64 0,.int .i64 0,D.o,D.o,D.o,D.o,D.o,D.o,D.o,D.o,D.o,D.o,D.o,D.o,D.o,D.o,D.o,D.o,.int .i64 0,D.o,D.o,D.o,D.o,D.o,D.o,D.o,D.o,D.o,D.o,D.o,D.o,D.o,D.o,D.o,D.o,.int .i64 0,D.o,D.o,D.o,D.o,D.o,D.o,D.o,D.o,D.o,D.o,D.o,D.o,D.o,D.o,D.o,D.o,.str [],D.o,D.o,D.o,D.o,D.o,D.o,D.o,D.o,.int .i64 0,D.o,D.o,D.o,D.o,D.o,D.o,D.o,D.o,D.o,D.o,D.o,D.o,D.o,D.o,D.o,D.o,.int .i64 0,.int .i64 0,.int .i64 0,D.o,D.o,D.o,D.o,D.o,D.o,D.o,D.o,D.o,D.o,D.o,D.o,D.o,D.o,D.o,D.o,.int .i64 0,.nils,.int .i64 0,.int .i64 0,.int .i64 0,D.o,D.o,D.o,D.o,D.o,D.o,D.o,D.o,D.o,D.o,D.o,D.o,D.o,D.o,D.o,D.o,.nils,.nils,.nils]) rfl
 have go:cut (rtC c.route) 112 none=some (.int .i64 c.route.att.orig.s):=rt_ga (o:=4) h.ok rfl
 have so:splice (rtC c.route) 112 (adc c.id)=rtC { c.route with att:={ c.route.att with orig:=c.id } }:=rt_sa (o:=4) h.ok (atC_sorig h.ok.att hi)
 have ll:=(atR_parts (rtR_at hr)).cl
 refine T72 fun hB hA=>?_
 rw[vb72_eq]
 by_cases h0:c.route.att.orig.s=0
 ·have eo:origR c={ c.route with att:={ c.route.att with orig:=c.id } }:=by unfold origR;rw[if_pos h0]
  have oo:=origR_ok h hi
  rw[eo] at hp oo
  refine W ?_
  refine cu (uRelCopied h ex8 hr) ?_
  refine W ?_
  exact ps3 oo hk hB rfl rfl rfl rfl rfl (by show c.route.att.cl.length≤_;omega) hp
 ·have eo:origR c=c.route:=by unfold origR;rw[if_neg h0]
  rw[eo] at hp
  refine W ?_
  refine cu (uRelCopied h ex8 hr) ?_
  refine W ?_
  exact ps3 h hk hB rfl rfl rfl rfl rfl (by omega) hp
end Go.Proofs.YtdpeaefgbmkegaaGreatDoor
namespace Go.Proofs.YtdpeaefgbmkegaaGreatDoor
open Go Go.V
set_option maxRecDepth 10000
set_option linter.unusedVariables false
attribute [local irreducible] vBuild vCallV
def hasI (v:Int) (l:List Int):Bool:=l.any fun x=>decide (v=x)
def takesF (v:Int) (id cl:Ad) (r:Rt):Bool:=rtR r&&(!isA r.att.orig id&&(!(r.att.cl.any fun a=>isA a cl)&&!(r.att.path.any fun s=>hasI v s.nums)))
theorem uIndexI {l:List Int} {v:Int} (hl:l.length≤4611686018427387904):U Tryz.prog 77 [.sl (l.map fun n=>[PV.int .i64 n]),.int .i64 v] (.int .i64 (idxF (fun x=>decide (v=x)) l)):=by
 intro σ Post hk
 have b1:(l.map fun n=>[PV.int .i64 n]).length=l.length:=List.length_map _
 refine T77 fun hB hA=>?_
 refine W ?_
 refine lp (fun j e s=>∃ i:Nat,i+j=l.length∧e 8=.int .i64 i∧((l.take i).any fun x=>decide (v=x))=false∧s=σ++[]) l.length ⟨0,by simp,rfl,by simp,rfl⟩ ?_
 rintro j u _ ⟨i,hi,e8,hal,rfl⟩
 by_cases h5:i<l.length
 ·obtain⟨x,hx⟩:∃ x,l[i]?=some x:=⟨_,List.getElem?_eq_getElem h5⟩
  have hg:(l.map fun n=>[PV.int .i64 n])[(i:Int).toNat]?=some [PV.int .i64 x]:=by rw[Int.toNat_natCast,List.getElem?_map,hx];rfl
  by_cases hp:v=x
  ·rw[idxF_at hal hx (by simpa using hp)] at hk
   refine W ?_
   exact hk
  ·refine W ?_
   refine⟨j - 1,by omega,i+1,by omega,rfl,?_,rfl⟩
   rw[take_snoc hx,List.any_append,hal];simp[hp]
 ·have h9:l.take i=l:=List.take_of_length_le (by omega)
  rw[h9] at hal
  rw[idxF_no hal] at hk
  refine W ?_
  exact hk
theorem uContI {l:List Int} {v:Int} (hl:l.length≤4611686018427387904):U Tryz.prog 38 [.sl (l.map fun n=>[PV.int .i64 n]),.int .i64 v] (.bool (hasI v l)):=by
 intro σ Post hk
 have e:decide (0≤idxF (fun x=>decide (v=x)) l)=hasI v l:=idxF_any _ l
 rw[← e] at hk
 refine T38 fun hB hA=>?_
 refine W ?_
 refine cu (uIndexI hl) ?_
 refine W ?_
 exact hk
theorem tIsCl {x c:Ad} {σ:VHeap} {Post:KP} {p g:Nat} (hx:okD x) (hc:okD c) (hg:vGet σ p g=some (.box (adc c) false)) (hk:Post (.bool (isA x c)) σ):T Tryz.prog 35 [.agg (adc x),.ptr p g 0] σ Post:=by
 skip
 have sc:=adc_sc (a:=x)
 have ln:=adc_len hx
 have c0:=adc_all hx
 have c2:=adc_all hc
 have hi:=vGet_lt hg
 refine T35 fun hB hA=>?_
 refine W ?_
 refine cu (uIs hx hc) ?_
 refine W ?_
 exact hk
theorem tHasI {s:Seg} {v:Int} {σ:VHeap} {Post:KP} {p g:Nat} (hl:s.nums.length≤4611686018427387904) (hg:vGet σ p g=some (.box [.int .i64 v] false)) (hk:Post (.bool (hasI v s.nums)) σ):T Tryz.prog 37 [.agg (segC s),.ptr p g 0] σ Post:=by
 skip
 have sc:=segC_sc (x:=s)
 have ln:=segC_len (x:=s) ⟨trivial⟩
 have g1:=segC_gnums (x:=s) ⟨trivial⟩
 have hi:=vGet_lt hg
 refine T37 fun hB hA=>?_
 refine W ?_
 refine cu (uContI hl) ?_
 refine W ?_
 exact hk
theorem uTakes {r:Rt} {v:Int} {id cl:Ad} (h:okRib r) (hi:okD id) (hc:okD cl):U Tryz.prog 9 [.int .i64 v,.agg (adc id),.agg (adc cl),.agg (rtC r)] (.bool (takesF v id cl r)):=by
 intro σ Post hk
 have sc:=rtC_sc (x:=r)
 have ln:=rtC_len h.ok
 have c0:=rtC_all h.ok
 have is:=adc_sc (a:=id)
 have il:=adc_len hi
 have ia:=adc_all hi
 have cs:=adc_sc (a:=cl)
 have cl1:=adc_len hc
 have ca:=adc_all hc
 have go:cut (rtC r) 112 (some 17)=some (.agg (adc r.att.orig)):=rt_ga (o:=4) h.ok (atC_gorig h.ok.att)
 have gc:cut (rtC r) 129 none=some (.sl (r.att.cl.map adc)):=rt_ga (o:=21) h.ok (atC_gcl h.ok.att)
 have gp:cut (rtC r) 109 none=some (.sl (r.att.path.map segC)):=rt_ga (o:=1) h.ok (atC_gpath h.ok.att)
 have h1:callOk Tryz.prog 35=true:=by kernel_rfl
 have h2:callOk Tryz.prog 37=true:=by kernel_rfl
 refine T9 fun hB hA=>?_
 refine W ?_
 refine cu (uName15 h) ?_
 cases hr:rtR r with
 | true=>
   have p:=atR_parts (rtR_at hr)
   have l1:=p.cl
   have l2:=p.path
   refine W ?_
   refine cu (uIs h.ok.att.orig hi) ?_
   cases hi2:isA r.att.orig id with
   | true=>
     refine W ?_
     exact fin hk (by simp[takesF,hr,hi2])
   | false=>
     refine W ?_
     refine ct ?_
     refine tConA (l:=r.att.cl) (p:=fun a=>isA a cl) (by omega) h1 h.cl (fun x hx L Q hq=>tIsCl (h.cl x hx) hc (oget (lget rfl rfl)) hq) ?_
     cases hc2:r.att.cl.any fun a=>isA a cl with
     | true=>
       refine W ?_
       exact fin hk (by simp[takesF,hr,hi2,hc2])
     | false=>
       refine W ?_
       refine ct ?_
       refine tConS (l:=r.att.path) (p:=fun s=>hasI v s.nums) (by omega) h2 (fun x hx L Q hq=>tHasI (by have:=p.nums x hx;omega) (oget (lget rfl rfl)) hq) ?_
       refine W ?_
       exact fin hk (by simp[takesF,hr,hi2,hc2])
 | false=>
   refine W ?_
   exact fin hk (by simp[takesF,hr])
end Go.Proofs.YtdpeaefgbmkegaaGreatDoor
