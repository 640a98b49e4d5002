/- rib.copied. -/
import Derived.Test.YtdpeaefgbmkegaaGreatDoorR9
import Derived.Test.YtdpeaefgbmkegaaGreatDoorF55
set_option maxHeartbeats 8000000
namespace Go.Proofs.YtdpeaefgbmkegaaGreatDoor
open Go Go.V
set_option maxRecDepth 10000
open D in
def vb159_5:VC:=
 .seq (Rg [m 43 (Fl 23 3),m 44 (Ld 43),m 45 (.len (t 44)),m 46 (.mov (.c q))]<|
 .block 2<|.loop<|Rg [m 47 (.bin .lss .num (t 46) (t 45))]<|
 .seq (.cond (t 47) (.skip) (.exit 2))<|
 .seq (.block 3<|Rg [Mv 48 46,Mv 5 48]<|
 .dreg [(m 49 (Fl 23 3),[]),(m 50 (Ld 49),[0]),(Mv 51 5,[]),(m 52 (Fl 23 3),[]),(m 53 (Ld 52),[3]),(Mv 54 5,[]),(m 55 (.index 21 (t 53) (t 54)),[4,5]),(m 56 (Fl 20 55),[6]),(m 57 (Ld 56),[7]),(m 58 (.call false 200 [(t 57)]),[8]),(m 59 (.index 21 (t 50) (t 51)),[1,2,0,1,2,3,4,5,6,7,8,9]),(m 60 (Fl 20 59),[10,0,1,2,3,4,5,6,7,8,9]),(e (.store 1 (t 60) (t 58)),[11,9,9,0,1,2,3,4,5,6,7,8,9])] [(1,0),(1,1),(2,2),(1,3),(1,4),(2,5),(1,6),(1,7),(1,8),(1,9),(1,10),(1,11),(0,12)] [0,1,0,0,8,0,56,120,248,504,1023,2047,4095])<|
 .region [m 61 (.bin .add .num (t 46) (Ci 1)),Mv 46 61])<|
 Rg [m 62 (Ls 24 3),m 63 (Fl 108 1),e (.store 24 (t 63) (t 62))]<|
 Rg [m 64 (Ls 132 1),e (.store 132 (t 2) (t 64))]<|
 .ret
open D in
theorem vb159_5_eq:vb159_5 =
 (.seq (Rg [m 43 (Fl 23 3),m 44 (Ld 43),m 45 (.len (t 44)),m 46 (.mov (.c q))]<|
 .block 2<|.loop<|Rg [m 47 (.bin .lss .num (t 46) (t 45))]<|
 .seq (.cond (t 47) (.skip) (.exit 2))<|
 .seq (.block 3<|Rg [Mv 48 46,Mv 5 48]<|
 .dreg [(m 49 (Fl 23 3),[]),(m 50 (Ld 49),[0]),(Mv 51 5,[]),(m 52 (Fl 23 3),[]),(m 53 (Ld 52),[3]),(Mv 54 5,[]),(m 55 (.index 21 (t 53) (t 54)),[4,5]),(m 56 (Fl 20 55),[6]),(m 57 (Ld 56),[7]),(m 58 (.call false 200 [(t 57)]),[8]),(m 59 (.index 21 (t 50) (t 51)),[1,2,0,1,2,3,4,5,6,7,8,9]),(m 60 (Fl 20 59),[10,0,1,2,3,4,5,6,7,8,9]),(e (.store 1 (t 60) (t 58)),[11,9,9,0,1,2,3,4,5,6,7,8,9])] [(1,0),(1,1),(2,2),(1,3),(1,4),(2,5),(1,6),(1,7),(1,8),(1,9),(1,10),(1,11),(0,12)] [0,1,0,0,8,0,56,120,248,504,1023,2047,4095])<|
 .region [m 61 (.bin .add .num (t 46) (Ci 1)),Mv 46 61])<|
 Rg [m 62 (Ls 24 3),m 63 (Fl 108 1),e (.store 24 (t 63) (t 62))]<|
 Rg [m 64 (Ls 132 1),e (.store 132 (t 2) (t 64))]<|
 .ret):=rfl
open D in
def vb159_4:VC:=
 .seq (.dreg [(m 31 (Fl 21 3),[]),(m 32 (Ld 31),[0]),(m 33 (.call false 120 [(t 32)]),[1]),(m 34 (Fl 22 3),[]),(m 35 (Ld 34),[3]),(m 36 (.call false 119 [(t 35)]),[4,2]),(m 37 (Fl 23 3),[]),(m 38 (Ld 37),[6]),(m 39 (.call false 199 [(t 38)]),[7,5]),(m 40 (Fl 21 3),[0,1,2,3,4,6,7]),(e (.store 1 (t 40) (t 33)),[9,2,8,0,1,2,3,4,6,7]),(m 41 (Fl 22 3),[0,1,2,3,4,5,6,7,9,10]),(e (.store 1 (t 41) (t 36)),[11,5,10,0,1,2,3,4,5,6,7,9,10]),(m 42 (Fl 23 3),[0,1,2,3,4,5,6,7,8,9,10,11,12]),(e (.store 1 (t 42) (t 39)),[13,8,12,0,1,2,3,4,5,6,7,8,9,10,11,12])] [(1,0),(1,1),(1,2),(1,3),(1,4),(1,5),(1,6),(1,7),(1,8),(1,9),(0,10),(1,11),(0,12),(1,13),(0,14)] [0,1,3,0,8,31,0,64,255,223,1023,2047,4095,8191,16383])<|
 vb159_5
open D in
theorem vb159_4_eq:vb159_4 =
 (.seq (.dreg [(m 31 (Fl 21 3),[]),(m 32 (Ld 31),[0]),(m 33 (.call false 120 [(t 32)]),[1]),(m 34 (Fl 22 3),[]),(m 35 (Ld 34),[3]),(m 36 (.call false 119 [(t 35)]),[4,2]),(m 37 (Fl 23 3),[]),(m 38 (Ld 37),[6]),(m 39 (.call false 199 [(t 38)]),[7,5]),(m 40 (Fl 21 3),[0,1,2,3,4,6,7]),(e (.store 1 (t 40) (t 33)),[9,2,8,0,1,2,3,4,6,7]),(m 41 (Fl 22 3),[0,1,2,3,4,5,6,7,9,10]),(e (.store 1 (t 41) (t 36)),[11,5,10,0,1,2,3,4,5,6,7,9,10]),(m 42 (Fl 23 3),[0,1,2,3,4,5,6,7,8,9,10,11,12]),(e (.store 1 (t 42) (t 39)),[13,8,12,0,1,2,3,4,5,6,7,8,9,10,11,12])] [(1,0),(1,1),(1,2),(1,3),(1,4),(1,5),(1,6),(1,7),(1,8),(1,9),(0,10),(1,11),(0,12),(1,13),(0,14)] [0,1,3,0,8,31,0,64,255,223,1023,2047,4095,8191,16383])<|
 vb159_5):=rfl
open D in
def vb159_3:VC:=
 .seq (Rg [m 12 (Fl 1 3),m 13 (Ld 12),m 14 (.len (t 13)),m 15 (.mov (.c q))]<|
 .block 0<|.loop<|Rg [m 16 (.bin .lss .num (t 15) (t 14))]<|
 .seq (.cond (t 16) (.skip) (.exit 0))<|
 .seq (.block 1<|Rg [Mv 17 15,Mv 4 17]<|
 .dreg [(m 18 (Fl 1 3),[]),(m 19 (Ld 18),[0]),(Mv 20 4,[]),(m 21 (Fl 1 3),[]),(m 22 (Ld 21),[3]),(Mv 23 4,[]),(m 24 (.index 2 (t 22) (t 23)),[4,5]),(m 25 (Fl 1 24),[6]),(m 26 (Ld 25),[7]),(m 27 (.call false 198 [(t 26)]),[8]),(m 28 (.index 2 (t 19) (t 20)),[1,2,0,1,2,3,4,5,6,7,8,9]),(m 29 (Fl 1 28),[10,0,1,2,3,4,5,6,7,8,9]),(e (.store 1 (t 29) (t 27)),[11,9,9,0,1,2,3,4,5,6,7,8,9])] [(1,0),(1,1),(2,2),(1,3),(1,4),(2,5),(1,6),(1,7),(1,8),(1,9),(1,10),(1,11),(0,12)] [0,1,0,0,8,0,56,120,248,504,1023,2047,4095])<|
 .region [m 30 (.bin .add .num (t 15) (Ci 1)),Mv 15 30])<|
 vb159_4
open D in
theorem vb159_3_eq:vb159_3 =
 (.seq (Rg [m 12 (Fl 1 3),m 13 (Ld 12),m 14 (.len (t 13)),m 15 (.mov (.c q))]<|
 .block 0<|.loop<|Rg [m 16 (.bin .lss .num (t 15) (t 14))]<|
 .seq (.cond (t 16) (.skip) (.exit 0))<|
 .seq (.block 1<|Rg [Mv 17 15,Mv 4 17]<|
 .dreg [(m 18 (Fl 1 3),[]),(m 19 (Ld 18),[0]),(Mv 20 4,[]),(m 21 (Fl 1 3),[]),(m 22 (Ld 21),[3]),(Mv 23 4,[]),(m 24 (.index 2 (t 22) (t 23)),[4,5]),(m 25 (Fl 1 24),[6]),(m 26 (Ld 25),[7]),(m 27 (.call false 198 [(t 26)]),[8]),(m 28 (.index 2 (t 19) (t 20)),[1,2,0,1,2,3,4,5,6,7,8,9]),(m 29 (Fl 1 28),[10,0,1,2,3,4,5,6,7,8,9]),(e (.store 1 (t 29) (t 27)),[11,9,9,0,1,2,3,4,5,6,7,8,9])] [(1,0),(1,1),(2,2),(1,3),(1,4),(2,5),(1,6),(1,7),(1,8),(1,9),(1,10),(1,11),(0,12)] [0,1,0,0,8,0,56,120,248,504,1023,2047,4095])<|
 .region [m 30 (.bin .add .num (t 15) (Ci 1)),Mv 15 30])<|
 vb159_4):=rfl
open D in
theorem vb159_eq:vb159 =
 (Rg [m 1 (.box 0 (t 0)),m 2 (.alloc 1 [q,q,q,o,o,o,o,o,o,o,o,q,q,o,o,o,o,o,o,o,o,o,o,o,o,o,o,o,o,q,o,o,o,o,o,o,o,o,o,o,o,o,o,o,o,o,q,o,o,o,o,o,o,o,o,o,o,o,o,o,o,o,o,(.str []),o,o,o,o,o,o,o,o,q,o,o,o,o,o,o,o,o,o,o,o,o,o,o,o,o,q,q,q,o,o,o,o,o,o,o,o,o,o,o,o,o,o,o,o,q,.nils,q,q,q,o,o,o,o,o,o,o,o,o,o,o,o,o,o,o,o,.nils,.nils,.nils])]<|
 Rg [m 6 (Fl 108 1),m 7 (Ls 24 6),m 3 (.alloc 2 [q,.nils,q,q,q,o,o,o,o,o,o,o,o,o,o,o,o,o,o,o,o,.nils,.nils,.nils]),e (.store 24 (t 3) (t 7))]<|
 Rg [m 8 (Fl 1 3),m 9 (Ld 8),m 10 (.call false 197 [(t 9)]),m 11 (Fl 1 3),e (.store 1 (t 11) (t 10))]<|
 vb159_3):=rfl
attribute [local irreducible] vBuild vCallV
structure okSz (a:At):Prop where
 path:a.path.length≤100000
 nums:∀ s,s∈a.path→s.nums.length≤100000
 cl:a.cl.length≤100000
 ex:a.ex.length≤100000
 ex8:∀ e,e∈a.ex→e.length=8
 tn:a.tn.length≤100000
 id:∀ t,t∈a.tn→t.id.length≤100000
theorem vg3 {x0 x1 x2:Nat × VObj} {J:VHeap} {b g:Nat} {o:VObj} (h:vGet J b g=some o):vGet (x0::x1::x2::J) (3+b) g=some o:=by
 have h:=vGet_some h
 rw[Nat.add_comm]
 exact vGet_of h
theorem set_self {l:List (List PV)} {i:Nat} {c:List PV} (h:l[i]?=some c):l.set i c=l:=by
 apply List.ext_getElem?
 intro j
 by_cases hj:i=j
 ·subst hj;rw[List.getElem?_set_self (List.getElem?_eq_some_iff.1 h).1,h]
 ·rw[List.getElem?_set_ne hj]
section
variable {r:Rt} {σ J K:VHeap} {Post:KP} {Zb:List PV} {b g b2 g2:Nat} {env:Env}
def bxs (r:Rt) (Zb x:List PV) (K:VHeap):VHeap:=(1,VObj.box (rtC r) false)::(1,.box Zb false)::(1,.box x false)::K
theorem cp5 (h:okRib r) (z:okSz r.att) (hB:belH σ.length σ) (e1:env 1=.ptr (σ.length+0) 1 0) (e2:env 2=.ptr (σ.length+1) 1 0) (e3:env 3=.ptr (σ.length+2) 1 0) (hZ:Zb.length=132) (hA:vGet K b g=some (.row 2 (r.att.path.map segC) false)) (hT:vGet K b2 g2=some (.row 21 (r.att.tn.map tnC) false)) (hk:Post (.agg (rtC r)) σ) :
  vrun Tryz.prog σ.length vb159_5 env (σ++bxs r Zb (atP r.att (.row (σ.length+(3+b)) g) (.row (σ.length+(3+b2)) g2)) K) (vend vf159 (TrimP σ.length Post)):=by
 rw[vb159_5_eq]
 unfold bxs
 have hA3:vGet ((1,VObj.box (rtC r) false)::(1,.box Zb false)::(1,.box (atP r.att (.row (σ.length+(3+b)) g) (.row (σ.length+(3+b2)) g2)) false)::K) (3+b) g=some (.row 2 (r.att.path.map segC) false):=vg3 hA
 have hT3:vGet ((1,VObj.box (rtC r) false)::(1,.box Zb false)::(1,.box (atP r.att (.row (σ.length+(3+b)) g) (.row (σ.length+(3+b2)) g2)) false)::K) (3+b2) g2=some (.row 21 (r.att.tn.map tnC) false):=vg3 hT
 have g1:=atP_gp (a:=r.att) (p:=.row (σ.length+(3+b)) g) (t:=.row (σ.length+(3+b2)) g2)
 have g4:=atP_gt (p:=.row (σ.length+(3+b)) g) (t:=.row (σ.length+(3+b2)) g2) h.ok.att
 have al:=atP_len (p:=.row (σ.length+(3+b)) g) (t:=.row (σ.length+(3+b2)) g2) h.ok.att
 have aa:=atP_all (p:=.row (σ.length+(3+b)) g) (t:=.row (σ.length+(3+b2)) g2) h.ok.att
 have asc:=atP_sc (a:=r.att) (p:=.row (σ.length+(3+b)) g) (t:=.row (σ.length+(3+b2)) g2) rfl rfl
 have c0:=rtP_all h.ok al
 have q1:splice (rtC r) 108 (atP r.att (.row (σ.length+(3+b)) g) (.row (σ.length+(3+b2)) g2))=rtP r (atP r.att (.row (σ.length+(3+b)) g) (.row (σ.length+(3+b2)) g2)):=rtP_s h.ok (atC_len h.ok.att) al
 have pl:=rtP_len h.ok al
 have psc:=rtP_sc (r:=r) asc
 have rl:=rtC_len h.ok
 have q2:splice Zb 0 (rtP r (atP r.att (.row (σ.length+(3+b)) g) (.row (σ.length+(3+b2)) g2)))=rtP r (atP r.att (.row (σ.length+(3+b)) g) (.row (σ.length+(3+b2)) g2)):=spl_hd0 (by rw[pl,hZ])
 have lt:=z.tn
 have b1:(r.att.tn.map tnC).length=r.att.tn.length:=List.length_map _
 refine W ?_
 refine lp (fun j e s=>∃ i:Nat,i+j=r.att.tn.length∧e 46=.int .i64 i∧s=σ++((1,VObj.box (rtC r) false)::(1,.box Zb false)::(1,.box (atP r.att (.row (σ.length+(3+b)) g) (.row (σ.length+(3+b2)) g2)) false)::K)) r.att.tn.length ⟨0,by simp,rfl,rfl⟩ ?_
 rintro j u _ ⟨i,hi,e46,rfl⟩
 by_cases h5:i<r.att.tn.length
 ·obtain⟨t,ht⟩:∃ t,r.att.tn[i]?=some t:=⟨_,List.getElem?_eq_getElem h5⟩
  have hm:=List.mem_of_getElem? ht
  have hg0:(r.att.tn.map tnC)[i]?=some (tnC t):=by rw[List.getElem?_map,ht];rfl
  have hg:(r.att.tn.map tnC)[(i:Int).toNat]?=some (tnC t):=hg0
  have tl:=tnC_len (h.tn t hm)
  have g7:=tnC_gid (h.tn t hm)
  have s7:splice (tnC t) 20 [.sl (bsl t.id)]=tnC t:=tnC_sid (h.tn t hm)
  have hid:=z.id t hm
  refine W ?_
  refine s1 (uClB (es:=bsl t.id) (rowok_bs _) (by rw[bsl_len];omega)) ?_
  refine W ?_
  refine⟨j - 1,by omega,i+1,by omega,rfl,?_⟩
  congr 1
  have e7:(r.att.tn.map tnC).set (i:Int).toNat (splice (tnC t) 20 [.sl (bsl t.id)])=r.att.tn.map tnC:=by rw[s7];exact set_self hg
  have:=set_same hT3
  rw[← e7] at this
  exact this
 ·refine W ?_
  refine ret_a (v':=.agg (rtC r)) (.inl rfl) rfl (by exact z_rw) (InlA.agg (rtP_inl (y:=atC r.att) (atP_inl (.row (vg3 hA) rfl (.nil _)) (.row (vg3 hT) rfl (.nil _)))) (.nil _)) (by exact z_be) (by exact z_hn) (by exact z_hb) ?_
  exact hk
theorem cp4 (h:okRib r) (z:okSz r.att) (hB:belH σ.length σ) (e1:env 1=.ptr (σ.length+0) 1 0) (e2:env 2=.ptr (σ.length+1) 1 0) (e3:env 3=.ptr (σ.length+2) 1 0) (hZ:Zb.length=132) (hJ:J.length=3) (hA:vGet J b g=some (.row 2 (r.att.path.map segC) false)) (hk:Post (.agg (rtC r)) σ) :
  vrun Tryz.prog σ.length vb159_4 env (σ++bxs r Zb (atP r.att (.row (σ.length+(3+b)) g) (.sl (r.att.tn.map tnC))) J) (vend vf159 (TrimP σ.length Post)):=by
 rw[vb159_4_eq]
 have hbJ:b<J.length:=vGet_lt hA
 have g2:=atP_gc (p:=.row (σ.length+(3+b)) g) (t:=.sl (r.att.tn.map tnC)) h.ok.att
 have g3:=atP_ge (p:=.row (σ.length+(3+b)) g) (t:=.sl (r.att.tn.map tnC)) h.ok.att
 have g4:=atP_gt (p:=.row (σ.length+(3+b)) g) (t:=.sl (r.att.tn.map tnC)) h.ok.att
 have al:=atP_len (p:=.row (σ.length+(3+b)) g) (t:=.sl (r.att.tn.map tnC)) h.ok.att
 have q5:=atP_s5 (p:=.row (σ.length+(3+b)) g) (t:=.sl (r.att.tn.map tnC)) h.ok.att
 have q6:=atP_s6 (p:=.row (σ.length+(3+b)) g) (t:=.sl (r.att.tn.map tnC)) h.ok.att
 have lc:=z.cl
 have le:=z.ex
 have lt:=z.tn
 have b1:(r.att.cl.map adc).length=r.att.cl.length:=List.length_map _
 have b2':(r.att.ex.map u8c).length=r.att.ex.length:=List.length_map _
 have b3:(r.att.tn.map tnC).length=r.att.tn.length:=List.length_map _
 have oc:RowOk 17 (r.att.cl.map adc):=fun e he=>by obtain⟨c,hc,rfl⟩:=List.mem_map.1 he;exact⟨adc_len (h.cl c hc),adc_sc⟩
 have oe:RowOk 8 (r.att.ex.map u8c):=fun e he=>by obtain⟨c,hc,rfl⟩:=List.mem_map.1 he;exact⟨by rw[u8c_len,z.ex8 c hc],u8c_sc c⟩
 have ot:RowOk 21 (r.att.tn.map tnC):=fun e he=>by obtain⟨c,hc,rfl⟩:=List.mem_map.1 he;exact⟨tnC_len (h.tn c hc),tnC_sc⟩
 have hn6:(bxs r Zb (atP r.att (.row (σ.length+(3+b)) g) (.sl (r.att.tn.map tnC))) J).length=6:=by unfold bxs;simp[hJ]
 unfold bxs at hn6 ⊢
 refine Wo ?_
 refine drJ (fun hh=>∃ cs,vGet hh (σ.length+2) 1=some (.box cs false)) [(1,0),(1,1),(1,2),(1,3),(1,4),(1,5),(1,6),(1,7),(2,9),(0,8),(0,10),(1,11),(0,12),(1,13),(0,14)] (by kernel_rfl) (by kernel_rfl) (by exact z_ol) ⟨_,lget rfl rfl⟩ ?_
 refine Wo ?_
 refine s1 (uClA oc (by rw[b1];omega)) ?_
 refine Wo ?_
 refine s1 (uClE oe (by rw[b2'];omega)) ?_
 refine Wo ?_
 refine sv2n (fun hh hJ=>by obtain⟨cs,hJ⟩:=hJ;exact z_ya) ?_
 refine sv_0 ?_
 refine ct ?_
 refine tClT (k:=6) ot (by rw[b3];omega) (fun J2 b2 g2' hJ2 hT=>?_) (by exact z_hn) hn6
 have hA6:vGet (J++J2) b g=some (.row 2 (r.att.path.map segC) false):=oget hA
 have hT6:vGet (J++J2) (3+b2) g2'=some (.row 21 (r.att.tn.map tnC) false):=by
  have:=vGet_some hT
  exact vGet_of (by rw[List.getElem?_append_right (by omega),hJ,Nat.add_sub_cancel_left];exact this)
 have e6:6+b2=3+(3+b2):=by omega
 rw[e6]
 have w9:=atP_st (p:=.row (σ.length+(3+b)) g) (t:=.sl (r.att.tn.map tnC)) (v:=.row (σ.length+(3+(3+b2))) g2') h.ok.att
 simp only[List.cons_append]
 refine st_end ⟨⟨_,lget rfl rfl⟩,?_⟩
 refine sv_0 ?_
 refine est (by exact z_ea) ?_
 refine st_end ⟨⟨_,lget rfl rfl⟩,?_⟩
 refine Wo ?_
 refine sv_0 ?_
 refine est (by exact z_ea) ?_
 refine st_end ⟨⟨_,lget rfl rfl⟩,?_⟩
 refine Wo ?_
 refine sv_0 ?_
 refine est (by exact z_ea) ?_
 refine st_end ⟨⟨_,lget rfl rfl⟩,?_⟩
 refine Wo ?_
 exact cp5 h z hB e1 e2 e3 hZ hA6 hT6 hk
theorem cp3 (h:okRib r) (z:okSz r.att) (hB:belH σ.length σ) (e1:env 1=.ptr (σ.length+0) 1 0) (e2:env 2=.ptr (σ.length+1) 1 0) (e3:env 3=.ptr (σ.length+2) 1 0) (hZ:Zb.length=132) (hJ:J.length=3) (hA:vGet J b g=some (.row 2 (r.att.path.map segC) false)) (hk:Post (.agg (rtC r)) σ) :
  vrun Tryz.prog σ.length vb159_3 env (σ++bxs r Zb (atP r.att (.row (σ.length+(3+b)) g) (.sl (r.att.tn.map tnC))) J) (vend vf159 (TrimP σ.length Post)):=by
 rw[vb159_3_eq]
 have hA3:vGet (bxs r Zb (atP r.att (.row (σ.length+(3+b)) g) (.sl (r.att.tn.map tnC))) J) (3+b) g=some (.row 2 (r.att.path.map segC) false):=vg3 hA
 have g1:=atP_gp (a:=r.att) (p:=.row (σ.length+(3+b)) g) (t:=.sl (r.att.tn.map tnC))
 have al:=atP_len (p:=.row (σ.length+(3+b)) g) (t:=.sl (r.att.tn.map tnC)) h.ok.att
 have lp':=z.path
 have b1:(r.att.path.map segC).length=r.att.path.length:=List.length_map _
 unfold bxs at hA3 ⊢
 refine W ?_
 refine lp (fun j e s=>∃ i:Nat,i+j=r.att.path.length∧e 15=.int .i64 i∧s=σ++((1,VObj.box (rtC r) false)::(1,.box Zb false)::(1,.box (atP r.att (.row (σ.length+(3+b)) g) (.sl (r.att.tn.map tnC))) false)::J)) r.att.path.length ⟨0,by simp,rfl,rfl⟩ ?_
 rintro j u _ ⟨i,hi,e15,rfl⟩
 by_cases h5:i<r.att.path.length
 ·obtain⟨t,ht⟩:∃ t,r.att.path[i]?=some t:=⟨_,List.getElem?_eq_getElem h5⟩
  have hm:=List.mem_of_getElem? ht
  have hg0:(r.att.path.map segC)[i]?=some (segC t):=by rw[List.getElem?_map,ht];rfl
  have hg:(r.att.path.map segC)[(i:Int).toNat]?=some (segC t):=hg0
  have tl:=segC_len (x:=t) ⟨trivial⟩
  have g7:=segC_gnums (x:=t) ⟨trivial⟩
  have s7:splice (segC t) 1 [.sl (t.nums.map fun n=>[PV.int .i64 n])]=segC t:=segC_snums (x:=t) ⟨trivial⟩
  have hid:=z.nums t hm
  refine W ?_
  refine s1 (uClI (es:=t.nums.map fun n=>[PV.int .i64 n]) (rowok_m _ _ (fun _=>⟨rfl,rfl⟩)) (by rw[List.length_map];omega)) ?_
  refine W ?_
  refine⟨j - 1,by omega,i+1,by omega,rfl,?_⟩
  congr 1
  have e7:(r.att.path.map segC).set (i:Int).toNat (splice (segC t) 1 [.sl (t.nums.map fun n=>[PV.int .i64 n])])=r.att.path.map segC:=by rw[s7];exact set_self hg
  have:=set_same hA3
  rw[← e7] at this
  exact this
 ·refine W ?_
  exact cp4 h z hB e1 e2 e3 hZ hJ hA hk
end
theorem uCopied {r:Rt} (h:okRib r) (z:okSz r.att):U Tryz.prog 159 [.agg (rtC r)] (.agg (rtC r)):=by
 intro σ Post hk
 have sc:=rtC_sc (x:=r)
 have ln:=rtC_len h.ok
 have g6:=rtC_gatt h.ok
 have q1:=atC_len h.ok.att
 have q2:=atC_sc (x:=r.att)
 have q3:=atC_any h.ok.att (cs:=[.int .i64 0,.nils,.int .i64 0,.int .i64 0,.int .i64 0,D.o,D.o,D.o,D.o,D.o,D.o,D.o,D.o,D.o,D.o,D.o,D.o,D.o,D.o,D.o,D.o,.nils,.nils,.nils]) rfl
 have q4:=atC_gpath h.ok.att
 have lp':=z.path
 have b1:(r.att.path.map segC).length=r.att.path.length:=List.length_map _
 have op:RowOk 2 (r.att.path.map segC):=fun e he=>by obtain⟨c,hc,rfl⟩:=List.mem_map.1 he;exact⟨segC_len ⟨trivial⟩,segC_sc⟩
 refine T159 fun hB hA=>?_
 rw[vb159_eq]
 refine W ?_
 refine ct ?_
 refine tClS (k:=3) op (by rw[b1];omega) (fun J b g hJ hA=>?_) (by exact z_hn) rfl
 have w1:splice (atC r.att) 1 [.row (σ.length+(3+b)) g]=atP r.att (.row (σ.length+(3+b)) g) (.sl (r.att.tn.map tnC)):=atP_sp
 refine W ?_
 exact cp3 h z hB rfl rfl rfl rfl hJ hA hk
end Go.Proofs.YtdpeaefgbmkegaaGreatDoor
namespace Go.Proofs.YtdpeaefgbmkegaaGreatDoor
open Go Go.V
set_option maxRecDepth 10000
attribute [local irreducible] vBuild vCallV
def isA (a b:Ad):Bool:=(a==b)&&!(a==ad0)
theorem uIs {a b:Ad} (ha:okD a) (hb:okD b):U Tryz.prog 33 [.agg (adc a),.agg (adc b)] (.bool (isA a b)):=by
 intro σ Post hk
 have sc:=adc_sc (a:=a)
 have ln:=adc_len ha
 have c0:=adc_all ha
 have sc2:=adc_sc (a:=b)
 have ln2:=adc_len hb
 have c2:=adc_all hb
 have q0:=eqC_ad ha hb
 have q1:=eqC_ad ha ad0_ok
 refine T33 fun hB hA=>?_
 cases h1:a==b with
 | true=>
   rw[h1] at q0
   cases h2:a==ad0 with
   | true=>
     rw[h2] at q1
     refine W ?_
     exact fin hk (by unfold isA;rw[h1,h2];rfl)
   | false=>
     rw[h2] at q1
     refine W ?_
     exact fin hk (by unfold isA;rw[h1,h2];rfl)
 | false=>
   rw[h1] at q0
   refine W ?_
   exact fin hk (by unfold isA;rw[h1];rfl)
theorem tnR_id {t:Tn} (h:tnR t=true):t.id.length≤64:=by
 unfold tnR at h
 simp only[Bool.and_eq_true] at h
 obtain⟨h0,_,_,h⟩:=h
 have hs:=okAd_s h0
 unfold tnK at h
 split at h
 ·have:=of_decide_eq_true h;omega
 ·split at h
  ·rw[Bool.and_eq_true] at h;have:=of_decide_eq_true h.2;omega
  ·split at h
   ·rw[Bool.and_eq_true] at h;have:=of_decide_eq_true h.2;omega
   ·split at h
    ·rw[Bool.and_eq_true] at h
     obtain⟨_,_,hl,_⟩:=ofA_ok1 (of_decide_eq_true h.1);omega
    ·split at h
     ·rw[Bool.and_eq_true] at h;have:=of_decide_eq_true h.2;omega
     ·cases h
structure AtR (a:At):Prop where
 cl:a.cl.length≤32
 ex:a.ex.length≤64
 tn:a.tn.length≤1
 path:a.path.length≤16
 nums:∀ s,s∈a.path→s.nums.length≤255
 id:∀ t,t∈a.tn→t.id.length≤64
theorem atR_parts {a:At} (h:atR a=true):AtR a:=by
 unfold atR pathR at h
 simp only[Bool.and_eq_true,Bool.not_eq_true',List.any_eq_false] at h
 obtain⟨_,_,_,_,_,_,_,h1,h2,h3,h4,h5,h6,h7⟩:=h
 refine⟨of_decide_eq_true h1,of_decide_eq_true h2,of_decide_eq_true h3,of_decide_eq_true h6,fun s hs=>?_,fun t ht=>?_⟩
 ·have:=h7 s hs
  unfold segW at this
  simp only[Bool.or_eq_true,not_or,decide_eq_true_eq] at this
  omega
 ·have:=h5 t ht
  refine tnR_id ?_
  cases he:tnR t with
  | true=>rfl
  | false=>rw[he] at this;exact absurd rfl this
theorem okSz_of {r:Rt} (h:atR r.att=true) (ex8:∀ e,e∈r.att.ex→e.length=8):okSz r.att:=by
 have p:=atR_parts h
 have h1:=p.path
 have h2:=p.cl
 have h3:=p.ex
 have h4:=p.tn
 exact⟨by omega,fun s hs=>by have:=p.nums s hs;omega,by omega,by omega,ex8,by omega,fun t ht=>by have:=p.id t ht;omega⟩
theorem rtR_at {r:Rt} (h:rtR r=true):atR r.att=true:=by
 unfold rtR at h
 simp only[Bool.and_eq_true] at h
 exact h.2.1
section
variable {a:At} {c d:PV}
theorem upR_all (h:okAt a):cut (upR a c d) 0 (some 26)=some (.agg (upR a c d)):=cut_hd0 (upR_len h)
theorem upR_sc (hc:scalar c=true) (hd:scalar d=true):(upR a c d).all scalar=true:=by
 unfold upR
 simp only[List.all_append,atC_sc,List.all_cons,List.all_nil,hc,hd,Bool.and_self]
end
def reachU (r:Rt):Up:=⟨r.att,[aloneT r],[]⟩
theorem uReached {r:Rt} (h:okRib r) (ex8:∀ e,e∈r.att.ex→e.length=8) (hr:rtR r=true):U Tryz.prog 115 [.agg (rtC r)] (.tup [.agg (upC (reachU r)),.bool true]):=by
 intro σ Post hk
 have sc:=rtC_sc (x:=r)
 have ln:=rtC_len h.ok
 have c0:=rtC_all h.ok
 have g6:=rtC_gatt h.ok
 have at1:=atC_len h.ok.att
 have at2:=atC_sc (x:=r.att)
 have ra:=rtC_any h.ok (cs:=rtC r) ln
 have t1:=tbC_len (aloneT_ok h.ok)
 have t2:=tbC_sc (x:=aloneT r)
 have w1:=upR_b h.ok.att
 have w2:=upR_sm h.ok.att (c:=.nils) (d:=.nils) (v:=.row (σ.length+2) 1)
 have w3:=upR_len h.ok.att (c:=.nils) (d:=.nils)
 have w4:=upR_len h.ok.att (c:=.row (σ.length+2) 1) (d:=.nils)
 have w5:splice [.int .i64 0,.nils,.int .i64 0,.int .i64 0,.int .i64 0,D.o,D.o,D.o,D.o,D.o,D.o,D.o,D.o,D.o,D.o,D.o,D.o,D.o,D.o,D.o,D.o,.nils,.nils,.nils,.nils,.nils] 0 (upR r.att (.row (σ.length+2) 1) .nils)=upR r.att (.row (σ.length+2) 1) .nils:=spl_hd0 (by rw[w4];rfl)
 have w6:=upR_sc (a:=r.att) (c:=.row (σ.length+2) 1) (d:=.nils) rfl rfl
 have w7:=upR_all h.ok.att (c:=.row (σ.length+2) 1) (d:=.nils)
 refine T115 fun hB hA=>?_
 refine W ?_
 refine cu (uRtR h) ?_
 rw[hr]
 refine W ?_
 refine cu (uCopied h (okSz_of (rtR_at hr) ex8)) ?_
 refine Wo ?_
 refine drJ (fun h=>vGet h (σ.length+0) 1=some (.box (rtC r) false)) [(2,0),(2,1),(1,2),(1,3),(0,4),(2,5),(0,6),(2,7)] (by kernel_rfl) (by kernel_rfl) (by exact z_ol) (lget rfl rfl) ?_
 refine Wo ?_
 refine s1 (uAlone h.ok) ?_
 refine Wo ?_
 refine sv_0 ?_
 refine est (by exact z_ea) ?_
 refine st_end ⟨lget rfl rfl,?_⟩
 refine Wo ?_
 refine sv_0 ?_
 refine est (by exact z_ea) ?_
 refine st_end ⟨lget rfl rfl,?_⟩
 refine Wo ?_
 refine ret_t (xs:=[.agg (upR r.att (.row (σ.length+2) 1) .nils),.bool true]) (vs:=[.agg (upR r.att (.sl [tbC (aloneT r)]) (.sl [])),.bool true]) (.inl rfl) rfl (by exact z_rw) (InlA.agg (InlA_app (InlA_pl inferInstance) (.row (vGet_of rfl) rfl (.nils (.nil _)))) (.pl inferInstance (.nil _))) ?_ (by exact z_hn) (by exact z_hb) ?_
 ·unfold upR
  exact ClL.cl _
 ·exact hk
theorem uRelCopied {r:Rt} (h:okRib r) (ex8:∀ e,e∈r.att.ex→e.length=8) (hr:rtR r=true):U Tryz.prog 70 [.agg (rtC r)] (.agg (rtC r)):=by
 intro σ Post hk
 have sc:=rtC_sc (x:=r)
 have ln:=rtC_len h.ok
 have c0:=rtC_all h.ok
 have u1:=upC_len (x:=reachU r) ⟨h.ok.att⟩
 have u2:=upC_sc (x:=reachU r)
 have u3:=upC_any (x:=reachU r) ⟨h.ok.att⟩ (cs:=[.int .i64 0,.nils,.int .i64 0,.int .i64 0,.int .i64 0,D.o,D.o,D.o,D.o,D.o,D.o,D.o,D.o,D.o,D.o,D.o,D.o,D.o,D.o,D.o,D.o,.nils,.nils,.nils,.nils,.nils]) rfl
 have u4:cut (upC (reachU r)) 0 (some 24)=some (.agg (atC r.att)):=upC_gatt (x:=reachU r) ⟨h.ok.att⟩
 have at1:=atC_len h.ok.att
 have at2:=atC_sc (x:=r.att)
 have s1:splice (rtC r) 108 (atC r.att)=rtC r:=rtC_satt h.ok h.ok.att
 have z1:=rtC_any h.ok (cs:=[.int .i64 0,.int .i64 0,.int .i64 0,D.o,D.o,D.o,D.o,D.o,D.o,D.o,D.o,.int .i64 0,.int .i64 0,D.o,D.o,D.o,D.o,D.o,D.o,D.o,D.o,D.o,D.o,D.o,D.o,D.o,D.o,D.o,D.o,.int .i64 0,D.o,D.o,D.o,D.o,D.o,D.o,D.o,D.o,D.o,D.o,D.o,D.o,D.o,D.o,D.o,D.o,.int .i64 0,D.o,D.o,D.o,D.o,D.o,D.o,D.o,D.o,D.o,D.o,D.o,D.o,D.o,D.o,D.o,D.o,.str [],D.o,D.o,D.o,D.o,D.o,D.o,D.o,D.o,.int .i64 0,D.o,D.o,D.o,D.o,D.o,D.o,D.o,D.o,D.o,D.o,D.o,D.o,D.o,D.o,D.o,D.o,.int .i64 0,.int .i64 0,.int .i64 0,D.o,D.o,D.o,D.o,D.o,D.o,D.o,D.o,D.o,D.o,D.o,D.o,D.o,D.o,D.o,D.o,.int .i64 0,.nils,.int .i64 0,.int .i64 0,.int .i64 0,D.o,D.o,D.o,D.o,D.o,D.o,D.o,D.o,D.o,D.o,D.o,D.o,D.o,D.o,D.o,D.o,.nils,.nils,.nils]) rfl
 refine T70 fun hB hA=>?_
 refine W ?_
 refine cu (uReached h ex8 hr) ?_
 refine W ?_
 exact hk
end Go.Proofs.YtdpeaefgbmkegaaGreatDoor
