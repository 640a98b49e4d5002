/- The reference's multicast routes: Bytes, rows of one. -/
import Derived.Test.YtdpeaefgbmkegaaGreatDoorS9
import Derived.Test.YtdpeaefgbmkegaaGreatDoorHE
import Derived.Test.YtdpeaefgbmkegaaGreatDoorHF
import Derived.Test.YtdpeaefgbmkegaaGreatDoorKA
import Derived.Test.YtdpeaefgbmkegaaGreatDoorFAD
set_option maxHeartbeats 16000000
namespace Go.Proofs.YtdpeaefgbmkegaaGreatDoor
open Go Go.V
set_option maxRecDepth 10000
set_option linter.unusedVariables false
attribute [local irreducible] vBuild vCallV
theorem uR7With {a:Ad} (h:okD a) (ho:okAd a=true):U Tryz.prog 153 [.agg (adc a)] (.sl (bsl (longF a))):=by
 intro σ Post hk
 have sc:=adc_sc (a:=a)
 have ln:=adc_len h
 have c0:=adc_all h
 have c1:=adc_s (a:=a)
 have hs:=okAd_s ho
 have hal:=abytes_len h
 have k1:IntKind.i64.wrap (8 * a.s)=8 * a.s:=w_i64 (by omega) (by omega)
 have w8:IntKind.u8.wrap (8 * a.s)=8 * a.s:=w_u8 (by omega) (by omega)
 have e:([PV.int IntKind.u8 (8 * a.s)]::bsl (abytes a))=bsl (longF a):=by
  unfold longF
  show _=[byt (UInt8.ofNat (8 * a.s).toNat)]::bsl (abytes a)
  congr 2
  have:(UInt8.ofNat (8 * a.s).toNat).toNat=(8 * a.s).toNat:=by simp;omega
  show PV.int _ _=PV.int _ _
  congr 1
  omega
 rw[← e] at hk
 refine T153 fun hB hA=>?_
 refine Wo ?_
 refine drJ (fun h'=>vGet h' (σ.length+0) 1=some (.box (adc a) false)) [(1,0),(1,1),(2,2),(2,3),(2,5),(2,6),(0,4),(0,7),(2,8)] (by kernel_rfl) (by kernel_rfl) (by exact z_ol) (lget rfl rfl) ?_
 refine Wo ?_
 refine sv_2 (fun hh hJ=>yn (y_call (uR2Bytes h) (by exact z_ma))) ?_
 refine Wo ?_
 refine sv_0 ?_
 refine est (by exact z_ea) ?_
 refine st_end ⟨lget rfl rfl,?_⟩
 refine sv_0 ?_
 refine est (by exact z_ea) ?_
 refine st_end ⟨lget rfl rfl,?_⟩
 refine Wo ?_
 refine W ?_
 exact hk
theorem uR7Bytes0 {m:Mr} (h:okM m) (hkl:m.key.length≤140737488355328) (hr:rightF m=false):U Tryz.prog 107 [.agg (mrc m)] (.tup [.sl [],.int .i64 1]):=by
 intro σ Post hk
 have sc:=mrc_sc (m:=m)
 have ml:=mrc_len h
 have c0:=mrc_all h
 have ur:=uR7Right h hkl
 rw[hr] at ur
 refine T107 fun hB hA=>?_
 refine W ?_
 refine cu ur ?_
 refine W ?_
 exact hk
open D in
def vb107_9:VC:=
 Rg [m 53 (Fl 0 1),m 54 (Ld 53),m 55 (.convInt .u8 (t 54)),Mv 56 9,m 57 (.len (t 56)),m 58 (.convInt .u8 (t 57)),m 59 (.buildSlice 8 1 2 [o] [(0,(t 55)),(1,(t 58))]),Mv 60 9,m 61 (.append 9 1 1 (t 59) (t 60)),Mv 2 61,m 3 (.mov (.c q))]<|
 .ret
open D in
def vb107_8:VC:=
 .seq (Rg [Mv 47 8]<|
 .cond (t 47) (.region [Mv 48 9,m 49 (Fl 44 1),m 50 (Ls 17 49),m 51 (.call false 58 [(t 50)]),m 52 (.append 7 1 1 (t 48) (t 51)),Mv 9 52]) (.skip))<|
 vb107_9
open D in
def vb107_7:VC:=
 .seq (Rg [Mv 36 7]<|
 .cond (t 36) (Rg [Mv 37 9,m 38 (Fl 10 1),m 39 (Ls 17 38),m 40 (.call false 153 [(t 39)]),m 41 (.append 5 1 1 (t 37) (t 40)),Mv 9 41]<|
 .region [Mv 42 9,m 43 (Fl 27 1),m 44 (Ls 17 43),m 45 (.call false 153 [(t 44)]),m 46 (.append 6 1 1 (t 42) (t 45)),Mv 9 46]) (.skip))<|
 vb107_8
open D in
def vb107_6:VC:=
 .seq (Rg [Mv 30 6]<|
 .cond (t 30) (.region [Mv 31 9,m 32 (Fl 9 1),m 33 (Ld 32),m 34 (.call false 149 [(t 33),(Ci 4)]),m 35 (.append 4 1 1 (t 31) (t 34)),Mv 9 35]) (.skip))<|
 vb107_7
open D in
def vb107_5:VC:=
 .seq (Rg [Mv 25 5]<|
 .cond (t 25) (.region [Mv 26 9,m 27 (Fl 1 1),m 28 (.sliceArr 8 1 (t 27) none none),m 29 (.append 3 1 1 (t 26) (t 28)),Mv 9 29]) (.skip))<|
 vb107_6
open D in
theorem vb107_eq:vb107 =
 (Rg [m 1 (.box 0 (t 0)),m 2 (.newRow 1 1),m 3 (.mov (.c q))]<|
 Rg [m 10 (Ls 62 1),m 11 (.call false 151 [(t 10)]),Mv 4 11]<|
 .seq (Rg [Mv 12 4,m 13 (.un .not (t 12))]<|
 .cond (t 13) (Rg [m 2 (.newRow 1 1),m 3 (.mov (Ci 1))]<|
 .ret) (.skip))<|
 Rg [m 15 (Fl 0 1),m 16 (Ld 15),m 17 (.call false 152 [(t 16)]),Mv 14 17,m 18 (.extract 0 (t 14)),m 19 (.extract 1 (t 14)),m 20 (.extract 2 (t 14)),m 21 (.extract 3 (t 14)),Mv 5 18,Mv 6 19,Mv 7 20,Mv 8 21]<|
 Rg [m 22 (Fl 61 1),m 23 (Ld 22),m 24 (.s2b 2 (t 23)),Mv 9 24]<|
 vb107_5):=rfl
def ByI (σ:VHeap) (m:Mr) (p:Pt) (acc:List UInt8) (E:Env) (h:VHeap):Prop:=E 1=.ptr (σ.length+0) 1 0∧E 5=.bool p.rd∧E 6=.bool p.aa∧E 7=.bool p.fl∧E 8=.bool p.fr∧∃ g,E 9=.row (σ.length+2) g∧h=σ++[(1,.box (mrc m) false),(1,.row 1 [] false),(g,.row 1 (bsl acc) false),(0,.dead),(0,.dead),(0,.dead),(0,.dead),(0,.dead),(0,.dead),(0,.dead)]
section
variable {σ:VHeap} {Q:QP} {m:Mr} {p:Pt} {acc:List UInt8} {E:Env} {h:VHeap}
theorem by5 (om:okM m) (R:RightM m) (hp0:p=(ofF m.k).1) (hac:acc.length≤1000000) (hI:ByI σ m p acc E h) (kk:∀ E' h',ByI σ m p (acc++(if p.rd=true then m.rd else[])) E' h'→vrun Tryz.prog σ.length vb107_6 E' h' Q):vrun Tryz.prog σ.length vb107_5 E h Q:=by
 obtain⟨e1,e5,e6,e7,e8,g,e9,rfl⟩:=hI
 have ml:=mrc_len om
 have bl:=bsl_len acc
 unfold vb107_5
 refine cutp (ByI σ m p (acc++(if p.rd=true then m.rd else[]))) ?_ fun u s' hI'=>kk _ _ hI'
 cases hp:p.rd with
 | false=>
   rw[hp] at e5
   rw[if_neg (by decide),List.append_nil]
   refine W ?_
   exact⟨e1,hp▸e5,e6,e7,e8,g,e9,rfl⟩
 | true=>
   rw[hp] at e5
   rw[if_pos rfl]
   have v:=vc_rd om
   have b3:=bsl_len m.rd
   have l8:=om.rd
   have rk:RowOk 1 (bsl m.rd):=fun e he=>⟨szb _ e he,by obtain⟨b,_,rfl⟩:=List.mem_map.1 he;rfl⟩
   refine W ?_
   exact⟨e1,hp▸e5,e6,e7,e8,_,rfl,rfl⟩
theorem by6 (om:okM m) (R:RightM m) (hp0:p=(ofF m.k).1) (hac:acc.length≤1000000) (hI:ByI σ m p acc E h) (kk:∀ E' h',ByI σ m p (acc++(if p.aa=true then be m.aa.toNat 4 else[])) E' h'→vrun Tryz.prog σ.length vb107_7 E' h' Q):vrun Tryz.prog σ.length vb107_6 E h Q:=by
 obtain⟨e1,e5,e6,e7,e8,g,e9,rfl⟩:=hI
 have ml:=mrc_len om
 have bl:=bsl_len acc
 unfold vb107_6
 refine cutp (ByI σ m p (acc++(if p.aa=true then be m.aa.toNat 4 else[]))) ?_ fun u s' hI'=>kk _ _ hI'
 cases hp:p.aa with
 | false=>
   rw[hp] at e6
   rw[if_neg (by decide),List.append_nil]
   refine W ?_
   exact⟨e1,e5,hp▸e6,e7,e8,g,e9,rfl⟩
 | true=>
   rw[hp] at e6
   rw[if_pos rfl]
   have g2:=mc_as om
   have ha:=R.a0
   have hb:=R.a1
   obtain⟨n,hn⟩:∃ n:Nat,m.aa=n:=⟨m.aa.toNat,by omega⟩
   have ht:m.aa.toNat=n:=by omega
   rw[hn] at g2
   rw[ht]
   have l4:=be_len n 4
   have b4:=bsl_len (be n 4)
   refine W ?_
   refine cu (uR1Bytes (n:=n) (z:=4) (by omega) (by omega)) ?_
   refine W ?_
   exact⟨e1,e5,hp▸e6,e7,e8,_,rfl,rfl⟩
theorem by7 (om:okM m) (R:RightM m) (hp0:p=(ofF m.k).1) (hac:acc.length≤1000000) (hI:ByI σ m p acc E h) (kk:∀ E' h',ByI σ m p (acc++(if p.fl=true then(longF m.s++longF m.g) else[])) E' h'→vrun Tryz.prog σ.length vb107_8 E' h' Q):vrun Tryz.prog σ.length vb107_7 E h Q:=by
 obtain⟨e1,e5,e6,e7,e8,g,e9,rfl⟩:=hI
 have ml:=mrc_len om
 have bl:=bsl_len acc
 unfold vb107_7
 refine cutp (ByI σ m p (acc++(if p.fl=true then(longF m.s++longF m.g) else[]))) ?_ fun u s' hI'=>kk _ _ hI'
 cases hp:p.fl with
 | false=>
   rw[hp] at e7
   rw[if_neg (by decide),List.append_nil]
   refine W ?_
   exact⟨e1,e5,e6,hp▸e7,e8,g,e9,rfl⟩
 | true=>
   rw[hp] at e7
   rw[if_pos rfl]
   have fo:=flows_ok (R.fl (by rw[← hp0];exact hp))
   have g3:=mc_s om
   have g4:=mc_g om
   have ls:=adc_len om.s
   have lg:=adc_len om.g
   have b1:=bsl_len (longF m.s)
   have b2:=bsl_len (longF m.g)
   have a1:=abytes_len om.s
   have a2:=abytes_len om.g
   have c1:(longF m.s).length=(abytes m.s).length+1:=rfl
   have c2:(longF m.g).length=(abytes m.g).length+1:=rfl
   refine W ?_
   refine cu (uR7With om.s fo.1) ?_
   refine W ?_
   refine cu (uR7With om.g fo.2) ?_
   refine W ?_
   exact⟨e1,e5,e6,hp▸e7,e8,_,rfl,by rw[← List.append_assoc]⟩
theorem by8 (om:okM m) (R:RightM m) (hp0:p=(ofF m.k).1) (hac:acc.length≤1000000) (hI:ByI σ m p acc E h) (kk:∀ E' h',ByI σ m p (acc++(if p.fr=true then abytes m.f else[])) E' h'→vrun Tryz.prog σ.length vb107_9 E' h' Q):vrun Tryz.prog σ.length vb107_8 E h Q:=by
 obtain⟨e1,e5,e6,e7,e8,g,e9,rfl⟩:=hI
 have ml:=mrc_len om
 have bl:=bsl_len acc
 unfold vb107_8
 refine cutp (ByI σ m p (acc++(if p.fr=true then abytes m.f else[]))) ?_ fun u s' hI'=>kk _ _ hI'
 cases hp:p.fr with
 | false=>
   rw[hp] at e8
   rw[if_neg (by decide),List.append_nil]
   refine W ?_
   exact⟨e1,e5,e6,e7,hp▸e8,g,e9,rfl⟩
 | true=>
   rw[hp] at e8
   rw[if_pos rfl]
   have g5:=mc_f om
   have lf:=adc_len om.f
   have b1:=bsl_len (abytes m.f)
   have a1:=abytes_len om.f
   refine W ?_
   refine cu (uR2Bytes om.f) ?_
   refine W ?_
   exact⟨e1,e5,e6,e7,hp▸e8,_,rfl,rfl⟩
theorem by9 {Post:KP} (om:okM m) (R:RightM m) (hB:belH σ.length σ) (hac:acc=partsB m (ofF m.k).1) (hl:acc.length≤1000000) (hI:ByI σ m p acc E h) (hk:Post (.tup [.sl (bsl (mbytes m)),.int .i64 0]) σ):vrun Tryz.prog σ.length vb107_9 E h (vend vf107 (TrimP σ.length Post)):=by
 obtain⟨e1,e5,e6,e7,e8,g,e9,rfl⟩:=hI
 have ml:=mrc_len om
 have bl:=bsl_len acc
 have g0:cut (mrc m) 0 none=some (.int .i64 m.k):=rfl
 have h7:=kinds R.k
 have k1:((UInt8.ofNat m.k.toNat).toNat:Int)=m.k:=by
  rcases h7 with e|e|e|e|e|e|e<;>rw[e]<;>rfl
 have k2:IntKind.u8.wrap ((acc.length:Nat):Int)=((UInt8.ofNat acc.length).toNat:Int):=by
  rw[show (UInt8.ofNat acc.length).toNat=acc.length % 256 by simp]
  show ((acc.length:Nat):Int) % 256=_
  omega
 have e:bsl (mbytes m)=[PV.int .u8 ((UInt8.ofNat m.k.toNat).toNat:Int)]::[PV.int .u8 ((UInt8.ofNat acc.length).toNat:Int)]::bsl acc:=by rw[hac];rfl
 rw[e,k1] at hk
 unfold vb107_9
 refine W ?_
 exact hk
end
theorem uR7Bytes1 {m:Mr} (h:okM m) (hkl:m.key.length≤140737488355328) (hr:rightF m=true):U Tryz.prog 107 [.agg (mrc m)] (.tup [.sl (bsl (mbytes m)),.int .i64 0]):=by
 intro σ Post hk
 have sc:=mrc_sc (m:=m)
 have ml:=mrc_len h
 have c0:=mrc_all h
 have g0:cut (mrc m) 0 none=some (.int .i64 m.k):=rfl
 have g6:=mc_key h
 have R:=rightM hr
 have kl:=rightM_len R
 have ur:=uR7Right h hkl
 rw[hr] at ur
 have uw:=uWhat R.k
 have pl:=parts_len h R
 refine T107 fun hB hA=>?_
 rw[vb107_eq]
 have go:∀ (E:Env) (hh:VHeap),ByI σ m (ofF m.k).1 m.key E hh→vrun Tryz.prog σ.length vb107_5 E hh (vend vf107 (TrimP σ.length Post)):=fun E hh hI=>
  by5 h R rfl (by omega) hI fun E hh hI=>by6 h R rfl (by(split<;>simp[h.rd]<;>omega)) hI fun E hh hI=>by7 h R rfl (by(have:=be_len m.aa.toNat 4;split<;>split<;>simp[h.rd,this]<;>omega)) hI fun E hh hI=>by8 h R rfl (by
   have h1:=be_len m.aa.toNat 4
   have h2:=abytes_len h.s
   have h3:=abytes_len h.g
   have c1:(longF m.s).length=(abytes m.s).length+1:=rfl
   have c2:(longF m.g).length=(abytes m.g).length+1:=rfl
   split<;>split<;>split<;>simp[h.rd,h1,c1,c2]<;>omega) hI fun E hh hI=>by9 h R hB (by unfold partsB;simp only[List.append_assoc]) (by
   have h1:=be_len m.aa.toNat 4
   have h2:=abytes_len h.s
   have h3:=abytes_len h.g
   have h4:=abytes_len h.f
   have c1:(longF m.s).length=(abytes m.s).length+1:=rfl
   have c2:(longF m.g).length=(abytes m.g).length+1:=rfl
   split<;>split<;>split<;>split<;>simp[h.rd,h1,c1,c2]<;>omega) hI hk
 generalize (ofF m.k).1=p at *
 refine W ?_
 refine cu ur ?_
 refine W ?_
 refine cu uw ?_
 refine W ?_
 exact go _ _ ⟨rfl,rfl,rfl,rfl,rfl,_,rfl,rfl⟩
end Go.Proofs.YtdpeaefgbmkegaaGreatDoor
namespace Go.Proofs.YtdpeaefgbmkegaaGreatDoor
open Go Go.V
set_option maxRecDepth 10000
set_option linter.unusedVariables false
attribute [local irreducible] vBuild vCallV
theorem mb7_len {m:Mr} (h:okM m) (hr:rightF m=true):(mbytes m).length≤1000∧2≤(mbytes m).length:=by
 have R:=rightM hr
 have:=parts_len h R
 have:=mbytes_len (m:=m)
 omega
theorem uR7Row0:U Tryz.prog 181 [.sl []] (.tup [.sl [],.int .i64 0]):=by
 intro σ Post hk
 refine T181 fun hB hA=>?_
 refine W ?_
 refine lp (fun k e h=>e 5=.int .i64 0∧e 4=.row (σ.length+1) 1∧h=σ++[(1,VObj.row 1 [] false),(1,.row 1 [] false),(0,.dead)]) 0 ⟨rfl,rfl,rfl⟩ ?_
 rintro k u _ ⟨e5,e4,rfl⟩
 refine W ?_
 exact hk
theorem uR7Row1 {m:Mr} (h:okM m) (hkl:m.key.length≤140737488355328):U Tryz.prog 181 [.sl [mrc m]] (.tup [.sl (bsl (if rightF m=true then mbytes m else[])),.int .i64 (if rightF m=true then 0 else 1)]):=by
 intro σ Post hk
 have sc:=mrc_sc (m:=m)
 have ml:=mrc_len h
 have c0:=mrc_all h
 have b1:[mrc m].length=1:=rfl
 have hg:[mrc m][(0:Int).toNat]?=some (mrc m):=rfl
 refine T181 fun hB hA=>?_
 refine W ?_
 cases hr:rightF m with
 | false=>
   rw[hr,if_neg (by decide),if_neg (by decide)] at hk
   have ub:=uR7Bytes0 h hkl hr
   refine lp (fun k e h=>e 5=.int .i64 0∧e 4=.row (σ.length+1) 1∧h=σ++[(1,VObj.row 1 [] false),(1,.row 1 [] false),(0,.dead)]) 0 ⟨rfl,rfl,rfl⟩ ?_
   rintro k u _ ⟨e5,e4,rfl⟩
   refine W ?_
   refine cu ub ?_
   refine W ?_
   exact hk
 | true=>
   rw[hr,if_pos rfl,if_pos rfl] at hk
   have ub:=uR7Bytes1 h hkl hr
   have ln:=mb7_len h hr
   have bl:=bsl_len (mbytes m)
   refine lp (fun k e h=>(k=1∧e 5=.int .i64 0∧e 4=.row (σ.length+1) 1∧h=σ++[(1,VObj.row 1 [] false),(1,.row 1 [] false),(0,.dead)])∨(k=0∧e 5=.int .i64 1∧e 4=.row (σ.length+1) 2∧h=σ++[(1,VObj.row 1 [] false),(2,.row 1 (bsl (mbytes m)) false),(0,.dead)])) 1 (.inl ⟨rfl,rfl,rfl,rfl⟩) ?_
   rintro k u _ (⟨rfl,e5,e4,rfl⟩|⟨rfl,e5,e4,rfl⟩)
   ·refine W ?_
    refine cu ub ?_
    refine W ?_
    exact⟨0,by omega,.inr ⟨rfl,rfl,rfl,rfl⟩⟩
   ·refine W ?_
    exact hk
theorem uR7Read1 {m:Mr} {s:Int} (h:okM m) (hr:rightF m=true) (hs:s=4∨s=16):U Tryz.prog 183 [.sl (bsl (mbytes m)),.int .i64 s] (.tup [.sl (if szF s m=true then[mrc m] else[]),.int .i64 (if szF s m=true then 0 else 4)]):=by
 intro σ Post hk
 have ln:=mb7_len h hr
 have bl:=bsl_len (mbytes m)
 have uT:=uR7Take (l:=mbytes m) (s:=s) (by omega)
 rw[takeM_all h hr hs] at uT
 have sc:=mrc_sc (m:=m)
 have ml:=mrc_len h
 have c0:=mrc_all h
 have sa:=ms_any h (cs:=[PV.int .i64 0,D.o,D.o,D.o,D.o,D.o,D.o,D.o,D.o,.int .i64 0,.int .i64 0,D.o,D.o,D.o,D.o,D.o,D.o,D.o,D.o,D.o,D.o,D.o,D.o,D.o,D.o,D.o,D.o,.int .i64 0,D.o,D.o,D.o,D.o,D.o,D.o,D.o,D.o,D.o,D.o,D.o,D.o,D.o,D.o,D.o,D.o,.int .i64 0,D.o,D.o,D.o,D.o,D.o,D.o,D.o,D.o,D.o,D.o,D.o,D.o,D.o,D.o,D.o,D.o,.str []]) rfl
 have sc0:=mrc_sc (m:=mr0)
 have ml0:=mrc_len mr0_ok
 have c00:=mrc_all mr0_ok
 have sa0:=ms_any mr0_ok (cs:=[PV.int .i64 0,D.o,D.o,D.o,D.o,D.o,D.o,D.o,D.o,.int .i64 0,.int .i64 0,D.o,D.o,D.o,D.o,D.o,D.o,D.o,D.o,D.o,D.o,D.o,D.o,D.o,D.o,D.o,D.o,.int .i64 0,D.o,D.o,D.o,D.o,D.o,D.o,D.o,D.o,D.o,D.o,D.o,D.o,D.o,D.o,D.o,D.o,.int .i64 0,D.o,D.o,D.o,D.o,D.o,D.o,D.o,D.o,D.o,D.o,D.o,D.o,D.o,D.o,D.o,D.o,.str []]) rfl
 have rk:RowOk 62 [mrc m]:=fun e he=>by rw[List.mem_singleton.1 he];exact⟨ml,sc⟩
 have dr:List.map (fun b=>[byt b]) (List.drop (Int.toNat 0) (mbytes m))=bsl (mbytes m):=rfl
 refine T183 fun hB hA=>?_
 cases hz:szF s m with
 | false=>
   rw[hz,if_neg (by decide),if_neg (by decide)] at hk
   rw[hz,if_neg (by decide)] at uT
   dsimp only at uT
   rcases hs with hs|hs
   all_goals
    refine W ?_
    refine lp (fun k e h=>e 7=.int .i64 0∧e 6=.row (σ.length+1) 1∧h=σ++[(1,VObj.row 62 [] false),(1,.row 62 [] false),(0,.dead),(0,.dead),(0,.dead)]) 0 ⟨rfl,rfl,rfl⟩ ?_
    rintro k u _ ⟨e7,e6,rfl⟩
    refine W ?_
    rw[dr]
    refine cu uT ?_
    refine W ?_
    exact hk
 | true=>
   rw[hz,if_pos rfl,if_pos rfl] at hk
   rw[hz,if_pos rfl] at uT
   dsimp only at uT
   rcases hs with hs|hs
   all_goals
    refine W ?_
    refine lp (fun k e h=>(k=1∧e 7=.int .i64 0∧e 6=.row (σ.length+1) 1∧h=σ++[(1,VObj.row 62 [] false),(1,.row 62 [] false),(0,.dead),(0,.dead),(0,.dead)])∨(k=0∧e 7=.int .i64 ((mbytes m).length:Int)∧e 6=.row (σ.length+1) 2∧h=σ++[(1,VObj.row 62 [] false),(2,.row 62 [mrc m] false),(1,.box (mrc m) false),(1,.row 62 [mrc m] false),(0,.dead)])) 1 (.inl ⟨rfl,rfl,rfl,rfl⟩) ?_
    rintro k u _ (⟨rfl,e7,e6,rfl⟩|⟨rfl,e7,e6,rfl⟩)
    ·refine W ?_
     rw[dr]
     refine cu uT ?_
     refine W ?_
     exact⟨0,by omega,.inr ⟨rfl,by show PV.int _ _=PV.int _ _;congr 1;omega,rfl,rfl⟩⟩
    ·refine W ?_
     exact hk
theorem uR7Same1 {m:Mr} (h:okM m):U Tryz.prog 184 [.sl [mrc m],.sl [mrc m]] (.bool true):=by
 intro σ Post hk
 have sc:=mrc_sc (m:=m)
 have ml:=mrc_len h
 have c0:=mrc_all h
 have b1:[mrc m].length=1:=rfl
 have hg:[mrc m][(0:Int).toNat]?=some (mrc m):=rfl
 have q:=eqC_mr h h
 rw[beq_self_eq_true] at q
 refine T184 fun hB hA=>?_
 refine W ?_
 refine lp (fun k e h=>(k=1∧e 5=.int .i64 0∧h=σ++[])∨(k=0∧e 5=.int .i64 1∧h=σ++[])) 1 (.inl ⟨rfl,rfl,rfl⟩) ?_
 rintro k u _ (⟨rfl,e5,rfl⟩|⟨rfl,e5,rfl⟩)
 ·refine W ?_
  exact⟨0,by omega,.inr ⟨rfl,rfl,rfl⟩⟩
 ·refine W ?_
  exact hk
end Go.Proofs.YtdpeaefgbmkegaaGreatDoor
namespace Go.Proofs.YtdpeaefgbmkegaaGreatDoor
open Go Go.V
set_option maxRecDepth 10000
set_option linter.unusedVariables false
attribute [local irreducible] vBuild vCallV
theorem byte_bits:∀ (n:Fin 256) (t:Fin 9),(UInt8.ofNat n.1 &&& maskB (t.1:Int)=UInt8.ofNat n.1)↔∀ q:Fin 8,t.1≤q.1→¬ n.1 / 2 ^ (7 - q.1) % 2=1:=by decide +kernel
def bitF (b:List UInt8) (i:Nat):Bool:=decide ((b.getD (i / 8) 0).toNat / 2 ^ (7 - i % 8) % 2=1)
theorem cutB_get (k:Int):∀ (b:List UInt8) (k0:Int) (j:Nat),(cutB b k0)[j]?=(b[j]?).map fun x=>x &&& maskB (k0 - 8 * j)
 | [],k0,j=>by simp[cutB]
 | x::r,k0,0=>by simp[cutB]
 | x::r,k0,j+1=>by
   rw[cutB,List.getElem?_cons_succ,List.getElem?_cons_succ,cutB_get k r (k0 - 8) j]
   congr 2
   funext x
   rw[show k0 - 8 - 8 * (j:Int)=k0 - 8 * ((j+1:Nat):Int) by omega]
theorem mask_cl (k:Int):∃ t:Fin 9,maskB k=maskB (t.1:Int)∧((t.1:Int)=k∨(k≤0∧t.1=0)∨(8≤k∧t.1=8)):=by
 by_cases h0:k≤0
 ·exact⟨0,by unfold maskB;rw[if_pos h0];rfl,.inr (.inl ⟨h0,rfl⟩)⟩
 ·by_cases h8:8≤k
  ·exact⟨8,by unfold maskB;rw[if_neg h0,if_pos h8];rfl,.inr (.inr ⟨h8,rfl⟩)⟩
  ·exact⟨⟨k.toNat,by omega⟩,by rw[show ((k.toNat:Nat):Int)=k by omega],.inl (by show ((k.toNat:Nat):Int)=k;omega)⟩
theorem bits_cut {s k:Int} {b:List UInt8} (hb:b.length=16) (ha:okA s b=true) (h0:0≤k) (hk:k≤8 * s):(∀ i:Nat,k≤i→(i:Int)<8 * s→bitF b i=false)↔cutB b k=b:=by
 have hz:∀ j:Nat,s≤j→∀ x,b[j]?=some x→x=0:=fun j hj x hx=>by
  unfold okA at ha
  rw[Bool.and_eq_true,List.all_eq_true] at ha
  have hs:0≤s:=by have:=ha.1;simp at this;omega
  have:x∈b.drop s.toNat:=by
   refine List.mem_of_getElem? (i:=j - s.toNat) ?_
   rw[List.getElem?_drop,show s.toNat+(j - s.toNat)=j by omega];exact hx
  simpa using ha.2 x this
 have hs16:s≤16:=by
  unfold okA at ha
  rw[Bool.and_eq_true] at ha
  have:=ha.1;simp at this;omega
 constructor
 ·intro h
  refine List.ext_getElem? fun j=>?_
  rw[cutB_get 0]
  cases hx:b[j]? with
  | none=>rfl
  | some x=>
    show some (x &&& maskB (k - 8 * (j:Int)))=some x
    congr 1
    by_cases hj:s≤j
    ·rw[hz j hj x hx];simp
    ·obtain⟨t,e,ht⟩:=mask_cl (k - 8 * (j:Int))
     rw[e]
     have hb:=(byte_bits ⟨x.toNat,x.toNat_lt⟩ t).2 fun q hq=>by
      have hi:=h (8 * j+q.1) (by have:=q.2;omega) (by have:=q.2;omega)
      unfold bitF at hi
      rw[show (8 * j+q.1) / 8=j by have:=q.2;omega,show (8 * j+q.1) % 8=q.1 by have:=q.2;omega] at hi
      have:b.getD j 0=x:=by rw[List.getD_eq_getElem?_getD,hx];rfl
      rw[this] at hi
      simpa using hi
     simpa using hb
 ·intro h i h1 h2
  have hj:i / 8<b.length:=by omega
  obtain⟨x,hx⟩:∃ x,b[i / 8]?=some x:=⟨_,List.getElem?_eq_getElem hj⟩
  have hg:=cutB_get 0 b k (i / 8)
  rw[h,hx] at hg
  have hg:x=x &&& maskB (k - 8 * ((i / 8:Nat):Int)):=Option.some.inj hg
  obtain⟨t,e,ht⟩:=mask_cl (k - 8 * ((i / 8:Nat):Int))
  rw[e] at hg
  have:=(byte_bits ⟨x.toNat,x.toNat_lt⟩ t).1 (by simpa using hg.symm) ⟨i % 8,by omega⟩ (by show t.1≤i % 8;omega)
  unfold bitF
  have e2:b.getD (i / 8) 0=x:=by rw[List.getD_eq_getElem?_getD,hx];rfl
  rw[e2]
  simpa using this
theorem uBit {a:Ad} {i:Nat} (h:okD a) (hi:i<128):U Tryz.prog 280 [.agg (adc a),.int .i64 (i:Int)] (.bool (bitF a.b i)):=by
 intro σ Post hk
 have sc:=adc_sc (a:=a)
 have ln:=adc_len h
 have c0:=adc_all h
 obtain⟨x,hx⟩:∃ x,a.b[i / 8]?=some x:=⟨_,List.getElem?_eq_getElem (by rw[h];omega)⟩
 have hc:cut (adc a) (1+i / 8) none=some (byt x):=cut_adr hx
 have hq:i / 8<16:=by omega
 have hx2:=x.toNat_lt
 have b0:ibin .quo .i64 (i:Int) .i64 8=some (.int .i64 ((i / 8:Nat):Int)):=ib_quo8 (by omega)
 have b1:ibin .rem .i64 (i:Int) .i64 8=some (.int .i64 ((i % 8:Nat):Int)):=ib_rem8
 have b2:ibin .shr .u8 (x.toNat:Int) .i64 (7 - ((i % 8:Nat):Int))=some (.int .u8 ((x.toNat / 2 ^ (7 - i % 8):Nat):Int)):=by
  rw[show (7 - ((i % 8:Nat):Int))=((7 - i % 8:Nat):Int) by omega]
  exact ib_shrN (by show _≤8;omega)
 have b3:ibin .rem .u8 ((x.toNat / 2 ^ (7 - i % 8):Nat):Int) .u8 2=some (.int .u8 ((x.toNat / 2 ^ (7 - i % 8) % 2:Nat):Int)):=by
  simp only[ibin];rfl
 have e2:a.b.getD (i / 8) 0=x:=by rw[List.getD_eq_getElem?_getD,hx];rfl
 have e3:bitF a.b i=decide (x.toNat / 2 ^ (7 - i % 8) % 2=1):=by unfold bitF;rw[e2]
 rw[e3] at hk
 refine T280 fun hB hA=>?_
 by_cases h1:x.toNat / 2 ^ (7 - i % 8) % 2=1
 ·have h1':((x.toNat / 2 ^ (7 - i % 8) % 2:Nat):Int)=1:=by omega
  rw[decide_eq_true h1] at hk
  refine W ?_
  exact hk
 ·have h1':¬ ((x.toNat / 2 ^ (7 - i % 8) % 2:Nat):Int)=1:=by omega
  rw[decide_eq_false h1] at hk
  refine W ?_
  exact hk
theorem uR2Pfx {s k:Int} {b:List UInt8} (hb:b.length=16):U Tryz.prog 264 [.agg (pfx s b k)] (.bool (okP s b k)):=by
 intro σ Post hk
 have hd:okD ⟨s,b⟩:=hb
 have la:=adc_len hd
 have ea:pfx s b k=adc ⟨s,b⟩++[.int .i64 k]:=rfl
 have sc:(pfx s b k).all scalar=true:=by rw[ea,List.all_append,adc_sc];rfl
 have ln:(pfx s b k).length=18:=by rw[ea,List.length_append,la];rfl
 have c0:cut (pfx s b k) 0 (some 17)=some (.agg (adc ⟨s,b⟩)):=by
  rw[ea];simp only[cut]
  rw[if_pos (by rw[List.length_append,la];simp),List.drop_zero,List.take_left' la]
 have c1:cut (pfx s b k) 0 none=some (.int .i64 s):=rfl
 have c2:cut (pfx s b k) 17 none=some (.int .i64 k):=by
  rw[ea];unfold cut
  rw[List.getElem?_append_right (by rw[la];omega),la];rfl
 unfold okP at hk
 have ur:=uR2 hd
 have e0:okAd ⟨s,b⟩=okA s b:=rfl
 rw[e0] at ur
 refine T264 fun hB hA=>?_
 refine W ?_
 refine cu ur ?_
 cases ha:okA s b with
 | false=>
   rw[ha] at hk
   refine W ?_
   exact hk
 | true=>
 rw[ha,Bool.true_and] at hk
 have hs3:s=0∨s=4∨s=16:=by unfold okA at ha;simp at ha;omega
 by_cases hs:s=0
 ·have e:(s != 0)=false:=by simp[hs]
  rw[e] at hk
  refine W ?_
  exact hk
 have e:(s != 0)=true:=by simp[hs]
 rw[e,Bool.true_and] at hk
 by_cases k0:k<0
 ·rw[decide_eq_false (show ¬ 0≤k by omega)] at hk
  refine W ?_
  exact hk
 rw[decide_eq_true (show 0≤k by omega),Bool.true_and] at hk
 by_cases k8:8 * s<k
 ·rw[decide_eq_false (show ¬ k≤8 * s by omega)] at hk
  refine W ?_
  exact hk
 rw[decide_eq_true (show k≤8 * s by omega),Bool.true_and] at hk
 have hbc:=bits_cut hb ha (by omega) (show k≤8 * s by omega)
 obtain⟨kn,rfl⟩:∃ n:Nat,k=n:=⟨k.toNat,by omega⟩
 refine W ?_
 refine lp (fun j e h=>∃ i:Nat,(i:Int)+j=8 * s∧kn≤i∧e 4=.int .i64 i∧(∀ q:Nat,kn≤q→q<i→bitF b q=false)∧h=σ++[(1,VObj.box (pfx s b kn) false)]) (8 * s - kn).toNat ⟨kn,by omega,Nat.le_refl _,rfl,fun q h1 h2=>by omega,rfl⟩ ?_
 rintro j u _ ⟨i,hi,hki,e4,hal,rfl⟩
 by_cases h5:(i:Int)<8 * s
 ·have ub:=uBit (a:=⟨s,b⟩) (i:=i) hd (by omega)
  have eb:bitF (⟨s,b⟩:Ad).b i=bitF b i:=rfl
  rw[eb] at ub
  refine W ?_
  refine cu ub ?_
  cases hbit:bitF b i with
  | true=>
    have hne:(cutB b kn==b)=false:=by
     rw[beq_eq_false_iff_ne]
     intro hh
     have:=hbc.2 hh i (by omega) h5
     rw[hbit] at this;cases this
    rw[hne] at hk
    refine W ?_
    exact hk
  | false=>
    refine W ?_
    refine⟨j - 1,by omega,i+1,by omega,by omega,rfl,fun q h1 h2=>?_,rfl⟩
    by_cases hq:q=i
    ·rw[hq];exact hbit
    ·exact hal q h1 (by omega)
 ·have he:(cutB b kn==b)=true:=by
   rw[beq_iff_eq]
   exact hbc.1 fun q h1 h2=>hal q (by omega) (by omega)
  rw[he] at hk
  refine W ?_
  exact hk
end Go.Proofs.YtdpeaefgbmkegaaGreatDoor
namespace Go.Proofs.YtdpeaefgbmkegaaGreatDoor
open Go Go.V
set_option maxRecDepth 10000
set_option linter.unusedVariables false
attribute [local irreducible] vBuild vCallV
section
variable {x:Nm} {a:Int}
theorem nm_gp (h:okN x):cut (nmU x a) 8 (some 18)=some (.agg (pfx x.s x.b x.k)):=by
 show cut (u8c x.rd++(pfx x.s x.b x.k++[.int .i64 a])) 8 (some 18)=_
 refine cut_sk (n:=8) (o:=0) (by rw[u8c_len,h.1]) rfl ?_
 refine cut_hd ?_
 show (adr x.s x.b++[PV.int .i64 x.k]).length=18
 simp[adr,u8c_len,h.2]
theorem nm_ga (h:okN x):cut (nmU x a) 26 none=some (.int .i64 a):=by
 show cut (u8c x.rd++(pfx x.s x.b x.k++[.int .i64 a])) 26 none=_
 refine cut_sk (n:=8) (o:=18) (by rw[u8c_len,h.1]) rfl ?_
 exact cut_sk (n:=18) (o:=0) (by simp[pfx,adr,u8c_len,h.2]) rfl rfl
theorem nm_gk (h:okN x):cut (nmU x a) 25 none=some (.int .i64 x.k):=by
 show cut (u8c x.rd++((adr x.s x.b++[.int .i64 x.k])++[.int .i64 a])) 25 none=_
 refine cut_sk (n:=8) (o:=17) (by rw[u8c_len,h.1]) rfl ?_
 rw[List.append_assoc]
 exact cut_sk (n:=17) (o:=0) (by simp[adr,u8c_len,h.2]) rfl rfl
theorem vc_urd (h:okN x):VCut (nmU x a) 0 8 (bsl x.rd):=⟨by
 show List.map _ (List.take 8 (List.drop 0 (u8c x.rd++(pfx x.s x.b x.k++[.int .i64 a]))))=_
 rw[List.drop_zero,List.take_left' (by rw[u8c_len,h.1])];simp[u8c,bsl,Function.comp_def]⟩
theorem vc_ub (h:okN x) {l:Nat} (hl:l≤16):VCut (nmU x a) 9 l (bsl (x.b.take l)):=⟨by
 have e:nmU x a=(u8c x.rd++[.int .i64 x.s])++(u8c x.b++([.int .i64 x.k]++[.int .i64 a])):=by
  show u8c x.rd++((PV.int .i64 x.s::u8c x.b++[.int .i64 x.k])++[.int .i64 a])=_
  simp
 rw[e,List.drop_left' (by simp[u8c_len,h.1]),List.take_append_of_le_length (by rw[u8c_len,h.2];exact hl)]
 simp[u8c,bsl,List.map_take,Function.comp_def]⟩
theorem uR8Right (h:okN x):U Tryz.prog 251 [.agg (nmU x a)] (.bool (okR x a)):=by
 intro σ Post hk
 have sc:=nmU_sc (x:=x) (a:=a)
 have ln:=nmU_len (a:=a) h
 have c0:=nmU_all (a:=a) h
 have g1:=nm_gp (a:=a) h
 have g2:=nm_ga (a:=a) h
 have up:=uR2Pfx (s:=x.s) (k:=x.k) h.2
 have e:okR x a=(okP x.s x.b x.k&&decide (0≤a)&&decide (a≤1048575)):=rfl
 rw[e] at hk
 refine T251 fun hB hA=>?_
 refine W ?_
 refine cu up ?_
 cases hp:okP x.s x.b x.k with
 | false=>refine W ?_;exact finP hk (by simp[hp])
 | true=>
 by_cases h0:0≤a
 ·by_cases h1:a≤1048575
  ·refine W ?_;exact finP hk (by simp[hp,h0,h1])
  ·refine W ?_;exact finP hk (by simp[hp,h0,h1])
 ·refine W ?_;exact finP hk (by simp[hp,h0])
end
theorem uR5Bytes {a:Nat} (ha:a≤1048575):U Tryz.prog 252 [.int .i64 (a:Int),.bool true] (.tup [.sl (bsl (be (a * 16+1) 3)),.int .i64 0]):=by
 intro σ Post hk
 have ub:=uR1Bytes (n:=a * 16+1) (z:=3) (by omega) (by omega)
 have e:((a * 16+1:Nat):Int)=16 * (a:Int)+1:=by omega
 rw[e] at ub
 refine T252 fun hB hA=>?_
 refine W ?_
 refine cu ub ?_
 refine W ?_
 exact hk
theorem uR5Read {a:Nat} (ha:a≤1048575):U Tryz.prog 255 [.sl (bsl (be (a * 16+1) 3))] (.tup [.int .i64 (a:Int),.bool true,.int .i64 0]):=by
 intro σ Post hk
 have l3:=be_len (a * 16+1) 3
 have bl:=bsl_len (be (a * 16+1) 3)
 have eb:big (be (a * 16+1) 3) 0=a * 16+1:=by
  rw[big_be,Nat.zero_mul,Nat.zero_add]
  exact Nat.mod_eq_of_lt (by omega)
 have ub:=uBig (l:=be (a * 16+1) 3) (by omega)
 rw[eb] at ub
 have er:ibin .rem .i64 ((a * 16+1:Nat):Int) .i64 16=some (.int .i64 1):=by
  simp only[ibin]
  show some (PV.int IntKind.i64 (Int.tmod ((a * 16+1:Nat):Int) 16))=_
  congr 2
  rw[Int.tmod_eq_emod_of_nonneg (by omega)]
  omega
 have eq:ibin .quo .i64 ((a * 16+1:Nat):Int) .i64 16=some (.int .i64 (a:Int)):=by
  have e:IntKind.i64.wrap (((a * 16+1:Nat):Int).tdiv 16)=(a:Int):=by
   rw[Int.tdiv_eq_ediv_of_nonneg (by omega),w_i64 (by omega) (by omega)];omega
  rw[show ibin .quo .i64 ((a * 16+1:Nat):Int) .i64 16=some (.int .i64 (IntKind.i64.wrap (((a * 16+1:Nat):Int).tdiv 16))) from rfl,e]
 refine T255 fun hB hA=>?_
 refine W ?_
 refine cu ub ?_
 refine W ?_
 exact hk
section
variable {x:Nm} {a:Int}
theorem uR8Bytes (h:okN x) (ho:okR x a=true):U Tryz.prog 228 [.agg (nmU x a)] (.tup [.sl (bsl (ubN x a)),.int .i64 0]):=by
 intro σ Post hk
 have sc:=nmU_sc (x:=x) (a:=a)
 have ln:=nmU_len (a:=a) h
 have c0:=nmU_all (a:=a) h
 have g2:=nm_ga (a:=a) h
 have g3:=nm_gk (a:=a) h
 have hp:okP x.s x.b x.k=true∧0≤a∧a≤1048575:=by
  have e:okR x a=(okP x.s x.b x.k&&decide (0≤a)&&decide (a≤1048575)):=rfl
  rw[e] at ho;simp only[Bool.and_eq_true,decide_eq_true_eq] at ho;exact⟨ho.1.1,ho.1.2,ho.2⟩
 have hp2:(x.s=4∨x.s=16)∧0≤x.k∧x.k≤8 * x.s:=by
  have:=hp.1
  unfold okP okA at this
  simp at this;omega
 obtain⟨n,rfl⟩:∃ n:Nat,a=n:=⟨a.toNat,by omega⟩
 obtain⟨k,hkk⟩:∃ k:Nat,x.k=k:=⟨x.k.toNat,by omega⟩
 have ur:=uR8Right (a:=(n:Int)) h
 rw[ho] at ur
 have u5:=uR5Bytes (a:=n) (by omega)
 have l3:=be_len (n * 16+1) 3
 have b3:=bsl_len (be (n * 16+1) 3)
 have lr:=bsl_len x.rd
 have l8:=h.1
 have v1:=vc_urd (a:=(n:Int)) h
 have hq:(k+7) / 8≤16:=by omega
 have v2:=vc_ub (a:=(n:Int)) h hq
 have l16:=h.2
 have bt:=bsl_len (x.b.take ((k+7) / 8))
 have lt:(x.b.take ((k+7) / 8)).length=(k+7) / 8:=by rw[List.length_take,l16];omega
 have rk1:RowOk 1 (bsl x.rd):=fun e he=>⟨szb _ e he,by obtain⟨b,_,rfl⟩:=List.mem_map.1 he;rfl⟩
 have rk2:RowOk 1 (bsl (x.b.take ((k+7) / 8))):=fun e he=>⟨szb _ e he,by obtain⟨b,_,rfl⟩:=List.mem_map.1 he;rfl⟩
 have w1:IntKind.u8.wrap (88+x.k)=((UInt8.ofNat (88+x.k).toNat).toNat:Int):=by
  rw[show (UInt8.ofNat (88+x.k).toNat).toNat=(88+x.k).toNat % 256 by simp]
  show (88+x.k) % 256=_
  omega
 have e:bsl (ubN x n)=[PV.int .u8 (88+x.k)]::(bsl (be (n * 16+1) 3)++bsl x.rd++bsl (x.b.take ((k+7) / 8))):=by
  show bsl (UInt8.ofNat (88+x.k).toNat::(be ((n:Int).toNat * 16+1) 3++x.rd++x.b.take ((x.k+7) / 8).toNat))=_
  rw[show ((x.k+7) / 8).toNat=(k+7) / 8 by omega,Int.toNat_natCast]
  show [byt (UInt8.ofNat (88+x.k).toNat)]::bsl (be (n * 16+1) 3++x.rd++x.b.take ((k+7) / 8))=_
  rw[bsl_app,bsl_app]
  congr 2
  show PV.int _ _=PV.int _ _
  congr 1
  rw[show (UInt8.ofNat (88+x.k).toNat).toNat=(88+x.k).toNat % 256 by simp]
  omega
 have eq:ibin .quo .i64 (x.k+7) .i64 8=some (.int .i64 (((k+7) / 8:Nat):Int)):=by
  have e:IntKind.i64.wrap ((x.k+7).tdiv 8)=(((k+7) / 8:Nat):Int):=by
   rw[Int.tdiv_eq_ediv_of_nonneg (by omega),w_i64 (by omega) (by omega)];omega
  rw[show ibin .quo .i64 (x.k+7) .i64 8=some (.int .i64 (IntKind.i64.wrap ((x.k+7).tdiv 8))) from rfl,e]
 rw[e] at hk
 refine T228 fun hB hA=>?_
 refine W ?_
 refine cu ur ?_
 refine W ?_
 refine cu u5 ?_
 refine W ?_
 exact hk
end
end Go.Proofs.YtdpeaefgbmkegaaGreatDoor
