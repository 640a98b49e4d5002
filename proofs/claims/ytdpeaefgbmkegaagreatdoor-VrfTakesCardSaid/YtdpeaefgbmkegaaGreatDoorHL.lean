/- rib.nameOf, rib.Name. -/
import Derived.Test.YtdpeaefgbmkegaaGreatDoorHK
import Derived.Test.YtdpeaefgbmkegaaGreatDoorEC
set_option maxHeartbeats 8000000
namespace Go.Proofs.YtdpeaefgbmkegaaGreatDoor
open Go Go.V
set_option maxRecDepth 10000
attribute [local irreducible] vBuild vCallV
theorem cut_pre {X B:List PV} {o n:Nat} (h:o+n≤X.length):cut (X++B) o (some n)=cut X o (some n):=by
 simp only[cut]
 rw[if_pos h,if_pos (by rw[List.length_append];omega),List.drop_append_of_le_length (by omega),List.take_append_of_le_length (by rw[List.length_drop];omega)]
theorem cut_pre1 {X B:List PV} {o:Nat} (h:o<X.length):cut (X++B) o none=cut X o none:=by
 simp only[cut]
 rw[List.getElem?_append_left h]
theorem vcut_of {cs X:List PV} {o n:Nat} (h:cut cs o (some n)=some (.agg X)):VCut cs o n (X.map fun c=>[c]):=⟨by
 simp only[cut] at h
 split at h
 ·injection h with h;injection h with h;rw[h]
 ·cases h⟩
theorem u8c_rows (l:List UInt8):(u8c l).map (fun c=>[c])=bsl l:=by simp[u8c,bsl,Function.comp_def]
theorem rt_u {r:Rt} (h:okRt r) {o n:Nat} {X:List PV} (hn:o+n≤27) (e:cut (urU r.u) o (some n)=some (.agg X)):cut (rtC r) (64+o) (some n)=some (.agg X):=by
 have hl:=urU_len h.u
 exact cut_sk (n:=1) (o:=63+o) rfl (by omega) (cut_sk (n:=1) (o:=62+o) rfl (by omega) (cut_sk (o:=o) (mrc_len h.m) (by omega) ((cut_pre (by rw[hl];exact hn)).trans e)))
theorem byte_i {a:Int} (h0:0≤a) (h1:a≤255):([PV.int .u8 a]:List PV)=[byt (UInt8.ofNat a.toNat)]:=by
 have:(UInt8.ofNat a.toNat).toNat=a.toNat:=by simp;omega
 show [PV.int _ _]=[PV.int _ _]
 congr 2;omega
theorem nm_rows {a b:Int} {q:List UInt8} (a0:0≤a) (a1:a≤255) (b0:0≤b) (b1:b≤255):[[PV.int .u8 a],[PV.int .u8 b]]++bsl q=bsl (UInt8.ofNat a.toNat::UInt8.ofNat b.toNat::q):=by
 rw[byte_i a0 a1,byte_i b0 b1];rfl
def uName (x:Nm):List UInt8:=x.rd++(UInt8.ofNat x.s.toNat::(abytes ⟨x.s,x.b⟩++[UInt8.ofNat x.k.toNat]))
def nameF (r:Rt):List UInt8:=UInt8.ofNat r.size.toNat::UInt8.ofNat r.safi.toNat::(if r.safi=5 then mbytes r.m else uName r.u.1)
theorem uNameM {r:Rt} (h:okRt r) (hs:r.size=4∨r.size=16) (hf:r.safi=5) (hr:rightF r.m=true) (hkl:r.m.key.length≤140737488355328):U Tryz.prog 74 [.agg (rtC r)] (.str (nameF r)):=by
 intro σ Post hk
 have sc:=rtC_sc (x:=r)
 have ln:=rtC_len h
 have c0:=rtC_all h
 have g1:=rtC_gsize h
 have g2:=rtC_gsafi h
 have g3:=rtC_gm h
 have s0:0≤r.size∧r.size≤255:=by omega
 have pl:=mb_len h.m hr
 have e:([[PV.int .u8 r.size],[PV.int .u8 r.safi]]++bsl (mbytes r.m)).mapM V.byteOf=some (nameF r):=by rw[nm_rows s0.1 s0.2 (by omega) (by omega),m_bytes];unfold nameF;rw[if_pos hf]
 refine T74 fun hB hA=>?_
 refine W ?_
 refine cu (uMBytes h.m hkl hr) ?_
 refine W ?_
 exact hk
theorem uNameU {r:Rt} (h:okRt r) (hs:r.size=4∨r.size=16) (hf:r.safi=128) (hr:okR r.u.1 r.u.2=true):U Tryz.prog 74 [.agg (rtC r)] (.str (nameF r)):=by
 intro σ Post hk
 have sc:=rtC_sc (x:=r)
 have ln:=rtC_len h
 have c0:=rtC_all h
 have g1:=rtC_gsize h
 have g2:=rtC_gsafi h
 have g3:=rtC_gm h
 have s0:0≤r.size∧r.size≤255:=by omega
 have hp:=okR_parts hr
 have pf:cut (rtC r) 72 (some 18)=some (.agg (pfx r.u.1.s r.u.1.b r.u.1.k)):=rt_u h (o:=8) (by decide) (urc_pfx (rd:=r.u.1.rd) (s:=r.u.1.s) (b:=r.u.1.b) (k:=r.u.1.k) (a:=r.u.2) h.u.1 h.u.2)
 have rdc:cut (rtC r) 64 (some 8)=some (.agg (u8c r.u.1.rd)):=rt_u h (o:=0) (by decide) (urc_rd (rd:=r.u.1.rd) (s:=r.u.1.s) (b:=r.u.1.b) (k:=r.u.1.k) (a:=r.u.2) h.u.1 h.u.2)
 have vr:VCut (rtC r) 64 8 (bsl r.u.1.rd):=by have:=vcut_of rdc;rwa [u8c_rows] at this
 have pl:(pfx r.u.1.s r.u.1.b r.u.1.k).length=18:=by rw[pfx_len,h.u.2]
 have psc:=pfx_sc r.u.1.s r.u.1.k r.u.1.b
 have p0:splice [.int .i64 0,D.o,D.o,D.o,D.o,D.o,D.o,D.o,D.o,D.o,D.o,D.o,D.o,D.o,D.o,D.o,D.o,.int .i64 0] 0 (pfx r.u.1.s r.u.1.b r.u.1.k)=pfx r.u.1.s r.u.1.b r.u.1.k:=spl_hd0 (by rw[pl];rfl)
 have p1:cut (pfx r.u.1.s r.u.1.b r.u.1.k) 0 none=some (.int .i64 r.u.1.s):=rfl
 have p2:cut (pfx r.u.1.s r.u.1.b r.u.1.k) 0 (some 17)=some (.agg (adr r.u.1.s r.u.1.b)):=by unfold pfx;exact cut_hd (by rw[adr_len,h.u.2])
 have p3:cut (pfx r.u.1.s r.u.1.b r.u.1.k) 17 none=some (.int .i64 r.u.1.k):=by unfold pfx;exact cut_sk (o:=0) (by rw[adr_len,h.u.2]) rfl rfl
 have lrd:=h.u.1
 have lab:=abytes_len (a:=⟨r.u.1.s,r.u.1.b⟩) h.u.2
 have k0:0≤r.u.1.k∧r.u.1.k≤255:=by omega
 have s1:0≤r.u.1.s∧r.u.1.s≤255:=by omega
 have e:(((([[PV.int .u8 r.size],[PV.int .u8 r.safi]]++bsl r.u.1.rd)++[[PV.int .u8 r.u.1.s]])++bsl (abytes ⟨r.u.1.s,r.u.1.b⟩))++[[PV.int .u8 r.u.1.k]]).mapM V.byteOf=some (nameF r):=by
  rw[nm_rows s0.1 s0.2 (by omega) (by omega),byte_i s1.1 s1.2,byte_i k0.1 k0.2]
  have q:∀ x y:List UInt8,bsl x++bsl y=bsl (x++y):=fun x y=>by simp[bsl]
  have q1:∀ x:UInt8,([[byt x]]:List (List PV))=bsl [x]:=fun x=>rfl
  rw[q1,q1,q,q,q,m_bytes]
  unfold nameF uName
  rw[if_neg (by omega)];simp
 refine T74 fun hB hA=>?_
 refine Wo ?_
 refine drTree (fun hh=>vGet hh (σ.length+0) 1=some (.box (rtC r) false)∧vGet hh (σ.length+3) 1=some (.box (pfx r.u.1.s r.u.1.b r.u.1.k) false)) (.br [(2,0),(2,1),(2,2),(2,3),(2,5),(2,6),(2,7),(2,8)] 4 (.br [] 9 (.br [] 10 (.fin [(2,11)]) .stop) .stop) (.br [] 9 (.br [] 4 (.br [] 10 (.fin [(2,11)]) .stop) .stop) .stop)) (by kernel_rfl) (by kernel_rfl) ⟨lget rfl rfl,lget rfl rfl⟩ ?_
 refine vt_br (by exact z_ol) ?_
 (repeat (refine sv2n (fun hh hJ=>by obtain⟨hJ1,hJ2⟩:=hJ;exact z_ya) ?_))
 refine sv_nil ?_
 refine va_br rfl ?_ ?_
 ·skip
  refine est (by exact z_ea) ?_
  refine st_end ⟨⟨lget rfl rfl,lget rfl rfl⟩,?_⟩
  refine vt_br (by exact z_ol) ?_
  refine sv_nil ?_
  refine va_br rfl ?_ ?_
  ·skip
   refine est (by exact z_ea) ?_
   refine st_end ⟨⟨lget rfl rfl,lget rfl rfl⟩,?_⟩
   refine vt_br (by exact z_ol) ?_
   refine sv_nil ?_
   refine va_br rfl ?_ ?_
   ·skip
    refine est (by exact z_ea) ?_
    refine st_end ⟨⟨lget rfl rfl,lget rfl rfl⟩,?_⟩
    refine vt_fin (by exact z_ol) ?_
    (repeat (refine sv2n (fun hh hJ=>by obtain⟨hJ1,hJ2⟩:=hJ;exact z_ya) ?_))
    refine sv_nil ?_
    refine W ?_
    refine cu (uABytes (a:=⟨r.u.1.s,r.u.1.b⟩) h.u.2) ?_
    refine W ?_
    exact hk
   ·exact va_stop
  ·exact va_stop
 ·refine va_br rfl ?_ ?_
  ·skip
   refine est (by exact z_ea) ?_
   refine st_end ⟨⟨lget rfl rfl,lget rfl rfl⟩,?_⟩
   refine vt_br (by exact z_ol) ?_
   refine sv_nil ?_
   refine va_br rfl ?_ ?_
   ·skip
    refine est (by exact z_ea) ?_
    refine st_end ⟨⟨lget rfl rfl,lget rfl rfl⟩,?_⟩
    refine vt_br (by exact z_ol) ?_
    refine sv_nil ?_
    refine va_br rfl ?_ ?_
    ·skip
     refine est (by exact z_ea) ?_
     refine st_end ⟨⟨lget rfl rfl,lget rfl rfl⟩,?_⟩
     refine vt_fin (by exact z_ol) ?_
     (repeat (refine sv2n (fun hh hJ=>by obtain⟨hJ1,hJ2⟩:=hJ;exact z_ya) ?_))
     refine sv_nil ?_
     refine W ?_
     refine cu (uABytes (a:=⟨r.u.1.s,r.u.1.b⟩) h.u.2) ?_
     refine W ?_
     exact hk
    ·exact va_stop
   ·exact va_stop
  ·exact va_stop
theorem uRibName {r:Rt} {b:Bool} {n:List UInt8} (h:okRt r) (hr:U Tryz.prog 73 [.agg (rtC r)] (.bool b)) (hn:b=true→U Tryz.prog 74 [.agg (rtC r)] (.str n)):U Tryz.prog 32 [.agg (rtC r)] (.tup [.str (if b then n else[]),.bool b]):=by
 intro σ Post hk
 have sc:=rtC_sc (x:=r)
 have ln:=rtC_len h
 have c0:=rtC_all h
 refine T32 fun hB hA=>?_
 refine W ?_
 refine cu (hr) ?_
 cases hb:b with
 | true=>
   rw[hb] at hk
   refine W ?_
   refine cu (hn hb) ?_
   refine W ?_
   exact hk
 | false=>
   rw[hb] at hk
   refine W ?_
   exact hk
end Go.Proofs.YtdpeaefgbmkegaaGreatDoor
namespace Go.Proofs.YtdpeaefgbmkegaaGreatDoor
open Go Go.V
set_option maxRecDepth 10000
theorem eqUr_eq {x y:UR} (h:eqUr x y=true):x=y:=by
 obtain⟨⟨a,b,c,d⟩,e⟩:=x
 obtain⟨⟨a',b',c',d'⟩,e'⟩:=y
 unfold eqUr sameU at h
 simp only[Bool.and_eq_true,beq_iff_eq] at h
 obtain⟨h1,h2⟩:=h
 simp_all
theorem eqUr_self (x:UR):eqUr x x=true:=by unfold eqUr sameU;simp
theorem eqBy_self {α:Type} {e:α→α→Bool} (h:∀ x,e x x=true):∀ l:List α,eqBy e l l=true
 | []=>rfl
 | x::r=>by rw[eqBy,h,eqBy_self h r];rfl
theorem sameTb_self (t:Tb):sameTb t t=true:=by
 unfold sameTb
 rw[eqBy_self (fun x=>by simp) t.m,eqBy_self eqUr_self t.u];simp
theorem badTb_no {t:Tb} (h:badTb t true=false):(t.size=4∨t.size=16)∧okAd t.next=true∧0<t.next.s:=by
 unfold badTb at h
 rw[Bool.or_eq_false_iff,Bool.or_eq_false_iff] at h
 obtain⟨h1,h2,h3⟩:=h
 refine⟨?_,by simpa using h2,?_⟩
 ·rcases Bool.and_eq_false_iff.1 h1 with h1|h1
  ·have:=of_decide_eq_false h1;omega
  ·have:=of_decide_eq_false h1;omega
 ·cases hd:decide (0<t.next.s) with
  | true=>exact of_decide_eq_true hd
  | false=>rw[hd] at h3;cases h3
theorem badTb_yes {t:Tb} (h:badTb t true=true):¬ ((t.size=4∨t.size=16)∧okAd t.next=true∧0<t.next.s):=by
 rintro ⟨h1,h2,h3⟩
 unfold badTb at h
 rw[h2,decide_eq_true h3] at h
 rcases h1 with h1|h1<;>rw[h1] at h<;>simp at h
theorem rtT_bad {r:Rt} (h:badTb (aloneT r) true=true):rtT r=false:=by
 have:=badTb_yes h
 unfold rtT
 cases h1:(decide (r.size=4)||decide (r.size=16)) with
 | false=>rfl
 | true=>
   cases h2:okAd r.next with
   | false=>rfl
   | true=>
     by_cases h3:0<r.next.s
     ·exact absurd ⟨(by simpa using h1:r.size=4∨r.size=16),h2,h3⟩ this
     ·rw[decide_eq_false h3];rfl
theorem rtT_ok {r:Rt} (h:badTb (aloneT r) true=false):rtT r=(if r.safi=5 then mOne r.m r.size else if r.safi=128 then uOne r.u r.size else false):=by
 obtain⟨h1,h2,h3⟩:=badTb_no h
 have h1:r.size=4∨r.size=16:=h1
 have h2:okAd r.next=true:=h2
 have h3:0<r.next.s:=h3
 unfold rtT
 rw[h2,decide_eq_true h3]
 rcases h1 with h1|h1<;>rw[h1]<;>simp
theorem wrong_alone {r:Rt} (h:okRt r):wrongTb (aloneT r) true=!rtT r:=by
 cases hb:badTb (aloneT r) true with
 | true=>
   rw[rtT_bad hb]
   unfold wrongTb
   rw[hb];rfl
 | false=>
   rw[rtT_ok hb]
   obtain⟨hs,_,_⟩:=badTb_no hb
   have hs:r.size=4∨r.size=16:=hs
   unfold wrongTb
   rw[hb,Bool.false_or]
   by_cases f5:r.safi=5
   ·have ea:aloneT r=⟨r.size,r.safi,r.next,[r.m],[]⟩:=by
     unfold aloneT;rw[if_pos f5,if_neg (fun e=>e.1 f5)]
    rw[if_pos f5,ea]
    have e1:oneTb ⟨r.size,r.safi,r.next,[r.m],[]⟩=true:=by unfold oneTb;simp[f5]
    have e2:rowTb ⟨r.size,r.safi,r.next,[r.m],[]⟩=rowM [r.m]:=by unfold rowTb;rw[if_pos f5]
    rw[e1,e2,rowM_one]
    unfold mOne
    cases hr:rightF r.m with
    | false=>rfl
    | true=>
      rw[if_pos rfl]
      have e3:readTb ⟨r.size,r.safi,r.next,[r.m],[]⟩ (mbytes r.m)=(⟨r.size,r.safi,r.next,(readRM (mbytes r.m) r.size).1,[]⟩,(readRM (mbytes r.m) r.size).2):=by unfold readTb;rw[if_pos f5]
      dsimp only
      rw[e3,readM_one h.m hr hs]
      cases hz:szF r.size r.m with
      | true=>
        rw[if_pos rfl,sameTb_self];rfl
      | false=>
        rw[if_neg (by simp)];rfl
   ·rw[if_neg f5]
    by_cases f128:r.safi=128
    ·have ea:aloneT r=⟨r.size,r.safi,r.next,[],[r.u]⟩:=by
      unfold aloneT;rw[if_neg f5,if_pos ⟨f5,f128⟩]
     rw[if_pos f128,ea]
     have e1:oneTb ⟨r.size,r.safi,r.next,[],[r.u]⟩=true:=by unfold oneTb;simp[f128]
     have e2:rowTb ⟨r.size,r.safi,r.next,[],[r.u]⟩=rowF [r.u]:=by unfold rowTb;rw[if_neg f5]
     rw[e1,e2,rowF_one]
     unfold uOne
     cases hr:okR r.u.1 r.u.2 with
     | false=>rfl
     | true=>
       rw[if_pos rfl]
       have e3:readTb ⟨r.size,r.safi,r.next,[],[r.u]⟩ (ubN r.u.1 r.u.2)=(⟨r.size,r.safi,r.next,[],(readF (ubN r.u.1 r.u.2) r.size).1⟩,(readF (ubN r.u.1 r.u.2) r.size).2):=by unfold readTb;rw[if_neg f5]
       dsimp only
       rw[e3]
       by_cases hu:r.u.1.s=r.size
       ·have:=readF_one h.u hr
        rw[hu] at this
        rw[this,sameTb_self,decide_eq_true hu];rfl
       ·have hne:=readF_other (l:=ubN r.u.1 r.u.2) hu
        rw[decide_eq_false hu]
        generalize readF (ubN r.u.1 r.u.2) r.size=q at *
        have hsame:sameTb ⟨r.size,r.safi,r.next,[],q.1⟩ ⟨r.size,r.safi,r.next,[],[r.u]⟩=false:=by
         unfold sameTb
         have:eqBy eqUr q.1 [r.u]=false:=by
          match hq:q.1 with
          | []=>rfl
          | [x]=>
            rw[eqBy,eqBy,Bool.and_true]
            cases he:eqUr x r.u with
            | false=>rfl
            | true=>rw[eqUr_eq he] at hq;exact absurd hq hne
          | _::_::_=>exact eqBy_len _ (by simp)
         rw[this];simp
        dsimp only
        rw[hsame];simp
    ·have e1:oneTb (aloneT r)=false:=by
      unfold oneTb aloneT;simp[f5,f128]
     rw[if_neg f128,e1];rfl
structure okRib (r:Rt):Prop where
 ok:okRt r
 cl:∀ c,c∈r.att.cl→okD c
 tn:∀ t,t∈r.att.tn→okTn t
 id:∀ t,t∈r.att.tn→t.id.length≤140737488355328
 key:r.m.key.length≤140737488355328
theorem rows_alone {r:Rt} (o:okRib r):okRows (aloneT r):=by
 unfold aloneT
 refine⟨?_,?_,?_,?_⟩
 ·intro m hm;dsimp only at hm;split at hm
  ·simp at hm;subst hm;exact⟨o.ok.m,o.key⟩
  ·cases hm
 ·intro m hm;dsimp only at hm;split at hm
  ·simp at hm;subst hm;exact o.ok.u
  ·cases hm
 ·dsimp only;split<;>simp
 ·dsimp only;split<;>simp
theorem uRtR {r:Rt} (o:okRib r):U Tryz.prog 73 [.agg (rtC r)] (.bool (rtR r)):=by
 have hc:wrongTb (aloneT r) true=false→(aloneT r).m.length+(aloneT r).u.length≠0:=by
  intro hw
  by_cases h5:r.safi=5∨r.safi=128
  ·unfold aloneT;rcases h5 with h|h<;>simp[h]
  ·exfalso
   rw[wrong_alone o.ok] at hw
   unfold rtT at hw
   rw[if_neg (fun e=>h5 (.inl e)),if_neg (fun e=>h5 (.inr e))] at hw
   simp at hw
 have:=uRtRight o.ok o.cl ⟨o.tn,o.id⟩ (rows_alone o) hc
 rw[wrong_alone o.ok,Bool.not_not] at this
 exact this
theorem rtR_parts {r:Rt} (h:rtR r=true):(r.size=4∨r.size=16)∧(r.safi=5∧rightF r.m=true∨r.safi=128∧okR r.u.1 r.u.2=true):=by
 unfold rtR at h
 simp only[Bool.and_eq_true] at h
 have h2:=h.2.2
 unfold rtT at h2
 simp only[Bool.and_eq_true,Bool.or_eq_true,decide_eq_true_eq] at h2
 obtain⟨h3,_,_,h4⟩:=h2
 refine⟨h3,?_⟩
 split at h4
 ·rename_i f5
  unfold mOne at h4
  rw[Bool.and_eq_true] at h4
  exact .inl ⟨f5,h4.1⟩
 ·split at h4
  ·rename_i f128
   unfold uOne at h4
   rw[Bool.and_eq_true] at h4
   exact .inr ⟨f128,h4.1⟩
  ·cases h4
def nameR (r:Rt):List UInt8:=if rtR r=true then nameF r else[]
theorem uName15 {r:Rt} (o:okRib r):U Tryz.prog 32 [.agg (rtC r)] (.tup [.str (nameR r),.bool (rtR r)]):=by
 unfold nameR
 refine uRibName o.ok (uRtR o) fun hb=>?_
 obtain⟨hs,h|h⟩:=rtR_parts hb
 ·exact uNameM o.ok hs h.1 h.2 o.key
 ·exact uNameU o.ok hs h.1 h.2
end Go.Proofs.YtdpeaefgbmkegaaGreatDoor
