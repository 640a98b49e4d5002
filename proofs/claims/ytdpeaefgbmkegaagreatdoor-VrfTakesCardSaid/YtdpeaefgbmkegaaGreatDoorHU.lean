/- community.Kind; vrf: named, targets, Right. -/
import Derived.Test.YtdpeaefgbmkegaaGreatDoorHW
import Derived.Test.YtdpeaefgbmkegaaGreatDoorFE
import Derived.Test.YtdpeaefgbmkegaaGreatDoorHG
import Derived.Test.YtdpeaefgbmkegaaGreatDoorGC
set_option maxHeartbeats 16000000
namespace Go.Proofs.YtdpeaefgbmkegaaGreatDoor
open Go Go.V
set_option maxRecDepth 10000
set_option linter.unusedVariables false
def ok8 (l:List UInt8):Prop:=l.length=8
theorem u8c_len8 {l:List UInt8} (h:ok8 l):(u8c l).length=8:=by rw[u8c_len];exact h
structure Vr where
 name:List UInt8
 num:Int
 rd:List UInt8
 imp:List (List UInt8)
 exp:List (List UInt8)
 rp:Ad
 sel:List Ad
def vrC (x:Vr):List PV:=[.str x.name]++([.int .i64 x.num]++(u8c x.rd++([.sl (x.imp.map u8c)]++([.sl (x.exp.map u8c)]++(adc x.rp++([.sl (x.sel.map adc)]))))))
instance (x:Vr):PlL (vrC x):=by unfold vrC;infer_instance
instance (x:Vr):ClL (vrC x):=by unfold vrC;infer_instance
structure okVr (x:Vr):Prop where
 rd:ok8 x.rd
 rp:okD x.rp
section
variable {x:Vr}
theorem vrC_sc:(vrC x).all scalar=true:=by
 unfold vrC
 simp only[List.all_append,u8c_sc x.rd,adc_sc,List.all_cons,List.all_nil,scalar,Bool.and_self]
theorem vrC_len (h:okVr x):(vrC x).length=30:=by
 unfold vrC
 simp only[List.length_append,List.length_cons,List.length_nil,(u8c_len8 h.rd),(adc_len h.rp)]
theorem vrC_all (h:okVr x):cut (vrC x) 0 (some 30)=some (.agg (vrC x)):=cut_hd0 (vrC_len h)
theorem vrC_gname (h:okVr x):cut (vrC x) 0 none=some (.str x.name):=rfl
theorem vrC_gnum (h:okVr x):cut (vrC x) 1 none=some (.int .i64 x.num):=cut_sk (o:=0) rfl rfl (rfl)
theorem vrC_grd (h:okVr x):cut (vrC x) 2 (some 8)=some (.agg (u8c x.rd)):=cut_sk (o:=1) rfl rfl (cut_sk (o:=0) rfl rfl (cut_hd (u8c_len8 h.rd)))
theorem vrC_gimp (h:okVr x):cut (vrC x) 10 none=some (.sl (x.imp.map u8c)):=cut_sk (o:=9) rfl rfl (cut_sk (o:=8) rfl rfl (cut_sk (o:=0) (u8c_len8 h.rd) rfl (rfl)))
theorem vrC_gexp (h:okVr x):cut (vrC x) 11 none=some (.sl (x.exp.map u8c)):=cut_sk (o:=10) rfl rfl (cut_sk (o:=9) rfl rfl (cut_sk (o:=1) (u8c_len8 h.rd) rfl (cut_sk (o:=0) rfl rfl (rfl))))
theorem vrC_grp (h:okVr x):cut (vrC x) 12 (some 17)=some (.agg (adc x.rp)):=cut_sk (o:=11) rfl rfl (cut_sk (o:=10) rfl rfl (cut_sk (o:=2) (u8c_len8 h.rd) rfl (cut_sk (o:=1) rfl rfl (cut_sk (o:=0) rfl rfl (cut_hd (adc_len h.rp))))))
theorem vrC_gsel (h:okVr x):cut (vrC x) 29 none=some (.sl (x.sel.map adc)):=cut_sk (o:=28) rfl rfl (cut_sk (o:=27) rfl rfl (cut_sk (o:=19) (u8c_len8 h.rd) rfl (cut_sk (o:=18) rfl rfl (cut_sk (o:=17) rfl rfl (cut_sk (o:=0) (adc_len h.rp) rfl (rfl))))))
end
attribute [local irreducible] vBuild vCallV
def kindE (e:List UInt8):Int:=
 if (e.getD 1 0).toNat=2∧(e.getD 0 0).toNat≤2 then 1 else if (e.getD 1 0).toNat=11∧(e.getD 0 0).toNat=1 then 2 else if ((e.getD 1 0).toNat=9∧(e.getD 0 0).toNat=2)∧(e.getD 6 0 ||| e.getD 7 0).toNat=0 then 3 else 0
theorem ib_orB {a b:UInt8}:ibin .or .u8 (a.toNat:Int) .u8 (b.toNat:Int)=some (.int .u8 (((a ||| b).toNat:Nat):Int)):=by
 simp only[ibin,ibits,if_true]
 rw[bv_u8,bv_u8]
 have e:(BitVec.ofNat 8 a.toNat ||| BitVec.ofNat 8 b.toNat).toNat=(a ||| b).toNat:=by
  have h1:=a.toNat_lt
  have h2:=b.toNat_lt
  rw[BitVec.toNat_or,BitVec.toNat_ofNat,BitVec.toNat_ofNat,Nat.mod_eq_of_lt (by omega),Nat.mod_eq_of_lt (by omega),UInt8.toNat_or]
 show some (PV.int .u8 (IntKind.u8.wrap ((BitVec.ofNat 8 a.toNat ||| BitVec.ofNat 8 b.toNat).toNat:Int)))=_
 have:=(a ||| b).toNat_lt
 rw[e,w_u8 (by omega) (by omega)]
theorem uKind {e:List UInt8} (h8:e.length=8):U Tryz.prog 81 [.agg (u8c e)] (.int .i64 (kindE e)):=by
 match e,h8 with
 | [a,b,c,d,e,f,g,h],_=>
   intro σ Post hk
   have k0:cut (u8c [a,b,c,d,e,f,g,h]) 0 none=some (.int .u8 (a.toNat:Int)):=rfl
   have k1:cut (u8c [a,b,c,d,e,f,g,h]) 1 none=some (.int .u8 (b.toNat:Int)):=rfl
   have k6:cut (u8c [a,b,c,d,e,f,g,h]) 6 none=some (.int .u8 (g.toNat:Int)):=rfl
   have k7:cut (u8c [a,b,c,d,e,f,g,h]) 7 none=some (.int .u8 (h.toNat:Int)):=rfl
   have hl:(u8c [a,b,c,d,e,f,g,h]).length=8:=rfl
   have sc:=u8c_sc [a,b,c,d,e,f,g,h]
   have o67:=ib_orB (a:=g) (b:=h)
   have kd:kindE [a,b,c,d,e,f,g,h]=(if b.toNat=2∧a.toNat≤2 then 1 else if b.toNat=11∧a.toNat=1 then 2 else if (b.toNat=9∧a.toNat=2)∧(g ||| h).toNat=0 then 3 else 0):=rfl
   generalize (g ||| h).toNat=gh at *
   refine T81 fun hB hA=>?_
   by_cases b2:b.toNat=2
   ·by_cases ale:a.toNat≤2
    ·refine W ?_
     exact fin hk (by rw[kd];simp[*])
    ·refine W ?_
     exact fin hk (by rw[kd];simp[*])
   ·by_cases b11:b.toNat=11
    ·by_cases a1:a.toNat=1
     ·refine W ?_
      exact fin hk (by rw[kd];simp[*])
     ·refine W ?_
      exact fin hk (by rw[kd];simp[*])
    ·by_cases b9:b.toNat=9
     ·by_cases a2:a.toNat=2
      ·by_cases o0:gh=0
       ·refine W ?_
        exact fin hk (by rw[kd];simp[*])
       ·refine W ?_
        exact fin hk (by rw[kd];simp[*])
      ·refine W ?_
       exact fin hk (by rw[kd];simp[*])
     ·refine W ?_
      exact fin hk (by rw[kd];simp[*])
theorem uNotTarget {e:List UInt8} (h8:e.length=8):U Tryz.prog 129 [.agg (u8c e)] (.bool (decide (kindE e≠1))):=by
 intro σ Post hk
 have ln:(u8c e).length=8:=u8c_len8 h8
 have sc:=u8c_sc e
 have c0:=cut_hd0 ln
 refine T129 fun hB hA=>?_
 refine W ?_
 refine cu (uKind h8) ?_
 by_cases k1:kindE e=1
 ·refine W ?_
  exact fin hk (by simp[k1])
 ·refine W ?_
  exact fin hk (by simp[k1])
theorem tIdxE {l:List (List UInt8)} {p:List UInt8→Bool} {q:FuncId} {cap:List PV} {σ:VHeap} {Post:KP} (hl:l.length≤4611686018427387904) (hcall:callOk Tryz.prog q=true) (ho:∀ x,x∈l→x.length=8) (hf:∀ x,x∈l→∀ (L:VHeap) (Q:KP),Q (.bool (p x)) (σ++L)→T Tryz.prog q (.agg (u8c x)::cap) (σ++L) Q) (hk:Post (.int .i64 (idxF p l)) σ) :
  T Tryz.prog 139 [.sl (l.map fun x=>u8c x),.fn q cap] σ Post:=by
 refine T139 fun hB hA=>?_
 refine W ?_
 refine lp (fun j e s=>∃ i:Nat,i+j=l.length∧e 8=.int .i64 i∧(l.take i).any p=false∧s=σ++[]) l.length ⟨0,by simp,rfl,by simp,rfl⟩ ?_
 rintro j u _ ⟨i,hi,e8,hal,rfl⟩
 by_cases h5:i<l.length
 ·obtain⟨x,hx⟩:∃ x,l[i]?=some x:=⟨_,List.getElem?_eq_getElem h5⟩
  have hg:(l.map fun x=>u8c x)[(i:Int).toNat]?=some (u8c x):=by rw[Int.toNat_natCast,List.getElem?_map,hx];rfl
  have hm:=List.mem_of_getElem? hx
  have cx:cut (u8c x) 0 (some 8)=some (.agg (u8c x)):=cut_hd0 (u8c_len8 (ho x hm))
  have lx:=u8c_len8 (ho x hm)
  refine W ?_
  refine callC (vs:=[.agg (u8c x)]) rfl hcall rfl ?_
  refine hf x hm [] _ ?_
  cases hp:p x with
  | true=>
    rw[idxF_at hal hx hp] at hk
    refine W ?_
    exact hk
  | false=>
    refine W ?_
    refine⟨j - 1,by omega,i+1,by omega,rfl,?_,rfl⟩
    rw[take_snoc hx,List.any_append,hal];simp[hp]
 ·have h9:l.take i=l:=List.take_of_length_le (by omega)
  rw[h9] at hal
  rw[idxF_no hal] at hk
  refine W ?_
  exact hk
theorem tConE {l:List (List UInt8)} {p:List UInt8→Bool} {q:FuncId} {cap:List PV} {σ:VHeap} {Post:KP} (hl:l.length≤4611686018427387904) (hcall:callOk Tryz.prog q=true) (ho:∀ x,x∈l→x.length=8) (hf:∀ x,x∈l→∀ (L:VHeap) (Q:KP),Q (.bool (p x)) (σ++L)→T Tryz.prog q (.agg (u8c x)::cap) (σ++L) Q) (hk:Post (.bool (l.any p)) σ) :
  T Tryz.prog 96 [.sl (l.map fun x=>u8c x),.fn q cap] σ Post:=by
 have e:decide (0≤idxF p l)=l.any p:=idxF_any p l
 rw[← e] at hk
 refine T96 fun hB hA=>?_
 refine W ?_
 refine ct ?_
 refine tIdxE hl hcall ho (fun x hx L Q=>by rw[List.append_nil];exact hf x hx L Q) ?_
 refine W ?_
 exact hk
def targF (l:List (List UInt8)):Bool:=decide (1≤l.length)&&(decide (l.length≤8)&&!(l.any fun e=>decide (kindE e≠1)))
theorem uTargets {l:List (List UInt8)} (ho:∀ x,x∈l→x.length=8):U Tryz.prog 89 [.sl (l.map u8c)] (.bool (targF l)):=by
 intro σ Post hk
 have b1:(l.map u8c).length=l.length:=List.length_map _
 have hc:callOk Tryz.prog 129=true:=by kernel_rfl
 refine T89 fun hB hA=>?_
 by_cases l1:1≤l.length
 ·by_cases l8:l.length≤8
  ·refine W ?_
   refine ct ?_
   refine tConE (l:=l) (p:=fun e=>decide (kindE e≠1)) (by omega) hc ho (fun x hx L Q hq=>uNotTarget (ho x hx) _ _ hq) ?_
   refine W ?_
   exact fin hk (by simp[targF,l1,l8])
  ·refine W ?_
   exact fin hk (by simp[targF,l1,l8])
 ·refine W ?_
  exact fin hk (by simp[targF,l1])
theorem decode_w (s:ByteArray) (i:Nat):1≤(Utf8.decode s i).2:=by
 unfold Utf8.decode
 dsimp only
 repeat' split
 all_goals simp
def nmG (s:List UInt8):Nat→Nat→Bool
 | 0,_=>true
 | f+1,p=>if p<s.length then(if (Utf8.decode ⟨s.toArray⟩ p).1<97∨122<(Utf8.decode ⟨s.toArray⟩ p).1 then false else nmG s f (p+(Utf8.decode ⟨s.toArray⟩ p).2)) else true
def namedF (s:List UInt8):Bool:=nmG s s.length 0&&(decide (s≠[])&&decide (s.length≤8))
theorem nmG_end (s:List UInt8) (f p:Nat) (h:¬ p<s.length):nmG s f p=true:=by
 cases f with
 | zero=>rfl
 | succ f=>rw[nmG,if_neg h]
theorem uNamed {s:List UInt8} (hl:s.length≤9223372036854775807):U Tryz.prog 88 [.str s] (.bool (namedF s)):=by
 intro σ Post hk
 refine T88 fun hB hA=>?_
 refine W ?_
 refine lp (fun j e z=>∃ p f:Nat,s.length≤p+f∧s.length≤p+j∧nmG s f p=nmG s s.length 0∧z=σ++[(1,VObj.siter s p)]) s.length ⟨0,s.length,by simp,by simp,rfl,rfl⟩ ?_
 rintro j u _ ⟨p,f,hf,hj,hn,rfl⟩
 by_cases h5:p<s.length
 ·have dw:=decode_w ⟨s.toArray⟩ p
  obtain⟨f',rfl⟩:∃ f',f=f'+1:=⟨f - 1,by omega⟩
  rw[nmG,if_pos h5] at hn
  by_cases d1:(Utf8.decode ⟨s.toArray⟩ p).1<97
  ·rw[if_pos (.inl d1)] at hn
   have hf:namedF s=false:=by unfold namedF;rw[← hn];rfl
   rw[hf] at hk
   refine W ?_
   exact hk
  ·by_cases d2:122<(Utf8.decode ⟨s.toArray⟩ p).1
   ·rw[if_pos (.inr d2)] at hn
    have hf:namedF s=false:=by unfold namedF;rw[← hn];rfl
    rw[hf] at hk
    refine W ?_
    exact hk
   ·rw[if_neg (by omega)] at hn
    refine W ?_
    exact⟨j - 1,by omega,p+(Utf8.decode ⟨s.toArray⟩ p).2,f',by omega,by omega,hn,rfl⟩
 ·rw[nmG_end s f p h5] at hn
  cases s with
  | nil=>
    refine W ?_
    exact fin hk (by simp[namedF,nmG])
  | cons x r=>
    by_cases h8:(x::r).length≤8
    ·refine W ?_
     exact fin hk (by unfold namedF;rw[← hn];simp at h8;simp[h8])
    ·refine W ?_
     exact fin hk (by unfold namedF;rw[← hn];simp at h8;simp[h8])
theorem uNotMulti {a:Ad} (h:okD a):U Tryz.prog 91 [.agg (adc a)] (.bool (!mcA a)):=by
 intro σ Post hk
 have sc:=adc_sc (a:=a)
 have ln:=adc_len h
 have c0:=adc_all h
 refine T91 fun hB hA=>?_
 refine W ?_
 refine cu (uMulti h) ?_
 refine W ?_
 exact hk
def vrR (v:Vr):Bool:=decide (kindD v.rd≤2)&&(namedF v.name&&(decide (1≤v.num)&&(decide (v.num<65536)&&(targF v.imp&&(targF v.exp&&(okAd v.rp&&(!mcA v.rp&&(decide (v.sel.length≤4)&&!(v.sel.any fun a=>!mcA a)))))))))
structure okVrf (v:Vr):Prop where
 ok:okVr v
 nm:v.name.length≤9223372036854775807
 imp:∀ e,e∈v.imp→e.length=8
 exp:∀ e,e∈v.exp→e.length=8
 sel:∀ a,a∈v.sel→okD a
theorem uVrR {v:Vr} (h:okVrf v):U Tryz.prog 43 [.agg (vrC v)] (.bool (vrR v)):=by
 intro σ Post hk
 have sc:=vrC_sc (x:=v)
 have ln:=vrC_len h.ok
 have c0:=vrC_all h.ok
 have g1:=vrC_gname h.ok
 have g2:=vrC_gnum h.ok
 have g3:=vrC_grd h.ok
 have g4:=vrC_gimp h.ok
 have g5:=vrC_gexp h.ok
 have g6:=vrC_grp h.ok
 have g7:=vrC_gsel h.ok
 have b7:(v.sel.map adc).length=v.sel.length:=List.length_map _
 have hc:callOk Tryz.prog 91=true:=by kernel_rfl
 refine T43 fun hB hA=>?_
 by_cases k2:kindD v.rd≤2
 ·refine W ?_
  refine cu ((uParts h.ok.rd).1 k2) ?_
  refine W ?_
  refine cu (uNamed h.nm) ?_
  cases hn:namedF v.name with
  | true=>
    by_cases n1:1≤v.num
    ·by_cases n2:v.num<65536
     ·refine W ?_
      refine cu (uTargets h.imp) ?_
      cases hi:targF v.imp with
      | true=>
        refine W ?_
        refine cu (uTargets h.exp) ?_
        cases he:targF v.exp with
        | true=>
          refine W ?_
          refine cu (uRightD h.ok.rp) ?_
          cases hr:okAd v.rp with
          | true=>
            refine W ?_
            refine cu (uMulti h.ok.rp) ?_
            cases hm:mcA v.rp with
            | true=>
              refine W ?_
              exact fin hk (by simp[vrR,k2,hn,n1,n2,hi,he,hr,hm])
            | false=>
              by_cases s4:v.sel.length≤4
              ·have hs4:v.sel.length≤4:=s4
               refine W ?_
               refine ct ?_
               refine tConA (l:=v.sel) (p:=fun a=>!mcA a) (by omega) hc h.sel (fun x hx L Q hq=>uNotMulti (h.sel x hx) _ _ hq) ?_
               refine W ?_
               exact fin hk (by simp[vrR,k2,hn,n1,n2,hi,he,hr,hm,s4])
              ·refine W ?_
               exact fin hk (by simp[vrR,k2,hn,n1,n2,hi,he,hr,hm,s4])
          | false=>
            refine W ?_
            exact fin hk (by simp[vrR,k2,hn,n1,n2,hi,he,hr])
        | false=>
          refine W ?_
          exact fin hk (by simp[vrR,k2,hn,n1,n2,hi,he])
      | false=>
        refine W ?_
        exact fin hk (by simp[vrR,k2,hn,n1,n2,hi])
     ·refine W ?_
      exact fin hk (by simp[vrR,k2,hn,n1,n2])
    ·refine W ?_
     exact fin hk (by simp[vrR,k2,hn,n1])
  | false=>
    refine W ?_
    exact fin hk (by simp[vrR,k2,hn])
 ·refine W ?_
  refine cu ((uParts h.ok.rd).2 k2) ?_
  refine W ?_
  exact fin hk (by simp[vrR,k2])
end Go.Proofs.YtdpeaefgbmkegaaGreatDoor
namespace Go.Proofs.YtdpeaefgbmkegaaGreatDoor
open Go Go.V
set_option maxRecDepth 10000
set_option linter.unusedVariables false
attribute [local irreducible] vBuild vCallV
def mk1 (hi lo:Nat):List UInt8:=be 1 2++(be hi 4++be lo 2)
theorem mk1_len (hi lo:Nat):(mk1 hi lo).length=8:=by simp[mk1,be_len]
theorem uMake1 {hi lo:Nat} (h1:hi<4294967296) (h2:lo<65536):U Tryz.prog 101 [.int .i64 1,.int .i64 hi,.int .i64 lo] (.tup [.agg (u8c (mk1 hi lo)),.int .i64 0]):=by
 intro σ Post hk
 have el:(mk1 hi lo).length=8:=mk1_len hi lo
 have eq:([]++be 1 2++be hi 4)++be lo 2=mk1 hi lo:=by simp[mk1]
 have dB:splice [D.o,D.o,D.o,D.o,D.o,D.o,D.o,D.o] 0 (((bsl (mk1 hi lo)).take 8).flatten)=u8c (mk1 hi lo):=by
  rw[sl_flat,List.take_of_length_le (by omega)]
  exact spl_hd0 (by rw[u8c_len,el];rfl)
 have dA:splice [D.o,D.o,D.o,D.o,D.o,D.o,D.o,D.o] 0 (u8c (mk1 hi lo))=u8c (mk1 hi lo):=spl_hd0 (by rw[u8c_len,el];rfl)
 have ln:(u8c (mk1 hi lo)).length=8:=u8c_len8 el
 have sc:=u8c_sc (mk1 hi lo)
 have c0:=cut_hd0 ln
 have bl:(bsl (mk1 hi lo)).length=8:=by rw[bsl_len,el]
 refine T101 fun hB hA=>?_
 refine W ?_
 refine cu (uHigh (k:=1)) ?_
 refine W ?_
 refine cu (uPut (l:=[]) (n:=1) (z:=2) (by omega) (by omega) (by omega) (by simp)) ?_
 refine W ?_
 refine cu (uPut (l:=[]++be 1 2) (n:=hi) (z:=4) (by omega) (by omega) (by omega) (by simp[be_len])) ?_
 refine W ?_
 refine cu (uPut (l:=[]++be 1 2++be hi 4) (n:=lo) (z:=2) (by omega) (by omega) (by omega) (by simp[be_len])) ?_
 rw[eq]
 generalize mk1 hi lo=M at *
 refine W ?_
 exact hk
theorem spl_any8 {M cs:List PV} (h:M.length=8) (hc:cs.length=8:=by rfl):splice cs 0 M=M:=spl_hd0 (by rw[hc,h])
theorem uExtOf {c w:UInt8} {r:List UInt8} (hr:r.length=6):U Tryz.prog 102 [.int .u8 (c.toNat:Int),.int .u8 (w.toNat:Int),.sl (bsl r)] (.agg (u8c (c::w::r))):=by
 intro σ Post hk
 have bl:(bsl r).length=6:=by rw[bsl_len,hr]
 have d0:splice [D.o,D.o,D.o,D.o,D.o,D.o,D.o,D.o] 0 [.int .u8 (c.toNat:Int)]=.int .u8 (c.toNat:Int)::[D.o,D.o,D.o,D.o,D.o,D.o,D.o]:=rfl
 have d1:splice (PV.int .u8 (c.toNat:Int)::[D.o,D.o,D.o,D.o,D.o,D.o,D.o]) 1 [.int .u8 (w.toNat:Int)]=.int .u8 (c.toNat:Int)::.int .u8 (w.toNat:Int)::[PV.int .u8 0,.int .u8 0,.int .u8 0,.int .u8 0,.int .u8 0,.int .u8 0]:=rfl
 have dB:splice (PV.int .u8 (c.toNat:Int)::.int .u8 (w.toNat:Int)::[PV.int .u8 0,.int .u8 0,.int .u8 0,.int .u8 0,.int .u8 0,.int .u8 0]) 2 (((bsl r).take 6).flatten)=u8c (c::w::r):=by
  rw[sl_flat,List.take_of_length_le (by omega)]
  exact spl_sk (a:=[PV.int .u8 (c.toNat:Int),.int .u8 (w.toNat:Int)]) (o:=0) rfl rfl (spl_hd0 (by rw[u8c_len,hr];rfl))
 have el:(c::w::r).length=8:=by simp[hr]
 have ln:(u8c (c::w::r)).length=8:=u8c_len8 el
 have sc:=u8c_sc (c::w::r)
 have c0:=cut_hd0 ln
 have dA:=spl_any8 (cs:=u8c (c::w::r)) ln ln
 have ip:PlL (u8c (c::w::r)):=inferInstance
 have ic:ClL (u8c (c::w::r)):=inferInstance
 generalize u8c (c::w::r)=M at *
 refine T102 fun hB hA=>?_
 refine W ?_
 exact hk
def tgt (hi lo:Nat):List UInt8:=1::2::(be hi 4++be lo 2)
theorem tgt_len (hi lo:Nat):(tgt hi lo).length=8:=by simp[tgt,be_len]
theorem uExtTarget {hi lo:Nat} (h1:hi<4294967296) (h2:lo<65536):U Tryz.prog 51 [.int .i64 1,.int .i64 hi,.int .i64 lo] (.tup [.agg (u8c (tgt hi lo)),.int .i64 0]):=by
 intro σ Post hk
 have el:(mk1 hi lo).length=8:=mk1_len hi lo
 have el2:(tgt hi lo).length=8:=tgt_len hi lo
 have ed:((mk1 hi lo).drop 2).take 6=be hi 4++be lo 2:=by
  rw[mk1,List.drop_left' (by rw[be_len]),List.take_of_length_le (by simp[be_len])]
 have ln:(u8c (mk1 hi lo)).length=8:=u8c_len8 el
 have sc:=u8c_sc (mk1 hi lo)
 have c0:=cut_hd0 ln
 have dA:=fun (cs:List PV) (hc:cs.length=8)=>spl_any8 ln hc
 have d1:=dA [D.o,D.o,D.o,D.o,D.o,D.o,D.o,D.o] rfl
 have ln2:(u8c (tgt hi lo)).length=8:=u8c_len8 el2
 have sc2:=u8c_sc (tgt hi lo)
 have c2:=cut_hd0 ln2
 have d2:splice [D.o,D.o,D.o,D.o,D.o,D.o,D.o,D.o] 0 (u8c (tgt hi lo))=u8c (tgt hi lo):=spl_any8 ln2
 clear dA
 refine T51 fun hB hA=>?_
 refine W ?_
 refine cu (uMake1 h1 h2) ?_
 refine W ?_
 have ux:=uExtOf (c:=1) (w:=2) (r:=be hi 4++be lo 2) (by simp[be_len])
 rw[← ed] at ux
 refine cu ux ?_
 skip
 refine W ?_
 exact hk
def tgtF (pe:Ad) (n:Int):List UInt8 × Int:=if router4 pe=true then(tgt (big (pe.b.take 4) 0) n.toNat,0) else(z8,1)
theorem uVTarget {pe:Ad} {n:Int} (hp:okD pe) (n0:0≤n) (n1:n<65536):U Tryz.prog 19 [.agg (adc pe),.int .i64 n] (.tup [.agg (u8c (tgtF pe n).1),.int .i64 (tgtF pe n).2]):=by
 intro σ Post hk
 have sc:=adc_sc (a:=pe)
 have ln:=adc_len hp
 have c0:=adc_all hp
 have cs:=adc_s (a:=pe)
 have zl:(u8c z8).length=8:=rfl
 have d8:splice [D.o,D.o,D.o,D.o,D.o,D.o,D.o,D.o] 0 [D.o,D.o,D.o,D.o,D.o,D.o,D.o,D.o]=u8c z8:=rfl
 have zc:=cut_hd0 zl
 have lt:(u8c (tgt (big (pe.b.take 4) 0) n.toNat)).length=8:=u8c_len8 (tgt_len _ _)
 have st:=u8c_sc (tgt (big (pe.b.take 4) 0) n.toNat)
 have ct0:=cut_hd0 lt
 have dt:splice [D.o,D.o,D.o,D.o,D.o,D.o,D.o,D.o] 0 (u8c (tgt (big (pe.b.take 4) 0) n.toNat))=u8c (tgt (big (pe.b.take 4) 0) n.toNat):=spl_any8 lt
 refine T19 fun hB hA=>?_
 refine W ?_
 refine cu (uRightD hp) ?_
 cases hr:okAd pe with
 | true=>
   by_cases h4:pe.s=4
   ·have hf:tgtF pe n=(tgt (big (pe.b.take 4) 0) n.toNat,0):=by unfold tgtF;rw[if_pos (by simp[router4,hr,h4])]
    have ea:abytes pe=pe.b.take 4:=by unfold abytes;rw[if_pos hr,h4];rfl
    have l4:(pe.b.take 4).length=4:=by rw[List.length_take,hp];rfl
    have hb:big (pe.b.take 4) 0<4294967296:=by have:=big_lt (pe.b.take 4) 0;rw[l4] at this;omega
    have en:(n:Int)=((n.toNat:Nat):Int):=by omega
    refine W ?_
    refine cu (uABytes hp) ?_
    rw[ea]
    refine W ?_
    refine ct ?_
    refine tOpen (l:=pe.b.take 4) (by omega) ?_
    refine W ?_
    refine ct ?_
    refine tNumOk (l:=pe.b.take 4) (z:=4) (lget rfl rfl) (by omega) (by omega) (by omega) ?_
    rw[lset rfl,List.take_take,show min 4 4=4 from rfl]
    refine W ?_
    have q:=uExtTarget (hi:=big (pe.b.take 4) 0) (lo:=n.toNat) hb (by omega)
    rw[← en] at q
    refine cu (q) ?_
    rw[hf] at hk
    refine W ?_
    exact hk
   ·have hf:tgtF pe n=(z8,1):=by unfold tgtF;rw[if_neg (by simp[router4,h4])]
    rw[hf] at hk
    refine W ?_
    exact hk
 | false=>
   have hf:tgtF pe n=(z8,1):=by unfold tgtF;rw[if_neg (by simp[router4,hr])]
   rw[hf] at hk
   refine W ?_
   exact hk
end Go.Proofs.YtdpeaefgbmkegaaGreatDoor
namespace Go.Proofs.YtdpeaefgbmkegaaGreatDoor
open Go Go.V
set_option maxRecDepth 10000
set_option linter.unusedVariables false
attribute [local irreducible] vBuild vCallV
def few18 (v:Vr):Bool:=decide (v.name.length<1024)&&(decide (v.imp.length<50)&&(decide (v.exp.length<50)&&decide (v.sel.length<50)))
theorem uFew18 {v:Vr} (ov:okVr v):U Tryz.prog 14 [.agg (vrC v)] (.bool (few18 v)):=by
 intro σ Post hk
 have sc:=vrC_sc (x:=v)
 have ln:=vrC_len ov
 have c0:=vrC_all ov
 have g1:=vrC_gname ov
 have g2:=vrC_gnum ov
 have g3:=vrC_grd ov
 have g4:=vrC_gimp ov
 have g5:=vrC_gexp ov
 have g6:=vrC_grp ov
 have g7:=vrC_gsel ov
 have b1:(v.imp.map u8c).length=v.imp.length:=List.length_map _
 have b2:(v.exp.map u8c).length=v.exp.length:=List.length_map _
 have b3:(v.sel.map adc).length=v.sel.length:=List.length_map _
 refine T14 fun hB hA=>?_
 by_cases h1:v.name.length<1024
 ·by_cases h2:v.imp.length<50
  ·by_cases h3:v.exp.length<50
   ·by_cases h4:v.sel.length<50
    ·refine W ?_
     exact fin hk (by simp[few18,h1,h2,h3,h4])
    ·refine W ?_
     exact fin hk (by simp[few18,h1,h2,h3,h4])
   ·refine W ?_
    exact fin hk (by simp[few18,h1,h2,h3])
  ·refine W ?_
   exact fin hk (by simp[few18,h1,h2])
 ·refine W ?_
  exact fin hk (by simp[few18,h1])
end Go.Proofs.YtdpeaefgbmkegaaGreatDoor
