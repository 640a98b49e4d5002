/- The reference's communities: Kind, Meet, Target; vrf: stands, Target. -/
import Derived.Test.YtdpeaefgbmkegaaGreatDoorKA
import Derived.Test.YtdpeaefgbmkegaaGreatDoorKR
import Derived.Test.YtdpeaefgbmkegaaGreatDoorFAD
import Derived.Test.YtdpeaefgbmkegaaGreatDoorKF
import Derived.Test.YtdpeaefgbmkegaaGreatDoorHE
import Derived.Test.YtdpeaefgbmkegaaGreatDoorHU
set_option maxHeartbeats 16000000
namespace Go.Proofs.YtdpeaefgbmkegaaGreatDoor
open Go Go.V
set_option maxRecDepth 10000
set_option linter.unusedVariables false
attribute [local irreducible] vBuild vCallV
theorem or8 (g h:UInt8):(g ||| h).toNat=0↔g.toNat=0∧h.toNat=0:=by
 rw[UInt8.toNat_or,Nat.or_eq_zero_iff]
theorem uR4Kind {e:List UInt8} (h8:e.length=8):U Tryz.prog 99 [.agg (u8c e)] (.int .i64 (kindE e)):=by
 match e,h8 with
 | [a,b,c,d,e,f,g,h],_=>
   intro σ Post hk
   have k0:cut (u8c [a,b,c,d,e,f,g,h]) 0 none=some (.int .u8 (a.toNat:Int)):=rfl
   have k1:cut (u8c [a,b,c,d,e,f,g,h]) 1 none=some (.int .u8 (b.toNat:Int)):=rfl
   have k6:cut (u8c [a,b,c,d,e,f,g,h]) 6 none=some (.int .u8 (g.toNat:Int)):=rfl
   have k7:cut (u8c [a,b,c,d,e,f,g,h]) 7 none=some (.int .u8 (h.toNat:Int)):=rfl
   have hl:(u8c [a,b,c,d,e,f,g,h]).length=8:=rfl
   have sc:=u8c_sc [a,b,c,d,e,f,g,h]
   have kd:kindE [a,b,c,d,e,f,g,h]=(if b.toNat=2∧a.toNat≤2 then 1 else if b.toNat=11∧a.toNat=1 then 2 else if (b.toNat=9∧a.toNat=2)∧(g.toNat=0∧h.toNat=0) then 3 else 0):=by
    simp only[← or8];rfl
   refine T99 fun hB hA=>?_
   by_cases b2:b.toNat=2
   ·by_cases ale:a.toNat≤2
    ·refine W ?_
     exact fin hk (by rw[kd];simp[*])
    ·have a1:¬ a.toNat=1:=by omega
     have a2:¬ a.toNat=2:=by omega
     refine W ?_
     exact fin hk (by rw[kd];simp[*])
   ·by_cases a1:a.toNat=1
    ·by_cases b11:b.toNat=11
     ·refine W ?_
      exact fin hk (by rw[kd];simp[*])
     ·refine W ?_
      exact fin hk (by rw[kd];simp[*])
    ·by_cases a2:a.toNat=2
     ·by_cases b9:b.toNat=9
      ·by_cases g0:g.toNat=0
       ·by_cases h0:h.toNat=0
        ·refine W ?_
         exact fin hk (by rw[kd];simp[*])
        ·refine W ?_
         exact fin hk (by rw[kd];simp[*])
       ·refine W ?_
        exact fin hk (by rw[kd];simp[*])
      ·refine W ?_
       exact fin hk (by rw[kd];simp[*])
     ·refine W ?_
      exact fin hk (by rw[kd];simp[*])
theorem uR18Stands {l:List (List UInt8)} {v:List UInt8} (hv:v.length=8) (ho:∀ x,x∈l→x.length=8) (hl:l.length≤4611686018427387904):U Tryz.prog 49 [.agg (u8c v),.sl (l.map u8c)] (.bool (hasE v l)):=by
 intro σ Post hk
 have b1:(l.map u8c).length=l.length:=List.length_map _
 have vl:=u8c_len8 hv
 have vs:=u8c_sc v
 have vc:=cut_hd0 vl
 refine T49 fun hB hA=>?_
 refine W ?_
 refine lp (fun j e s=>∃ i:Nat,i+j=l.length∧e 5=.int .i64 i∧hasE v (l.take i)=false∧s=σ++[(1,VObj.box (u8c v) false)]) l.length ⟨0,by simp,rfl,rfl,rfl⟩ ?_
 rintro j u _ ⟨i,hi,e5,hal,rfl⟩
 by_cases h5:i<l.length
 ·obtain⟨x,hx⟩:∃ x,l[i]?=some x:=⟨_,List.getElem?_eq_getElem h5⟩
  have hg:(l.map u8c)[(i:Int).toNat]?=some (u8c x):=by rw[Int.toNat_natCast,List.getElem?_map,hx];rfl
  have hm:=ho x (List.mem_of_getElem? hx)
  have xl:=u8c_len8 hm
  have xc:=cut_hd0 xl
  have q0:eqCells [.i .u8,.i .u8,.i .u8,.i .u8,.i .u8,.i .u8,.i .u8,.i .u8] (u8c x) (u8c v)=some (decide (v=x)):=by have q:=eqC_u8 x v (by rw[hv,hm]);rw[hm] at q;exact q.trans (by rw[Bool.beq_eq_decide_eq];simp[eq_comm])
  by_cases hp:v=x
  ·have hf:hasE v l=true:=by
    unfold hasE;rw[List.any_eq_true];exact⟨x,List.mem_of_getElem? hx,by simp[hp]⟩
   rw[hf] at hk
   rw[decide_eq_true hp] at q0
   refine W ?_
   exact hk
  ·rw[decide_eq_false hp] at q0
   refine W ?_
   refine⟨j - 1,by omega,i+1,by omega,rfl,?_,rfl⟩
   unfold hasE at hal ⊢
   rw[take_snoc hx,List.any_append,hal];simp[hp]
 ·have h9:l.take i=l:=List.take_of_length_le (by omega)
  rw[h9] at hal
  rw[hal] at hk
  refine W ?_
  exact hk
theorem uR4Meet {a b:List (List UInt8)} (ha:∀ x,x∈a→x.length=8) (hb:∀ x,x∈b→x.length=8) (la:a.length≤4611686018427387904) (lb:b.length≤4611686018427387904):U Tryz.prog 48 [.sl (a.map u8c),.sl (b.map u8c)] (.bool (meetF a b)):=by
 intro σ Post hk
 have b1:(a.map u8c).length=a.length:=List.length_map _
 have b2:(b.map u8c).length=b.length:=List.length_map _
 refine T48 fun hB hA=>?_
 refine W ?_
 refine lp (fun j e s=>∃ i:Nat,i+j=a.length∧e 5=.int .i64 i∧meetF (a.take i) b=false∧s=σ++[]) a.length ⟨0,by simp,rfl,rfl,rfl⟩ ?_
 rintro j u _ ⟨i,hi,e5,hal,rfl⟩
 by_cases h5:i<a.length
 ·obtain⟨x,hx⟩:∃ x,a[i]?=some x:=⟨_,List.getElem?_eq_getElem h5⟩
  have hg:(a.map u8c)[(i:Int).toNat]?=some (u8c x):=by rw[Int.toNat_natCast,List.getElem?_map,hx];rfl
  have hm:=ha x (List.mem_of_getElem? hx)
  have xl:=u8c_len8 hm
  have xs:=u8c_sc x
  have xc:=cut_hd0 xl
  have uK:=uR4Kind hm
  refine W ?_
  refine lp (fun j2 e s=>∃ k:Nat,k+j2=b.length∧e 6=.int .i64 k∧(decide (kindE x=1)&&hasE x (b.take k))=false∧s=σ++[]) b.length ⟨0,by simp,rfl,by simp[hasE],rfl⟩ ?_
  rintro j2 u2 _ ⟨k,hk2,e6,hbl,rfl⟩
  by_cases h7:k<b.length
  ·obtain⟨y,hy⟩:∃ y,b[k]?=some y:=⟨_,List.getElem?_eq_getElem h7⟩
   have hgy:(b.map u8c)[(k:Int).toNat]?=some (u8c y):=by rw[Int.toNat_natCast,List.getElem?_map,hy];rfl
   have hmy:=hb y (List.mem_of_getElem? hy)
   have yl:=u8c_len8 hmy
   have ys:=u8c_sc y
   have yc:=cut_hd0 yl
   have q0:eqCells [.i .u8,.i .u8,.i .u8,.i .u8,.i .u8,.i .u8,.i .u8,.i .u8] (u8c x) (u8c y)=some (decide (x=y)):=by have q:=eqC_u8 x y (by rw[hm,hmy]);rw[hm] at q;exact q.trans (by rw[Bool.beq_eq_decide_eq])
   have hst:(decide (kindE x=1)&&hasE x (b.take (k+1)))=(decide (kindE x=1)&&decide (x=y)):=by
    unfold hasE at hbl ⊢
    rw[take_snoc hy,List.any_append]
    cases hd:decide (kindE x=1) with
    | false=>rfl
    | true=>rw[hd,Bool.true_and] at hbl;rw[hbl];simp
   by_cases hp:x=y
   ·rw[decide_eq_true hp] at q0 hst
    by_cases k1:kindE x=1
    ·have hf:meetF a b=true:=by
      unfold meetF hasE;rw[List.any_eq_true]
      exact⟨x,List.mem_of_getElem? hx,by simp only[k1,decide_true,Bool.true_and,List.any_eq_true,decide_eq_true_eq];exact⟨y,List.mem_of_getElem? hy,hp⟩⟩
     rw[hf] at hk
     refine W ?_
     refine s1 uK ?_
     refine W ?_
     exact hk
    ·rw[decide_eq_false k1,Bool.false_and] at hst
     refine W ?_
     refine s1 uK ?_
     refine W ?_
     exact⟨j2 - 1,by omega,k+1,by omega,rfl,by rw[decide_eq_false k1];rfl,rfl⟩
   ·rw[decide_eq_false hp] at q0 hst
    rw[Bool.and_false] at hst
    refine W ?_
    exact⟨j2 - 1,by omega,k+1,by omega,rfl,hst,rfl⟩
  ·have h9:b.take k=b:=List.take_of_length_le (by omega)
   rw[h9] at hbl
   refine W ?_
   refine⟨j - 1,by omega,i+1,by omega,rfl,?_,rfl⟩
   unfold meetF at hal ⊢
   rw[take_snoc hx,List.any_append,hal];simp only[List.any_cons,List.any_nil,Bool.or_false,Bool.false_or];exact hbl
 ·have h9:a.take i=a:=List.take_of_length_le (by omega)
  rw[h9] at hal
  rw[hal] at hk
  refine W ?_
  exact hk
theorem uR4Of {l:List UInt8} (hl:l.length≤8):U Tryz.prog 106 [.sl (bsl l)] (.agg (u8c (over l z8))):=by
 intro σ Post hk
 have bl:=bsl_len l
 have hov:∀ j,j≤l.length→(over (l.take j) z8).length=8:=fun j hj=>over_len (by rw[List.length_take];show _≤8;omega)
 refine T106 fun hB hA=>?_
 refine W ?_
 refine lp (fun k e s=>∃ i:Nat,i+k=l.length∧e 4=.int .i64 i∧s=σ++[(1,VObj.box [D.o,D.o,D.o,D.o,D.o,D.o,D.o,D.o] false),(1,.box (u8c (over (l.take i) z8)) false)]) l.length ⟨0,by simp,rfl,rfl⟩ ?_
 rintro k u _ ⟨i,hi,e4,rfl⟩
 have oi:=hov i (by omega)
 have li:(u8c (over (l.take i) z8)).length=8:=by rw[u8c_len,oi]
 have si:=u8c_sc (over (l.take i) z8)
 by_cases h5:i<l.length
 ·have h8:i<8:=by omega
  obtain⟨x,hx⟩:∃ x,l[i]?=some x:=⟨_,List.getElem?_eq_getElem h5⟩
  have hg:(bsl l)[(i:Int).toNat]?=some [byt x]:=by rw[Int.toNat_natCast];unfold bsl;rw[List.getElem?_map,hx];rfl
  have hs2:splice (u8c (over (l.take i) z8)) i [byt x]=u8c (over (l.take (i+1)) z8):=by
   have e1:(over (l.take i) z8).set i x=over (l.take (i+1)) z8:=by
    rw[snocT hx]
    have hli:(l.take i).length=i:=by rw[List.length_take];omega
    unfold over
    rw[List.set_append_right _ _ (by omega),hli,Nat.sub_self,List.length_append,hli,List.length_singleton]
    have hz:z8.drop i=0::z8.drop (i+1):=by
     rw[List.drop_eq_getElem_cons (show i<z8.length by show i<8;omega)]
     congr 1
     have:∀ j:Fin 8,z8[j.1]'(by exact j.2)=0:=by decide
     exact this ⟨i,by omega⟩
    rw[hz,List.set_cons_zero,List.append_assoc]
    rfl
   rw[← e1]
   unfold splice u8c
   rw[List.set_eq_take_append_cons_drop,if_pos (by rw[oi];omega)]
   simp
  have hs3:splice (u8c (over (l.take i) z8)) (0+i) [byt x]=u8c (over (l.take (i+1)) z8):=by rw[Nat.zero_add];exact hs2
  refine W ?_
  exact⟨k - 1,by omega,i+1,by omega,rfl,rfl⟩
 ·have h9:l.take i=l:=List.take_of_length_le (by omega)
  rw[h9] at oi li si ⊢
  have cA:cut (u8c (over l z8)) 0 (some 8)=some (.agg (u8c (over l z8))):=cutH0 li
  have dA:splice [D.o,D.o,D.o,D.o,D.o,D.o,D.o,D.o] 0 (u8c (over l z8))=u8c (over l z8):=splH0 (by rw[li];rfl)
  by_cases h8:i<8
  ·refine W ?_
   exact hk
  ·refine W ?_
   exact hk
def mkG (hi:Nat) (n:Int):List UInt8 × Int:=if n<0∨65536≤n then(z8,5) else(mk1 hi n.toNat,0)
theorem uR3Widths:U Tryz.prog 148 [.int .i64 1] (.tup [.int .i64 4,.int .i64 2]):=by
 intro σ Post hk
 refine T148 fun hB hA=>?_
 refine W ?_
 exact hk
theorem mk1_be {hi lo:Nat}:mk1 hi lo=be 1 2++be hi 4++be lo 2:=(List.append_assoc _ _ _).symm
theorem cf149r:cFun Tryz.prog rawF true Tryz.f149=some ⟨22,4,vb149,[.tmp 4],true⟩:=by kernel_rfl
theorem tR1R {σ L:VHeap} {Post:KP} {N K:Nat} (hk:∀ g2 o2,Post (.row (N+(K+1)) 3) (σ++(L++[(1,VObj.row 1 [] false),(3,.row 1 (bsl [0,1]) false),(g2,o2),(0,.dead)])))
  (hN:σ.length=N:=by exact z_hn) (hL:L.length=K:=by exact z_ll):T Tryz.prog 149 [.int .i64 1,.int .i64 2] (σ++L) Post:=by
 subst hN hL
 refine T.walkR Tryz.func149 cf149r (Nat.le_of_ble_eq_true rfl) rfl ?_
 refine W ?_
 refine lp (fun k e s=>∃ (i:Nat) (g2:Nat) (o2:VObj),i+k=2∧e 6=.int .i64 (1 - i)∧e 5=.row ((σ++L).length+1) (i+1)∧
   s=(σ++L)++[(1,.row 1 [] false),(i+1,.row 1 (bsl (([0,1]:List UInt8).take i)) false),(g2,o2),(0,.dead)]) 2 ⟨0,0,.dead,by omega,rfl,rfl,rfl⟩ ?_
 rintro k u' _ ⟨i,g2,o2,hi,e6,e5,rfl⟩
 match i,hi with
 | 0,hi=>
   refine W ?_
   exact⟨k - 1,by omega,1,g2+1,.row 1 [[byt 0]] false,by omega,rfl,rfl,rfl⟩
 | 1,hi=>
   refine W ?_
   exact⟨k - 1,by omega,2,g2+1,.row 1 [[byt 1]] false,by omega,rfl,rfl,rfl⟩
 | 2,hi=>
   refine W ?_
   refine ret_raw (.inl rfl) rfl (by exact z_rw) ?_
   rw[List.length_append,List.append_assoc,Nat.add_assoc]
   exact hk g2 o2
 | i+3,hi=>omega
theorem uR3Make {hi:Nat} {n:Int} (h1:hi<4294967296):U Tryz.prog 105 [.int .i64 1,.int .i64 hi,.int .i64 n] (.tup [.agg (u8c (mkG hi n).1),.int .i64 (mkG hi n).2]):=by
 intro σ Post hk
 have d8:splice [D.o,D.o,D.o,D.o,D.o,D.o,D.o,D.o] 0 [D.o,D.o,D.o,D.o,D.o,D.o,D.o,D.o]=u8c z8:=rfl
 have zl:(u8c z8).length=8:=rfl
 have zc:=cut_hd0 zl
 have zs:=u8c_sc z8
 have sh4:ibin .shl .i64 1 .i64 32=some (.int .i64 4294967296):=by kernel_rfl
 have sh2:ibin .shl .i64 1 .i64 16=some (.int .i64 65536):=by kernel_rfl
 unfold mkG at hk
 refine T105 fun hB hA=>?_
 refine W ?_
 refine cu uR3Widths ?_
 by_cases n0:n<0
 ·rw[if_pos (.inl n0)] at hk
  refine W ?_
  exact hk
 ·by_cases n1:65536≤n
  ·rw[if_pos (.inr n1)] at hk
   refine W ?_
   exact hk
  ·rw[if_neg (by omega)] at hk
   have el:=mk1_len hi n.toNat
   have ml:=u8c_len8 el
   have ms:=u8c_sc (mk1 hi n.toNat)
   have mc:=cut_hd0 ml
   have md:splice [D.o,D.o,D.o,D.o,D.o,D.o,D.o,D.o] 0 (u8c (mk1 hi n.toNat))=u8c (mk1 hi n.toNat):=spl_any8 ml
   have en:n=((n.toNat:Nat):Int):=by omega
   have ov:over (be 1 2++be hi 4++be n.toNat 2) z8=mk1 hi n.toNat:=by
    rw[← mk1_be]
    unfold over
    rw[el]
    exact List.append_nil _
   have bl1:=bsl_len (be 1 2)
   have bl2:=bsl_len (be hi 4)
   have bl3:=bsl_len (be n.toNat 2)
   have e1:=be_len 1 2
   have e2:=be_len hi 4
   have e3:=be_len n.toNat 2
   have a1:bsl (be 1 2)++bsl (be hi 4)=bsl (be 1 2++be hi 4):=(bsl_app _ _).symm
   have a2:bsl (be 1 2++be hi 4)++bsl (be n.toNat 2)=bsl (be 1 2++be hi 4++be n.toNat 2):=(bsl_app _ _).symm
   refine W ?_
   refine ct ?_
   refine tR1R fun g2 o2=>?_
   refine W ?_
   refine cu (uR1Bytes (n:=hi) (z:=4) (by omega) (by omega)) ?_
   have a0:bsl [0,1]=bsl (be 1 2):=rfl
   rw[a0]
   refine W ?_
   have ub:=uR1Bytes (n:=n.toNat) (z:=2) (by omega) (by omega)
   rw[← en] at ub
   refine cu ub ?_
   refine W ?_
   have uo:=uR3Of (l:=be 1 2++be hi 4++be n.toNat 2) (by simp[be_len])
   rw[ov] at uo
   refine cu uo ?_
   refine W ?_
   exact hk
end Go.Proofs.YtdpeaefgbmkegaaGreatDoor
namespace Go.Proofs.YtdpeaefgbmkegaaGreatDoor
open Go Go.V
set_option maxRecDepth 10000
set_option linter.unusedVariables false
attribute [local irreducible] vBuild vCallV
def tg4 (hi:Nat) (n:Int):List UInt8 × Int:=if n<0∨65536≤n then(z8,5) else(tgt hi n.toNat,0)
theorem tg4_len (hi:Nat) (n:Int):(tg4 hi n).1.length=8:=by
 unfold tg4;split
 ·rfl
 ·exact tgt_len _ _
theorem uR4Target {hi:Nat} {n:Int} (h1:hi<4294967296):U Tryz.prog 56 [.int .i64 1,.int .i64 hi,.int .i64 n] (.tup [.agg (u8c (tg4 hi n).1),.int .i64 (tg4 hi n).2]):=by
 intro σ Post hk
 have d8:splice [D.o,D.o,D.o,D.o,D.o,D.o,D.o,D.o] 0 [D.o,D.o,D.o,D.o,D.o,D.o,D.o,D.o]=u8c z8:=rfl
 have d9:splice [D.o,D.o,D.o,D.o,D.o,D.o,D.o,D.o] 0 (u8c z8)=u8c z8:=rfl
 have zl:(u8c z8).length=8:=rfl
 have zc:=cut_hd0 zl
 have zs:=u8c_sc z8
 have um:=uR3Make (n:=n) h1
 unfold mkG at um
 unfold tg4 at hk
 refine T56 fun hB hA=>?_
 by_cases nn:n<0∨65536≤n
 ·rw[if_pos nn] at hk um
  refine W ?_
  refine cu um ?_
  refine W ?_
  exact hk
 ·rw[if_neg nn] at hk um
  have el:=mk1_len hi n.toNat
  have ml:=u8c_len8 el
  have ms:=u8c_sc (mk1 hi n.toNat)
  have mc:=cut_hd0 ml
  have md:splice [D.o,D.o,D.o,D.o,D.o,D.o,D.o,D.o] 0 (u8c (mk1 hi n.toNat))=u8c (mk1 hi n.toNat):=spl_any8 ml
  have tl:=u8c_len8 (tgt_len hi n.toNat)
  have ts:=u8c_sc (tgt hi n.toNat)
  have tc:=cut_hd0 tl
  have td:splice [D.o,D.o,D.o,D.o,D.o,D.o,D.o,D.o] 0 (u8c (tgt hi n.toNat))=u8c (tgt hi n.toNat):=spl_any8 tl
  have ed:((mk1 hi n.toNat).drop 2).take 6=be hi 4++be n.toNat 2:=by
   rw[mk1,List.drop_left' (by rw[be_len]),List.take_of_length_le (by simp[be_len])]
  have ov:over (1::2::(be hi 4++be n.toNat 2)) z8=tgt hi n.toNat:=by
   show over (tgt hi n.toNat) z8=_
   unfold over
   rw[tgt_len]
   exact List.append_nil _
  refine W ?_
  refine cu um ?_
  refine W ?_
  have uo:=uR4Of (l:=1::2::(be hi 4++be n.toNat 2)) (by simp[be_len])
  rw[ov,← ed] at uo
  refine cu uo ?_
  refine W ?_
  exact hk
theorem tgtG_4 (pe:Ad) (n:Int):tgtG pe n=if router4 pe=true then tg4 (big (pe.b.take 4) 0) n else(z8,1):=rfl
theorem uR18Target {pe:Ad} {n:Int} (hp:okD pe):U Tryz.prog 20 [.agg (adc pe),.int .i64 n] (.tup [.agg (u8c (tgtG pe n).1),.int .i64 (tgtG pe n).2]):=by
 intro σ Post hk
 have sc:=adc_sc (a:=pe)
 have ln:=adc_len hp
 have c0:=adc_all hp
 have cs:=adc_s (a:=pe)
 have d8:splice [D.o,D.o,D.o,D.o,D.o,D.o,D.o,D.o] 0 [D.o,D.o,D.o,D.o,D.o,D.o,D.o,D.o]=u8c z8:=rfl
 have zl:(u8c z8).length=8:=rfl
 have zc:=cut_hd0 zl
 have zs:=u8c_sc z8
 rw[tgtG_4] at hk
 refine T20 fun hB hA=>?_
 refine W ?_
 refine cu (uR2 hp) ?_
 cases hr:okAd pe with
 | true=>
   by_cases h4:pe.s=4
   ·have hf:router4 pe=true:=by simp[router4,hr,h4]
    rw[if_pos hf] at hk
    clear hf
    have ea:abytes pe=pe.b.take 4:=by unfold abytes;rw[if_pos hr,h4];rfl
    have l4:(pe.b.take 4).length=4:=by rw[List.length_take,hp];rfl
    have hb:big (pe.b.take 4) 0<4294967296:=by have:=big_lt (pe.b.take 4) 0;rw[l4] at this;omega
    have tl:=u8c_len8 (tg4_len (big (pe.b.take 4) 0) n)
    have ts:=u8c_sc (tg4 (big (pe.b.take 4) 0) n).1
    have tc:=cut_hd0 tl
    have td:splice [D.o,D.o,D.o,D.o,D.o,D.o,D.o,D.o] 0 (u8c (tg4 (big (pe.b.take 4) 0) n).1)=u8c (tg4 (big (pe.b.take 4) 0) n).1:=spl_any8 tl
    refine W ?_
    refine cu (uR2Bytes hp) ?_
    rw[ea]
    refine W ?_
    refine cu (uBig (l:=pe.b.take 4) (by omega)) ?_
    refine W ?_
    refine cu (uR4Target (n:=n) hb) ?_
    refine W ?_
    exact hk
   ·have hf:¬ router4 pe=true:=by simp[router4,h4]
    rw[if_neg hf] at hk
    clear hf
    refine W ?_
    exact hk
 | false=>
   have hf:¬ router4 pe=true:=by simp[router4,hr]
   rw[if_neg hf] at hk
   clear hf
   refine W ?_
   exact hk
end Go.Proofs.YtdpeaefgbmkegaaGreatDoor
namespace Go.Proofs.YtdpeaefgbmkegaaGreatDoor
open Go Go.V
set_option maxRecDepth 10000
set_option linter.unusedVariables false
attribute [local irreducible] vBuild vCallV
theorem uR18Takes {v:Vr} {pe:Ad} {r:Rt} (hv:okVrf v) (hp:okD pe) (h:okRib r) (ol:okLen r.att) (ex8:∀ e,e∈r.att.ex→e.length=8) (li:v.imp.length≤1000000):U Tryz.prog 18 [.agg (vrC v),.agg (adc pe),.agg (rtC r)] (.bool (takeV v pe r)):=by
 intro σ Post hk
 have ov:=hv.ok
 have vsc:=vrC_sc (x:=v)
 have vln:=vrC_len ov
 have vca:=vrC_all ov
 have vg1:=vrC_gnum ov
 have vg2:=vrC_gimp ov
 have vg3:=vrC_gexp ov
 have rsc:=rtC_sc (x:=r)
 have rln:=rtC_len h.ok
 have rca:=rtC_all h.ok
 have rg1:=rtC_gsafi h.ok
 have psc:=adc_sc (a:=pe)
 have pln:=adc_len hp
 have pca:=adc_all hp
 have rgk:cut (rtC r) 2 none=some (.int .i64 r.m.k):=cut_sk (n:=1) (o:=1) rfl rfl (cut_sk (n:=1) (o:=0) rfl rfl ((cut_pre1 (by rw[mrc_len h.ok.m];decide)).trans rfl))
 have rge:cut (rtC r) 130 none=some (.sl (r.att.ex.map u8c)):=rt_ga (o:=22) h.ok (atC_gex h.ok.att)
 have u1:=uRRight h ol
 refine T18 fun hB hA=>?_
 refine W ?_
 refine cu u1 ?_
 cases hr:rtR r with
 | false=>
   refine W ?_
   exact fin hk (by unfold takeV;simp[hr])
 | true=>
   have l3:=(atR_parts (rtR_at hr)).ex
   obtain⟨_,hs⟩:=rtR_parts hr
   rcases hs with ⟨s5,rm⟩|⟨s8,_⟩
   ·have s8:¬ r.safi=128:=by omega
    by_cases k4:r.m.k=4
    ·have k6:¬ (6:Int)≤r.m.k:=by omega
     have tl:=u8c_len8 (tgtG_len pe 0)
     have ts:=u8c_sc (tgtG pe 0).1
     have tc:=cut_hd0 tl
     have d8:=spl_any8 (cs:=[D.o,D.o,D.o,D.o,D.o,D.o,D.o,D.o]) tl
     refine W ?_
     refine cu (uR18Target (n:=0) hp) ?_
     by_cases h0:(tgtG pe 0).2=0
     ·refine W ?_
      refine cu (uR18Stands (tgtG_len pe 0) ex8 (by omega)) ?_
      refine W ?_
      exact fin hk (by unfold takeV;simp[hr,s8,k4,h0])
     ·refine W ?_
      exact fin hk (by unfold takeV;simp[hr,s8,k4,h0])
    ·by_cases k6:(6:Int)≤r.m.k
     ·have kk:=(rightP rm).1.kk
      have k67:r.m.k=6∨r.m.k=7:=by omega
      by_cases n0:v.num<0
      ·have te:=tgtG_out (pe:=pe) (n:=v.num) (.inl n0)
       have t2:¬ (tgtG pe v.num).2=0:=by rw[te];split<;>decide
       refine W ?_
       exact fin hk (by unfold takeV;rw[hr,if_neg s8,if_pos k67,decide_eq_false t2];rfl)
      ·have tl:=u8c_len8 (tgtG_len pe v.num)
       have ts:=u8c_sc (tgtG pe v.num).1
       have tc:=cut_hd0 tl
       have d8:=spl_any8 (cs:=[D.o,D.o,D.o,D.o,D.o,D.o,D.o,D.o]) tl
       refine W ?_
       refine cu (uR18Target (n:=v.num) hp) ?_
       by_cases h0:(tgtG pe v.num).2=0
       ·refine W ?_
        refine cu (uR18Stands (tgtG_len pe v.num) ex8 (by omega)) ?_
        refine W ?_
        exact fin hk (by unfold takeV;rw[hr,if_neg s8,if_pos k67,decide_eq_true h0];rfl)
       ·refine W ?_
        exact fin hk (by unfold takeV;rw[hr,if_neg s8,if_pos k67,decide_eq_false h0];rfl)
     ·have k67:¬ (r.m.k=6∨r.m.k=7):=by omega
      refine W ?_
      refine cu (uR4Meet hv.imp ex8 (by omega) (by omega)) ?_
      refine W ?_
      exact fin hk (by unfold takeV;rw[hr,if_neg s8,if_neg k67,if_pos k4];rfl)
   ·have s5:¬ r.safi=5:=by omega
    refine W ?_
    refine cu (uR4Meet hv.imp ex8 (by omega) (by omega)) ?_
    refine W ?_
    exact fin hk (by unfold takeV;rw[hr,if_pos s8];rfl)
theorem uR18Taken {v:Vr} {pe:Ad} {l:List Rt} (hv:okVrf v) (hp:okD pe) (h:∀ r,r∈l→okRib r) (ol:∀ r,r∈l→okLen r.att) (ex8:∀ r,r∈l→∀ e,e∈r.att.ex→e.length=8) (li:v.imp.length≤1000000) (hn:l.length≤1000000):U Tryz.prog 23 [.agg (vrC v),.agg (adc pe),.sl (l.map rtC)] (.sl ((l.filter (takeV v pe)).map rtC)):=by
 intro σ Post hk
 have vs:=vrC_sc (x:=v)
 have vl:=vrC_len hv.ok
 have vc:=vrC_all hv.ok
 have psc:=adc_sc (a:=pe)
 have pln:=adc_len hp
 have pca:=adc_all hp
 have b1:(l.map rtC).length=l.length:=List.length_map _
 refine T23 fun hB hA=>?_
 refine W ?_
 refine lp (fun j e s=>∃ (i g g4:Nat) (o4:VObj),i+j=l.length∧e 8=.int .i64 i∧e 7=.row (σ.length+3) g∧s=σ++[(1,VObj.box (vrC v) false),(1,.box (adc pe) false),(1,.row 132 [] false),(g,.row 132 (((l.take i).filter (takeV v pe)).map rtC) false),(g4,o4),(0,.dead)]) l.length ⟨0,1,0,.dead,by simp,rfl,rfl,rfl⟩ ?_
 rintro j u _ ⟨i,g,g4,o4,hi,e8,e7,rfl⟩
 by_cases h5:i<l.length
 ·obtain⟨x,hx⟩:∃ x,l[i]?=some x:=⟨_,List.getElem?_eq_getElem h5⟩
  have hg:(l.map rtC)[(i:Int).toNat]?=some (rtC x):=by rw[Int.toNat_natCast,List.getElem?_map,hx];rfl
  have hm:=List.mem_of_getElem? hx
  have ox:=(h x hm).ok
  have xs:=rtC_sc (x:=x)
  have xl:=rtC_len ox
  have xc:=rtC_all ox
  have r1:RowOk 132 [rtC x]:=fun e he=>by rw[List.mem_singleton.1 he];exact⟨xl,xs⟩
  have r2:RowOk 132 (((l.take i).filter (takeV v pe)).map rtC):=fun e he=>by
   obtain⟨y,hy,rfl⟩:=List.mem_map.1 he
   exact⟨rtC_len (h y (List.mem_of_mem_take (List.mem_filter.1 hy).1)).ok,rtC_sc⟩
  have b2:(((l.take i).filter (takeV v pe)).map rtC).length≤i:=by
   rw[List.length_map]
   exact Nat.le_trans (List.length_filter_le _ _) (by rw[List.length_take];omega)
  have uT:=uR18Takes hv hp (h x hm) (ol x hm) (ex8 x hm) li
  refine W ?_
  refine s1 uT ?_
  cases ht:takeV v pe x with
  | true=>
    have hst:((l.take (i+1)).filter (takeV v pe))=(l.take i).filter (takeV v pe)++[x]:=by
     rw[take_snoc hx,List.filter_append];simp[ht]
    refine W ?_
    exact⟨j - 1,by omega,i+1,g+1,g4+1,.row 132 [rtC x] false,by omega,rfl,rfl,by rw[hst]⟩
  | false=>
    have hst:((l.take (i+1)).filter (takeV v pe))=(l.take i).filter (takeV v pe):=by
     rw[take_snoc hx,List.filter_append];simp[ht]
    refine W ?_
    exact⟨j - 1,by omega,i+1,g,g4,o4,by omega,rfl,e7,by rw[hst]⟩
 ·have h9:l.take i=l:=List.take_of_length_le (by omega)
  rw[h9]
  refine W ?_
  exact hk
end Go.Proofs.YtdpeaefgbmkegaaGreatDoor
namespace Go.Proofs.YtdpeaefgbmkegaaGreatDoor
open Go Go.V
set_option maxRecDepth 10000
set_option linter.unusedVariables false
attribute [local irreducible] vBuild vCallV
structure okCm (a:At):Prop where
 ok:okAt a
 cl:∀ c,c∈a.cl→okD c
 tn:∀ t,t∈a.tn→okTn t
 ex8:∀ e,e∈a.ex→e.length=8
 l1:a.path.length≤4611686018427387904
 l2:a.cl.length≤4611686018427387904
 l3:a.ex.length≤4611686018427387904
 l4:a.tn.length≤4611686018427387904
 nums:∀ s,s∈a.path→s.nums.length≤4611686018427387904
theorem uR4Same {l:List (List UInt8)} (ho:∀ x,x∈l→x.length=8) (hl:l.length≤4611686018427387904):U Tryz.prog 136 [.sl (l.map u8c),.sl (l.map u8c)] (.bool true):=by
 intro σ Post hk
 have b1:(l.map u8c).length=l.length:=List.length_map _
 refine T136 fun hB hA=>?_
 refine W ?_
 refine lp (fun j e s=>∃ i:Nat,i+j=l.length∧e 5=.int .i64 i∧s=σ++[]) l.length ⟨0,by simp,rfl,rfl⟩ ?_
 rintro j u _ ⟨i,hi,e5,rfl⟩
 by_cases h5:i<l.length
 ·obtain⟨x,hx⟩:∃ x,l[i]?=some x:=⟨_,List.getElem?_eq_getElem h5⟩
  have hg:(l.map u8c)[(i:Int).toNat]?=some (u8c x):=by rw[Int.toNat_natCast,List.getElem?_map,hx];rfl
  have hm:=ho x (List.mem_of_getElem? hx)
  have xl:=u8c_len8 hm
  have xs:=u8c_sc x
  have xc:=cut_hd0 xl
  have q0:eqCells [.i .u8,.i .u8,.i .u8,.i .u8,.i .u8,.i .u8,.i .u8,.i .u8] (u8c x) (u8c x)=some true:=by have q:=eqC_u8 x x rfl;rw[hm] at q;exact q.trans (by simp)
  refine W ?_
  exact⟨j - 1,by omega,i+1,by omega,rfl,rfl⟩
 ·refine W ?_
  exact hk
theorem uR6Same {x:Tn} (hx:okTn x):U Tryz.prog 180 [.agg (tnC x),.agg (tnC x)] (.bool true):=by
 intro σ Post hk
 have psc:=tnC_sc (x:=x)
 have pln:=tnC_len hx
 have pc0:=tnC_all hx
 have pkind:=tnC_gkind hx
 have proot:=tnC_groot hx
 have pid:=tnC_gid hx
 have q0:=eqC_ad hx.root hx.root
 rw[show (x.root==x.root)=true by simp] at q0
 refine T180 fun hB hA=>?_
 refine W ?_
 exact fin hk (by simp)
theorem uR6Equal {x:Tn} (hx:okTn x):U Tryz.prog 134 [.agg (tnC x),.agg (tnC x)] (.bool true):=by
 intro σ Post hk
 have psc:=tnC_sc (x:=x)
 have pln:=tnC_len hx
 have pc0:=tnC_all hx
 have pleaf:=tnC_gleaf hx
 have plabel:=tnC_glabel hx
 refine T134 fun hB hA=>?_
 cases lx:x.leaf with
 | true=>
   rw[lx] at pleaf
   refine W ?_
   refine cu (uR6Same hx) ?_
   refine W ?_
   exact fin hk (by simp)
 | false=>
   rw[lx] at pleaf
   refine W ?_
   refine cu (uR6Same hx) ?_
   refine W ?_
   exact fin hk (by simp)
theorem uR9SamePath {l:List Seg} (hl:l.length≤4611686018427387904) (hn:∀ s,s∈l→s.nums.length≤4611686018427387904):U Tryz.prog 135 [.sl (l.map segC),.sl (l.map segC)] (.bool true):=by
 intro σ Post hk
 have bl:(l.map segC).length=l.length:=List.length_map _
 refine T135 fun hB hA=>?_
 refine W ?_
 refine lp (fun k e h=>∃ i:Nat,i+k=l.length∧e 5=.int .i64 i∧h=σ++[]) l.length ⟨0,by simp,rfl,rfl⟩ ?_
 rintro k u _ ⟨i,hi,e5,rfl⟩
 by_cases h5:i<l.length
 ·obtain⟨x,hx⟩:∃ x,l[i]?=some x:=⟨_,List.getElem?_eq_getElem h5⟩
  have hg:(l.map segC)[(i:Int).toNat]?=some (segC x):=by rw[Int.toNat_natCast,List.getElem?_map,hx];rfl
  have hm:=hn x (List.mem_of_getElem? hx)
  have g1:=segC_gnums (x:=x) ⟨trivial⟩
  have g0:=segC_gset (x:=x) ⟨trivial⟩
  have b2:(x.nums.map fun n=>[PV.int .i64 n]).length=x.nums.length:=List.length_map _
  have step:∀ E:Env,E 5=.int .i64 i→True:=fun _ _=>trivial
  clear step
  cases hs:x.set with
  | true=>
    rw[hs] at g0
    refine W ?_
    refine lp (fun k2 e h=>∃ j:Nat,j+k2=x.nums.length∧e 6=.int .i64 j∧h=σ++[]) x.nums.length ⟨0,by simp,rfl,rfl⟩ ?_
    rintro k2 u2 _ ⟨j,hj,e6,rfl⟩
    by_cases h6:j<x.nums.length
    ·obtain⟨y,hy⟩:∃ y,x.nums[j]?=some y:=⟨_,List.getElem?_eq_getElem h6⟩
     have hg2:(x.nums.map fun n=>[PV.int .i64 n])[(j:Int).toNat]?=some [PV.int .i64 y]:=by rw[Int.toNat_natCast,List.getElem?_map,hy];rfl
     have yy:y=y:=rfl
     refine W ?_
     exact⟨k2 - 1,by omega,j+1,by omega,rfl,rfl⟩
    ·refine W ?_
     exact⟨k - 1,by omega,i+1,by omega,rfl,rfl⟩
  | false=>
    rw[hs] at g0
    refine W ?_
    refine lp (fun k2 e h=>∃ j:Nat,j+k2=x.nums.length∧e 6=.int .i64 j∧h=σ++[]) x.nums.length ⟨0,by simp,rfl,rfl⟩ ?_
    rintro k2 u2 _ ⟨j,hj,e6,rfl⟩
    by_cases h6:j<x.nums.length
    ·obtain⟨y,hy⟩:∃ y,x.nums[j]?=some y:=⟨_,List.getElem?_eq_getElem h6⟩
     have hg2:(x.nums.map fun n=>[PV.int .i64 n])[(j:Int).toNat]?=some [PV.int .i64 y]:=by rw[Int.toNat_natCast,List.getElem?_map,hy];rfl
     have yy:y=y:=rfl
     refine W ?_
     exact⟨k2 - 1,by omega,j+1,by omega,rfl,rfl⟩
    ·refine W ?_
     exact⟨k - 1,by omega,i+1,by omega,rfl,rfl⟩
 ·refine W ?_
  exact hk
theorem uR9Same {a:At} (ha:okCm a):U Tryz.prog 93 [.agg (atC a),.agg (atC a)] (.bool true):=by
 intro σ Post hk
 have psc:=atC_sc (x:=a)
 have pln:=atC_len ha.ok
 have pc0:=atC_all ha.ok
 have porigin:=atC_gorigin ha.ok
 have ppath:=atC_gpath ha.ok
 have pmed:=atC_gmed ha.ok
 have ppref:=atC_gpref ha.ok
 have porig:=atC_gorig ha.ok
 have pcl:=atC_gcl ha.ok
 have pex:=atC_gex ha.ok
 have ptn:=atC_gtn ha.ok
 have q0:=eqC_ad ha.ok.orig ha.ok.orig
 rw[show (a.orig==a.orig)=true by simp] at q0
 have n1:=ha.l2
 have n2:=ha.l4
 have b1:(a.cl.map adc).length=a.cl.length:=List.length_map _
 have b2:(a.tn.map tnC).length=a.tn.length:=List.length_map _
 refine T93 fun hB hA=>?_
 refine W ?_
 refine lp (fun k e h=>∃ i:Nat,i+k=a.cl.length∧e 5=.int .i64 i∧h=σ++[(1,VObj.box (atC a) false),(1,.box (atC a) false)]) a.cl.length ⟨0,by simp,rfl,rfl⟩ ?_
 rintro k u _ ⟨i,hi,e5,rfl⟩
 by_cases h5:i<a.cl.length
 ·obtain⟨x,hx⟩:∃ x,a.cl[i]?=some x:=⟨_,List.getElem?_eq_getElem h5⟩
  have hg:(a.cl.map adc)[(i:Int).toNat]?=some (adc x):=by rw[Int.toNat_natCast,List.getElem?_map,hx];rfl
  have hm:=ha.cl x (List.mem_of_getElem? hx)
  have xl:=adc_len hm
  have xs:=adc_sc (a:=x)
  have xc:=adc_all hm
  have q1:=eqC_ad hm hm
  rw[show (x==x)=true by simp] at q1
  refine W ?_
  exact⟨k - 1,by omega,i+1,by omega,rfl,rfl⟩
 ·refine W ?_
  refine lp (fun k e h=>∃ i:Nat,i+k=a.tn.length∧e 6=.int .i64 i∧h=σ++[(1,VObj.box (atC a) false),(1,.box (atC a) false)]) a.tn.length ⟨0,by simp,rfl,rfl⟩ ?_
  rintro k2 u2 _ ⟨j,hj,e6,rfl⟩
  by_cases h6:j<a.tn.length
  ·obtain⟨x,hx⟩:∃ x,a.tn[j]?=some x:=⟨_,List.getElem?_eq_getElem h6⟩
   have hg:(a.tn.map tnC)[(j:Int).toNat]?=some (tnC x):=by rw[Int.toNat_natCast,List.getElem?_map,hx];rfl
   have hm:=ha.tn x (List.mem_of_getElem? hx)
   have xl:=tnC_len hm
   have xs:=tnC_sc (x:=x)
   have xc:=tnC_all hm
   refine W ?_
   refine s1 (uR6Equal hm) ?_
   refine W ?_
   exact⟨k2 - 1,by omega,j+1,by omega,rfl,rfl⟩
  ·refine W ?_
   refine cu (uR9SamePath ha.l1 ha.nums) ?_
   refine W ?_
   refine cu (uR4Same ha.ex8 ha.l3) ?_
   refine W ?_
   exact fin hk (by simp)
theorem uR15SameRoute {a:Rt} (ha:okRt a) (ca:okCm a.att):U Tryz.prog 59 [.agg (rtC a),.agg (rtC a)] (.bool true):=by
 intro σ Post hk
 have psc:=rtC_sc (x:=a)
 have pln:=rtC_len ha
 have pc0:=rtC_all ha
 have psize:=rtC_gsize ha
 have psafi:=rtC_gsafi ha
 have pm:=rtC_gm ha
 have pu:=rtC_gu ha
 have pnext:=rtC_gnext ha
 have patt:=rtC_gatt ha
 have q1:=eqC_mr ha.m ha.m
 rw[show (a.m==a.m)=true by simp] at q1
 have q2:=eqC_U (a:=a.u.2) (b:=a.u.2) ha.u ha.u
 rw[show (sameU a.u.1.rd a.u.1.s a.u.1.b a.u.1.k a.u.1.rd a.u.1.s a.u.1.b a.u.1.k&&(a.u.2==a.u.2))=true from eqUr_self a.u] at q2
 have q3:=eqC_ad ha.next ha.next
 rw[show (a.next==a.next)=true by simp] at q3
 refine T59 fun hB hA=>?_
 refine W ?_
 refine cu (uR9Same ca) ?_
 refine W ?_
 exact fin hk (by simp)
theorem uR15Same {l:List Rt} (h:∀ r,r∈l→okRt r) (c:∀ r,r∈l→okCm r.att) (hl:l.length≤1000000):U Tryz.prog 21 [.sl (l.map rtC),.sl (l.map rtC)] (.bool true):=by
 intro σ Post hk
 have b1:(l.map rtC).length=l.length:=List.length_map _
 refine T21 fun hB hA=>?_
 refine W ?_
 refine lp (fun j e s=>∃ i:Nat,i+j=l.length∧e 5=.int .i64 i∧s=σ++[]) l.length ⟨0,by simp,rfl,rfl⟩ ?_
 rintro j u _ ⟨i,hi,e5,rfl⟩
 by_cases h5:i<l.length
 ·obtain⟨x,hx⟩:∃ x,l[i]?=some x:=⟨_,List.getElem?_eq_getElem h5⟩
  have hg:(l.map rtC)[(i:Int).toNat]?=some (rtC x):=by rw[Int.toNat_natCast,List.getElem?_map,hx];rfl
  have hm:=List.mem_of_getElem? hx
  have ox:=h x hm
  have xs:=rtC_sc (x:=x)
  have xl:=rtC_len ox
  have xc:=rtC_all ox
  refine W ?_
  refine s1 (uR15SameRoute ox (c x hm)) ?_
  refine W ?_
  exact⟨j - 1,by omega,i+1,by omega,rfl,rfl⟩
 ·refine W ?_
  exact hk
end Go.Proofs.YtdpeaefgbmkegaaGreatDoor
namespace Go.Proofs.YtdpeaefgbmkegaaGreatDoor
open Go Go.V
set_option maxRecDepth 10000
set_option linter.unusedVariables false
attribute [local irreducible] vBuild vCallV
theorem few18_imp {v:Vr} (h:few18 v=true):v.imp.length<50:=by
 unfold few18 at h
 simp only[Bool.and_eq_true,decide_eq_true_eq] at h
 exact h.2.1
theorem okArg_cm {r:Rt} (h:okArg r) (hf:few15 r=true):okCm r.att:=by
 unfold few15 few9 at hf
 simp only[Bool.and_eq_true,Bool.not_eq_true',List.any_eq_false,decide_eq_true_eq] at hf
 obtain⟨⟨h1,h2,h3,h4,h5,h6⟩,h7⟩:=hf
 exact⟨h.ok.att,h.cl,h.tn,h.ex8,by omega,by omega,by omega,by omega,fun s hs=>by have:=h1 s hs;omega⟩
theorem tVrfTakes {v:Vr} {pe:Ad} {n:Int} {l:List Rt} (hv:okVrf v) (hp:okD pe) (hr:∀ r,r∈l→okArg r) (sm:U Tryz.prog 13 [] (.bool true)):U Tryz.prog 5 [.agg (vrC v),.agg (adc pe),.int .i64 n,.sl (l.map rtC)] (.bool true):=by
 intro σ Post hk
 have ov:=hv.ok
 have vsc:=vrC_sc (x:=v)
 have vln:=vrC_len ov
 have vca:=vrC_all ov
 have psc:=adc_sc (a:=pe)
 have pln:=adc_len hp
 have pca:=adc_all hp
 have bl:(l.map rtC).length=l.length:=List.length_map _
 refine T5 fun hB hA=>?_
 refine W ?_
 refine cu sm ?_
 refine W ?_
 refine cu (uFew18 ov) ?_
 cases fv:few18 v with
 | false=>
   refine W ?_
   exact hk
 | true=>
 by_cases l30:30<l.length
 ·refine W ?_
  exact hk
 have li:=few18_imp fv
 refine W ?_
 refine lp (fun j e s=>∃ i:Nat,i+j=l.length∧e 11=.int .i64 i∧(∀ r,r∈l.take i→few15 r=true)∧s=σ++[(1,VObj.box (vrC v) false),(1,.box (adc pe) false),(0,.dead),(0,.dead)]) l.length ⟨0,by simp,rfl,by simp,rfl⟩ ?_
 rintro j u _ ⟨i,hi,e11,hf,rfl⟩
 by_cases h5:i<l.length
 ·obtain⟨x,hx⟩:∃ x,l[i]?=some x:=⟨_,List.getElem?_eq_getElem h5⟩
  have hg:(l.map rtC)[(i:Int).toNat]?=some (rtC x):=by rw[Int.toNat_natCast,List.getElem?_map,hx];rfl
  have hm:=List.mem_of_getElem? hx
  have ax:=hr x hm
  have xs:=rtC_sc (x:=x)
  have xl:=rtC_len ax.ok
  have xc:=rtC_all ax.ok
  refine W ?_
  refine cu (uFew15 ax.ok ax.tn ax.l1 ax.l2 ax.l3) ?_
  cases fx:few15 x with
  | false=>
    refine W ?_
    exact hk
  | true=>
    have o:=okArg_few ax fx
    have uA:=uTakesV hv hp o ax.ex8 (by omega)
    have uB:=uR18Takes hv hp o (few_len fx) ax.ex8 (by omega)
    have hst:∀ r,r∈l.take (i+1)→few15 r=true:=fun r h=>by
     rw[take_snoc hx,List.mem_append] at h
     rcases h with h|h
     ·exact hf r h
     ·rw[List.mem_singleton.1 h];exact fx
    generalize takeV v pe x=X at uA uB
    cases X with
    | true=>
      refine W ?_
      refine s1 uA ?_
      refine W ?_
      refine s1 uB ?_
      refine W ?_
      exact⟨j - 1,by omega,i+1,by omega,rfl,hst,rfl⟩
    | false=>
      refine W ?_
      refine s1 uA ?_
      refine W ?_
      refine s1 uB ?_
      refine W ?_
      exact⟨j - 1,by omega,i+1,by omega,rfl,hst,rfl⟩
 ·have h9:l.take i=l:=List.take_of_length_le (by omega)
  rw[h9] at hf
  have hT:=uTaken hv hp (fun r h=>okArg_few (hr r h) (hf r h)) (fun r h=>(hr r h).ex8) (by omega) (by omega:l.length≤1000000)
  have hR:=uR18Taken hv hp (fun r h=>okArg_few (hr r h) (hf r h)) (fun r h=>few_len (hf r h)) (fun r h=>(hr r h).ex8) (by omega) (by omega:l.length≤1000000)
  have lf:(l.filter (takeV v pe)).length≤1000000:=Nat.le_trans (List.length_filter_le _ _) (by omega)
  have hS:=uR15Same (l:=l.filter (takeV v pe)) (fun r h=>(hr r (List.mem_filter.1 h).1).ok) (fun r h=>okArg_cm (hr r (List.mem_filter.1 h).1) (hf r (List.mem_filter.1 h).1)) lf
  generalize l.filter (takeV v pe)=F at hT hR hS
  have tG:=uVTargetG (n:=n) hp
  have tR:=uR18Target (n:=n) hp
  have tn8:=tgtG_len pe n
  generalize tgtG pe n=Y at tG tR tn8
  obtain⟨y1,y2⟩:=Y
  have tl:=u8c_len8 tn8
  have ts:=u8c_sc y1
  have tc:=cut_hd0 tl
  have d8:=spl_any8 (cs:=[D.o,D.o,D.o,D.o,D.o,D.o,D.o,D.o]) tl
  have q0:eqCells [.i .u8,.i .u8,.i .u8,.i .u8,.i .u8,.i .u8,.i .u8,.i .u8] (u8c y1) (u8c y1)=some true:=by have q:=eqC_u8 y1 y1 rfl;rw[tn8] at q;exact q.trans (by simp)
  have yy:y2=y2:=rfl
  refine W ?_
  refine cu tG ?_
  refine W ?_
  refine cu tR ?_
  refine W ?_
  refine s1 hT ?_
  refine W ?_
  refine s1 hR ?_
  refine W ?_
  refine s1 hS ?_
  refine W ?_
  exact fin hk (by simp)
end Go.Proofs.YtdpeaefgbmkegaaGreatDoor
