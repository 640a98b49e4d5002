/- mroute: what is written is read, and the other way round. -/
import Derived.Test.YtdpeaefgbmkegaaGreatDoorM16
import Derived.Test.YtdpeaefgbmkegaaGreatDoorGC
namespace Go.Proofs.YtdpeaefgbmkegaaGreatDoor
open Go Go.V
set_option maxRecDepth 10000
theorem ofNat_add (a b:Nat):UInt8.ofNat (b * 256+a)=UInt8.ofNat a:=by
 apply UInt8.toNat_inj.1;simp
theorem be_add (c m k:Nat):∀ j,j≤k→be (c * 256 ^ k+m) j=be m j
 | 0,_=>rfl
 | j+1,h=>by
   rw[be,be,be_add c m k j (by omega)]
   congr 1
   obtain⟨d,rfl⟩:∃ d,k=j+1+d:=⟨k - (j+1),by omega⟩
   have e:c * 256 ^ (j+1+d)+m=(c * 256 ^ d * 256) * 256 ^ j+m:=by
    rw[Nat.pow_add,Nat.pow_succ];congr 1;ac_rfl
   rw[e,Nat.mul_comm _ (256 ^ j),Nat.mul_add_div (Nat.pow_pos (by omega)),ofNat_add]
theorem big_acc:∀ (r:List UInt8) (a:Nat),big r a=a * 256 ^ r.length+big r 0
 | [],a=>by simp[big]
 | x::r,a=>by
   rw[big,big,big_acc r (a * 256+x.toNat),big_acc r (0 * 256+x.toNat),List.length_cons,Nat.pow_succ,Nat.add_mul]
   have:a * 256 * 256 ^ r.length=a * (256 ^ r.length * 256):=by ac_rfl
   rw[this];simp;omega
theorem be_big:∀ (r:List UInt8),be (big r 0) r.length=r
 | []=>rfl
 | x::r=>by
   have h:=big_lt r 0
   rw[Nat.zero_add,Nat.one_mul] at h
   rw[big,big_acc,List.length_cons,be,Nat.zero_mul,Nat.zero_add]
   rw[be_add x.toNat (big r 0) r.length r.length (Nat.le_refl _),be_big r]
   rw[Nat.mul_comm,Nat.mul_add_div (Nat.pow_pos (by omega)),Nat.div_eq_of_lt h,Nat.add_zero,UInt8.ofNat_toNat]
theorem rdT_app (a t:List UInt8):rdT (a++t) false a.length=(a,t,false):=by
 unfold rdT
 rw[if_neg (by simp),List.take_left,List.drop_left]
theorem over_self {q b:List UInt8} (h:q.length=b.length):over q b=q:=by
 unfold over;rw[h,List.drop_length,List.append_nil]
theorem okAd_z {a:Ad} (h:okD a) (o:okAd a=true):a.b.drop a.s.toNat=List.replicate (16 - a.s.toNat) 0:=by
 unfold okAd okA at o
 rw[Bool.and_eq_true,List.all_eq_true] at o
 rw[List.eq_replicate_iff]
 refine⟨by rw[List.length_drop,h],fun x hx=>?_⟩
 have:=o.2 x hx
 simpa using this
theorem abytes_len2 {a:Ad} (h:okD a) (o:okAd a=true):((abytes a).length:Int)=a.s:=by
 have:=okAd_s o
 unfold abytes
 rw[if_pos o,List.length_take,h];omega
theorem ofA_abytes {a:Ad} (h:okD a) (o:okAd a=true):ofA (abytes a)=(a,0):=by
 have hl:=abytes_len2 h o
 have hs:=okAd_s o
 have hz:=okAd_z h o
 unfold ofA
 rw[if_pos (by omega)]
 congr 1
 have e:over (abytes a) z16=a.b:=by
  have h16:z16=List.replicate 16 0:=rfl
  unfold over
  rw[h16,List.drop_replicate,show 16 - (abytes a).length=16 - a.s.toNat by omega,← hz]
  unfold abytes
  rw[if_pos o,List.take_append_drop]
 rw[hl,e]
theorem ofA_ok1 {l:List UInt8} (h:(ofA l).2=0):okAd (ofA l).1=true∧abytes (ofA l).1=l∧(l.length=0∨l.length=4∨l.length=16)∧(ofA l).1.s=l.length:=by
 unfold ofA at *
 split at h
 ·rename_i hl
  rw[if_pos hl]
  have h16:z16=List.replicate 16 0:=rfl
  have ho:okAd ⟨(l.length:Int),over l z16⟩=true:=by
   unfold okAd okA over
   rw[Bool.and_eq_true]
   refine⟨?_,?_⟩
   ·rcases hl with hl|hl|hl<;>rw[hl]<;>rfl
   ·show (List.drop (l.length:Int).toNat _).all _=true
    rw[Int.toNat_natCast,List.drop_left,h16,List.drop_replicate]
    rw[List.all_eq_true]
    intro x hx
    rw[List.mem_replicate] at hx
    rw[hx.2];rfl
  refine⟨ho,?_,hl,rfl⟩
  unfold abytes
  rw[if_pos ho]
  show List.take (l.length:Int).toNat (over l z16)=l
  rw[Int.toNat_natCast];unfold over;rw[List.take_left]
 ·cases h
theorem longF_bt {a:Ad} (h:okD a) (o:okAd a=true) (t:List UInt8):btT (longF a++t) false=((abytes a,t,false),true):=by
 have hl:=abytes_len2 h o
 have hs:=okAd_s o
 unfold btT longF
 rw[List.cons_append]
 have e1:rdT (UInt8.ofNat (8 * a.s).toNat::(abytes a++t)) false 1=([UInt8.ofNat (8 * a.s).toNat],abytes a++t,false):=rdT_app [_] _
 rw[e1]
 dsimp only
 rw[big_one]
 have e2:(UInt8.ofNat (8 * a.s).toNat).toNat=8 * (abytes a).length:=by
  have:(UInt8.ofNat (8 * a.s).toNat).toNat=(8 * a.s).toNat:=by simp;omega
  omega
 rw[e2,Nat.mul_div_cancel_left _ (by omega),rdT_app,Nat.mul_mod_right];rfl
def body (m:Mr) (p:Pt):List UInt8:=(if p.rd=true then m.rd else[])++((if p.aa=true then be m.aa.toNat 4 else[])++((if p.fl=true then longF m.s++longF m.g else[])++(if p.fr=true then abytes m.f else[])))
theorem partsB_body (m:Mr) (p:Pt):partsB m p=m.key++body m p:=rfl
section
variable {M m:Mr} {p:Pt} {t:List UInt8} {ok:Bool}
theorem rs1_back (h1:M.rd.length=8) (h2:m.rd.length=8):rs1 p ⟨M,(if p.rd=true then m.rd else[])++t,false,ok⟩=⟨{ M with rd:=if p.rd=true then m.rd else M.rd },t,false,ok⟩:=by
 unfold rs1
 cases hp:p.rd with
 | false=>simp
 | true=>
   simp only[if_true]
   have:=rdT_app m.rd t
   rw[h2] at this
   rw[this,over_self (by rw[h1,h2])]
theorem rs2_back (h0:0≤m.aa) (h1:m.aa≤4294967295):rs2 p ⟨M,(if p.aa=true then be m.aa.toNat 4 else[])++t,false,ok⟩=⟨{ M with aa:=if p.aa=true then m.aa else M.aa },t,false,ok⟩:=by
 unfold rs2
 cases hp:p.aa with
 | false=>simp
 | true=>
   simp only[if_true]
   have:=rdT_app (be m.aa.toNat 4) t
   rw[be_len] at this
   have e:=big_be m.aa.toNat 4 0
   have h4:(256:Nat) ^ 4=4294967296:=by decide
   rw[h4,Nat.mod_eq_of_lt (by omega),Nat.zero_mul,Nat.zero_add] at e
   rw[this]
   dsimp only
   rw[e,Int.toNat_of_nonneg h0]
theorem rs3_back (hs:okD m.s) (hg:okD m.g) (o:p.fl=true→okAd m.s=true∧okAd m.g=true):rs3 p ⟨M,(if p.fl=true then longF m.s++longF m.g else[])++t,false,ok⟩=⟨{ M with s:=if p.fl=true then m.s else M.s,g:=if p.fl=true then m.g else M.g },t,false,ok⟩:=by
 unfold rs3
 cases hp:p.fl with
 | false=>simp
 | true=>
   obtain⟨o1,o2⟩:=o hp
   simp only[if_true]
   unfold rsS
   dsimp only
   rw[List.append_assoc,longF_bt hs o1]
   dsimp only
   rw[ofA_abytes hs o1]
   unfold rsG
   dsimp only
   rw[longF_bt hg o2]
   dsimp only
   rw[ofA_abytes hg o2]
   simp
theorem rs4_back (hf:okD m.f) (o:p.fr=true→okAd m.f=true):rs4 p ⟨M,if p.fr=true then abytes m.f else[],false,ok⟩=⟨{ M with f:=if p.fr=true then m.f else M.f },[],false,ok⟩:=by
 unfold rs4
 cases hp:p.fr with
 | false=>simp
 | true=>
   simp only[if_true]
   unfold rsF
   dsimp only
   rw[if_neg (by simp)]
   have:=rdT_app (abytes m.f) []
   rw[List.append_nil] at this
   rw[this]
   dsimp only
   rw[ofA_abytes hf (o hp)]
   simp
end
structure RightP (m:Mr):Prop where
 k:(ofF m.k).2=true
 bare:bareF m (ofF m.k).1=m
 a0:0≤m.aa
 a1:m.aa≤4294967295
 fr:(ofF m.k).1.fr=true→someA m.f=true
 fl:(ofF m.k).1.fl=true→flowsF m.s m.g (decide (m.k=3))=true
theorem rightP {m:Mr} {B:Bool} (h:rightG m B=true):RightP m∧(m.k=4→B=true):=by
 unfold rightG at h
 simp only[Bool.and_eq_true,Bool.or_eq_true,Bool.not_eq_true',decide_eq_true_eq,beq_iff_eq] at h
 obtain⟨h1,h2,h3,h4,h5,h6,h7⟩:=h
 refine⟨⟨h1,h2,h3,h4,fun e=>?_,fun e=>?_⟩,fun e=>?_⟩
 ·rcases h5 with h5|h5
  ·rw[e] at h5;cases h5
  ·exact h5
 ·rcases h6 with h6|h6
  ·rw[e] at h6;cases h6
  ·exact h6
 ·rcases h7 with h7|h7
  ·exact absurd e h7
  ·exact h7
theorem rightG_of {m:Mr} {B:Bool} (h:RightP m) (hB:m.k=4→B=true):rightG m B=true:=by
 unfold rightG
 simp only[Bool.and_eq_true,Bool.or_eq_true,Bool.not_eq_true',decide_eq_true_eq,beq_iff_eq]
 refine⟨h.k,h.bare,h.a0,h.a1,?_,?_,?_⟩
 ·cases e:(ofF m.k).1.fr with
  | false=>exact .inl rfl
  | true=>exact .inr (h.fr e)
 ·cases e:(ofF m.k).1.fl with
  | false=>exact .inl rfl
  | true=>exact .inr (h.fl e)
 ·by_cases e:m.k=4
  ·exact .inr (hB e)
  ·exact .inl e
theorem someA_ok {a:Ad} (h:someA a=true):okAd a=true∧0<a.s:=by
 unfold someA at h;simpa using h
theorem readM_back {m:Mr} (h:okM m) (R:RightP m):readM m.k (body m (ofF m.k).1) false m.key=⟨m,[],false,true⟩:=by
 have hb:=R.bare
 have hk:=R.k
 have hfr:=R.fr
 have hfl:=R.fl
 unfold readM rs0 body
 rw[hk]
 generalize (ofF m.k).1=p at *
 rw[rs1_back rfl h.rd,rs2_back R.a0 R.a1,rs3_back h.s h.g (fun e=>flows_ok (hfl e)),rs4_back h.f (fun e=>(someA_ok (hfr e)).1)]
 congr 1
 unfold bareF at hb
 obtain⟨k,rd,aa,s,g,f,key⟩:=m
 dsimp only[mr0] at *
 injection hb with b1 b2 b3 b4 b5 b6 b7
 rw[b2,b3,b4,b5,b6]
section
variable {S:RS} {p:Pt}
theorem rdT_good {l p q:List UInt8} {bad:Bool} {n:Nat} (h:rdT l bad n=(p,q,false)):bad=false∧l=p++q∧p.length=n:=by
 unfold rdT at h
 split at h
 ·cases h
 ·rename_i hc
  cases h
  simp only[not_or,Nat.not_lt,Bool.not_eq_true] at hc
  exact⟨hc.1,(List.take_append_drop _ _).symm,by rw[List.length_take];omega⟩
theorem btT_good {l x q:List UInt8} {bad:Bool} (h:btT l bad=((x,q,false),true)) (hx:(ofA x).2=0):bad=false∧l=longF (ofA x).1++q:=by
 obtain⟨a1,a2,a3,a4⟩:=ofA_ok1 hx
 unfold btT at h
 obtain⟨y,r,c,hy⟩:∃ y r c,rdT l bad 1=(y,r,c):=⟨_,_,_,rfl⟩
 rw[hy] at h
 dsimp only at h
 injection h with e1 e2
 obtain⟨g1,g2,g3⟩:=rdT_good e1
 subst g1
 obtain⟨f1,f2,f3⟩:=rdT_good hy
 refine⟨f1,?_⟩
 obtain⟨w,rfl⟩:∃ w,y=[w]:=by
  match y,f3 with
  | [w],_=>exact⟨w,rfl⟩
 rw[big_one] at e2 g3
 unfold longF
 rw[a2,a4,f2,g2]
 have:w=UInt8.ofNat (8 * (x.length:Int)).toNat:=by
  have hw:=w.toNat_lt
  apply UInt8.toNat_inj.1
  have h8:w.toNat % 8=0:=by simpa using e2
  have:(UInt8.ofNat (8 * (x.length:Int)).toNat).toNat=(8 * (x.length:Int)).toNat:=by simp;omega
  omega
 rw[← this];simp
theorem rs3_good (h1:(rs3 p S).bad=false) (h2:(rs3 p S).ok=true):S.bad=false∧S.ok=true∧S.l=(if p.fl=true then longF (rs3 p S).m.s++longF (rs3 p S).m.g else[])++(rs3 p S).l:=by
 unfold rs3 at *
 cases hp:p.fl with
 | false=>
   rw[hp] at h1 h2
   simp only[Bool.false_eq_true,if_false] at h1 h2 ⊢
   exact⟨h1,h2,rfl⟩
 | true=>
   rw[hp] at h1 h2
   simp only[if_true] at h1 h2 ⊢
   obtain⟨x,q,c,d,hx⟩:∃ x q c d,btT S.l S.bad=((x,q,c),d):=⟨_,_,_,_,rfl⟩
   have eS:rsS S=⟨{ S.m with s:=(ofA x).1 },q,c,S.ok&&d&&decide ((ofA x).2=0)⟩:=by
    unfold rsS;rw[hx]
   rw[eS] at h1 h2 ⊢
   obtain⟨y,r,e,f,hy⟩:∃ y r e f,btT q c=((y,r,e),f):=⟨_,_,_,_,rfl⟩
   unfold rsG at *
   dsimp only at *
   rw[hy] at h1 h2 ⊢
   dsimp only at *
   simp only[Bool.and_eq_true,decide_eq_true_eq] at h2
   obtain⟨⟨⟨⟨h3,h4⟩,h5⟩,h6⟩,h7⟩:=h2
   subst h1 h6
   obtain⟨g1,g2⟩:=btT_good hy h7
   subst g1 h4
   obtain⟨f1,f2⟩:=btT_good hx h5
   refine⟨f1,h3,?_⟩
   rw[f2,g2,List.append_assoc]
theorem rs2_good (h1:(rs2 p S).bad=false) (h2:(rs2 p S).ok=true):S.bad=false∧S.ok=true∧S.l=(if p.aa=true then be (rs2 p S).m.aa.toNat 4 else[])++(rs2 p S).l:=by
 unfold rs2 at *
 cases hp:p.aa with
 | false=>
   rw[hp] at h1 h2
   simp only[Bool.false_eq_true,if_false] at h1 h2 ⊢
   exact⟨h1,h2,rfl⟩
 | true=>
   rw[hp] at h1 h2
   simp only[if_true] at h1 h2 ⊢
   obtain⟨x,q,c,hx⟩:∃ x q c,rdT S.l S.bad 4=(x,q,c):=⟨_,_,_,rfl⟩
   rw[hx] at h1 ⊢
   dsimp only at h1 h2 ⊢
   subst h1
   obtain⟨g1,g2,g3⟩:=rdT_good hx
   refine⟨g1,h2,?_⟩
   rw[Int.toNat_natCast]
   have:=be_big x
   rw[g3] at this
   rw[this];exact g2
theorem rs1_good (h0:S.m.rd.length=8) (h1:(rs1 p S).bad=false) (h2:(rs1 p S).ok=true):S.bad=false∧S.ok=true∧S.l=(if p.rd=true then(rs1 p S).m.rd else[])++(rs1 p S).l:=by
 unfold rs1 at *
 cases hp:p.rd with
 | false=>
   rw[hp] at h1 h2
   simp only[Bool.false_eq_true,if_false] at h1 h2 ⊢
   exact⟨h1,h2,rfl⟩
 | true=>
   rw[hp] at h1 h2
   simp only[if_true] at h1 h2 ⊢
   obtain⟨x,q,c,hx⟩:∃ x q c,rdT S.l S.bad 8=(x,q,c):=⟨_,_,_,rfl⟩
   rw[hx] at h1 ⊢
   dsimp only at h1 h2 ⊢
   subst h1
   obtain⟨g1,g2,g3⟩:=rdT_good hx
   refine⟨g1,h2,?_⟩
   rw[over_self (by rw[g3,h0])];exact g2
end
theorem readM_good {k:Int} {l key:List UInt8} {bad:Bool} (h:okB (readM k l bad key)=true):bad=false∧l=body (readM k l bad key).m (ofF k).1:=by
 unfold okB at h
 simp only[Bool.and_eq_true,Bool.not_eq_true',decide_eq_true_eq] at h
 obtain⟨h1,h2,h3⟩:=h
 have h3:=List.length_eq_zero_iff.1 h3
 unfold readM at *
 generalize (ofF k).1=p at *
 generalize eS1:rs1 p (rs0 k l bad key)=S1 at *
 generalize eS2:rs2 p S1=S2 at *
 generalize eS3:rs3 p S2=S3 at *
 have i4:(rs4 p S3).m.rd=S3.m.rd∧(rs4 p S3).m.aa=S3.m.aa∧(rs4 p S3).m.s=S3.m.s∧(rs4 p S3).m.g=S3.m.g:=by unfold rs4;split<;>exact⟨rfl,rfl,rfl,rfl⟩
 have i3:S3.m.rd=S2.m.rd∧S3.m.aa=S2.m.aa:=by rw[← eS3];unfold rs3;split<;>exact⟨rfl,rfl⟩
 have i2:S2.m.rd=S1.m.rd:=by rw[← eS2];unfold rs2;split<;>rfl
 obtain⟨a1,a2,a3⟩:S3.bad=false∧S3.ok=true∧S3.l=(if p.fr=true then abytes (rs4 p S3).m.f else[]):=by
  unfold rs4 at *
  cases hp:p.fr with
  | false=>
    rw[hp] at h1 h2 h3
    simp only[Bool.false_eq_true,if_false] at h1 h2 h3 ⊢
    exact⟨h2,h1,h3⟩
  | true=>
    rw[hp] at h1 h2 h3
    simp only[if_true] at h1 h2 h3 ⊢
    unfold rsF at *
    dsimp only at *
    obtain⟨x,q,c,hx⟩:∃ x q c,rdT S3.l S3.bad (if S3.bad then 0 else S3.l.length)=(x,q,c):=⟨_,_,_,rfl⟩
    rw[hx] at h1 h2 h3 ⊢
    dsimp only at *
    subst h2 h3
    obtain⟨g1,g2,g3⟩:=rdT_good hx
    rw[List.append_nil] at g2
    simp only[Bool.and_eq_true,decide_eq_true_eq] at h1
    obtain⟨a1,a2,_⟩:=ofA_ok1 h1.2
    exact⟨g1,h1.1,by rw[a2];exact g2⟩
 have b:=@rs3_good S2 p (by rw[eS3];exact a1) (by rw[eS3];exact a2)
 rw[eS3] at b
 have c:=@rs2_good S1 p (by rw[eS2];exact b.1) (by rw[eS2];exact b.2.1)
 rw[eS2] at c
 have d:=@rs1_good (rs0 k l bad key) p rfl (by rw[eS1];exact c.1) (by rw[eS1];exact c.2.1)
 rw[eS1] at d
 refine⟨d.1,?_⟩
 unfold body
 rw[i4.1,i4.2.1,i4.2.2.1,i4.2.2.2,i3.1,i3.2,i2,← a3]
 have e1:=d.2.2
 rw[c.2.2,b.2.2] at e1
 exact e1
theorem RightP.key {m:Mr} (R:RightP m) (h4:m.k≠4):m.key=[]:=by
 have:=congrArg Mr.key R.bare
 unfold bareF at this
 dsimp only at this
 rw[if_neg h4] at this
 exact this.symm
theorem RightP.kk {m:Mr} (R:RightP m):1≤m.k∧m.k≤7:=by
 have:=kinds R.k;omega
theorem RightP.no {m:Mr} (R:RightP m) (h:(ofF m.k).1.fl=false):m.s=ad0∧m.g=ad0:=by
 have h1:=congrArg Mr.s R.bare
 have h2:=congrArg Mr.g R.bare
 unfold bareF at h1 h2
 dsimp only at h1 h2
 rw[h] at h1 h2
 exact⟨h1.symm,h2.symm⟩
theorem byteK {k:Int} (h0:0≤k) (h7:k≤7):((UInt8.ofNat k.toNat).toNat:Int)=k:=by
 have:(UInt8.ofNat k.toNat).toNat=k.toNat:=by simp;omega
 omega
theorem takeG_good {rt sz:Mr→Bool} {l:List UInt8} {s:Int} (h:(takeG rt sz l s).e=0):rt (takeG rt sz l s).m=true∧sz (takeG rt sz l s).m=true∧mbytes (takeG rt sz l s).m=l.take (takeG rt sz l s).n∧(takeG rt sz l s).n≤l.length∧2≤(takeG rt sz l s).n∧(s=4∨s=16):=by
 unfold takeG at *
 split at h
 ·cases h
 ·rename_i hs
  rw[if_neg hs]
  have hs:s=4∨s=16:=by omega
  split at h
  ·rename_i x y r
   try dsimp only
   split at h
   ·cases h
   ·rename_i hl
    rw[if_neg hl]
    split at h
    ·cases h
    ·rename_i t ht
     split at h
     ·rename_i hc
      rw[if_pos hc];dsimp only
      simp only[Bool.and_eq_true] at hc
      obtain⟨c1,c2,c3⟩:=hc
      obtain⟨g1,g2⟩:=readM_good c1
      have kk:=readM_k (x.toNat:Int) t.2.1 t.2.2 t.1
      have ke:=readM_key (x.toNat:Int) t.2.1 t.2.2 t.1
      refine⟨c2,c3,?_,by rw[List.length_cons,List.length_cons];omega,by omega,hs⟩
      have hp:partsB (readM (x.toNat:Int) t.2.1 t.2.2 t.1).m (ofF (readM (x.toNat:Int) t.2.1 t.2.2 t.1).m.k).1=r.take y.toNat:=by
       rw[partsB_body,ke,kk,← g2]
       unfold keyOf at ht
       split at ht
       ·split at ht
        ·rename_i a b q hq
         injection ht with ht
         subst ht
         dsimp only at g1 ⊢
         obtain⟨p',q',c',hx⟩:∃ p' q' c',rdT q false b.toNat=(p',q',c'):=⟨_,_,_,rfl⟩
         rw[hx] at g1 ⊢
         dsimp only at g1 ⊢
         subst g1
         obtain⟨_,f2,_⟩:=rdT_good hx
         rw[hq,f2];rfl
        ·cases ht
       ·injection ht with ht
        subst ht;rfl
      have hk:UInt8.ofNat (readM (x.toNat:Int) t.2.1 t.2.2 t.1).m.k.toNat=x:=by
       rw[kk,Int.toNat_natCast,UInt8.ofNat_toNat]
      have hy:UInt8.ofNat (r.take y.toNat).length=y:=by
       rw[List.length_take,Nat.min_eq_left (by omega),UInt8.ofNat_toNat]
      unfold mbytes
      rw[hp,hk,hy,Nat.add_comm 2,List.take_succ_cons,List.take_succ_cons]
     ·cases h
  ·cases h
theorem takeG_back {rt sz:Mr→Bool} {m:Mr} {s:Int} {t:List UInt8} (h:okM m) (R:RightP m) (hrt:rt m=true) (hs:s=4∨s=16) (hl:(partsB m (ofF m.k).1).length≤255) (hkey:m.k=4→∃ a b r,m.key=a::b::r∧r.length=b.toNat) :
  takeG rt sz (mbytes m++t) s=if sz m=true then⟨m,(mbytes m).length,0⟩ else⟨mr0,0,4⟩:=by
 have hk:=R.kk
 have hX:=byteK (k:=m.k) (by omega) (by omega)
 have hb:=readM_back h R
 have hne:¬ (s≠4∧s≠16):=fun e=>hs.elim e.1 e.2
 unfold mbytes
 generalize hX':UInt8.ofNat m.k.toNat=X at *
 generalize hP:partsB m (ofF m.k).1=P at *
 have hY:(UInt8.ofNat P.length).toNat=P.length:=by simp;omega
 generalize UInt8.ofNat P.length=Y at *
 have hq:(P++t).take Y.toNat=P:=by rw[hY,List.take_left]
 rw[List.cons_append,List.cons_append]
 unfold takeG
 rw[if_neg hne]
 dsimp only
 rw[if_neg (by rw[List.length_append];omega),hq]
 have hko:keyOf X P=some (m.key,body m (ofF m.k).1,false):=by
  unfold keyOf
  rw[← hP,partsB_body]
  by_cases h4:m.k=4
  ·have hx4:X=4:=by
    apply UInt8.toNat_inj.1
    show X.toNat=4
    omega
   rw[if_pos hx4]
   obtain⟨a,b,r,e1,e2⟩:=hkey h4
   rw[e1,List.cons_append,List.cons_append]
   try dsimp only
   have:=rdT_app r (body m (ofF m.k).1)
   rw[e2] at this
   rw[this]
  ·have hx4:¬ X=4:=by
    intro e
    rw[e] at hX
    have:((4:UInt8).toNat:Int)=4:=rfl
    omega
   rw[if_neg hx4,R.key h4];rfl
 rw[hko]
 dsimp only
 rw[hX,hb]
 unfold okB
 dsimp only
 rw[hrt]
 cases sz m with
 | true=>
   simp only[Bool.and_self,Bool.not_false,List.length_nil,decide_true,if_true]
   congr 1
   rw[List.length_cons,List.length_cons];omega
 | false=>simp
theorem mbytes_len {m:Mr}:(mbytes m).length=2+(partsB m (ofF m.k).1).length:=by unfold mbytes;simp;omega
theorem ansF_good {key:List UInt8} (h:(ansF key).2=true):∃ u s,okM u∧RightP u∧(u.k=2∨u.k=3)∧key=mbytes u∧(s=4∨s=16)∧parseN key s=(u,0)∧(ansF key).1=u:=by
 unfold ansF at *
 split at h
 ·cases h
 ·rename_i h4
  rw[if_neg h4]
  have go:∀ s,goodA (parseN key s)=true→∃ u s,okM u∧RightP u∧(u.k=2∨u.k=3)∧key=mbytes u∧(s=4∨s=16)∧parseN key s=(u,0)∧(parseN key s).1=u:=fun s hs=>by
   obtain⟨z1,z2⟩:=goodA_z hs
   obtain⟨h1,h2,h3⟩:=prs_n z1
   obtain⟨g1,g2,g3,g4,g5,g6⟩:=takeG_good h1
   refine⟨(takeN key s).m,s,takeG_ok _ _ _ _,(rightP g1).1,?_,?_,g6,?_,h3⟩
   ·unfold parseN at z2;rw[h3] at z2;exact z2
   ·have:=g3
    unfold takeN at h2
    rw[h2,List.take_length] at this
    exact this.symm
   ·exact Prod.ext h3 z1
  unfold ansG at *
  split at h
  ·rename_i hg
   rw[if_pos hg]
   obtain⟨u,s,a1,a2,a3,a4,a5,a6,a7⟩:=go 4 hg
   exact⟨(parseN key 4).1,4,by
    obtain⟨z1,z2⟩:=goodA_z hg
    obtain⟨h1,h2,h3⟩:=prs_n z1
    obtain⟨g1,g2,g3,g4,g5,g6⟩:=takeG_good h1
    unfold parseN at *
    rw[h3]
    refine⟨takeG_ok _ _ _ _,(rightP g1).1,by rw[h3] at z2;exact z2,?_,.inl rfl,Prod.ext h3 z1,rfl⟩
    have:=g3
    unfold takeN at h2
    rw[h2,List.take_length] at this
    exact this.symm⟩
  ·split at h
   ·rename_i hn hg
    rw[if_neg hn,if_pos hg]
    exact⟨(parseN key 16).1,16,by
     obtain⟨z1,z2⟩:=goodA_z hg
     obtain⟨h1,h2,h3⟩:=prs_n z1
     obtain⟨g1,g2,g3,g4,g5,g6⟩:=takeG_good h1
     unfold parseN at *
     rw[h3]
     refine⟨takeG_ok _ _ _ _,(rightP g1).1,by rw[h3] at z2;exact z2,?_,.inr rfl,Prod.ext h3 z1,rfl⟩
     have:=g3
     unfold takeN at h2
     rw[h2,List.take_length] at this
     exact this.symm⟩
   ·cases h
theorem RightM.p {m:Mr} (R:RightM m):RightP m:=⟨R.k,R.bare,R.a0,R.a1,R.fr,R.fl⟩
theorem parts_len {m:Mr} (h:okM m) (R:RightM m):(partsB m (ofF m.k).1).length≤126:=by
 have h1:=partsB_len h (ofF m.k).1
 by_cases h4:m.k=4
 ·obtain⟨u,s,a1,a2,a3,a4,_⟩:=ansF_good (R.key h4)
  have h2:=partsB_len a1 (ofF u.k).1
  rw[a2.key (by omega)] at h2
  rw[a4,mbytes_len] at h1
  simp only[List.length_nil] at h2
  omega
 ·rw[R.p.key h4] at h1
  simp only[List.length_nil] at h1
  omega
theorem leaf_key {m:Mr} (R:RightM m) (h4:m.k=4):∃ a b r,m.key=a::b::r∧r.length=b.toNat:=by
 obtain⟨u,s,a1,a2,a3,a4,_⟩:=ansF_good (R.key h4)
 have h2:=partsB_len a1 (ofF u.k).1
 rw[a2.key (by omega)] at h2
 simp only[List.length_nil] at h2
 refine⟨_,_,_,a4,?_⟩
 simp;omega
theorem takeM_back {m:Mr} {s:Int} {t:List UInt8} (h:okM m) (hr:rightF m=true) (hs:s=4∨s=16):takeM (mbytes m++t) s=if szF s m=true then⟨m,(mbytes m).length,0⟩ else⟨mr0,0,4⟩:=by
 have R:=rightM hr
 have:=parts_len h R
 exact takeG_back h R.p hr hs (by omega) (leaf_key R)
theorem takeM_good {l:List UInt8} {s:Int} (h:(takeM l s).e=0):rightF (takeM l s).m=true∧mbytes (takeM l s).m=l.take (takeM l s).n∧(takeM l s).n≤l.length∧2≤(takeM l s).n∧(s=4∨s=16):=by
 obtain⟨g1,g2,g3,g4,g5,g6⟩:=takeG_good h
 exact⟨g1,g3,g4,g5,g6⟩
end Go.Proofs.YtdpeaefgbmkegaaGreatDoor
namespace Go.Proofs.YtdpeaefgbmkegaaGreatDoor
open Go Go.V
set_option maxRecDepth 10000
attribute [local irreducible] vBuild vCallV
end Go.Proofs.YtdpeaefgbmkegaaGreatDoor
