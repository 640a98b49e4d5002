/- The reference's unicast routes: Take of what Bytes wrote, rows of one. -/
import Derived.Test.YtdpeaefgbmkegaaGreatDoorKC
set_option maxHeartbeats 16000000
namespace Go.Proofs.YtdpeaefgbmkegaaGreatDoor
open Go Go.V
set_option maxRecDepth 10000
set_option linter.unusedVariables false
attribute [local irreducible] vBuild vCallV
section
variable {x:Nm} {a:Int}
theorem nm_sp (h:okN x) {s k:Int} {b:List UInt8} (hb:b.length=16):splice (nmU x a) 8 (pfx s b k)=nmU { x with s:=s,b:=b,k:=k } a:=by
 show splice (u8c x.rd++(pfx x.s x.b x.k++[.int .i64 a])) 8 (pfx s b k)=_
 refine spl_sk (o:=0) (by rw[u8c_len,h.1]) rfl ?_
 exact spl_hd (by simp[pfx,adr,u8c_len,h.2,hb])
theorem nm_sb (h:okN x) {j:Nat} {y:UInt8} (hj:j<16):splice (nmU x a) (9+j) [byt y]=nmU { x with b:=x.b.set j y } a:=by
 have e:∀ b:List UInt8,nmU { x with b:=b } a=(u8c x.rd++[.int .i64 x.s])++(u8c b++([.int .i64 x.k]++[.int .i64 a])):=fun b=>by
  show u8c x.rd++((PV.int .i64 x.s::u8c b++[.int .i64 x.k])++[.int .i64 a])=_
  simp
 rw[show nmU x a=nmU { x with b:=x.b } a from rfl,e,e]
 refine spl_sk (o:=j) (by simp[u8c_len,h.1]) rfl ?_
 unfold splice
 rw[List.take_append_of_le_length (by rw[u8c_len,h.2];omega),List.drop_append_of_le_length (by rw[u8c_len,h.2];show j+1≤16;omega)]
 rw[List.set_eq_take_append_cons_drop,if_pos (by rw[h.2];exact hj)]
 simp[u8c]
theorem b_over {s k:Int} {b:List UInt8} (hb:b.length=16) (hp:okP s b k=true):over (b.take ((k+7) / 8).toNat) z16=b:=by
 have hc:cutB b k=b:=by
  unfold okP at hp
  simp only[Bool.and_eq_true,beq_iff_eq] at hp
  exact hp.2
 have hk:0≤k:=by unfold okP at hp;simp only[Bool.and_eq_true,decide_eq_true_eq] at hp;exact hp.1.1.2
 refine List.ext_getElem? fun j=>?_
 unfold over
 by_cases hj:j<((k+7) / 8).toNat
 ·by_cases h16:j<16
  ·rw[List.getElem?_append_left (by rw[List.length_take,hb];omega),List.getElem?_take_of_lt hj]
  ·rw[List.getElem?_eq_none (by simp only[List.length_append,List.length_take,List.length_drop,hb];show _+(16 - _)≤j;omega),List.getElem?_eq_none (by omega)]
 ·by_cases h16:j<16
  ·have hg:=cutB_get 0 b k j
   obtain⟨y,hy⟩:∃ y,b[j]?=some y:=⟨_,List.getElem?_eq_getElem (by omega)⟩
   rw[hc,hy] at hg
   have hg:y=y &&& maskB (k - 8 * (j:Int)):=Option.some.inj hg
   have hm:maskB (k - 8 * (j:Int))=0:=by unfold maskB;rw[if_pos (by omega)]
   rw[hm] at hg
   have y0:y=0:=by rw[hg];simp
   rw[List.getElem?_append_right (by rw[List.length_take,hb];omega),List.length_take,hb,List.getElem?_drop,hy,y0]
   have:min ((k+7) / 8).toNat 16+(j - min ((k+7) / 8).toNat 16)=j:=by omega
   rw[this]
   have hz:∀ i:Fin 16,z16[i.1]?=some 0:=by decide
   exact hz ⟨j,h16⟩
  ·rw[List.getElem?_eq_none (by simp only[List.length_append,List.length_take,List.length_drop,hb];show _+(16 - _)≤j;omega),List.getElem?_eq_none (by omega)]
theorem over_set {q:List UInt8} {j:Nat} {y:UInt8} (hy:q[j]?=some y) (hj:j<16):(over (q.take j) z16).set j y=over (q.take (j+1)) z16:=by
 rw[snocT hy]
 have hli:(q.take j).length=j:=by rw[List.length_take];have:=(List.getElem?_eq_some_iff.1 hy).1;omega
 unfold over
 rw[List.set_append_right _ _ (by omega),hli,Nat.sub_self,List.length_append,hli,List.length_singleton]
 have hz:z16.drop j=0::z16.drop (j+1):=by
  rw[List.drop_eq_getElem_cons (show j<z16.length by exact hj)]
  congr 1
  have:∀ i:Fin 16,z16[i.1]'(by exact i.2)=0:=by decide
  exact this ⟨j,hj⟩
 rw[hz,List.set_cons_zero,List.append_assoc]
 rfl
theorem uR8Bytes0 (h:okN x) (ho:okR x a=false):U Tryz.prog 228 [.agg (nmU x a)] (.tup [.sl [],.int .i64 1]):=by
 intro σ Post hk
 have sc:=nmU_sc (x:=x) (a:=a)
 have ln:=nmU_len (a:=a) h
 have c0:=nmU_all (a:=a) h
 have ur:=uR8Right (a:=a) h
 rw[ho] at ur
 refine T228 fun hB hA=>?_
 refine W ?_
 refine cu ur ?_
 refine W ?_
 exact hk
open D in
def vb230_11:VC:=
 Rg [m 94 (Ls 27 9),m 95 (.call false 228 [(t 94)]),Mv 93 95,m 96 (.extract 0 (t 93)),m 97 (.extract 1 (t 93)),Mv 14 96,Mv 15 97]<|
 .seq (.seq (.dreg [(Mv 98 12,[]),(m 99 (.bin .neq .num (t 98) (.c q)),[0]),(Mv 100 99,[1]),(Gf 101 100 (.mov (t 15)),[2]),(Gf 102 100 (.bin .neq .num (t 101) (.c q)),[3,2]),(m 103 (.pick (t 100) Bt (t 102)),[2,4]),(Mv 104 103,[5,2]),(Gf 105 104 (.mov (t 14)),[6]),(Gf 106 104 (.b2s (t 105)),[7,6]),(Gf 107 104 (.mov (t 0)),[6]),(Gf 108 104 (.mov (t 7)),[6]),(Gf 109 104 (.slice 1 (t 107) none (some (t 108))),[9,10,6]),(Gf 110 104 (.b2s (t 109)),[11,6]),(Gf 111 104 (.bin .neq .num (t 106) (t 110)),[8,12,6]),(m 112 (.pick (t 104) Bt (t 111)),[6,13])] [(2,0),(2,1),(2,2),(2,3),(2,4),(2,5),(2,6),(2,7),(1,8),(2,9),(2,10),(1,11),(1,12),(2,13),(2,14)] [0,1,3,7,15,31,63,127,255,127,127,1663,3711,8191,16383])<|
 .cond (t 112) (Rg [m 113 (.build [o,o,o,o,o,o,o,o,q,o,o,o,o,o,o,o,o,o,o,o,o,o,o,o,o,q,q] []),e (.store 27 (t 4) (t 113)),m 5 (.mov (.c q)),m 6 (.mov (Ci 4))]<|
 .ret) (.skip))<|
 Rg [m 114 (Ls 27 9),Mv 115 7,e (.store 27 (t 4) (t 114)),Mv 5 115,m 6 (.mov (.c q))]<|
 .ret
open D in
def vb230_10:VC:=
 .seq (Rg [m 13 (.mov (Ci 12))]<|
 .block 0<|.loop<|.seq (Rg [Mv 78 13,Mv 79 7,m 80 (.bin .lss .num (t 78) (t 79))]<|
 .cond (t 80) (.skip) (.exit 0))<|
 .seq (.block 1<|.region [Mv 83 13,m 84 (.bin .sub .num (t 83) (Ci 12)),Mv 85 0,Mv 86 13,m 87 (.index 1 (t 85) (t 86)),m 88 (Ld 87),m 89 (Fl 8 9),m 90 (Fl 0 89),m 91 (Fl 1 90),m 92 (.indexArr 16 1 (t 91) (t 84)),e (.store 1 (t 92) (t 88))])<|
 .region [Mv 81 13,m 82 (.bin .add .num (t 81) (Ci 1)),Mv 13 82])<|
 vb230_11
open D in
theorem vb230_eq:vb230 =
 (Rg [m 4 (.alloc 0 [o,o,o,o,o,o,o,o,q,o,o,o,o,o,o,o,o,o,o,o,o,o,o,o,o,q,q]),m 5 (.mov (.c q)),m 6 (.mov (.c q))]<|
 .seq (Rg [Mv 16 1,m 17 (.bin .neq .num (t 16) (Ci 4)),Mv 18 17,Gt 19 18 (.mov (t 1)),Gt 20 18 (.bin .neq .num (t 19) (Ci 16)),m 21 (.pick (t 18) (t 20) Bf)]<|
 .cond (t 21) (Rg [m 22 (.build [o,o,o,o,o,o,o,o,q,o,o,o,o,o,o,o,o,o,o,o,o,o,o,o,o,q,q] []),e (.store 27 (t 4) (t 22)),m 5 (.mov (.c q)),m 6 (.mov (Ci 1))]<|
 .ret) (.skip))<|
 .seq (Rg [Mv 23 0,m 24 (.len (t 23)),m 25 (.bin .eql .num (t 24) (.c q)),Mv 26 25,Gf 27 26 (.mov (t 0)),Gf 28 26 (.len (t 27)),Gf 29 26 (.bin .sub .num (t 28) (Ci 1)),Gf 30 26 (.mov (t 0)),Gf 31 26 (.index 1 (t 30) (.c q)),Gf 32 26 (Ld 31),Gf 33 26 (.convInt .i64 (t 32)),Gf 34 26 (.bin .add .num (t 33) (Ci 7)),Gf 35 26 (.bin .quo .num (t 34) (Ci 8)),Gf 36 26 (.bin .lss .num (t 29) (t 35)),m 37 (.pick (t 26) Bt (t 36))]<|
 .cond (t 37) (Rg [m 38 (.build [o,o,o,o,o,o,o,o,q,o,o,o,o,o,o,o,o,o,o,o,o,o,o,o,o,q,q] []),e (.store 27 (t 4) (t 38)),m 5 (.mov (.c q)),m 6 (.mov (Ci 3))]<|
 .ret) (.skip))<|
 Rg [Mv 39 0,m 40 (.index 1 (t 39) (.c q)),m 41 (Ld 40),m 42 (.convInt .i64 (t 41)),m 43 (.bin .add .num (t 42) (Ci 7)),m 44 (.bin .quo .num (t 43) (Ci 8)),m 45 (.bin .add .num (Ci 1) (t 44)),Mv 7 45]<|
 Rg [Mv 46 0,m 47 (.index 1 (t 46) (.c q)),m 48 (Ld 47),m 49 (.convInt .i64 (t 48)),m 50 (.bin .sub .num (t 49) (Ci 88)),Mv 8 50]<|
 .seq (Rg [Mv 51 8,m 52 (.bin .lss .num (t 51) (.c q)),Mv 53 52,Gf 54 53 (.mov (t 8)),Gf 55 53 (.mov (t 1)),Gf 56 53 (.bin .mul .num (Ci 8) (t 55)),Gf 57 53 (.bin .gtr .num (t 54) (t 56)),m 58 (.pick (t 53) Bt (t 57))]<|
 .cond (t 58) (Rg [m 59 (.build [o,o,o,o,o,o,o,o,q,o,o,o,o,o,o,o,o,o,o,o,o,o,o,o,o,q,q] []),e (.store 27 (t 4) (t 59)),m 5 (.mov (.c q)),m 6 (.mov (Ci 4))]<|
 .ret) (.skip))<|
 Rg [Mv 60 0,m 61 (.slice 1 (t 60) (some (Ci 4)) (some (Ci 12))),m 62 (.call false 150 [(t 61)]),m 63 (.build [o,o,o,o,o,o,o,o,q,o,o,o,o,o,o,o,o,o,o,o,o,o,o,o,o,q,q] [(0,8,(t 62))]),m 9 (.alloc 1 [o,o,o,o,o,o,o,o,q,o,o,o,o,o,o,o,o,o,o,o,o,o,o,o,o,q,q]),e (.store 27 (t 9) (t 63))]<|
 Rg [Mv 65 0,m 66 (.slice 1 (t 65) (some (Ci 1)) (some (Ci 4))),m 67 (.call false 255 [(t 66)]),Mv 64 67,m 68 (.extract 0 (t 64)),m 69 (.extract 1 (t 64)),m 70 (.extract 2 (t 64)),Mv 10 68,Mv 11 69,Mv 12 70]<|
 Rg [Mv 71 10,m 72 (Fl 26 9),e (.store 1 (t 72) (t 71))]<|
 Rg [Mv 73 1,m 74 (.build [q,o,o,o,o,o,o,o,o,o,o,o,o,o,o,o,o] [(0,1,(t 73))]),Mv 75 8,m 76 (.build [q,o,o,o,o,o,o,o,o,o,o,o,o,o,o,o,o,q] [(0,17,(t 74)),(17,1,(t 75))]),m 77 (Fl 8 9),e (.store 18 (t 77) (t 76))]<|
 vb230_10):=rfl
theorem tk11 {σ:VHeap} {Post:KP} {E:Env} {s:Int} {n q:Nat} {l:List UInt8} (oj:okN { x with s:=s }) (hub:ubN { x with s:=s } n=l) (hlen:l.length=12+q) (hq:q≤16) (hB:belH σ.length σ) (e0:E 0=.sl (bsl l)) (e4:E 4=.ptr (σ.length+0) 1 0) (e7:E 7=.int .i64 (1+((11+q:Nat):Int))) (e9:E 9=.ptr (σ.length+1) 1 0) (e12:E 12=.int .i64 0)
  (hk:Post (.tup [.agg (nmU (if okR { x with s:=s } n=true then { x with s:=s } else nm0) (if okR { x with s:=s } n=true then n else 0)),.int .i64 (if okR { x with s:=s } n=true then(l.length:Int) else 0),.int .i64 (if okR { x with s:=s } n=true then 0 else 4)]) σ) :
  vrun Tryz.prog σ.length vb230_11 E (σ++[(1,.box [D.o,D.o,D.o,D.o,D.o,D.o,D.o,D.o,.int .i64 0,D.o,D.o,D.o,D.o,D.o,D.o,D.o,D.o,D.o,D.o,D.o,D.o,D.o,D.o,D.o,D.o,.int .i64 0,.int .i64 0] false),(1,.box (nmU { x with s:=s } n) false)]) (vend vf230 (TrimP σ.length Post)):=by
 have bl:=bsl_len l
 have lj:=nmU_len (a:=(n:Int)) oj
 have sj:=nmU_sc (x:={ x with s:=s }) (a:=(n:Int))
 have cj:=nmU_all (a:=(n:Int)) oj
 have dj:splice [D.o,D.o,D.o,D.o,D.o,D.o,D.o,D.o,.int .i64 0,D.o,D.o,D.o,D.o,D.o,D.o,D.o,D.o,D.o,D.o,D.o,D.o,D.o,D.o,D.o,D.o,.int .i64 0,.int .i64 0] 0 (nmU { x with s:=s } n)=nmU { x with s:=s } n:=splH0 (by rw[lj];rfl)
 have ln0:=nmU_len (x:=nm0) (a:=0) ⟨rfl,rfl⟩
 have sn0:=nmU_sc (x:=nm0) (a:=0)
 have cn0:=nmU_all (x:=nm0) (a:=0) ⟨rfl,rfl⟩
 have dn0:splice [D.o,D.o,D.o,D.o,D.o,D.o,D.o,D.o,.int .i64 0,D.o,D.o,D.o,D.o,D.o,D.o,D.o,D.o,D.o,D.o,D.o,D.o,D.o,D.o,D.o,D.o,.int .i64 0,.int .i64 0] 0 [D.o,D.o,D.o,D.o,D.o,D.o,D.o,D.o,.int .i64 0,D.o,D.o,D.o,D.o,D.o,D.o,D.o,D.o,D.o,D.o,D.o,D.o,D.o,D.o,D.o,D.o,.int .i64 0,.int .i64 0]=nmU nm0 0:=rfl
 unfold vb230_11
 cases ok2:okR { x with s:=s } n with
 | true=>
   rw[ok2,if_pos rfl,if_pos rfl,if_pos rfl,if_pos rfl] at hk
   have u8:=uR8Bytes oj ok2
   rw[hub] at u8
   have sb:sbin .neq l (List.take (1+((11+q:Nat):Int)).toNat l)=some (.bool false):=by
    rw[List.take_of_length_le (by omega),sb_neq];simp
   rw[show ((l.length:Nat):Int)=1+((11+q:Nat):Int) by omega] at hk
   refine W ?_
   refine cu u8 ?_
   refine W ?_
   exact hk
 | false=>
   rw[ok2,if_neg (by decide),if_neg (by decide),if_neg (by decide),if_neg (by decide)] at hk
   have u8:=uR8Bytes0 oj ok2
   refine W ?_
   refine cu u8 ?_
   refine W ?_
   exact hk
theorem tk10 {σ:VHeap} {Post:KP} {E:Env} {s:Int} {n k q:Nat} {l:List UInt8} (h:okN x) (hq:q≤16) (hov:over (x.b.take q) z16=x.b) (hkk:x.k=k) (hub:ubN { x with s:=s } n=l) (hlen:l.length=12+q) (hgj:∀ j:Nat,j<q→l[12+j]?=x.b[j]?) (hB:belH σ.length σ) (e0:E 0=.sl (bsl l)) (e4:E 4=.ptr (σ.length+0) 1 0) (e7:E 7=.int .i64 (1+((11+q:Nat):Int))) (e9:E 9=.ptr (σ.length+1) 1 0) (e12:E 12=.int .i64 0)
  (hk:Post (.tup [.agg (nmU (if okR { x with s:=s } n=true then { x with s:=s } else nm0) (if okR { x with s:=s } n=true then n else 0)),.int .i64 (if okR { x with s:=s } n=true then(l.length:Int) else 0),.int .i64 (if okR { x with s:=s } n=true then 0 else 4)]) σ) :
  vrun Tryz.prog σ.length vb230_10 E (σ++[(1,.box [D.o,D.o,D.o,D.o,D.o,D.o,D.o,D.o,.int .i64 0,D.o,D.o,D.o,D.o,D.o,D.o,D.o,D.o,D.o,D.o,D.o,D.o,D.o,D.o,D.o,D.o,.int .i64 0,.int .i64 0] false),(1,.box (nmU ⟨x.rd,s,over (x.b.take 0) z16,k⟩ n) false)]) (vend vf230 (TrimP σ.length Post)):=by
 have bl:=bsl_len l
 unfold vb230_10
 refine cutp (fun E h=>E 0=.sl (bsl l)∧E 4=.ptr (σ.length+0) 1 0∧E 7=.int .i64 (1+((11+q:Nat):Int))∧E 9=.ptr (σ.length+1) 1 0∧E 12=.int .i64 0∧h=σ++[(1,VObj.box [D.o,D.o,D.o,D.o,D.o,D.o,D.o,D.o,.int .i64 0,D.o,D.o,D.o,D.o,D.o,D.o,D.o,D.o,D.o,D.o,D.o,D.o,D.o,D.o,D.o,D.o,.int .i64 0,.int .i64 0] false),(1,.box (nmU { x with s:=s } n) false)]) ?_ ?_
 ·refine W ?_
  refine lp (fun jj e h=>∃ j:Nat,j+jj=q∧e 13=.int .i64 ((12+j:Nat):Int)∧h=σ++[(1,VObj.box [D.o,D.o,D.o,D.o,D.o,D.o,D.o,D.o,.int .i64 0,D.o,D.o,D.o,D.o,D.o,D.o,D.o,D.o,D.o,D.o,D.o,D.o,D.o,D.o,D.o,D.o,.int .i64 0,.int .i64 0] false),(1,.box (nmU ⟨x.rd,s,over (x.b.take j) z16,k⟩ n) false)]) q ⟨0,by omega,rfl,rfl⟩ ?_
  rintro jj u _ ⟨j,hj,e13,rfl⟩
  have oj:okN ⟨x.rd,s,over (x.b.take j) z16,k⟩:=⟨h.1,over_len (by rw[List.length_take];show _≤16;omega)⟩
  have lj:=nmU_len (a:=(n:Int)) oj
  have sj:=nmU_sc (x:=⟨x.rd,s,over (x.b.take j) z16,k⟩) (a:=(n:Int))
  have l16:=h.2
  by_cases hjq:j<q
  ·obtain⟨y,hy⟩:∃ y,x.b[j]?=some y:=⟨_,List.getElem?_eq_getElem (by omega)⟩
   have hgy:(bsl l)[((12+j:Nat):Int).toNat]?=some [byt y]:=by
    rw[Int.toNat_natCast];unfold bsl;rw[List.getElem?_map,hgj j hjq,hy];rfl
   have hs2:=nm_sb (a:=(n:Int)) oj (j:=j) (y:=y) (by omega)
   rw[over_set hy (by omega)] at hs2
   have hs3:splice (nmU ⟨x.rd,s,over (x.b.take j) z16,k⟩ n) (9+(((12+j:Nat):Int) - 12).toNat) [PV.int .u8 (y.toNat:Int)]=nmU ⟨x.rd,s,over (x.b.take (j+1)) z16,k⟩ n:=by
    rw[show (((12+j:Nat):Int) - 12).toNat=j by omega];exact hs2
   refine W ?_
   exact⟨jj - 1,by omega,j+1,by omega,by show PV.int _ _=PV.int _ _;congr 1,rfl⟩
  ·have ej:j=q:=by omega
   subst ej
   rw[hov]
   have hx':(⟨x.rd,s,x.b,(k:Int)⟩:Nm)={ x with s:=s }:=by rw[← hkk]
   rw[hx']
   refine W ?_
   exact⟨e0,e4,e7,e9,e12,rfl⟩
 rintro u _ ⟨e0,e4,e7,e9,e12,rfl⟩
 exact tk11 h hub hlen hq hB e0 e4 e7 e9 e12 hk
theorem uR8Take {s:Int} (h:okN x) (ho:okR x a=true) (hs:s=4∨s=16):U Tryz.prog 230 [.sl (bsl (ubN x a)),.int .i64 s] (.tup [.agg (nmU (if x.k≤8 * s∧okR { x with s:=s } a=true then { x with s:=s } else nm0) (if x.k≤8 * s∧okR { x with s:=s } a=true then a else 0)),.int .i64 (if x.k≤8 * s∧okR { x with s:=s } a=true then((ubN x a).length:Int) else 0),.int .i64 (if x.k≤8 * s∧okR { x with s:=s } a=true then 0 else 4)]):=by
 intro σ Post hk
 have hp:okP x.s x.b x.k=true∧0≤a∧a≤1048575:=by
  have e:okR x a=(okP x.s x.b x.k&&decide (0≤a)&&decide (a≤1048575)):=rfl
  rw[e] at ho;simp only[Bool.and_eq_true,decide_eq_true_eq] at ho;exact⟨ho.1.1,ho.1.2,ho.2⟩
 have hp2:(x.s=4∨x.s=16)∧0≤x.k∧x.k≤8 * x.s:=by
  have:=hp.1
  unfold okP okA at this
  simp at this;omega
 have hov:=b_over h.2 hp.1
 obtain⟨n,rfl⟩:∃ n:Nat,a=n:=⟨a.toNat,by omega⟩
 obtain⟨k,hkk⟩:∃ k:Nat,x.k=k:=⟨x.k.toNat,by omega⟩
 rw[show ((x.k+7) / 8).toNat=(k+7) / 8 by omega] at hov
 have l8:=h.1
 have l16:=h.2
 have l3:=be_len (n * 16+1) 3
 have hcons:ubN x n=UInt8.ofNat (88+k)::(be (n * 16+1) 3++(x.rd++x.b.take ((k+7) / 8))):=by
  show UInt8.ofNat (88+x.k).toNat::(be ((n:Int).toNat * 16+1) 3++x.rd++x.b.take ((x.k+7) / 8).toNat)=_
  rw[show ((x.k+7) / 8).toNat=(k+7) / 8 by omega,Int.toNat_natCast,show (88+x.k).toNat=88+k by omega,List.append_assoc]
 have hq:(k+7) / 8≤16:=by omega
 have hlen:(ubN x n).length=12+(k+7) / 8:=by
  rw[hcons];simp only[List.length_cons,List.length_append,l3,l8,List.length_take,l16];omega
 have d1:List.take (Int.toNat 4 - Int.toNat 1) (List.drop (Int.toNat 1) (ubN x n))=be (n * 16+1) 3:=by
  rw[hcons]
  show List.take 3 (be (n * 16+1) 3++_)=_
  exact List.take_left' l3
 have d4:List.take (Int.toNat 12 - Int.toNat 4) (List.drop (Int.toNat 4) (ubN x n))=x.rd:=by
  rw[hcons]
  show List.take 8 (List.drop 3 (be (n * 16+1) 3++_))=_
  rw[List.drop_left' l3,List.take_left' l8]
 have hg0:(bsl (ubN x n))[(0:Int).toNat]?=some [byt (UInt8.ofNat (88+k))]:=by rw[hcons];rfl
 have hgj:∀ j:Nat,j<(k+7) / 8→(ubN x n)[12+j]?=x.b[j]?:=fun j hj=>by
  rw[hcons,show 12+j=(11+j)+1 by omega,List.getElem?_cons_succ,List.getElem?_append_right (by omega),l3,List.getElem?_append_right (by omega),l8,show 11+j - 3 - 8=j by omega,List.getElem?_take_of_lt hj]
 have hb0:((UInt8.ofNat (88+k)).toNat:Int)=88+(k:Int):=by
  rw[show (UInt8.ofNat (88+k)).toNat=(88+k) % 256 by simp];omega
 have u3:U Tryz.prog 150 [.sl (List.map (fun b=>[byt b]) (List.take (Int.toNat 12 - Int.toNat 4) (List.drop (Int.toNat 4) (ubN x n))))] (.agg (u8c x.rd)):=by
  rw[d4]
  have:=uR3Of (l:=x.rd) (by omega)
  have eo:over x.rd z8=x.rd:=by unfold over;rw[List.drop_of_length_le (by show 8≤_;omega),List.append_nil]
  rw[eo] at this;exact this
 have u5:U Tryz.prog 255 [.sl (List.map (fun b=>[byt b]) (List.take (Int.toNat 4 - Int.toNat 1) (List.drop (Int.toNat 1) (ubN x n))))] (.tup [.int .i64 (n:Int),.bool true,.int .i64 0]):=by
  rw[d1];exact uR5Read (by omega)
 have hub:∀ s',ubN { x with s:=s' } n=ubN x n:=fun _=>rfl
 have dall:List.map (fun b=>[byt b]) (List.take (ubN x n).length (ubN x n))=bsl (ubN x n):=by rw[List.take_length]
 have bl:=bsl_len (ubN x n)
 clear d1 d4 hcons
 generalize hL:ubN x n=l at *
 generalize UInt8.ofNat (88+k)=c at *
 have hc2:=c.toNat_lt
 have eqq:ibin .quo .i64 ((c.toNat:Int)+7) .i64 8=some (.int .i64 ((11+(k+7) / 8:Nat):Int)):=by
  have e:IntKind.i64.wrap (((c.toNat:Int)+7).tdiv 8)=((11+(k+7) / 8:Nat):Int):=by
   rw[Int.tdiv_eq_ediv_of_nonneg (by omega),w_i64 (by omega) (by omega)];omega
  rw[show ibin .quo .i64 ((c.toNat:Int)+7) .i64 8=some (.int .i64 (IntKind.i64.wrap (((c.toNat:Int)+7).tdiv 8))) from rfl,e]
 have o0:okN ⟨x.rd,0,z16,0⟩:=⟨h.1,rfl⟩
 have f0:splice [D.o,D.o,D.o,D.o,D.o,D.o,D.o,D.o,.int .i64 0,D.o,D.o,D.o,D.o,D.o,D.o,D.o,D.o,D.o,D.o,D.o,D.o,D.o,D.o,D.o,D.o,.int .i64 0,.int .i64 0] 0 (u8c x.rd)=nmU ⟨x.rd,0,z16,0⟩ 0:=by
  show splice ([D.o,D.o,D.o,D.o,D.o,D.o,D.o,D.o]++_) 0 (u8c x.rd)=_
  exact spl_hd (by rw[u8c_len,l8];rfl)
 have lz:(nmU ⟨x.rd,0,z16,0⟩ 0).length=27:=nmU_len o0
 have sz:(nmU ⟨x.rd,0,z16,0⟩ 0).all scalar=true:=nmU_sc
 have f1:splice [D.o,D.o,D.o,D.o,D.o,D.o,D.o,D.o,.int .i64 0,D.o,D.o,D.o,D.o,D.o,D.o,D.o,D.o,D.o,D.o,D.o,D.o,D.o,D.o,D.o,D.o,.int .i64 0,.int .i64 0] 0 (nmU ⟨x.rd,0,z16,0⟩ 0)=nmU ⟨x.rd,0,z16,0⟩ 0:=splH0 (by rw[lz];rfl)
 have f2:splice (nmU ⟨x.rd,0,z16,0⟩ 0) 26 [.int .i64 (n:Int)]=nmU ⟨x.rd,0,z16,0⟩ n:=spl_label o0
 have lz2:(nmU ⟨x.rd,0,z16,0⟩ n).length=27:=nmU_len o0
 have f3:splice [PV.int .i64 0,D.o,D.o,D.o,D.o,D.o,D.o,D.o,D.o,D.o,D.o,D.o,D.o,D.o,D.o,D.o,D.o] 0 [.int .i64 s]=adr s z16:=rfl
 have f4:splice [PV.int .i64 0,D.o,D.o,D.o,D.o,D.o,D.o,D.o,D.o,D.o,D.o,D.o,D.o,D.o,D.o,D.o,D.o,.int .i64 0] 0 (adr s z16)=adr s z16++[.int .i64 0]:=by
  show splice ([PV.int .i64 0,D.o,D.o,D.o,D.o,D.o,D.o,D.o,D.o,D.o,D.o,D.o,D.o,D.o,D.o,D.o,D.o]++[.int .i64 0]) 0 (adr s z16)=_
  exact spl_hd rfl
 have f5:splice (adr s z16++[PV.int .i64 0]) 17 [.int .i64 ((c.toNat:Int) - 88)]=pfx s z16 k:=by
  rw[hb0,show 88+(k:Int) - 88=k by omega];rfl
 have f6:splice (nmU ⟨x.rd,0,z16,0⟩ n) 8 (pfx s z16 k)=nmU ⟨x.rd,s,over (x.b.take 0) z16,k⟩ n:=nm_sp o0 rfl
 have lr8:(u8c x.rd).length=8:=by rw[u8c_len,l8]
 have sr8:=u8c_sc x.rd
 have la:(adr s z16).length=17:=rfl
 have sa:=adr_sc s z16
 have la2:(adr s z16++[PV.int .i64 0]).length=18:=rfl
 have lpf:(pfx s z16 k).length=18:=rfl
 have spf:(pfx s z16 k).all scalar=true:=by show (adr s z16++[PV.int .i64 k]).all scalar=true;rw[List.all_append,adr_sc];rfl
 have ln0:=nmU_len (x:=nm0) (a:=0) ⟨rfl,rfl⟩
 have sn0:=nmU_sc (x:=nm0) (a:=0)
 have cn0:=nmU_all (x:=nm0) (a:=0) ⟨rfl,rfl⟩
 have dn0:splice [D.o,D.o,D.o,D.o,D.o,D.o,D.o,D.o,.int .i64 0,D.o,D.o,D.o,D.o,D.o,D.o,D.o,D.o,D.o,D.o,D.o,D.o,D.o,D.o,D.o,D.o,.int .i64 0,.int .i64 0] 0 [D.o,D.o,D.o,D.o,D.o,D.o,D.o,D.o,.int .i64 0,D.o,D.o,D.o,D.o,D.o,D.o,D.o,D.o,D.o,D.o,D.o,D.o,D.o,D.o,D.o,D.o,.int .i64 0,.int .i64 0]=nmU nm0 0:=rfl
 refine T230 fun hB hA=>?_
 rw[vb230_eq]
 by_cases h8:x.k≤8 * s
 ·have k8:¬ 8 * s<(c.toNat:Int) - 88:=by omega
  have kn:¬ (c.toNat:Int) - 88<0:=by omega
  rcases hs with hs|hs
  all_goals
   refine W ?_
   refine cu u3 ?_
   refine W ?_
   refine cu u5 ?_
   refine W ?_
   exact tk10 h hq hov hkk (hub s) hlen hgj hB rfl rfl rfl rfl rfl (by simpa only[h8,true_and] using hk)
 ·have k8:8 * s<(c.toNat:Int) - 88:=by omega
  have kn:¬ (c.toNat:Int) - 88<0:=by omega
  rw[if_neg (fun e=>h8 e.1),if_neg (fun e=>h8 e.1),if_neg (fun e=>h8 e.1),if_neg (fun e=>h8 e.1)] at hk
  rcases hs with hs|hs
  all_goals first
   | (exfalso;omega)
   | (refine W ?_;exact hk)
end
end Go.Proofs.YtdpeaefgbmkegaaGreatDoor
