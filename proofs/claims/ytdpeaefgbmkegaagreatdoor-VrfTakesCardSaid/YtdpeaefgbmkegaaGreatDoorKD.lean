/- The reference's unicast routes: rows of one. -/
import Derived.Test.YtdpeaefgbmkegaaGreatDoorS15
import Derived.Test.YtdpeaefgbmkegaaGreatDoorKA
import Derived.Test.YtdpeaefgbmkegaaGreatDoorFAD
import Derived.Test.YtdpeaefgbmkegaaGreatDoorHW
set_option maxHeartbeats 16000000
namespace Go.Proofs.YtdpeaefgbmkegaaGreatDoor
open Go Go.V
set_option maxRecDepth 10000
set_option linter.unusedVariables false
attribute [local irreducible] vBuild vCallV
section
variable {x:Nm} {a:Int}
theorem ubN_len2 (h:okN x) (ho:okR x a=true):(ubN x a).length≤28∧12≤(ubN x a).length:=by
 rw[ubN_len h];omega
theorem uR8Row1 (h:okN x):U Tryz.prog 182 [.sl [nmU x a]] (.tup [.sl (bsl (if okR x a=true then ubN x a else[])),.int .i64 (if okR x a=true then 0 else 1)]):=by
 intro σ Post hk
 have sc:=nmU_sc (x:=x) (a:=a)
 have ml:=nmU_len (a:=a) h
 have c0:=nmU_all (a:=a) h
 have b1:[nmU x a].length=1:=rfl
 have hg:[nmU x a][(0:Int).toNat]?=some (nmU x a):=rfl
 refine T182 fun hB hA=>?_
 refine W ?_
 cases hr:okR x a with
 | false=>
   rw[hr,if_neg (by decide),if_neg (by decide)] at hk
   have ub:=uR8Bytes0 h hr
   refine lp (fun k e h=>e 5=.int .i64 0∧e 4=.row (σ.length+1) 1∧h=σ++[(1,VObj.row 1 [] false),(1,.row 1 [] false),(0,.dead)]) 0 ⟨rfl,rfl,rfl⟩ ?_
   rintro k u _ ⟨e5,e4,rfl⟩
   refine W ?_
   refine cu ub ?_
   refine W ?_
   exact hk
 | true=>
   rw[hr,if_pos rfl,if_pos rfl] at hk
   have ub:=uR8Bytes h hr
   have ln:=ubN_len2 h hr
   have bl:=bsl_len (ubN x a)
   refine lp (fun k e h=>(k=1∧e 5=.int .i64 0∧e 4=.row (σ.length+1) 1∧h=σ++[(1,VObj.row 1 [] false),(1,.row 1 [] false),(0,.dead)])∨(k=0∧e 5=.int .i64 1∧e 4=.row (σ.length+1) 2∧h=σ++[(1,VObj.row 1 [] false),(2,.row 1 (bsl (ubN x a)) false),(0,.dead)])) 1 (.inl ⟨rfl,rfl,rfl,rfl⟩) ?_
   rintro k u _ (⟨rfl,e5,e4,rfl⟩|⟨rfl,e5,e4,rfl⟩)
   ·refine W ?_
    refine cu ub ?_
    refine W ?_
    exact⟨0,by omega,.inr ⟨rfl,rfl,rfl,rfl⟩⟩
   ·refine W ?_
    exact hk
theorem uR8Read1 {s:Int} (h:okN x) (ho:okR x a=true) (hs:s=4∨s=16):U Tryz.prog 185 [.sl (bsl (ubN x a)),.int .i64 s] (.tup [.sl (if x.k≤8 * s∧okR { x with s:=s } a=true then[nmU { x with s:=s } a] else[]),.int .i64 (if x.k≤8 * s∧okR { x with s:=s } a=true then 0 else 4)]):=by
 intro σ Post hk
 have ln:=ubN_len2 h ho
 have bl:=bsl_len (ubN x a)
 have uT:=uR8Take h ho hs
 have h':okN { x with s:=s }:=h
 have sc:=nmU_sc (x:={ x with s:=s }) (a:=a)
 have ml:=nmU_len (a:=a) h'
 have c0:=nmU_all (a:=a) h'
 have sa:splice [D.o,D.o,D.o,D.o,D.o,D.o,D.o,D.o,.int .i64 0,D.o,D.o,D.o,D.o,D.o,D.o,D.o,D.o,D.o,D.o,D.o,D.o,D.o,D.o,D.o,D.o,.int .i64 0,.int .i64 0] 0 (nmU { x with s:=s } a)=nmU { x with s:=s } a:=splH0 (by rw[ml];rfl)
 have h0:okN nm0:=⟨rfl,rfl⟩
 have sc0:=nmU_sc (x:=nm0) (a:=0)
 have ml0:=nmU_len (a:=0) h0
 have c00:=nmU_all (a:=0) h0
 have sa0:splice [D.o,D.o,D.o,D.o,D.o,D.o,D.o,D.o,.int .i64 0,D.o,D.o,D.o,D.o,D.o,D.o,D.o,D.o,D.o,D.o,D.o,D.o,D.o,D.o,D.o,D.o,.int .i64 0,.int .i64 0] 0 (nmU nm0 0)=nmU nm0 0:=splH0 (by rw[ml0];rfl)
 have rk:RowOk 27 [nmU { x with s:=s } a]:=fun e he=>by rw[List.mem_singleton.1 he];exact⟨ml,sc⟩
 have dr:List.map (fun b=>[byt b]) (List.drop (Int.toNat 0) (ubN x a))=bsl (ubN x a):=rfl
 refine T185 fun hB hA=>?_
 by_cases hz:x.k≤8 * s∧okR { x with s:=s } a=true
 ·rw[if_pos hz,if_pos hz] at hk
  rw[if_pos hz,if_pos hz,if_pos hz,if_pos hz] at uT
  rcases hs with hs|hs
  all_goals
   refine W ?_
   refine lp (fun k e h=>(k=1∧e 7=.int .i64 0∧e 6=.row (σ.length+1) 1∧h=σ++[(1,VObj.row 27 [] false),(1,.row 27 [] false),(0,.dead),(0,.dead),(0,.dead)])∨(k=0∧e 7=.int .i64 ((ubN x a).length:Int)∧e 6=.row (σ.length+1) 2∧h=σ++[(1,VObj.row 27 [] false),(2,.row 27 [nmU { x with s:=s } a] false),(1,.box (nmU { x with s:=s } a) false),(1,.row 27 [nmU { x with s:=s } a] false),(0,.dead)])) 1 (.inl ⟨rfl,rfl,rfl,rfl⟩) ?_
   rintro k u _ (⟨rfl,e7,e6,rfl⟩|⟨rfl,e7,e6,rfl⟩)
   ·refine W ?_
    rw[dr]
    refine cu uT ?_
    refine W ?_
    exact⟨0,by omega,.inr ⟨rfl,by show PV.int _ _=PV.int _ _;congr 1;omega,rfl,rfl⟩⟩
   ·refine W ?_
    exact hk
 ·rw[if_neg hz,if_neg hz] at hk
  rw[if_neg hz,if_neg hz,if_neg hz,if_neg hz] at uT
  rcases hs with hs|hs
  all_goals
   refine W ?_
   refine lp (fun k e h=>e 7=.int .i64 0∧e 6=.row (σ.length+1) 1∧h=σ++[(1,VObj.row 27 [] false),(1,.row 27 [] false),(0,.dead),(0,.dead),(0,.dead)]) 0 ⟨rfl,rfl,rfl⟩ ?_
   rintro k u _ ⟨e7,e6,rfl⟩
   refine W ?_
   rw[dr]
   refine cu uT ?_
   refine W ?_
   exact hk
theorem uR8Equal1 {s:Int} (h:okN x):U Tryz.prog 186 [.sl [nmU { x with s:=s } a],.sl [nmU x a]] (.bool (decide (x.s=s))):=by
 intro σ Post hk
 have h':okN { x with s:=s }:=h
 have sc:=nmU_sc (x:=x) (a:=a)
 have ml:=nmU_len (a:=a) h
 have c0:=nmU_all (a:=a) h
 have sc':=nmU_sc (x:={ x with s:=s }) (a:=a)
 have ml':=nmU_len (a:=a) h'
 have c0':=nmU_all (a:=a) h'
 have b1:[nmU x a].length=1:=rfl
 have b2:[nmU { x with s:=s } a].length=1:=rfl
 have hg:[nmU x a][(0:Int).toNat]?=some (nmU x a):=rfl
 have hg2:[nmU { x with s:=s } a][(0:Int).toNat]?=some (nmU { x with s:=s } a):=rfl
 have q:=eqC_U (a:=a) (b:=a) h' h
 have es:(sameU x.rd s x.b x.k x.rd x.s x.b x.k&&(a==a))=decide (x.s=s):=by
  unfold sameU
  by_cases hh:x.s=s
  ·simp[hh]
  ·have:¬ s=x.s:=fun e=>hh e.symm
   simp[hh,this]
 rw[es] at q
 have q:eqCells [.i .u8,.i .u8,.i .u8,.i .u8,.i .u8,.i .u8,.i .u8,.i .u8,.i .i64,.i .u8,.i .u8,.i .u8,.i .u8,.i .u8,.i .u8,.i .u8,.i .u8,.i .u8,.i .u8,.i .u8,.i .u8,.i .u8,.i .u8,.i .u8,.i .u8,.i .i64,.i .i64] (nmU { x with s:=s } a) (nmU x a)=some (decide (x.s=s)):=q
 refine T186 fun hB hA=>?_
 by_cases hh:x.s=s
 ·rw[decide_eq_true hh] at hk q
  refine W ?_
  refine lp (fun k e h=>(k=1∧e 5=.int .i64 0∧h=σ++[])∨(k=0∧e 5=.int .i64 1∧h=σ++[])) 1 (.inl ⟨rfl,rfl,rfl⟩) ?_
  rintro k u _ (⟨rfl,e5,rfl⟩|⟨rfl,e5,rfl⟩)
  ·refine W ?_
   exact⟨0,by omega,.inr ⟨rfl,rfl,rfl⟩⟩
  ·refine W ?_
   exact hk
 ·rw[decide_eq_false hh] at hk q
  refine W ?_
  refine lp (fun k e h=>e 5=.int .i64 0∧h=σ++[]) 0 ⟨rfl,rfl⟩ ?_
  rintro k u _ ⟨e5,rfl⟩
  refine W ?_
  exact hk
end
end Go.Proofs.YtdpeaefgbmkegaaGreatDoor
namespace Go.Proofs.YtdpeaefgbmkegaaGreatDoor
open Go Go.V
set_option maxRecDepth 10000
set_option linter.unusedVariables false
attribute [local irreducible] vBuild vCallV
theorem uR9Four {a:Ad} (h:okD a):U Tryz.prog 130 [.agg (adc a)] (.bool (router4 a)):=by
 intro σ Post hk
 have sc:=adc_sc (a:=a)
 have ln:=adc_len h
 have c0:=adc_all h
 have c1:=adc_s (a:=a)
 unfold router4 at hk
 refine T130 fun hB hA=>?_
 by_cases h4:a.s=4
 ·rw[decide_eq_true h4,Bool.true_and] at hk
  refine W ?_
  refine cu (uR2 h) ?_
  refine W ?_
  exact hk
 ·rw[decide_eq_false h4,Bool.false_and] at hk
  refine W ?_
  exact hk
theorem uR9Num {n:Int}:U Tryz.prog 132 [.int .i64 n] (.bool (decide (-1≤n)&&decide (n≤4294967295))):=by
 intro σ Post hk
 refine T132 fun hB hA=>?_
 by_cases h1:-1≤n
 ·by_cases h2:n≤4294967295
  ·refine W ?_;exact finP hk (by simp[h1,h2])
  ·refine W ?_;exact finP hk (by simp[h1,h2])
 ·refine W ?_;exact finP hk (by simp[h1])
theorem uR9Path {l:List Seg} (hl:l.length≤4611686018427387904) (hn:∀ s,s∈l→s.nums.length≤4611686018427387904):U Tryz.prog 133 [.sl (l.map segC)] (.bool (pathR l)):=by
 intro σ Post hk
 have bl:(l.map segC).length=l.length:=List.length_map _
 refine T133 fun hB hA=>?_
 refine W ?_
 refine lp (fun k e h=>∃ i:Nat,i+k=l.length∧e 3=.int .i64 i∧(l.take i).any segW=false∧h=σ++[]) l.length ⟨0,by simp,rfl,rfl,rfl⟩ ?_
 rintro k u _ ⟨i,hi,e3,hal,rfl⟩
 by_cases h5:i<l.length
 ·obtain⟨x,hx⟩:∃ x,l[i]?=some x:=⟨_,List.getElem?_eq_getElem h5⟩
  have hg:(l.map segC)[(i:Int).toNat]?=some (segC x):=by rw[Int.toNat_natCast,List.getElem?_map,hx];rfl
  have hm:=hn x (List.mem_of_getElem? hx)
  have g1:=segC_gnums (x:=x) ⟨trivial⟩
  have b2:(x.nums.map fun n=>[PV.int .i64 n]).length=x.nums.length:=List.length_map _
  have hst:(l.take (i+1)).any segW=segW x:=by rw[snocT hx,List.any_append,hal];simp
  have bad:segW x=true→Post (.bool false) σ:=fun hb=>by
   refine finP hk ?_
   have:l.any segW=true:=List.any_eq_true.2 ⟨x,List.mem_of_getElem? hx,hb⟩
   simp[pathR,this]
  by_cases n0:x.nums.length<1
  ·have hb:=bad (by simp[segW,n0])
   refine W ?_
   exact hb
  ·by_cases n1:255<x.nums.length
   ·have hb:=bad (by simp[segW,n1])
    refine W ?_
    exact hb
   ·refine W ?_
    refine lp (fun k2 e h=>∃ j:Nat,j+k2=x.nums.length∧e 4=.int .i64 j∧(x.nums.take j).any (fun n=>decide (n<0)||decide (4294967295<n))=false∧h=σ++[]) x.nums.length ⟨0,by simp,rfl,rfl,rfl⟩ ?_
    rintro k2 u2 _ ⟨j,hj,e4,hal2,rfl⟩
    by_cases h6:j<x.nums.length
    ·obtain⟨y,hy⟩:∃ y,x.nums[j]?=some y:=⟨_,List.getElem?_eq_getElem h6⟩
     have hg2:(x.nums.map fun n=>[PV.int .i64 n])[(j:Int).toNat]?=some [PV.int .i64 y]:=by rw[Int.toNat_natCast,List.getElem?_map,hy];rfl
     have bady:(y<0∨4294967295<y)→Post (.bool false) σ:=fun hb=>bad (by
      have:(x.nums.any fun n=>decide (n<0)||decide (4294967295<n))=true:=List.any_eq_true.2 ⟨y,List.mem_of_getElem? hy,by rcases hb with hb|hb<;>simp[hb]⟩
      simp[segW,this])
     by_cases y0:y<0
     ·have hb:=bady (.inl y0)
      refine W ?_
      exact hb
     ·by_cases y1:4294967295<y
      ·have hb:=bady (.inr y1)
       refine W ?_
       exact hb
      ·refine W ?_
       exact⟨k2 - 1,by omega,j+1,by omega,rfl,by rw[snocT hy,List.any_append,hal2];simp[y0,y1],rfl⟩
    ·have h9:x.nums.take j=x.nums:=List.take_of_length_le (by omega)
     rw[h9] at hal2
     refine W ?_
     exact⟨k - 1,by omega,i+1,by omega,rfl,by rw[hst];simp[segW,n0,n1,hal2],rfl⟩
 ·have h9:l.take i=l:=List.take_of_length_le (by omega)
  rw[h9] at hal
  by_cases h16:l.length≤16
  ·refine W ?_
   exact finP hk (by simp[pathR,hal,h16])
  ·refine W ?_
   exact finP hk (by simp[pathR,h16])
end Go.Proofs.YtdpeaefgbmkegaaGreatDoor
