/- slices.IndexFunc, ContainsFunc, Equal; attr's and pmsi's checks. -/
import Derived.Test.YtdpeaefgbmkegaaGreatDoorHF
import Derived.Test.YtdpeaefgbmkegaaGreatDoorF4
set_option maxHeartbeats 4000000
namespace Go.Proofs.YtdpeaefgbmkegaaGreatDoor
open Go Go.V
set_option maxRecDepth 10000
attribute [local irreducible] vBuild vCallV
section
variable {α:Type}
def idxF (p:α→Bool):List α→Int
 | []=>-1
 | x::r=>if p x=true then 0 else if idxF p r<0 then -1 else idxF p r+1
theorem idxF_cons (p:α→Bool) (x:α) (r:List α):idxF p (x::r)=if p x=true then 0 else if idxF p r<0 then -1 else idxF p r+1:=rfl
theorem idxF_lo (p:α→Bool):∀ l,-1≤idxF p l
 | []=>by simp[idxF]
 | x::r=>by
   have:=idxF_lo p r
   rw[idxF_cons];split
   ·omega
   ·split<;>omega
theorem idxF_any (p:α→Bool):∀ l,decide (0≤idxF p l)=l.any p
 | []=>rfl
 | x::r=>by
   have ih:=idxF_any p r
   have:=idxF_lo p r
   rw[List.any_cons,← ih,idxF_cons]
   cases hp:p x with
   | true=>simp
   | false=>
     rw[if_neg (by simp)]
     split
     ·rw[decide_eq_false (by omega),decide_eq_false (by omega)];rfl
     ·rw[decide_eq_true (by omega),decide_eq_true (by omega)];rfl
theorem idxF_no {p:α→Bool} {l:List α} (h:l.any p=false):idxF p l=-1:=by
 have h1:=idxF_any p l
 have:=idxF_lo p l
 rw[h,decide_eq_false_iff_not] at h1
 omega
theorem idxF_at {p:α→Bool}:∀ {l:List α} {i:Nat} {x:α},(l.take i).any p=false→l[i]?=some x→p x=true→idxF p l=i
 | [],i,x,_,h,_=>by simp at h
 | y::r,0,x,_,h,hp=>by
   simp at h;subst h;rw[idxF_cons,if_pos hp];rfl
 | y::r,i+1,x,h0,h,hp=>by
   rw[List.take_succ_cons,List.any_cons,Bool.or_eq_false_iff] at h0
   have ih:=idxF_at (l:=r) (i:=i) (x:=x) h0.2 (by simpa using h) hp
   rw[idxF_cons,if_neg (by rw[h0.1];simp),ih,if_neg (by omega)];omega
theorem take_snoc {l:List α} {i:Nat} {x:α} (h:l[i]?=some x):l.take (i+1)=l.take i++[x]:=by
 have h5:=(List.getElem?_eq_some_iff.1 h).1
 rw[List.take_succ_eq_append_getElem h5];congr 2
 rw[List.getElem?_eq_getElem h5] at h;exact Option.some.inj h
theorem drop_cons {l:List α} {i:Nat} {x:α} (h:l[i]?=some x):l.drop i=x::l.drop (i+1):=by
 have h5:=(List.getElem?_eq_some_iff.1 h).1
 rw[List.drop_eq_getElem_cons h5];congr 1
 rw[List.getElem?_eq_getElem h5] at h;exact Option.some.inj h
def eqBy (e:α→α→Bool):List α→List α→Bool
 | [],[]=>true
 | x::r,y::s=>e x y&&eqBy e r s
 | _,_=>false
theorem eqBy_len (e:α→α→Bool):∀ {a b:List α},a.length≠b.length→eqBy e a b=false
 | [],[],h=>absurd rfl h
 | [],_::_,_=>rfl
 | _::_,[],_=>rfl
 | x::r,y::s,h=>by
   rw[eqBy,eqBy_len e (a:=r) (b:=s) (fun k=>h (by rw[List.length_cons,List.length_cons,k])),Bool.and_false]
end
theorem tIdxA {l:List (Ad)} {p:Ad→Bool} {q:FuncId} {cap:List PV} {σ:VHeap} {Post:KP} (hl:l.length≤4611686018427387904) (hcall:callOk Tryz.prog q=true) (ho:∀ x,x∈l→okD x) (hf:∀ x,x∈l→∀ (L:VHeap) (Q:KP),Q (.bool (p x)) (σ++L)→T Tryz.prog q (.agg (adc x)::cap) (σ++L) Q) (hk:Post (.int .i64 (idxF p l)) σ) :
  T Tryz.prog 75 [.sl (l.map fun x=>adc x),.fn q cap] σ Post:=by
 refine T75 fun hB hA=>?_
 refine W ?_
 refine lp (fun j e s=>∃ i:Nat,i+j=l.length∧e 8=.int .i64 i∧(l.take i).any p=false∧s=σ++[]) l.length ⟨0,by simp,rfl,by simp,rfl⟩ ?_
 rintro j u _ ⟨i,hi,e8,hal,rfl⟩
 by_cases h5:i<l.length
 ·obtain⟨x,hx⟩:∃ x,l[i]?=some x:=⟨_,List.getElem?_eq_getElem h5⟩
  have hg:(l.map fun x=>adc x)[(i:Int).toNat]?=some (adc x):=by rw[Int.toNat_natCast,List.getElem?_map,hx];rfl
  have hm:=List.mem_of_getElem? hx
  have cx:cut (adc x) 0 (some 17)=some (.agg (adc x)):=adc_all (ho x hm)
  have lx:=adc_len (ho x hm)
  refine W ?_
  refine callC (vs:=[.agg (adc x)]) rfl hcall rfl ?_
  refine hf x hm [] _ ?_
  cases hp:p x with
  | true=>
    rw[idxF_at hal hx hp] at hk
    refine W ?_
    exact hk
  | false=>
    refine W ?_
    refine⟨j - 1,by omega,i+1,by omega,rfl,?_,rfl⟩
    rw[take_snoc hx,List.any_append,hal];simp[hp]
 ·have h9:l.take i=l:=List.take_of_length_le (by omega)
  rw[h9] at hal
  rw[idxF_no hal] at hk
  refine W ?_
  exact hk
theorem tConA {l:List (Ad)} {p:Ad→Bool} {q:FuncId} {cap:List PV} {σ:VHeap} {Post:KP} (hl:l.length≤4611686018427387904) (hcall:callOk Tryz.prog q=true) (ho:∀ x,x∈l→okD x) (hf:∀ x,x∈l→∀ (L:VHeap) (Q:KP),Q (.bool (p x)) (σ++L)→T Tryz.prog q (.agg (adc x)::cap) (σ++L) Q) (hk:Post (.bool (l.any p)) σ) :
  T Tryz.prog 34 [.sl (l.map fun x=>adc x),.fn q cap] σ Post:=by
 have e:decide (0≤idxF p l)=l.any p:=idxF_any p l
 rw[← e] at hk
 refine T34 fun hB hA=>?_
 refine W ?_
 refine ct ?_
 refine tIdxA hl hcall ho (fun x hx L Q=>by rw[List.append_nil];exact hf x hx L Q) ?_
 refine W ?_
 exact hk
theorem tIdxS {l:List (Seg)} {p:Seg→Bool} {q:FuncId} {cap:List PV} {σ:VHeap} {Post:KP} (hl:l.length≤4611686018427387904) (hcall:callOk Tryz.prog q=true) (hf:∀ x,x∈l→∀ (L:VHeap) (Q:KP),Q (.bool (p x)) (σ++L)→T Tryz.prog q (.agg (segC x)::cap) (σ++L) Q) (hk:Post (.int .i64 (idxF p l)) σ) :
  T Tryz.prog 76 [.sl (l.map fun x=>segC x),.fn q cap] σ Post:=by
 refine T76 fun hB hA=>?_
 refine W ?_
 refine lp (fun j e s=>∃ i:Nat,i+j=l.length∧e 8=.int .i64 i∧(l.take i).any p=false∧s=σ++[]) l.length ⟨0,by simp,rfl,by simp,rfl⟩ ?_
 rintro j u _ ⟨i,hi,e8,hal,rfl⟩
 by_cases h5:i<l.length
 ·obtain⟨x,hx⟩:∃ x,l[i]?=some x:=⟨_,List.getElem?_eq_getElem h5⟩
  have hg:(l.map fun x=>segC x)[(i:Int).toNat]?=some (segC x):=by rw[Int.toNat_natCast,List.getElem?_map,hx];rfl
  have hm:=List.mem_of_getElem? hx
  have cx:cut (segC x) 0 (some 2)=some (.agg (segC x)):=segC_all ⟨trivial⟩
  refine W ?_
  refine callC (vs:=[.agg (segC x)]) rfl hcall rfl ?_
  refine hf x hm [] _ ?_
  cases hp:p x with
  | true=>
    rw[idxF_at hal hx hp] at hk
    refine W ?_
    exact hk
  | false=>
    refine W ?_
    refine⟨j - 1,by omega,i+1,by omega,rfl,?_,rfl⟩
    rw[take_snoc hx,List.any_append,hal];simp[hp]
 ·have h9:l.take i=l:=List.take_of_length_le (by omega)
  rw[h9] at hal
  rw[idxF_no hal] at hk
  refine W ?_
  exact hk
theorem tConS {l:List (Seg)} {p:Seg→Bool} {q:FuncId} {cap:List PV} {σ:VHeap} {Post:KP} (hl:l.length≤4611686018427387904) (hcall:callOk Tryz.prog q=true) (hf:∀ x,x∈l→∀ (L:VHeap) (Q:KP),Q (.bool (p x)) (σ++L)→T Tryz.prog q (.agg (segC x)::cap) (σ++L) Q) (hk:Post (.bool (l.any p)) σ) :
  T Tryz.prog 36 [.sl (l.map fun x=>segC x),.fn q cap] σ Post:=by
 have e:decide (0≤idxF p l)=l.any p:=idxF_any p l
 rw[← e] at hk
 refine T36 fun hB hA=>?_
 refine W ?_
 refine ct ?_
 refine tIdxS hl hcall (fun x hx L Q=>by rw[List.append_nil];exact hf x hx L Q) ?_
 refine W ?_
 exact hk
theorem tIdxT {l:List (Tn)} {p:Tn→Bool} {q:FuncId} {cap:List PV} {σ:VHeap} {Post:KP} (hl:l.length≤4611686018427387904) (hcall:callOk Tryz.prog q=true) (ho:∀ x,x∈l→okTn x) (hf:∀ x,x∈l→∀ (L:VHeap) (Q:KP),Q (.bool (p x)) (σ++L)→T Tryz.prog q (.agg (tnC x)::cap) (σ++L) Q) (hk:Post (.int .i64 (idxF p l)) σ) :
  T Tryz.prog 233 [.sl (l.map fun x=>tnC x),.fn q cap] σ Post:=by
 refine T233 fun hB hA=>?_
 refine W ?_
 refine lp (fun j e s=>∃ i:Nat,i+j=l.length∧e 8=.int .i64 i∧(l.take i).any p=false∧s=σ++[]) l.length ⟨0,by simp,rfl,by simp,rfl⟩ ?_
 rintro j u _ ⟨i,hi,e8,hal,rfl⟩
 by_cases h5:i<l.length
 ·obtain⟨x,hx⟩:∃ x,l[i]?=some x:=⟨_,List.getElem?_eq_getElem h5⟩
  have hg:(l.map fun x=>tnC x)[(i:Int).toNat]?=some (tnC x):=by rw[Int.toNat_natCast,List.getElem?_map,hx];rfl
  have hm:=List.mem_of_getElem? hx
  have cx:cut (tnC x) 0 (some 21)=some (.agg (tnC x)):=tnC_all (ho x hm)
  have lx:=tnC_len (ho x hm)
  refine W ?_
  refine callC (vs:=[.agg (tnC x)]) rfl hcall rfl ?_
  refine hf x hm [] _ ?_
  cases hp:p x with
  | true=>
    rw[idxF_at hal hx hp] at hk
    refine W ?_
    exact hk
  | false=>
    refine W ?_
    refine⟨j - 1,by omega,i+1,by omega,rfl,?_,rfl⟩
    rw[take_snoc hx,List.any_append,hal];simp[hp]
 ·have h9:l.take i=l:=List.take_of_length_le (by omega)
  rw[h9] at hal
  rw[idxF_no hal] at hk
  refine W ?_
  exact hk
theorem tConT {l:List (Tn)} {p:Tn→Bool} {q:FuncId} {cap:List PV} {σ:VHeap} {Post:KP} (hl:l.length≤4611686018427387904) (hcall:callOk Tryz.prog q=true) (ho:∀ x,x∈l→okTn x) (hf:∀ x,x∈l→∀ (L:VHeap) (Q:KP),Q (.bool (p x)) (σ++L)→T Tryz.prog q (.agg (tnC x)::cap) (σ++L) Q) (hk:Post (.bool (l.any p)) σ) :
  T Tryz.prog 203 [.sl (l.map fun x=>tnC x),.fn q cap] σ Post:=by
 have e:decide (0≤idxF p l)=l.any p:=idxF_any p l
 rw[← e] at hk
 refine T203 fun hB hA=>?_
 refine W ?_
 refine ct ?_
 refine tIdxT hl hcall ho (fun x hx L Q=>by rw[List.append_nil];exact hf x hx L Q) ?_
 refine W ?_
 exact hk
theorem tIdxB {l:List (Tb)} {p:Tb→Bool} {q:FuncId} {cap:List PV} {σ:VHeap} {Post:KP} (hl:l.length≤4611686018427387904) (hcall:callOk Tryz.prog q=true) (ho:∀ x,x∈l→okTb x) (hf:∀ x,x∈l→∀ (L:VHeap) (Q:KP),Q (.bool (p x)) (σ++L)→T Tryz.prog q (.agg (tbC x)::cap) (σ++L) Q) (hk:Post (.int .i64 (idxF p l)) σ) :
  T Tryz.prog 213 [.sl (l.map fun x=>tbC x),.fn q cap] σ Post:=by
 refine T213 fun hB hA=>?_
 refine W ?_
 refine lp (fun j e s=>∃ i:Nat,i+j=l.length∧e 8=.int .i64 i∧(l.take i).any p=false∧s=σ++[]) l.length ⟨0,by simp,rfl,by simp,rfl⟩ ?_
 rintro j u _ ⟨i,hi,e8,hal,rfl⟩
 by_cases h5:i<l.length
 ·obtain⟨x,hx⟩:∃ x,l[i]?=some x:=⟨_,List.getElem?_eq_getElem h5⟩
  have hg:(l.map fun x=>tbC x)[(i:Int).toNat]?=some (tbC x):=by rw[Int.toNat_natCast,List.getElem?_map,hx];rfl
  have hm:=List.mem_of_getElem? hx
  have cx:cut (tbC x) 0 (some 21)=some (.agg (tbC x)):=tbC_all (ho x hm)
  have lx:=tbC_len (ho x hm)
  refine W ?_
  refine callC (vs:=[.agg (tbC x)]) rfl hcall rfl ?_
  refine hf x hm [] _ ?_
  cases hp:p x with
  | true=>
    rw[idxF_at hal hx hp] at hk
    refine W ?_
    exact hk
  | false=>
    refine W ?_
    refine⟨j - 1,by omega,i+1,by omega,rfl,?_,rfl⟩
    rw[take_snoc hx,List.any_append,hal];simp[hp]
 ·have h9:l.take i=l:=List.take_of_length_le (by omega)
  rw[h9] at hal
  rw[idxF_no hal] at hk
  refine W ?_
  exact hk
theorem tConB {l:List (Tb)} {p:Tb→Bool} {q:FuncId} {cap:List PV} {σ:VHeap} {Post:KP} (hl:l.length≤4611686018427387904) (hcall:callOk Tryz.prog q=true) (ho:∀ x,x∈l→okTb x) (hf:∀ x,x∈l→∀ (L:VHeap) (Q:KP),Q (.bool (p x)) (σ++L)→T Tryz.prog q (.agg (tbC x)::cap) (σ++L) Q) (hk:Post (.bool (l.any p)) σ) :
  T Tryz.prog 163 [.sl (l.map fun x=>tbC x),.fn q cap] σ Post:=by
 have e:decide (0≤idxF p l)=l.any p:=idxF_any p l
 rw[← e] at hk
 refine T163 fun hB hA=>?_
 refine W ?_
 refine ct ?_
 refine tIdxB hl hcall ho (fun x hx L Q=>by rw[List.append_nil];exact hf x hx L Q) ?_
 refine W ?_
 exact hk
theorem tIdxI {l:List (Int)} {p:Int→Bool} {q:FuncId} {cap:List PV} {σ:VHeap} {Post:KP} (hl:l.length≤4611686018427387904) (hcall:callOk Tryz.prog q=true) (hf:∀ x,x∈l→∀ (L:VHeap) (Q:KP),Q (.bool (p x)) (σ++L)→T Tryz.prog q (PV.int .i64 x::cap) (σ++L) Q) (hk:Post (.int .i64 (idxF p l)) σ) :
  T Tryz.prog 271 [.sl (l.map fun x=>[PV.int .i64 x]),.fn q cap] σ Post:=by
 refine T271 fun hB hA=>?_
 refine W ?_
 refine lp (fun j e s=>∃ i:Nat,i+j=l.length∧e 8=.int .i64 i∧(l.take i).any p=false∧s=σ++[]) l.length ⟨0,by simp,rfl,by simp,rfl⟩ ?_
 rintro j u _ ⟨i,hi,e8,hal,rfl⟩
 by_cases h5:i<l.length
 ·obtain⟨x,hx⟩:∃ x,l[i]?=some x:=⟨_,List.getElem?_eq_getElem h5⟩
  have hg:(l.map fun x=>[PV.int .i64 x])[(i:Int).toNat]?=some ([PV.int .i64 x]):=by rw[Int.toNat_natCast,List.getElem?_map,hx];rfl
  have hm:=List.mem_of_getElem? hx
  skip
  refine W ?_
  refine callC (vs:=[PV.int .i64 x]) rfl hcall rfl ?_
  refine hf x hm [] _ ?_
  cases hp:p x with
  | true=>
    rw[idxF_at hal hx hp] at hk
    refine W ?_
    exact hk
  | false=>
    refine W ?_
    refine⟨j - 1,by omega,i+1,by omega,rfl,?_,rfl⟩
    rw[take_snoc hx,List.any_append,hal];simp[hp]
 ·have h9:l.take i=l:=List.take_of_length_le (by omega)
  rw[h9] at hal
  rw[idxF_no hal] at hk
  refine W ?_
  exact hk
theorem tConI {l:List (Int)} {p:Int→Bool} {q:FuncId} {cap:List PV} {σ:VHeap} {Post:KP} (hl:l.length≤4611686018427387904) (hcall:callOk Tryz.prog q=true) (hf:∀ x,x∈l→∀ (L:VHeap) (Q:KP),Q (.bool (p x)) (σ++L)→T Tryz.prog q (PV.int .i64 x::cap) (σ++L) Q) (hk:Post (.bool (l.any p)) σ) :
  T Tryz.prog 256 [.sl (l.map fun x=>[PV.int .i64 x]),.fn q cap] σ Post:=by
 have e:decide (0≤idxF p l)=l.any p:=idxF_any p l
 rw[← e] at hk
 refine T256 fun hB hA=>?_
 refine W ?_
 refine ct ?_
 refine tIdxI hl hcall (fun x hx L Q=>by rw[List.append_nil];exact hf x hx L Q) ?_
 refine W ?_
 exact hk
theorem uEqlM {a b:List (Mr)} (hla:a.length≤4611686018427387904) (_hlb:b.length≤4611686018427387904) (ha:∀ x,x∈a→okM x) (hb:∀ x,x∈b→okM x):U Tryz.prog 241 [.sl (a.map fun x=>mrc x),.sl (b.map fun x=>mrc x)] (.bool (eqBy (fun x y=>x==y) a b)):=by
 intro σ Post hk
 refine T241 fun hB hA=>?_
 by_cases hlen:a.length=b.length
 ·refine W ?_
  refine lp (fun j e s=>∃ i:Nat,i+j=a.length∧e 13=.int .i64 i∧eqBy (fun x y=>x==y) a b=eqBy (fun x y=>x==y) (a.drop i) (b.drop i)∧s=σ++[]) a.length ⟨0,by simp,rfl,rfl,rfl⟩ ?_
  rintro j u _ ⟨i,hi,e13,heq,rfl⟩
  by_cases h5:i<a.length
  ·obtain⟨x,hx⟩:∃ x,a[i]?=some x:=⟨_,List.getElem?_eq_getElem h5⟩
   obtain⟨y,hy⟩:∃ y,b[i]?=some y:=⟨_,List.getElem?_eq_getElem (by omega)⟩
   have hg:(a.map fun x=>mrc x)[(i:Int).toNat]?=some (mrc x):=by rw[Int.toNat_natCast,List.getElem?_map,hx];rfl
   have hg2:(b.map fun x=>mrc x)[(i:Int).toNat]?=some (mrc y):=by rw[Int.toNat_natCast,List.getElem?_map,hy];rfl
   have hm:=List.mem_of_getElem? hx
   have hm2:=List.mem_of_getElem? hy
   have cx:=mrc_all (ha x hm)
   have cy:=mrc_all (hb y hm2)
   have lx:=mrc_len (ha x hm)
   have ly:=mrc_len (hb y hm2)
   have q0:=eqC_mr (ha x hm) (hb y hm2)
   rw[drop_cons hx,drop_cons hy,eqBy] at heq
   cases hp:(x==y:Bool) with
   | true=>
     rw[hp] at q0
     rw[hp,Bool.true_and] at heq
     refine W ?_
     exact⟨j - 1,by omega,i+1,by omega,rfl,heq,rfl⟩
   | false=>
     rw[hp] at q0
     rw[hp,Bool.false_and] at heq
     rw[heq] at hk
     refine W ?_
     exact hk
  ·have ea:a.drop i=[]:=List.drop_of_length_le (by omega)
   have eb:b.drop i=[]:=List.drop_of_length_le (by omega)
   rw[ea,eb,eqBy] at heq
   rw[heq] at hk
   refine W ?_
   exact hk
 ·rw[eqBy_len _ hlen] at hk
  refine W ?_
  exact hk
theorem uEqlU {a b:List (UR)} (hla:a.length≤4611686018427387904) (_hlb:b.length≤4611686018427387904) (ha:∀ x,x∈a→okUr x) (hb:∀ x,x∈b→okUr x):U Tryz.prog 242 [.sl (a.map fun x=>urU x),.sl (b.map fun x=>urU x)] (.bool (eqBy (fun x y=>eqUr x y) a b)):=by
 intro σ Post hk
 refine T242 fun hB hA=>?_
 by_cases hlen:a.length=b.length
 ·refine W ?_
  refine lp (fun j e s=>∃ i:Nat,i+j=a.length∧e 13=.int .i64 i∧eqBy (fun x y=>eqUr x y) a b=eqBy (fun x y=>eqUr x y) (a.drop i) (b.drop i)∧s=σ++[]) a.length ⟨0,by simp,rfl,rfl,rfl⟩ ?_
  rintro j u _ ⟨i,hi,e13,heq,rfl⟩
  by_cases h5:i<a.length
  ·obtain⟨x,hx⟩:∃ x,a[i]?=some x:=⟨_,List.getElem?_eq_getElem h5⟩
   obtain⟨y,hy⟩:∃ y,b[i]?=some y:=⟨_,List.getElem?_eq_getElem (by omega)⟩
   have hg:(a.map fun x=>urU x)[(i:Int).toNat]?=some (urU x):=by rw[Int.toNat_natCast,List.getElem?_map,hx];rfl
   have hg2:(b.map fun x=>urU x)[(i:Int).toNat]?=some (urU y):=by rw[Int.toNat_natCast,List.getElem?_map,hy];rfl
   have hm:=List.mem_of_getElem? hx
   have hm2:=List.mem_of_getElem? hy
   have cx:=nmU_all (a:=x.2) (ha x hm)
   have cy:=nmU_all (a:=y.2) (hb y hm2)
   have lx:=nmU_len (a:=x.2) (ha x hm)
   have ly:=nmU_len (a:=y.2) (hb y hm2)
   have q0:=eqC_U (a:=x.2) (b:=y.2) (ha x hm) (hb y hm2)
   rw[show (sameU x.1.rd x.1.s x.1.b x.1.k y.1.rd y.1.s y.1.b y.1.k&&(x.2==y.2))=eqUr x y from rfl] at q0
   rw[drop_cons hx,drop_cons hy,eqBy] at heq
   cases hp:(eqUr x y:Bool) with
   | true=>
     rw[hp] at q0
     rw[hp,Bool.true_and] at heq
     refine W ?_
     exact⟨j - 1,by omega,i+1,by omega,rfl,heq,rfl⟩
   | false=>
     rw[hp] at q0
     rw[hp,Bool.false_and] at heq
     rw[heq] at hk
     refine W ?_
     exact hk
  ·have ea:a.drop i=[]:=List.drop_of_length_le (by omega)
   have eb:b.drop i=[]:=List.drop_of_length_le (by omega)
   rw[ea,eb,eqBy] at heq
   rw[heq] at hk
   refine W ?_
   exact hk
 ·rw[eqBy_len _ hlen] at hk
  refine W ?_
  exact hk
end Go.Proofs.YtdpeaefgbmkegaaGreatDoor
namespace Go.Proofs.YtdpeaefgbmkegaaGreatDoor
open Go Go.V
set_option maxRecDepth 10000
attribute [local irreducible] vBuild vCallV
theorem fin {Post:KP} {v w:PV} {σ:VHeap} (hk:Post v σ) (e:v=w):Post w σ:=e▸hk
theorem uRouterA {a:Ad} (h:okD a):U Tryz.prog 201 [.agg (adc a)] (.bool (router4 a)):=by
 intro σ Post hk
 have sc:=adc_sc (a:=a)
 have ln:=adc_len h
 have c0:=adc_all h
 have cs:=adc_s (a:=a)
 refine T201 fun hB hA=>?_
 by_cases h4:a.s=4
 ·refine W ?_
  refine cu (uRightD h) ?_
  refine W ?_
  exact fin hk (by simp[router4,h4])
 ·refine W ?_
  exact fin hk (by simp[router4,h4])
theorem uRouterR {a:Ad} (h:okD a):U Tryz.prog 71 [.agg (adc a)] (.bool (router4 a)):=by
 intro σ Post hk
 have sc:=adc_sc (a:=a)
 have ln:=adc_len h
 have c0:=adc_all h
 have cs:=adc_s (a:=a)
 refine T71 fun hB hA=>?_
 by_cases h4:a.s=4
 ·refine W ?_
  refine cu (uRightD h) ?_
  refine W ?_
  exact fin hk (by simp[router4,h4])
 ·refine W ?_
  exact fin hk (by simp[router4,h4])
theorem uNotRouter {a:Ad} (h:okD a):U Tryz.prog 202 [.agg (adc a)] (.bool (!router4 a)):=by
 intro σ Post hk
 have sc:=adc_sc (a:=a)
 have ln:=adc_len h
 have c0:=adc_all h
 have cs:=adc_s (a:=a)
 refine T202 fun hB hA=>?_
 refine W ?_
 refine cu (uRouterA h) ?_
 refine W ?_
 exact hk
theorem uTunnel {t:Tn} (h:okTn t) (hid:t.id.length≤140737488355328):U Tryz.prog 205 [.agg (tnC t)] (.bool (tnR t)):=by
 intro σ Post hk
 have sc:=tnC_sc (x:=t)
 have ln:=tnC_len h
 have c0:=tnC_all h
 have g1:=tnC_gkind h
 have g2:=tnC_glabel h
 have g3:=tnC_groot h
 have g4:=tnC_gid h
 have g5:cut (tnC t) 3 none=some (.int .i64 t.root.s):=rfl
 refine T205 fun hB hA=>?_
 refine W ?_
 refine cu (uRightD h.root) ?_
 cases o1:okAd t.root with
 | true=>
   by_cases l0:0≤t.label
   ·by_cases l1:t.label≤1048575
    ·by_cases k0:t.kind=0
     ·have rs:=okAd_s o1
      by_cases z:t.root.s+t.id.length=0
      ·refine W ?_
       exact fin hk (by simp[tnR,tnK,o1,l0,l1,k0,z])
      ·refine W ?_
       exact fin hk (by simp[tnR,tnK,o1,l0,l1,k0,z])
     ·by_cases k1:t.kind=1
      ·by_cases r4:t.root.s=4
       ·by_cases i6:t.id.length=6
        ·refine W ?_
         exact fin hk (by simp[tnR,tnK,o1,l0,l1,k1,r4,i6])
        ·refine W ?_
         exact fin hk (by simp[tnR,tnK,o1,l0,l1,k1,r4,i6])
       ·refine W ?_
        exact fin hk (by simp[tnR,tnK,o1,l0,l1,k1,r4])
      ·by_cases k2:t.kind=2
       ·by_cases r0:0<t.root.s
        ·by_cases i64:t.id.length≤64
         ·refine W ?_
          exact fin hk (by simp[tnR,tnK,o1,l0,l1,k2,r0,i64])
         ·refine W ?_
          exact fin hk (by simp[tnR,tnK,o1,l0,l1,k2,r0,i64])
        ·refine W ?_
         exact fin hk (by simp[tnR,tnK,o1,l0,l1,k2,r0])
       ·by_cases k7:t.kind=7
        ·by_cases r0:0<t.root.s
         ·by_cases i64:t.id.length≤64
          ·refine W ?_
           exact fin hk (by simp[tnR,tnK,o1,l0,l1,k7,r0,i64])
          ·refine W ?_
           exact fin hk (by simp[tnR,tnK,o1,l0,l1,k7,r0,i64])
         ·refine W ?_
          exact fin hk (by simp[tnR,tnK,o1,l0,l1,k7,r0])
        ·by_cases k3:t.kind=3
         ·have q0:=ofA_ok t.id
          have q1:=adc_len q0
          have q2:=adc_sc (a:=(ofA t.id).1)
          have q3:=ad_set q0
          have q4:=adc_all q0
          have q5:=adc_s (a:=(ofA t.id).1)
          refine W ?_
          refine cu (uOfA (l:=t.id) hid) ?_
          by_cases e0:(ofA t.id).2=0
          ·by_cases es:(ofA t.id).1.s=t.root.s
           ·refine W ?_
            refine cu (uMulti q0) ?_
            refine W ?_
            exact fin hk (by simp[tnR,tnK,o1,l0,l1,k3,e0,es])
           ·refine W ?_
            exact fin hk (by simp[tnR,tnK,o1,l0,l1,k3,e0,es])
          ·refine W ?_
           exact fin hk (by simp[tnR,tnK,o1,l0,l1,k3,e0])
         ·by_cases k4:t.kind=4
          ·have q0:=ofA_ok t.id
           have q1:=adc_len q0
           have q2:=adc_sc (a:=(ofA t.id).1)
           have q3:=ad_set q0
           have q4:=adc_all q0
           have q5:=adc_s (a:=(ofA t.id).1)
           refine W ?_
           refine cu (uOfA (l:=t.id) hid) ?_
           by_cases e0:(ofA t.id).2=0
           ·by_cases es:(ofA t.id).1.s=t.root.s
            ·refine W ?_
             refine cu (uMulti q0) ?_
             refine W ?_
             exact fin hk (by simp[tnR,tnK,o1,l0,l1,k4,e0,es])
            ·refine W ?_
             exact fin hk (by simp[tnR,tnK,o1,l0,l1,k4,e0,es])
           ·refine W ?_
            exact fin hk (by simp[tnR,tnK,o1,l0,l1,k4,e0])
          ·by_cases k5:t.kind=5
           ·have q0:=ofA_ok t.id
            have q1:=adc_len q0
            have q2:=adc_sc (a:=(ofA t.id).1)
            have q3:=ad_set q0
            have q4:=adc_all q0
            have q5:=adc_s (a:=(ofA t.id).1)
            refine W ?_
            refine cu (uOfA (l:=t.id) hid) ?_
            by_cases e0:(ofA t.id).2=0
            ·by_cases es:(ofA t.id).1.s=t.root.s
             ·refine W ?_
              refine cu (uMulti q0) ?_
              refine W ?_
              exact fin hk (by simp[tnR,tnK,o1,l0,l1,k5,e0,es])
             ·refine W ?_
              exact fin hk (by simp[tnR,tnK,o1,l0,l1,k5,e0,es])
            ·refine W ?_
             exact fin hk (by simp[tnR,tnK,o1,l0,l1,k5,e0])
           ·by_cases k6:t.kind=6
            ·by_cases r0:0<t.root.s
             ·by_cases i0:t.id.length=0
              ·refine W ?_
               exact fin hk (by simp[tnR,tnK,o1,l0,l1,k6,r0,i0])
              ·refine W ?_
               exact fin hk (by simp[tnR,tnK,o1,l0,l1,k6,r0,i0])
             ·refine W ?_
              exact fin hk (by simp[tnR,tnK,o1,l0,l1,k6,r0])
            ·refine W ?_
             exact fin hk (by simp[tnR,tnK,o1,l0,l1,k0,k1,k2,k7,k3,k4,k5,k6])
    ·refine W ?_
     exact fin hk (by simp[tnR,tnK,o1,l0,l1])
   ·refine W ?_
    exact fin hk (by simp[tnR,tnK,o1,l0])
 | false=>
   refine W ?_
   exact fin hk (by simp[tnR,tnK,o1])
theorem uNotTunnel {t:Tn} (h:okTn t) (hid:t.id.length≤140737488355328):U Tryz.prog 204 [.agg (tnC t)] (.bool (!tnR t)):=by
 intro σ Post hk
 have sc:=tnC_sc (x:=t)
 have ln:=tnC_len h
 have c0:=tnC_all h
 have g1:=tnC_gkind h
 have g2:=tnC_glabel h
 have g3:=tnC_groot h
 have g4:=tnC_gid h
 have g5:cut (tnC t) 3 none=some (.int .i64 t.root.s):=rfl
 refine T204 fun hB hA=>?_
 refine W ?_
 refine cu (uTunnel h hid) ?_
 refine W ?_
 exact hk
theorem uBadNum {n:Int}:U Tryz.prog 257 [.int .i64 n] (.bool (decide (n<0)||decide (4294967295<n))):=by
 intro σ Post hk
 refine T257 fun hB hA=>?_
 by_cases n0:n<0
 ·refine W ?_
  exact fin hk (by simp[n0])
 ·by_cases n1:4294967295<n
  ·refine W ?_
   exact fin hk (by simp[n0,n1])
  ·refine W ?_
   exact fin hk (by simp[n0,n1])
theorem uSegW {s:Seg}:U Tryz.prog 234 [.agg (segC s)] (.bool (segW s)):=by
 intro σ Post hk
 have sc:=segC_sc (x:=s)
 have ln:=segC_len (x:=s) ⟨trivial⟩
 have g1:=segC_gnums (x:=s) ⟨trivial⟩
 have bl:(s.nums.map fun n=>[PV.int .i64 n]).length=s.nums.length:=List.length_map _
 have hcl:callOk Tryz.prog 257=true:=by kernel_rfl
 refine T234 fun hB hA=>?_
 by_cases n0:s.nums.length<1
 ·refine W ?_
  exact fin hk (by simp[segW,n0])
 ·by_cases n1:255<s.nums.length
  ·refine W ?_
   exact fin hk (by simp[segW,n0,n1])
  ·refine W ?_
   refine ct ?_
   refine tConI (l:=s.nums) (p:=fun n=>decide (n<0)||decide (4294967295<n)) (by omega) hcl (fun x _ L Q hq=>uBadNum _ _ hq) ?_
   refine W ?_
   exact fin hk (by simp[segW,n0,n1])
theorem uPathR {l:List Seg}:U Tryz.prog 206 [.sl (l.map segC)] (.bool (pathR l)):=by
 intro σ Post hk
 have bl:(l.map segC).length=l.length:=List.length_map _
 have hcl:callOk Tryz.prog 234=true:=by kernel_rfl
 refine T206 fun hB hA=>?_
 by_cases n0:l.length≤16
 ·refine W ?_
  refine ct ?_
  refine tConS (l:=l) (p:=segW) (by omega) hcl (fun x _ L Q hq=>uSegW _ _ hq) ?_
  refine W ?_
  exact fin hk (by simp[pathR,n0])
 ·refine W ?_
  exact fin hk (by simp[pathR,n0])
theorem uAtR {a:At} (h:okAt a) (hk3:∀ c,c∈a.cl→okD c) (hk4:(∀ t,t∈a.tn→okTn t)∧∀ t,t∈a.tn→t.id.length≤140737488355328):U Tryz.prog 160 [.agg (atC a)] (.bool (atR a)):=by
 intro σ Post hk
 have sc:=atC_sc (x:=a)
 have ln:=atC_len h
 have c0:=atC_all h
 have gorigin:=atC_gorigin h
 have gpath:=atC_gpath h
 have gmed:=atC_gmed h
 have gpref:=atC_gpref h
 have gorig:=atC_gorig h
 have gcl:=atC_gcl h
 have gex:=atC_gex h
 have gtn:=atC_gtn h
 have q0:=eqC_ad h.orig ad0_ok
 have qc:=adc_all h.orig
 have h1:callOk Tryz.prog 202=true:=by kernel_rfl
 have h2:callOk Tryz.prog 204=true:=by kernel_rfl
 have b1:(a.cl.map adc).length=a.cl.length:=List.length_map _
 have b2:(a.ex.map u8c).length=a.ex.length:=List.length_map _
 have b3:(a.tn.map tnC).length=a.tn.length:=List.length_map _
 refine T160 fun hB hA=>?_
 by_cases x1:0≤a.origin
 ·by_cases x2:a.origin≤2
  ·by_cases x3:-1≤a.med
   ·by_cases x4:a.med≤4294967295
    ·by_cases x5:-1≤a.pref
     ·by_cases x6:a.pref≤4294967295
      ·cases o1:a.orig==ad0 with
       | true=>
         rw[o1] at q0
         by_cases y1:a.cl.length≤32
         ·by_cases y2:a.ex.length≤64
          ·by_cases y3:a.tn.length≤1
           ·refine W ?_
            refine ct ?_
            refine tConA (l:=a.cl) (p:=fun c=>!router4 c) (by omega) h1 hk3 (fun x hx L Q hq=>uNotRouter (hk3 x hx) _ _ hq) ?_
            cases z1:a.cl.any fun c=>!router4 c with
            | true=>
              refine W ?_
              exact fin hk (by simp[atR,x1,x2,x3,x4,x5,x6,o1,y1,y2,y3,z1])
            | false=>
              refine W ?_
              refine ct ?_
              refine tConT (l:=a.tn) (p:=fun t=>!tnR t) (by omega) h2 hk4.1 (fun x hx L Q hq=>uNotTunnel (hk4.1 x hx) (hk4.2 x hx) _ _ hq) ?_
              cases z2:a.tn.any fun t=>!tnR t with
              | true=>
                refine W ?_
                exact fin hk (by simp[atR,x1,x2,x3,x4,x5,x6,o1,y1,y2,y3,z1,z2])
              | false=>
                refine W ?_
                refine cu (uPathR (l:=a.path)) ?_
                refine W ?_
                exact fin hk (by simp[atR,x1,x2,x3,x4,x5,x6,o1,y1,y2,y3,z1,z2])
           ·refine W ?_
            exact fin hk (by simp[atR,x1,x2,x3,x4,x5,x6,o1,y1,y2,y3])
          ·refine W ?_
           exact fin hk (by simp[atR,x1,x2,x3,x4,x5,x6,o1,y1,y2])
         ·refine W ?_
          exact fin hk (by simp[atR,x1,x2,x3,x4,x5,x6,o1,y1])
       | false=>
         rw[o1] at q0
         refine W ?_
         refine cu (uRouterA h.orig) ?_
         cases o2:router4 a.orig with
         | true=>
           by_cases y1:a.cl.length≤32
           ·by_cases y2:a.ex.length≤64
            ·by_cases y3:a.tn.length≤1
             ·refine W ?_
              refine ct ?_
              refine tConA (l:=a.cl) (p:=fun c=>!router4 c) (by omega) h1 hk3 (fun x hx L Q hq=>uNotRouter (hk3 x hx) _ _ hq) ?_
              cases z1:a.cl.any fun c=>!router4 c with
              | true=>
                refine W ?_
                exact fin hk (by simp[atR,x1,x2,x3,x4,x5,x6,o1,o2,y1,y2,y3,z1])
              | false=>
                refine W ?_
                refine ct ?_
                refine tConT (l:=a.tn) (p:=fun t=>!tnR t) (by omega) h2 hk4.1 (fun x hx L Q hq=>uNotTunnel (hk4.1 x hx) (hk4.2 x hx) _ _ hq) ?_
                cases z2:a.tn.any fun t=>!tnR t with
                | true=>
                  refine W ?_
                  exact fin hk (by simp[atR,x1,x2,x3,x4,x5,x6,o1,o2,y1,y2,y3,z1,z2])
                | false=>
                  refine W ?_
                  refine cu (uPathR (l:=a.path)) ?_
                  refine W ?_
                  exact fin hk (by simp[atR,x1,x2,x3,x4,x5,x6,o1,o2,y1,y2,y3,z1,z2])
             ·refine W ?_
              exact fin hk (by simp[atR,x1,x2,x3,x4,x5,x6,o1,o2,y1,y2,y3])
            ·refine W ?_
             exact fin hk (by simp[atR,x1,x2,x3,x4,x5,x6,o1,o2,y1,y2])
           ·refine W ?_
            exact fin hk (by simp[atR,x1,x2,x3,x4,x5,x6,o1,o2,y1])
         | false=>
           refine W ?_
           exact fin hk (by simp[atR,x1,x2,x3,x4,x5,x6,o1,o2])
      ·refine W ?_
       exact fin hk (by simp[atR,x1,x2,x3,x4,x5,x6])
     ·refine W ?_
      exact fin hk (by simp[atR,x1,x2,x3,x4,x5])
    ·refine W ?_
     exact fin hk (by simp[atR,x1,x2,x3,x4])
   ·refine W ?_
    exact fin hk (by simp[atR,x1,x2,x3])
  ·refine W ?_
   exact fin hk (by simp[atR,x1,x2])
 ·refine W ?_
  exact fin hk (by simp[atR,x1])
end Go.Proofs.YtdpeaefgbmkegaaGreatDoor
