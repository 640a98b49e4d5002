/- Runs of closed calls: the seat's table. -/
import Derived.Test.YtdpeaefgbmkegaaGreatDoorEC
import Derived.Test.YtdpeaefgbmkegaaGreatDoorF1
import Derived.Test.YtdpeaefgbmkegaaGreatDoorFE
import Derived.Test.YtdpeaefgbmkegaaGreatDoorGA
import Derived.Lib.Bytealg
import Derived.Test.YtdpeaefgbmkegaaGreatDoorGB
namespace Go.Proofs.YtdpeaefgbmkegaaGreatDoor
open Go Go.V
set_option maxRecDepth 10000
def ddx:Nat→Nat→List UInt8
 | 0,n=>[UInt8.ofNat (48+n)]
 | k+1,n=>if n<10 then[UInt8.ofNat (48+n)] else ddx k (n / 10)++[UInt8.ofNat (48+n % 10)]
theorem ddx_ok:∀ (k n:Nat),n<10 ^ (k+1)→ddx k n=Lib.decDigits n
 | 0,n,h=>by rw[Lib.decDigits,dif_pos (by simpa using h)];rfl
 | k+1,n,h=>by
   rw[Lib.decDigits,ddx]
   split
   ·rfl
   ·rw[ddx_ok k (n / 10) (by rw[Nat.pow_succ] at h;omega)]
def itoaX (n:Int):List UInt8:=if n<0 then 45::ddx 20 n.natAbs else ddx 20 n.toNat
theorem itoaX_ok {n:Int} (h0:-9223372036854775808≤n) (h1:n≤9223372036854775807):itoaX n=Lib.itoa n:=by
 have e:(10:Nat) ^ (20+1)=1000000000000000000000:=by decide
 unfold itoaX Lib.itoa
 rw[ddx_ok _ _ (by omega),ddx_ok _ _ (by omega)]
def strOf:List PV→Option (List UInt8)
 | [.str s]=>some s
 | _=>none
def bytesX (es:List (List PV)):Option (List UInt8):=match es.mapM V.byteOf with
 | some l=>if eqLL (eqPV 1) (bsl l) es=true then some l else none
 | none=>none
theorem bytesX_ok {es:List (List PV)} {l:List UInt8} (h:bytesX es=some l):es=bsl l:=by
 unfold bytesX at h
 split at h
 ·split at h
  ·rename_i hh;cases h;exact(eqLL_ok (eqPV_ok 1) _ _ hh).symm
  ·cases h
 ·cases h
def specItoa:List PV→Option PV
 | [.int .i64 n]=>if -9223372036854775808≤n∧n≤9223372036854775807 then some (.str (itoaX n)) else none
 | _=>none
def specJoin:List PV→Option PV
 | [.sl rows,.str sep]=>match rows.mapM strOf with
   | some ss=>if eqLL (eqPV 1) (strRow ss) rows=true∧ss.length≤140737488355328∧(Lib.join ss sep).length≤140737488355328 then some (.str (Lib.join ss sep)) else none
   | none=>none
 | _=>none
def specClone:List PV→Option PV
 | [.sl es]=>match bytesX es with
   | some l=>if l.length≤140737488355328 then some (.sl (bsl l)) else none
   | none=>none
 | _=>none
def specPut:List PV→Option PV
 | [.sl es,.int .i64 (.ofNat n),.int .i64 (.ofNat z)]=>match bytesX es with
   | some l=>if 1≤z∧z≤4∧n<256 ^ z∧l.length≤1000000 then some (.tup [.sl (bsl (l++be n z)),.int .i64 0]) else none
   | none=>none
 | _=>none
def specX:XE:=fun f args=>cond (Nat.beq f 85) (specItoa args) (cond (Nat.beq f 124) (specJoin args) (cond (Nat.beq f 103) (specClone args) (cond (Nat.beq f 147) (specPut args) none)))
theorem specX_ok:SpecOk Tryz.prog specX:=by
 intro f args v h
 unfold specX at h
 cases e1:Nat.beq f 85 with
 | true=>
   rw[e1] at h;have e1:=Nat.eq_of_beq_eq_true e1;subst e1
   dsimp only[cond] at h
   unfold specItoa at h
   split at h
   ·split at h
    ·rename_i hh;cases h;rw[itoaX_ok hh.1 hh.2];exact uItoa hh.1 hh.2
    ·cases h
   ·cases h
 | false=>
 rw[e1] at h
 cases e1:Nat.beq f 124 with
 | true=>
   rw[e1] at h;have e1:=Nat.eq_of_beq_eq_true e1;subst e1
   dsimp only[cond] at h
   unfold specJoin at h
   split at h
   ·split at h
    ·split at h
     ·rename_i hh;cases h;rw[← eqLL_ok (eqPV_ok 1) _ _ hh.1];exact uJoin hh.2.1 hh.2.2
     ·cases h
    ·cases h
   ·cases h
 | false=>
 rw[e1] at h
 cases e1:Nat.beq f 103 with
 | true=>
   rw[e1] at h;have e1:=Nat.eq_of_beq_eq_true e1;subst e1
   dsimp only[cond] at h
   unfold specClone at h
   split at h
   ·split at h
    ·rename_i hb;split at h
     ·rename_i hl;cases h;rw[bytesX_ok hb];exact uClone hl
     ·cases h
    ·cases h
   ·cases h
 | false=>
 rw[e1] at h
 cases e1:Nat.beq f 147 with
 | true=>
   rw[e1] at h;have e1:=Nat.eq_of_beq_eq_true e1;subst e1
   dsimp only[cond] at h
   unfold specPut at h
   split at h
   ·split at h
    ·rename_i hb;split at h
     ·rename_i hl;cases h;rw[bytesX_ok hb];exact uPut hl.1 hl.2.1 hl.2.2.1 hl.2.2.2
     ·cases h
    ·cases h
   ·cases h
 | false=>
 rw[e1] at h;cases h
def extX:XE:=fun _ _=>none
theorem extX_ok:ExtOk Tryz.prog extX:=⟨fun _ _ _ _ h=>(by cases h),fun _ h=>(by cases h)⟩
theorem u8s_cl (l:List Int):ClL (u8s l):=clL_iff fun c hc=>by obtain⟨x,_,rfl⟩:=List.mem_map.1 hc;infer_instance
theorem glob_cl:∀ g cells,Glob.tab g=some cells→ClL cells:=by
 intro g cells h
 have e:g=1∧cells=gt1∨g=4∧cells=gt4∨g=5∧cells=gt5:=by
  simp only[Glob.tab] at h
  split at h
  ·cases h;exact .inl ⟨rfl,rfl⟩
  ·cases h;exact .inr (.inl ⟨rfl,rfl⟩)
  ·cases h;exact .inr (.inr ⟨rfl,rfl⟩)
  ·cases h
 rcases e with ⟨_,rfl⟩|⟨_,rfl⟩|⟨_,rfl⟩
 ·unfold gt1;infer_instance
 ·exact u8s_cl _
 ·exact u8s_cl _
end Go.Proofs.YtdpeaefgbmkegaaGreatDoor
namespace Go.V
open Go.Lib
def Ord3 (x y z:Int):Prop:=(x≤0→y≤0→z≤0)∧(x≤0→y<0→z<0)∧(x<0→y≤0→z<0)∧(x=0→y=0→z=0)
theorem cb_range (a b:List UInt8):-1≤compareBytes a b∧compareBytes a b≤1:=by
 induction a generalizing b with
 | nil=>cases b<;>simp[compareBytes]
 | cons x r ih=>
   cases b with
   | nil=>simp[compareBytes]
   | cons y q=>
     have:=ih q
     simp only[compareBytes]
     split
     ·omega
     ·split
      ·omega
      ·exact this
theorem cb_neg (a b:List UInt8):compareBytes b a=- compareBytes a b:=by
 induction a generalizing b with
 | nil=>cases b<;>simp[compareBytes]
 | cons x r ih=>
   cases b with
   | nil=>simp[compareBytes]
   | cons y q=>
     have:=ih q
     simp only[compareBytes,UInt8.lt_iff_toNat_lt]
     split<;>split<;>first|omega|exact this
theorem cb_zero (a b:List UInt8):compareBytes a b=0↔a=b:=by
 induction a generalizing b with
 | nil=>cases b<;>simp[compareBytes]
 | cons x r ih=>
   cases b with
   | nil=>simp[compareBytes]
   | cons y q=>
     have:=ih q
     simp only[compareBytes,UInt8.lt_iff_toNat_lt,List.cons.injEq]
     rw[← this,← UInt8.toNat_inj]
     split
     ·constructor<;>intro h<;>omega
     ·split
      ·constructor<;>intro h<;>omega
      ·constructor
       ·intro h;exact⟨by omega,h⟩
       ·intro h;exact h.2
theorem cb_trans (a b c:List UInt8):Ord3 (compareBytes a b) (compareBytes b c) (compareBytes a c):=by
 induction a generalizing b c with
 | nil=>cases b<;>cases c<;>simp[compareBytes,Ord3]
 | cons x r ih=>
   cases b with
   | nil=>cases c<;>simp[compareBytes,Ord3]
   | cons y q=>
     cases c with
     | nil=>simp[compareBytes,Ord3]
     | cons z p=>
       have:=ih q p
       simp only[compareBytes,UInt8.lt_iff_toNat_lt]
       unfold Ord3 at *
       (repeat split)<;>omega
structure Ordr {α:Type} (f:α→α→Int):Prop where
 lo:∀ a b,-1≤f a b
 hi:∀ a b,f a b≤1
 neg:∀ a b,f b a=- f a b
 tr:∀ a b c,Ord3 (f a b) (f b c) (f a c)
theorem cb_ordr:Ordr compareBytes:=⟨fun a b=>(cb_range a b).1,fun a b=>(cb_range a b).2,cb_neg,cb_trans⟩
theorem lex3 {x y z u v w:Int} (h1:Ord3 x y z) (h3:Ord3 (-x) z y) (h4:Ord3 z (-y) x) (h2:Ord3 u v w):Ord3 (if x=0 then u else x) (if y=0 then v else y) (if z=0 then w else z):=by
 obtain⟨a1,a2,a3,a4⟩:=h1
 by_cases hx:x=0
 ·by_cases hy:y=0
  ·have hz:=a4 hx hy
   rw[if_pos hx,if_pos hy,if_pos hz];exact h2
  ·rw[if_pos hx,if_neg hy]
   have hz:z≠0:=fun hz=>hy (h3.2.2.2 (by omega) hz)
   rw[if_neg hz]
   have b1:=h3.1
   refine⟨fun _ h=>a1 (by omega) h,fun _ h=>a2 (by omega) h,fun _ h=>?_,fun _ h=>absurd h hy⟩
   have:=a2 (by omega) (by omega);exact this
 ·by_cases hy:y=0
  ·rw[if_neg hx,if_pos hy]
   have hz:z≠0:=fun hz=>hx (h4.2.2.2 hz (by omega))
   rw[if_neg hz]
   refine⟨fun h _=>a1 h (by omega),fun h _=>a3 (by omega) (by omega),fun h _=>a3 h (by omega),fun h=>absurd h hx⟩
  ·rw[if_neg hx,if_neg hy]
   have hz:x≤0→y≤0→z<0:=fun h k=>a2 h (by omega)
   have hz2:x≤0→y≤0→(if z=0 then w else z)<0:=fun h k=>by
    have:=hz h k;rw[if_neg (by omega)];exact this
   exact⟨fun h k=>Int.le_of_lt (hz2 h k),fun h k=>hz2 h (by omega),fun h k=>hz2 (by omega) k,fun h=>absurd h hx⟩
theorem Ordr.lex {α β γ:Type} {f:α→α→Int} {g:β→β→Int} (p:γ→α) (q:γ→β) (hf:Ordr f) (hg:Ordr g):Ordr fun x y=>if f (p x) (p y)=0 then g (q x) (q y) else f (p x) (p y):=by
 constructor
 ·intro a b;split
  ·exact hg.lo _ _
  ·exact hf.lo _ _
 ·intro a b;split
  ·exact hg.hi _ _
  ·exact hf.hi _ _
 ·intro a b
  have h1:=hf.neg (p a) (p b)
  have h2:=hg.neg (q a) (q b)
  split<;>split<;>first|exact h1|exact h2|omega
 ·intro a b c
  have h3:=hf.tr (p b) (p a) (p c)
  have h4:=hf.tr (p a) (p c) (p b)
  rw[hf.neg (p a) (p b)] at h3
  rw[hf.neg (p b) (p c)] at h4
  exact lex3 (hf.tr (p a) (p b) (p c)) h3 h4 (hg.tr (q a) (q b) (q c))
end Go.V
namespace Go.Proofs.YtdpeaefgbmkegaaGreatDoor
open Go Go.V
set_option maxRecDepth 10000
theorem cmpI_ordr:Ordr cmpI:=by
 constructor
 ·intro a b;unfold cmpI;split<;>(try split)<;>omega
 ·intro a b;unfold cmpI;split<;>(try split)<;>omega
 ·intro a b;unfold cmpI;split<;>split<;>(try split)<;>(try split)<;>omega
 ·intro a b c;unfold cmpI Ord3
  refine⟨?_,?_,?_,?_⟩<;>(split<;>(try split)<;>(try split)<;>(try split)<;>(try split)<;>(try split)<;>omega)
theorem rdCmp_eq:rdCmp=Lib.compareBytes:=by
 funext a b
 unfold rdCmp
 split
 ·rename_i h;exact((cb_zero a b).2 h).symm
 ·rfl
structure Nm where
 rd:List UInt8
 s:Int
 b:List UInt8
 k:Int
def nmCmp (x y:Nm):Int:=ucmp x.rd x.s x.b x.k y.rd y.s y.b y.k
theorem or2 (x y:Int):orI [x,y]=if x=0 then y else x:=by
 simp only[orI];by_cases h:y=0<;>simp[h]
theorem or3 (x y z:Int):orI [x,y,z]=if x=0 then(if y=0 then z else y) else x:=by
 simp only[orI];by_cases h:z=0<;>simp[h]
theorem adr_ordr:Ordr fun (x y:Nm)=>adrCmp x.s x.b y.s y.b:=by
 have:=Ordr.lex (γ:=Nm) (fun x=>x.s) (fun x=>x.b) cmpI_ordr cb_ordr
 unfold adrCmp
 simp only[or2];exact this
theorem nm_ordr:Ordr nmCmp:=by
 have h1:=Ordr.lex (γ:=Nm) (fun x=>x) (fun x=>x.k) adr_ordr cmpI_ordr
 have h2:=Ordr.lex (γ:=Nm) (fun x=>x.rd) (fun x=>x) cb_ordr h1
 unfold nmCmp ucmp
 simp only[or3,rdCmp_eq];exact h2
theorem nm_zero (x y:Nm):nmCmp x y=0↔sameU x.rd x.s x.b x.k y.rd y.s y.b y.k=true:=by
 unfold nmCmp ucmp adrCmp sameU
 rw[or3,or2,rdCmp_eq]
 simp only[Bool.and_eq_true,beq_iff_eq]
 have h1:=cb_zero x.rd y.rd
 have h2:=cb_zero x.b y.b
 have h3:∀ a b,cmpI a b=0↔a=b:=fun a b=>by unfold cmpI;split<;>(try split)<;>omega
 have h4:=h3 x.s y.s
 have h5:=h3 x.k y.k
 by_cases a1:x.rd=y.rd
 ·by_cases a2:x.s=y.s
  ·by_cases a3:x.b=y.b
   ·rw[if_pos (h1.2 a1),if_pos (by rw[if_pos (h4.2 a2)];exact h2.2 a3),h5];simp[a1,a2,a3]
   ·have e:¬ Lib.compareBytes x.b y.b=0:=fun e=>a3 (h2.1 e)
    rw[if_pos (h1.2 a1),if_pos (h4.2 a2),if_neg e];simp[e,a3]
  ·have e:¬ cmpI x.s y.s=0:=fun e=>a2 (h4.1 e)
   rw[if_pos (h1.2 a1),if_neg e,if_neg e];simp[e,a2]
 ·have e:¬ Lib.compareBytes x.rd y.rd=0:=fun e=>a1 (h1.1 e)
  rw[if_neg e];simp[e,a1]
section
variable {x y z:Nm} {a b c:Int}
def nmU (x:Nm) (a:Int):List PV:=urc x.rd x.s x.b x.k a
def okN (x:Nm):Prop:=x.rd.length=8∧x.b.length=16
instance (x:Nm) (a:Int):PlL (nmU x a):=by unfold nmU;infer_instance
instance (x:Nm) (a:Int):ClL (nmU x a):=by unfold nmU;infer_instance
theorem nmU_sc:(nmU x a).all scalar=true:=urc_sc _ _ _ _ _
theorem nmU_all (h:okN x):cut (nmU x a) 0 (some 27)=some (.agg (nmU x a)):=urc_all h.1 h.2
theorem nmU_len (h:okN x):(nmU x a).length=27:=urc_len h.1 h.2
end
theorem big_be (n:Nat):∀ (k a:Nat),big (be n k) a=a * 256 ^ k+n % 256 ^ k
 | 0,a=>by simp[big,be,Nat.mod_one]
 | k+1,a=>by
   rw[be,big,big_be n k]
   have h1:(UInt8.ofNat (n / 256 ^ k)).toNat=n / 256 ^ k % 256:=by simp
   rw[h1,Nat.pow_succ,Nat.mod_mul,Nat.add_mul,Nat.mul_assoc,Nat.mul_comm (n / 256 ^ k % 256),Nat.add_assoc,Nat.add_comm (256 ^ k * _),Nat.mul_comm 256]
def uz:List PV:=[D.o,D.o,D.o,D.o,D.o,D.o,D.o,D.o,.int .i64 0,D.o,D.o,D.o,D.o,D.o,D.o,D.o,D.o,D.o,D.o,D.o,D.o,D.o,D.o,D.o,D.o,.int .i64 0,.int .i64 0]
def ubN (x:Nm) (a:Int):List UInt8:=ubytes x.rd x.b x.k a
def okR (x:Nm) (a:Int):Bool:=okU x.s x.b x.k a
section
variable {x y:Nm} {a b l:Int}
theorem spl_all (h:okN x):splice uz 0 (nmU x a)=nmU x a:=by
 unfold splice
 rw[List.drop_of_length_le (by rw[nmU_len h];exact Nat.le_refl _)]
 simp
theorem spl_all' {cs:List PV} (hc:cs.length=27) (h:okN x):splice cs 0 (nmU x a)=nmU x a:=by
 unfold splice
 rw[List.drop_of_length_le (by rw[nmU_len h,hc];exact Nat.le_refl _)]
 simp
theorem spl_label (h:okN x):splice (nmU x a) 26 [.int .i64 l]=nmU x l:=by
 have h1:(u8c x.rd++pfx x.s x.b x.k).length=26:=by rw[List.length_append,u8c_len,pfx_len,h.1,h.2]
 unfold splice nmU urc
 rw[← List.append_assoc,← List.append_assoc,List.take_left' h1,List.drop_of_length_le (by simp only[List.length_append] at h1 ⊢;simp only[List.length_cons,List.length_nil];omega),List.append_nil]
abbrev ukk:List CK:=[.i .u8,.i .u8,.i .u8,.i .u8,.i .u8,.i .u8,.i .u8,.i .u8,.i .i64,.i .u8,.i .u8,.i .u8,.i .u8,.i .u8,.i .u8,.i .u8,.i .u8,.i .u8,.i .u8,.i .u8,.i .u8,.i .u8,.i .u8,.i .u8,.i .u8,.i .i64,.i .i64]
theorem eqC_U (h:okN x) (h':okN y):eqCells ukk (nmU x a) (nmU y b)=some (sameU x.rd x.s x.b x.k y.rd y.s y.b y.k&&(a==b)):=by
 have h1:=eqC_app (eqC_nm (s:=x.s) (s':=y.s) (k:=x.k) (k':=y.k) h.1 h'.1 h.2 h'.2) (eqC_i a b)
 have e:∀ (z:Nm) (c:Int),nmc z.rd z.s z.b z.k++[.int .i64 c]=nmU z c:=fun z c=>by unfold nmc nmU urc;rw[List.append_assoc]
 rw[e,e] at h1
 exact h1
theorem okR_lab (h:okR x a=true):0≤a∧a≤1048575:=by
 unfold okR okU at h;simp only[Bool.and_eq_true,decide_eq_true_eq] at h;exact⟨h.1.2,h.2⟩
theorem ubN_cons (x:Nm) (a:Int):ubN x a=UInt8.ofNat (88+x.k).toNat::(be (a.toNat * 16+1) 3++(x.rd++x.b.take ((x.k+7) / 8).toNat)):=by unfold ubN ubytes;rw[List.append_assoc]
theorem ubN_len (h:okN x):(ubN x a).length=12+min ((x.k+7) / 8).toNat 16:=by
 rw[ubN_cons];simp[be_len,h.1,h.2];omega
theorem uNmBytes (h:okN x) (ho:okR x a=true):U Tryz.prog 259 [.agg (nmU x a)] (.tup [.sl (bsl (ubN x a)),.int .i64 0]):=(uBytesU h.1 h.2).1 ho
theorem uNmBytes0 (h:okN x) (ho:okR x a=false):U Tryz.prog 259 [.agg (nmU x a)] (.tup [.sl [],.int .i64 1]):=(uBytesU h.1 h.2).2 ho
end
end Go.Proofs.YtdpeaefgbmkegaaGreatDoor
