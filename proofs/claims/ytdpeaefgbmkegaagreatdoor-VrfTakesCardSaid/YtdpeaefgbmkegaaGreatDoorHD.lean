/- mroute.Bytes: what it writes (its walk is not written yet). -/
import Derived.Test.YtdpeaefgbmkegaaGreatDoorHC
namespace Go.Proofs.YtdpeaefgbmkegaaGreatDoor
open Go Go.V
set_option maxRecDepth 10000
def partsB (m:Mr) (p:Pt):List UInt8:=m.key++((if p.rd=true then m.rd else[])++((if p.aa=true then be m.aa.toNat 4 else[])++((if p.fl=true then longF m.s++longF m.g else[])++(if p.fr=true then abytes m.f else[]))))
def mbytes (m:Mr):List UInt8:=UInt8.ofNat m.k.toNat::UInt8.ofNat (partsB m (ofF m.k).1).length::partsB m (ofF m.k).1
theorem longF_len {a:Ad} (h:okD a):(longF a).length≤17:=by
 have:=abytes_len h
 unfold longF
 rw[List.length_cons];omega
theorem partsB_len {m:Mr} (h:okM m) (p:Pt):(partsB m p).length≤m.key.length+62:=by
 have h1:=longF_len h.s
 have h2:=longF_len h.g
 have h3:=abytes_len h.f
 have h4:=h.rd
 have h5:=be_len m.aa.toNat 4
 unfold partsB
 cases p with
 | mk a b c d=>cases a<;>cases b<;>cases c<;>cases d<;>simp only[List.length_append,if_true,if_false,Bool.false_eq_true,List.length_nil]<;>omega
theorem cf147r:cFun Tryz.prog rawF true Tryz.f147=some ⟨44,3,vb147,[.tmp 6,.tmp 7],true⟩:=by kernel_rfl
theorem tPutR {σ L:VHeap} {Post:KP} {q z N K:Nat} {l:List UInt8} (h1:1≤z) (h4:z≤4) (hn:q<256 ^ z) (hl:l.length≤1000000) (h0:l≠[]) (hk:∀ g1 o1,Post (.tup [.row (N+(K+4)) (z+2),.int .i64 0]) (σ++(L++[(1,VObj.row 1 [] false),(g1,o1),(0,.dead),(1,.row 1 [] false),(z+2,.row 1 (bsl (l++be q z)) false),(0,.dead)])))
  (hN:σ.length=N:=by exact z_hn) (hL:L.length=K:=by exact z_ll):T Tryz.prog 147 [.sl (bsl l),.int .i64 q,.int .i64 z] (σ++L) Post:=by
 subst hN hL
 have p8:∀ i,(256:Nat) ^ i=2 ^ (8 * i):=fun i=>by rw[Nat.pow_mul]
 have hn4:q<256 ^ 4:=Nat.lt_of_lt_of_le hn (Nat.pow_le_pow_right (by omega) h4)
 have b1:ibin .shr .i64 (q:Int) .i64 (8 * (z:Int))=some (.int .i64 0):=by
  have:=ib_shrN (a:=q) (k:=.i64) (k':=.i64) (n:=8 * z) (by show 8 * z≤64;omega)
  rw[← p8,Nat.div_eq_of_lt hn] at this
  exact_mod_cast this
 refine T.walkR Tryz.func147 cf147r (Nat.le_of_ble_eq_true rfl) rfl ?_
 refine W ?_
 refine ct ?_
 refine tCloneR (l:=l) (by omega) (fun h=>absurd h h0) ?_
 refine W ?_
 refine lp (fun k e s=>∃ (i:Nat) (g1:Nat) (o1:VObj),i+k=z∧e 9=.int .i64 (8 * ((z:Int) - 1 - i))∧e 8=.row ((σ++L).length+4) (i+2)∧
   s=(σ++L)++[(1,.row 1 [] false),(g1,o1),(0,.dead),(1,.row 1 [] false),(i+2,.row 1 (bsl (l++(be q z).take i)) false),(0,.dead)]) z ⟨0,0,.dead,by simp,by simp;rfl,rfl,by rw[List.take_zero,List.append_nil]⟩ ?_
 rintro k u' _ ⟨i,g1,o1,hi,e9,e8,rfl⟩
 by_cases h5:i<z
 ·have b2:ibin .shr .i64 (q:Int) .i64 (8 * ((z:Int) - 1 - i))=some (.int .i64 ((q / 256 ^ (z - 1 - i):Nat):Int)):=by
   have:=ib_shrN (a:=q) (k:=.i64) (k':=.i64) (n:=8 * (z - 1 - i)) (by show 8 * (z - 1 - i)≤64;omega)
   rw[← p8] at this
   rw[← this];congr 1;omega
  have b3:=wrap8 (q / 256 ^ (z - 1 - i))
  have b4:(be q z).length=z:=be_len q z
  refine W ?_
  refine⟨k - 1,by omega,i+1,g1+1,.row 1 [[byt (UInt8.ofNat (q / 256 ^ (z - 1 - i)))]] false,by omega,by show PV.int _ _=_;congr 1;omega,rfl,?_⟩
  rw[be_next q z i h5,← List.append_assoc]
 ·have h6:(be q z).take i=be q z:=List.take_of_length_le (by rw[be_len];omega)
  have hiz:i=z:=by omega
  rw[h6]
  refine W ?_
  refine ret_raw (.inl rfl) rfl (by exact z_rw) ?_
  rw[List.length_append,List.append_assoc,Nat.add_assoc,hiz]
  exact hk g1 o1
end Go.Proofs.YtdpeaefgbmkegaaGreatDoor
