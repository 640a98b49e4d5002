/- addr.written, addr.text6, addr.Text, addr.PrefixText. -/
import Derived.Test.YtdpeaefgbmkegaaGreatDoorGA
import Derived.Test.YtdpeaefgbmkegaaGreatDoorED
namespace Go.Proofs.YtdpeaefgbmkegaaGreatDoor
open Go Go.V
set_option maxRecDepth 10000
theorem join_le {ss:List (List UInt8)} {sep:List UInt8} {k:Nat} (h:∀ s,s∈ss→s.length≤k):(Lib.join ss sep).length≤ss.length * (k+sep.length):=by
 cases ss with
 | nil=>simp[Lib.join_nil]
 | cons x r=>
   rw[Lib.join_cons,List.length_append,List.length_cons]
   have h1:=h x (by simp)
   have h2:(Lib.joinTail sep r).length≤r.length * (k+sep.length):=by
    unfold Lib.joinTail
    have h3:∀ s,s∈r→s.length≤k:=fun s hs=>h s (by simp[hs])
    clear h h1
    induction r with
    | nil=>simp
    | cons y q ih=>
      rw[List.map_cons,List.flatten_cons,List.length_append,List.length_append,List.length_cons]
      have:=ih (fun s hs=>h3 s (by simp[hs]))
      have:=h3 y (by simp)
      rw[Nat.add_mul];omega
   rw[Nat.add_mul];omega
theorem hex_le (n:Nat):(hex n).length≤n+1:=by
 induction n using hex.induct with
 | case1 n h=>rw[hex_lt h];simp
 | case2 n h ih=>rw[hex_ge h];simp;omega
def writ (l:List Nat):List UInt8:=Lib.join (l.map hex) [58]
theorem writ_len {l:List Nat} (h:∀ n,n∈l→n<65536) (hl:l.length≤8):(writ l).length≤1000000:=by
 have:=join_le (ss:=l.map hex) (sep:=[58]) (k:=65536) (fun s hs=>by
  obtain⟨n,hn,rfl⟩:=List.mem_map.1 hs
  have:=hex_le n;have:=h n hn;omega)
 rw[List.length_map] at this
 have h2:l.length * (65536+[(58:UInt8)].length)≤8 * (65536+[(58:UInt8)].length):=Nat.mul_le_mul_right _ hl
 have h3:8 * (65536+[(58:UInt8)].length)=524296:=rfl
 unfold writ;omega
theorem uWritten {l:List Nat} (h:∀ n,n∈l→n<65536) (hl:l.length≤8):U Tryz.prog 176 [.sl (isl l)] (.str (writ l)):=by
 intro σ Post hk
 have hw:=writ_len h hl
 refine T176 fun hB hA=>?_
 refine W ?_
 refine lp (fun j e s=>∃ (i g1:Nat) (o1:VObj),i+j=l.length∧e 8=.int .i64 i∧e 3=.row (σ.length+0) (i+1)∧s=σ++[(i+1,.row 1 (strRow ((l.take i).map hex)) false),(g1,o1),(0,.dead)]) l.length ⟨0,0,.dead,by simp,rfl,rfl,rfl⟩ ?_
 rintro j u _ ⟨i,g1,o1,hi,e8,e3,rfl⟩
 by_cases h5:i<l.length
 ·obtain⟨x,hx⟩:∃ x,l[i]?=some x:=⟨_,List.getElem?_eq_getElem h5⟩
  have hx2:(isl l)[(i:Int).toNat]?=some [.int .i64 x]:=by rw[Int.toNat_natCast,List.getElem?_map,hx];rfl
  have hxl:=h x (List.mem_of_getElem? hx)
  have hlen:(strRow ((l.take i).map hex)).length=i:=by simp;omega
  refine W ?_
  refine cu (uFmt (n:=x) (by omega)) ?_
  refine W ?_
  refine⟨j - 1,by omega,i+1,g1+1,.row 1 [[.str (hex x)]] false,by omega,rfl,rfl,?_⟩
  have h7:l.take (i+1)=l.take i++[x]:=by
   rw[List.take_succ_eq_append_getElem h5];congr 2
   rw[List.getElem?_eq_getElem h5] at hx;exact Option.some.inj hx
  rw[h7];simp[strRow]
 ·rw[List.take_of_length_le (by omega)]
  refine W ?_
  refine cu (uJoin (ss:=l.map hex) (sep:=[58]) (by simp;omega) (by show (writ l).length≤_;omega)) ?_
  refine W ?_
  exact hk
def six (b:List UInt8):List UInt8:=
 let l:=nums b
 let g:=gapL l 0 (0,0)
 if g.2<2 then writ l else writ (l.take g.1)++[58,58]++writ (l.drop (g.1+g.2))
theorem gapL_le (l:List Nat) (i:Nat) (s:Nat × Nat) (h:s.1+s.2≤i+l.length):(gapL l i s).1+(gapL l i s).2≤i+l.length:=by
 induction l generalizing i s with
 | nil=>exact h
 | cons x r ih=>
   rw[gapL,List.length_cons,show i+(r.length+1)=(i+1)+r.length by omega]
   apply ih
   split
   ·have:=zr_le (x::r);rw[List.length_cons] at this;show i+zr (x::r)≤_;omega
   ·rw[List.length_cons] at h;omega
theorem uSix {s:Int} {b:List UInt8} (hb:b.length=16):U Tryz.prog 125 [.agg (adr s b)] (.str (six b)):=by
 intro σ Post hk
 have hs:=adr_sc s b
 have hl17:(adr s b).length=17:=by rw[adr_len,hb]
 have hn8:(nums b).length=8:=by rw[nums_len,hb]
 have hlc:(inc (nums b)).length=8:=by rw[inc_len,hn8]
 have hsc:=inc_sc (nums b)
 have hlt:=nums_lt b
 have c0:cut (adr s b) 0 (some 17)=some (.agg (adr s b)):=by
  simp only[cut];rw[if_pos (by omega),List.drop_zero,List.take_of_length_le (by omega)]
 have c1:cut (inc (nums b)) 0 (some 8)=some (.agg (inc (nums b))):=by
  simp only[cut];rw[if_pos (by omega),List.drop_zero,List.take_of_length_le (by omega)]
 have d1:splice [.int .i64 0,.int .i64 0,.int .i64 0,.int .i64 0,.int .i64 0,.int .i64 0,.int .i64 0,.int .i64 0] 0 (inc (nums b))=inc (nums b):=by
  unfold splice;rw[hlc];simp
 have hgl:=gapL_le (nums b) 0 (0,0) (by simp)
 rw[hn8] at hgl
 unfold six at hk
 dsimp only at hk
 refine T125 fun hB hA=>?_
 refine W ?_
 refine cu (uNumbers hb) ?_
 refine W ?_
 refine cu (uGap hn8) ?_
 by_cases h2:(gapL (nums b) 0 (0,0)).2<2
 ·rw[if_pos h2] at hk
  refine W ?_
  refine cu (uWritten (l:=((nums b).drop 0).take 8) (by rw[List.drop_zero,List.take_of_length_le (by omega)];exact hlt) (by simp;omega)) ?_
  rw[List.drop_zero,List.take_of_length_le (by omega)]
  refine W ?_
  exact hk
 ·rw[if_neg h2] at hk
  have hw1:=writ_len (l:=(nums b).take (gapL (nums b) 0 (0,0)).1) (fun n hn=>hlt n (List.mem_of_mem_take hn)) (by simp;omega)
  have hw2:=writ_len (l:=(nums b).drop ((gapL (nums b) 0 (0,0)).1+(gapL (nums b) 0 (0,0)).2)) (fun n hn=>hlt n (List.mem_of_mem_drop hn)) (by simp;omega)
  generalize (gapL (nums b) 0 (0,0)).1=f at *
  generalize (gapL (nums b) 0 (0,0)).2=m at *
  refine Wo ?_
  refine drJ (fun h=>∃ fz,vGet h (σ.length+1) 1=some (.box (inc (nums b)) fz)) [(2,0),(1,1),(2,4),(2,5),(2,6),(2,7),(0,2),(2,3),(0,8),(2,9),(2,10)] (by kernel_rfl) (by kernel_rfl) (by exact z_ol) ⟨false,lget rfl rfl⟩ ?_
  refine W ?_
  refine sv2n (v:=.bview (σ.length+1) 1 (f+m) (8 - (f+m))) (fun hh hJ=>?_) ?_
  ·obtain⟨fz,hJ⟩:=hJ
   refine y_sliceArr (l:=f+m) (u:=8) (by exact rfl) hJ ?_ (by exact rfl) (by exact rfl) (by omega) (by omega) (by omega) (by omega) (by omega)
   show bound (some (PV.int .i64 ((f:Int)+(m:Int)))) 0=_
   rw[bd_i (by omega)];congr 1
  ·refine sv_0 ?_
   refine cu (uWritten (l:=((nums b).drop 0).take f) (fun n hn=>hlt n (List.mem_of_mem_drop (List.mem_of_mem_take hn))) (by simp;omega)) ?_
   refine st_end ⟨⟨true,lget rfl rfl⟩,?_⟩
   rw[List.drop_zero]
   refine W ?_
   refine sv_0 ?_
   refine cu (uWritten (l:=((nums b).drop (f+m)).take (8 - (f+m))) (fun n hn=>hlt n (List.mem_of_mem_drop (List.mem_of_mem_take hn))) (by simp;omega)) ?_
   refine st_end ⟨⟨true,lget rfl rfl⟩,?_⟩
   rw[List.take_of_length_le (l:=(nums b).drop (f+m)) (by simp;omega)]
   refine W ?_
   exact hk
def itxt (n:Nat):List UInt8:=Lib.itoa (n:Int)
theorem dec_le (n:Nat):(Lib.decDigits n).length≤n+1∧Lib.decDigits n≠[]:=by
 induction n using Lib.decDigits.induct with
 | case1 n h=>rw[Lib.decDigits,dif_pos h];simp
 | case2 n h ih=>rw[Lib.decDigits,dif_neg h];simp;omega
theorem itxt_le (n:Nat):(itxt n).length≤n+1:=by
 unfold itxt Lib.itoa
 rw[if_neg (by omega)];exact(dec_le n).1
def atext (s:Int) (b:List UInt8):List UInt8:=
 if okA s b=true then(if s=4 then Lib.join ((b.take 4).map fun x=>itxt x.toNat) [46] else if s=16 then six b else[]) else[]
theorem uText {s:Int} {b:List UInt8} (hb:b.length=16):U Tryz.prog 84 [.agg (adr s b)] (.str (atext s b)):=by
 intro σ Post hk
 have hs:=adr_sc s b
 have hl17:(adr s b).length=17:=by rw[adr_len,hb]
 have c0:cut (adr s b) 0 (some 17)=some (.agg (adr s b)):=by
  simp only[cut];rw[if_pos (by omega),List.drop_zero,List.take_of_length_le (by omega)]
 have c1:cut (adr s b) 0 none=some (.int .i64 s):=rfl
 unfold atext at hk
 refine T84 fun hB hA=>?_
 refine W ?_
 refine cu (uRightA hb) ?_
 cases ha:okA s b with
 | false=>
   rw[if_neg (by simp[ha])] at hk
   refine W ?_
   exact hk
 | true=>
   rw[if_pos ha] at hk
   by_cases h4:s=4
   ·subst h4
    rw[if_pos rfl] at hk
    refine W ?_
    refine lp (fun j e h=>∃ (i g1:Nat) (o1:VObj),i+j=4∧e 16=.int .i64 i∧e 3=.row (σ.length+1) (i+1)∧h=σ++[(1,.box (adr 4 b) false),(i+1,.row 1 (strRow ((b.take i).map fun x=>itxt x.toNat)) false),(g1,o1),(0,.dead)]) 4 ⟨0,0,.dead,by simp,rfl,rfl,rfl⟩ ?_
    rintro j u _ ⟨i,g1,o1,hi,e16,e3,rfl⟩
    by_cases h5:i<4
    ·obtain⟨x,hx⟩:∃ x,b[i]?=some x:=⟨_,List.getElem?_eq_getElem (by omega)⟩
     have hxl:=x.toNat_lt
     have hlen:(strRow ((b.take i).map fun x=>itxt x.toNat)).length=i:=by simp;omega
     have c2:cut (adr 4 b) (1+i) none=some (byt x):=cut_adr hx
     refine W ?_
     refine cu (uItoa (n:=(x.toNat:Int)) (by omega) (by omega)) ?_
     refine W ?_
     refine⟨j - 1,by omega,i+1,g1+1,.row 1 [[.str (itxt x.toNat)]] false,by omega,rfl,rfl,?_⟩
     have h7:b.take (i+1)=b.take i++[x]:=by
      have h8:i<b.length:=by omega
      rw[List.take_succ_eq_append_getElem h8];congr 2
      rw[List.getElem?_eq_getElem h8] at hx;exact Option.some.inj hx
     rw[h7];simp[strRow,itxt]
    ·have e4:i=4:=by omega
     subst e4
     have hjl:=join_le (ss:=(b.take 4).map fun x=>itxt x.toNat) (sep:=[46]) (k:=256) (fun s hs=>by
      obtain⟨x,_,rfl⟩:=List.mem_map.1 hs
      have:=itxt_le x.toNat;have:=x.toNat_lt;omega)
     have hln:((b.take 4).map fun x=>itxt x.toNat).length=4:=by simp[hb]
     rw[hln] at hjl
     refine W ?_
     refine cu (uJoin (ss:=(b.take 4).map fun x=>itxt x.toNat) (sep:=[46]) (by omega) (by simp only[List.length_cons,List.length_nil] at hjl;omega)) ?_
     refine W ?_
     exact hk
   ·rw[if_neg h4] at hk
    by_cases h16:s=16
    ·subst h16
     rw[if_pos rfl] at hk
     refine W ?_
     refine cu (uSix hb) ?_
     refine W ?_
     exact hk
    ·rw[if_neg h16] at hk
     refine W ?_
     exact hk
def ptext (s:Int) (b:List UInt8) (k:Int):List UInt8:=if okP s b k=true then atext s b++[47]++Lib.itoa k else[]
theorem ptext_nil {s k:Int} {b:List UInt8}:ptext s b k=[]↔okP s b k=false:=by
 unfold ptext
 cases h:okP s b k
 ·simp
 ·simp
theorem six_le {b:List UInt8} (hb:b.length=16):(six b).length≤3000000:=by
 have hn8:(nums b).length=8:=by rw[nums_len,hb]
 have hlt:=nums_lt b
 unfold six
 dsimp only
 split
 ·have:=writ_len hlt (by omega);omega
 ·have h1:=writ_len (l:=(nums b).take (gapL (nums b) 0 (0,0)).1) (fun n hn=>hlt n (List.mem_of_mem_take hn)) (by simp;omega)
  have h2:=writ_len (l:=(nums b).drop ((gapL (nums b) 0 (0,0)).1+(gapL (nums b) 0 (0,0)).2)) (fun n hn=>hlt n (List.mem_of_mem_drop hn)) (by simp;omega)
  simp only[List.length_append,List.length_cons,List.length_nil];omega
theorem atext_le {s:Int} {b:List UInt8} (hb:b.length=16):(atext s b).length≤3000000:=by
 unfold atext
 split
 ·split
  ·have hjl:=join_le (ss:=(b.take 4).map fun x=>itxt x.toNat) (sep:=[46]) (k:=256) (fun s hs=>by
    obtain⟨x,_,rfl⟩:=List.mem_map.1 hs
    have:=itxt_le x.toNat;have:=x.toNat_lt;omega)
   have hln:((b.take 4).map fun x=>itxt x.toNat).length=4:=by simp[hb]
   rw[hln] at hjl
   simp only[List.length_cons,List.length_nil] at hjl;omega
  ·split
   ·exact six_le hb
   ·simp
 ·simp
theorem uPrefixText {s k:Int} {b:List UInt8} (hb:b.length=16):U Tryz.prog 282 [.agg (pfx s b k)] (.str (ptext s b k)):=by
 intro σ Post hk
 have hs:=pfx_sc s k b
 have hl:=pfx_len (s:=s) (k:=k) (b:=b)
 have hl1:=adr_len s b
 have c1:cut (pfx s b k) 0 (some 17)=some (.agg (adr s b)):=by
  simp only[cut];rw[if_pos (by omega),List.drop_zero,pfx,List.take_left' (by omega)]
 have c2:cut (pfx s b k) 17 none=some (.int .i64 k):=by
  simp only[cut];rw[pfx,List.getElem?_append_right (by omega),hl1,hb];rfl
 have c3:cut (pfx s b k) 0 (some 18)=some (.agg (pfx s b k)):=by
  simp only[cut];rw[if_pos (by omega),List.drop_zero,List.take_of_length_le (by omega)]
 unfold ptext at hk
 refine T282 fun hB hA=>?_
 refine W ?_
 refine cu (uRightP hb) ?_
 cases ho:okP s b k with
 | false=>
   rw[if_neg (by simp[ho])] at hk
   refine W ?_
   exact hk
 | true=>
   rw[if_pos ho] at hk
   have hal:=atext_le (s:=s) hb
   have hk2:0≤k∧k≤8 * s∧okA s b=true:=by
    unfold okP at ho;simp only[Bool.and_eq_true,decide_eq_true_eq] at ho;exact⟨ho.1.1.2,ho.1.2,ho.1.1.1.1⟩
   have hs16:s≤16:=by have h:=hk2.2.2;unfold okA at h;simp at h;omega
   have hil:(Lib.itoa k).length≤1000:=by
    have:=itxt_le k.toNat
    unfold itxt at this
    rw[Int.toNat_of_nonneg hk2.1] at this;omega
   refine W ?_
   refine s1 (uText hb) ?_
   refine W ?_
   refine s1 (uItoa (n:=k) (by omega) (by omega)) ?_
   refine W ?_
   exact hk
def urc (rd:List UInt8) (s:Int) (b:List UInt8) (k a:Int):List PV:=u8c rd++(pfx s b k++[.int .i64 a])
instance (rd:List UInt8) (s k a:Int) (l:List UInt8):PlL (urc rd s l k a):=by unfold urc;infer_instance
instance (rd:List UInt8) (s k a:Int) (l:List UInt8):ClL (urc rd s l k a):=by unfold urc;infer_instance
theorem urc_sc (rd:List UInt8) (s k a:Int) (l:List UInt8):(urc rd s l k a).all scalar=true:=by
 rw[urc,List.all_append,List.all_append,u8c_sc,pfx_sc];rfl
section
variable {rd b:List UInt8} {s k a:Int}
theorem urc_len (hr:rd.length=8) (hb:b.length=16):(urc rd s b k a).length=27:=by
 simp[urc,pfx_len,u8c_len,hr,hb]
theorem urc_all (hr:rd.length=8) (hb:b.length=16):cut (urc rd s b k a) 0 (some 27)=some (.agg (urc rd s b k a)):=by
 have:=urc_len (s:=s) (k:=k) (a:=a) hr hb
 simp only[cut];rw[if_pos (by omega),List.drop_zero,List.take_of_length_le (by omega)]
theorem urc_pfx (hr:rd.length=8) (hb:b.length=16):cut (urc rd s b k a) 8 (some 18)=some (.agg (pfx s b k)):=by
 have:=urc_len (s:=s) (k:=k) (a:=a) hr hb
 have hp:=pfx_len (s:=s) (k:=k) (b:=b)
 simp only[cut];rw[if_pos (by omega),urc,List.drop_left' (by rw[u8c_len,hr]),List.take_left' (by omega)]
theorem urc_rd (hr:rd.length=8) (hb:b.length=16):cut (urc rd s b k a) 0 (some 8)=some (.agg (u8c rd)):=by
 have:=urc_len (s:=s) (k:=k) (a:=a) hr hb
 simp only[cut];rw[if_pos (by omega),List.drop_zero,urc,List.take_left' (by rw[u8c_len,hr])]
theorem urc_adr (hr:rd.length=8) (hb:b.length=16):cut (urc rd s b k a) 8 (some 17)=some (.agg (adr s b)):=by
 have:=urc_len (s:=s) (k:=k) (a:=a) hr hb
 have hp:=adr_len s b
 simp only[cut];rw[if_pos (by omega),urc,List.drop_left' (by rw[u8c_len,hr]),pfx,List.append_assoc,List.take_left' (by omega)]
theorem urc_k (hr:rd.length=8) (hb:b.length=16):cut (urc rd s b k a) 25 none=some (.int .i64 k):=by
 have hp:=adr_len s b
 simp only[cut];rw[urc,pfx,List.getElem?_append_right (by rw[u8c_len];omega),u8c_len,hr,List.append_assoc,List.getElem?_append_right (by omega),hp,hb];rfl
theorem urc_a (hr:rd.length=8) (hb:b.length=16):cut (urc rd s b k a) 26 none=some (.int .i64 a):=by
 have hp:=pfx_len (s:=s) (k:=k) (b:=b)
 simp only[cut];rw[urc,List.getElem?_append_right (by rw[u8c_len];omega),u8c_len,hr,List.getElem?_append_right (by omega),hp,hb];rfl
theorem urc_vrd (hr:rd.length=8):VCut (urc rd s b k a) 0 8 (bsl rd):=⟨by
 rw[List.drop_zero,urc,List.take_left' (by rw[u8c_len,hr])];simp[u8c,bsl,Function.comp_def]⟩
theorem urc_vb (hr:rd.length=8) (hb:b.length=16) (w:Nat) (hw:w≤16):VCut (urc rd s b k a) 9 w (bsl (b.take w)):=⟨by
 have h1:(urc rd s b k a).drop 9=u8c b++([.int .i64 k]++[.int .i64 a]):=by
  rw[urc,show 9=(u8c rd).length+1 by rw[u8c_len,hr],← List.drop_drop,List.drop_left,pfx,adr,List.append_assoc,List.cons_append,List.drop_succ_cons,List.drop_zero]
 rw[h1,List.take_append_of_le_length (by rw[u8c_len];omega)]
 simp[u8c,bsl,List.map_take,Function.comp_def]⟩
def okU (s:Int) (b:List UInt8) (k a:Int):Bool:=okP s b k&&decide (0≤a)&&decide (a≤1048575)
theorem uRightU (hr:rd.length=8) (hb:b.length=16):U Tryz.prog 272 [.agg (urc rd s b k a)] (.bool (okU s b k a)):=by
 intro σ Post hk
 have hs:=urc_sc rd s k a b
 have c1:=urc_pfx (s:=s) (k:=k) (a:=a) hr hb
 have c2:=urc_a (s:=s) (k:=k) (a:=a) hr hb
 unfold okU at hk
 refine T272 fun hB hA=>?_
 refine W ?_
 refine cu (uPrefixText hb) ?_
 cases ho:okP s b k with
 | false=>
   have hne:sbin .neq (ptext s b k) []=some (.bool false):=by
    rw[ptext_nil.2 ho];rfl
   rw[ho] at hk
   refine W ?_
   exact hk
 | true=>
   have hne:sbin .neq (ptext s b k) []=some (.bool true):=by
    have:ptext s b k≠[]:=fun e=>by have:=ptext_nil.1 e;rw[ho] at this;cases this
    rw[sb_neq];simp[this]
   rw[ho,Bool.true_and] at hk
   by_cases h0:0≤a
   ·by_cases h1:a≤1048575
    ·rw[show (decide (0≤a)&&decide (a≤1048575))=true by simp[h0,h1]] at hk
     refine W ?_
     exact hk
    ·rw[show (decide (0≤a)&&decide (a≤1048575))=false by simp[h1]] at hk
     refine W ?_
     exact hk
   ·rw[show (decide (0≤a)&&decide (a≤1048575))=false by simp[h0]] at hk
    refine W ?_
    exact hk
def ubytes (rd b:List UInt8) (k a:Int):List UInt8:=UInt8.ofNat (88+k).toNat::(be (a.toNat * 16+1) 3++rd++b.take ((k+7) / 8).toNat)
theorem uBytesU (hr:rd.length=8) (hb:b.length=16):(okU s b k a=true→U Tryz.prog 259 [.agg (urc rd s b k a)] (.tup [.sl (bsl (ubytes rd b k a)),.int .i64 0]))∧(okU s b k a=false→U Tryz.prog 259 [.agg (urc rd s b k a)] (.tup [.sl [],.int .i64 1])):=by
 have hs:=urc_sc rd s k a b
 have c0:=urc_all (s:=s) (k:=k) (a:=a) hr hb
 have c1:=urc_k (s:=s) (k:=k) (a:=a) hr hb
 have c2:=urc_a (s:=s) (k:=k) (a:=a) hr hb
 have hlen:=urc_len (s:=s) (k:=k) (a:=a) hr hb
 constructor
 ·intro ho σ Post hk
  have hk2:0≤k∧k≤8 * s∧okA s b=true∧0≤a∧a≤1048575:=by
   unfold okU okP at ho;simp only[Bool.and_eq_true,decide_eq_true_eq] at ho
   exact⟨ho.1.1.1.1.2,ho.1.1.1.2,ho.1.1.1.1.1.1,ho.1.2,ho.2⟩
  obtain⟨h1,h2,h3,h4,h5⟩:=hk2
  have hs16:s≤16:=by unfold okA at h3;simp at h3;omega
  obtain⟨a',rfl⟩:=Int.eq_ofNat_of_zero_le h4
  have hw:IntKind.i64.wrap ((k+7).tdiv 8)=(k+7) / 8:=by
   rw[Int.tdiv_eq_ediv_of_nonneg (by omega),w_i64 (by omega) (by omega)]
  have v1:=urc_vrd (rd:=rd) (b:=b) (s:=s) (k:=k) (a:=(a':Int)) hr
  have v2:=urc_vb (rd:=rd) (b:=b) (s:=s) (k:=k) (a:=(a':Int)) hr hb ((k+7) / 8).toNat (by omega)
  have w8:IntKind.u8.wrap (88+k)=((UInt8.ofNat (88+k).toNat).toNat:Int):=by
   rw[← wrap8,Int.toNat_of_nonneg (by omega)]
  have hbl:=be_len (a' * 16+1) 3
  refine T259 fun hB hA=>?_
  refine W ?_
  refine cu (uRightU hr hb) ?_
  rw[ho]
  refine W ?_
  refine cu (uLabel (a:=a') (by omega)) ?_
  refine W ?_
  refine cu (uWhole (n:=k) (by omega) (by omega)) ?_
  rw[hw]
  refine W ?_
  have w9:(88+k)=((UInt8.ofNat (88+k).toNat).toNat:Int):=by rw[← w8,w_u8 (by omega) (by omega)]
  have e:([PV.int IntKind.u8 (88+k)]::(bsl (be (a' * 16+1) 3)++bsl rd++bsl (b.take ((k+7) / 8).toNat)))=bsl (ubytes rd b k a'):=by
   have h0:(a':Int).toNat=a':=Int.toNat_natCast a'
   unfold ubytes
   rw[h0]
   show _=[byt (UInt8.ofNat (88+k).toNat)]::List.map (fun b=>[byt b]) _
   rw[List.map_append,List.map_append,show ([byt (UInt8.ofNat (88+k).toNat)]:List PV)=[PV.int IntKind.u8 (88+k)] by rw[byt,← w9]]
  rw[← e] at hk
  exact hk
 ·intro ho σ Post hk
  refine T259 fun hB hA=>?_
  refine W ?_
  refine cu (uRightU hr hb) ?_
  rw[ho]
  refine W ?_
  exact hk
end
def nmc (rd:List UInt8) (s:Int) (b:List UInt8) (k:Int):List PV:=u8c rd++pfx s b k
theorem eqC_nm {rd rd' b b':List UInt8} {s s' k k':Int} (hr:rd.length=8) (hr':rd'.length=8) (hb:b.length=16) (hb':b'.length=16):eqCells [.i .u8,.i .u8,.i .u8,.i .u8,.i .u8,.i .u8,.i .u8,.i .u8,.i .i64,.i .u8,.i .u8,.i .u8,.i .u8,.i .u8,.i .u8,.i .u8,.i .u8,.i .u8,.i .u8,.i .u8,.i .u8,.i .u8,.i .u8,.i .u8,.i .u8,.i .i64] (nmc rd s b k) (nmc rd' s' b' k')=some ((rd==rd')&&(s==s'&&(b==b')&&(k==k'))):=by
 have h:=eqC_app (eqC_u8 rd rd' (by omega)) (eqC_pfx (s:=s) (t:=s') (k:=k) (m:=k') hb hb')
 rw[hr] at h
 exact h
def sameU (rd:List UInt8) (s:Int) (b:List UInt8) (k:Int) (rd':List UInt8) (s':Int) (b':List UInt8) (k':Int):Bool:=(rd==rd')&&(s==s'&&(b==b')&&(k==k'))
def nz:List PV:=[byt 0,byt 0,byt 0,byt 0,byt 0,byt 0,byt 0,byt 0,.int .i64 0,byt 0,byt 0,byt 0,byt 0,byt 0,byt 0,byt 0,byt 0,byt 0,byt 0,byt 0,byt 0,byt 0,byt 0,byt 0,byt 0,.int .i64 0]
def cmpI (a b:Int):Int:=if a<b then -1 else if b<a then 1 else 0
theorem uNan {a:Int}:U Tryz.prog 112 [.int .i64 a] (.bool false):=by
 intro σ Post hk
 refine T112 fun hB hA=>?_
 refine W ?_
 exact hk
theorem uCmp {a b:Int}:U Tryz.prog 67 [.int .i64 a,.int .i64 b] (.int .i64 (cmpI a b)):=by
 intro σ Post hk
 unfold cmpI at hk
 refine T67 fun hB hA=>?_
 refine W ?_
 refine cu uNan ?_
 refine W ?_
 refine cu uNan ?_
 by_cases h:a<b
 ·rw[if_pos h] at hk
  refine W ?_
  exact hk
 ·rw[if_neg h] at hk
  by_cases h2:b<a
  ·rw[if_pos h2] at hk
   refine W ?_
   exact hk
  ·rw[if_neg h2] at hk
   refine W ?_
   exact hk
theorem cx {P:Program} {n:Nat} {K:Env→VHeap→Prop} {r:List VO} {d:Option Nat} {env:Env} {h:VHeap} {f:FuncId} {args:List VA} {vs:List PV} {v:PV} (hx:∀ Post:KP,Post v h→X P f vs h Post) (hm:args.map (va env)=vs) (hp:PlL vs) (k:vrunOps P n K r (eput env d v) h):vrunOps P n K (⟨d,.ext f args,none⟩::r) env h:=by
 simp only[vrunOps,vop]
 rw[hm]
 have e1:inlArgs h vs=vs:=by
  unfold inlArgs
  rw[← inlL_eq];exact hp.pl.1 h
 have e2:frzArgs h vs=h:=by
  unfold frzArgs
  rw[hp.pl.2];rfl
 rw[e1,e2]
 exact hx _ k
theorem uBytesCmp {a b:List UInt8}:U Tryz.prog 157 [.sl (bsl a),.sl (bsl b)] (.int .i64 (Lib.compareBytes a b)):=by
 intro σ Post hk
 refine T157 fun hB hA=>?_
 refine W ?_
 refine cx (fun Post k=>X_cmp Tryz.func196 (by kernel_rfl) (by kernel_rfl) (by kernel_rfl) (by kernel_rfl) (a:=a) (b:=b) k) (by exact z_ma) (by infer_instance) ?_
 refine W ?_
 exact hk
theorem uOrder {a b:List UInt8}:U Tryz.prog 113 [.sl (bsl a),.sl (bsl b)] (.int .i64 (Lib.compareBytes a b)):=by
 intro σ Post hk
 refine T113 fun hB hA=>?_
 refine W ?_
 refine cu uBytesCmp ?_
 refine W ?_
 exact hk
def orI:List Int→Int
 | []=>0
 | x::r=>if x=0 then orI r else x
def islI (l:List Int):List (List PV):=l.map fun x=>[.int .i64 x]
theorem uOr {l:List Int} (hl:l.length≤1000):U Tryz.prog 66 [.sl (islI l)] (.int .i64 (orI l)):=by
 intro σ Post hk
 refine T66 fun hB hA=>?_
 have hm:SLen (islI l) l.length:=⟨by simp[islI]⟩
 refine W ?_
 refine lp (fun j e h=>∃ i:Nat,i+j=l.length∧e 8=.int .i64 i∧orI (l.drop i)=orI l∧h=σ++[]) l.length ⟨0,by simp,rfl,rfl,rfl⟩ ?_
 rintro j u _ ⟨i,hi,e8,ho,rfl⟩
 by_cases h5:i<l.length
 ·have hx:(islI l)[(i:Int).toNat]?=some [.int .i64 l[i]]:=by rw[Int.toNat_natCast,islI,List.getElem?_map,List.getElem?_eq_getElem h5];rfl
  rw[List.drop_eq_getElem_cons h5,orI] at ho
  by_cases h0:l[i]=0
  ·rw[if_pos h0] at ho
   refine W ?_
   exact⟨j - 1,by omega,i+1,by omega,rfl,ho,rfl⟩
  ·rw[if_neg h0] at ho
   rw[← ho] at hk
   refine W ?_
   exact hk
 ·rw[List.drop_of_length_le (by omega)] at ho
  rw[← ho] at hk
  refine W ?_
  exact hk
instance (rd:List UInt8) (l:Nat):VCut (u8c rd) 0 l (bsl (rd.take l)):=⟨by simp[u8c,bsl,List.map_take,Function.comp_def]⟩
def rdCmp (a b:List UInt8):Int:=if a=b then 0 else Lib.compareBytes a b
instance (s:Int) (b:List UInt8) (l:Nat):VCut (adr s b) 1 l (bsl (b.take l)):=⟨by rw[adr,List.drop_succ_cons,List.drop_zero];simp[u8c,bsl,List.map_take,Function.comp_def]⟩
def adrCmp (s:Int) (a:List UInt8) (t:Int) (b:List UInt8):Int:=orI [cmpI s t,Lib.compareBytes a b]
theorem uAdrCmp {s t:Int} {a b:List UInt8} (ha:a.length=16) (hb:b.length=16):U Tryz.prog 68 [.agg (adr s a),.agg (adr t b)] (.int .i64 (adrCmp s a t b)):=by
 intro σ Post hk
 have h1:=adr_sc s a
 have h2:=adr_sc t b
 have h3:(adr s a).length=17:=by rw[adr_len,ha]
 have h4:(adr t b).length=17:=by rw[adr_len,hb]
 have c1:cut (adr s a) 0 none=some (.int .i64 s):=rfl
 have c2:cut (adr t b) 0 none=some (.int .i64 t):=rfl
 have ta:a.take 16=a:=List.take_of_length_le (by omega)
 have tb:b.take 16=b:=List.take_of_length_le (by omega)
 unfold adrCmp at hk
 refine T68 fun hB hA=>?_
 refine Wo ?_
 refine drJ (fun _=>True) [(1,0),(1,1),(1,2),(1,3),(1,4),(1,5),(1,6),(1,7),(1,8),(0,9),(0,10),(0,11),(2,12)] (by kernel_rfl) (by kernel_rfl) (by exact z_ol) trivial ?_
 refine W ?_
 refine s1 (uCmp (a:=s) (b:=t)) ?_
 refine W ?_
 refine sv_0 ?_
 refine cu (uOrder (a:=a.take 16) (b:=b.take 16)) ?_
 rw[ta,tb]
 refine st_end ⟨trivial,?_⟩
 refine W ?_
 refine sv_0 ?_
 refine cu (uOr (l:=[cmpI s t,Lib.compareBytes a b]) (by simp)) ?_
 refine st_end ⟨trivial,?_⟩
 refine W ?_
 exact hk
def ucmp (rd:List UInt8) (s:Int) (b:List UInt8) (k:Int) (rd':List UInt8) (s':Int) (b':List UInt8) (k':Int):Int:=orI [rdCmp rd rd',adrCmp s b s' b',cmpI k k']
end Go.Proofs.YtdpeaefgbmkegaaGreatDoor
