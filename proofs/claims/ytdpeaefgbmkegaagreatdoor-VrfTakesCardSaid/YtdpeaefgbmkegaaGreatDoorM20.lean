/- mroute.Row, mroute.ReadRow. -/
import Derived.Test.YtdpeaefgbmkegaaGreatDoorHE
set_option maxHeartbeats 8000000
namespace Go.Proofs.YtdpeaefgbmkegaaGreatDoor
open Go Go.V
set_option maxRecDepth 10000
attribute [local irreducible] vBuild vCallV
@[reducible] def rowsM (l:List Mr):List (List PV):=l.map mrc
def okRowM (l:List Mr):Prop:=∀ m,m∈l→okM m∧m.key.length≤140737488355328
def flatM (l:List Mr):List UInt8:=(l.map mbytes).flatten
def rowM (l:List Mr):List UInt8 × Int:=if l.all rightF=true then(flatM l,0) else([],1)
theorem mb_len {m:Mr} (h:okM m) (hr:rightF m=true):(mbytes m).length≤128:=by
 have:=parts_len h (rightM hr)
 rw[mbytes_len];omega
theorem flatM_len {l:List Mr} (h:okRowM l) (hr:l.all rightF=true):(flatM l).length≤128 * l.length:=by
 induction l with
 | nil=>simp[flatM]
 | cons p r ih=>
   rw[List.all_cons,Bool.and_eq_true] at hr
   have h1:=mb_len (h p (by simp)).1 hr.1
   have:=ih (fun q hq=>h q (by simp[hq])) hr.2
   unfold flatM at this ⊢
   rw[List.map_cons,List.flatten_cons,List.length_append,List.length_cons];omega
theorem flatM_snoc (l:List Mr) (p:Mr):flatM (l++[p])=flatM l++mbytes p:=by simp[flatM]
theorem girM {l:List Mr} {i:Nat} {p:Mr} (h:l[i]?=some p):(rowsM l)[(i:Int).toNat]?=some (mrc p):=by rw[Int.toNat_natCast,List.getElem?_map,h];rfl
theorem uMRow {l:List Mr} (h:okRowM l) (hl:l.length≤1000000):U Tryz.prog 237 [.sl (rowsM l)] (.tup [.sl (bsl (rowM l).1),.int .i64 (rowM l).2]):=by
 intro σ Post hk
 refine T237 fun hB hA=>?_
 refine W ?_
 refine lp (fun j e s=>∃ (i g1 g2:Nat) (o1 o2:VObj),i+j=l.length∧e 11=.int .i64 i∧e 4=.row (σ.length+1) (i+1)∧(l.take i).all rightF=true∧
  s=σ++[(1,.row 1 [] false),(i+1,.row 1 (bsl (flatM (l.take i))) false),(g1,o1),(g2,o2)]) l.length ⟨0,0,0,.dead,.dead,by simp,rfl,rfl,rfl,rfl⟩ ?_
 rintro j u _ ⟨i,g1,g2,o1,o2,hi,e11,e4,hal,rfl⟩
 by_cases h5:i<l.length
 ·obtain⟨p,hp⟩:∃ p,l[i]?=some p:=⟨_,List.getElem?_eq_getElem h5⟩
  have hg:=girM hp
  obtain⟨hpo,hpk⟩:=h p (List.mem_of_getElem? hp)
  have ln:=mrc_len hpo
  have c0:=mrc_all hpo
  have sc:=mrc_sc (m:=p)
  have d1:=mz_st hpo
  have hfl:=flatM_len (l:=l.take i) (fun q hq=>h q (List.mem_of_mem_take hq)) hal
  rw[List.length_take] at hfl
  have e7:l.take (i+1)=l.take i++[p]:=by
   rw[List.take_succ_eq_append_getElem h5];congr 2
   rw[List.getElem?_eq_getElem h5] at hp;exact Option.some.inj hp
  refine W ?_
  cases ho:rightF p with
  | true=>
    have hub:=mb_len hpo ho
    refine cu (uMBytes hpo hpk ho) ?_
    refine W ?_
    refine⟨j - 1,by omega,i+1,g1+1,g2,.box (mrc p) false,o2,by omega,rfl,rfl,?_,?_⟩
    ·rw[e7,List.all_append,hal];simp[ho]
    ·rw[e7,flatM_snoc]
  | false=>
    have hr:rowM l=([],1):=by
     unfold rowM
     rw[if_neg]
     intro hall
     have:=List.all_eq_true.1 hall p (List.mem_of_getElem? hp)
     rw[ho] at this;cases this
    rw[hr] at hk
    refine cu (uMBytes0 hpo hpk ho) ?_
    refine W ?_
    exact hk
 ·have h9:l.take i=l:=List.take_of_length_le (by omega)
  rw[h9] at hal
  rw[h9]
  have hr:rowM l=(flatM l,0):=by unfold rowM;rw[if_pos hal]
  rw[hr] at hk
  refine W ?_
  exact hk
def rrM (s:Int) (l:List UInt8) (out:List Mr):List Mr × Int:=
 if l=[] then(out,0) else if (takeM l s).e=0∧0<(takeM l s).n∧0<l.length then rrM s (l.drop (takeM l s).n) (out++[(takeM l s).m]) else([],(takeM l s).e)
termination_by l.length
decreasing_by simp only[List.length_drop];omega
def readRM (l:List UInt8) (s:Int):List Mr × Int:=if s≠4∧s≠16 then([],1) else rrM s l []
theorem takeM_ok (l:List UInt8) (s:Int):okM (takeM l s).m:=takeG_ok _ _ _ _
theorem uMReadRow {l:List UInt8} {s:Int} (hl:l.length≤1000000):U Tryz.prog 239 [.sl (bsl l),.int .i64 s] (.tup [.sl (rowsM (readRM l s).1),.int .i64 (readRM l s).2]):=by
 intro σ Post hk
 unfold readRM at hk
 by_cases hs:s≠4∧s≠16
 ·rw[if_pos hs] at hk
  have h4:=hs.1
  have h16:=hs.2
  refine T239 fun hB hA=>?_
  refine W ?_
  exact hk
 rw[if_neg hs] at hk
 refine T239 fun hB hA=>?_
 refine cutp (fun e h=>e 0=.sl (bsl l)∧e 1=.int .i64 s∧h=σ++[(1,.row 62 [] false),(0,.dead),(0,.dead),(0,.dead),(0,.dead)]) ?_ ?_
 ·refine W ?_
  exact⟨rfl,rfl,rfl⟩
 rintro u _ ⟨e0,e1,rfl⟩
 refine cutp (fun e h=>e 0=.sl (bsl l)∧e 1=.int .i64 s∧h=σ++[(1,.row 62 [] false),(0,.dead),(0,.dead),(0,.dead),(0,.dead)]) ?_ ?_
 ·by_cases h4:s=4
  ·refine W ?_
   exact⟨e0,e1,rfl⟩
  ·have h16:s=16:=by omega
   refine W ?_
   exact⟨e0,e1,rfl⟩
 clear e0 e1
 rintro u _ ⟨e0,e1,rfl⟩
 refine W ?_
 refine lp (fun j e h=>∃ (r:List UInt8) (out:List Mr) (g1 g2 g3:Nat) (o1 o2 o3:VObj),r.length=j∧e 0=.sl (bsl r)∧e 1=.int .i64 s∧okRowM out∧out.length+r.length≤l.length∧rrM s r out=rrM s l []∧e 6=.row (σ.length+1) (out.length+1)∧
  h=σ++[(1,.row 62 [] false),(out.length+1,.row 62 (rowsM out) false),(g1,o1),(g2,o2),(g3,o3)]) l.length ⟨l,[],0,0,0,.dead,.dead,.dead,rfl,rfl,rfl,fun p hp=>by simp at hp,by simp,rfl,rfl,rfl⟩ ?_
 rintro j u _ ⟨r,out,g1,g2,g3,o1,o2,o3,hj,e0,e1,hout,hlen,hrr,e6,rfl⟩
 by_cases h5:0<r.length
 ·have hne:r≠[]:=fun e=>by rw[e] at h5;simp at h5
  rw[rrM,if_neg hne] at hrr
  have hxo:=takeM_ok r s
  have hu:=uTakeM (l:=r) (s:=s) (by omega)
  have hgood:=takeM_good (l:=r) (s:=s)
  generalize takeM r s=t at *
  have ln:=mrc_len hxo
  have c0:=mrc_all hxo
  have sc:=mrc_sc (m:=t.m)
  have d1:=mz_st hxo
  refine W ?_
  refine cu hu ?_
  by_cases he:t.e=0
  ·obtain⟨a1,a2,a3,a4,a5⟩:=hgood he
   have kl:=rightM_len (rightM a1)
   rw[if_pos ⟨he,by omega,h5⟩] at hrr
   have hrok:RowOk 62 [mrc t.m]:=by intro e he;simp at he;subst he;exact⟨ln,sc⟩
   refine W ?_
   refine⟨j - t.n,by omega,r.drop t.n,out++[t.m],g1+1,g2+1,g3,.box (mrc t.m) false,.row 62 [mrc t.m] false,o3,by rw[List.length_drop];omega,?_,e1,?_,?_,hrr,?_,?_⟩
   ·show PV.sl _=PV.sl _
    rw[Int.toNat_natCast]
   ·intro p hp
    rcases List.mem_append.1 hp with hp|hp
    ·exact hout p hp
    ·simp at hp;subst hp;exact⟨hxo,by omega⟩
   ·rw[List.length_append,List.length_drop];simp only[List.length_cons,List.length_nil];omega
   ·show PV.row _ _=PV.row _ _
    rw[List.length_append];rfl
   ·rw[List.length_append]
    simp[rowsM]
  ·rw[if_neg (fun h=>he h.1)] at hrr
   rw[← hrr] at hk
   refine W ?_
   exact hk
 ·have hr:r=[]:=List.length_eq_zero_iff.1 (by omega)
  subst hr
  rw[rrM,if_pos rfl] at hrr
  rw[← hrr] at hk
  refine W ?_
  exact hk
theorem rrM_good:∀ (n:Nat) (s:Int) (l:List UInt8) (out:List Mr),l.length=n→(rrM s l out).2=0→(okRowM out→okRowM (rrM s l out).1)∧(out.all rightF=true→(rrM s l out).1.all rightF=true)∧flatM (rrM s l out).1=flatM out++l:=by
 intro n
 induction n using Nat.strongRecOn with
 | _ n ih=>
   intro s l out hn h
   rw[rrM] at h ⊢
   split at h
   ·rename_i hl
    rw[if_pos hl,hl,List.append_nil]
    exact⟨id,id,rfl⟩
   ·rename_i hl
    rw[if_neg hl]
    split at h
    ·rename_i ht
     rw[if_pos ht]
     obtain⟨a1,a2,a3,a4,a5⟩:=takeM_good ht.1
     have kl:=rightM_len (rightM a1)
     obtain⟨b1,b2,b3⟩:=ih (l.drop (takeM l s).n).length (by rw[List.length_drop];omega) s _ _ rfl h
     refine⟨fun ho=>b1 fun p hp=>?_,fun ho=>b2 ?_,?_⟩
     ·rcases List.mem_append.1 hp with hp|hp
      ·exact ho p hp
      ·simp at hp;subst hp;exact⟨takeM_ok l s,by omega⟩
     ·rw[List.all_append,ho];simp[a1]
     ·rw[b3,flatM_snoc,a2,List.append_assoc,List.take_append_drop]
    ·rename_i ht
     rw[if_neg ht]
     exfalso
     refine ht ⟨h,?_,List.length_pos_iff.2 hl⟩
     have:=(takeM_good h).2.2.2.1
     omega
theorem readRM_good {l:List UInt8} {s:Int} (h:(readRM l s).2=0):okRowM (readRM l s).1∧rowM (readRM l s).1=(l,0):=by
 unfold readRM at *
 split at h
 ·cases h
 ·rename_i hs
  rw[if_neg hs]
  obtain⟨a,b,c⟩:=rrM_good _ s l [] rfl h
  refine⟨a fun p hp=>by simp at hp,?_⟩
  unfold rowM
  rw[if_pos (b rfl),c];rfl
theorem rrM_len:∀ (n:Nat) (s:Int) (l:List UInt8) (out:List Mr),l.length=n→(rrM s l out).1.length≤out.length+l.length:=by
 intro n
 induction n using Nat.strongRecOn with
 | _ n ih=>
   intro s l out hn
   rw[rrM]
   split
   ·simp
   ·split
    ·rename_i ht
     have:=ih (l.drop (takeM l s).n).length (by rw[List.length_drop];omega) s _ (out++[(takeM l s).m]) rfl
     rw[List.length_append,List.length_drop] at this
     simp only[List.length_cons,List.length_nil] at this
     omega
    ·simp
theorem readRM_len (l:List UInt8) (s:Int):(readRM l s).1.length≤l.length:=by
 unfold readRM;split
 ·simp
 ·have:=rrM_len _ s l [] rfl;simpa using this
end Go.Proofs.YtdpeaefgbmkegaaGreatDoor
