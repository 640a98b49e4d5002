/- '==' and '!=' of structs and arrays. -/
import Derived.Test.YtdpeaefgbmkegaaGreatDoorEA
import Derived.ChangeKeysEq
import Derived.Laws.MakeOwn
import Derived.Orders
namespace Go.V
open Go
inductive CK where
 | b|i (k:IntKind)|s
 deriving DecidableEq,Inhabited
def eqB:PV→PV→Option Bool
 | .bool a,.bool b=>some (a==b)
 | _,_=>none
def eqI (k:IntKind):PV→PV→Option Bool
 | .int k1 a,.int k2 b=>if k1=k∧k2=k then some (a==b) else none
 | _,_=>none
def eqS:PV→PV→Option Bool
 | .str a,.str b=>some (a==b)
 | _,_=>none
def eqCell:CK→PV→PV→Option Bool
 | .b=>eqB
 | .i k=>eqI k
 | .s=>eqS
def eqCells:List CK→List PV→List PV→Option Bool
 | [],[],[]=>some true
 | k::ks,c::cs,d::ds=>match eqCell k c d,eqCells ks cs ds with
   | some a,some b=>some (a&&b)
   | _,_=>none
 | _,_,_=>none
def flatFields (P:Program) (fl:TypeId→Option (List CK)):List Field→Nat→Option (List CK)
 | [],_=>some []
 | f::fs,off=>if f.name≠"_"∧f.offset=off then match fl f.type with
   | some s=>if sizeT P f.type=some s.length then(flatFields P fl fs (off+s.length)).map fun r=>s++r else none
   | none=>none
   else none
def flatT (P:Program):Nat→TypeId→Option (List CK)
 | 0,_=>none
 | n+1,t=>match P.underlying t with
   | some .bool=>some [.b]
   | some (.int k)=>some [.i k]
   | some .string=>some [.s]
   | some (.struct fs)=>if P.stoodInHeld t=false then flatFields P (flatT P n) fs.toList 0 else none
   | some (.array len e)=>match flatT P n e with
     | some s=>if sizeT P e=some s.length then some (List.replicate len s).flatten else none
     | none=>none
   | _=>none
def vEqAgg (ks:List CK) (ne:Bool) (x y:PV) (σ:VHeap) (K:KP):Prop:=
 match x,y with
 | .agg cs,.agg ds=>match eqCells ks cs ds with
   | some r=>K (.bool (if ne then !r else r)) σ
   | none=>False
 | _,_=>False
theorem eqCells_len:∀ (ks:List CK) (cs ds:List PV) (r:Bool),eqCells ks cs ds=some r→cs.length=ks.length∧ds.length=ks.length
 | [],[],[],_,_=>⟨rfl,rfl⟩
 | k::ks,c::cs,d::ds,r,h=>by
   simp only[eqCells] at h
   split at h
   ·rename_i a b h1 h2
    obtain⟨e1,e2⟩:=eqCells_len ks cs ds b h2
    simp[e1,e2]
   ·cases h
 | [],[],_::_,_,h=>by simp[eqCells] at h
 | [],_::_,_,_,h=>by simp[eqCells] at h
 | _::_,[],_,_,h=>by simp[eqCells] at h
 | _::_,_::_,[],_,h=>by simp[eqCells] at h
theorem eqCells_app:∀ (k1 k2:List CK) (cs ds:List PV) (r:Bool),eqCells (k1++k2) cs ds=some r→
  ∃ r1 r2,eqCells k1 (cs.take k1.length) (ds.take k1.length)=some r1∧eqCells k2 (cs.drop k1.length) (ds.drop k1.length)=some r2∧r=(r1&&r2)
 | [],k2,cs,ds,r,h=>⟨true,r,by simp[eqCells],by simpa using h,by simp⟩
 | k::k1,k2,[],ds,r,h=>by simp[eqCells] at h
 | k::k1,k2,_::_,[],r,h=>by simp[eqCells] at h
 | k::k1,k2,c::cs,d::ds,r,h=>by
   simp only[List.cons_append,eqCells] at h
   split at h
   ·rename_i a b h1 h2
    cases h
    obtain⟨r1,r2,e1,e2,rfl⟩:=eqCells_app k1 k2 cs ds b h2
    exact⟨a&&r1,r2,by simp[eqCells,h1,e1],by simpa using e2,by simp[Bool.and_assoc]⟩
   ·cases h
def aggD:TypeDesc→Bool
 | .struct _=>true
 | .array _ _=>true
 | _=>false
section
variable {P:Program} {σ:VHeap} {β:Beta} {w:World}
theorem CellsRep.part {xs:List PV} {us:Array Value} (h:CellsRep w σ β xs us) (off n:Nat):CellsRep w σ β ((xs.drop off).take n) (us.extract off (off+n)):=by
 refine⟨by simp[h.1];omega,fun i c v h1 h2=>?_⟩
 rw[List.getElem?_take] at h1
 split at h1
 ·rw[List.getElem?_drop] at h1
  rw[Array.getElem?_extract] at h2
  split at h2
  ·exact h.2 _ c v h1 h2
  ·cases h2
 ·cases h1
def VB (P:Program) (w:World) (σ:VHeap) (β:Beta) (t:TypeId) (cs:List PV) (v:Value):Prop:=
 if isAggT P t=some true then ∃ xs,v=.agg xs∧CellsRep w σ β cs xs else ∃ c,cs=[c]∧Rep w σ β c v
def EqS (P:Program) (w:World) (σ:VHeap) (β:Beta) (n:Nat) (t:TypeId) (ks:List CK):Prop:=
 ∀ (d:Nat) (x y:Value) (cs ds:List PV) (r:Bool),n≤d→VB P w σ β t cs x→VB P w σ β t ds y→eqCells ks cs ds=some r→(Op.equalIn d t x y).run P w=.ok r w
theorem isAggT_some {t:TypeId} {d:TypeDesc} (h:P.underlying t=some d):isAggT P t=some (aggD d):=by
 unfold isAggT;rw[h];cases d<;>rfl
theorem part_VB {t:TypeId} {b:Bool} (hb:isAggT P t=some b) {n:Nat} (hsz:sizeT P t=some n) (hn:b=false→n=1) {cs:List PV} {xs:Array Value} (h:CellsRep w σ β cs xs) {off:Nat} (hle:off+n≤cs.length) :
  ∃ v,(Go.part t xs off).run P w=.ok v w∧VB P w σ β t ((cs.drop off).take n) v:=by
 unfold sizeT at hsz
 simp only[Option.map_eq_some_iff] at hsz
 obtain⟨i,hi,rfl⟩:=hsz
 have hagg:(isAgg t).run P w=.ok b w:=by
  unfold isAggT at hb
  unfold isAgg
  cases hu:P.underlying t with
  | none=>rw[hu] at hb;cases hb
  | some d=>
    rw[hu] at hb
    simp only[Sem.run_bind,run_underlying hu,Result.andThen_ok]
    cases d<;>simp at hb<;>subst hb<;>rfl
 have hs:(sizeOf t).run P w=.ok i.size w:=by simp[sizeOf,typeInfo,hi]
 unfold Go.part
 simp only[Sem.run_bind,hagg,Result.andThen_ok]
 cases b with
 | true=>
   refine⟨.agg (xs.extract off (off+i.size)),by simp[hs],?_⟩
   unfold VB
   rw[if_pos hb]
   exact⟨_,rfl,h.part off _⟩
 | false=>
   have h1:=hn rfl
   have h2:off<xs.size:=by rw[← h.1];omega
   have h3:off<cs.length:=by omega
   refine⟨xs[off],by simp[h2],?_⟩
   unfold VB
   rw[if_neg (by rw[hb];simp)]
   refine⟨cs[off],?_,h.2 off _ _ (List.getElem?_eq_getElem h3) (Array.getElem?_eq_getElem h2)⟩
   rw[h1,List.take_one,List.head?_drop,List.getElem?_eq_getElem h3];rfl
theorem flatT_agg {n:Nat} {t:TypeId} {ks:List CK} (h:flatT P n t=some ks):∃ b,isAggT P t=some b∧(b=false→ks.length=1):=by
 cases n with
 | zero=>cases h
 | succ n=>
   unfold flatT at h
   split at h
   all_goals first|(cases h;done)|skip
   ·rename_i hu;cases h;exact⟨_,isAggT_some hu,fun _=>rfl⟩
   ·rename_i hu;cases h;exact⟨_,isAggT_some hu,fun _=>rfl⟩
   ·rename_i hu;cases h;exact⟨_,isAggT_some hu,fun _=>rfl⟩
   ·rename_i hu;exact⟨_,isAggT_some hu,fun e=>by simp[aggD] at e⟩
   ·rename_i hu;exact⟨_,isAggT_some hu,fun e=>by simp[aggD] at e⟩
theorem eqFields_flat {fl:TypeId→Option (List CK)} {n d:Nat} (hnd:n≤d) (hag:∀ t s,fl t=some s→∃ b,isAggT P t=some b∧(b=false→s.length=1)) (ih:∀ t s,fl t=some s→EqS P w σ β n t s) {cs ds:List PV} {xs ys:Array Value} (hx:CellsRep w σ β cs xs) (hy:CellsRep w σ β ds ys) :
  ∀ (fs:List Field) (off:Nat) (ks:List CK) (r:Bool),off≤cs.length→off≤ds.length→flatFields P fl fs off=some ks→eqCells ks (cs.drop off) (ds.drop off)=some r→(Op.eqFields d xs ys fs).run P w=.ok r w:=by
 intro fs
 induction fs with
 | nil=>
   intro off ks r _ _ h1 h2
   cases h1
   have:=eqCells_len _ _ _ _ h2
   have e1:cs.drop off=[]:=List.length_eq_zero_iff.1 this.1
   have e2:ds.drop off=[]:=List.length_eq_zero_iff.1 this.2
   rw[e1,e2] at h2
   cases h2
   rfl
 | cons f fs ihf=>
   intro off ks r hc hd h1 h2
   unfold flatFields at h1
   split at h1
   case isFalse=>cases h1
   rename_i hno
   split at h1
   case h_2=>cases h1
   rename_i s hs
   split at h1
   case isFalse=>cases h1
   rename_i hsz
   simp only[Option.map_eq_some_iff] at h1
   obtain⟨r0,hr0,rfl⟩:=h1
   obtain⟨r1,r2,e1,e2,rfl⟩:=eqCells_app _ _ _ _ _ h2
   rw[List.drop_drop,List.drop_drop] at e2
   have hl:=eqCells_len _ _ _ _ h2
   simp at hl
   obtain⟨b,hb,hb1⟩:=hag _ _ hs
   obtain⟨u,g1,g2⟩:=part_VB hb hsz hb1 hx (off:=f.offset) (by rw[hno.2];omega)
   obtain⟨v,g3,g4⟩:=part_VB hb hsz hb1 hy (off:=f.offset) (by rw[hno.2];omega)
   rw[hno.2] at g2 g4
   have g5:=ih _ _ hs d u v _ _ r1 hnd g2 g4 e1
   have g6:=ihf _ _ _ (by omega) (by omega) hr0 e2
   unfold Op.eqFields
   rw[if_pos hno.1]
   simp only[Sem.run_bind,g1,g3,g5,Result.andThen_ok]
   cases r1
   ·simp
   ·simpa using g6
theorem eqItems_flat {e:TypeId} {s:List CK} {n d:Nat} (hnd:n≤d) {b:Bool} (hb:isAggT P e=some b) (hb1:b=false→s.length=1) (hsz:sizeT P e=some s.length) (ih:EqS P w σ β n e s) {cs ds:List PV} {xs ys:Array Value} (hx:CellsRep w σ β cs xs) (hy:CellsRep w σ β ds ys) :
  ∀ (len j:Nat) (r:Bool),j * s.length≤cs.length→j * s.length≤ds.length→eqCells (List.replicate len s).flatten (cs.drop (j * s.length)) (ds.drop (j * s.length))=some r→(Op.eqItems d e s.length xs ys (List.range' j len)).run P w=.ok r w:=by
 intro len
 induction len with
 | zero=>
   intro j r _ _ h2
   have:=eqCells_len _ _ _ _ h2
   have e1:cs.drop (j * s.length)=[]:=List.length_eq_zero_iff.1 (by simpa using this.1)
   have e2:ds.drop (j * s.length)=[]:=List.length_eq_zero_iff.1 (by simpa using this.2)
   rw[e1,e2] at h2
   cases h2
   rfl
 | succ len ihl=>
   intro j r hc hd h2
   rw[List.replicate_succ,List.flatten_cons] at h2
   obtain⟨r1,r2,e1,e2,rfl⟩:=eqCells_app _ _ _ _ _ h2
   rw[List.drop_drop,List.drop_drop] at e2
   have hl:=eqCells_len _ _ _ _ h2
   simp at hl
   obtain⟨u,g1,g2⟩:=part_VB hb hsz hb1 hx (off:=j * s.length) (by omega)
   obtain⟨v,g3,g4⟩:=part_VB hb hsz hb1 hy (off:=j * s.length) (by omega)
   have g5:=ih d u v _ _ r1 hnd g2 g4 e1
   have g6:=ihl (j+1) r2 (by rw[Nat.add_mul,Nat.one_mul];omega) (by rw[Nat.add_mul,Nat.one_mul];omega) (by rw[Nat.add_mul,Nat.one_mul];exact e2)
   rw[List.range'_succ]
   unfold Op.eqItems
   simp only[Sem.run_bind,g1,g3,g5,Result.andThen_ok]
   cases r1
   ·simp
   ·simpa using g6
theorem flatT_eq:∀ (n:Nat) (t:TypeId) (ks:List CK),flatT P n t=some ks→EqS P w σ β n t ks:=by
 intro n
 induction n with
 | zero=>intro t ks h;cases h
 | succ n ih=>
   intro t ks h d x y cs ds r hd hx hy hr
   obtain⟨d,rfl⟩:∃ d',d=d'+1:=⟨d - 1,by omega⟩
   unfold flatT at h
   unfold VB at hx hy
   have one:∀ {k:CK} {cs ds:List PV} {c d:PV},cs=[c]→ds=[d]→eqCells [k] cs ds=some r→eqCell k c d=some r:=by
    intro k cs ds c d e1 e2 h
    subst e1;subst e2
    simp only[eqCells] at h
    split at h
    ·rename_i a b h1 h2;cases h2;cases h;simpa using h1
    ·cases h
   split at h
   all_goals first|(cases h;done)|skip
   ·rename_i hu
    cases h
    rw[if_neg (by rw[isAggT_some hu];simp[aggD])] at hx hy
    obtain⟨c,e1,rx⟩:=hx
    obtain⟨c',e2,ry⟩:=hy
    have this:eqB c c'=some r:=one e1 e2 hr
    unfold eqB at this
    split at this
    ·cases this
     cases rx;cases ry
     simp[Op.equalIn,run_underlying hu]
    ·cases this
   ·rename_i k hu
    cases h
    rw[if_neg (by rw[isAggT_some hu];simp[aggD])] at hx hy
    obtain⟨c,e1,rx⟩:=hx
    obtain⟨c',e2,ry⟩:=hy
    have this:eqI k c c'=some r:=one e1 e2 hr
    unfold eqI at this
    split at this
    ·split at this
     ·rename_i hk
      cases this
      obtain⟨rfl,rfl⟩:=hk
      cases rx;cases ry
      simp[Op.equalIn,run_underlying hu]
     ·cases this
    ·cases this
   ·rename_i hu
    cases h
    rw[if_neg (by rw[isAggT_some hu];simp[aggD])] at hx hy
    obtain⟨c,e1,rx⟩:=hx
    obtain⟨c',e2,ry⟩:=hy
    have this:eqS c c'=some r:=one e1 e2 hr
    unfold eqS at this
    split at this
    ·cases this
     cases rx;cases ry
     rw[run_equalIn_string w d t _ _ hu]
     simp[ByteArray.toList_eq]
    ·cases this
   ·rename_i fs hu
    rw[if_pos (by rw[isAggT_some hu];rfl)] at hx hy
    obtain⟨xs,rfl,rx⟩:=hx
    obtain⟨ys,rfl,ry⟩:=hy
    split at h
    case isFalse=>cases h
    rename_i hst
    have hfs:P.fieldsOf t=fs:=by simp[Program.fieldsOf,hu]
    rw[run_equalIn_struct w d t xs ys (by rw[hfs];exact hu) hst,hfs]
    exact eqFields_flat (n:=n) (by omega) (fun t s h=>flatT_agg h) (fun t s h=>ih t s h) rx ry _ 0 ks r (by omega) (by omega) h (by simpa using hr)
   ·rename_i len e hu
    rw[if_pos (by rw[isAggT_some hu];rfl)] at hx hy
    obtain⟨xs,rfl,rx⟩:=hx
    obtain⟨ys,rfl,ry⟩:=hy
    split at h
    case h_2=>cases h
    rename_i s hs
    split at h
    case isFalse=>cases h
    rename_i hsz
    cases h
    obtain⟨b,hb,hb1⟩:=flatT_agg hs
    have hsz':=hsz
    unfold sizeT at hsz'
    simp only[Option.map_eq_some_iff] at hsz'
    obtain⟨i,hi,hisz⟩:=hsz'
    rw[run_equalIn_array w d xs ys hu hi]
    have hc:P.cellsOf e=s.length:=by simp[Program.cellsOf,hi,hisz]
    rw[hc,List.range_eq_range']
    exact eqItems_flat (n:=n) (by omega) hb hb1 hsz (ih e s hs) rx ry len 0 r (by omega) (by omega) (by simpa using hr)
def eqGuardL (P:Program):Nat→TypeId→Bool
 | 0,_=>true
 | d+1,t=>match P.underlying t with
   | some (.interface ms)=>!ms.isEmpty
   | some (.struct fs)=>fs.toList.any fun f=>f.name != "_"&&eqGuardL P d f.type
   | some (.array _ e)=>eqGuardL P d e
   | _=>false
theorem eqGuardL_eq:∀ (d:Nat) (t:TypeId),eqGuardL P d t=P.eqGuardType d t
 | 0,_=>rfl
 | d+1,t=>by
   unfold eqGuardL Program.eqGuardType
   cases P.underlying t with
   | none=>rfl
   | some k=>cases k<;>simp only[eqGuardL_eq d,Array.any_toList]
theorem s_eqAgg [Glob] {o:Oper} {a:Act} {env:Env} {K:KP} {op:BinOp} {t t':TypeId} {x y:Operand} {x' y':VA} {ks:List CK} {ne:Bool} (ho:o.op=.binOp op t x y t') (hop:op=(if ne then .neq else .eql)) (ht:flatT P 10000 t=some ks) (hag:isAggT P t=some true) (hgd:P.eqGuardType P.depth t=false) (hx:cA x=some x') (hy:cA y=some y')
  (hf:FrameRep w σ β env a) (hs:Sim σ β w) (hk:vEqAgg ks ne (va env x') (va env y') σ K):OpS P o a σ β w K:=by
 have h1:=hf.eval hx
 have h2:=hf.eval hy
 generalize hc0:va env x'=c0 at *
 generalize hc1:va env y'=c1 at *
 generalize he:a.eval x=ex at *
 generalize hey:a.eval y=ey at *
 unfold vEqAgg at hk
 split at hk
 case h_2=>exact hk.elim
 rename_i cs ds
 split at hk
 case h_2=>exact hk.elim
 rename_i r hr
 cases h1 with
 | agg _ vs hl hv=>
   cases h2 with
   | agg _ us hl2 hu=>
     have key:=flatT_eq (P:=P) (w:=w) (σ:=σ) (β:=β) 10000 t ks ht 10000 (.agg vs) (.agg us) cs ds r (Nat.le_refl _) (by unfold VB;rw[if_pos hag];exact⟨vs,rfl,hl,hv⟩) (by unfold VB;rw[if_pos hag];exact⟨us,rfl,hl2,hu⟩) hr
     refine OpS.value (v:=.bool (if ne then !r else r)) (w':=w) ?_ hk (.bool _) hs (Step.refl _ _ _)
     cases ne
     ·simp only[Bool.false_eq_true,if_false] at hop
      subst hop
      simp[execOp,ho,he,hey,run_eqGuard_agg w _ t x y vs us hgd,run_eql_struct,key]
     ·simp only[if_true] at hop
      subst hop
      simp[execOp,ho,he,hey,run_eqGuard_agg w _ t x y vs us hgd,run_neq_struct,key]
end
def vSliceV (sz:Nat) (x:PV) (lo hi:Option PV) (σ:VHeap) (K:KP):Prop:=
 match x with
 | .row id g=>match vGet σ id g with
   | some (.row s es _)=>match bound lo 0,bound hi es.length with
     | some l,some h=>s=sz∧l≤h∧h≤es.length∧K (.rview id g l (h - l)) σ
     | _,_=>False
   | _=>False
 | .rview id g l0 len=>match vGet σ id g with
   | some (.row s _ _)=>match bound lo 0,bound hi len with
     | some l,some h=>s=sz∧l≤h∧h≤len∧K (.rview id g (l0+l) (h - l)) σ
     | _,_=>False
   | _=>False
 | _=>False
def ovl (es:List (List PV)) (lo len:Nat) (new:List (List PV)):List (List PV):=es.take lo++new.take len++es.drop (lo+min new.length len)
def vCopyTo (sz:Nat) (d x:PV) (σ:VHeap) (K:KP):Prop:=
 match rdA σ x with
 | some new=>RowOk sz new∧
   match d with
   | .bview id g off len=>match vGet σ id g with
     | some (.box cs false)=>sz=1∧off+len≤cs.length∧K (.int .i64 (min new.length len:Nat)) (σ.set id (g,.box (splice cs off ((new.take len).flatten)) false))
     | _=>False
   | .row id g=>match vGet σ id g with
     | some (.row s es false)=>s=sz∧K (.int .i64 (min new.length es.length:Nat)) (σ.set id (g,.row sz (ovl es 0 es.length new) false))
     | _=>False
   | .rview id g lo len=>match vGet σ id g with
     | some (.row s es false)=>s=sz∧lo+len≤es.length∧K (.int .i64 (min new.length len:Nat)) (σ.set id (g,.row sz (ovl es lo len new) false))
     | _=>False
   | .nils=>K (.int .i64 0) σ
   | _=>False
 | none=>False
def vMakeSlice (id sz bytes:Nat) (zero:List PV) (len cap:PV) (σ:VHeap) (K:KP):Prop:=
 match len,cap with
 | .int _ l,.int _ c=>0≤l∧l≤c∧c * bytes≤140737488355328∧c≤140737488355328∧vNew id (.row sz (List.replicate l.toNat zero) false) σ fun g σ=>K (.row id g) σ
 | _,_=>False
def vClip (id sz:Nat) (x:PV) (σ:VHeap) (K:KP):Prop:=(∃ es,rd σ x=some es)∧vNew id (.row sz [] false) σ fun g σ=>K (.row id g) σ
theorem flatten_get (sz:Nat):∀ (es:List (List PV)) (k:Nat),(∀ e,e∈es→e.length=sz)→k<es.length * sz→es.flatten[k]?=(es[k / sz]?).bind fun e=>e[k % sz]?:=by
 intro es
 induction es with
 | nil=>intro k _ h;simp at h
 | cons e es ih=>
   intro k hel hk
   have h0:e.length=sz:=hel e (by simp)
   have hsz:0<sz:=by
    rcases Nat.eq_zero_or_pos sz with h|h
    ·subst h;simp at hk
    ·exact h
   rw[List.flatten_cons]
   by_cases h:k<sz
   ·rw[List.getElem?_append_left (by omega),Nat.div_eq_of_lt h,Nat.mod_eq_of_lt h];rfl
   ·rw[List.getElem?_append_right (by omega),h0,ih (k - sz) (fun e he=>hel e (by simp[he])) (by simp[Nat.add_mul] at hk;omega)]
    have e1:k / sz=(k - sz) / sz+1:=by rw[← Nat.sub_add_cancel (Nat.not_lt.1 h),Nat.add_div_right _ hsz,Nat.sub_add_cancel (Nat.not_lt.1 h)]
    have e2:k % sz=(k - sz) % sz:=Nat.mod_eq_sub_mod (by omega)
    rw[e1,e2,List.getElem?_cons_succ]
section
variable {P:Program} {o:Oper} {a:Act} {σ:VHeap} {β:Beta} {w:World} {env:Env} {K:KP}
theorem s_sliceV [Glob] {t e:TypeId} {x:Operand} {x':VA} {lo hi:Option Operand} {lo' hi':Option VA} {sz:Nat} (ho:o.op=.slice t x lo hi none) (hu:P.underlying t=some (.slice e)) (hsz:sizeT P e=some sz) (hx:cA x=some x')
  (hlo:cAo lo=some lo') (hhi:cAo hi=some hi') (hf:FrameRep w σ β env a) (hs:Sim σ β w) (hk:vSliceV sz (va env x') (lo'.map (va env)) (hi'.map (va env)) σ K):OpS P o a σ β w K:=by
 have h1:=hf.eval hx
 have run:∀ {ad:Option Addr} {n c l h:Nat},a.eval x=.slice ad n c→n≤c→bound (lo'.map (va env)) 0=some l→bound (hi'.map (va env)) n=some h→l≤h→h≤n→
   (execOp a.eval o).run P w=.ok (.value (.slice (if c=l then ad else ad.map (·.add (l * sz))) (h - l) (c - l))) w:=by
  intro ad n c l h e0 hnc hl hh hlh hhn
  simp[execOp,ho,e0,Instr.sliceAt,Instr.slice,run_underlying' hu,run_bounds (P:=P) (bound_eval hf hhi hh) (bound_eval hf hlo hl) hlh (by omega:h≤c),run_sizeOf hsz]
 generalize hc0:va env x'=c0 at *
 generalize he:a.eval x=ex at *
 unfold vSliceV at hk
 split at hk
 ·rename_i id g
  split at hk
  ·rename_i s es fz hg
   split at hk
   ·rename_i l h hl hh
    obtain⟨hss,hlh,hhl,hk⟩:=hk
    subst hss
    have hg':=vGet_some hg
    cases h1 with
    | stalerow _ _ g' o' p n c h5 h6=>rw[hg'] at h5;cases h5;omega
    | rownil _ _ sz fz' ad h5 hb=>
      rw[hg'] at h5;cases h5
      simp only[List.length_nil] at hh hhl
      have hl0:l=0:=by omega
      have hh0:h=0:=by omega
      subst hl0;subst hh0
      refine OpS.value (v:=.slice ad 0 0) (w':=w) (by rw[run rfl (Nat.le_refl _) hl hh (Nat.le_refl _) (Nat.le_refl _)];simp) hk ?_ hs (Step.refl _ _ _)
      exact .rview id g 0 0 0 s ad [] fz hg' (by simp) (Nat.le_refl _) (by omega)
    | row _ _ b _ cap es2 fz' arr ty fr h5 hb hh' hc hsz=>
      rw[hg'] at h5;cases h5
      refine OpS.value (run rfl hc hl hh hlh hhl) hk (.rview id g l (h - l) _ s _ es fz hg' (by omega) (by omega) (fun h0=>⟨b,hb,?_⟩)) hs (Step.refl _ _ _)
      rw[if_neg (by omega),Option.map_some,add_mk,Nat.zero_add]
   ·exact hk.elim
  ·exact hk.elim
 ·rename_i id g l0 len
  split at hk
  ·rename_i s es fz hg
   split at hk
   ·rename_i l h hl hh
    obtain⟨hss,hlh,hhl,hk⟩:=hk
    subst hss
    have hg':=vGet_some hg
    cases h1 with
    | stalerv _ _ _ _ g' o' p n c h5 h6=>rw[hg'] at h5;cases h5;omega
    | rview _ _ _ _ cap _ ad es2 fz' h5 hle hc ha=>
      rw[hg'] at h5;cases h5
      refine OpS.value (run rfl hc hl hh hlh hhl) hk (.rview id g (l0+l) (h - l) _ s _ es fz hg' (by omega) (by omega) (fun h0=>?_)) hs (Step.refl _ _ _)
      obtain⟨b,hb,ha⟩:=ha (by omega)
      refine⟨b,hb,?_⟩
      rw[if_neg (by omega),ha,Option.map_some,add_mk,Nat.add_mul]
   ·exact hk.elim
  ·exact hk.elim
 ·exact hk.elim
theorem set_self {σ:VHeap} {id:Nat} {x:Nat × VObj} (h:σ[id]?=some x):σ.set id x=σ:=by
 apply List.ext_getElem?
 intro j
 rw[List.getElem?_set]
 split
 ·rename_i e;subst e
  rw[if_pos (List.getElem?_eq_some_iff.1 h).1,h]
 ·rfl
theorem setBlock_self {w:World} {b:Nat} {ob:Obj} (h:w.heap[b]?=some ob):World.setBlock w b ob=w:=by
 unfold World.setBlock
 have:w.heap.setIfInBounds b ob=w.heap:=by
  apply Array.ext_getElem?;intro j;rw[Array.getElem?_setIfInBounds]
  split
  ·rename_i e;subst e;rw[if_pos (Array.getElem?_eq_some_iff.1 h).1,h]
  ·rfl
 rw[this]
theorem write_sim {id g b off:Nat} {ob ob':VObj} {arr:Array Value} {us:List Value} (hs:Sim σ β w) (hid:σ[id]?=some (g,ob)) (hl:ob.live) (hb:β id=some b) (hcl:Cells w b arr) (hle:off+us.length≤arr.size) (hus:∀ v,v∈us→celly v=true)
  (hal:ob.alike ob') (hmay:∀ i,ob'.may i→ob.may i) (hno:∀ j,j<arr.size→¬ ob.may j→¬ (off≤j∧j<off+us.length))
  (hor:∀ w',Step σ β w (σ.set id (g,ob')) β w'→Cells w' b (wset arr off us)→ORep w' (σ.set id (g,ob')) β (some b) ob') :
  ∃ w',(storeCells ⟨b,off,none⟩ us 0).run P w=.ok () w'∧Step σ β w (σ.set id (g,ob')) β w'∧Sim (σ.set id (g,ob')) β w':=by
 obtain⟨ty,fr,hc1,hc2⟩:=hcl
 have hrun:=run_storeCells (P:=P) us w arr off 0 hc1 (by omega) hc2 hus
 have hw:(if us=[] then w else World.setBlock w b (.cells (wset arr (off+0) us) ty fr))=World.setBlock w b (.cells (wset arr off us) ty fr):=by
  split
  ·rename_i e;subst e;exact(setBlock_self hc1).symm
  ·rfl
 rw[hw] at hrun
 have hlt:=(Array.getElem?_eq_some_iff.1 hc1).1
 have hp:=put_sim (w':=World.setBlock w b (.cells (wset arr off us) ty fr)) (o':=ob') (obj:=.cells arr ty fr) (obj':=.cells (wset arr off us) ty fr) hs hid hl hb rfl rfl rfl hc1 rfl hal hmay (by
  intro j u hj hm
  simp only[World.cell?,hc1,World.setBlock,Array.getElem?_setIfInBounds_self_of_lt hlt] at hj ⊢
  simp at hj ⊢
  have hj2:=(Array.getElem?_eq_some_iff.1 hj).1
  rw[wset_get _ _ _ _ hle,if_neg (hno j hj2 hm)]
  exact hj) (fun arr' ty' fr' e=>by cases e;exact⟨_,rfl,wset_size _ _ _⟩)
  (fun hst=>hor _ hst ⟨ty,fr,by simp[World.setBlock,hlt],by rw[wset_size];exact hc2⟩)
 exact⟨_,hrun,hp.1,hp.2⟩
theorem s_copy [Glob] {dt xt e:TypeId} {d x:Operand} {d' x':VA} {sz:Nat} (ho:o.op=.call { callee:=.builtin .copy,args:=#[d,x],argTypes:=#[dt,xt] }) (hu:P.underlying dt=some (.slice e)) (hsz:sizeT P e=some sz)
  (hd:cA d=some d') (hx:cA x=some x') (hf:FrameRep w σ β env a) (hs:Sim σ β w) (hk:vCopyTo sz (va env d') (va env x') σ K):OpS P o a σ β w K:=by
 have h1:=hf.eval hd
 have h2:=hf.eval hx
 unfold vCopyTo at hk
 split at hk
 case h_2=>exact hk.elim
 rename_i new hnew
 obtain⟨hok,hk⟩:=hk
 obtain⟨hlen,hcells⟩:=rdA_rep (P:=P) hs h2 hnew (fun e he=>(hok e he).1)
 have run:∀ {ad:Option Addr} {n c:Nat} {arr:Array Value} {w':World},a.eval d=.slice ad n c→(Builtin.firstCells sz (min new.length n) (a.eval x)).run P w=.ok arr w→
   ((match ad with|some p=>storeCells p arr.toList 0|none=>pure ()):Sem Unit).run P w=.ok () w'→(execOp a.eval o).run P w=.ok (.value (.int .i64 (min new.length n:Nat))) w':=by
  intro ad n c arr w' he hc hst
  refine run_call_builtin ho ?_
  simp only[builtin,List.map_toArray,List.map_cons,List.map_nil,Sem.run_bind,he]
  have hm:Nat.min new.length n=min new.length n:=rfl
  cases ad with
  | none=>
    simp at hst;subst hst
    simp[Builtin.copy_,run_underlying' hu,run_sizeOf hsz,hlen,hm,hc,goInt]
  | some p=>
    simp only[] at hst
    simp[Builtin.copy_,run_underlying' hu,run_sizeOf hsz,hlen,hm,hc,goInt,hst]
 have row:∀ {id g lo len s cap:Nat} {es:List (List PV)} {ad:Option Addr},vGet σ id g=some (.row s es false)→s=sz→lo+len≤es.length→a.eval d=.slice ad len cap→(0<len→∃ b,β id=some b∧ad=some ⟨b,lo * s,none⟩)→
   K (.int .i64 (min new.length len:Nat)) (σ.set id (g,.row sz (ovl es lo len new) false))→OpS P o a σ β w K:=by
  intro id g lo len s cap es ad hg hss hle he ha hk
  subst hss
  have hg':=vGet_some hg
  obtain⟨arr,c1,c2,c3,c4⟩:=hcells (min new.length len) (Nat.min_le_left _ _)
  have c4:=c4 fun e he=>(hok e he).2
  by_cases h0:min new.length len=0
  ·have hov:ovl es lo len new=es:=by
    unfold ovl
    have:new.take len=[]:=by
     rcases Nat.eq_zero_or_pos len with h|h
     ·rw[h,List.take_zero]
     ·have:new=[]:=List.length_eq_zero_iff.1 (by omega)
      rw[this,List.take_nil]
    rw[this,h0,List.append_nil,Nat.add_zero,List.take_append_drop]
   rw[hov,set_self hg',h0] at hk
   rw[h0] at c2
   have ha0:arr=#[]:=Array.eq_empty_of_size_eq_zero (by rw[c2];simp)
   subst ha0
   refine OpS.value (v:=.int .i64 ((0:Nat):Int)) (w':=w) ?_ hk (.int _ _) hs (Step.refl _ _ _)
   have:=run (w':=w) he c1 (by cases ad<;>rfl)
   rw[h0] at this;exact this
  ·obtain⟨b,hb,rfl⟩:=ha (by omega)
   rcases hs.obj id g _ hg' with ⟨e,_⟩|⟨b',arr0,e,hcl,hle0,hel,hre⟩
   ·rw[hb] at e;cases e
   ·rw[hb] at e;cases e
    have hm1:(lo+min new.length len) * s≤es.length * s:=Nat.mul_le_mul_right _ (by omega)
    rw[Nat.add_mul] at hm1
    have hlen':(ovl es lo len new).length=es.length:=by unfold ovl;simp;omega
    have hl1:(es.take lo).length=lo:=by simp;omega
    have hl2:(new.take len).length=min new.length len:=by simp;omega
    obtain⟨w',q1,q2,q3⟩:=write_sim (P:=P) (ob':=.row s (ovl es lo len new) false) (us:=arr.toList) (off:=lo * s) hs hg' trivial hb hcl (by simp[c2];omega) (by simpa using c4) ⟨rfl,hlen'.symm⟩ (fun i _ h=>by cases h) (fun j _ h=>absurd (fun h=>by cases h) h) (fun w' hst hcl'=>by
     refine .inr ⟨b,_,rfl,hcl',by rw[wset_size,hlen'];exact hle0,?_,fun q e j c v h1 h2 h3=>?_⟩
     ·intro e he
      unfold ovl at he
      rcases List.mem_append.1 he with h|h
      ·rcases List.mem_append.1 h with h|h
       ·exact hel e (List.mem_of_mem_take h)
       ·exact(hok e (List.mem_of_mem_take h)).1
      ·exact hel e (List.mem_of_mem_drop h)
     ·rw[wset_get _ _ _ _ (by simp[c2];omega)] at h3
      unfold ovl at h1
      by_cases hq1:q<lo
      ·rw[List.append_assoc,List.getElem?_append_left (by omega),List.getElem?_take,if_pos hq1] at h1
       have h5:j<s:=by rw[← hel e (List.mem_of_getElem? h1)];exact(List.getElem?_eq_some_iff.1 h2).1
       have:=mul_in hq1 h5
       rw[if_neg (by omega)] at h3
       exact(hre q e j c v h1 h2 h3).step hst
      ·by_cases hq2:q<lo+min new.length len
       ·rw[List.append_assoc,List.getElem?_append_right (by omega),List.getElem?_append_left (by omega),hl1,List.getElem?_take,if_pos (by omega)] at h1
        have h5:j<s:=by rw[← (hok e (List.mem_of_getElem? h1)).1];exact(List.getElem?_eq_some_iff.1 h2).1
        have h6:=mul_in (show q - lo<min new.length len by omega) h5
        have h7:q * s=lo * s+(q - lo) * s:=by rw[← Nat.add_mul];congr 1;omega
        rw[if_pos (by simp[c2];omega)] at h3
        have h8:q * s+j - lo * s=0+(q - lo) * s+j:=by omega
        rw[h8] at h3
        exact(c3 (q - lo) e j c v (by rw[List.getElem?_take,if_pos (by omega)];exact h1) h2 (by simpa using h3)).step hst
       ·rw[List.getElem?_append_right (by simp;omega),List.length_append,hl1,hl2,List.getElem?_drop] at h1
        have hqq:lo+min new.length len+(q - (lo+min new.length len))=q:=by omega
        rw[hqq] at h1
        have h7:(lo+min new.length len) * s≤q * s:=Nat.mul_le_mul_right _ (by omega)
        rw[Nat.add_mul] at h7
        rw[if_neg (by simp[c2];omega)] at h3
        exact(hre q e j c v h1 h2 h3).step hst)
    exact OpS.value (run he c1 q1) hk (.int _ _) q3 q2
 generalize hc0:va env d'=c0 at *
 split at hk
 ·rename_i id g off len
  split at hk
  case h_2=>exact hk.elim
  rename_i cs hg
  obtain⟨hss,hle,hk⟩:=hk
  subst hss
  have hg':=vGet_some hg
  generalize he:a.eval d=ed at *
  cases h1 with
  | stalebv _ _ _ _ g' o' p n c h5 h6=>rw[hg'] at h5;cases h5;omega
  | bview _ _ _ _ b cap ad cs' fz' h5 hb hl hc ha=>
    rw[hg'] at h5;cases h5
    obtain⟨arr,c1,c2,c3,c4⟩:=hcells (min new.length len) (Nat.min_le_left _ _)
    have c4:=c4 fun e he=>(hok e he).2
    have hfl:((new.take len).flatten).length=min new.length len:=by
     rw[List.length_flatten]
     have:(List.map List.length (new.take len))=List.replicate (new.take len).length 1:=by
      apply List.eq_replicate_iff.2
      refine⟨by simp,fun b hb=>?_⟩
      obtain⟨e,he,rfl⟩:=List.mem_map.1 hb
      exact(hok e (List.mem_of_mem_take he)).1
     rw[this];simp;omega
    by_cases h0:min new.length len=0
    ·have hfn:(new.take len).flatten=[]:=List.length_eq_zero_iff.1 (by omega)
     have hsp:splice cs off (new.take len).flatten=cs:=by rw[hfn];unfold splice;simp
     rw[hsp,set_self hg',h0] at hk
     rw[h0] at c2
     have ha0:arr=#[]:=Array.eq_empty_of_size_eq_zero (by rw[c2])
     subst ha0
     refine OpS.value (v:=.int .i64 ((0:Nat):Int)) (w':=w) ?_ hk (.int _ _) hs (Step.refl _ _ _)
     have:=run (w':=w) rfl c1 (by cases ad<;>rfl)
     rw[h0] at this;exact this
    ·have ha:=ha (by omega)
     subst ha
     obtain⟨b',arr0,e,hcl,hlen0,hre⟩:=hs.obj id g _ hg'
     rw[hb] at e;cases e
     obtain⟨w',q1,q2,q3⟩:=write_sim (P:=P) (ob':=.box (splice cs off (new.take len).flatten) false) (us:=arr.toList) (off:=off) hs hg' trivial hb hcl (by simp[c2];omega) (by simpa using c4) (by rw[VObj.alike,splice_length _ _ _ (by omega)]) (fun i h1=>h1) (fun j _ h=>absurd rfl h) (fun w' hst hcl'=>by
      refine⟨b,_,rfl,hcl',by rw[splice_length _ _ _ (by omega),wset_size,hlen0],fun i c u h6 h7=>?_⟩
      rw[splice_get _ _ _ _ (by omega)] at h6
      rw[wset_get _ _ _ _ (by simp[c2];omega)] at h7
      split at h6
      ·rename_i hin
       rw[if_pos (by simp[c2];omega)] at h7
       rw[flatten_get 1 _ _ (fun e he=>(hok e (List.mem_of_mem_take he)).1) (by rw[List.length_take];omega)] at h6
       rw[Nat.div_one,Nat.mod_one] at h6
       simp only[Option.bind_eq_some_iff] at h6
       obtain⟨e,h8,h9⟩:=h6
       rw[List.getElem?_take] at h8
       split at h8
       ·exact(c3 (i - off) e 0 c u (by rw[List.getElem?_take,if_pos (by omega)];exact h8) h9 (by simpa using h7)).step hst
       ·cases h8
      ·rename_i hout
       rw[if_neg (by simp[c2];omega)] at h7
       exact(hre i c u h6 h7).step hst)
     exact OpS.value (run rfl c1 q1) hk (.int _ _) q3 q2
 ·rename_i id g
  split at hk
  case h_2=>exact hk.elim
  rename_i s es hg
  obtain⟨hss,hk⟩:=hk
  have hg':=vGet_some hg
  generalize he:a.eval d=ed at *
  cases h1 with
  | stalerow _ _ g' o' p n c h5 h6=>rw[hg'] at h5;cases h5;omega
  | rownil _ _ sz fz' ad h5 hb=>
    rw[hg'] at h5;cases h5
    exact row (lo:=0) (len:=0) hg hss (by simp) rfl (by omega) hk
  | row _ _ b sz' cap es2 fz' arr ty fr h5 hb hh hc hsz=>
    rw[hg'] at h5;cases h5
    exact row (lo:=0) (len:=es.length) hg hss (by simp) rfl (fun _=>⟨b,hb,by rw[Nat.zero_mul]⟩) hk
 ·rename_i id g lo len
  split at hk
  case h_2=>exact hk.elim
  rename_i s es hg
  obtain⟨hss,hle,hk⟩:=hk
  have hg':=vGet_some hg
  generalize he:a.eval d=ed at *
  cases h1 with
  | stalerv _ _ _ _ g' o' p n c h5 h6=>rw[hg'] at h5;cases h5;omega
  | rview _ _ _ _ cap sz' ad es2 fz' h5 hl hc ha=>
    rw[hg'] at h5;cases h5
    exact row hg hss hle rfl ha hk
 ·generalize he:a.eval d=ed at *
  cases h1
  obtain⟨arr,c1,c2,c3,c4⟩:=hcells 0 (Nat.zero_le _)
  have hm0:min new.length 0=0:=by omega
  refine OpS.value (v:=.int .i64 ((min new.length 0:Nat):Int)) (w':=w) (run (arr:=arr) rfl (by rw[hm0];exact c1) rfl) (by rw[hm0];exact hk) (.int _ _) hs (Step.refl _ _ _)
 ·exact hk.elim
theorem s_makeSlice [Glob] {t e:TypeId} {x y:Operand} {x' y':VA} {id sz bytes:Nat} {zero:List PV} (ho:o.op=.makeSlice t x y) (hu:P.underlying t=some (.slice e)) (hi:(P.info? e).map (fun i=>(i.size,i.bytes))=some (sz,bytes)) (hz:zeroPV P e=some zero) (hzl:zero.length=sz)
  (hx:cA x=some x') (hy:cA y=some y') (hf:FrameRep w σ β env a) (hs:Sim σ β w) (hk:vMakeSlice id sz bytes zero (va env x') (va env y') σ K):OpS P o a σ β w K:=by
 have h1:=hf.eval hx
 have h2:=hf.eval hy
 unfold vMakeSlice at hk
 generalize hc0:va env x'=c0 at *
 generalize hc1:va env y'=c1 at *
 split at hk
 ·rename_i k1 l k2 c
  obtain⟨hl0,hlc,hb,hc47,hk⟩:=hk
  generalize he:a.eval x=ex at *
  generalize hey:a.eval y=ey at *
  cases h1;cases h2
  simp only[Option.map_eq_some_iff] at hi
  obtain⟨i,hi,hie⟩:=hi
  simp only[Prod.mk.injEq] at hie
  obtain⟨rfl,rfl⟩:=hie
  obtain⟨z,z1,z2,z3⟩:=run_zeroValue hz w
  have hzero:i.zero=some z:=by
   have:=z1
   simp[zeroValue,typeInfo,hi] at this
   cases hzz:i.zero with
   | none=>rw[hzz] at this;simp[unsupported] at this
   | some z'=>rw[hzz] at this;simp at this;rw[this]
  have hrun:=run_make (P:=P) w t e i z hu hi hzero k1 k2 l c hl0 hlc (by rw[Int.mul_comm];omega) (by omega)
  refine s_newBlock (w':=w.alloc (.cells (madeCells z.cells (c.toNat * i.size)) e)) (ty:=e) (fr:=(0,0)) (n:=l.toNat) (c:=c.toNat) (sz:=i.size) (es:=List.replicate l.toNat zero) (arr:=madeCells z.cells (c.toNat * i.size)) (by simp[execOp,ho,he,hey,hrun]) (by simp) (by omega) (by rw[size_madeCells];exact Nat.le_refl _) rfl rfl rfl rfl (by simp) (fun e he=>by rw[(List.mem_replicate.1 he).2,hzl]) (fun q e j c0 v h1 h2 h3=>?_) hs hk
  have hq:q<l.toNat:=by simpa using (List.getElem?_eq_some_iff.1 h1).1
  have he0:e=zero:=by rw[List.getElem?_replicate] at h1;split at h1<;>simp_all
  subst he0
  have hj:j<e.length:=(List.getElem?_eq_some_iff.1 h2).1
  unfold madeCells at h3
  rw[Array.getElem?_map,Array.getElem?_range] at h3
  split at h3
  ·simp only[Option.map_some,Option.some.injEq] at h3
   have hzs:z.cells.size=i.size:=by rw[← z2,hzl]
   have hmod:(q * i.size+j) % z.cells.size=j:=by
    rw[hzs,Nat.mul_comm,Nat.mul_add_mod,Nat.mod_eq_of_lt (by omega)]
   rw[hmod] at h3
   refine z3 σ β j c0 v h2 ?_
   rw[← h3,getElem!_pos z.cells j (by omega),Array.getElem?_eq_getElem (by omega)]
  ·simp at h3
 ·exact hk.elim
theorem s_clip [Glob] {t e:TypeId} {x:Operand} {x':VA} {lo hi mx:Option Operand} {id sz:Nat} (ho:o.op=.slice t x lo hi mx) (hb:(lo=none∨lo=some (.const (.int .i64 0)))∧hi=some (.const (.int .i64 0))∧mx=some (.const (.int .i64 0))) (hu:P.underlying t=some (.slice e)) (hsz:(sizeT P e).isSome=true) (hx:cA x=some x')
  (hf:FrameRep w σ β env a) (hs:Sim σ β w) (hk:vClip id sz (va env x') σ K):OpS P o a σ β w K:=by
 have h1:=hf.eval hx
 obtain⟨⟨es,hes⟩,hk⟩:=hk
 obtain⟨ad,c,sz',f,he,hc,_,_,_⟩:=rd_rep hs h1 hes
 obtain⟨s0,hs0⟩:=Option.isSome_iff_exists.1 hsz
 unfold vNew at hk
 split at hk
 ·rename_i g o0 hid
  have h:=nil_sim (sz:=sz) (fz:=false) hs hid
  refine OpS.value (v:=.slice ad 0 0) (w':=w) ?_ hk (.rownil id (g+1) sz false ad (set_same hid) (upd_same _ _ _)) h.2 h.1
  obtain⟨hlo,rfl,rfl⟩:=hb
  have e0:a.eval (.const (.int .i64 0))=.int .i64 0:=rfl
  rcases hlo with rfl|rfl<;>simp[execOp,ho,he,Instr.sliceAt,Instr.slice,e0,Instr.sliceBounds,Instr.sliceBound,asIntOf,run_underlying' hu,run_sizeOf hs0]
 ·exact hk.elim
end
inductive VOp where
 | mov (x:VA)
 | newRow (site sz:Nat)
 | pick (c x y:VA)
 | alloc (site:Nat) (zero:List PV)
 | box (site:Nat) (x:VA)
 | build (zero:List PV) (parts:List (Nat × Nat × VA))
 | buildSlice (site sz len:Nat) (zero:List PV) (parts:List (Nat × VA))
 | load (sz:Option Nat) (x:VA)
 | store (sz:Nat) (x v:VA)
 | nilCheck (x:VA)
 | bin (op:BinOp) (t:BT) (x y:VA)
 | un (op:UnOp) (x:VA)
 | convInt (k:IntKind) (x:VA)
 | convStr (x:VA)
 | s2b (site:Nat) (x:VA)
 | b2s (x:VA)
 | func (f:FuncId) (caps:List VA)
 | sliceStr (x:VA) (lo hi:Option VA)
 | slice (sz:Nat) (x:VA) (lo hi:Option VA)
 | sliceArr (n sz:Nat) (x:VA) (lo hi:Option VA)
 | field (off:Nat) (x:VA)
 | fieldVal (off:Nat) (r:Option Nat) (x:VA)
 | index (sz:Nat) (x i:VA)
 | indexArr (n sz:Nat) (x i:VA)
 | indexStr (x i:VA)
 | indexAgg (n sz:Nat) (r:Option Nat) (x i:VA)
 | extract (k:Nat) (x:VA)
 | rangeStr (site:Nat) (x:VA)
 | nextStr (x:VA)
 | call (raw:Bool) (f:FuncId) (args:List VA)
 | callV (x:VA) (args:List VA)
 | len (x:VA)
 | lenStr (x:VA)
 | append (site sz bytes:Nat) (s x:VA)
 | minmax (mx:Bool) (x y:VA)
 | eqAgg (ks:List CK) (ne:Bool) (x y:VA)
 | sliceV (sz:Nat) (x:VA) (lo hi:Option VA)
 | copyTo (sz:Nat) (d x:VA)
 | makeSlice (site sz bytes:Nat) (zero:List PV) (x y:VA)
 | clip (site sz:Nat) (x:VA)
 | ext (f:FuncId) (args:List VA)
 | snap (x:VA)
 | bad
 deriving Inhabited
def X [Glob] (P:Program) (f:FuncId) (args:List PV) (σ:VHeap) (Post:KP):Prop:=
 ∀ (w:World) (β:Beta) (vs:Array Value),vs.size=args.length→(∀ (i:Nat) (c:PV) (v:Value),args[i]?=some c→vs[i]?=some v→Rep w σ β c v)→Sim σ β w→GloRep w σ β→
  ∃ v w' r σ' β',(callFunc f vs).run P w=.ok (.value v) w'∧Post r σ'∧Rep w' σ' β' r v∧Sim σ' β' w'∧Step σ β w σ' β' w'
def vop [Glob] (P:Program) (n:Nat) (env:Env) (σ:VHeap) (K:KP):VOp→Prop
 | .mov x=>vMov (va env x) σ K
 | .newRow s sz=>vNewRow (n+s) sz σ K
 | .pick c x y=>vPick (va env c) (va env x) (va env y) σ K
 | .alloc s zero=>vAlloc (n+s) zero σ K
 | .box s x=>vBox (n+s) (va env x) σ K
 | .build zero parts=>vBuild zero (parts.map fun q=>(q.1,q.2.1,va env q.2.2)) σ K
 | .buildSlice s sz len zero parts=>vBuildSlice (n+s) sz len zero (parts.map fun q=>(q.1,va env q.2)) σ K
 | .load sz x=>vLoad sz (va env x) σ K
 | .store sz x v=>vStore sz (va env x) (va env v) σ K
 | .nilCheck x=>vNilCheck (va env x) σ K
 | .bin op t x y=>vBin op t (va env x) (va env y) σ K
 | .un op x=>vUn op (va env x) σ K
 | .convInt k x=>vConvInt k (va env x) σ K
 | .convStr x=>vConvStr (va env x) σ K
 | .s2b s x=>vS2B (n+s) (va env x) σ K
 | .b2s x=>vB2S (va env x) σ K
 | .func f caps=>vFunc f (caps.map (va env)) σ K
 | .sliceStr x lo hi=>vSliceStr (va env x) (lo.map (va env)) (hi.map (va env)) σ K
 | .slice sz x lo hi=>vSlice sz (va env x) (lo.map (va env)) (hi.map (va env)) σ K
 | .sliceArr k sz x lo hi=>vSliceArr k sz (va env x) (lo.map (va env)) (hi.map (va env)) σ K
 | .field off x=>vField off (va env x) σ K
 | .fieldVal off r x=>vFieldVal off r (va env x) σ K
 | .index sz x i=>vIndex sz (va env x) (va env i) σ K
 | .indexArr k sz x i=>vIndexArr k sz (va env x) (va env i) σ K
 | .indexStr x i=>vIndexStr (va env x) (va env i) σ K
 | .indexAgg k sz r x i=>vIndexAgg k sz r (va env x) (va env i) σ K
 | .extract k x=>vExtract k (va env x) σ K
 | .rangeStr s x=>vRangeStr (n+s) (va env x) σ K
 | .nextStr x=>vNextStr (va env x) σ K
 | .call raw f args=>vCall P raw f (args.map (va env)) σ K
 | .callV x args=>vCallV P true (va env x) (args.map (va env)) σ K
 | .len x=>vLen (va env x) σ K
 | .lenStr x=>vLenStr (va env x) σ K
 | .append s sz bytes x y=>vAppend (n+s) sz bytes (va env x) (va env y) σ K
 | .minmax mx x y=>vMinMax mx (va env x) (va env y) σ K
 | .eqAgg ks ne x y=>vEqAgg ks ne (va env x) (va env y) σ K
 | .sliceV sz x lo hi=>vSliceV sz (va env x) (lo.map (va env)) (hi.map (va env)) σ K
 | .copyTo sz d x=>vCopyTo sz (va env d) (va env x) σ K
 | .makeSlice s sz bytes zero x y=>vMakeSlice (n+s) sz bytes zero (va env x) (va env y) σ K
 | .clip s sz x=>vClip (n+s) sz (va env x) σ K
 | .ext f args=>X P f (inlArgs σ (args.map (va env))) (frzArgs σ (args.map (va env))) K
 | .snap x=>vSnap (va env x) σ K
 | .bad=>False
def cParts [Glob] (place:Nat→Option (Nat × Nat)) (p:Nat × Operand):Option (Nat × Nat × VA):=
 match place p.1,cA p.2 with
 | some q,some x=>some (q.1,q.2,x)
 | _,_=>none
def cParts' [Glob] (p:Nat × Operand):Option (Nat × VA):=(cA p.2).map fun x=>(p.1,x)
def sliceElem (P:Program) (t:TypeId):Option TypeId:=match P.underlying t with|some (.slice e)=>some e|_=>none
def arrElem (P:Program) (t:TypeId):Option (Nat × TypeId):=match P.underlying t with|some (.array n e)=>some (n,e)|_=>none
def isStr (P:Program) (t:TypeId):Bool:=match P.underlying t with|some .string=>true|_=>false
def intOfT (P:Program) (t:TypeId):Option IntKind:=match P.underlying t with|some (.int k)=>some k|_=>none
def isByteT (P:Program) (t:TypeId):Bool:=match P.underlying t with|some (.int .u8)=>true|_=>false
def isNil:Operand→Bool
 | .const (.slice none 0 0)=>true
 | _=>false
def cBuiltin [Glob] (P:Program) (site:Nat) (b:Builtin) (args:List Operand) (argTypes:List TypeId):Option VOp:=
 match b with
 | .len=>match args,argTypes with
   | [x],[t]=>(cA x).bind fun x=>if isStr P t then some (.lenStr x) else(sliceElem P t).map fun _=>.len x
   | _,_=>none
 | .append=>match args,argTypes with
   | [s,x],[ts,tx]=>(appT P ts tx).bind fun q=>(cA s).bind fun s=>(cA x).map fun x=>.append site q.1 q.2 s x
   | _,_=>none
 | .min=>match args with
   | [x,y]=>(cA x).bind fun x=>(cA y).map fun y=>.minmax false x y
   | _=>none
 | .max=>match args with
   | [x,y]=>(cA x).bind fun x=>(cA y).map fun y=>.minmax true x y
   | _=>none
 | _=>none
def cOp [Glob] (P:Program) (site:Nat) (raw:FuncId→Bool) (o:Oper):Option VOp:=
 match o.op with
 | .move x=>(cA x).map .mov
 | .assign x=>if isNil x then(sliceElem P o.type).bind fun e=>(sizeT P e).map fun sz=>.newRow site sz else(cA x).map .mov
 | .pick c x y=>(cA c).bind fun c=>(cA x).bind fun x=>(cA y).map fun y=>.pick c x y
 | .alloc t=>(zeroPV P t).map fun z=>.alloc site z
 | .box _ x=>(cA x).map fun x=>.box site x
 | .build t parts=>(zeroPV P t).bind fun z=>(placeOf P t).bind fun pl=>(parts.toList.mapM (cParts pl)).map fun ps=>.build z ps
 | .buildSlice t len parts=>(sliceElem P t).bind fun e=>(sizeT P e).bind fun sz=>(zeroPV P e).bind fun z=>(parts.toList.mapM cParts').bind fun ps=>
   if z.length=sz∧len * sz≤16777216 then some (.buildSlice site sz len z ps) else none
 | .load t x=>(loadSz P t).bind fun sz=>(cA x).map fun x=>.load sz x
 | .store t x v=>(sizeT P t).bind fun sz=>(cA x).bind fun x=>(cA v).map fun v=>.store sz x v
 | .nilCheck x=>(cA x).map .nilCheck
 | .binOp op t x y _=>(btOf P t).bind fun bt=>(cA x).bind fun x=>(cA y).map fun y=>.bin op bt x y
 | .unOp op _ x=>(cA x).map fun x=>.un op x
 | .convert s t x=>(cA x).bind fun x=>match intOfT P s,intOfT P t with
   | some _,some k=>some (.convInt k x)
   | _,_=>if isStr P s&&isStr P t then some (.convStr x) else
     if isStr P s then(sliceElem P t).bind fun e=>if isByteT P e then some (.s2b site x) else none
     else if isStr P t then(sliceElem P s).bind fun e=>if isByteT P e then some (.b2s x) else none
     else none
 | .makeFunc (.func f) first caps=>if first.isEmpty then(cAs caps.toList).map fun cs=>.func f cs else none
 | .slice t x lo hi none=>(cA x).bind fun x=>(cAo lo).bind fun lo=>(cAo hi).bind fun hi=>
   if isStr P t then some (.sliceStr x lo hi) else match sliceElem P t,arrElem P t with
   | some e,_=>(sizeT P e).map fun sz=>.slice sz x lo hi
   | none,some (n,e)=>(sizeT P e).map fun sz=>.sliceArr n sz x lo hi
   | none,none=>none
 | .fieldAddr s x k=>(fieldOff P s k).bind fun off=>(cA x).map fun x=>.field off x
 | .field t x k=>(fieldVal P t k).bind fun q=>(cA x).map fun x=>.fieldVal q.1 q.2 x
 | .indexAddr t x i=>(cA x).bind fun x=>(cA i).bind fun i=>match sliceElem P t,arrElem P t with
   | some e,_=>(sizeT P e).map fun sz=>.index sz x i
   | none,some (n,e)=>(sizeT P e).map fun sz=>.indexArr n sz x i
   | none,none=>none
 | .index t x i=>(cA x).bind fun x=>(cA i).bind fun i=>if isStr P t then some (.indexStr x i) else
   (arrElem P t).bind fun q=>(sizeT P q.2).bind fun sz=>(loadSz P q.2).map fun r=>.indexAgg q.1 sz r x i
 | .extract x k=>(cA x).map fun x=>.extract k x
 | .range t x=>(cA x).bind fun x=>if isStr P t then some (.rangeStr site x) else none
 | .next x true=>(cA x).map .nextStr
 | .call { callee:=.value (.func f),args,argTypes:=_ }=>if callOk P f then(cAs args.toList).map fun as=>.call (raw f) f as else none
 | .call { callee:=.value x,args,argTypes:=_ }=>(cA x).bind fun x=>(cAs args.toList).map fun as=>.callV x as
 | .call { callee:=.builtin b,args,argTypes }=>cBuiltin P site b args.toList argTypes.toList
 | _=>none
section
variable {P:Program} {o:Oper} {a:Act} {σ:VHeap} {β:Beta} {w:World} {env:Env} {K:KP}
theorem sliceElem_ok {t e:TypeId} (h:sliceElem P t=some e):P.underlying t=some (.slice e):=by unfold sliceElem at h;split at h<;>simp_all
theorem arrElem_ok {t e:TypeId} {n:Nat} (h:arrElem P t=some (n,e)):P.underlying t=some (.array n e):=by unfold arrElem at h;split at h<;>simp_all
theorem isStr_ok {t:TypeId} (h:isStr P t=true):P.underlying t=some .string:=by unfold isStr at h;split at h<;>simp_all
theorem intOfT_ok {t:TypeId} {k:IntKind} (h:intOfT P t=some k):P.underlying t=some (.int k):=by unfold intOfT at h;split at h<;>simp_all
theorem isByteT_ok {t:TypeId} (h:isByteT P t=true):P.underlying t=some (.int .u8):=by unfold isByteT at h;split at h<;>simp_all
theorem isNil_ok {x:Operand} (h:isNil x=true):x=.const (.slice none 0 0):=by unfold isNil at h;split at h<;>simp_all
theorem toList1 {α:Type} {l:Array α} {x:α} (h:l.toList=[x]):l=#[x]:=by apply Array.ext';simpa using h
theorem toList2 {α:Type} {l:Array α} {x y:α} (h:l.toList=[x,y]):l=#[x,y]:=by apply Array.ext';simpa using h
theorem cBuiltin_sound [Glob] {site n:Nat} {b:Builtin} {args:Array Operand} {ts:Array TypeId} {vo:VOp} (ho:o.op=.call { callee:=.builtin b,args,argTypes:=ts }) (h:cBuiltin P site b args.toList ts.toList=some vo) (hf:FrameRep w σ β env a) (hs:Sim σ β w)
  (hk:vop P n env σ K vo):OpS P o a σ β w K:=by
 unfold cBuiltin at h
 split at h
 ·split at h
  ·rename_i x t e1 e2
   rw[toList1 e1,toList1 e2] at ho
   simp only[Option.bind_eq_some_iff] at h;obtain⟨x',hx,h⟩:=h
   split at h
   ·rename_i hst;cases h;exact s_lenStr ho (isStr_ok hst) hx hf hs hk
   ·simp only[Option.map_eq_some_iff] at h;obtain⟨e,he,rfl⟩:=h
    exact s_len ho (sliceElem_ok he) hx hf hs hk
  ·cases h
 ·split at h
  ·rename_i s x t1 t2 e1 e2
   rw[toList2 e1,toList2 e2] at ho
   simp only[Option.bind_eq_some_iff,Option.map_eq_some_iff] at h;obtain⟨⟨q1,q2⟩,hq,s',hs',x',hx,rfl⟩:=h
   exact s_append ho hq hs' hx hf hs hk
  ·cases h
 ·split at h
  ·rename_i x y e1
   rw[toList2 e1] at ho
   simp only[Option.bind_eq_some_iff,Option.map_eq_some_iff] at h;obtain⟨x',hx,y',hy,rfl⟩:=h
   exact s_min (mx:=false) ho hx hy hf hs hk
  ·cases h
 ·split at h
  ·rename_i x y e1
   rw[toList2 e1] at ho
   simp only[Option.bind_eq_some_iff,Option.map_eq_some_iff] at h;obtain⟨x',hx,y',hy,rfl⟩:=h
   exact s_min (mx:=true) ho hx hy hf hs hk
  ·cases h
 ·cases h
theorem cOp_sound [Glob] {site n:Nat} {raw:FuncId→Bool} {vo:VOp} (h:cOp P site raw o=some vo) (hf:FrameRep w σ β env a) (hs:Sim σ β w) (hk:∀ vo',vo'=vo→vop P n env σ K vo'):OpS P o a σ β w K:=by
 have hk:=hk vo rfl
 unfold cOp at h
 split at h
 ·rename_i x ho
  simp only[Option.map_eq_some_iff] at h;obtain⟨y,hx,rfl⟩:=h
  exact s_mov (.inl ho) hx hf hs hk
 ·rename_i x ho
  split at h
  ·rename_i hn
   simp only[Option.bind_eq_some_iff,Option.map_eq_some_iff] at h;obtain⟨e,_,sz,_,rfl⟩:=h
   exact s_newRow ho (isNil_ok hn) hs hk
  ·simp only[Option.map_eq_some_iff] at h;obtain⟨y,hx,rfl⟩:=h
   exact s_mov (.inr ho) hx hf hs hk
 ·rename_i c x y ho
  simp only[Option.bind_eq_some_iff,Option.map_eq_some_iff] at h;obtain⟨c',hc,x',hx,y',hy,rfl⟩:=h
  exact s_pick ho hc hx hy hf hs hk
 ·rename_i t ho
  simp only[Option.map_eq_some_iff] at h;obtain⟨z,hz,rfl⟩:=h
  exact s_alloc ho hz hs hk
 ·rename_i t x ho
  simp only[Option.map_eq_some_iff] at h;obtain⟨x',hx,rfl⟩:=h
  exact s_box ho hx hf hs hk
 ·rename_i t parts ho
  simp only[Option.bind_eq_some_iff,Option.map_eq_some_iff] at h;obtain⟨z,hz,pl,hpl,ps,hps,rfl⟩:=h
  obtain⟨m1,m2⟩:=mapM_some hps
  refine s_build ho hz hpl m1.symm (fun i p q h1 h2=>?_) hf hs hk
  have:=m2 i p q h1 h2
  unfold cParts at this
  split at this
  ·rename_i e1 e2;cases this;exact⟨e1,e2⟩
  ·cases this
 ·rename_i t len parts ho
  simp only[Option.bind_eq_some_iff] at h;obtain⟨e,he,sz,hsz,z,hz,ps,hps,h⟩:=h
  split at h
  ·rename_i hc
   cases h
   obtain⟨m1,m2⟩:=mapM_some hps
   refine s_buildSlice ho (sliceElem_ok he) hsz hz hc.1 hc.2 m1.symm (fun i p q h1 h2=>?_) hf hs hk
   have:=m2 i p q h1 h2
   unfold cParts' at this
   simp only[Option.map_eq_some_iff] at this;obtain⟨y,hy,rfl⟩:=this
   exact⟨rfl,hy⟩
  ·cases h
 ·rename_i t x ho
  simp only[Option.bind_eq_some_iff,Option.map_eq_some_iff] at h;obtain⟨sz,hsz,x',hx,rfl⟩:=h
  exact s_load ho hsz hx hf hs hk
 ·rename_i t x v ho
  simp only[Option.bind_eq_some_iff,Option.map_eq_some_iff] at h;obtain⟨sz,hsz,x',hx,v',hv,rfl⟩:=h
  exact s_store ho hsz hx hv hf hs hk
 ·rename_i x ho
  simp only[Option.map_eq_some_iff] at h;obtain⟨y,hx,rfl⟩:=h
  exact s_nilCheck ho hx hf hs hk
 ·rename_i op t x y t' ho
  simp only[Option.bind_eq_some_iff,Option.map_eq_some_iff] at h;obtain⟨bt,hb,x',hx,y',hy,rfl⟩:=h
  exact s_bin ho hb hx hy hf hs hk
 ·rename_i op t x ho
  simp only[Option.map_eq_some_iff] at h;obtain⟨y,hx,rfl⟩:=h
  exact s_un ho hx hf hs hk
 ·rename_i s t x ho
  simp only[Option.bind_eq_some_iff] at h;obtain⟨x',hx,h⟩:=h
  split at h
  ·rename_i j k hj hk'
   cases h
   exact s_convInt ho (intOfT_ok hj) (intOfT_ok hk') hx hf hs hk
  ·split at h
   ·rename_i hb
    cases h
    simp at hb
    exact s_convStr ho (isStr_ok hb.1) (isStr_ok hb.2) hx hf hs hk
   ·split at h
    ·rename_i hst
     simp only[Option.bind_eq_some_iff] at h;obtain⟨e,he,h⟩:=h
     split at h
     ·rename_i hb;cases h;exact s_s2b ho (isStr_ok hst) (sliceElem_ok he) (isByteT_ok hb) hx hf hs hk
     ·cases h
    ·split at h
     ·rename_i hst
      simp only[Option.bind_eq_some_iff] at h;obtain⟨e,he,h⟩:=h
      split at h
      ·rename_i hb;cases h;exact s_b2s ho (sliceElem_ok he) (isByteT_ok hb) (isStr_ok hst) hx hf hs hk
      ·cases h
     ·cases h
 ·rename_i f first caps ho
  split at h
  ·rename_i he
   simp only[Option.map_eq_some_iff] at h;obtain⟨cs,hcs,rfl⟩:=h
   have:first=#[]:=Array.isEmpty_iff.1 he
   subst this
   exact s_func ho hcs hf hs hk
  ·cases h
 ·rename_i t x lo hi ho
  simp only[Option.bind_eq_some_iff] at h;obtain⟨x',hx,lo',hlo,hi',hhi,h⟩:=h
  split at h
  ·rename_i hst;cases h;exact s_sliceStr ho (isStr_ok hst) hx hlo hhi hf hs hk
  ·split at h
   ·rename_i e q he
    simp only[Option.map_eq_some_iff] at h;obtain⟨sz,hsz,rfl⟩:=h
    exact s_slice ho (sliceElem_ok he) hsz hx hlo hhi hf hs hk
   ·rename_i k e he1 he
    simp only[Option.map_eq_some_iff] at h;obtain⟨sz,hsz,rfl⟩:=h
    exact s_sliceArr ho (arrElem_ok he) hsz hx hlo hhi hf hs hk
   ·cases h
 ·rename_i s x k ho
  simp only[Option.bind_eq_some_iff,Option.map_eq_some_iff] at h;obtain⟨off,hoff,x',hx,rfl⟩:=h
  exact s_field ho hoff hx hf hs hk
 ·rename_i t x k ho
  simp only[Option.bind_eq_some_iff,Option.map_eq_some_iff] at h;obtain⟨⟨q1,q2⟩,hq,x',hx,rfl⟩:=h
  exact s_fieldVal ho hq hx hf hs hk
 ·rename_i t x i ho
  simp only[Option.bind_eq_some_iff] at h;obtain⟨x',hx,i',hi,h⟩:=h
  split at h
  ·rename_i e q he
   simp only[Option.map_eq_some_iff] at h;obtain⟨sz,hsz,rfl⟩:=h
   exact s_index ho (sliceElem_ok he) hsz hx hi hf hs hk
  ·rename_i k e he1 he
   simp only[Option.map_eq_some_iff] at h;obtain⟨sz,hsz,rfl⟩:=h
   exact s_indexArr ho (arrElem_ok he) hsz hx hi hf hs hk
  ·cases h
 ·rename_i t x i ho
  simp only[Option.bind_eq_some_iff] at h;obtain⟨x',hx,i',hi,h⟩:=h
  split at h
  ·rename_i hst;cases h;exact s_indexStr ho (isStr_ok hst) hx hi hf hs hk
  ·simp only[Option.bind_eq_some_iff,Option.map_eq_some_iff] at h;obtain⟨⟨k,e⟩,hq,sz,hsz,r,hr,rfl⟩:=h
   exact s_indexAgg ho (arrElem_ok hq) hsz hr hx hi hf hs hk
 ·rename_i x k ho
  simp only[Option.map_eq_some_iff] at h;obtain⟨y,hx,rfl⟩:=h
  exact s_extract ho hx hf hs hk
 ·rename_i t x ho
  simp only[Option.bind_eq_some_iff] at h;obtain⟨x',hx,h⟩:=h
  split at h
  ·rename_i hst;cases h;exact s_rangeStr ho (isStr_ok hst) hx hf hs hk
  ·cases h
 ·rename_i x ho
  simp only[Option.map_eq_some_iff] at h;obtain⟨y,hx,rfl⟩:=h
  exact s_nextStr ho hx hf hs hk
 ·rename_i f args ts ho
  split at h
  ·rename_i hc
   simp only[Option.map_eq_some_iff] at h;obtain⟨as,ha,rfl⟩:=h
   exact s_call ho hc ha hf hs hk
  ·cases h
 ·rename_i x args ts _ ho
  simp only[Option.bind_eq_some_iff,Option.map_eq_some_iff] at h;obtain⟨x',hx,as,ha,rfl⟩:=h
  exact s_callV ho hx ha hf hs hk
 ·rename_i b args ts ho
  exact cBuiltin_sound ho h hf hs hk
 ·cases h
end
def copyDst (ops:Array Oper) (o:Oper):Bool:=
 match o.dst with
 | some d=>ops.toList.any fun q=>match q.op with
   | .call { callee:=.builtin .copy,args,argTypes:=_ }=>match args.toList with
     | [.tmp t,_]=>t==d
     | _=>false
   | _=>false
 | none=>false
def isZero:Option Operand→Bool
 | some (.const (.int .i64 0))=>true
 | _=>false
def isNone {α:Type}:Option α→Bool
 | none=>true
 | _=>false
def hasNoBody (P:Program) (f:FuncId):Bool:=
 match P.funcs[f]? with
 | some fn=>fn.name != "runtime.NumGoroutine"&&fn.body.isNone
 | none=>false
def cMore [Glob] (P:Program) (site:Nat) (o:Oper):Option VOp:=
 match o.op with
 | .binOp op t x y _=>(flatT P 10000 t).bind fun ks=>(cA x).bind fun x=>(cA y).bind fun y=>
   if isAggT P t=some true∧eqGuardL P P.depth t=false then(match op with | .eql=>some (.eqAgg ks false x y) | .neq=>some (.eqAgg ks true x y)|_=>none) else none
 | .slice t x lo hi mx=>if (isNone lo||isZero lo)&&isZero hi&&isZero mx then(sliceElem P t).bind fun e=>(sizeT P e).bind fun sz=>(cA x).map fun x=>.clip site sz x else none
 | .makeSlice t x y=>(sliceElem P t).bind fun e=>((P.info? e).map fun i=>(i.size,i.bytes)).bind fun q=>(zeroPV P e).bind fun z=>(cA x).bind fun x=>(cA y).bind fun y=>
   if z.length=q.1 then some (.makeSlice site q.1 q.2 z x y) else none
 | .call { callee:=.builtin .copy,args,argTypes }=>match args.toList,argTypes.toList with
   | [d,x],[t,_]=>(sliceElem P t).bind fun e=>(sizeT P e).bind fun sz=>(cA d).bind fun d=>(cA x).map fun x=>.copyTo sz d x
   | _,_=>none
 | .call { callee:=.value (.func f),args,argTypes:=_ }=>if hasNoBody P f then(cAs args.toList).map fun as=>.ext f as else none
 | _=>none
def cView [Glob] (P:Program) (o:Oper):Option VOp:=
 match o.op with
 | .slice t x lo hi none=>(cA x).bind fun x=>(cAo lo).bind fun lo=>(cAo hi).bind fun hi=>(sliceElem P t).bind fun e=>(sizeT P e).map fun sz=>.sliceV sz x lo hi
 | _=>none
def cSnap [Glob] (raw:FuncId→Bool) (o:Oper):Option VOp:=
 match o.dst,o.op with
 | some d,.move x=>if raw (1000000+d) then(cA x).map .snap else none
 | some d,.assign x=>if raw (1000000+d)&&!isNil x then(cA x).map .snap else none
 | _,_=>none
def cAny0 [Glob] (P:Program) (site:Nat) (raw:FuncId→Bool) (ops:Array Oper) (o:Oper):VOp:=
 match (if copyDst ops o then cView P o else none) with
 | some v=>v
 | none=>match cOp P site raw o with
   | some v=>v
   | none=>(cMore P site o).getD .bad
def cAny [Glob] (P:Program) (site:Nat) (raw:FuncId→Bool) (ops:Array Oper) (o:Oper):VOp:=
 match cSnap raw o with
 | some v=>v
 | none=>cAny0 P site raw ops o
section
variable {P:Program} {o:Oper} {a:Act} {σ:VHeap} {β:Beta} {w:World} {env:Env} {K:KP}
theorem isZero_ok {x:Option Operand} (h:isZero x=true):x=some (.const (.int .i64 0)):=by
 unfold isZero at h;split at h<;>simp_all
theorem isNone_ok {α:Type} {x:Option α} (h:isNone x=true):x=none:=by unfold isNone at h;split at h<;>simp_all
theorem s_ext [Glob] {f:FuncId} {args:Array Operand} {args':List VA} {ts:Array TypeId} (ho:o.op=.call { callee:=.value (.func f),args,argTypes:=ts }) (ha:cAs args.toList=some args')
  (hf:FrameRep w σ β env a) (hs:Sim σ β w) (hk:X P f (inlArgs σ (args'.map (va env))) (frzArgs σ (args'.map (va env))) K):OpS P o a σ β w K:=by
 have hr:=args_rep hf ha
 obtain⟨e1,e2,e3⟩:=frzArgs_rep hs hr
 obtain⟨v,w',r,σ',β',q1,q2,q3,q4,q5⟩:=hk w β _ e1.1.symm e1.2 e2 (hf.glo.step e3)
 refine OpS.value (v:=v) (w':=w') ?_ q2 q3 q4 (e3.trans q5)
 rw[← q1]
 simp[execOp,ho,resolve,Act.eval,Deferred.ofValue,invoke]
theorem cMore_sound [Glob] {site n:Nat} {vo:VOp} (h:cMore P site o=some vo) (hf:FrameRep w σ β env a) (hs:Sim σ β w) (hk:vop P n env σ K vo):OpS P o a σ β w K:=by
 unfold cMore at h
 split at h
 ·rename_i op t x y t' ho
  simp only[Option.bind_eq_some_iff] at h;obtain⟨ks,hks,x',hx,y',hy,h⟩:=h
  split at h
  case isFalse=>cases h
  rename_i hc
  rw[eqGuardL_eq] at hc
  split at h
  ·cases h;exact s_eqAgg (ne:=false) ho (by simp) hks hc.1 hc.2 hx hy hf hs hk
  ·cases h;exact s_eqAgg (ne:=true) ho (by simp) hks hc.1 hc.2 hx hy hf hs hk
  ·cases h
 ·rename_i t x lo hi mx ho
  split at h
  case isFalse=>cases h
  rename_i hc
  simp only[Bool.and_eq_true,Bool.or_eq_true] at hc
  simp only[Option.bind_eq_some_iff,Option.map_eq_some_iff] at h;obtain⟨e,he,sz,hsz,x',hx,rfl⟩:=h
  exact s_clip ho ⟨hc.1.1.imp isNone_ok isZero_ok,isZero_ok hc.1.2,isZero_ok hc.2⟩ (sliceElem_ok he) (by rw[hsz];rfl) hx hf hs hk
 ·rename_i t x y ho
  simp only[Option.bind_eq_some_iff] at h;obtain⟨e,he,q,hq,z,hz,x',hx,y',hy,h⟩:=h
  split at h
  ·rename_i hl;cases h;exact s_makeSlice ho (sliceElem_ok he) hq hz hl hx hy hf hs hk
  ·cases h
 ·rename_i args ts ho
  split at h
  ·rename_i d x t t2 e1 e2
   rw[toList2 e1,toList2 e2] at ho
   simp only[Option.bind_eq_some_iff,Option.map_eq_some_iff] at h;obtain⟨e,he,sz,hsz,d',hd,x',hx,rfl⟩:=h
   exact s_copy ho (sliceElem_ok he) hsz hd hx hf hs hk
  ·cases h
 ·rename_i f args ts ho
  split at h
  ·simp only[Option.map_eq_some_iff] at h;obtain⟨as,ha,rfl⟩:=h
   exact s_ext ho ha hf hs hk
  ·cases h
 ·cases h
theorem cView_sound [Glob] {n:Nat} {vo:VOp} (h:cView P o=some vo) (hf:FrameRep w σ β env a) (hs:Sim σ β w) (hk:vop P n env σ K vo):OpS P o a σ β w K:=by
 unfold cView at h
 split at h
 ·rename_i t x lo hi ho
  simp only[Option.bind_eq_some_iff,Option.map_eq_some_iff] at h;obtain⟨x',hx,lo',hlo,hi',hhi,e,he,sz,hsz,rfl⟩:=h
  exact s_sliceV ho (sliceElem_ok he) hsz hx hlo hhi hf hs hk
 ·cases h
theorem cAny0_sound [Glob] {site n:Nat} {raw:FuncId→Bool} {ops:Array Oper} (hf:FrameRep w σ β env a) (hs:Sim σ β w) (hk:vop P n env σ K (cAny0 P site raw ops o)):OpS P o a σ β w K:=by
 unfold cAny0 at hk
 split at hk
 ·rename_i v hv
  split at hv
  ·exact cView_sound hv hf hs hk
  ·cases hv
 ·split at hk
  ·rename_i v hv
   exact cOp_sound hv hf hs fun vo' e=>by rw[e];exact hk
  ·cases hm:cMore P site o with
   | some v=>rw[hm] at hk;exact cMore_sound hm hf hs hk
   | none=>rw[hm] at hk;exact hk.elim
theorem cAny_sound [Glob] {site n:Nat} {raw:FuncId→Bool} {ops:Array Oper} (hf:FrameRep w σ β env a) (hs:Sim σ β w) (hk:vop P n env σ K (cAny P site raw ops o)):OpS P o a σ β w K:=by
 unfold cAny at hk
 split at hk
 ·rename_i v hv
  unfold cSnap at hv
  split at hv
  ·rename_i d x _ ho
   split at hv
   ·simp only[Option.map_eq_some_iff] at hv;obtain⟨y,hx,rfl⟩:=hv
    exact s_snap (.inl ho) hx hf hs hk
   ·cases hv
  ·rename_i d x _ ho
   split at hv
   ·simp only[Option.map_eq_some_iff] at hv;obtain⟨y,hx,rfl⟩:=hv
    exact s_snap (.inr ho) hx hf hs hk
   ·cases hv
  ·cases hv
 ·exact cAny0_sound hf hs hk
end
structure VO where
 dst:Option Nat
 op:VOp
 guard:Option (Nat × Bool)
 deriving Inhabited
inductive VE where
 | normal
 | exit (id:Nat)
 | ret
inductive VC where
 | skip
 | region (ops:List VO)
 | seq (x y:VC)
 | cond (c:VA) (t e:VC)
 | block (id:Nat) (c:VC)
 | loop (c:VC)
 | exit (id:Nat)
 | ret
 | dreg (ops:List (VO × List Nat)) (ord:List (Nat × Nat)) (bef:List Nat)
 | stuck
 deriving Inhabited
def vrunOps [Glob] (P:Program) (n:Nat) (K:Env→VHeap→Prop):List VO→Env→VHeap→Prop
 | [],env,σ=>K env σ
 | o::r,env,σ=>match o.guard with
   | none=>vop P n env σ (fun v σ'=>vrunOps P n K r (eput env o.dst v) σ') o.op
   | some (slot,pol)=>match env slot with
     | .bool b=>if b=pol then vop P n env σ (fun v σ'=>vrunOps P n K r (eput env o.dst v) σ') o.op else vrunOps P n K r (eput env o.dst (.tup [])) σ
     | .tup []=>vrunOps P n K r (eput env o.dst (.tup [])) σ
     | _=>False
abbrev QP:=VE→Env→VHeap→Prop
def QP.then (Q:QP) (N:Env→VHeap→Prop):QP
 | .normal,env,σ=>N env σ
 | .exit id,env,σ=>Q (.exit id) env σ
 | .ret,env,σ=>Q .ret env σ
def QP.block (Q:QP) (id:Nat):QP
 | .exit id',env,σ=>if id'=id then Q .normal env σ else Q (.exit id') env σ
 | .normal,env,σ=>Q .normal env σ
 | .ret,env,σ=>Q .ret env σ
def vcond (x:PV) (t e:Prop):Prop:=
 match x with
 | .bool true=>t
 | .bool false=>e
 | _=>False
def vloop (body:Env→VHeap→QP→Prop) (env:Env) (σ:VHeap) (Q:QP):Prop:=
 ∃ I:Nat→Env→VHeap→Prop,(∃ k,I k env σ)∧∀ k env σ,I k env σ→body env σ (Q.then fun env' σ'=>∃ k',k'<k∧I k' env' σ')
def vready (ops:List (VO × List Nat)) (listed:List Nat):List Nat:=
 (List.range ops.length).filter fun i=>!listed.contains i&&((ops[i]?).map fun q=>q.2.all listed.contains).getD false
def vany [Glob] (P:Program) (n:Nat) (K:Env→VHeap→Prop) (ops:List (VO × List Nat)):Nat→List Nat→Env→VHeap→Prop
 | 0,listed,env,σ=>vready ops listed=[]∧K env σ
 | fuel+1,listed,env,σ=>(vready ops listed=[]→K env σ)∧
   ∀ i q,i∈vready ops listed→ops[i]?=some q→vrunOps P n (vany P n K ops fuel (i::listed)) [q.1] env σ
def vrun [Glob] (P:Program) (n:Nat):VC→Env→VHeap→QP→Prop
 | .skip,env,σ,Q=>Q .normal env σ
 | .region ops,env,σ,Q=>vrunOps P n (fun env σ=>Q .normal env σ) ops env σ
 | .seq x y,env,σ,Q=>vrun P n x env σ (Q.then fun env σ=>vrun P n y env σ Q)
 | .cond c t e,env,σ,Q=>vcond (va env c) (vrun P n t env σ Q) (vrun P n e env σ Q)
 | .block id c,env,σ,Q=>vrun P n c env σ (Q.block id)
 | .loop c,env,σ,Q=>vloop (vrun P n c) env σ Q
 | .exit id,env,σ,Q=>Q (.exit id) env σ
 | .ret,env,σ,Q=>Q .ret env σ
 | .dreg ops _ _,env,σ,Q=>vany P n (fun env σ=>Q .normal env σ) ops ops.length [] env σ
 | .stuck,_,_,_=>False
def slotOf (ops:Array Oper) (g:Option (Nat × Bool)):Option (Option (Nat × Bool)):=
 match g with
 | none=>some none
 | some (j,b)=>match (ops[j]?).bind (·.dst) with
   | some d=>some (some (d,b))
   | none=>none
def cVO [Glob] (P:Program) (N:Nat) (sites:List Nat) (raw:FuncId→Bool) (ops:Array Oper) (o:Oper):Option VO:=
 match slotOf ops o.guard with
 | some g=>if o.dst.getD 0<N then some { dst:=o.dst,op:=cAny P (sites.idxOf (o.dst.getD 0)) raw ops o,guard:=g } else none
 | none=>none
def cAfter (o:Oper):List Nat:=(o.after.toList.filter (Region.binds .any)).map (·.on)
def kindOf [Glob] (o:VOp):Nat:=
 match o with
 | .load .. | .nilCheck _ | .field .. | .index .. | .indexArr .. | .sliceArr .. | .len _ | .b2s _ | .slice .. | .sliceV ..=>1
 | .bin _ .ptr _ _ | .bin _ .slice _ _=>1
 | .mov _ | .pick .. | .build .. | .bin .. | .un .. | .convInt .. | .convStr _ | .func .. | .sliceStr .. | .fieldVal .. | .indexStr .. | .indexAgg .. | .extract .. | .lenStr _ | .minmax .. | .eqAgg ..=>2
 | .call false f _=>cond (Glob.still f) 1 0
 | _=>0
def befs:List (List Nat)→List Nat→List Nat
 | [],acc=>acc
 | a::r,acc=>befs r (acc++[a.foldl (fun s e=>s ||| (2 ^ e ||| (acc[e]?).getD 0)) 0])
def greedy [Glob] (ops:List (VO × List Nat)) (B:List Nat):Nat→List Nat→List (Nat × Nat)
 | 0,_=>[]
 | f+1,listed=>
   let rd:=vready ops listed
   let k:=fun i=>match ops[i]? with|some q=>kindOf q.1.op|none=>0
   match rd.find? (fun i=>!Nat.beq (k i) 0) with
   | some i=>((if Nat.beq (k i) 1&&(List.range ops.length).all (fun e=>listed.contains e||!Nat.beq (k e) 0||((B[e]?).getD 0).testBit i) then 1 else 2),i)::greedy ops B f (i::listed)
   | none=>match rd with
     | j::_=>(0,j)::greedy ops B f (j::listed)
     | []=>[]
def cDreg [Glob] (ops:List (VO × List Nat)):VC:=.dreg ops (greedy ops (befs (ops.map (·.2)) []) ops.length []) (befs (ops.map (·.2)) [])
def cCode [Glob] (P:Program) (N:Nat) (sites:List Nat) (raw:FuncId→Bool):Code→Option VC
 | .skip=>some .skip
 | .region _ ops false=>(ops.toList.mapM (cVO P N sites raw ops)).map .region
 | .region _ ops true=>if P.follows .mixedOrders=true then(ops.toList.mapM (cVO P N sites raw ops)).map fun l=>cDreg (l.zip (ops.toList.map cAfter)) else none
 | .seq x y=>match cCode P N sites raw x,cCode P N sites raw y with
   | some a,some b=>some (.seq a b)
   | _,_=>none
 | .cond c t e=>match cA c,cCode P N sites raw t,cCode P N sites raw e with
   | some c,some a,some b=>some (.cond c a b)
   | _,_,_=>none
 | .block id c=>match cCode P N sites raw c with
   | some a=>some (.block id a)
   | none=>none
 | .loop c=>match cCode P N sites raw c with
   | some a=>some (.loop a)
   | none=>none
 | .exit id=>some (.exit id)
 | .ret=>some .ret
 | _=>some .stuck
section
variable {P:Program} {σ:VHeap} {β:Beta} {w:World} {env:Env} {a:Act}
def VE.out:VE→Exit
 | .normal=>.normal
 | .exit id=>.exit id
 | .ret=>.ret
def Out [Glob] (N:Nat) (Q:QP) (σ:VHeap) (β:Beta) (w:World) (e:Exit) (a':Act) (w':World):Prop:=
 ∃ ve env' σ' β',e=VE.out ve∧Q ve env' σ'∧FrameRep w' σ' β' env' a'∧Sim σ' β' w'∧Step σ β w σ' β' w'∧a'.tmps.size=N
theorem Out.pre [Glob] {N:Nat} {Q:QP} {σ1:VHeap} {β1:Beta} {w1:World} (h:Step σ β w σ1 β1 w1) {e:Exit} {a':Act} {w':World} (k:Out N Q σ1 β1 w1 e a' w'):Out N Q σ β w e a' w':=
 let ⟨ve,env',σ',β',e1,e2,e3,e4,e5,e6⟩:=k
 ⟨ve,env',σ',β',e1,e2,e3,e4,h.trans e5,e6⟩
theorem ops_sound [Glob] {n N:Nat} {sites:List Nat} {raw:FuncId→Bool} {ops:Array Oper} {K:Env→VHeap→Prop} {Q:Exit→Act→World→Prop}:∀ (l:List Oper) (vl:List VO) (pre:List Oper) (env:Env) (σ:VHeap) (β:Beta) (a:Act) (w:World),a.tmps.size=N→
  ops.toList=pre++l→l.mapM (cVO P N sites raw ops)=some vl→FrameRep w σ β env a→Sim σ β w→vrunOps P n K vl env σ→
  (∀ env' σ' β' a' w',K env' σ'→FrameRep w' σ' β' env' a'→Sim σ' β' w'→Step σ β w σ' β' w'→a'.tmps.size=N→Q .normal a' w')→wpOps P ops Q (List.range' pre.length l.length) a w:=by
 intro l
 induction l with
 | nil=>
   intro vl pre env σ β a w hN hl hm hf hs hk hq
   simp at hm;subst hm
   simp only[List.length_nil,List.range'_zero,wpOps]
   exact hq env σ β a w hk hf hs (Step.refl _ _ _) hN
 | cons o l ih=>
   intro vl pre env σ β a w hN hl hm hf hs hk hq
   rw[List.mapM_cons] at hm
   cases h1:cVO P N sites raw ops o with
   | none=>rw[h1] at hm;simp at hm
   | some vo=>
     cases h2:l.mapM (cVO P N sites raw ops) with
     | none=>rw[h1,h2] at hm;simp at hm
     | some vl'=>
       rw[h1,h2] at hm;simp at hm;subst hm
       have hat:ops[pre.length]?=some o:=by rw[← Array.getElem?_toList,hl];simp
       simp only[List.length_cons,List.range'_succ,wpOps,hat]
       have hput:∀ v,(a.put o.dst v).tmps.size=N:=fun v=>by rw[← hN];unfold Act.put;split<;>simp
       have hdst:∀ d',o.dst=some d'→d'<a.tmps.size:=by
        intro d' hd'
        unfold cVO at h1
        split at h1
        ·split at h1
         ·rename_i hlt;rw[hd'] at hlt;rw[hN];exact hlt
         ·cases h1
        ·cases h1
       have next:∀ {r:PV} {v:Value} {σ':VHeap} {β':Beta} {w':World},vrunOps P n K vl' (eput env o.dst r) σ'→Rep w' σ' β' r v→Sim σ' β' w'→Step σ β w σ' β' w'→
         wpOps P ops Q (List.range' (pre.length+1) l.length) (a.put o.dst v) w':=by
        intro r v σ' β' w' hk' hr' hs' hst'
        have:=ih vl' (pre++[o]) (eput env o.dst r) σ' β' (a.put o.dst v) w' (hput v) (by simp[hl]) h2 ((hf.step hst').put hdst hr') hs' hk' (fun env' σ2 β2 a2 w2 e1 e2 e3 e4 e5=>hq env' σ2 β2 a2 w2 e1 e2 e3 (hst'.trans e4) e5)
        simpa using this
       unfold cVO at h1
       split at h1
       ·rename_i g hg
        split at h1
        case isFalse=>cases h1
        cases h1
        simp only[vrunOps] at hk
        have run:vop P n env σ (fun v σ'=>vrunOps P n K vl' (eput env o.dst v) σ') (cAny P (sites.idxOf (o.dst.getD 0)) raw ops o)→o.wp P a w (wpOps P ops Q (List.range' (pre.length+1) l.length)) Q:=by
         intro hk
         exact cAny_sound hf hs hk _ _ fun v w' r σ' β' e1 e2 e3 e4=>next e1 e2 e3 e4
        have skip:vrunOps P n K vl' (eput env o.dst (.tup [])) σ→wpOps P ops Q (List.range' (pre.length+1) l.length) (a.put o.dst undef) w:=by
         intro hk
         exact next hk (.tup [] #[] rfl (by simp)) hs (Step.refl _ _ _)
        unfold slotOf at hg
        split at hg
        ·rename_i hgd
         cases hg
         have hw:Region.wanted o (yielded ops a.tmps)=true:=by simp[Region.wanted,hgd]
         rw[if_pos hw]
         exact .inl (run hk)
        ·rename_i j b hgd
         split at hg
         ·rename_i d hd
          cases hg
          simp only[] at hk
          have hy:yielded ops a.tmps j=match (a.tmps[d]?:Option Value) with|some (.bool b)=>some b|_=>none:=by unfold yielded;rw[hd];rfl
          have hr:=hf.rep d
          rw[Array.getD_eq_getD_getElem?] at hr
          split at hk
          ·rename_i b' hb'
           rw[hb'] at hr
           have hy2:yielded ops a.tmps j=some b':=by
            rw[hy]
            cases hv:a.tmps[d]? with
            | none=>rw[hv] at hr;cases hr
            | some v=>rw[hv] at hr;simp only[Option.getD_some] at hr;cases hr;rfl
           by_cases hbb:b'=b
           ·rw[if_pos hbb] at hk
            have hw:Region.wanted o (yielded ops a.tmps)=true:=by simp[Region.wanted,hgd,hy2,hbb]
            rw[if_pos hw];exact .inl (run hk)
           ·rw[if_neg hbb] at hk
            have hw:¬ Region.wanted o (yielded ops a.tmps)=true:=by simp[Region.wanted,hgd,hy2,hbb]
            rw[if_neg hw];exact skip hk
          ·rename_i hb'
           rw[hb'] at hr
           have hy2:yielded ops a.tmps j=none:=by
            rw[hy]
            cases hv:a.tmps[d]? with
            | none=>rfl
            | some v=>rw[hv] at hr;simp only[Option.getD_some] at hr;cases hr;rfl
           have hw:¬ Region.wanted o (yielded ops a.tmps)=true:=by simp[Region.wanted,hgd,hy2]
           rw[if_neg hw];exact skip hk
          ·exact hk.elim
         ·cases hg
       ·cases h1
theorem op_sound [Glob] {n N:Nat} {sites:List Nat} {raw:FuncId→Bool} {ops:Array Oper} {o:Oper} {vo:VO} {i:Nat} {K:Env→VHeap→Prop} {N':Act→World→Prop} {Q:Exit→Act→World→Prop} (hN:a.tmps.size=N) (hat:ops[i]?=some o) (h1:cVO P N sites raw ops o=some vo)
  (hf:FrameRep w σ β env a) (hs:Sim σ β w) (hk:vrunOps P n K [vo] env σ) (hq:∀ env' σ' β' a' w',K env' σ'→FrameRep w' σ' β' env' a'→Sim σ' β' w'→Step σ β w σ' β' w'→a'.tmps.size=N→N' a' w'):wpOp P ops Q i N' a w:=by
 simp only[wpOp,hat]
 have hput:∀ v,(a.put o.dst v).tmps.size=N:=fun v=>by rw[← hN];unfold Act.put;split<;>simp
 have hdst:∀ d',o.dst=some d'→d'<a.tmps.size:=by
  intro d' hd'
  unfold cVO at h1
  split at h1
  ·split at h1
   ·rename_i hlt;rw[hd'] at hlt;rw[hN];exact hlt
   ·cases h1
  ·cases h1
 have next:∀ {r:PV} {v:Value} {σ':VHeap} {β':Beta} {w':World},vrunOps P n K [] (eput env o.dst r) σ'→Rep w' σ' β' r v→Sim σ' β' w'→Step σ β w σ' β' w'→N' (a.put o.dst v) w':=by
  intro r v σ' β' w' hk' hr' hs' hst'
  exact hq _ _ _ _ _ hk' ((hf.step hst').put hdst hr') hs' hst' (hput v)
 unfold cVO at h1
 split at h1
 ·rename_i g hg
  split at h1
  case isFalse=>cases h1
  cases h1
  simp only[vrunOps] at hk
  have run:vop P n env σ (fun v σ'=>K (eput env o.dst v) σ') (cAny P (sites.idxOf (o.dst.getD 0)) raw ops o)→o.wp P a w N' Q:=by
   intro hk
   exact cAny_sound hf hs hk _ _ fun v w' r σ' β' e1 e2 e3 e4=>next e1 e2 e3 e4
  have skip:K (eput env o.dst (.tup [])) σ→N' (a.put o.dst undef) w:=by
   intro hk
   exact next (r:=.tup []) hk (.tup [] #[] rfl (by simp)) hs (Step.refl _ _ _)
  unfold slotOf at hg
  split at hg
  ·rename_i hgd
   cases hg
   have hw:Region.wanted o (yielded ops a.tmps)=true:=by simp[Region.wanted,hgd]
   rw[if_pos hw]
   exact .inl (run hk)
  ·rename_i j b hgd
   split at hg
   ·rename_i d hd
    cases hg
    simp only[] at hk
    have hy:yielded ops a.tmps j=match (a.tmps[d]?:Option Value) with|some (.bool b)=>some b|_=>none:=by unfold yielded;rw[hd];rfl
    have hr:=hf.rep d
    rw[Array.getD_eq_getD_getElem?] at hr
    split at hk
    ·rename_i b' hb'
     rw[hb'] at hr
     have hy2:yielded ops a.tmps j=some b':=by
      rw[hy]
      cases hv:a.tmps[d]? with
      | none=>rw[hv] at hr;cases hr
      | some v=>rw[hv] at hr;simp only[Option.getD_some] at hr;cases hr;rfl
     by_cases hbb:b'=b
     ·rw[if_pos hbb] at hk
      have hw:Region.wanted o (yielded ops a.tmps)=true:=by simp[Region.wanted,hgd,hy2,hbb]
      rw[if_pos hw];exact .inl (run hk)
     ·rw[if_neg hbb] at hk
      have hw:¬ Region.wanted o (yielded ops a.tmps)=true:=by simp[Region.wanted,hgd,hy2,hbb]
      rw[if_neg hw];exact skip hk
    ·rename_i hb'
     rw[hb'] at hr
     have hy2:yielded ops a.tmps j=none:=by
      rw[hy]
      cases hv:a.tmps[d]? with
      | none=>rfl
      | some v=>rw[hv] at hr;simp only[Option.getD_some] at hr;cases hr;rfl
     have hw:¬ Region.wanted o (yielded ops a.tmps)=true:=by simp[Region.wanted,hgd,hy2]
     rw[if_neg hw];exact skip hk
    ·exact hk.elim
   ·cases hg
 ·cases h1
theorem mapM_get {α γ:Type} {f:α→Option γ}:∀ {l:List α} {l':List γ},l.mapM f=some l'→l.length=l'.length∧∀ (i:Nat) (x:α),l[i]?=some x→∃ y,l'[i]?=some y∧f x=some y:=by
 intro l
 induction l with
 | nil=>intro l' h;simp at h;subst h;simp
 | cons x l ih=>
   intro l' h
   rw[List.mapM_cons] at h
   cases h1:f x with
   | none=>rw[h1] at h;simp at h
   | some y=>
     cases h2:l.mapM f with
     | none=>rw[h1,h2] at h;simp at h
     | some ys=>
       rw[h1,h2] at h;simp at h;subst h
       obtain⟨e1,e2⟩:=ih h2
       refine⟨by simp[e1],fun i z hi=>?_⟩
       cases i with
       | zero=>cases hi;exact⟨y,rfl,h1⟩
       | succ i=>exact e2 i z (by simpa using hi)
theorem ready_eq {ops:Array Oper} {vl:List VO} (hl:vl.length=ops.size) {listed:List Nat} {la:Array Bool} (hsz:la.size=ops.size) (hin:∀ i,i∈listed→i<ops.size) (hla:∀ i,i<ops.size→la.getD i false=listed.contains i) :
  Region.ready .any ops la=vready (vl.zip (ops.toList.map cAfter)) listed:=by
 unfold Region.ready vready
 have hlen:(vl.zip (ops.toList.map cAfter)).length=ops.size:=by simp[hl]
 rw[hlen]
 apply List.filter_congr
 intro i hi
 have hi:=List.mem_range.1 hi
 have e1:la.getD i true=listed.contains i:=by
  rw[← hla i hi,Array.getD_eq_getD_getElem?,Array.getD_eq_getD_getElem?,Array.getElem?_eq_getElem (by omega)];rfl
 have e2:(vl.zip (ops.toList.map cAfter))[i]?=some (vl[i],cAfter ops[i]):=by
  rw[List.getElem?_eq_getElem (by rw[hlen];exact hi)];simp
 have e3:ops[i]?=some ops[i]:=Array.getElem?_eq_getElem hi
 rw[e1,e2,e3]
 congr 1
 simp only[Option.map_some,Option.getD_some]
 unfold cAfter
 rw[List.all_map,List.all_filter,← Array.all_toList]
 congr 1
 funext e
 simp only[Function.comp]
 by_cases he:e.on<ops.size
 ·rw[hla _ he]
 ·have h1:listed.contains e.on=false:=by
   rw[List.contains_eq_mem]
   simp only[decide_eq_false_iff_not]
   intro hm;exact he (hin _ hm)
  have h2:la.getD e.on false=false:=by rw[Array.getD_eq_getD_getElem?,Array.getElem?_eq_none (by omega)];rfl
  rw[h1,h2]
theorem any_sound [Glob] {n N:Nat} {sites:List Nat} {raw:FuncId→Bool} {ops:Array Oper} {vl:List VO} {K:Env→VHeap→Prop} {Q:Exit→Act→World→Prop} (hm:ops.toList.mapM (cVO P N sites raw ops)=some vl) :
  ∀ (fuel:Nat) (listed:List Nat) (la:Array Bool) (env:Env) (σ:VHeap) (β:Beta) (a:Act) (w:World),la.size=ops.size→(∀ i,i∈listed→i<ops.size)→(∀ i,i<ops.size→la.getD i false=listed.contains i)→a.tmps.size=N→
  FrameRep w σ β env a→Sim σ β w→vany P n K (vl.zip (ops.toList.map cAfter)) fuel listed env σ→
  (∀ env' σ' β' a' w',K env' σ'→FrameRep w' σ' β' env' a'→Sim σ' β' w'→Step σ β w σ' β' w'→a'.tmps.size=N→Q .normal a' w')→wpAny P .any ops Q fuel la a w:=by
 obtain⟨hlen,hget⟩:=mapM_get hm
 have hl:vl.length=ops.size:=by rw[← hlen];simp
 intro fuel
 induction fuel with
 | zero=>
   intro listed la env σ β a w hsz hin hla hN hf hs hk hq
   exact⟨by rw[ready_eq hl hsz hin hla];exact hk.1,hq _ _ _ _ _ hk.2 hf hs (Step.refl _ _ _) hN⟩
 | succ fuel ih=>
   intro listed la env σ β a w hsz hin hla hN hf hs hk hq
   unfold wpAny
   rw[ready_eq hl hsz hin hla]
   refine⟨fun h=>hq _ _ _ _ _ (hk.1 h) hf hs (Step.refl _ _ _) hN,fun i hi=>?_⟩
   have hi2:i<ops.size:=by
    have:=List.mem_range.1 (List.mem_filter.1 hi).1
    simpa [hl] using this
   have e3:ops.toList[i]?=some ops[i]:=by rw[Array.getElem?_toList];exact Array.getElem?_eq_getElem hi2
   obtain⟨vo,h1,h2⟩:=hget i _ e3
   have e2:(vl.zip (ops.toList.map cAfter))[i]?=some (vo,cAfter ops[i]):=by
    rw[List.getElem?_zip_eq_some]
    exact⟨h1,by rw[List.getElem?_map,e3];rfl⟩
   refine op_sound hN (Array.getElem?_eq_getElem hi2) h2 hf hs (hk.2 i _ hi e2) fun env' σ' β' a' w' f1 f2 f3 f4 f5=>?_
   refine ih (i::listed) (la.setIfInBounds i true) env' σ' β' a' w' (by simpa using hsz) (fun j hj=>by rcases List.mem_cons.1 hj with rfl|h;exact hi2;exact hin j h) (fun j hj=>?_) f5 f2 f3 f1 fun env2 σ2 β2 a2 w2 g1 g2 g3 g4 g5=>hq _ _ _ _ _ g1 g2 g3 (f4.trans g4) g5
   by_cases hji:i=j
   ·subst hji
    rw[Array.getD_eq_getD_getElem?,Array.getElem?_setIfInBounds_self_of_lt (by omega)]
    simp
   ·rw[Array.getD_eq_getD_getElem?,Array.getElem?_setIfInBounds_ne hji,← Array.getD_eq_getD_getElem?,hla j hj]
    rw[List.contains_cons]
    have:(j==i)=false:=by simp;omega
    rw[this,Bool.false_or]
theorem wp_loop_idx {c:Code} {Q:Exit→Act→World→Prop} (J:Nat→Act→World→Prop) {k0:Nat} (h0:J k0 a w)
  (round:∀ k a w,J k a w→c.wp P (Exit.then (fun a' w'=>∃ k',k'<k∧J k' a' w') Q) a w):(Code.loop c).wp P Q a w:=by
 intro b k cs
 have key:∀ n a w,J n a w→∃ e a' w',Q e a' w'∧Arrives P (lone (b.at a (.code c::.inLoop c::k)) cs w) b k cs e a' w':=by
  intro n
  induction n using Nat.strongRecOn with
  | _ n ih=>
    intro a w hI
    obtain⟨e,a₁,w₁,hq,harr⟩:=round n a w hI b (.inLoop c::k) cs
    cases e with
    | normal=>
      obtain⟨k',hlt,hI₁⟩:=hq
      obtain⟨e₂,a₂,w₂,hq₂,harr₂⟩:=ih k' hlt a₁ w₁ hI₁
      exact⟨e₂,a₂,w₂,hq₂,.of_steps (Steps.trans harr (.one step_inLoop)) harr₂⟩
    | exit id=>exact⟨_,a₁,w₁,hq,.pass (x:=.inLoop c) rfl (fun _ _=>.inl (by simp)) harr⟩
    | goto l=>exact⟨_,a₁,w₁,hq,.pass (x:=.inLoop c) rfl (fun _ _=>.inl (by simp)) harr⟩
    | ret=>exact⟨_,a₁,w₁,hq,.pass (x:=.inLoop c) rfl (fun _ _=>.inl (by simp)) harr⟩
    | panic ch=>exact⟨_,a₁,w₁,hq,.pass (x:=.inLoop c) rfl (fun _ _=>.inl (by simp)) harr⟩
    | outgrown=>exact⟨_,a₁,w₁,hq,.pass (x:=.inLoop c) rfl (fun _ _=>.inl (by simp)) harr⟩
 obtain⟨e,a',w',hq,harr⟩:=key _ a w h0
 exact⟨e,a',w',hq,.of_steps (.one step_loop) harr⟩
theorem code_sound [Glob] {n N:Nat} {sites:List Nat} {raw:FuncId→Bool}:∀ (c:Code) (vc:VC) (env:Env) (σ:VHeap) (β:Beta) (a:Act) (w:World) (Q:QP),cCode P N sites raw c=some vc→a.tmps.size=N→FrameRep w σ β env a→Sim σ β w→
  vrun P n vc env σ Q→c.wp P (Out N Q σ β w) a w:=by
 intro c
 induction c with
 | skip=>
   intro vc env σ β a w Q h hN hf hs hk
   cases h
   exact wp_skip ⟨.normal,env,σ,β,rfl,hk,hf,hs,Step.refl _ _ _,hN⟩
 | region id ops draw=>
   intro vc env σ β a w Q h hN hf hs hk
   cases draw with
   | true=>
     simp only[cCode] at h
     split at h
     case isFalse=>cases h
     rename_i hmix
     simp only[Option.map_eq_some_iff] at h
     obtain⟨vl,hm,rfl⟩:=h
     have hlen:(vl.zip (ops.toList.map cAfter)).length=ops.size:=by
      have:=(mapM_get hm).1
      simp at this
      simp[← this]
     simp only[cDreg,vrun,hlen] at hk
     have hd:=same_sim (w':={ w with drawn:=w.drawn+1 }) hs rfl rfl rfl rfl
     refine wp_region_any hmix (any_sound hm ops.size [] _ env σ β a _ (by simp) (by simp) (fun i hi=>by simp[hi]) hN (hf.step hd.1) hd.2 hk fun env' σ' β' a' w' e1 e2 e3 e4 e5=>⟨.normal,env',σ',β',rfl,e1,e2,e3,hd.1.trans e4,e5⟩)
   | false=>
     simp only[cCode,Option.map_eq_some_iff] at h
     obtain⟨vl,hm,rfl⟩:=h
     refine wp_region ?_
     have:=ops_sound (P:=P) (n:=n) (N:=N) (Q:=Out N Q σ β w) ops.toList vl [] env σ β a w hN rfl hm hf hs hk (fun env' σ' β' a' w' e1 e2 e3 e4 e5=>⟨.normal,env',σ',β',rfl,e1,e2,e3,e4,e5⟩)
     rw[List.range_eq_range']
     simpa using this
 | seq x y ihx ihy=>
   intro vc env σ β a w Q h hN hf hs hk
   simp only[cCode] at h
   split at h
   ·rename_i vx vy hx hy
    cases h
    refine wp_seq (wp_mono (ihx vx env σ β a w _ hx hN hf hs hk) ?_)
    rintro e a' w' ⟨ve,env',σ',β',rfl,e2,e3,e4,e5,e6⟩
    cases ve with
    | normal=>exact wp_mono (ihy vy env' σ' β' a' w' Q hy e6 e3 e4 e2) fun e a2 w2 h=>h.pre e5
    | exit id=>exact⟨.exit id,env',σ',β',rfl,e2,e3,e4,e5,e6⟩
    | ret=>exact⟨.ret,env',σ',β',rfl,e2,e3,e4,e5,e6⟩
   ·cases h
 | cond c x y ihx ihy=>
   intro vc env σ β a w Q h hN hf hs hk
   simp only[cCode] at h
   split at h
   ·rename_i vcd vx vy hc hx hy
    cases h
    have hr:=hf.eval hc
    simp only[vrun,vcond] at hk
    split at hk
    ·rename_i heq
     rw[heq] at hr
     generalize hv:a.eval c=v at hr
     cases hr
     exact wp_cond_true hv (ihx vx env σ β a w Q hx hN hf hs hk)
    ·rename_i heq
     rw[heq] at hr
     generalize hv:a.eval c=v at hr
     cases hr
     exact wp_cond_false hv (ihy vy env σ β a w Q hy hN hf hs hk)
    ·exact hk.elim
   ·cases h
 | block id c ih=>
   intro vc env σ β a w Q h hN hf hs hk
   simp only[cCode] at h
   split at h
   ·rename_i vx hx
    cases h
    refine wp_block (wp_mono (ih vx env σ β a w _ hx hN hf hs hk) ?_)
    rintro e a' w' ⟨ve,env',σ',β',rfl,e2,e3,e4,e5,e6⟩
    cases ve with
    | normal=>exact⟨.normal,env',σ',β',rfl,e2,e3,e4,e5,e6⟩
    | exit id'=>
      simp only[QP.block] at e2
      simp only[VE.out,Exit.inBlock]
      by_cases hid:id'=id
      ·rw[if_pos hid] at e2 ⊢;exact⟨.normal,env',σ',β',rfl,e2,e3,e4,e5,e6⟩
      ·rw[if_neg hid] at e2 ⊢;exact⟨.exit id',env',σ',β',rfl,e2,e3,e4,e5,e6⟩
    | ret=>exact⟨.ret,env',σ',β',rfl,e2,e3,e4,e5,e6⟩
   ·cases h
 | loop c ih=>
   intro vc env σ β a w Q h hN hf hs hk
   simp only[cCode] at h
   split at h
   ·rename_i vx hx
    cases h
    obtain⟨I,⟨k0,hI⟩,hround⟩:=hk
    refine wp_loop_idx (fun k a' w'=>∃ env' σ' β',I k env' σ'∧FrameRep w' σ' β' env' a'∧Sim σ' β' w'∧Step σ β w σ' β' w'∧a'.tmps.size=N) ⟨env,σ,β,hI,hf,hs,Step.refl _ _ _,hN⟩ ?_
    rintro k a' w' ⟨env',σ',β',e1,e2,e3,e4,e5⟩
    refine wp_mono (ih vx env' σ' β' a' w' _ hx e5 e2 e3 (hround k env' σ' e1)) ?_
    rintro e a2 w2 ⟨ve,env2,σ2,β2,rfl,f2,f3,f4,f5,f6⟩
    cases ve with
    | normal=>
      obtain⟨k',hlt,hI'⟩:=f2
      exact⟨k',hlt,env2,σ2,β2,hI',f3,f4,e4.trans f5,f6⟩
    | exit id'=>exact⟨.exit id',env2,σ2,β2,rfl,f2,f3,f4,e4.trans f5,f6⟩
    | ret=>exact⟨.ret,env2,σ2,β2,rfl,f2,f3,f4,e4.trans f5,f6⟩
   ·cases h
 | exit id=>
   intro vc env σ β a w Q h hN hf hs hk
   cases h
   exact wp_exit ⟨.exit id,env,σ,β,rfl,hk,hf,hs,Step.refl _ _ _,hN⟩
 | ret=>
   intro vc env σ β a w Q h hN hf hs hk
   cases h
   exact wp_ret ⟨.ret,env,σ,β,rfl,hk,hf,hs,Step.refl _ _ _,hN⟩
 | _=>intro vc env σ β a w Q h _ _ _ hk;cases h;exact hk.elim
inductive RV where
 | tmp (t:Nat)
 | cell (t:Nat) (sz:Option Nat)
structure VFun where
 ntmps:Nat
 nsites:Nat
 body:VC
 results:List RV
 raw:Bool
def ldV (σ:VHeap) (sz:Option Nat):PV→Option PV
 | .ptr id g off=>match vGet σ id g with
   | some (.box cs _)=>cut cs off sz
   | _=>none
 | _=>none
def rvVal (env:Env) (σ:VHeap):RV→Option PV
 | .tmp t=>some (va env (.t t))
 | .cell t sz=>ldV σ sz (va env (.t t))
def rvAll (env:Env) (σ:VHeap) (l:List RV):Option PV:=
 match l.mapM (rvVal env σ) with
 | some [x]=>some x
 | some xs=>some (.tup xs)
 | none=>none
def vret (raw:Bool) (r:Option PV) (σ:VHeap) (K:KP):Prop:=
 match r with
 | some r=>if raw then K r σ else K (inl σ r) (frz σ r)
 | none=>False
def vdead (n:Nat):VHeap:=List.replicate n (0,.dead)
def argsEnv (args:List PV):Env:=fun i=>(args[i]?).getD (.tup [])
def vend (vf:VFun) (Post:KP):QP
 | .normal,env,σ=>vret vf.raw (rvAll env σ vf.results) σ Post
 | .ret,env,σ=>vret vf.raw (rvAll env σ vf.results) σ Post
 | .exit _,_,_=>False
def vfun [Glob] (P:Program) (vf:VFun) (args:List PV) (σ:VHeap) (Post:KP):Prop:=
 args.length≤vf.ntmps∧vrun P σ.length vf.body (argsEnv args) (σ++vdead vf.nsites) (vend vf Post)
def makesT (P:Program) (o:Oper):Bool:=
 match o.op with
 | .alloc _=>true
 | .box _ _=>true
 | .buildSlice _ _ _=>true
 | .makeMap _ _=>true
 | .makeSlice _ _ _=>true
 | .slice _ _ _ _ (some _)=>true
 | .range _ _=>true
 | .assign x=>isNil x&&(sliceElem P o.type).isSome
 | .convert s t _=>isStr P s&&(sliceElem P t).isSome
 | .call { callee:=.builtin .append,args:=_,argTypes:=_ }=>true
 | _=>false
def sitesOf (P:Program):Code→List Nat
 | .region _ ops _=>ops.toList.filterMap fun o=>if makesT P o then o.dst else none
 | .seq x y=>sitesOf P x++sitesOf P y
 | .cond _ x y=>sitesOf P x++sitesOf P y
 | .block _ c=>sitesOf P c
 | .loop c=>sitesOf P c
 | _=>[]
def cRV (P:Program):ResultVar→Option RV
 | .tmp t=>some (.tmp t)
 | .cell t ty=>(loadSz P ty).map fun sz=>.cell t sz
def cFun [Glob] (P:Program) (raw:FuncId→Bool) (rw:Bool) (fn:Func):Option VFun:=
 match fn.body with
 | none=>none
 | some c=>match cCode P fn.ntmps (sitesOf P c).eraseDups raw c,fn.results.toList.mapM (cRV P) with
   | some vc,some rs=>some { ntmps:=fn.ntmps,nsites:=(sitesOf P c).eraseDups.length,body:=vc,results:=rs,raw:=rw }
   | _,_=>none
theorem ldV_rep [Glob] (hs:Sim σ β w) {x:PV} {v:Value} (hr:Rep w σ β x v) {t:TypeId} {sz:Option Nat} (hsz:loadSz P t=some sz) {c:PV} (h:ldV σ sz x=some c) :
  ∃ ad u,v=.pointer (some ad)∧(loadVar t ad).run P w=.ok u w∧Rep w σ β c u:=by
 unfold ldV at h
 split at h
 ·rename_i id g off
  split at h
  ·rename_i cs fz hg
   have hg':=vGet_some hg
   cases hr with
   | stalep _ _ _ g' o' p h5 h6=>rw[hg'] at h5;cases h5;omega
   | ptr _ _ _ b cs' fz' h5 hb=>
     obtain⟨b',arr,e,hcl,hlen,hre⟩:=hs.obj id g _ hg'
     rw[hb] at e;cases e
     obtain⟨u,h8,h9⟩:=run_loadVar (P:=P) (σ:=σ) (β:=β) hsz (ad:=⟨b,off,none⟩) (cs:=cs) (off:=off) (f:=fun j=>arr.getD (off+j) default) (w:=w) (fun j c h6=>by
      have h7:off+j<arr.size:=by rw[← hlen];exact(List.getElem?_eq_some_iff.1 h6).1
      exact⟨by rw[add_mk,hcl.cell,arr_getD h7],hre _ c _ h6 (arr_getD h7)⟩) h
     exact⟨_,u,rfl,h8,h9⟩
  ·cases h
 ·cases h
theorem results_rep [Glob] (hs:Sim σ β w) (hf:FrameRep w σ β env a) {fn:Func} {rs:List RV} (hr:fn.results.toList.mapM (cRV P)=some rs) {r:PV} (h:rvAll env σ rs=some r):∃ v,(results fn a.tmps).run P w=.ok v w∧Rep w σ β r v:=by
 have one:∀ (l:List ResultVar) (rs:List RV) (cs:List PV),l.mapM (cRV P)=some rs→rs.mapM (rvVal env σ)=some cs→∃ vs:List Value,(l.mapM fun | .tmp t=>pure (a.tmps.getD t undef) | .cell p t=>do loadVar t (← asAddr (a.tmps.getD p undef)):Sem (List Value)).run P w=.ok vs w∧
   cs.length=vs.length∧∀ (i:Nat) (c:PV) (v:Value),cs[i]?=some c→vs[i]?=some v→Rep w σ β c v:=by
  intro l
  induction l with
  | nil=>
    intro rs cs h1 h2
    simp at h1;subst h1
    simp at h2;subst h2
    exact⟨[],by simp,rfl,by simp⟩
  | cons x l ih=>
    intro rs cs h1 h2
    rw[List.mapM_cons] at h1
    cases hx:cRV P x with
    | none=>rw[hx] at h1;simp at h1
    | some y=>
      cases hl:l.mapM (cRV P) with
      | none=>rw[hx,hl] at h1;simp at h1
      | some ys=>
        rw[hx,hl] at h1;simp at h1;subst h1
        rw[List.mapM_cons] at h2
        cases hy:rvVal env σ y with
        | none=>rw[hy] at h2;simp at h2
        | some c=>
          cases hcs:ys.mapM (rvVal env σ) with
          | none=>rw[hy,hcs] at h2;simp at h2
          | some cs'=>
            rw[hy,hcs] at h2;simp at h2;subst h2
            obtain⟨vs,g1,g2,g3⟩:=ih ys cs' hl hcs
            have hv:∃ v,(match x with | .tmp t=>pure (a.tmps.getD t undef) | .cell p t=>do loadVar t (← asAddr (a.tmps.getD p undef)):Sem Value).run P w=.ok v w∧Rep w σ β c v:=by
             cases x with
             | tmp t=>
               cases hx;cases hy
               exact⟨_,rfl,hf.eval (o:=.tmp t) rfl⟩
             | cell p t=>
               simp only[cRV,Option.map_eq_some_iff] at hx
               obtain⟨sz,hsz,rfl⟩:=hx
               simp only[rvVal] at hy
               obtain⟨ad,u,e1,e2,e3⟩:=ldV_rep hs (hf.eval (o:=.tmp p) (x:=.t p) rfl) hsz hy
               have e1':a.tmps.getD p undef=.pointer (some ad):=e1
               exact⟨u,by simp[e1',asAddr,e2],e3⟩
            obtain⟨v,hv1,hv2⟩:=hv
            refine⟨v::vs,?_,by simp[g2],fun i c' v' h3 h4=>?_⟩
            ·rw[List.mapM_cons]
             simp only[Sem.run_bind,hv1,Result.andThen_ok,g1,Sem.run_pure]
            ·cases i with
             | zero=>cases h3;cases h4;exact hv2
             | succ i=>exact g3 i c' v' (by simpa using h3) (by simpa using h4)
 unfold rvAll at h
 cases hcs:rs.mapM (rvVal env σ) with
 | none=>rw[hcs] at h;cases h
 | some cs=>
   rw[hcs] at h
   obtain⟨vs,g1,g2,g3⟩:=one _ rs cs hr hcs
   have hres:(results fn a.tmps).run P w=.ok (if h:vs.toArray.size=1 then vs.toArray[0] else .tuple vs.toArray) w:=by
    unfold results
    rw[Array.mapM_eq_mapM_toList]
    simp only[Sem.run_bind,Sem.run_map]
    erw [g1]
    simp only[Result.andThen_ok,Sem.run_pure]
   refine⟨_,hres,?_⟩
   cases cs with
   | nil=>
     simp at h;subst h
     have:vs=[]:=List.length_eq_zero_iff.1 (by simpa using g2.symm)
     subst this
     exact .tup [] #[] rfl (by simp)
   | cons c cs=>
     cases cs with
     | nil=>
       simp at h;subst h
       match vs,g2,g3 with
       | [v],_,g3=>exact g3 0 c v rfl rfl
     | cons d cs=>
       simp at h;subst h
       have hne:vs.toArray.size≠1:=by simp at g2 ⊢;omega
       rw[dif_neg hne]
       exact .tup _ _ (by simpa using g2) fun i c' v' h3 h4=>g3 i c' v' h3 (by simpa using h4)
theorem dead_ext (hs:Sim σ β w) (m:Nat):Step σ β w (σ++vdead m) β w∧Sim (σ++vdead m) β w:=by
 have old:∀ {i g:Nat} {ob:VObj},σ[i]?=some (g,ob)→(σ++vdead m)[i]?=some (g,ob):=by
  intro i g ob h
  rw[List.getElem?_append_left (List.getElem?_eq_some_iff.1 h).1];exact h
 have new:∀ {i g:Nat} {ob:VObj},(σ++vdead m)[i]?=some (g,ob)→ob.live→σ[i]?=some (g,ob):=by
  intro i g ob h hl
  by_cases hi:i<σ.length
  ·rw[List.getElem?_append_left hi] at h;exact h
  ·rw[List.getElem?_append_right (by omega)] at h
   have:=List.eq_of_mem_replicate (List.mem_of_getElem? h)
   cases this;exact hl.elim
 have hst:Step σ β w (σ++vdead m) β w:=by
  refine⟨rfl,rfl,rfl,Nat.le_refl _,fun _ _ _=>rfl,fun _ _ h _=>h,?_,?_,fun _ arr _ _ h=>⟨arr,h,rfl⟩,fun i g ob h=>⟨g,ob,old h,Nat.le_refl _,fun _=>⟨ob.alike_refl,rfl⟩⟩⟩
  ·rintro b _ ⟨i,g,ob,h1,h2,h3⟩;exact⟨i,g,ob,new h1 h3,h2,h3⟩
  ·rintro b j _ ⟨i,g,ob,h1,h2,h3⟩;exact⟨i,g,ob,new h1 (VObj.live_of_may h3),h2,h3⟩
 refine⟨hst,fun i g ob h=>?_,fun i j b gi gj oi oj h1 h2 l1 l2=>hs.inj i j b gi gj oi oj (new h1 l1) (new h2 l2) l1 l2⟩
 by_cases hl:ob.live
 ·exact(hs.obj i g ob (new h hl)).step hst fun _ _=>rfl
 ·cases ob<;>simp[VObj.live] at hl;trivial
theorem T_of [Glob] {f:FuncId} {fn:Func} {raw:FuncId→Bool} {rw':Bool} {vf:VFun} {args:List PV} {Post:KP} (hf:P.funcs[f]?=some fn) (hc:cFun P raw rw' fn=some vf)
  (h:vfun P vf args σ Post):T P f args σ Post:=by
 intro w β vs hl hr hs hg
 unfold cFun at hc
 split at hc
 ·cases hc
 ·rename_i c hb
  split at hc
  ·rename_i vc rs hcode hres
   cases hc
   obtain⟨hle,h⟩:=h
   simp only[] at hle
   obtain⟨d1,d2⟩:=dead_ext hs (sitesOf P c).eraseDups.length
   have hfr:FrameRep w (σ++vdead (sitesOf P c).eraseDups.length) β (argsEnv args) { tmps:=vs++Array.replicate (fn.ntmps - vs.size) undef,defers:=[] }:=by
    refine⟨rfl,fun i=>?_,hg.step d1⟩
    simp only[argsEnv,Array.getD_eq_getD_getElem?]
    by_cases hi:i<args.length
    ·rw[Array.getElem?_append_left (by omega),List.getElem?_eq_getElem hi,Array.getElem?_eq_getElem (by omega)]
     exact(hr i _ _ (List.getElem?_eq_getElem hi) (Array.getElem?_eq_getElem (by omega))).step d1
    ·have e1:args[i]?=none:=List.getElem?_eq_none (by omega)
     have e2:((vs++Array.replicate (fn.ntmps - vs.size) undef)[i]?).getD undef=undef:=by
      rw[Array.getElem?_append_right (by omega),Array.getElem?_replicate]
      split<;>rfl
     rw[e1,e2];exact .tup [] #[] rfl (by simp)
   have hk:=code_sound c vc _ _ β _ w (vend _ Post) hcode (by simp;omega) hfr d2 h
   refine calls_of_wp hf hb (wp_mono hk ?_)
   rintro e a' w' ⟨ve,env',σ',β',rfl,e2,e3,e4,e5,_⟩
   have fin:vret rw' (rvAll env' σ' rs) σ' Post→bodyPost P fn (fun e w'=>∃ v r σ' β',e=.returned v∧Post r σ'∧Rep w' σ' β' r v∧Sim σ' β' w'∧Step σ β w σ' β' w') .ret a' w':=by
    intro e2
    unfold vret at e2
    split at e2
    ·rename_i r hrv
     obtain⟨v,g1,g2⟩:=results_rep e4 e3 hres hrv
     split at e2
     ·exact⟨e3.defers,v,g1,v,r,σ',β',rfl,e2,g2,e4,d1.trans e5⟩
     ·obtain⟨k1,k2,k3⟩:=frz_rep e4 g2
      exact⟨e3.defers,v,g1,v,_,_,β',rfl,e2,k1,k2,(d1.trans e5).trans k3⟩
    ·exact e2.elim
   cases ve with
   | normal=>exact fin e2
   | exit id=>exact e2.elim
   | ret=>exact fin e2
  ·cases hc
end
section
variable {P:Program} {n:Nat} {env:Env} {σ:VHeap} {K K':KP}
theorem vNew_mono {id:Nat} {o:VObj} {K K':Nat→VHeap→Prop} (k:∀ r σ',K r σ'→K' r σ') (h:vNew id o σ K):vNew id o σ K':=by
 unfold vNew at *;split at h<;>first|exact k _ _ h|exact h.elim
theorem eqK_mono {op:BinOp} {r:Bool} (k:∀ r σ',K r σ'→K' r σ') (h:eqK op r σ K):eqK op r σ K':=by
 unfold eqK at *;split at h<;>first|exact k _ _ h|exact h.elim
theorem nilK_mono {op:BinOp} {x:PV} (k:∀ r σ',K r σ'→K' r σ') (h:nilK op x σ K):nilK op x σ K':=by
 unfold nilK at *;split at h<;>first|exact eqK_mono k h|exact⟨eqK_mono k h.1,fun e=>eqK_mono k (h.2 e)⟩|exact h.elim
theorem vField_mono {off:Nat} {x:PV} (k:∀ r σ',K r σ'→K' r σ') (h:vField off x σ K):vField off x σ K':=by
 unfold vField at *;split at h<;>first|exact⟨h.1,k _ _ h.2⟩|exact k _ _ h|exact h.elim
theorem X.mono [Glob] {f:FuncId} {args:List PV} (k:∀ r σ',K r σ'→K' r σ') (h:X P f args σ K):X P f args σ K':=
 fun w β vs h1 h2 h3 h4=>let ⟨v,w',r,σ',β',e1,e2,e3⟩:=h w β vs h1 h2 h3 h4;⟨v,w',r,σ',β',e1,k _ _ e2,e3⟩
theorem vop_mono [Glob] {op:VOp} (k:∀ r σ',K r σ'→K' r σ') (h:vop P n env σ K op):vop P n env σ K' op:=by
 cases op<;>simp only[vop] at *
 case mov=>exact k _ _ h
 case snap=>
  unfold vSnap at *
  split at h
  ·split at h<;>first|exact⟨h.1,k _ _ h.2⟩|exact h.elim
  ·exact h.elim
 case newRow=>exact vNew_mono (fun _ _=>k _ _) h
 case pick=>unfold vPick at *;split at h<;>first|exact k _ _ h|exact h.elim
 case alloc=>exact vNew_mono (fun _ _=>k _ _) h
 case box=>exact⟨h.1,vNew_mono (fun _ _=>k _ _) h.2⟩
 case build=>unfold vBuild at *;split at h<;>first|exact k _ _ h|exact h.elim
 case buildSlice=>unfold vBuildSlice at *;split at h<;>first|exact vNew_mono (fun _ _=>k _ _) h|exact h.elim
 case load=>
  unfold vLoad at *
  split at h
  ·split at h
   ·split at h<;>first|exact k _ _ h|exact h.elim
   ·exact h.elim
  ·split at h
   ·split at h
    ·split at h<;>first|exact k _ _ h|exact h.elim
    ·exact h.elim
   ·exact h.elim
  ·split at h<;>first|exact k _ _ h|exact h.elim
  ·exact h.elim
 case store=>
  unfold vStore at *
  obtain⟨h1,h2,h⟩:=h
  refine⟨h1,h2,?_⟩
  split at h
  ·split at h<;>first|exact⟨h.1,k _ _ h.2⟩|exact h.elim
  ·split at h
   ·split at h<;>first|exact⟨h.1,k _ _ h.2⟩|exact h.elim
   ·exact h.elim
  ·exact h.elim
 case nilCheck=>unfold vNilCheck at *;split at h<;>first|exact⟨h.1,k _ _ h.2⟩|exact k _ _ h|exact h.elim
 case bin=>
  unfold vBin at *
  split at h
  ·split at h<;>first|exact k _ _ h|exact h.elim
  ·split at h<;>first|exact k _ _ h|exact h.elim
  ·exact⟨h.1,eqK_mono k h.2⟩
  ·exact⟨h.1,eqK_mono k h.2⟩
  ·exact⟨h.1,h.2.1,eqK_mono k h.2.2⟩
  ·exact⟨h.1,nilK_mono k h.2⟩
  ·exact h.elim
 case un=>
  unfold vUn at *
  split at h
  ·exact k _ _ h
  ·split at h<;>first|exact k _ _ h|exact h.elim
  ·exact k _ _ h
  ·exact h.elim
 case convInt=>unfold vConvInt at *;split at h<;>first|exact k _ _ h|exact h.elim
 case convStr=>unfold vConvStr at *;split at h<;>first|exact k _ _ h|exact h.elim
 case s2b=>unfold vS2B at *;split at h<;>first|exact⟨h.1,vNew_mono (fun _ _=>k _ _) h.2⟩|exact h.elim
 case b2s=>
  unfold vB2S at *
  split at h
  ·split at h<;>first|exact k _ _ h|exact h.elim
  ·exact h.elim
 case func=>exact k _ _ h
 case sliceStr=>
  unfold vSliceStr at *
  split at h
  ·split at h<;>first|exact⟨h.1,h.2.1,k _ _ h.2.2⟩|exact h.elim
  ·exact h.elim
 case slice=>
  unfold vSlice at *
  split at h
  ·split at h<;>first|exact⟨h.1,h.2.1,h.2.2.1,k _ _ h.2.2.2⟩|exact h.elim
  ·split at h<;>first|exact k _ _ h|exact h.elim
  ·split at h
   ·split at h<;>first|exact⟨h.1,h.2.1,h.2.2.1,k _ _ h.2.2.2⟩|exact h.elim
   ·exact h.elim
  ·split at h<;>first|exact⟨h.1,h.2.1,h.2.2.1,h.2.2.2.1,k _ _ h.2.2.2.2⟩|exact h.elim
  ·exact h.elim
 case sliceArr=>
  unfold vSliceArr at *
  split at h
  ·split at h
   ·split at h<;>first|exact⟨h.1,h.2.1,h.2.2.1,h.2.2.2.1,k _ _ h.2.2.2.2⟩|exact h.elim
   ·exact h.elim
  ·exact h.elim
 case field=>exact vField_mono k h
 case fieldVal=>
  unfold vFieldVal at *
  split at h
  ·split at h<;>first|exact k _ _ h|exact h.elim
  ·exact h.elim
 case index=>
  unfold vIndex at *
  split at h
  ·refine⟨h.1,?_⟩
   have h:=h.2
   split at h<;>first|exact⟨h.1,k _ _ h.2⟩|exact h.elim
  ·split at h<;>first|exact⟨h.1,h.2.1,h.2.2.1,k _ _ h.2.2.2⟩|exact h.elim
  ·exact⟨h.1,h.2.1,h.2.2.1,h.2.2.2.1,k _ _ h.2.2.2.2⟩
  ·exact h.elim
 case indexArr=>unfold vIndexArr at *;split at h<;>first|exact⟨h.1,h.2.1,vField_mono k h.2.2⟩|exact h.elim
 case indexStr=>
  unfold vIndexStr at *
  split at h
  ·refine⟨h.1,?_⟩
   have h:=h.2
   split at h<;>first|exact k _ _ h|exact h.elim
  ·exact h.elim
 case indexAgg=>
  unfold vIndexAgg at *
  split at h
  ·refine⟨h.1,h.2.1,?_⟩
   have h:=h.2.2
   split at h<;>first|exact k _ _ h|exact h.elim
  ·exact h.elim
 case extract=>
  unfold vExtract at *
  split at h
  ·split at h<;>first|exact k _ _ h|exact h.elim
  ·exact h.elim
 case rangeStr=>unfold vRangeStr at *;split at h<;>first|exact vNew_mono (fun _ _=>k _ _) h|exact h.elim
 case nextStr=>
  unfold vNextStr at *
  split at h
  ·split at h
   ·split<;>rename_i hc<;>simp only[hc,if_true,if_false] at h<;>exact k _ _ h
   ·exact h.elim
  ·exact h.elim
 case call raw f args=>cases raw<;>simp only[vCall,if_true,Bool.false_eq_true,if_false] at *<;>exact T.mono h k
 case callV=>
  unfold vCallV at *
  split at h
  ·simp only[if_true] at *
   exact⟨h.1,T.mono h.2 k⟩
  ·exact h.elim
 case len=>unfold vLen at *;split at h<;>first|exact k _ _ h|exact h.elim
 case lenStr=>unfold vLenStr at *;split at h<;>first|exact k _ _ h|exact h.elim
 case append=>
  unfold vAppend at *
  split at h
  ·refine⟨h.1,?_⟩
   have h:=h.2
   split at h
   ·split at h<;>first|exact⟨h.1,h.2.1,k _ _ h.2.2⟩|exact h.elim
   ·exact⟨h.1,vNew_mono (fun _ _=>k _ _) h.2⟩
   ·exact h.elim
  ·exact h.elim
 case minmax=>unfold vMinMax at *;split at h<;>first|exact⟨h.1,k _ _ h.2⟩|exact h.elim
 case eqAgg=>
  unfold vEqAgg at *
  split at h
  ·split at h<;>first|exact k _ _ h|exact h.elim
  ·exact h.elim
 case sliceV=>
  unfold vSliceV at *
  split at h
  ·split at h
   ·split at h<;>first|exact⟨h.1,h.2.1,h.2.2.1,k _ _ h.2.2.2⟩|exact h.elim
   ·exact h.elim
  ·split at h
   ·split at h<;>first|exact⟨h.1,h.2.1,h.2.2.1,k _ _ h.2.2.2⟩|exact h.elim
   ·exact h.elim
  ·exact h.elim
 case copyTo=>
  unfold vCopyTo at *
  split at h
  ·refine⟨h.1,?_⟩
   have h:=h.2
   split at h
   ·split at h<;>first|exact⟨h.1,h.2.1,k _ _ h.2.2⟩|exact h.elim
   ·split at h<;>first|exact⟨h.1,k _ _ h.2⟩|exact h.elim
   ·split at h<;>first|exact⟨h.1,h.2.1,k _ _ h.2.2⟩|exact h.elim
   ·exact k _ _ h
   ·exact h.elim
  ·exact h.elim
 case makeSlice=>unfold vMakeSlice at *;split at h<;>first|exact⟨h.1,h.2.1,h.2.2.1,h.2.2.2.1,vNew_mono (fun _ _=>k _ _) h.2.2.2.2⟩|exact h.elim
 case clip=>exact⟨h.1,vNew_mono (fun _ _=>k _ _) h.2⟩
 case ext=>exact X.mono k h
theorem vrunOps_mono [Glob] {K K':Env→VHeap→Prop} (k:∀ e s,K e s→K' e s):∀ (l:List VO) (env:Env) (σ:VHeap),vrunOps P n K l env σ→vrunOps P n K' l env σ
 | [],env,σ,h=>k _ _ h
 | o::l,env,σ,h=>by
   simp only[vrunOps] at *
   split
   ·exact vop_mono (fun r σ' h=>vrunOps_mono k l _ _ h) (by simpa [*] using h)
   ·rename_i slot pol hg
    simp only[hg] at h
    split
    ·rename_i b hb
     simp only[hb] at h
     split
     ·rename_i hp;rw[if_pos hp] at h;exact vop_mono (fun r σ' h=>vrunOps_mono k l _ _ h) h
     ·rename_i hp;rw[if_neg hp] at h;exact vrunOps_mono k l _ _ h
    ·rename_i hb;simp only[hb] at h;exact vrunOps_mono k l _ _ h
    ·rename_i h1 h2
     split at h
     ·rename_i b hb;exact(h1 b hb).elim
     ·rename_i hb;exact(h2 hb).elim
     ·exact h
theorem vany_mono [Glob] {K K':Env→VHeap→Prop} (k:∀ e s,K e s→K' e s) {ops:List (VO × List Nat)}:∀ (fuel:Nat) (listed:List Nat) (env:Env) (σ:VHeap),vany P n K ops fuel listed env σ→vany P n K' ops fuel listed env σ
 | 0,_,_,_,h=>⟨h.1,k _ _ h.2⟩
 | fuel+1,_,_,_,h=>⟨fun e=>k _ _ (h.1 e),fun i q h1 h2=>vrunOps_mono (fun e s h=>vany_mono k fuel _ e s h) _ _ _ (h.2 i q h1 h2)⟩
theorem vrun_mono [Glob]:∀ (c:VC) (env:Env) (σ:VHeap) {Q Q':QP},(∀ e env σ,Q e env σ→Q' e env σ)→vrun P n c env σ Q→vrun P n c env σ Q'
 | .skip,_,_,_,_,k,h=>k _ _ _ h
 | .region ops,_,_,_,_,k,h=>vrunOps_mono (fun _ _ h=>k _ _ _ h) _ _ _ h
 | .seq x y,_,_,_,_,k,h=>vrun_mono x _ _ (fun e env σ h=>by
   cases e with
   | normal=>exact vrun_mono y env σ k h
   | exit id=>exact k _ _ _ h
   | ret=>exact k _ _ _ h) h
 | .cond c x y,env,σ,_,_,k,h=>by
   simp only[vrun,vcond] at *
   split at h
   ·exact vrun_mono x _ _ k h
   ·exact vrun_mono y _ _ k h
   ·exact h.elim
 | .block id c,_,_,_,_,k,h=>vrun_mono c _ _ (fun e env σ h=>by
   cases e with
   | normal=>exact k _ _ _ h
   | exit id'=>simp only[QP.block] at *;split<;>rename_i hh<;>simp only[hh,if_true,if_false] at h<;>exact k _ _ _ h
   | ret=>exact k _ _ _ h) h
 | .loop c,_,_,_,_,k,⟨I,h1,h2⟩=>⟨I,h1,fun m env σ hi=>vrun_mono c _ _ (fun e env σ h=>by
   cases e with
   | normal=>exact h
   | exit id'=>exact k _ _ _ h
   | ret=>exact k _ _ _ h) (h2 m env σ hi)⟩
 | .exit id,_,_,_,_,k,h=>k _ _ _ h
 | .ret,_,_,_,_,k,h=>k _ _ _ h
 | .dreg ops _ _,_,_,_,_,k,h=>vany_mono (fun _ _ h=>k _ _ _ h) _ _ _ _ h
 | .stuck,_,_,_,_,_,h=>h.elim
end
def lkA:VA→List Nat
 | .t i=>[i]
 | .c _=>[]
def lkO:Option VA→List Nat
 | some x=>lkA x
 | none=>[]
def looks:VOp→List Nat
 | .mov x | .snap x | .box _ x | .load _ x | .nilCheck x | .un _ x | .convInt _ x | .convStr x | .s2b _ x | .b2s x | .field _ x | .fieldVal _ _ x | .extract _ x | .rangeStr _ x | .nextStr x | .len x | .lenStr x | .clip _ _ x=>lkA x
 | .newRow _ _ | .alloc _ _ | .bad=>[]
 | .pick c x y=>lkA c++(lkA x++lkA y)
 | .build _ ps=>ps.flatMap fun q=>lkA q.2.2
 | .buildSlice _ _ _ _ ps=>ps.flatMap fun q=>lkA q.2
 | .store _ x v=>lkA x++lkA v
 | .bin _ _ x y | .index _ x y | .indexArr _ _ x y | .indexStr x y | .indexAgg _ _ _ x y | .minmax _ x y | .eqAgg _ _ x y | .append _ _ _ x y | .copyTo _ x y | .makeSlice _ _ _ _ x y=>lkA x++lkA y
 | .func _ as | .call _ _ as | .ext _ as=>as.flatMap lkA
 | .callV x as=>lkA x++as.flatMap lkA
 | .sliceStr x l h | .slice _ x l h | .sliceArr _ _ x l h | .sliceV _ x l h=>lkA x++(lkO l++lkO h)
section
variable {P:Program} {n:Nat} {σ:VHeap}
theorem va_congr {env env':Env} {x:VA} (h:∀ t,t∈lkA x→env' t=env t):va env' x=va env x:=by
 cases x with
 | t i=>exact h i (by simp[lkA])
 | c v=>rfl
theorem vao_congr {env env':Env} {x:Option VA} (h:∀ t,t∈lkO x→env' t=env t):x.map (va env')=x.map (va env):=by
 cases x with
 | none=>rfl
 | some x=>simp only[Option.map_some];rw[va_congr h]
theorem vas_congr {env env':Env} {l:List VA} (h:∀ t,t∈l.flatMap lkA→env' t=env t):l.map (va env')=l.map (va env):=
 List.map_congr_left fun x hx=>va_congr fun t ht=>h t (List.mem_flatMap.2 ⟨x,hx,ht⟩)
theorem vop_congr [Glob] {K:KP} {env env':Env} {op:VOp} (h:∀ t,t∈looks op→env' t=env t):vop P n env' σ K op=vop P n env σ K op:=by
 have two:∀ {x y:VA},(∀ t,t∈lkA x++lkA y→env' t=env t)→va env' x=va env x∧va env' y=va env y:=fun h=>⟨va_congr fun t ht=>h t (List.mem_append_left _ ht),va_congr fun t ht=>h t (List.mem_append_right _ ht)⟩
 have sli:∀ {x:VA} {l hh:Option VA},(∀ t,t∈lkA x++(lkO l++lkO hh)→env' t=env t)→va env' x=va env x∧l.map (va env')=l.map (va env)∧hh.map (va env')=hh.map (va env):=
  fun h=>⟨va_congr fun t ht=>h t (List.mem_append_left _ ht),vao_congr fun t ht=>h t (List.mem_append_right _ (List.mem_append_left _ ht)),vao_congr fun t ht=>h t (List.mem_append_right _ (List.mem_append_right _ ht))⟩
 have three:∀ {x y z:VA},(∀ t,t∈lkA x++(lkA y++lkA z)→env' t=env t)→va env' x=va env x∧va env' y=va env y∧va env' z=va env z:=
  fun h=>⟨va_congr fun t ht=>h t (List.mem_append_left _ ht),va_congr fun t ht=>h t (List.mem_append_right _ (List.mem_append_left _ ht)),va_congr fun t ht=>h t (List.mem_append_right _ (List.mem_append_right _ ht))⟩
 cases op<;>simp only[looks] at h<;>simp only[vop]
 all_goals first
  | (rw[va_congr h];done)
  | (obtain⟨e1,e2⟩:=two h;rw[e1,e2];done)
  | (obtain⟨e1,e2,e3⟩:=sli h;rw[e1,e2,e3];done)
  | (obtain⟨e1,e2,e3⟩:=three h;rw[e1,e2,e3];done)
  | (rw[vas_congr h];done)
  | skip
 case build zero parts=>
  have:(parts.map fun q=>(q.1,q.2.1,va env' q.2.2))=parts.map fun q=>(q.1,q.2.1,va env q.2.2):=
   List.map_congr_left fun q hq=>by rw[va_congr fun t ht=>h t (List.mem_flatMap.2 ⟨q,hq,ht⟩)]
  rw[this]
 case buildSlice s sz len zero parts=>
  have:(parts.map fun q=>(q.1,va env' q.2))=parts.map fun q=>(q.1,va env q.2):=
   List.map_congr_left fun q hq=>by rw[va_congr fun t ht=>h t (List.mem_flatMap.2 ⟨q,hq,ht⟩)]
  rw[this]
 case callV x as=>
  rw[va_congr fun t ht=>h t (List.mem_append_left _ ht),vas_congr fun t ht=>h t (List.mem_append_right _ ht)]
end
def wr:VC→List Nat
 | .region ops=>ops.flatMap fun o=>o.dst.toList
 | .dreg ops _ _=>ops.flatMap fun o=>o.1.dst.toList
 | .seq x y | .cond _ x y=>wr x++wr y
 | .block _ c | .loop c=>wr c
 | _=>[]
def memN:List Nat→Nat→Bool
 | [],_=>false
 | x::l,i=>cond (Nat.beq x i) true (memN l i)
theorem memN_iff {l:List Nat} {i:Nat}:memN l i=true↔i∈l:=by
 induction l with
 | nil=>simp[memN]
 | cons x l ih=>
   unfold memN
   cases h:Nat.beq x i with
   | true=>simp[Nat.eq_of_beq_eq_true h]
   | false=>
     have:i≠x:=fun e=>by subst e;rw[Nat.beq_refl] at h;cases h
     simp[ih,this]
def mix (W:List Nat) (a env:Env):Env:=fun i=>cond (memN W i) (a i) (env i)
theorem mix_same {W:List Nat} {a env:Env} (h:∀ i,i ∉ W→a i=env i):mix W a env=a:=by
 funext i
 unfold mix
 cases hm:memN W i with
 | true=>rfl
 | false=>exact(h i fun e=>by rw[memN_iff.2 e] at hm;cases hm).symm
section
variable {P:Program} {n:Nat}
theorem eput_get (env:Env) (d:Option Nat) (v:PV) {i:Nat} (h:i ∉ d.toList):eput env d v i=env i:=by
 cases d with
 | none=>rfl
 | some d=>
   have:Nat.beq i d=false:=by cases hb:Nat.beq i d with|false=>rfl|true=>exact(h (by simp[Nat.eq_of_beq_eq_true hb])).elim
   simp[eput,this]
theorem vrunOps_wr [Glob] {K:Env→VHeap→Prop}:∀ (l:List VO) (env:Env) (σ:VHeap),vrunOps P n K l env σ→vrunOps P n (fun e s=>(∀ i,i ∉ l.flatMap (fun o=>o.dst.toList)→e i=env i)∧K e s) l env σ
 | [],env,σ,h=>⟨fun _ _=>rfl,h⟩
 | o::l,env,σ,h=>by
   have step:∀ (v:PV) (σ':VHeap),vrunOps P n K l (eput env o.dst v) σ'→vrunOps P n (fun e s=>(∀ i,i ∉ (o::l).flatMap (fun o=>o.dst.toList)→e i=env i)∧K e s) l (eput env o.dst v) σ':=fun v σ' h=>
    vrunOps_mono (fun e s h=>⟨fun i hi=>by
     rw[List.flatMap_cons,List.mem_append,not_or] at hi
     rw[h.1 i hi.2,eput_get _ _ _ hi.1],h.2⟩) _ _ _ (vrunOps_wr l _ _ h)
   simp only[vrunOps] at *
   split
   ·exact vop_mono (fun r σ' h=>step _ _ h) (by simpa [*] using h)
   ·rename_i slot pol hg
    simp only[hg] at h
    split
    ·rename_i b hb
     simp only[hb] at h
     split
     ·rename_i hp;rw[if_pos hp] at h;exact vop_mono (fun r σ' h=>step _ _ h) h
     ·rename_i hp;rw[if_neg hp] at h;exact step _ _ h
    ·rename_i hb;simp only[hb] at h;exact step _ _ h
    ·rename_i h1 h2
     split at h
     ·rename_i b hb;exact(h1 b hb).elim
     ·rename_i hb;exact(h2 hb).elim
     ·exact h
theorem vany_wr [Glob] {K:Env→VHeap→Prop} {ops:List (VO × List Nat)} {env0:Env}:∀ (fuel:Nat) (listed:List Nat) (env:Env) (σ:VHeap),(∀ i,i ∉ ops.flatMap (fun o=>o.1.dst.toList)→env i=env0 i)→vany P n K ops fuel listed env σ→
  vany P n (fun e s=>(∀ i,i ∉ ops.flatMap (fun o=>o.1.dst.toList)→e i=env0 i)∧K e s) ops fuel listed env σ
 | 0,_,_,_,he,h=>⟨h.1,he,h.2⟩
 | fuel+1,_,_,_,he,h=>⟨fun e=>⟨he,h.1 e⟩,fun i q h1 h2=>vrunOps_mono (fun e s h=>vany_wr fuel _ e s (fun j hj=>by
   have hin:q.1.dst.toList ⊆ ops.flatMap (fun o=>o.1.dst.toList):=fun x hx=>List.mem_flatMap.2 ⟨q,List.mem_of_getElem? h2,hx⟩
   rw[h.1 j (by simp only[List.flatMap_cons,List.flatMap_nil,List.append_nil];exact fun hj'=>hj (hin hj'))]
   exact he j hj) h.2) _ _ _ (vrunOps_wr _ _ _ (h.2 i q h1 h2))⟩
theorem vrun_wr [Glob]:∀ (c:VC) (env:Env) (σ:VHeap) (Q:QP),vrun P n c env σ Q→vrun P n c env σ (fun e env' σ'=>(∀ i,i ∉ wr c→env' i=env i)∧Q e env' σ')
 | .skip,_,_,_,h=>⟨fun _ _=>rfl,h⟩
 | .region ops,env,σ,Q,h=>vrunOps_wr ops env σ h
 | .seq x y,env,σ,Q,h=>vrun_mono x _ _ (fun e env' σ' h=>by
   obtain⟨h1,h⟩:=h
   have h1:∀ i,i ∉ wr x++wr y→env' i=env i:=fun i hi=>h1 i fun e=>hi (List.mem_append_left _ e)
   cases e with
   | normal=>exact vrun_mono y _ _ (fun e env2 σ2 h=>⟨fun i hi=>by rw[h.1 i fun e=>hi (List.mem_append_right _ e),h1 i hi],h.2⟩) (vrun_wr y env' σ' Q h)
   | exit id=>exact⟨h1,h⟩
   | ret=>exact⟨h1,h⟩) (vrun_wr x env σ _ h)
 | .cond c x y,env,σ,Q,h=>by
   simp only[vrun,vcond] at *
   split at h
   ·exact vrun_mono x _ _ (fun e env2 σ2 h=>⟨fun i hi=>h.1 i fun e=>hi (List.mem_append_left _ e),h.2⟩) (vrun_wr x env σ Q h)
   ·exact vrun_mono y _ _ (fun e env2 σ2 h=>⟨fun i hi=>h.1 i fun e=>hi (List.mem_append_right _ e),h.2⟩) (vrun_wr y env σ Q h)
   ·exact h.elim
 | .block id c,env,σ,Q,h=>vrun_mono c _ _ (fun e env' σ' h=>by
   obtain⟨h1,h⟩:=h
   cases e with
   | normal=>exact⟨h1,h⟩
   | exit id'=>simp only[QP.block] at *;split<;>rename_i hh<;>simp only[hh,if_true,if_false] at h<;>exact⟨h1,h⟩
   | ret=>exact⟨h1,h⟩) (vrun_wr c env σ _ h)
 | .loop c,env,σ,Q,⟨I,⟨k0,h1⟩,h2⟩=>⟨fun k e s=>(∀ i,i ∉ wr c→e i=env i)∧I k e s,⟨k0,fun _ _=>rfl,h1⟩,fun m e s hi=>vrun_mono c _ _ (fun x env' σ' h=>by
   obtain⟨g,h⟩:=h
   have g2:∀ i,i ∉ wr c→env' i=env i:=fun i hh=>by rw[g i hh,hi.1 i hh]
   cases x with
   | normal=>obtain⟨k',hk,h⟩:=h;exact⟨k',hk,g2,h⟩
   | exit id'=>exact⟨g2,h⟩
   | ret=>exact⟨g2,h⟩) (vrun_wr c e s _ (h2 m e s hi.2))⟩
 | .exit id,_,_,_,h=>⟨fun _ _=>rfl,h⟩
 | .ret,_,_,_,h=>⟨fun _ _=>rfl,h⟩
 | .dreg ops _ _,env,σ,Q,h=>vany_wr ops.length [] env σ (fun _ _=>rfl) h
 | .stuck,_,_,_,h=>h.elim
theorem lp [Glob] {c:VC} {env:Env} {σ:VHeap} {Q:QP} {W:List Nat} (I:Nat→Env→VHeap→Prop) (k0:Nat) (h0:I k0 env σ)
  (hb:∀ (k:Nat) (u:Env) (σ':VHeap),I k (mix W u env) σ'→vrun P n c (mix W u env) σ' (Q.then fun env' σ'=>∃ k',k'<k∧I k' env' σ')) (hW:wr c=W:=by exact rfl):vrun P n (.loop c) env σ Q:=by
 subst hW
 refine⟨fun k e s=>I k e s∧∀ i,i ∉ wr c→e i=env i,⟨k0,h0,fun _ _=>rfl⟩,fun k e s hi=>?_⟩
 have hm:=mix_same hi.2
 have:=hb k e s (by rw[hm];exact hi.1)
 rw[hm] at this
 refine vrun_mono c _ _ (fun x env' σ' h=>?_) (vrun_wr c e s _ this)
 obtain⟨g,h⟩:=h
 have g2:∀ i,i ∉ wr c→env' i=env i:=fun i hh=>by rw[g i hh,hi.2 i hh]
 cases x with
 | normal=>obtain⟨k',hk,h⟩:=h;exact⟨k',hk,h,g2⟩
 | exit id'=>exact h
 | ret=>exact h
theorem cutp [Glob] {x y:VC} {env:Env} {σ:VHeap} {Q:QP} {W:List Nat} (I:Env→VHeap→Prop) (h1:vrun P n x env σ (Q.then I)) (h2:∀ (u:Env) (σ':VHeap),I (mix W u env) σ'→vrun P n y (mix W u env) σ' Q) (hW:wr x=W:=by exact rfl):vrun P n (.seq x y) env σ Q:=by
 subst hW
 refine vrun_mono x _ _ (fun e env' σ' h=>?_) (vrun_wr x env σ _ h1)
 obtain⟨g,h⟩:=h
 cases e with
 | normal=>
   have:=h2 env' σ' (by rw[mix_same g];exact h)
   rw[mix_same g] at this;exact this
 | exit id=>exact h
 | ret=>exact h
end
def looksO (o:VO):List Nat:=looks o.op++(match o.guard with|some (g,_)=>[g]|none=>[])
def apartO (x y:VO):Bool:=
 (match x.dst with|some d=>!memN (looksO y) d&&!(match y.dst with|some e=>Nat.beq d e|none=>false)|none=>true)&&(match y.dst with|some d=>!memN (looksO x) d|none=>true)
def YO [Glob] (P:Program) (n:Nat) (o:VO) (env:Env) (h:VHeap) (v:PV):Prop:=∀ K:Env→VHeap→Prop,K (eput env o.dst v) h→vrunOps P n K [o] env h
section
variable {P:Program} {n:Nat} {env env':Env} {h:VHeap} {v:PV}
theorem YO.congr [Glob] {o:VO} (y:YO P n o env h v) (he:∀ t,t∈looksO o→env' t=env t):YO P n o env' h v:=by
 intro K hK
 have hop:∀ (K:KP),vop P n env' h K o.op=vop P n env h K o.op:=fun K=>vop_congr fun t ht=>he t (List.mem_append_left _ ht)
 have hy:=y (fun e s=>K (eput env' o.dst (match o.dst with|some d=>e d|none=>v)) s) (by
  cases hd:o.dst with
  | none=>rw[hd] at hK;exact hK
  | some d=>
    rw[hd] at hK
    have:eput env (some d) v d=v:=by simp[eput,Nat.beq_refl]
    simp only[this];exact hK)
 have key:∀ r:PV,eput env' o.dst (match o.dst with|some d=>eput env o.dst r d|none=>v)=eput env' o.dst r:=by
  intro r
  cases hd:o.dst with
  | none=>rfl
  | some d=>simp[eput,Nat.beq_refl]
 simp only[vrunOps,key] at *
 cases hg:o.guard with
 | none=>simp only[hg] at hy ⊢;rw[hop];exact hy
 | some q=>
   obtain⟨g,b⟩:=q
   have hgs:env' g=env g:=he g (by simp[looksO,hg])
   simp only[hg,hgs,hop] at hy ⊢
   exact hy
theorem eput_comm (env:Env) {d d':Option Nat} (v v':PV) (hne:∀ x,d=some x→d'≠some x):eput (eput env d v) d' v'=eput (eput env d' v') d v:=by
 cases d with
 | none=>rfl
 | some d=>
   cases d' with
   | none=>rfl
   | some d'=>
     have:d≠d':=fun e=>hne d rfl (by rw[e])
     funext i
     simp only[eput]
     cases h1:Nat.beq i d with
     | false=>rfl
     | true=>
       have:Nat.beq i d'=false:=by
        cases h2:Nat.beq i d' with
        | false=>rfl
        | true=>exact(this ((Nat.eq_of_beq_eq_true h1).symm.trans (Nat.eq_of_beq_eq_true h2))).elim
       simp[this]
theorem apart_spec {x y:VO} (ha:apartO x y=true):(∀ d,x.dst=some d→d ∉ looksO y)∧(∀ d,x.dst=some d→y.dst≠some d)∧(∀ d,y.dst=some d→d ∉ looksO x):=by
 unfold apartO at ha
 simp only[Bool.and_eq_true] at ha
 obtain⟨h1,h2⟩:=ha
 refine⟨fun d hd hm=>?_,fun d hd hy=>?_,fun d hd hm=>?_⟩
 ·simp only[hd,Bool.and_eq_true,Bool.not_eq_true'] at h1
  rw[memN_iff.2 hm] at h1;exact absurd h1.1 (by simp)
 ·simp only[hd,hy,Bool.and_eq_true,Bool.not_eq_true',Nat.beq_refl] at h1
  exact absurd h1.2 (by simp)
 ·simp only[hd,Bool.not_eq_true'] at h2
  rw[memN_iff.2 hm] at h2;cases h2
theorem put_past [Glob] {o q:VO} {K:Env→VHeap→Prop} (ha:apartO o q=true) (hk:vrunOps P n K [q] (eput env o.dst v) h):vrunOps P n (fun e s=>K (eput e o.dst v) s) [q] env h:=by
 obtain⟨h1,h2,h3⟩:=apart_spec ha
 have he:∀ t,t∈looksO q→eput env o.dst v t=env t:=fun t ht=>eput_get _ _ _ fun hd=>by
  cases ho:o.dst with
  | none=>rw[ho] at hd;simp at hd
  | some d=>rw[ho] at hd;simp at hd;subst hd;exact h1 _ ho ht
 have hop:∀ (K:KP),vop P n (eput env o.dst v) h K q.op=vop P n env h K q.op:=fun K=>vop_congr fun t ht=>he t (List.mem_append_left _ ht)
 have hc:∀ r:PV,eput (eput env o.dst v) q.dst r=eput (eput env q.dst r) o.dst v:=fun r=>eput_comm env v r fun x hx hy=>h2 x hx hy
 simp only[vrunOps,hc,hop] at hk ⊢
 cases hg:q.guard with
 | none=>simp only[hg] at hk ⊢;exact hk
 | some w=>
   obtain⟨g,b⟩:=w
   have hgs:eput env o.dst v g=env g:=he g (by simp[looksO,hg])
   simp only[hg,hgs] at hk ⊢
   exact hk
def asr (J:VHeap→Prop) (E:List Nat) (h0:VHeap) (listed:List Nat) (h:VHeap):Prop:=J h∧((∀ e,e∈E→e ∉ listed)→h=h0)
def vanyE [Glob] (P:Program) (n:Nat) (J:VHeap→Prop) (E:List Nat) (h0:VHeap) (K:Env→VHeap→Prop) (ops:List (VO × List Nat)):Nat→List Nat→Env→VHeap→Prop
 | 0,listed,env,h=>asr J E h0 listed h∧vready ops listed=[]∧K env h
 | fuel+1,listed,env,h=>asr J E h0 listed h∧(vready ops listed=[]→K env h)∧
   ∀ i q,i∈vready ops listed→ops[i]?=some q→vrunOps P n (vanyE P n J E h0 K ops fuel (i::listed)) [q.1] env h
variable {J:VHeap→Prop} {E:List Nat} {h0:VHeap} {K:Env→VHeap→Prop} {ops:List (VO × List Nat)}
theorem vanyE.asr [Glob]:∀ {fuel:Nat} {listed:List Nat} {env:Env} {h:VHeap},vanyE P n J E h0 K ops fuel listed env h→asr J E h0 listed h
 | 0,_,_,_,h=>h.1
 | _+1,_,_,_,h=>h.1
theorem vanyE.any [Glob]:∀ (fuel:Nat) (listed:List Nat) (env:Env) (h:VHeap),vanyE P n J E h0 K ops fuel listed env h→vany P n K ops fuel listed env h
 | 0,_,_,_,h=>h.2
 | fuel+1,_,_,_,h=>⟨h.2.1,fun i q h1 h2=>vrunOps_mono (fun e s h=>vanyE.any fuel _ e s h) _ _ _ (h.2.2 i q h1 h2)⟩
theorem vready_ext {l l':List Nat} (hx:∀ x,x∈l↔x∈l'):vready ops l=vready ops l':=by
 have hc:∀ x,l.contains x=l'.contains x:=fun x=>by
  rw[Bool.eq_iff_iff,List.contains_iff_mem,List.contains_iff_mem];exact hx x
 have:l.contains=l'.contains:=funext hc
 unfold vready
 rw[this]
theorem vanyE.ext [Glob]:∀ (fuel:Nat) {l l':List Nat} (env:Env) (h:VHeap),(∀ x,x∈l↔x∈l')→vanyE P n J E h0 K ops fuel l env h→vanyE P n J E h0 K ops fuel l' env h
 | 0,l,l',_,_,hx,h=>⟨⟨h.1.1,fun he=>h.1.2 fun e hh=>fun hl=>he e hh ((hx e).1 hl)⟩,by rw[← vready_ext hx];exact h.2.1,h.2.2⟩
 | fuel+1,l,l',_,_,hx,h=>⟨⟨h.1.1,fun he=>h.1.2 fun e hh=>fun hl=>he e hh ((hx e).1 hl)⟩,fun hr=>h.2.1 (by rw[vready_ext hx];exact hr),fun i q h1 h2=>
   vrunOps_mono (fun e s h=>vanyE.ext fuel e s (fun x=>by simp[hx x]) h) _ _ _ (h.2.2 i q (by rw[vready_ext hx];exact h1) h2)⟩
theorem vanyE.sw [Glob] {E':List Nat} {h1:VHeap} {e:Nat} (he:e∈E):∀ (fuel:Nat) (listed:List Nat) (env:Env) (h:VHeap),e∈listed→vanyE P n J E' h1 K ops fuel listed env h→vanyE P n J E h0 K ops fuel listed env h
 | 0,_,_,_,hl,h=>⟨⟨h.1.1,fun hh=>(hh e he hl).elim⟩,h.2⟩
 | fuel+1,_,_,_,hl,h=>⟨⟨h.1.1,fun hh=>(hh e he hl).elim⟩,h.2.1,fun i q h1 h2=>vrunOps_mono (fun _ _ h=>vanyE.sw he fuel _ _ _ (List.mem_cons_of_mem _ hl) h) _ _ _ (h.2.2 i q h1 h2)⟩
theorem mem_vready {l:List Nat} {i:Nat}:i∈vready ops l↔i ∉ l∧∃ q,ops[i]?=some q∧∀ j,j∈q.2→j∈l:=by
 unfold vready
 rw[List.mem_filter,List.mem_range]
 constructor
 ·rintro ⟨h1,h2⟩
  rw[List.getElem?_eq_getElem h1] at h2 ⊢
  simp only[Option.map_some,Option.getD_some,Bool.and_eq_true,Bool.not_eq_true',List.all_eq_true] at h2
  exact⟨fun hm=>by rw[List.contains_iff_mem.2 hm] at h2;exact absurd h2.1 (by simp),_,rfl,fun j hj=>List.contains_iff_mem.1 (h2.2 j hj)⟩
 ·rintro ⟨h1,q,h2,h3⟩
  refine⟨(List.getElem?_eq_some_iff.1 h2).1,?_⟩
  rw[h2]
  simp only[Option.map_some,Option.getD_some,Bool.and_eq_true,Bool.not_eq_true',List.all_eq_true]
  exact⟨by cases hc:l.contains i with|false=>rfl|true=>exact(h1 (List.contains_iff_mem.1 hc)).elim,fun j hj=>List.contains_iff_mem.2 (h3 j hj)⟩
def anc (B:List Nat) (i:Nat) (j:Nat):Bool:=((B[i]?).getD 0).testBit j
def shut (ops:List (VO × List Nat)) (l:List Nat):Prop:=∀ i q,i∈l→ops[i]?=some q→∀ j,j∈q.2→j∈l
theorem fold_bits (acc:List Nat) (j:Nat):∀ (a:List Nat) (s:Nat),(a.foldl (fun s e=>s ||| (2 ^ e ||| (acc[e]?).getD 0)) s).testBit j=true→s.testBit j=true∨∃ e,e∈a∧(e=j∨((acc[e]?).getD 0).testBit j=true)
 | [],_,h=>.inl h
 | e::a,s,h=>by
   rw[List.foldl_cons] at h
   rcases fold_bits acc j a _ h with h|⟨e',h1,h2⟩
   ·rw[Nat.testBit_or,Nat.testBit_or,Bool.or_eq_true,Bool.or_eq_true,Nat.testBit_two_pow] at h
    rcases h with h|h|h
    ·exact .inl h
    ·exact .inr ⟨e,by simp,.inl (of_decide_eq_true h)⟩
    ·exact .inr ⟨e,by simp,.inr h⟩
   ·exact .inr ⟨e',by simp[h1],h2⟩
theorem befs_in {ops:List (VO × List Nat)} {l:List Nat} (hs:shut ops l):∀ (r:List (VO × List Nat)) (pre:List (VO × List Nat)) (acc:List Nat),pre++r=ops→acc.length=pre.length→
  (∀ i j,(i∈l∨i∈vready ops l)→((acc[i]?).getD 0).testBit j=true→j∈l)→∀ i j,(i∈l∨i∈vready ops l)→(((befs (r.map (·.2)) acc)[i]?).getD 0).testBit j=true→j∈l
 | [],_,_,_,_,h,i,j,hi,hj=>h i j hi hj
 | q::r,pre,acc,hp,hl,h,i,j,hi,hj=>by
   refine befs_in hs r (pre++[q]) _ (by simpa using hp) (by simp[hl]) (fun i j hi hj=>?_) i j hi hj
   by_cases hlt:i<acc.length
   ·rw[List.getElem?_append_left hlt] at hj;exact h i j hi hj
   ·rw[List.getElem?_append_right (by omega)] at hj
    by_cases he:i=acc.length
    ·subst he
     rw[Nat.sub_self] at hj
     simp only[List.getElem?_cons_zero,Option.getD_some] at hj
     have hq:ops[acc.length]?=some q:=by rw[← hp,hl,List.getElem?_append_right (Nat.le_refl _)];simp
     have dir:∀ k,k∈q.2→k∈l:=fun k hk=>by
      rcases hi with hi|hi
      ·exact hs _ q hi hq k hk
      ·have hi':=hi
       unfold vready at hi'
       have h2:=(List.mem_filter.1 hi').2
       rw[hq] at h2
       simp only[Option.map_some,Option.getD_some,Bool.and_eq_true,List.all_eq_true] at h2
       exact List.contains_iff_mem.1 (h2.2 k hk)
     rcases fold_bits acc j _ _ hj with h0|⟨e,h1,h2⟩
     ·simp at h0
     ·rcases h2 with rfl|h2
      ·exact dir e h1
      ·exact h e j (.inl (dir e h1)) h2
    ·rw[List.getElem?_eq_none (by simp;omega)] at hj
     simp at hj
theorem anc_in {B:List Nat} {l:List Nat} (hB:befs (ops.map (·.2)) []=B) (hs:shut ops l) (i j:Nat) (hi:i∈l∨i∈vready ops l) (hj:anc B i j=true):j∈l:=by
 subst hB
 exact befs_in hs ops [] [] rfl rfl (fun i j _ h=>by simp at h) i j hi hj
theorem shut_cons {l:List Nat} {i:Nat} (hs:shut ops l) (hi:i∈vready ops l):shut ops (i::l):=by
 intro k q hk hq j hj
 rcases List.mem_cons.1 hk with rfl|hk
 ·obtain⟨_,q',h1,h2⟩:=mem_vready.1 hi
  rw[hq] at h1;cases h1
  exact List.mem_cons_of_mem _ (h2 j hj)
 ·exact List.mem_cons_of_mem _ (hs k q hk hq j hj)
theorem take [Glob] {B:List Nat} (hB:befs (ops.map (·.2)) []=B) {i:Nat} {q:VO × List Nat} (hq:ops[i]?=some q) (hap:∀ j qj,ops[j]?=some qj→j≠i→anc B j i=true∨anc B i j=true∨apartO q.1 qj.1=true) (hiE:i ∉ E) (hJ:(∀ e,e∈E→anc B e i=true)∨∀ h,J h→YO P n q.1 env h v) :
  ∀ (fuel:Nat) (listed:List Nat) (env1:Env) (h:VHeap),shut ops listed→i∈vready ops listed→(∀ t,t∈looksO q.1→env1 t=env t)→YO P n q.1 env h v→((∀ e,e∈E→e ∉ listed)∨∀ h,J h→YO P n q.1 env h v)→
   vanyE P n J E h0 K ops fuel (i::listed) (eput env1 q.1.dst v) h→vanyE P n J E h0 K ops (fuel+1) listed env1 h:=by
 intro fuel
 induction fuel with
 | zero=>
   intro listed env1 h hs hr he hy _ H
   obtain⟨hni,_⟩:=mem_vready.1 hr
   refine⟨⟨H.1.1,fun hh=>H.1.2 fun e he2=>by rw[List.mem_cons,not_or];exact⟨fun e3=>hiE (e3▸he2),hh e he2⟩⟩,fun e=>by rw[e] at hr;simp at hr,fun j qj hj hqj=>?_⟩
   by_cases hji:j=i
   ·subst hji;rw[hq] at hqj;cases hqj
    exact hy.congr he _ H
   ·have:j∈vready ops (i::listed):=by
     obtain⟨h1,q',h2,h3⟩:=mem_vready.1 hj
     exact mem_vready.2 ⟨by rw[List.mem_cons,not_or];exact⟨hji,h1⟩,q',h2,fun k hk=>List.mem_cons_of_mem _ (h3 k hk)⟩
    rw[H.2.1] at this;simp at this
 | succ fuel ih=>
   intro listed env1 h hs hr he hy hE H
   obtain⟨hni,_⟩:=mem_vready.1 hr
   have has:asr J E h0 listed h:=⟨H.1.1,fun hh=>H.1.2 fun e he2=>by rw[List.mem_cons,not_or];exact⟨fun e3=>hiE (e3▸he2),hh e he2⟩⟩
   refine⟨has,fun e=>by rw[e] at hr;simp at hr,fun j qj hj hqj=>?_⟩
   by_cases hji:j=i
   ·subst hji;rw[hq] at hqj;cases hqj
    exact hy.congr he _ H
   ·obtain⟨hnj,q',h2,h3⟩:=mem_vready.1 hj
    have hj2:j∈vready ops (i::listed):=mem_vready.2 ⟨by rw[List.mem_cons,not_or];exact⟨hji,hnj⟩,q',h2,fun k hk=>List.mem_cons_of_mem _ (h3 k hk)⟩
    have hapart:apartO q.1 qj.1=true:=by
     rcases hap j qj hqj hji with h|h|h
     ·exact(hni (anc_in hB hs j i (.inr hj) h)).elim
     ·exact(hnj (anc_in hB hs i j (.inr hr) h)).elim
     ·exact h
    have g:=put_past hapart (H.2.2 j qj hj2 hqj)
    refine vrunOps_mono (fun e s hh=>?_) _ _ _ (vrunOps_wr _ _ _ g)
    obtain⟨hw,hh⟩:=hh
    have hs2:=shut_cons hs hj
    have hr2:i∈vready ops (j::listed):=by
     obtain⟨_,q2,k1,k2⟩:=mem_vready.1 hr
     exact mem_vready.2 ⟨by rw[List.mem_cons,not_or];exact⟨fun e=>hji e.symm,hni⟩,q2,k1,fun k hk=>List.mem_cons_of_mem _ (k2 k hk)⟩
    have he2:∀ t,t∈looksO q.1→e t=env t:=fun t ht=>by
     rw[hw t (by
      simp only[List.flatMap_cons,List.flatMap_nil,List.append_nil]
      intro hd
      cases hdd:qj.1.dst with
      | none=>rw[hdd] at hd;simp at hd
      | some d=>rw[hdd] at hd;simp at hd;subst hd;exact(apart_spec hapart).2.2 _ hdd ht)]
     exact he t ht
    have hh':=vanyE.ext fuel _ _ (l':=i::j::listed) (fun x=>by simp only[List.mem_cons];constructor<;>(rintro (h|h|h)<;>simp[h])) hh
    have hsJ:=hh'.asr
    by_cases hall:∀ h,J h→YO P n q.1 env h v
    ·exact ih (j::listed) e s hs2 hr2 he2 (hall s hsJ.1) (.inr hall) hh'
    ·have hEl:∀ e,e∈E→e ∉ listed:=hE.resolve_right hall
     have hjE:j ∉ E:=fun hje=>hni (anc_in hB hs j i (.inr hj) ((hJ.resolve_right hall) j hje))
     have hEl2:∀ e,e∈E→e ∉ j::listed:=fun e he=>by rw[List.mem_cons,not_or];exact⟨fun e2=>hjE (e2▸he),hEl e he⟩
     have e1:h=h0:=has.2 hEl
     have e2:s=h0:=hsJ.2 fun e he=>by rw[List.mem_cons,not_or];exact⟨fun e3=>hiE (e3▸he),hEl2 e he⟩
     exact ih (j::listed) e s hs2 hr2 he2 (by rw[e2,← e1];exact hy) (.inl hEl2) hh'
def vseq [Glob] (P:Program) (n:Nat) (J:VHeap→Prop) (K:Env→VHeap→Prop):List (Nat × VO)→Env→VHeap→Prop
 | [],env,h=>K env h
 | (0,o)::r,env,h=>vrunOps P n (fun e s=>J s∧vseq P n J K r e s) [o] env h
 | (1,o)::r,env,h=>∃ v,YO P n o env h v∧vseq P n J K r (eput env o.dst v) h
 | (_+2,o)::r,env,h=>∃ v,(∀ h,J h→YO P n o env h v)∧vseq P n J K r (eput env o.dst v) h
def effs (ord:List (Nat × Nat)):List Nat:=ord.filterMap fun x=>cond (Nat.beq x.1 0) (some x.2) none
def okTake (ops:List (VO × List Nat)) (B:List Nat) (i:Nat) (q:VO):Bool:=
 (List.range ops.length).all fun j=>Nat.beq j i||anc B j i||anc B i j||(match ops[j]? with|some qj=>apartO q qj.1|none=>true)
def okOrd (ops:List (VO × List Nat)) (B:List Nat):List (Nat × Nat)→List Nat→Bool
 | [],l=>(vready ops l).isEmpty
 | (k,i)::r,l=>(match ops[i]? with
   | some q=>cond (Nat.beq k 0) (match vready ops l with|[j]=>Nat.beq j i|_=>false)
     (memN (vready ops l) i&&okTake ops B i q.1&&!memN (effs r) i&&(!(Nat.beq k 1)||(effs r).all fun e=>anc B e i))
   | none=>false)&&okOrd ops B r (i::l)
def ordOps (ops:List (VO × List Nat)) (ord:List (Nat × Nat)):List (Nat × VO):=ord.map fun x=>(x.1,match ops[x.2]? with|some q=>q.1|none=>default)
theorem dr_aux [Glob] {B:List Nat} (hB:befs (ops.map (·.2)) []=B):∀ (ord:List (Nat × Nat)) (listed:List Nat) (env:Env) (h:VHeap),okOrd ops B ord listed=true→shut ops listed→J h→vseq P n J K (ordOps ops ord) env h→(∀ e,e∈effs ord→e ∉ listed)→vanyE P n J (effs ord) h K ops ord.length listed env h:=by
 intro ord
 induction ord with
 | nil=>
   intro listed env h hok hs hJ hv _
   simp only[okOrd,List.isEmpty_iff] at hok
   exact⟨⟨hJ,fun _=>rfl⟩,hok,hv⟩
 | cons x r ih=>
   obtain⟨k,i⟩:=x
   intro listed env h hok hs hJ hv hE
   simp only[okOrd,Bool.and_eq_true] at hok
   obtain⟨h1,hok⟩:=hok
   cases hq:ops[i]? with
   | none=>rw[hq] at h1;cases h1
   | some q=>
     rw[hq] at h1
     simp only[ordOps,List.map_cons,hq] at hv
     have pure':∀ {k:Nat},k≠0→memN (vready ops listed) i=true→okTake ops B i q.1=true→(!memN (effs r) i)=true→effs ((k,i)::r)=effs r∧i∈vready ops listed∧i ∉ effs r∧
       (∀ j qj,ops[j]?=some qj→j≠i→anc B j i=true∨anc B i j=true∨apartO q.1 qj.1=true):=by
      intro k hk a1 a2 a3
      refine⟨?_,memN_iff.1 a1,fun hm=>by rw[memN_iff.2 hm] at a3;simp at a3,fun j qj hqj hji=>?_⟩
      ·unfold effs
       rw[List.filterMap_cons]
       have:Nat.beq k 0=false:=by cases k with|zero=>exact(hk rfl).elim|succ k=>rfl
       simp[this]
      ·unfold okTake at a2
       rw[List.all_eq_true] at a2
       have:=a2 j (List.mem_range.2 (List.getElem?_eq_some_iff.1 hqj).1)
       simp only[Bool.or_eq_true,hqj] at this
       rcases this with ((h|h)|h)|h
       ·exact(hji (Nat.eq_of_beq_eq_true h)).elim
       ·exact .inl h
       ·exact .inr (.inl h)
       ·exact .inr (.inr h)
     match k with
     | 0=>
       simp only[Nat.beq_refl,cond_true] at h1
       have hr:vready ops listed=[i]:=by
        split at h1
        ·rename_i j hj;rw[hj,Nat.eq_of_beq_eq_true h1]
        ·cases h1
       have hie:effs ((0,i)::r)=i::effs r:=by simp[effs,Nat.beq_refl]
       show asr J _ h listed h∧(vready ops listed=[]→K env h)∧∀ i q,i∈vready ops listed→ops[i]?=some q→vrunOps P n (vanyE P n J _ h K ops r.length (i::listed)) [q.1] env h
       refine⟨⟨hJ,fun _=>rfl⟩,fun e=>(by rw[hr] at e;cases e),fun j qj hj hqj=>?_⟩
       rw[hr,List.mem_singleton] at hj
       subst hj
       rw[hq] at hqj;cases hqj
       have hin:j∈vready ops listed:=by rw[hr];simp
       refine vrunOps_mono (fun e s hh=>?_) _ _ _ hv
       have hnE:∀ e,e∈effs r→e ∉ j::listed:=fun e he=>by
        rw[List.mem_cons,not_or]
        refine⟨fun e2=>?_,hE e (by rw[hie];exact List.mem_cons_of_mem _ he)⟩
        -- an effect is not twice in the order: it would not be ready
        subst e2
        exact absurd hok (by
         clear ih hv hE hJ hie hr hin hh
         have key:∀ (r:List (Nat × Nat)) (l:List Nat),e∈l→e∈effs r→okOrd ops B r l≠true:=by
          intro r
          induction r with
          | nil=>intro l _ h;simp[effs] at h
          | cons x r ih=>
            obtain⟨k,i⟩:=x
            intro l hl he hok
            simp only[okOrd,Bool.and_eq_true] at hok
            obtain⟨g1,g2⟩:=hok
            by_cases hk:k=0∧i=e
            ·obtain⟨rfl,rfl⟩:=hk
             cases hq:ops[i]? with
             | none=>rw[hq] at g1;cases g1
             | some q=>
               rw[hq] at g1
               simp only[Nat.beq_refl,cond_true] at g1
               split at g1
               ·rename_i j hj
                have:=Nat.eq_of_beq_eq_true g1
                subst this
                have:j∈vready ops l:=by rw[hj];simp
                exact(mem_vready.1 this).1 hl
               ·cases g1
            ·refine ih (i::l) (List.mem_cons_of_mem _ hl) ?_ g2
             unfold effs at he ⊢
             rw[List.filterMap_cons] at he
             cases hb:Nat.beq k 0 with
             | false=>simp[hb] at he;simpa using he
             | true=>
               simp only[hb,cond_true] at he
               rcases List.mem_cons.1 he with h|h
               ·exact(hk ⟨Nat.eq_of_beq_eq_true hb,h.symm⟩).elim
               ·exact h
         exact key r (e::listed) List.mem_cons_self he)
       have:=ih (j::listed) e s hok (shut_cons hs hin) hh.1 hh.2 hnE
       exact vanyE.sw (by rw[hie];exact List.mem_cons_self) _ _ _ _ List.mem_cons_self this
     | 1=>
       have hb:Nat.beq 1 0=false:=rfl
       simp only[hb,cond_false,Bool.and_eq_true] at h1
       obtain⟨⟨⟨a1,a2⟩,a3⟩,a4⟩:=h1
       obtain⟨b1,b2,b3,b4⟩:=pure' (k:=1) (by omega) a1 a2 a3
       obtain⟨v,hy,hv⟩:=hv
       have hanc:∀ e,e∈effs r→anc B e i=true:=by
        simp only[Nat.beq_refl,Bool.not_true,Bool.false_or,List.all_eq_true] at a4
        exact a4
       rw[b1] at hE ⊢
       have hE2:∀ e,e∈effs r→e ∉ i::listed:=fun e he=>by rw[List.mem_cons,not_or];exact⟨fun e2=>b3 (e2▸he),hE e he⟩
       exact take (env:=env) hB hq b4 b3 (.inl hanc) r.length listed env h hs b2 (fun _ _=>rfl) hy (.inl hE) (ih (i::listed) _ h hok (shut_cons hs b2) hJ hv hE2)
     | k+2=>
       have hb:Nat.beq (k+2) 0=false:=rfl
       simp only[hb,cond_false,Bool.and_eq_true] at h1
       obtain⟨⟨⟨a1,a2⟩,a3⟩,_⟩:=h1
       obtain⟨b1,b2,b3,b4⟩:=pure' (k:=k+2) (by omega) a1 a2 a3
       obtain⟨v,hy,hv⟩:=hv
       rw[b1] at hE ⊢
       have hE2:∀ e,e∈effs r→e ∉ i::listed:=fun e he=>by rw[List.mem_cons,not_or];exact⟨fun e2=>b3 (e2▸he),hE e he⟩
       exact take (env:=env) hB hq b4 b3 (.inr hy) r.length listed env h hs b2 (fun _ _=>rfl) (hy h hJ) (.inr hy) (ih (i::listed) _ h hok (shut_cons hs b2) hJ hv hE2)
def okReg (ops:List (VO × List Nat)) (ord:List (Nat × Nat)) (B:List Nat):Bool:=okOrd ops B ord []&&Nat.beq ops.length ord.length
theorem dr [Glob] {B B':List Nat} {ord':List (Nat × Nat)} (J:VHeap→Prop) (ord:List (Nat × Nat)) {l:List (Nat × VO)} {Q:QP} (hB:befs (ops.map (·.2)) []=B) (hok:okReg ops ord B=true) (hl:ordOps ops ord=l) (hJ:J h) (hv:vseq P n J (fun e s=>Q .normal e s) l env h):vrun P n (.dreg ops ord' B') env h Q:=by
 subst hl
 show vany P n _ ops ops.length [] env h
 unfold okReg at hok
 rw[Bool.and_eq_true] at hok
 rw[Nat.eq_of_beq_eq_true hok.2]
 exact vanyE.any _ _ _ _ (dr_aux hB ord [] env h hok.1 (fun i q hi=>by simp at hi) hJ hv (by simp))
end
mutual
def bel (n:Nat):PV→Prop
 | .agg cs=>belL n cs
 | .tup vs=>belL n vs
 | .ptr id _ _=>id<n
 | .rptr id _ _ _=>id<n
 | .iptr cs _=>belL n cs
 | .sl es=>belLL n es
 | .row id _=>id<n
 | .bview id _ _ _=>id<n
 | .rview id _ _ _=>id<n
 | .map id _=>id<n
 | .fn _ cap=>belL n cap
 | .iter id _=>id<n
 | .bool _=>True
 | .int _ _=>True
 | .str _=>True
 | .nilp=>True
 | .nils=>True
 | .nilm=>True
 | .undef=>True
 | .slr es id _=>belLL n es∧id<n
def belL (n:Nat):List PV→Prop
 | []=>True
 | c::cs=>bel n c∧belL n cs
def belLL (n:Nat):List (List PV)→Prop
 | []=>True
 | e::es=>belL n e∧belLL n es
end
theorem belL_iff {n:Nat} {cs:List PV}:belL n cs↔∀ c,c∈cs→bel n c:=by
 induction cs with
 | nil=>simp[belL]
 | cons c cs ih=>simp[belL,ih]
theorem belLL_iff {n:Nat} {es:List (List PV)}:belLL n es↔∀ e,e∈es→belL n e:=by
 induction es with
 | nil=>simp[belLL]
 | cons c cs ih=>simp[belLL,ih]
section
variable {w:World} {σ L:VHeap} {β:Beta}
theorem wr_part {b i:Nat} (h:Wr σ β b i):Wr (σ++L) β b i:=by
 obtain⟨id,g,o,h1,h2,h3⟩:=h
 exact⟨id,g,o,by rw[List.getElem?_append_left (List.getElem?_eq_some_iff.1 h1).1];exact h1,h2,h3⟩
theorem owned_part {b:Nat} (h:Owned σ β b):Owned (σ++L) β b:=by
 obtain⟨id,g,o,h1,h2,h3⟩:=h
 exact⟨id,g,o,by rw[List.getElem?_append_left (List.getElem?_eq_some_iff.1 h1).1];exact h1,h2,h3⟩
theorem still_part {a:Addr} {n:Nat} {f:Nat→Value} (h:Still w (σ++L) β a n f):Still w σ β a n f:=fun j hj=>⟨(h j hj).1,fun hw=>(h j hj).2 (wr_part hw)⟩
theorem get_part {id:Nat} {x:Nat × VObj} (hid:id<σ.length) (h:(σ++L)[id]?=some x):σ[id]?=some x:=by
 rw[List.getElem?_append_left hid] at h;exact h
theorem Rep.part {c:PV} {v:Value} (h:Rep w (σ++L) β c v) (hb:bel σ.length c):Rep w σ β c v:=by
 generalize hσ:σ++L=σ' at h
 induction h with
 | bool b=>exact .bool b
 | int k n=>exact .int k n
 | str s=>exact .str s
 | agg cs vs hl _ ih=>simp only[bel,belL_iff] at hb;exact .agg cs vs hl fun i c v h1 h2=>ih i c v h1 h2 (hb c (List.mem_of_getElem? h1))
 | tup cs vs hl _ ih=>simp only[bel,belL_iff] at hb;exact .tup cs vs hl fun i c v h1 h2=>ih i c v h1 h2 (hb c (List.mem_of_getElem? h1))
 | nilp=>exact .nilp
 | stalep id g off g' o p h1 hg=>subst hσ;exact .stalep id g off g' o p (get_part hb h1) hg
 | ptr id g off b cs fz h1 hb'=>subst hσ;exact .ptr id g off b cs fz (get_part hb h1) hb'
 | stalerp id g i off g' o v h1 hg=>subst hσ;exact .stalerp id g i off g' o v (get_part hb h1) hg
 | rptr id g i off b sz es fz h1 hb'=>subst hσ;exact .rptr id g i off b sz es fz (get_part hb h1) hb'
 | iptr cells off a a0 f ha hs _ ih=>subst hσ;simp only[bel,belL_iff] at hb;exact .iptr cells off a a0 f ha (still_part hs) fun j c hj=>ih j c hj (hb c (List.mem_of_getElem? hj))
 | sl es sz n cap a f hn hc hsz ha _ ih=>
   subst hσ
   simp only[bel,belLL_iff] at hb
   exact .sl es sz n cap a f hn hc hsz (fun h0=>let ⟨a0,e0,hs⟩:=ha h0;⟨a0,e0,still_part hs⟩) fun i e j c h1 h2=>ih i e j c h1 h2 (belL_iff.1 (hb e (List.mem_of_getElem? h1)) c (List.mem_of_getElem? h2))
 | nils=>exact .nils
 | stalerow id g g' o p n c h1 hg=>subst hσ;exact .stalerow id g g' o p n c (get_part hb h1) hg
 | rownil id g sz fz ad h1 hb'=>subst hσ;exact .rownil id g sz fz ad (get_part hb h1) hb'
 | row id g b sz cap es fz arr ty fr h1 hb' hh hc hsz=>subst hσ;exact .row id g b sz cap es fz arr ty fr (get_part hb h1) hb' hh hc hsz
 | stalebv id g off len g' o p n c h1 hg=>subst hσ;exact .stalebv id g off len g' o p n c (get_part hb h1) hg
 | bview id g off len b cap a cs fz h1 hb' hl hc ha=>subst hσ;exact .bview id g off len b cap a cs fz (get_part hb h1) hb' hl hc ha
 | stalerv id g lo len g' o p n c h1 hg=>subst hσ;exact .stalerv id g lo len g' o p n c (get_part hb h1) hg
 | rview id g lo len cap sz a es fz h1 hl hc ha=>subst hσ;exact .rview id g lo len cap sz a es fz (get_part hb h1) hl hc ha
 | stalemap id g g' o v h1 hg=>subst hσ;exact .stalemap id g g' o v (get_part hb h1) hg
 | map id g b es clock h1 hb'=>subst hσ;exact .map id g b es clock (get_part hb h1) hb'
 | nilm=>exact .nilm
 | fn f cap vs hl _ ih=>simp only[bel,belL_iff] at hb;exact .fn f cap vs hl fun i c v h1 h2=>ih i c v h1 h2 (hb c (List.mem_of_getElem? h1))
 | staleit id g g' o v h1 hg=>subst hσ;exact .staleit id g g' o v (get_part hb h1) hg
 | siter id g b s pos h1 hb'=>subst hσ;exact .siter id g b s pos (get_part hb h1) hb'
 | miter id g b m mg since stepped seen h1 hb'=>subst hσ;exact .miter id g b m mg since stepped seen (get_part hb h1) hb'
 | undef v=>exact .undef v
 | slr es id g v _ _ i1 i2=>
   simp only[bel] at hb
   exact .slr es id g v (i1 (by simpa only[bel] using hb.1)) (i2 (by simpa only[bel] using hb.2))
end
def belO (n:Nat):VObj→Prop
 | .box cs _=>belL n cs
 | .row _ es _=>belLL n es
 | .map es _=>∀ e,e∈es→bel n e.1∧bel n e.2.1
 | .miter m _ _ _ _=>m<n
 | _=>True
def belH (n:Nat) (σ:VHeap):Prop:=∀ x,x∈σ→belO n x.2
section
variable {P:Program} {w:World} {σ L:VHeap} {β:Beta}
theorem Sim.part (h:Sim (σ++L) β w) (hb:belH σ.length σ):Sim σ β w:=by
 refine⟨fun id g o ho=>?_,fun i j b gi gj oi oj h1 h2 l1 l2 b1 b2=>?_⟩
 ·have hid:=(List.getElem?_eq_some_iff.1 ho).1
  have hO:=h.obj id g o (by rw[List.getElem?_append_left hid];exact ho)
  have hbo:=hb _ (List.mem_of_getElem? ho)
  cases o with
  | dead=>trivial
  | box cs fz=>
    obtain⟨b,arr,e,hc,hl,hr⟩:=hO
    exact⟨b,arr,e,hc,hl,fun i c v h1 h2=>(hr i c v h1 h2).part (belL_iff.1 hbo c (List.mem_of_getElem? h1))⟩
  | row sz es fz=>
    rcases hO with hO|⟨b,arr,e,hc,hl,hs,hr⟩
    ·exact .inl hO
    ·exact .inr ⟨b,arr,e,hc,hl,hs,fun i e j c v h1 h2 h3=>(hr i e j c v h1 h2 h3).part (belL_iff.1 (belLL_iff.1 hbo e (List.mem_of_getElem? h1)) c (List.mem_of_getElem? h2))⟩
  | map es clock=>
    obtain⟨b,ms,e,h1,hl,hr⟩:=hO
    exact⟨b,ms,e,h1,hl,fun i e m h2 h3=>let ⟨r1,r2,r3⟩:=hr i e m h2 h3;⟨r1.part (hbo e (List.mem_of_getElem? h2)).1,r2.part (hbo e (List.mem_of_getElem? h2)).2,r3⟩⟩
  | siter s pos=>exact hO
  | miter m g since stepped seen=>
    obtain⟨b,e,mb,h1,h2⟩:=hO
    exact⟨b,e,mb,h1.part hbo,h2⟩
 ·exact h.inj i j b gi gj oi oj (by rw[List.getElem?_append_left (List.getElem?_eq_some_iff.1 h1).1];exact h1) (by rw[List.getElem?_append_left (List.getElem?_eq_some_iff.1 h2).1];exact h2) l1 l2 b1 b2
theorem Step.part {σ0:VHeap} {β0:Beta} {w0:World} (h:Step σ0 β0 w0 (σ++L) β w) (hl:σ0.length≤σ.length):Step σ0 β0 w0 σ β w:=by
 refine⟨h.os,h.tape,h.output,h.size,h.own,h.still,fun b hb ho=>h.kept b hb (owned_part ho),fun b i hb ho=>h.wr b i hb (wr_part ho),h.shape,fun id g o ho=>?_⟩
 obtain⟨g',o',h1,h2⟩:=h.gens id g o ho
 exact⟨g',o',get_part (Nat.lt_of_lt_of_le (List.getElem?_eq_some_iff.1 ho).1 hl) h1,h2⟩
theorem T.trim [Glob] {f:FuncId} {args:List PV} {Post:KP} (h:T P f args σ fun r h'=>∃ σ' L,h'=σ'++L∧σ'.length=σ.length∧bel σ.length r∧belH σ.length σ'∧Post r σ'):T P f args σ Post:=
 fun w β vs h1 h2 h3 h4=>(h w β vs h1 h2 h3 h4).mono fun _ _ ⟨v,r,_,β',e1,⟨σ',L,e2,e3,e4,e5,e6⟩,e7,e8,e9⟩=>by
  subst e2
  rw[← e3] at e4 e5
  exact⟨v,r,σ',β',e1,e6,e7.part e4,e8.part e5,e9.part (by omega)⟩
theorem Rep.bel {c:PV} {v:Value} (h:Rep w σ β c v):bel σ.length c:=by
 have lt:∀ {id:Nat} {x:Nat × VObj},σ[id]?=some x→id<σ.length:=fun h=>(List.getElem?_eq_some_iff.1 h).1
 induction h with
 | bool b=>trivial
 | int k n=>trivial
 | str s=>trivial
 | agg cs vs hl _ ih=>
   simp only[Go.V.bel,belL_iff]
   intro c hc
   obtain⟨i,hi⟩:=List.getElem?_of_mem hc
   have h2:i<vs.size:=by rw[← hl];exact(List.getElem?_eq_some_iff.1 hi).1
   exact ih i c _ hi (Array.getElem?_eq_getElem h2)
 | tup cs vs hl _ ih=>
   simp only[Go.V.bel,belL_iff]
   intro c hc
   obtain⟨i,hi⟩:=List.getElem?_of_mem hc
   have h2:i<vs.size:=by rw[← hl];exact(List.getElem?_eq_some_iff.1 hi).1
   exact ih i c _ hi (Array.getElem?_eq_getElem h2)
 | nilp=>trivial
 | stalep id g off g' o p h1 hg=>exact lt h1
 | ptr id g off b cs fz h1 hb'=>exact lt h1
 | stalerp id g i off g' o v h1 hg=>exact lt h1
 | rptr id g i off b sz es fz h1 hb'=>exact lt h1
 | iptr cells off a a0 f ha hs _ ih=>
   simp only[Go.V.bel,belL_iff]
   intro c hc
   obtain⟨i,hi⟩:=List.getElem?_of_mem hc
   exact ih i c hi
 | sl es sz n cap a f hn hc hsz ha _ ih=>
   simp only[Go.V.bel,belLL_iff,belL_iff]
   intro e he c hc
   obtain⟨i,hi⟩:=List.getElem?_of_mem he
   obtain⟨j,hj⟩:=List.getElem?_of_mem hc
   exact ih i e j c hi hj
 | nils=>trivial
 | stalerow id g g' o p n c h1 hg=>exact lt h1
 | rownil id g sz fz ad h1 hb'=>exact lt h1
 | row id g b sz cap es fz arr ty fr h1 hb' hh hc hsz=>exact lt h1
 | stalebv id g off len g' o p n c h1 hg=>exact lt h1
 | bview id g off len b cap a cs fz h1 hb' hl hc ha=>exact lt h1
 | stalerv id g lo len g' o p n c h1 hg=>exact lt h1
 | rview id g lo len cap sz a es fz h1 hl hc ha=>exact lt h1
 | stalemap id g g' o v h1 hg=>exact lt h1
 | map id g b es clock h1 hb'=>exact lt h1
 | nilm=>trivial
 | fn f cap vs hl _ ih=>
   simp only[Go.V.bel,belL_iff]
   intro c hc
   obtain⟨i,hi⟩:=List.getElem?_of_mem hc
   have h2:i<vs.size:=by rw[← hl];exact(List.getElem?_eq_some_iff.1 hi).1
   exact ih i c _ hi (Array.getElem?_eq_getElem h2)
 | staleit id g g' o v h1 hg=>exact lt h1
 | siter id g b s pos h1 hb'=>exact lt h1
 | miter id g b m mg since stepped seen h1 hb'=>exact lt h1
 | undef v=>trivial
 | slr es id g v _ _ i1 i2=>
   simp only[Go.V.bel] at i1 i2 ⊢
   exact⟨i1,i2⟩
theorem Sim.belH (h:Sim σ β w):belH σ.length σ:=by
 intro x hx
 obtain⟨id,hi⟩:=List.getElem?_of_mem hx
 obtain⟨g,o⟩:=x
 have hO:=h.obj id g o hi
 cases o with
 | dead=>trivial
 | box cs fz=>
   obtain⟨b,arr,e,hc,hl,hr⟩:=hO
   refine belL_iff.2 fun c hc=>?_
   obtain⟨i,hi⟩:=List.getElem?_of_mem hc
   have h2:i<arr.size:=by rw[← hl];exact(List.getElem?_eq_some_iff.1 hi).1
   exact(hr i c _ hi (Array.getElem?_eq_getElem h2)).bel
 | row sz es fz=>
   rcases hO with ⟨_,rfl⟩|⟨b,arr,e,hc,hl,hs,hr⟩
   ·trivial
   ·refine belLL_iff.2 fun e he=>belL_iff.2 fun c hc=>?_
    obtain⟨i,hi⟩:=List.getElem?_of_mem he
    obtain⟨j,hj⟩:=List.getElem?_of_mem hc
    have h5:j<sz:=by rw[← hs e he];exact(List.getElem?_eq_some_iff.1 hj).1
    have h6:=mul_in (List.getElem?_eq_some_iff.1 hi).1 h5
    exact(hr i e j c _ hi hj (Array.getElem?_eq_getElem (by omega))).bel
 | map es clock=>
   obtain⟨b,ms,e,h1,hl,hr⟩:=hO
   intro e he
   obtain⟨i,hi⟩:=List.getElem?_of_mem he
   have h2:i<ms.size:=by rw[← hl];exact(List.getElem?_eq_some_iff.1 hi).1
   obtain⟨r1,r2,_⟩:=hr i e _ hi (Array.getElem?_eq_getElem h2)
   exact⟨r1.bel,r2.bel⟩
 | siter s pos=>trivial
 | miter m g since stepped seen=>
   obtain⟨b,e,mb,h1,h2⟩:=hO
   exact h1.bel
def TrimP (n:Nat) (Post:KP):KP:=fun r h'=>∃ σ' L,h'=σ'++L∧σ'.length=n∧bel n r∧belH n σ'∧Post r σ'
theorem T.start [Glob] {f:FuncId} {args:List PV} {Post:KP} (h:belH σ.length σ→(∀ c,c∈args→bel σ.length c)→T P f args σ (TrimP σ.length Post)):T P f args σ Post:=by
 intro w β vs h1 h2 h3 h4
 refine T.trim (h h3.belH fun c hc=>?_) w β vs h1 h2 h3 h4
 obtain⟨i,hi⟩:=List.getElem?_of_mem hc
 have h5:i<vs.size:=by rw[h1];exact(List.getElem?_eq_some_iff.1 hi).1
 exact(h2 i c _ hi (Array.getElem?_eq_getElem h5)).bel
def U [Glob] (P:Program) (f:FuncId) (args:List PV) (r:PV):Prop:=∀ (σ:VHeap) (Post:KP),Post r σ→T P f args σ Post
end
class Pl (c:PV):Prop where
 pl:(∀ σ,inl σ c=c)∧refs c=[]
class PlL (cs:List PV):Prop where
 pl:(∀ σ,inlL σ cs=cs)∧refsL cs=[]
class Cl (c:PV):Prop where
 cl:∀ n,bel n c
class ClL (cs:List PV):Prop where
 cl:∀ n,belL n cs
class ClLL (es:List (List PV)):Prop where
 cl:∀ n,belLL n es
instance (b:Bool):Pl (.bool b):=⟨fun _=>rfl,rfl⟩
instance (k:IntKind) (i:Int):Pl (.int k i):=⟨fun _=>rfl,rfl⟩
instance (s:List UInt8):Pl (.str s):=⟨fun _=>rfl,rfl⟩
instance:Pl .nilp:=⟨fun _=>rfl,rfl⟩
instance:Pl .nilm:=⟨fun _=>rfl,rfl⟩
instance:Pl .undef:=⟨fun _=>rfl,rfl⟩
instance (a b c:Nat):Pl (.ptr a b c):=⟨fun _=>rfl,rfl⟩
instance (a b c d:Nat):Pl (.rptr a b c d):=⟨fun _=>rfl,rfl⟩
instance (a:List PV) (b:Nat):Pl (.iptr a b):=⟨fun _=>rfl,rfl⟩
instance (es:List (List PV)):Pl (.sl es):=⟨fun _=>rfl,rfl⟩
instance (a b:Nat):Pl (.map a b):=⟨fun _=>rfl,rfl⟩
instance (a b:Nat):Pl (.iter a b):=⟨fun _=>rfl,rfl⟩
instance (f:FuncId) (c:List PV):Pl (.fn f c):=⟨fun _=>rfl,rfl⟩
instance (cs:List PV) [h:PlL cs]:Pl (.agg cs):=⟨fun σ=>by rw[inl,h.pl.1],by rw[refs];exact h.pl.2⟩
instance (cs:List PV) [h:PlL cs]:Pl (.tup cs):=⟨fun σ=>by rw[inl,h.pl.1],by rw[refs];exact h.pl.2⟩
instance:PlL []:=⟨fun _=>rfl,rfl⟩
instance (c:PV) (cs:List PV) [h:Pl c] [k:PlL cs]:PlL (c::cs):=⟨fun σ=>by rw[inlL,h.pl.1,k.pl.1],by rw[refsL,h.pl.2,k.pl.2];rfl⟩
theorem plL_iff {cs:List PV} (h:∀ c,c∈cs→Pl c):PlL cs:=by
 induction cs with
 | nil=>infer_instance
 | cons c cs ih=>
   have:=h c (by simp)
   have:=ih fun c hc=>h c (by simp[hc])
   infer_instance
instance (a b:List PV) [h:PlL a] [k:PlL b]:PlL (a++b):=⟨fun σ=>by rw[inlL_eq,List.map_append,← inlL_eq,← inlL_eq,h.pl.1,k.pl.1],by rw[refsL_eq,List.flatMap_append,← refsL_eq,← refsL_eq,h.pl.2,k.pl.2];rfl⟩
instance {α:Type} (l:List α) (f:α→PV) [h:∀ x,Pl (f x)]:PlL (l.map f):=plL_iff fun c hc=>by obtain⟨x,_,rfl⟩:=List.mem_map.1 hc;exact h x
instance (k:Nat) (c:PV) [h:Pl c]:PlL (List.replicate k c):=plL_iff fun x hx=>by rw[(List.mem_replicate.1 hx).2];exact h
instance (b:Bool):Cl (.bool b):=⟨fun _=>trivial⟩
instance (k:IntKind) (i:Int):Cl (.int k i):=⟨fun _=>trivial⟩
instance (s:List UInt8):Cl (.str s):=⟨fun _=>trivial⟩
instance:Cl .nilp:=⟨fun _=>trivial⟩
instance:Cl .nilm:=⟨fun _=>trivial⟩
instance:Cl .nils:=⟨fun _=>trivial⟩
instance:Cl .undef:=⟨fun _=>trivial⟩
instance (es:List (List PV)) [h:ClLL es]:Cl (.sl es):=⟨fun n=>h.cl n⟩
instance (cs:List PV) (k:Nat) [h:ClL cs]:Cl (.iptr cs k):=⟨fun n=>h.cl n⟩
instance (cs:List PV) [h:ClL cs]:Cl (.agg cs):=⟨fun n=>h.cl n⟩
instance (cs:List PV) [h:ClL cs]:Cl (.tup cs):=⟨fun n=>h.cl n⟩
instance:ClL []:=⟨fun _=>trivial⟩
instance (c:PV) (cs:List PV) [h:Cl c] [k:ClL cs]:ClL (c::cs):=⟨fun n=>⟨h.cl n,k.cl n⟩⟩
theorem clL_iff {cs:List PV} (h:∀ c,c∈cs→Cl c):ClL cs:=⟨fun n=>belL_iff.2 fun c hc=>(h c hc).cl n⟩
instance (a b:List PV) [h:ClL a] [k:ClL b]:ClL (a++b):=⟨fun n=>belL_iff.2 fun c hc=>by
 rcases List.mem_append.1 hc with hc|hc
 ·exact belL_iff.1 (h.cl n) c hc
 ·exact belL_iff.1 (k.cl n) c hc⟩
instance {α:Type} (l:List α) (f:α→PV) [h:∀ x,Cl (f x)]:ClL (l.map f):=clL_iff fun c hc=>by obtain⟨x,_,rfl⟩:=List.mem_map.1 hc;exact h x
instance (k:Nat) (c:PV) [h:Cl c]:ClL (List.replicate k c):=clL_iff fun x hx=>by rw[(List.mem_replicate.1 hx).2];exact h
instance:ClLL []:=⟨fun _=>trivial⟩
instance (c:List PV) (cs:List (List PV)) [h:ClL c] [k:ClLL cs]:ClLL (c::cs):=⟨fun n=>⟨h.cl n,k.cl n⟩⟩
theorem clLL_iff {cs:List (List PV)} (h:∀ c,c∈cs→ClL c):ClLL cs:=⟨fun n=>belLL_iff.2 fun c hc=>(h c hc).cl n⟩
instance (a b:List (List PV)) [h:ClLL a] [k:ClLL b]:ClLL (a++b):=⟨fun n=>belLL_iff.2 fun c hc=>by
 rcases List.mem_append.1 hc with hc|hc
 ·exact belLL_iff.1 (h.cl n) c hc
 ·exact belLL_iff.1 (k.cl n) c hc⟩
instance {α:Type} (l:List α) (f:α→List PV) [h:∀ x,ClL (f x)]:ClLL (l.map f):=clLL_iff fun c hc=>by obtain⟨x,_,rfl⟩:=List.mem_map.1 hc;exact h x
instance (k:Nat) (c:List PV) [h:ClL c]:ClLL (List.replicate k c):=clLL_iff fun x hx=>by rw[(List.mem_replicate.1 hx).2];exact h
class SLen (es:List (List PV)) (m:outParam Nat):Prop where
 len:es.length=m
class SCut (es:List (List PV)) (l k:Nat) (r:outParam (List (List PV))):Prop where
 cut:(es.drop l).take k=r
class SApp (a b:List (List PV)) (r:outParam (List (List PV))):Prop where
 app:a++b=r
instance (priority:=low) (es:List (List PV)):SLen es es.length:=⟨rfl⟩
instance:SLen [] 0:=⟨rfl⟩
instance {α:Type} (l:List α) (f:α→List PV):SLen (l.map f) l.length:=⟨by simp⟩
instance (priority:=low) (es:List (List PV)) (l k:Nat):SCut es l k ((es.drop l).take k):=⟨rfl⟩
instance {α:Type} (l:List α) (f:α→List PV) (a k:Nat):SCut (l.map f) a k (((l.drop a).take k).map f):=⟨by simp[List.map_drop,List.map_take]⟩
instance (priority:=high) {α:Type} (l:List α) (f:α→List PV) (k:Nat):SCut (l.map f) 0 (k - 0) ((l.take k).map f):=⟨by simp[List.map_take]⟩
instance (priority:=high) {α:Type} (l:List α) (f:α→List PV) (a:Nat):SCut (l.map f) a (l.length - a) ((l.drop a).map f):=⟨by rw[List.map_drop,List.take_of_length_le];simp⟩
instance (priority:=high+1) {α:Type} (l:List α) (f:α→List PV):SCut (l.map f) 0 (l.length - 0) (l.map f):=⟨by simp[List.take_of_length_le]⟩
instance (es:List (List PV)):SCut es 0 (es.length - 0) es:=⟨by simp⟩
class VCut (cs:List PV) (off len:Nat) (r:outParam (List (List PV))):Prop where
 cut:((cs.drop off).take len).map (fun c=>[c])=r
instance (priority:=low) (cs:List PV) (off len:Nat):VCut cs off len (((cs.drop off).take len).map fun c=>[c]):=⟨rfl⟩
instance (priority:=low) (a b:List (List PV)):SApp a b (a++b):=⟨rfl⟩
instance (b:List (List PV)):SApp [] b b:=⟨rfl⟩
instance (b:List (List PV)):SApp b [] b:=⟨by simp⟩
instance {α:Type} (a b:List α) (f:α→List PV):SApp (a.map f) (b.map f) ((a++b).map f):=⟨by simp⟩
instance {α:Type} (a:List α) (x:α) (f:α→List PV):SApp (a.map f) [f x] ((a++[x]).map f):=⟨by simp⟩
section
variable {σ L:VHeap} {n:Nat}
theorem vGet_of {σ:VHeap} {id g:Nat} {o:VObj} (h:σ[id]?=some (g,o)):vGet σ id g=some o:=by unfold vGet;rw[h];simp
theorem lraw (hn:σ.length=n) {k:Nat} {x:Nat × VObj} (h:L[k]?=some x):(σ++L)[n+k]?=some x:=by
 rw[List.getElem?_append_right (by omega),hn,Nat.add_sub_cancel_left];exact h
theorem lget (hn:σ.length=n) {k g:Nat} {o:VObj} (h:vGet L k g=some o):vGet (σ++L) (n+k) g=some o:=vGet_of (lraw hn (vGet_some h))
theorem lset (hn:σ.length=n) (k:Nat) (x:Nat × VObj):(σ++L).set (n+k) x=σ++L.set k x:=by
 rw[List.set_append_right _ _ (by omega),hn,Nat.add_sub_cancel_left]
theorem oget {id g:Nat} {o:VObj} (h:vGet σ id g=some o):vGet (σ++L) id g=some o:=by
 have h:=vGet_some h
 exact vGet_of (by rw[List.getElem?_append_left (List.getElem?_eq_some_iff.1 h).1];exact h)
theorem vGet_lt {σ:VHeap} {id g:Nat} {o:VObj} (h:vGet σ id g=some o):id<σ.length:=(List.getElem?_eq_some_iff.1 (vGet_some h)).1
theorem oset {id:Nat} (x:Nat × VObj) (h:id<σ.length):(σ++L).set id x=σ.set id x++L:=List.set_append_left _ _ h
theorem hget_ne {σ:VHeap} {i j g:Nat} {x:Nat × VObj} {o:Option VObj} (h:i≠j) (k:vGet σ j g=o):vGet (σ.set i x) j g=o:=by
 unfold vGet at *;rw[List.getElem?_set_ne h];exact k
theorem hget_eq {σ:VHeap} {i g:Nat} {o:VObj} (h:i<σ.length):vGet (σ.set i (g,o)) i g=some o:=vGet_of (List.getElem?_set_self h)
theorem belH_set {σ:VHeap} {n id:Nat} {x:Nat × VObj} (h:belH n σ) (k:belO n x.2):belH n (σ.set id x):=by
 intro y hy
 rcases List.mem_or_eq_of_mem_set hy with h1|h1
 ·exact h y h1
 ·rw[h1];exact k
end
inductive InlA (n:Nat) (L0:VHeap):VHeap→List PV→List PV→VHeap→Prop
 | nil (L:VHeap):InlA n L0 L [] [] L
 | pl {L L':VHeap} {c:PV} {cs vs:List PV} (h:Pl c) (k:InlA n L0 L cs vs L'):InlA n L0 L (c::cs) (c::vs) L'
 | nils {L L':VHeap} {cs vs:List PV} (k:InlA n L0 L cs vs L'):InlA n L0 L (.nils::cs) (.sl []::vs) L'
 | row {L L1 L':VHeap} {i g sz:Nat} {es:List (List PV)} {fz:Bool} {cs vs:List PV} (h:vGet L0 i g=some (.row sz es fz)) (e:frzId L i=L1) (k:InlA n L0 L1 cs vs L'):InlA n L0 L (.row (n+i) g::cs) (.sl es::vs) L'
 | bview {L L1 L':VHeap} {i g off len:Nat} {bs:List PV} {q:List (List PV)} {fz:Bool} {cs vs:List PV} (h:vGet L0 i g=some (.box bs fz)) (hq:VCut bs off len q) (e:frzId L i=L1) (k:InlA n L0 L1 cs vs L') :
   InlA n L0 L (.bview (n+i) g off len::cs) (.sl q::vs) L'
 | rview {L L1 L':VHeap} {i g lo len sz:Nat} {es:List (List PV)} {fz:Bool} {cs vs:List PV} (h:vGet L0 i g=some (.row sz es fz)) (e:frzId L i=L1) (k:InlA n L0 L1 cs vs L') :
   InlA n L0 L (.rview (n+i) g lo len::cs) (.sl ((es.drop lo).take len)::vs) L'
 | agg {L L1 L':VHeap} {as us cs vs:List PV} (h:InlA n L0 L as us L1) (k:InlA n L0 L1 cs vs L'):InlA n L0 L (.agg as::cs) (.agg us::vs) L'
section
variable {σ L:VHeap} {n:Nat}
theorem frzId_part (hn:σ.length=n) (i:Nat):frzId (σ++L) (n+i)=σ++frzId L i:=by
 unfold frzId
 have:(σ++L)[n+i]?=L[i]?:=by rw[List.getElem?_append_right (by omega),hn,Nat.add_sub_cancel_left]
 rw[this]
 split<;>first|rfl|exact lset hn _ _
theorem InlA.ok {L0 L':VHeap} {args vs:List PV} (hn:σ.length=n) (h:InlA n L0 L args vs L'):inlL (σ++L0) args=vs∧frzIds (σ++L) (refsL args)=σ++L':=by
 induction h with
 | nil L=>exact⟨rfl,rfl⟩
 | pl h _ ih=>exact⟨by rw[inlL,h.pl.1,ih.1],by rw[refsL,h.pl.2];exact ih.2⟩
 | nils _ ih=>exact⟨by rw[inlL,ih.1];rfl,by rw[refsL];exact ih.2⟩
 | row h e _ ih=>
   refine⟨?_,?_⟩
   ·rw[inlL,ih.1,inl,lraw hn (vGet_some h)];simp
   ·rw[refsL,refs,List.singleton_append,frzIds,List.foldl_cons,frzId_part hn,e];exact ih.2
 | bview h hq e _ ih=>
   have hq:=hq.cut
   subst hq
   refine⟨?_,?_⟩
   ·rw[inlL,ih.1,inl,lraw hn (vGet_some h)];simp
   ·rw[refsL,refs,List.singleton_append,frzIds,List.foldl_cons,frzId_part hn,e];exact ih.2
 | rview h e _ ih=>
   refine⟨?_,?_⟩
   ·rw[inlL,ih.1,inl,lraw hn (vGet_some h)];simp
   ·rw[refsL,refs,List.singleton_append,frzIds,List.foldl_cons,frzId_part hn,e];exact ih.2
 | agg _ _ ih1 ih2=>
   refine⟨by rw[inlL,inl,ih1.1,ih2.1],?_⟩
   rw[refsL,refs,frzIds,List.foldl_append]
   have:=ih1.2
   unfold frzIds at this
   rw[this];exact ih2.2
end
section
variable {env:Env} {h:VHeap} {Q:QP}
theorem sq_thenN {N:Env→VHeap→Prop} (k:N env h):QP.then Q N .normal env h:=k
theorem sq_thenR {N:Env→VHeap→Prop} (k:Q .ret env h):QP.then Q N .ret env h:=k
theorem sq_thenX {N:Env→VHeap→Prop} {id:Nat} (k:Q (.exit id) env h):QP.then Q N (.exit id) env h:=k
theorem sq_blockN {id:Nat} (k:Q .normal env h):QP.block Q id .normal env h:=k
theorem sq_blockR {id:Nat} (k:Q .ret env h):QP.block Q id .ret env h:=k
theorem sq_blockX {id:Nat} (k:Q .normal env h):QP.block Q id (.exit id) env h:=by simp only[QP.block,if_true];exact k
theorem sq_blockY {id id':Nat} (hne:id'≠id) (k:Q (.exit id') env h):QP.block Q id (.exit id') env h:=by simp only[QP.block,if_neg hne];exact k
end
def Y [Glob] (P:Program) (n:Nat) (op:VOp) (env:Env) (h:VHeap) (v:PV):Prop:=∀ K:KP,K v h→vop P n env h K op
section
variable {P:Program} [Glob] {n:Nat} {K:Env→VHeap→Prop} {r:List VO} {d:Option Nat} {env:Env} {σ L h:VHeap} {v:PV}
theorem yn {op:VOp} (y:Y P n op env h v):YO P n ⟨d,op,none⟩ env h v:=fun _ hk=>y _ hk
theorem yt {op:VOp} {s:Nat} {b:Bool} (hg:env s=.bool b) (y:Y P n op env h v):YO P n ⟨d,op,some (s,b)⟩ env h v:=fun K hk=>by
 simp only[vrunOps];rw[hg];simp only[if_true];exact y _ hk
theorem yf {op:VOp} {s:Nat} {b:Bool} (hg:env s=.bool (!b)):YO P n ⟨d,op,some (s,b)⟩ env h (.tup []):=fun K hk=>by
 simp only[vrunOps];rw[hg];cases b<;>exact hk
theorem yu {op:VOp} {s:Nat} {b:Bool} (hg:env s=.tup []):YO P n ⟨d,op,some (s,b)⟩ env h (.tup []):=fun K hk=>by
 simp only[vrunOps];rw[hg];exact hk
theorem rcons {o:VO}:vrunOps P n (vrunOps P n K r) [o] env h→vrunOps P n K (o::r) env h:=by
 intro hh
 simp only[vrunOps] at hh ⊢;exact hh
theorem ys1 {op:VOp} (y:Y P n op env h v) (k:vrunOps P n K r (eput env d v) h):vrunOps P n K (⟨d,op,none⟩::r) env h:=y _ k
theorem yst {o:VO} (y:YO P n o env h v) (k:vrunOps P n K r (eput env o.dst v) h):vrunOps P n K (o::r) env h:=rcons (y _ k)
def E (P:Program) [Glob] (n:Nat) (op:VOp) (env:Env) (h:VHeap) (v:PV) (h':VHeap):Prop:=∀ K:KP,K v h'→vop P n env h K op
theorem est {op:VOp} {h':VHeap} (y:E P n op env h v h') (k:vrunOps P n K r (eput env d v) h'):vrunOps P n K (⟨d,op,none⟩::r) env h:=y _ k
theorem gt {op:VOp} {s:Nat} {b:Bool} (hg:env s=.bool b) (k:vrunOps P n K (⟨d,op,none⟩::r) env h):vrunOps P n K (⟨d,op,some (s,b)⟩::r) env h:=by
 simp only[vrunOps] at *;rw[hg];simpa using k
theorem gf {op:VOp} {s:Nat} {b:Bool} (hg:env s=.bool (!b)) (k:vrunOps P n K r (eput env d (.tup [])) h):vrunOps P n K (⟨d,op,some (s,b)⟩::r) env h:=yst (o:=⟨d,op,some (s,b)⟩) (yf hg) k
theorem gu {op:VOp} {s:Nat} {b:Bool} (hg:env s=.tup []) (k:vrunOps P n K r (eput env d (.tup [])) h):vrunOps P n K (⟨d,op,some (s,b)⟩::r) env h:=yst (o:=⟨d,op,some (s,b)⟩) (yu hg) k
theorem gb {op:VOp} {s:Nat} {b c:Bool} (hg:env s=.bool c) (k1:c=b→vrunOps P n K (⟨d,op,none⟩::r) env h) (k2:c=(!b)→vrunOps P n K r (eput env d (.tup [])) h):vrunOps P n K (⟨d,op,some (s,b)⟩::r) env h:=by
 by_cases hc:c=b
 ·exact gt (by rw[hg,hc]) (k1 hc)
 ·have hc:c=(!b):=by cases c<;>cases b<;>simp_all
  exact gf (by rw[hg,hc]) (k2 hc)
theorem callT {f:FuncId} {args:List VA} {vs:List PV} {L':VHeap} (hn:σ.length=n) (hi:InlA n L L (args.map (va env)) vs L') (k:T P f vs (σ++L') fun v h'=>vrunOps P n K r (eput env d v) h'):vrunOps P n K (⟨d,.call false f args,none⟩::r) env (σ++L):=by
 obtain⟨e1,e2⟩:=hi.ok hn
 simp only[vrunOps,vop,vCall,inlArgs,frzArgs]
 rw[inlL_eq] at e1
 rw[e1,e2];exact k
theorem callU {f:FuncId} {args:List VA} {vs:List PV} {L':VHeap} (u:U P f vs v) (hn:σ.length=n) (hi:InlA n L L (args.map (va env)) vs L') (k:vrunOps P n K r (eput env d v) (σ++L')):vrunOps P n K (⟨d,.call false f args,none⟩::r) env (σ++L):=
 callT hn hi (u _ _ k)
theorem y_call {f:FuncId} {args:List VA} {vs:List PV} (u:U P f vs v) (hi:args.map (va env)=vs) [hp:PlL vs]:Y P n (.call false f args) env h v:=fun K hk=>by
 simp only[vop,vCall,inlArgs,frzArgs]
 rw[hi,← inlL_eq,hp.pl.1,hp.pl.2];exact u _ _ hk
theorem callC {f:FuncId} {x:VA} {cap:List PV} {args:List VA} {vs:List PV} (hx:va env x=.fn f cap) (hok:callOk P f=true) (hi:args.map (va env)=vs) (k:T P f (vs++cap) h fun v h'=>vrunOps P n K r (eput env d v) h'):vrunOps P n K (⟨d,.callV x args,none⟩::r) env h:=by
 simp only[vrunOps,vop,vCallV];rw[hx];simp only[if_true];rw[hi];exact⟨hok,k⟩
theorem y_mov {x:VA} (e:va env x=v):Y P n (.mov x) env h v:=fun K hk=>by show K (va env x) h;rw[e];exact hk
theorem y_pickT {c x y:VA} (e:va env c=.bool true) (e2:va env x=v):Y P n (.pick c x y) env h v:=fun K hk=>by simp only[vop,vPick];rw[e,e2];exact hk
theorem y_pickF {c x y:VA} (e:va env c=.bool false) (e2:va env y=v):Y P n (.pick c x y) env h v:=fun K hk=>by simp only[vop,vPick];rw[e,e2];exact hk
theorem y_loadL {sz:Option Nat} {x:VA} {k g off:Nat} {cs:List PV} {fz:Bool} (e:va env x=.ptr (n+k) g off) (hn:σ.length=n) (hg:vGet L k g=some (.box cs fz)) (hc:cut cs off sz=some v):Y P n (.load sz x) env (σ++L) v:=fun K hk=>by
 simp only[vop,vLoad];rw[e];simp only[lget hn hg,hc];exact hk
theorem y_load {sz:Option Nat} {x:VA} {id g off:Nat} {cs:List PV} {fz:Bool} (e:va env x=.ptr id g off) (hg:vGet h id g=some (.box cs fz)) (hc:cut cs off sz=some v):Y P n (.load sz x) env h v:=fun K hk=>by
 simp only[vop,vLoad];rw[e];simp only[hg,hc];exact hk
theorem y_loadI {sz:Option Nat} {x:VA} {off:Nat} {cs:List PV} (e:va env x=.iptr cs off) (hc:cut cs off sz=some v):Y P n (.load sz x) env h v:=fun K hk=>by
 simp only[vop,vLoad];rw[e];simp only[hc];exact hk
theorem y_loadR {sz:Option Nat} {x:VA} {id g i off s:Nat} {es:List (List PV)} {fz:Bool} {c:List PV} (e:va env x=.rptr id g i off) (hg:vGet h id g=some (.row s es fz)) (hi:es[i]?=some c) (hc:cut c off sz=some v):Y P n (.load sz x) env h v:=fun K hk=>by
 simp only[vop,vLoad];rw[e];simp only[hg,hi,hc];exact hk
theorem y_nilL {x:VA} {k g off:Nat} {o:VObj} (e:va env x=.ptr (n+k) g off) (hn:σ.length=n) (hg:vGet L k g=some o):Y P n (.nilCheck x) env (σ++L) (.ptr (n+k) g off):=fun K hk=>by
 simp only[vop,vNilCheck];rw[e];exact⟨⟨_,lget hn hg⟩,hk⟩
theorem y_nil {x:VA} {id g off:Nat} {o:VObj} (e:va env x=.ptr id g off) (hg:vGet h id g=some o):Y P n (.nilCheck x) env h (.ptr id g off):=fun K hk=>by
 simp only[vop,vNilCheck];rw[e];exact⟨⟨_,hg⟩,hk⟩
theorem y_nilI {x:VA} {off:Nat} {cs:List PV} (e:va env x=.iptr cs off):Y P n (.nilCheck x) env h (.iptr cs off):=fun K hk=>by
 simp only[vop,vNilCheck];rw[e];exact hk
theorem y_nilR {x:VA} {id g i off:Nat} {o:VObj} (e:va env x=.rptr id g i off) (hg:vGet h id g=some o):Y P n (.nilCheck x) env h (.rptr id g i off):=fun K hk=>by
 simp only[vop,vNilCheck];rw[e];exact⟨⟨_,hg⟩,hk⟩
theorem y_fieldL {f:Nat} {x:VA} {k g off:Nat} {o:VObj} (e:va env x=.ptr (n+k) g off) (hn:σ.length=n) (hg:vGet L k g=some o) {o2:Nat} (ho:off+f=o2):Y P n (.field f x) env (σ++L) (.ptr (n+k) g o2):=fun K hk=>by
 subst ho
 simp only[vop,vField];rw[e];exact⟨⟨_,lget hn hg⟩,hk⟩
theorem y_field {f:Nat} {x:VA} {id g off:Nat} {o:VObj} (e:va env x=.ptr id g off) (hg:vGet h id g=some o) {o2:Nat} (ho:off+f=o2):Y P n (.field f x) env h (.ptr id g o2):=fun K hk=>by
 subst ho
 simp only[vop,vField];rw[e];exact⟨⟨_,hg⟩,hk⟩
theorem y_fieldI {f:Nat} {x:VA} {off:Nat} {cs:List PV} (e:va env x=.iptr cs off) {o2:Nat} (ho:off+f=o2):Y P n (.field f x) env h (.iptr cs o2):=fun K hk=>by
 subst ho
 simp only[vop,vField];rw[e];exact hk
theorem y_fieldR {f:Nat} {x:VA} {id g i off:Nat} {o:VObj} (e:va env x=.rptr id g i off) (hg:vGet h id g=some o) {o2:Nat} (ho:off+f=o2):Y P n (.field f x) env h (.rptr id g i o2):=fun K hk=>by
 subst ho
 simp only[vop,vField];rw[e];exact⟨⟨_,hg⟩,hk⟩
theorem y_bin {op:BinOp} {t:BT} {x y:VA} {k k':IntKind} {a b:Int} (e:va env x=.int k a) (e2:va env y=.int k' b) (hc:ibin op k a k' b=some v):Y P n (.bin op t x y) env h v:=fun K hk=>by
 simp only[vop,vBin];rw[e,e2];simp only[hc];exact hk
theorem y_binS {op:BinOp} {t:BT} {x y:VA} {a b:List UInt8} (e:va env x=.str a) (e2:va env y=.str b) (hc:sbin op a b=some v):Y P n (.bin op t x y) env h v:=fun K hk=>by
 simp only[vop,vBin];rw[e,e2];simp only[hc];exact hk
theorem y_eqB {x y:VA} {a b:Bool} (e:va env x=.bool a) (e2:va env y=.bool b):Y P n (.bin .eql .bool x y) env h (.bool (a==b)):=fun K hk=>by
 simp only[vop,vBin];rw[e,e2];exact⟨trivial,hk⟩
theorem y_neB {x y:VA} {a b:Bool} (e:va env x=.bool a) (e2:va env y=.bool b):Y P n (.bin .neq .bool x y) env h (.bool (!(a==b))):=fun K hk=>by
 simp only[vop,vBin];rw[e,e2];exact⟨trivial,hk⟩
theorem y_ptrE {x y:VA} {id g off:Nat} {o:VObj} (e:va env x=.ptr id g off) (e2:va env y=.nilp) (hg:vGet h id g=some o):Y P n (.bin .eql .ptr x y) env h (.bool false):=fun K hk=>by
 simp only[vop,vBin];rw[e,e2];exact⟨trivial,⟨_,hg⟩,hk⟩
theorem y_ptrN {x y:VA} {id g off:Nat} {o:VObj} (e:va env x=.ptr id g off) (e2:va env y=.nilp) (hg:vGet h id g=some o):Y P n (.bin .neq .ptr x y) env h (.bool true):=fun K hk=>by
 simp only[vop,vBin];rw[e,e2];exact⟨trivial,⟨_,hg⟩,hk⟩
theorem y_nilE {x y:VA} (e:va env x=.nilp) (e2:va env y=.nilp):Y P n (.bin .eql .ptr x y) env h (.bool true):=fun K hk=>by
 simp only[vop,vBin];rw[e,e2];exact⟨trivial,hk⟩
theorem y_nilN {x y:VA} (e:va env x=.nilp) (e2:va env y=.nilp):Y P n (.bin .neq .ptr x y) env h (.bool false):=fun K hk=>by
 simp only[vop,vBin];rw[e,e2];exact⟨trivial,hk⟩
theorem y_not {x:VA} {b:Bool} (e:va env x=.bool b):Y P n (.un .not x) env h (.bool !b):=fun K hk=>by
 simp only[vop,vUn];rw[e];exact hk
theorem y_neg {x:VA} {k:IntKind} {a b:Int} (e:va env x=.int k a) (hw:k.wrap (0 - a)=b):Y P n (.un .neg x) env h (.int k b):=fun K hk=>by
 simp only[vop,vUn];rw[e];simp only[hw];exact hk
theorem y_conv {k':IntKind} {x:VA} {k:IntKind} {a:Int} {b:Int} (e:va env x=.int k a) (hw:k'.wrap a=b):Y P n (.convInt k' x) env h (.int k' b):=fun K hk=>by
 simp only[vop,vConvInt];rw[e];simp only[hw];exact hk
theorem y_convS {x:VA} {a:List UInt8} (e:va env x=.str a):Y P n (.convStr x) env h (.str a):=fun K hk=>by
 simp only[vop,vConvStr];rw[e];exact hk
theorem y_b2s {x:VA} {es:List (List PV)} {bs:List UInt8} (e:rd h (va env x)=some es) (hb:es.mapM byteOf=some bs):Y P n (.b2s x) env h (.str bs):=fun K hk=>by
 simp only[vop,vB2S];rw[e];simp only[hb];exact hk
theorem y_func {f:FuncId} {caps:List VA} {cs:List PV} (e:caps.map (va env)=cs):Y P n (.func f caps) env h (.fn f cs):=fun K hk=>by
 simp only[vop,vFunc];rw[e];exact hk
theorem y_build {zero:List PV} {parts:List (Nat × Nat × VA)} {cs:List PV} (e:vFill zero (parts.map fun q=>(q.1,q.2.1,va env q.2.2))=some cs):Y P n (.build zero parts) env h (.agg cs):=fun K hk=>by
 simp only[vop,vBuild];rw[e];exact hk
theorem y_fieldVal {off:Nat} {q:Option Nat} {x:VA} {cs:List PV} (e:va env x=.agg cs) (hc:cut cs off q=some v):Y P n (.fieldVal off q x) env h v:=fun K hk=>by
 simp only[vop,vFieldVal];rw[e];simp only[hc];exact hk
theorem y_extract {k:Nat} {x:VA} {vs:List PV} (e:va env x=.tup vs) (hc:vs[k]?=some v):Y P n (.extract k x) env h v:=fun K hk=>by
 simp only[vop,vExtract];rw[e];simp only[hc];exact hk
theorem y_indexS {sz:Nat} {x y:VA} {es:List (List PV)} {q:IntKind} {i:Int} {c:List PV} (e:va env x=.sl es) (e2:va env y=.int q i) (h0:0≤i) (hc:es[i.toNat]?=some c) (hl:c.length=sz):Y P n (.index sz x y) env h (.iptr c 0):=fun K hk=>by
 simp only[vop,vIndex];rw[e,e2];simp only[hc];exact⟨h0,hl,hk⟩
theorem y_indexR {sz:Nat} {x y:VA} {id g:Nat} {es:List (List PV)} {fz:Bool} {q:IntKind} {i:Int} (e:va env x=.row id g) (e2:va env y=.int q i) (hg:vGet h id g=some (.row sz es fz)) (h0:0≤i) (hc:i<es.length):Y P n (.index sz x y) env h (.rptr id g i.toNat 0):=fun K hk=>by
 simp only[vop,vIndex];rw[e,e2];simp only[hg];exact⟨trivial,h0,hc,hk⟩
theorem y_indexV {sz:Nat} {x y:VA} {id g off len:Nat} {o:VObj} {q:IntKind} {i:Int} {o2:Nat} (e:va env x=.bview id g off len) (e2:va env y=.int q i) (hg:vGet h id g=some o) (hs:sz=1) (h0:0≤i) (hm:i<len) (ho:off+i.toNat=o2):Y P n (.index sz x y) env h (.ptr id g o2):=fun K hk=>by
 subst ho
 simp only[vop,vIndex];rw[e,e2];exact⟨hs,⟨_,hg⟩,h0,hm,hk⟩
theorem y_indexStr {x y:VA} {s:List UInt8} {q:IntKind} {i:Int} {b:UInt8} (e:va env x=.str s) (e2:va env y=.int q i) (h0:0≤i) (hc:s[i.toNat]?=some b):Y P n (.indexStr x y) env h (.int .u8 b.toNat):=fun K hk=>by
 simp only[vop,vIndexStr];rw[e,e2];simp only[hc];exact⟨h0,hk⟩
theorem y_indexAgg {m sz:Nat} {w:Option Nat} {x y:VA} {cs:List PV} {q:IntKind} {i:Int} (e:va env x=.agg cs) (e2:va env y=.int q i) (h0:0≤i) (hm:i<m) (hc:cut cs (i.toNat * sz) w=some v):Y P n (.indexAgg m sz w x y) env h v:=fun K hk=>by
 simp only[vop,vIndexAgg];rw[e,e2];simp only[hc];exact⟨h0,hm,hk⟩
theorem y_indexArr {m sz:Nat} {x y:VA} {id g off:Nat} {o:VObj} {q:IntKind} {i:Int} (e:va env x=.ptr id g off) (e2:va env y=.int q i) (hg:vGet h id g=some o) (h0:0≤i) (hm:i<m) {o2:Nat} (ho:off+i.toNat * sz=o2):Y P n (.indexArr m sz x y) env h (.ptr id g o2):=fun K hk=>by
 subst ho
 simp only[vop,vIndexArr];rw[e2];refine⟨h0,hm,?_⟩;unfold vField;rw[e];exact⟨⟨_,hg⟩,hk⟩
theorem y_indexArrI {m sz:Nat} {x y:VA} {cs:List PV} {off:Nat} {q:IntKind} {i:Int} (e:va env x=.iptr cs off) (e2:va env y=.int q i) (h0:0≤i) (hm:i<m) {o2:Nat} (ho:off+i.toNat * sz=o2):Y P n (.indexArr m sz x y) env h (.iptr cs o2):=fun K hk=>by
 subst ho
 simp only[vop,vIndexArr];rw[e2];refine⟨h0,hm,?_⟩;unfold vField;rw[e];exact hk
theorem y_lenS {x:VA} {es:List (List PV)} {m:Nat} (e:va env x=.sl es) (hm:SLen es m):Y P n (.len x) env h (.int .i64 m):=fun K hk=>by
 simp only[vop,vLen];rw[e];simp only[rd,hm.len];exact hk
theorem y_len0 {x:VA} (e:va env x=.nils):Y P n (.len x) env h (.int .i64 0):=fun K hk=>by
 simp only[vop,vLen];rw[e];exact hk
theorem y_lenR {x:VA} {id g sz:Nat} {es:List (List PV)} {fz:Bool} {m:Nat} (e:va env x=.row id g) (hg:vGet h id g=some (.row sz es fz)) (hm:SLen es m):Y P n (.len x) env h (.int .i64 m):=fun K hk=>by
 simp only[vop,vLen];rw[e];simp only[rd,hg,hm.len];exact hk
theorem y_lenV {x:VA} {id g off len:Nat} {cs:List PV} {fz:Bool} (e:va env x=.bview id g off len) (hg:vGet h id g=some (.box cs fz)) (hl:off+len≤cs.length):Y P n (.len x) env h (.int .i64 len):=fun K hk=>by
 simp only[vop,vLen];rw[e];simp only[rd,hg]
 have:(((cs.drop off).take len).map fun c=>[c]).length=len:=by simp;omega
 rw[this];exact hk
theorem y_lenStr {x:VA} {s:List UInt8} (e:va env x=.str s):Y P n (.lenStr x) env h (.int .i64 s.length):=fun K hk=>by
 simp only[vop,vLenStr];rw[e];exact hk
theorem y_sliceStr {x:VA} {lo hi:Option VA} {s:List UInt8} {l u:Nat} (e:va env x=.str s) (e1:bound (lo.map (va env)) 0=some l) (e2:bound (hi.map (va env)) s.length=some u) (h1:l≤u) (h2:u≤s.length):Y P n (.sliceStr x lo hi) env h (.str ((s.drop l).take (u - l))):=fun K hk=>by
 simp only[vop,vSliceStr];rw[e];simp only[e1,e2];exact⟨h1,h2,hk⟩
theorem y_slice {sz:Nat} {x:VA} {lo hi:Option VA} {es q:List (List PV)} {l u m:Nat} (e:va env x=.sl es) (hm:SLen es m) (e1:bound (lo.map (va env)) 0=some l) (e2:bound (hi.map (va env)) m=some u) (h1:l≤u) (h2:u≤m) (hs:∀ e,e∈es→e.length=sz) (hq:SCut es l (u - l) q):Y P n (.slice sz x lo hi) env h (.sl q):=fun K hk=>by
 have hm:=hm.len;subst hm
 have hq:=hq.cut;subst hq
 simp only[vop,vSlice];rw[e];simp only[e1,e2];exact⟨h1,h2,hs,hk⟩
theorem y_sliceArr {m sz:Nat} {x:VA} {lo hi:Option VA} {id g off:Nat} {cs:List PV} {fz:Bool} {l u:Nat} (e:va env x=.ptr id g off) (hg:vGet h id g=some (.box cs fz)) (e1:bound (lo.map (va env)) 0=some l) (e2:bound (hi.map (va env)) m=some u) (hs:sz=1) (h0:off+m≤cs.length) (h1:l≤u) (h2:u≤m) {o2 d2:Nat} (ho:off+l=o2) (hd:u - l=d2):Y P n (.sliceArr m sz x lo hi) env h (.bview id g o2 d2):=fun K hk=>by
 subst ho hd
 simp only[vop,vSliceArr];rw[e];simp only[hg,e1,e2];exact⟨hs,h0,h1,h2,hk⟩
theorem y_eqAgg {ks:List CK} {ne:Bool} {x y:VA} {cs ds:List PV} {b:Bool} (e:va env x=.agg cs) (e2:va env y=.agg ds) (hc:eqCells ks cs ds=some b):Y P n (.eqAgg ks ne x y) env h (.bool (if ne then !b else b)):=fun K hk=>by
 simp only[vop,vEqAgg];rw[e,e2];simp only[hc];exact hk
theorem y_minmax {mx:Bool} {x y:VA} {k:IntKind} {a b:Int} (e:va env x=.int k a) (e2:va env y=.int k b):Y P n (.minmax mx x y) env h (.int k (if mx then(if a<b then b else a) else(if b<a then b else a))):=fun K hk=>by
 simp only[vop,vMinMax];rw[e,e2];exact⟨rfl,hk⟩
theorem nilE {x y:VA} {es:List (List PV)} (e:va env x=.sl es) (e2:va env y=.nils) (k1:vrunOps P n K r (eput env d (.bool false)) h) (k2:es=[]→vrunOps P n K r (eput env d (.bool true)) h):vrunOps P n K (⟨d,.bin .eql .slice x y,none⟩::r) env h:=by
 simp only[vrunOps,vop,vBin];rw[e,e2];exact⟨trivial,k1,k2⟩
theorem y_nilsE {x y:VA} (e:va env x=.nils) (e2:va env y=.nils):Y P n (.bin .eql .slice x y) env h (.bool true):=fun K hk=>by
 simp only[vop,vBin];rw[e,e2];exact⟨trivial,hk⟩
theorem e_new {s g:Nat} {o0 o:VObj} {L':VHeap} {f:Nat→PV} {op:VOp} (hv:∀ K:KP,vNew (n+s) o (σ++L) (fun g σ=>K (f g) σ)→vop P n env (σ++L) K op) (hn:σ.length=n) (hg:L[s]?=some (g,o0)) (hL:L.set s (g+1,o)=L'):E P n op env (σ++L) (f (g+1)) (σ++L'):=fun K hk=>by
 refine hv K ?_
 unfold vNew
 rw[lraw hn hg]
 subst hL
 simp only[lset hn]
 exact hk
theorem e_alloc {s g:Nat} {zero:List PV} {o0:VObj} {L':VHeap} (hn:σ.length=n) (hg:L[s]?=some (g,o0)) (hL:L.set s (g+1,.box zero false)=L'):E P n (.alloc s zero) env (σ++L) (.ptr (n+s) (g+1) 0) (σ++L'):=
 e_new (f:=fun g=>.ptr (n+s) g 0) (fun _ h=>h) hn hg hL
theorem e_box {s g:Nat} {x:VA} {c:PV} {cs:List PV} {o0:VObj} {L':VHeap} (e:va env x=c) (hp:pcells c=cs) (hsc:cs.all scalar=true) (hn:σ.length=n) (hg:L[s]?=some (g,o0)) (hL:L.set s (g+1,.box cs false)=L'):E P n (.box s x) env (σ++L) (.ptr (n+s) (g+1) 0) (σ++L'):=
 e_new (f:=fun g=>.ptr (n+s) g 0) (fun _ h=>by subst e;subst hp;exact⟨hsc,h⟩) hn hg hL
theorem e_newRow {s sz g:Nat} {o0:VObj} {L':VHeap} (hn:σ.length=n) (hg:L[s]?=some (g,o0)) (hL:L.set s (g+1,.row sz [] false)=L'):E P n (.newRow s sz) env (σ++L) (.row (n+s) (g+1)) (σ++L'):=
 e_new (f:=fun g=>.row (n+s) g) (fun _ h=>h) hn hg hL
theorem e_buildSlice {s sz len g:Nat} {zero:List PV} {parts:List (Nat × VA)} {es:List (List PV)} {o0:VObj} {L':VHeap} (e:vFillRow sz (List.replicate len zero) (parts.map fun q=>(q.1,va env q.2))=some es) (hn:σ.length=n) (hg:L[s]?=some (g,o0)) (hL:L.set s (g+1,.row sz es false)=L'):E P n (.buildSlice s sz len zero parts) env (σ++L) (.row (n+s) (g+1)) (σ++L'):=
 e_new (f:=fun g=>.row (n+s) g) (fun _ h=>by simp only[vop,vBuildSlice];rw[e];exact h) hn hg hL
theorem e_s2b {s g:Nat} {x:VA} {t:List UInt8} {o0:VObj} {L':VHeap} (e:va env x=.str t) (hl:t.length≤9223372036854775807) (hn:σ.length=n) (hg:L[s]?=some (g,o0)) (hL:L.set s (g+1,.row 1 (bytesEs t) false)=L'):E P n (.s2b s x) env (σ++L) (.row (n+s) (g+1)) (σ++L'):=
 e_new (f:=fun g=>.row (n+s) g) (fun _ h=>by simp only[vop,vS2B];rw[e];exact⟨hl,h⟩) hn hg hL
theorem e_makeSlice {s sz by' g:Nat} {zero:List PV} {x y:VA} {k k':IntKind} {l c:Int} {o0:VObj} {L':VHeap} (e:va env x=.int k l) (e2:va env y=.int k' c) (h0:0≤l) (h1:l≤c) (h2:c * by'≤140737488355328) (h3:c≤140737488355328) (hn:σ.length=n) (hg:L[s]?=some (g,o0)) (hL:L.set s (g+1,.row sz (List.replicate l.toNat zero) false)=L'):E P n (.makeSlice s sz by' zero x y) env (σ++L) (.row (n+s) (g+1)) (σ++L'):=
 e_new (f:=fun g=>.row (n+s) g) (fun _ h=>by simp only[vop,vMakeSlice];rw[e,e2];exact⟨h0,h1,h2,h3,h⟩) hn hg hL
theorem e_clip {s sz g:Nat} {x:VA} {es:List (List PV)} {o0:VObj} {L':VHeap} (e:rd (σ++L) (va env x)=some es) (hn:σ.length=n) (hg:L[s]?=some (g,o0)) (hL:L.set s (g+1,.row sz [] false)=L'):E P n (.clip s sz x) env (σ++L) (.row (n+s) (g+1)) (σ++L'):=
 e_new (f:=fun g=>.row (n+s) g) (fun _ h=>⟨⟨es,e⟩,h⟩) hn hg hL
theorem e_rangeStr {s g:Nat} {x:VA} {t:List UInt8} {o0:VObj} {L':VHeap} (e:va env x=.str t) (hn:σ.length=n) (hg:L[s]?=some (g,o0)) (hL:L.set s (g+1,.siter t 0)=L'):E P n (.rangeStr s x) env (σ++L) (.iter (n+s) (g+1)) (σ++L'):=
 e_new (f:=fun g=>.iter (n+s) g) (fun _ h=>by simp only[vop,vRangeStr];rw[e];exact h) hn hg hL
theorem e_storeL {sz:Nat} {x y:VA} {k g off:Nat} {cs cs' ds:List PV} {c:PV} {L':VHeap} (e:va env x=.ptr (n+k) g off) (e2:va env y=c) (hp:pcells c=ds) (hl:ds.length=sz) (hsc:ds.all scalar=true) (hn:σ.length=n) (hg:vGet L k g=some (.box cs false)) (hle:off+sz≤cs.length) (hs:splice cs off ds=cs') (hL:L.set k (g,.box cs' false)=L'):E P n (.store sz x y) env (σ++L) .undef (σ++L'):=fun K hk=>by
 subst e2;subst hp;subst hs;subst hL
 simp only[vop,vStore]
 refine⟨hl,hsc,?_⟩
 rw[e];simp only[lget hn hg,lset hn];exact⟨hle,hk⟩
theorem e_storeO {sz:Nat} {x y:VA} {id g off:Nat} {cs cs' ds:List PV} {c:PV} (e:va env x=.ptr id g off) (e2:va env y=c) (hp:pcells c=ds) (hl:ds.length=sz) (hsc:ds.all scalar=true) (hg:vGet σ id g=some (.box cs false)) (hle:off+sz≤cs.length) (hs:splice cs off ds=cs'):E P n (.store sz x y) env (σ++L) .undef (σ.set id (g,.box cs' false)++L):=fun K hk=>by
 subst e2;subst hp;subst hs
 simp only[vop,vStore]
 refine⟨hl,hsc,?_⟩
 rw[e];simp only[oget hg,oset _ (vGet_lt hg)];exact⟨hle,hk⟩
theorem e_storeR {sz s:Nat} {x y:VA} {k g i off:Nat} {es:List (List PV)} {c0 ds:List PV} {c:PV} {L':VHeap} (e:va env x=.rptr (n+k) g i off) (e2:va env y=c) (hp:pcells c=ds) (hl:ds.length=sz) (hsc:ds.all scalar=true) (hn:σ.length=n) (hg:vGet L k g=some (.row s es false)) (hi:es[i]?=some c0) (hle:off+sz≤c0.length) (hL:L.set k (g,.row s (es.set i (splice c0 off ds)) false)=L'):E P n (.store sz x y) env (σ++L) .undef (σ++L'):=fun K hk=>by
 subst e2;subst hp;subst hL
 simp only[vop,vStore]
 refine⟨hl,hsc,?_⟩
 rw[e];simp only[lget hn hg,lset hn,hi];exact⟨hle,hk⟩
theorem e_append {s sz by':Nat} {x y:VA} {k g:Nat} {es new q:List (List PV)} {fz:Bool} {L':VHeap} (e:va env x=.row (n+k) g) (e2:rdA (σ++L) (va env y)=some new) (hok:RowOk sz new) (hn:σ.length=n) (hg:vGet L k g=some (.row sz es fz)) (hb:(es.length+new.length) * by'≤140737488355328) (hq:SApp es new q) (hL:L.set k (g+1,.row sz q fz)=L'):E P n (.append s sz by' x y) env (σ++L) (.row (n+k) (g+1)) (σ++L'):=fun K hk=>by
 subst hL
 have hq:=hq.app;subst hq
 simp only[vop,vAppend];rw[e2];refine⟨hok,?_⟩
 rw[e];simp only[own,lget hn hg,lset hn];exact⟨trivial,hb,hk⟩
theorem e_appendS {s sz by':Nat} {x y:VA} {k g:Nat} {es0:List (List PV)} {es new q:List (List PV)} {fz:Bool} {L':VHeap} (e:va env x=.slr es0 (n+k) g) (e2:rdA (σ++L) (va env y)=some new) (hok:RowOk sz new) (hn:σ.length=n) (hg:vGet L k g=some (.row sz es fz)) (hb:(es.length+new.length) * by'≤140737488355328) (hq:SApp es new q) (hL:L.set k (g+1,.row sz q fz)=L'):E P n (.append s sz by' x y) env (σ++L) (.row (n+k) (g+1)) (σ++L'):=fun K hk=>by
 subst hL
 have hq:=hq.app;subst hq
 simp only[vop,vAppend];rw[e2];refine⟨hok,?_⟩
 rw[e];simp only[own,lget hn hg,lset hn];exact⟨trivial,hb,hk⟩
theorem e_append0 {s sz by':Nat} {x y:VA} {g:Nat} {new:List (List PV)} {o0:VObj} {L':VHeap} (e:va env x=.nils) (e2:rdA (σ++L) (va env y)=some new) (hok:RowOk sz new) (hb:new.length * by'≤140737488355328) (hn:σ.length=n) (hg:L[s]?=some (g,o0)) (hL:L.set s (g+1,.row sz new false)=L'):E P n (.append s sz by' x y) env (σ++L) (.row (n+s) (g+1)) (σ++L'):=
 e_new (f:=fun g=>.row (n+s) g) (fun _ h=>by simp only[vop,vAppend];rw[e2];refine⟨hok,?_⟩;rw[e];exact⟨hb,h⟩) hn hg hL
theorem e_snap {sz:Nat} {x:VA} {k g:Nat} {es:List (List PV)} {fz:Bool} {L':VHeap} (e:va env x=.row (n+k) g) (hn:σ.length=n) (hg:L[k]?=some (g,.row sz es fz)) (hL:frzId L k=L'):E P n (.snap x) env (σ++L) (.slr es (n+k) g) (σ++L'):=fun K hk=>by
 subst hL
 simp only[vop,vSnap];rw[e];simp only[lraw hn hg,frzId_part hn];exact⟨trivial,hk⟩
theorem e_copyV {sz:Nat} {x y:VA} {k g off len:Nat} {cs cs':List PV} {new:List (List PV)} {L':VHeap} (e:va env x=.bview (n+k) g off len) (e2:rdA (σ++L) (va env y)=some new) (hok:RowOk sz new) (hn:σ.length=n) (hg:vGet L k g=some (.box cs false)) (hsz:sz=1) (hle:off+len≤cs.length) (hs:splice cs off ((new.take len).flatten)=cs') (hL:L.set k (g,.box cs' false)=L'):E P n (.copyTo sz x y) env (σ++L) (.int .i64 (min new.length len:Nat)) (σ++L'):=fun K hk=>by
 subst hL;subst hs
 simp only[vop,vCopyTo];rw[e2];refine⟨hok,?_⟩
 rw[e];simp only[lget hn hg,lset hn];exact⟨hsz,hle,hk⟩
theorem e_copyR {sz:Nat} {x y:VA} {k g:Nat} {es new:List (List PV)} {L':VHeap} (e:va env x=.row (n+k) g) (e2:rdA (σ++L) (va env y)=some new) (hok:RowOk sz new) (hn:σ.length=n) (hg:vGet L k g=some (.row sz es false)) (hL:L.set k (g,.row sz (ovl es 0 es.length new) false)=L'):E P n (.copyTo sz x y) env (σ++L) (.int .i64 (min new.length es.length:Nat)) (σ++L'):=fun K hk=>by
 subst hL
 simp only[vop,vCopyTo];rw[e2];refine⟨hok,?_⟩
 rw[e];simp only[lget hn hg,lset hn];exact⟨trivial,hk⟩
theorem e_copyW {sz:Nat} {x y:VA} {k g lo len:Nat} {es new:List (List PV)} {L':VHeap} (e:va env x=.rview (n+k) g lo len) (e2:rdA (σ++L) (va env y)=some new) (hok:RowOk sz new) (hn:σ.length=n) (hg:vGet L k g=some (.row sz es false)) (hle:lo+len≤es.length) (hL:L.set k (g,.row sz (ovl es lo len new) false)=L'):E P n (.copyTo sz x y) env (σ++L) (.int .i64 (min new.length len:Nat)) (σ++L'):=fun K hk=>by
 subst hL
 simp only[vop,vCopyTo];rw[e2];refine⟨hok,?_⟩
 rw[e];simp only[lget hn hg,lset hn];exact⟨trivial,hle,hk⟩
theorem y_sliceV {sz:Nat} {x:VA} {lo hi:Option VA} {id g:Nat} {es:List (List PV)} {fz:Bool} {l u:Nat} (e:va env x=.row id g) (hg:vGet h id g=some (.row sz es fz)) (e1:bound (lo.map (va env)) 0=some l) (e2:bound (hi.map (va env)) es.length=some u) (h1:l≤u) (h2:u≤es.length):Y P n (.sliceV sz x lo hi) env h (.rview id g l (u - l)):=fun K hk=>by
 simp only[vop,vSliceV];rw[e];simp only[hg,e1,e2];exact⟨trivial,h1,h2,hk⟩
theorem e_sliceR {sz:Nat} {x:VA} {lo hi:Option VA} {k g:Nat} {es q:List (List PV)} {fz:Bool} {l u m:Nat} {L':VHeap} (e:va env x=.row (n+k) g) (hn:σ.length=n) (hg:vGet L k g=some (.row sz es fz)) (hm:SLen es m) (e1:bound (lo.map (va env)) 0=some l) (e2:bound (hi.map (va env)) m=some u) (h1:l≤u) (h2:u≤m) (hq:SCut es l (u - l) q) (hL:frzId L k=L'):E P n (.slice sz x lo hi) env (σ++L) (.sl q) (σ++L'):=fun K hk=>by
 subst hL
 have hm:=hm.len;subst hm
 have hq:=hq.cut;subst hq
 simp only[vop,vSlice];rw[e];simp only[lget hn hg,e1,e2,frzId_part hn];exact⟨trivial,h1,h2,hk⟩
theorem e_nextStr {x:VA} {k g pos:Nat} {t:List UInt8} {L':VHeap} (e:va env x=.iter (n+k) g) (hn:σ.length=n) (hg:vGet L k g=some (.siter t pos)) (hp:pos<t.length) (hL:L.set k (g,.siter t (pos+(Utf8.decode ⟨t.toArray⟩ pos).2))=L'):E P n (.nextStr x) env (σ++L) (.tup [.bool true,.int .i64 pos,.int .i32 (Utf8.decode ⟨t.toArray⟩ pos).1]) (σ++L'):=fun K hk=>by
 subst hL
 simp only[vop,vNextStr];rw[e];simp only[lget hn hg,lset hn,hp,if_true];exact hk
theorem y_nextStrE {x:VA} {k g pos:Nat} {t:List UInt8} (e:va env x=.iter (n+k) g) (hn:σ.length=n) (hg:vGet L k g=some (.siter t pos)) (hp:¬ pos<t.length):Y P n (.nextStr x) env (σ++L) (.tup [.bool false]):=fun K hk=>by
 simp only[vop,vNextStr];rw[e];simp only[lget hn hg,hp,if_false];exact hk
variable {Q:QP} {x y:VC}
theorem sc_seq (k:vrun P n x env h (Q.then fun env h=>vrun P n y env h Q)):vrun P n (.seq x y) env h Q:=k
theorem sc_region {ops:List VO} (k:vrunOps P n (fun env h=>Q .normal env h) ops env h):vrun P n (.region ops) env h Q:=k
theorem sc_condT {c:VA} (e:va env c=.bool true) (k:vrun P n x env h Q):vrun P n (.cond c x y) env h Q:=by simp only[vrun];rw[e];exact k
theorem sc_condF {c:VA} (e:va env c=.bool false) (k:vrun P n y env h Q):vrun P n (.cond c x y) env h Q:=by simp only[vrun];rw[e];exact k
theorem cb {c:VA} {b:Bool} (e:va env c=.bool b) (k1:b=true→vrun P n x env h Q) (k2:b=false→vrun P n y env h Q):vrun P n (.cond c x y) env h Q:=by
 cases b
 ·exact sc_condF e (k2 rfl)
 ·exact sc_condT e (k1 rfl)
theorem sc_block {id:Nat} (k:vrun P n x env h (Q.block id)):vrun P n (.block id x) env h Q:=k
theorem sc_skip (k:Q .normal env h):vrun P n .skip env h Q:=k
theorem sc_exit {id:Nat} (k:Q (.exit id) env h):vrun P n (.exit id) env h Q:=k
theorem sc_ret (k:Q .ret env h):vrun P n .ret env h Q:=k
theorem sv_nil {J:VHeap→Prop} (k:K env h):vseq P n J K [] env h:=k
theorem sv_1 {J:VHeap→Prop} {o:VO} {r:List (Nat × VO)} (y:YO P n o env h v) (k:vseq P n J K r (eput env o.dst v) h):vseq P n J K ((1,o)::r) env h:=⟨v,y,k⟩
theorem sv_2 {J:VHeap→Prop} {o:VO} {r:List (Nat × VO)} (y:∀ h,J h→YO P n o env h v) (k:vseq P n J K r (eput env o.dst v) h):vseq P n J K ((2,o)::r) env h:=⟨v,y,k⟩
theorem sv1n {J:VHeap→Prop} {op:VOp} {r:List (Nat × VO)} (y:Y P n op env h v) (k:vseq P n J K r (eput env d v) h):vseq P n J K ((1,⟨d,op,none⟩)::r) env h:=sv_1 (yn y) k
theorem sv1t {J:VHeap→Prop} {op:VOp} {s:Nat} {b:Bool} {r:List (Nat × VO)} (hg:env s=.bool b) (y:Y P n op env h v) (k:vseq P n J K r (eput env d v) h):vseq P n J K ((1,⟨d,op,some (s,b)⟩)::r) env h:=sv_1 (yt hg y) k
theorem sv1f {J:VHeap→Prop} {op:VOp} {s:Nat} {b:Bool} {r:List (Nat × VO)} (hg:env s=.bool (!b)) (k:vseq P n J K r (eput env d (.tup [])) h):vseq P n J K ((1,⟨d,op,some (s,b)⟩)::r) env h:=sv_1 (yf hg) k
theorem sv1u {J:VHeap→Prop} {op:VOp} {s:Nat} {b:Bool} {r:List (Nat × VO)} (hg:env s=.tup []) (k:vseq P n J K r (eput env d (.tup [])) h):vseq P n J K ((1,⟨d,op,some (s,b)⟩)::r) env h:=sv_1 (yu hg) k
theorem sv2n {J:VHeap→Prop} {op:VOp} {r:List (Nat × VO)} (y:∀ h,J h→Y P n op env h v) (k:vseq P n J K r (eput env d v) h):vseq P n J K ((2,⟨d,op,none⟩)::r) env h:=sv_2 (fun h j=>yn (y h j)) k
theorem sv2t {J:VHeap→Prop} {op:VOp} {s:Nat} {b:Bool} {r:List (Nat × VO)} (hg:env s=.bool b) (y:∀ h,J h→Y P n op env h v) (k:vseq P n J K r (eput env d v) h):vseq P n J K ((2,⟨d,op,some (s,b)⟩)::r) env h:=sv_2 (fun h j=>yt hg (y h j)) k
theorem sv2f {J:VHeap→Prop} {op:VOp} {s:Nat} {b:Bool} {r:List (Nat × VO)} (hg:env s=.bool (!b)) (k:vseq P n J K r (eput env d (.tup [])) h):vseq P n J K ((2,⟨d,op,some (s,b)⟩)::r) env h:=sv_2 (fun _ _=>yf hg) k
theorem sv2u {J:VHeap→Prop} {op:VOp} {s:Nat} {b:Bool} {r:List (Nat × VO)} (hg:env s=.tup []) (k:vseq P n J K r (eput env d (.tup [])) h):vseq P n J K ((2,⟨d,op,some (s,b)⟩)::r) env h:=sv_2 (fun _ _=>yu hg) k
theorem sv_0 {J:VHeap→Prop} {o:VO} {r:List (Nat × VO)} (k:vrunOps P n (fun e s=>J s∧vseq P n J K r e s) [o] env h):vseq P n J K ((0,o)::r) env h:=k
theorem st_end (k:K env h):vrunOps P n K [] env h:=k
end
section
variable {P:Program} {n:Nat} {env:Env} {σ L h:VHeap} {v:PV}
theorem ret_p {vf:VFun} {Post:KP} {e:VE} (he:e=.ret∨e=.normal) (hr:vf.raw=false) (hv:rvAll env (σ++L) vf.results=some v) (hp:Pl v) (hb:bel n v) (hn:σ.length=n) (hB:belH n σ) (k:Post v σ):vend vf (TrimP n Post) e env (σ++L):=by
 have:vret vf.raw (rvAll env (σ++L) vf.results) (σ++L) (TrimP n Post):=by
  rw[hv,hr]
  simp only[vret,Bool.false_eq_true,if_false]
  rw[hp.pl.1]
  refine⟨σ,L,?_,hn,hb,hB,k⟩
  unfold frz;rw[hp.pl.2];rfl
 rcases he with rfl|rfl<;>exact this
theorem ret_a {vf:VFun} {Post:KP} {e:VE} {v':PV} {L':VHeap} (he:e=.ret∨e=.normal) (hr:vf.raw=false) (hv:rvAll env (σ++L) vf.results=some v) (hi:InlA n L L [v] [v'] L') (hb:bel n v') (hn:σ.length=n) (hB:belH n σ) (k:Post v' σ):vend vf (TrimP n Post) e env (σ++L):=by
 obtain⟨e1,e2⟩:=hi.ok hn
 have:vret vf.raw (rvAll env (σ++L) vf.results) (σ++L) (TrimP n Post):=by
  rw[hv,hr]
  simp only[vret,Bool.false_eq_true,if_false]
  rw[inlL,inlL] at e1
  rw[refsL,refsL,List.append_nil] at e2
  rw[List.cons.injEq] at e1
  rw[e1.1]
  exact⟨σ,L',e2,hn,hb,hB,k⟩
 rcases he with rfl|rfl<;>exact this
theorem ret_t {vf:VFun} {Post:KP} {e:VE} {xs vs:List PV} {L':VHeap} (he:e=.ret∨e=.normal) (hr:vf.raw=false) (hv:rvAll env (σ++L) vf.results=some (.tup xs)) (hi:InlA n L L xs vs L') (hb:belL n vs) (hn:σ.length=n) (hB:belH n σ) (k:Post (.tup vs) σ):vend vf (TrimP n Post) e env (σ++L):=by
 obtain⟨e1,e2⟩:=hi.ok hn
 have:vret vf.raw (rvAll env (σ++L) vf.results) (σ++L) (TrimP n Post):=by
  rw[hv,hr]
  simp only[vret,Bool.false_eq_true,if_false]
  rw[inl,e1]
  exact⟨σ,L',e2,hn,hb,hB,k⟩
 rcases he with rfl|rfl<;>exact this
theorem ret_n {vf:VFun} {Post:KP} {e:VE} (he:e=.ret∨e=.normal) (hr:vf.raw=false) (hv:rvAll env h vf.results=some v) (hp:Pl v) (k:Post v h):vend vf Post e env h:=by
 have hk:vret vf.raw (rvAll env h vf.results) h Post:=by
  rw[hv,hr]
  simp only[vret,Bool.false_eq_true,if_false]
  have h1:inl h v=v:=hp.pl.1 h
  have h2:refs v=[]:=hp.pl.2
  rw[h1,frz,h2]
  exact k
 rcases he with rfl|rfl<;>exact hk
theorem ret_raw {vf:VFun} {Post:KP} {e:VE} (he:e=.ret∨e=.normal) (hr:vf.raw=true) (hv:rvAll env h vf.results=some v) (k:Post v h):vend vf Post e env h:=by
 have:vret vf.raw (rvAll env h vf.results) h Post:=by rw[hv,hr];exact k
 rcases he with rfl|rfl<;>exact this
theorem T.walk [Glob] {f:FuncId} {fn:Func} {raw:FuncId→Bool} {rw':Bool} {vf:VFun} {args:List PV} {Post:KP} {L0:VHeap} (hf:P.funcs[f]?=some fn) (hc:cFun P raw rw' fn=some vf) (hl:args.length≤vf.ntmps) (hL:vdead vf.nsites=L0)
  (hh:belH σ.length σ→(∀ c,c∈args→bel σ.length c)→vrun P σ.length vf.body (argsEnv args) (σ++L0) (vend vf (TrimP σ.length Post))):T P f args σ Post:=
 T.start fun hB hA=>T_of hf hc ⟨hl,by rw[hL];exact hh hB hA⟩
theorem T.walkR [Glob] {f:FuncId} {fn:Func} {raw:FuncId→Bool} {rw':Bool} {vf:VFun} {args:List PV} {Post:KP} {L0:VHeap} (hf:P.funcs[f]?=some fn) (hc:cFun P raw rw' fn=some vf) (hl:args.length≤vf.ntmps) (hL:vdead vf.nsites=L0)
  (hh:vrun P σ.length vf.body (argsEnv args) (σ++L0) (vend vf Post)):T P f args σ Post:=
 T_of hf hc ⟨hl,by rw[hL];exact hh⟩
end
def autoX [Glob] (P:Program) (raw:FuncId→Bool) (b:Bool) (fn:Func):VFun:=match cFun P raw b fn with|some v=>v|none=>⟨0,0,.skip,[],false⟩
structure Held (v:VFun):Prop where
 t:True
@[reducible] def Held.get {v:VFun} (_:Held v):VFun:=v
theorem hold [Glob] (P:Program) (raw:FuncId→Bool) (b:Bool) (fn:Func):Held (autoX P raw b fn):=⟨trivial⟩
theorem u8n (n:Nat) (h:n<2 ^ 8):UInt8.ofBitVec (BitVec.ofFin ⟨n,h⟩)=UInt8.ofNat n:=by apply UInt8.toNat_inj.1;simp;exact(Nat.mod_eq_of_lt h).symm
end Go.V
