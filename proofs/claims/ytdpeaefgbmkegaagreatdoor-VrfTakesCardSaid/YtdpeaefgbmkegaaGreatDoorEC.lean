/- Orders that are open, where several effects may come next: a tree of orders. -/
import Derived.Test.YtdpeaefgbmkegaaGreatDoorEB
set_option maxHeartbeats 4000000
namespace Go.V
open Go
inductive OT where
 | fin (pre:List (Nat × Nat))
 | br (pre:List (Nat × Nat)) (i:Nat) (r more:OT)
 | stop
def OT.effs:OT→List Nat
 | .br _ i r m=>i::(r.effs++m.effs)
 | _=>[]
def OT.heads:OT→List Nat
 | .br _ i _ m=>i::m.heads
 | _=>[]
def OT.depth:OT→Nat
 | .fin pre=>pre.length
 | .br pre _ r _=>pre.length+(r.depth+1)
 | .stop=>0
def lst (pre:List (Nat × Nat)) (l:List Nat):List Nat:=pre.foldl (fun l x=>x.2::l) l
def okPre (ops:List (VO × List Nat)) (B E:List Nat):List (Nat × Nat)→List Nat→Bool
 | [],_=>true
 | (k,i)::r,l=>(match ops[i]? with
   | some q=>!(Nat.beq k 0)&&memN (vready ops l) i&&okTake ops B i q.1&&!memN E i&&(!(Nat.beq k 1)||E.all fun e=>anc B e i)
   | none=>false)&&okPre ops B E r (i::l)
def okT2 (ops:List (VO × List Nat)) (B:List Nat):OT→(List Nat→Bool) × (List Nat→Nat→Bool)
 | .fin pre=>(fun l=>okPre ops B [] pre l&&(vready ops (lst pre l)).isEmpty,fun _ _=>false)
 | .br pre i r m=>(fun l=>okPre ops B (OT.br pre i r m).effs pre l&&(vready ops (lst pre l)).all (memN (i::m.heads))&&memN (vready ops (lst pre l)) i&&(okT2 ops B r).1 (i::lst pre l)&&(okT2 ops B m).2 (lst pre l) r.depth,
   fun l d=>memN (vready ops l) i&&(okT2 ops B r).1 (i::l)&&Nat.beq r.depth d&&(okT2 ops B m).2 l d)
 | .stop=>(fun _=>false,fun _ _=>true)
def opAt (ops:List (VO × List Nat)) (i:Nat):VO:=match ops[i]? with|some q=>q.1|none=>default
section
variable {P:Program} {n:Nat} {J:VHeap→Prop} {K:Env→VHeap→Prop} {ops:List (VO × List Nat)}
def vta [Glob] (P:Program) (n:Nat) (J:VHeap→Prop) (K:Env→VHeap→Prop) (ops:List (VO × List Nat)):OT→(Env→VHeap→Prop) × (Env→VHeap→Prop)
 | .fin pre=>(vseq P n J K (ordOps ops pre),fun _ _=>False)
 | .br pre i r m=>(vseq P n J (fun e s=>vrunOps P n (fun e s=>J s∧(vta P n J K ops r).1 e s) [opAt ops i] e s∧(vta P n J K ops m).2 e s) (ordOps ops pre),
   fun e s=>vrunOps P n (fun e s=>J s∧(vta P n J K ops r).1 e s) [opAt ops i] e s∧(vta P n J K ops m).2 e s)
 | .stop=>(fun _ _=>False,fun _ _=>True)
theorem okT_effs {B:List Nat}:∀ (T:OT),(∀ l,(okT2 ops B T).1 l=true→∀ e,e∈T.effs→e ∉ l)∧∀ l d,(okT2 ops B T).2 l d=true→∀ e,e∈T.effs→e ∉ l
 | .fin _=>⟨fun _ _ _ h=>by simp[OT.effs] at h,fun _ _ h=>by simp[okT2] at h⟩
 | .stop=>⟨fun _ h=>by simp[okT2] at h,fun _ _ _ _ h=>by simp[OT.effs] at h⟩
 | .br pre i r m=>by
   have lstSub:∀ (pre:List (Nat × Nat)) (l:List Nat) (x:Nat),x∈l→x∈lst pre l:=by
    intro pre
    induction pre with
    | nil=>intro l x h;exact h
    | cons a q ih=>intro l x h;exact ih _ x (List.mem_cons_of_mem _ h)
   have key:∀ (l:List Nat) (d:Nat),memN (vready ops l) i=true→(okT2 ops B r).1 (i::l)=true→(okT2 ops B m).2 l d=true→∀ e,e∈(OT.br pre i r m).effs→e ∉ l:=by
    intro l d h1 h2 h3 e he
    rcases List.mem_cons.1 he with rfl|he
    ·exact(mem_vready.1 (memN_iff.1 h1)).1
    ·rcases List.mem_append.1 he with he|he
     ·exact fun hl=>(okT_effs r).1 _ h2 e he (List.mem_cons_of_mem _ hl)
     ·exact(okT_effs m).2 _ _ h3 e he
   refine⟨fun l h e he hl=>?_,fun l d h=>?_⟩
   ·simp only[okT2,Bool.and_eq_true] at h
    exact key (lst pre l) _ h.1.1.2 h.1.2 h.2 e he (lstSub pre l e hl)
   ·simp only[okT2,Bool.and_eq_true] at h
    exact key l d h.1.1.1 h.1.1.2 h.2
theorem pre_ok [Glob] {B E:List Nat} (hB:befs (ops.map (·.2)) []=B) {K':Env→VHeap→Prop} {m:Nat}:∀ (pre:List (Nat × Nat)) (l:List Nat) (env:Env) (h:VHeap),okPre ops B E pre l=true→shut ops l→J h→vseq P n J K' (ordOps ops pre) env h→(∀ e,e∈E→e ∉ l)→
  (∀ env',shut ops (lst pre l)→K' env' h→(∀ e,e∈E→e ∉ lst pre l)→vanyE P n J E h K ops m (lst pre l) env' h)→vanyE P n J E h K ops (pre.length+m) l env h
 | [],l,env,h,_,hs,_,hv,hE,k=>by rw[List.length_nil,Nat.zero_add];exact k env hs hv hE
 | (k,i)::r,l,env,h,hok,hs,hJ,hv,hE,kk=>by
   simp only[okPre,Bool.and_eq_true] at hok
   obtain⟨h1,hok⟩:=hok
   cases hq:ops[i]? with
   | none=>rw[hq] at h1;cases h1
   | some q=>
     rw[hq] at h1
     simp only[Bool.and_eq_true] at h1
     obtain⟨⟨⟨⟨a0,a1⟩,a2⟩,a3⟩,a4⟩:=h1
     have b2:=memN_iff.1 a1
     have b3:i ∉ E:=fun hm=>by rw[memN_iff.2 hm] at a3;simp at a3
     have b4:∀ j qj,ops[j]?=some qj→j≠i→anc B j i=true∨anc B i j=true∨apartO q.1 qj.1=true:=by
      intro j qj hqj hji
      unfold okTake at a2
      rw[List.all_eq_true] at a2
      have:=a2 j (List.mem_range.2 (List.getElem?_eq_some_iff.1 hqj).1)
      simp only[Bool.or_eq_true,hqj] at this
      rcases this with ((h|h)|h)|h
      ·exact(hji (Nat.eq_of_beq_eq_true h)).elim
      ·exact .inl h
      ·exact .inr (.inl h)
      ·exact .inr (.inr h)
     have hE2:∀ e,e∈E→e ∉ i::l:=fun e he=>by rw[List.mem_cons,not_or];exact⟨fun e2=>b3 (e2▸he),hE e he⟩
     have fu:((k,i)::r).length+m=(r.length+m)+1:=by rw[List.length_cons];omega
     rw[fu]
     simp only[ordOps,List.map_cons,hq] at hv
     match k with
     | 0=>simp at a0
     | 1=>
       obtain⟨v,hy,hv⟩:=hv
       have hanc:∀ e,e∈E→anc B e i=true:=by
        simp only[Nat.beq_refl,Bool.not_true,Bool.false_or,List.all_eq_true] at a4
        exact a4
       exact take (env:=env) hB hq b4 b3 (.inl hanc) (r.length+m) l env h hs b2 (fun _ _=>rfl) hy (.inl hE) (pre_ok hB r (i::l) _ h hok (shut_cons hs b2) hJ hv hE2 kk)
     | k+2=>
       obtain⟨v,hy,hv⟩:=hv
       exact take (env:=env) hB hq b4 b3 (.inr hy) (r.length+m) l env h hs b2 (fun _ _=>rfl) (hy h hJ) (.inr hy) (pre_ok hB r (i::l) _ h hok (shut_cons hs b2) hJ hv hE2 kk)
theorem vta_ok [Glob] {B:List Nat} (hB:befs (ops.map (·.2)) []=B):∀ (T:OT),
  (∀ (l:List Nat) (env:Env) (h:VHeap),(okT2 ops B T).1 l=true→shut ops l→J h→(vta P n J K ops T).1 env h→vanyE P n J T.effs h K ops T.depth l env h)∧
  (∀ (l:List Nat) (d:Nat) (env:Env) (h h0:VHeap) (E:List Nat),(okT2 ops B T).2 l d=true→shut ops l→(vta P n J K ops T).2 env h→(∀ i,i∈T.heads→i∈E)→∀ i q,i∈T.heads→ops[i]?=some q→vrunOps P n (vanyE P n J E h0 K ops d (i::l)) [q.1] env h)
 | .fin pre=>⟨fun l env h hok hs hJ hv=>by
   simp only[okT2,Bool.and_eq_true] at hok
   have:=pre_ok (m:=0) (E:=[]) (K':=K) hB pre l env h hok.1 hs hJ hv (fun e he=>by simp at he) fun env' _ hk _=>⟨⟨hJ,fun _=>rfl⟩,List.isEmpty_iff.1 hok.2,hk⟩
   exact this,fun _ _ _ _ _ _ h=>by simp[okT2] at h⟩
 | .stop=>⟨fun _ _ _ h=>by simp[okT2] at h,fun _ _ _ _ _ _ _ _ _ _ i q h=>by simp[OT.heads] at h⟩
 | .br pre i r m=>by
   have branch:∀ (l:List Nat) (env:Env) (h h0:VHeap) (E:List Nat) (q:VO × List Nat),memN (vready ops l) i=true→(okT2 ops B r).1 (i::l)=true→shut ops l→i∈E→ops[i]?=some q→
     vrunOps P n (fun e s=>J s∧(vta P n J K ops r).1 e s) [opAt ops i] env h→vrunOps P n (vanyE P n J E h0 K ops r.depth (i::l)) [q.1] env h:=by
    intro l env h h0 E q h1 h2 hs hiE hq hv
    have e:opAt ops i=q.1:=by unfold opAt;rw[hq]
    rw[e] at hv
    refine vrunOps_mono (fun e s hh=>?_) _ _ _ hv
    exact vanyE.sw hiE _ _ _ _ List.mem_cons_self ((vta_ok hB r).1 (i::l) e s h2 (shut_cons hs (memN_iff.1 h1)) hh.1 hh.2)
   refine⟨fun l env h hok hs hJ hv=>?_,fun l d env h h0 E hok hs hv hE j q hj hq=>?_⟩
   ·have hok':=hok
    simp only[okT2,Bool.and_eq_true] at hok
    obtain⟨⟨⟨⟨o1,o2⟩,o3⟩,o4⟩,o5⟩:=hok
    refine pre_ok (m:=r.depth+1) hB pre l env h o1 hs hJ hv ((okT_effs (OT.br pre i r m)).1 l hok') fun env' hs' hk hE'=>?_
    refine⟨⟨hJ,fun _=>rfl⟩,fun e=>?_,fun j q hj hq=>?_⟩
    ·have:=memN_iff.1 o3
     rw[e] at this;simp at this
    ·have hin:=memN_iff.1 (List.all_eq_true.1 o2 j hj)
     rcases List.mem_cons.1 hin with rfl|hin
     ·exact branch _ _ _ _ _ q o3 o4 hs' (by simp[OT.effs]) hq hk.1
     ·refine(vta_ok hB m).2 _ _ _ _ _ _ o5 hs' hk.2 (fun x hx=>?_) j q hin hq
      have sub:∀ T:OT,∀ x,x∈T.heads→x∈T.effs:=by
       intro T
       induction T with
       | fin _=>intro x hx;simp[OT.heads] at hx
       | stop=>intro x hx;simp[OT.heads] at hx
       | br _ i r m _ ih=>
         intro x hx
         rcases List.mem_cons.1 hx with rfl|hx
         ·simp[OT.effs]
         ·simp[OT.effs,ih x hx]
      simp[OT.effs,sub m x hx]
   ·simp only[okT2,Bool.and_eq_true] at hok
    obtain⟨⟨⟨o1,o2⟩,o3⟩,o4⟩:=hok
    have o3:=Nat.eq_of_beq_eq_true o3
    rcases List.mem_cons.1 hj with rfl|hj
    ·rw[← o3];exact branch _ _ _ _ _ q o1 o2 hs (hE _ (by simp[OT.heads])) hq hv.1
    ·exact(vta_ok hB m).2 _ _ _ _ _ _ o4 hs hv.2 (fun x hx=>hE x (List.mem_cons_of_mem _ hx)) j q hj hq
def okTree (ops:List (VO × List Nat)) (T:OT) (B:List Nat):Bool:=(okT2 ops B T).1 []&&Nat.beq ops.length T.depth
theorem drTree [Glob] {B:List Nat} {ord':List (Nat × Nat)} {env:Env} {h:VHeap} (J:VHeap→Prop) (T:OT) {Q:QP} (hB:befs (ops.map (·.2)) []=B) (hok:okTree ops T B=true) (hJ:J h) (hv:(vta P n J (fun e s=>Q .normal e s) ops T).1 env h):vrun P n (.dreg ops ord' B) env h Q:=by
 show vany P n _ ops ops.length [] env h
 unfold okTree at hok
 rw[Bool.and_eq_true] at hok
 rw[Nat.eq_of_beq_eq_true hok.2]
 exact vanyE.any _ _ _ _ ((vta_ok hB T).1 [] env h hok.1 (fun i q hi=>by simp at hi) hJ hv)
theorem vt_fin [Glob] {pre:List (Nat × Nat)} {l:List (Nat × VO)} {env:Env} {h:VHeap} (hl:ordOps ops pre=l) (k:vseq P n J K l env h):(vta P n J K ops (.fin pre)).1 env h:=by subst hl;exact k
theorem vt_br [Glob] {pre:List (Nat × Nat)} {i:Nat} {r m:OT} {l:List (Nat × VO)} {env:Env} {h:VHeap} (hl:ordOps ops pre=l) (k:vseq P n J (fun e s=>(vta P n J K ops (.br pre i r m)).2 e s) l env h):(vta P n J K ops (.br pre i r m)).1 env h:=by subst hl;exact k
theorem va_br [Glob] {pre:List (Nat × Nat)} {i:Nat} {r m:OT} {o:VO} {as:List Nat} {env:Env} {h:VHeap} (hi:ops[i]?=some (o,as)) (k1:vrunOps P n (fun e s=>J s∧(vta P n J K ops r).1 e s) [o] env h) (k2:(vta P n J K ops m).2 env h):(vta P n J K ops (.br pre i r m)).2 env h:=by
 have e:opAt ops i=o:=by unfold opAt;rw[hi]
 refine⟨?_,k2⟩
 rw[e];exact k1
theorem va_stop [Glob] {env:Env} {h:VHeap}:(vta P n J K ops .stop).2 env h:=trivial
end
def eqL (f:PV→PV→Bool):List PV→List PV→Bool
 | [],[]=>true
 | a::as,b::bs=>f a b&&eqL f as bs
 | _,_=>false
def eqLL (f:PV→PV→Bool):List (List PV)→List (List PV)→Bool
 | [],[]=>true
 | a::as,b::bs=>eqL f a b&&eqLL f as bs
 | _,_=>false
def eqPV:Nat→PV→PV→Bool
 | 0,_,_=>false
 | k+1,a,b=>match a,b with
   | .bool x,.bool y=>x==y
   | .int k1 x,.int k2 y=>decide (k1=k2)&&decide (x=y)
   | .str s,.str t=>decide (s=t)
   | .agg cs,.agg ds=>eqL (eqPV k) cs ds
   | .tup cs,.tup ds=>eqL (eqPV k) cs ds
   | .nilp,.nilp=>true
   | .ptr i g o,.ptr i' g' o'=>Nat.beq i i'&&Nat.beq g g'&&Nat.beq o o'
   | .rptr i g x o,.rptr i' g' x' o'=>Nat.beq i i'&&Nat.beq g g'&&Nat.beq x x'&&Nat.beq o o'
   | .iptr cs o,.iptr ds o'=>eqL (eqPV k) cs ds&&Nat.beq o o'
   | .sl es,.sl fs=>eqLL (eqPV k) es fs
   | .nils,.nils=>true
   | .row i g,.row i' g'=>Nat.beq i i'&&Nat.beq g g'
   | .bview i g o l,.bview i' g' o' l'=>Nat.beq i i'&&Nat.beq g g'&&Nat.beq o o'&&Nat.beq l l'
   | .rview i g o l,.rview i' g' o' l'=>Nat.beq i i'&&Nat.beq g g'&&Nat.beq o o'&&Nat.beq l l'
   | .map i g,.map i' g'=>Nat.beq i i'&&Nat.beq g g'
   | .nilm,.nilm=>true
   | .fn f c,.fn f' c'=>Nat.beq f f'&&eqL (eqPV k) c c'
   | .iter i g,.iter i' g'=>Nat.beq i i'&&Nat.beq g g'
   | .undef,.undef=>true
   | _,_=>false
theorem eqL_ok {f:PV→PV→Bool} (h:∀ a b,f a b=true→a=b):∀ as bs,eqL f as bs=true→as=bs
 | [],[],_=>rfl
 | a::as,b::bs,e=>by
   rw[eqL,Bool.and_eq_true] at e
   rw[h a b e.1,eqL_ok h as bs e.2]
 | [],_::_,e=>by cases e
 | _::_,[],e=>by cases e
theorem eqLL_ok {f:PV→PV→Bool} (h:∀ a b,f a b=true→a=b):∀ as bs,eqLL f as bs=true→as=bs
 | [],[],_=>rfl
 | a::as,b::bs,e=>by
   rw[eqLL,Bool.and_eq_true] at e
   rw[eqL_ok h a b e.1,eqLL_ok h as bs e.2]
 | [],_::_,e=>by cases e
 | _::_,[],e=>by cases e
theorem eqPV_ok:∀ (k:Nat) (a b:PV),eqPV k a b=true→a=b:=by
 intro k
 induction k with
 | zero=>intro a b h;cases h
 | succ k ih=>
   intro a b h
   unfold eqPV at h
   split at h
   all_goals first
    | rfl
    | (rw[eqL_ok ih _ _ h])
    | (rw[eqLL_ok ih _ _ h])
    | (simp only[Bool.and_eq_true,Nat.beq_eq,decide_eq_true_eq,beq_iff_eq] at h;first|(obtain⟨⟨⟨rfl,rfl⟩,rfl⟩,rfl⟩:=h;rfl)|(obtain⟨⟨rfl,rfl⟩,rfl⟩:=h;rfl)|(obtain⟨rfl,rfl⟩:=h;rfl)|(subst h;rfl)|(rw[eqL_ok ih _ _ h])|(rw[eqLL_ok ih _ _ h])|(obtain⟨h1,rfl⟩:=h;rw[eqL_ok ih _ _ h1])|(obtain⟨rfl,h1⟩:=h;rw[eqL_ok ih _ _ h1]))
    | cases h
def eqEnts (f:PV→PV→Bool):Ents→Ents→Bool
 | [],[]=>true
 | a::as,b::bs=>f a.1 b.1&&f a.2.1 b.2.1&&Nat.beq a.2.2 b.2.2&&eqEnts f as bs
 | _,_=>false
theorem eqEnts_ok {f:PV→PV→Bool} (h:∀ a b,f a b=true→a=b):∀ as bs,eqEnts f as bs=true→as=bs
 | [],[],_=>rfl
 | (a1,a2,a3)::as,(b1,b2,b3)::bs,e=>by
   simp only[eqEnts,Bool.and_eq_true,Nat.beq_eq] at e
   rw[h _ _ e.1.1.1,h _ _ e.1.1.2,e.1.2,eqEnts_ok h as bs e.2]
 | [],_::_,e=>by cases e
 | _::_,[],e=>by cases e
def eqO:VObj→VObj→Bool
 | .dead,.dead=>true
 | .box cs f,.box ds f'=>eqL (eqPV 9) cs ds&&f==f'
 | .row s es f,.row s' es' f'=>Nat.beq s s'&&eqLL (eqPV 9) es es'&&f==f'
 | .map es c,.map es' c'=>eqEnts (eqPV 9) es es'&&Nat.beq c c'
 | .siter s p,.siter s' p'=>decide (s=s')&&Nat.beq p p'
 | _,_=>false
theorem eqO_ok (a b:VObj) (h:eqO a b=true):a=b:=by
 unfold eqO at h
 split at h
 all_goals first
  | rfl
  | (simp only[Bool.and_eq_true,Nat.beq_eq,decide_eq_true_eq,beq_iff_eq] at h;first|(obtain⟨h1,rfl⟩:=h;rw[eqL_ok (eqPV_ok 9) _ _ h1])|(obtain⟨⟨rfl,h1⟩,rfl⟩:=h;rw[eqLL_ok (eqPV_ok 9) _ _ h1])|(obtain⟨h1,rfl⟩:=h;rw[eqEnts_ok (eqPV_ok 9) _ _ h1])|(obtain⟨rfl,rfl⟩:=h;rfl))
  | cases h
def eqH:VHeap→VHeap→Bool
 | [],[]=>true
 | a::as,b::bs=>Nat.beq a.1 b.1&&eqO a.2 b.2&&eqH as bs
 | _,_=>false
theorem eqH_ok:∀ as bs,eqH as bs=true→as=bs
 | [],[],_=>rfl
 | (a1,a2)::as,(b1,b2)::bs,e=>by
   simp only[eqH,Bool.and_eq_true,Nat.beq_eq] at e
   rw[e.1.1,eqO_ok _ _ e.1.2,eqH_ok as bs e.2]
 | [],_::_,e=>by cases e
 | _::_,[],e=>by cases e
def belB (n:Nat):Nat→PV→Bool
 | 0,_=>false
 | k+1,c=>match c with
   | .agg cs=>cs.all (belB n k)
   | .tup cs=>cs.all (belB n k)
   | .ptr id _ _=>Nat.blt id n
   | .rptr id _ _ _=>Nat.blt id n
   | .row id _=>Nat.blt id n
   | .bview id _ _ _=>Nat.blt id n
   | .rview id _ _ _=>Nat.blt id n
   | .map id _=>Nat.blt id n
   | .iter id _=>Nat.blt id n
   | .iptr cs _=>cs.all (belB n k)
   | .sl es=>es.all fun e=>e.all (belB n k)
   | .fn _ cap=>cap.all (belB n k)
   | .slr es id _=>(es.all fun e=>e.all (belB n k))&&Nat.blt id n
   | _=>true
theorem blt_lt {a b:Nat} (h:Nat.blt a b=true):a<b:=Nat.le_of_ble_eq_true h
theorem belB_ok {n:Nat}:∀ (k:Nat) (c:PV),belB n k c=true→bel n c:=by
 intro k
 induction k with
 | zero=>intro c h;cases h
 | succ k ih=>
   intro c h
   have hL:∀ cs:List PV,cs.all (belB n k)=true→belL n cs:=fun cs h=>belL_iff.2 fun x hx=>ih x (List.all_eq_true.1 h x hx)
   have hLL:∀ es:List (List PV),(es.all fun e=>e.all (belB n k))=true→belLL n es:=fun es h=>belLL_iff.2 fun e he=>hL e (List.all_eq_true.1 h e he)
   cases c<;>simp only[belB] at h<;>simp only[bel]<;>first|trivial|exact blt_lt h|exact hL _ h|exact hLL _ h|(rw[Bool.and_eq_true] at h;exact⟨hLL _ h.1,blt_lt h.2⟩)
def belOB (n:Nat):VObj→Bool
 | .box cs _=>cs.all (belB n 9)
 | .row _ es _=>es.all fun e=>e.all (belB n 9)
 | .map es _=>es.all fun e=>belB n 9 e.1&&belB n 9 e.2.1
 | .miter m _ _ _ _=>Nat.blt m n
 | _=>true
theorem belOB_ok {n:Nat} (o:VObj) (h:belOB n o=true):belO n o:=by
 cases o<;>simp only[belOB] at h<;>simp only[belO]
 ·exact belL_iff.2 fun x hx=>belB_ok 9 x (List.all_eq_true.1 h x hx)
 ·exact belLL_iff.2 fun e he=>belL_iff.2 fun x hx=>belB_ok 9 x (List.all_eq_true.1 (List.all_eq_true.1 h e he) x hx)
 ·intro e he
  have:=List.all_eq_true.1 h e he
  rw[Bool.and_eq_true] at this
  exact⟨belB_ok 9 _ this.1,belB_ok 9 _ this.2⟩
 ·exact blt_lt h
def flatB:Nat→PV→Bool
 | 0,_=>false
 | k+1,c=>match c with
   | .agg cs=>cs.all (flatB k)
   | .tup cs=>cs.all (flatB k)
   | .bool _=>true
   | .int _ _=>true
   | .str _=>true
   | .nilp=>true
   | .nilm=>true
   | _=>false
theorem flat_rep {w:World} {σ σ':VHeap} {β β':Beta}:∀ (k:Nat) (c:PV) (v:Value),flatB k c=true→Rep w σ β c v→Rep w σ' β' c v:=by
 intro k
 induction k with
 | zero=>intro c v h;cases h
 | succ k ih=>
   intro c v h hr
   cases hr<;>simp only[flatB] at h<;>first|(cases h;done)|skip
   ·exact .bool _
   ·exact .int _ _
   ·exact .str _
   ·rename_i cs vs hl hh
    exact .agg cs vs hl fun i c v h1 h2=>ih c v (List.all_eq_true.1 h c (List.mem_of_getElem? h1)) (hh i c v h1 h2)
   ·rename_i cs vs hl hh
    exact .tup cs vs hl fun i c v h1 h2=>ih c v (List.all_eq_true.1 h c (List.mem_of_getElem? h1)) (hh i c v h1 h2)
   ·exact .nilp
   ·exact .nilm
def tenv (E:List PV):Env:=fun i=>(E[i]?).getD (.tup [])
def xnew (id:Nat) (o:VObj) (σ:VHeap):Option (Nat × VHeap):=
 match σ[id]? with
 | some (g,_)=>some (g+1,σ.set id (g+1,o))
 | none=>none
theorem xnew_ok {id:Nat} {o:VObj} {σ:VHeap} {q:Nat × VHeap} (h:xnew id o σ=some q) {K:Nat→VHeap→Prop} (k:K q.1 q.2):vNew id o σ K:=by
 unfold xnew at h
 unfold vNew
 split at h
 ·cases h;simp only[*]
 ·cases h
def xeq (op:BinOp) (r:Bool):Option PV:=
 match op with
 | .eql=>some (.bool r)
 | .neq=>some (.bool !r)
 | _=>none
theorem xeq_ok {op:BinOp} {r:Bool} {v:PV} (h:xeq op r=some v) {σ:VHeap} {K:KP} (k:K v σ):eqK op r σ K:=by
 unfold xeq at h;unfold eqK
 split at h<;>first|(cases h;exact k)|cases h
def xbin (op:BinOp) (t:BT) (x y:PV) (σ:VHeap):Option PV:=
 match x,y with
 | .int k a,.int k' b=>ibin op k a k' b
 | .str a,.str b=>sbin op a b
 | .bool a,.bool b=>if t=.bool then xeq op (a==b) else none
 | .nilp,.nilp=>if t=.ptr then xeq op true else none
 | .ptr id g _,.nilp=>if t=.ptr∧(vGet σ id g).isSome=true then xeq op false else none
 | .nils,.nils=>if t=.slice then xeq op true else none
 | .sl (_::_),.nils=>if t=.slice then xeq op false else none
 | _,_=>none
theorem xbin_ok {op:BinOp} {t:BT} {x y:PV} {σ:VHeap} {v:PV} (h:xbin op t x y σ=some v) {K:KP} (k:K v σ):vBin op t x y σ K:=by
 unfold xbin at h
 split at h
 ·simp only[vBin,h];exact k
 ·simp only[vBin,h];exact k
 ·split at h
  ·rename_i ht;exact⟨ht,xeq_ok h k⟩
  ·cases h
 ·split at h
  ·rename_i ht;exact⟨ht,xeq_ok h k⟩
  ·cases h
 ·split at h
  ·rename_i ht;exact⟨ht.1,Option.isSome_iff_exists.1 ht.2,xeq_ok h k⟩
  ·cases h
 ·split at h
  ·rename_i ht;exact⟨ht,xeq_ok h k⟩
  ·cases h
 ·split at h
  ·rename_i ht;exact⟨ht,xeq_ok h k,fun e=>by cases e⟩
  ·cases h
 ·cases h
def xfield (off:Nat) (x:PV) (σ:VHeap):Option PV:=
 match x with
 | .ptr id g o=>if (vGet σ id g).isSome=true then some (.ptr id g (o+off)) else none
 | .rptr id g i o=>if (vGet σ id g).isSome=true then some (.rptr id g i (o+off)) else none
 | .iptr cs o=>some (.iptr cs (o+off))
 | _=>none
theorem xfield_ok {off:Nat} {x:PV} {σ:VHeap} {v:PV} (h:xfield off x σ=some v) {K:KP} (k:K v σ):vField off x σ K:=by
 unfold xfield at h
 split at h
 ·split at h
  ·rename_i hs;cases h;exact⟨Option.isSome_iff_exists.1 hs,k⟩
  ·cases h
 ·split at h
  ·rename_i hs;cases h;exact⟨Option.isSome_iff_exists.1 hs,k⟩
  ·cases h
 ·cases h;exact k
 ·cases h
abbrev XC:=FuncId→List PV→VHeap→Option (PV × VHeap)
abbrev XE:=FuncId→List PV→Option PV
def xlook (call:XC) (ext:XE) (E:List PV) (σ:VHeap):VOp→Option PV
 | .mov x=>some (va (tenv E) x)
 | .pick c x y=>match va (tenv E) c with
   | .bool true=>some (va (tenv E) x)
   | .bool false=>some (va (tenv E) y)
   | _=>none
 | .build zero parts=>match vFill zero (parts.map fun q=>(q.1,q.2.1,va (tenv E) q.2.2)) with
   | some cs=>some (.agg cs)
   | none=>none
 | .load sz x=>match va (tenv E) x with
   | .ptr id g off=>match vGet σ id g with
     | some (.box cs _)=>cut cs off sz
     | _=>none
   | .rptr id g i off=>match vGet σ id g with
     | some (.row _ es _)=>match es[i]? with
       | some e=>cut e off sz
       | none=>none
     | _=>none
   | .iptr cs off=>cut cs off sz
   | _=>none
 | .nilCheck x=>match va (tenv E) x with
   | .ptr id g o=>if (vGet σ id g).isSome=true then some (.ptr id g o) else none
   | .rptr id g i o=>if (vGet σ id g).isSome=true then some (.rptr id g i o) else none
   | .iptr cs o=>some (.iptr cs o)
   | _=>none
 | .bin op t x y=>xbin op t (va (tenv E) x) (va (tenv E) y) σ
 | .un op x=>match op,va (tenv E) x with
   | .neg,.int k n=>some (.int k (k.wrap (0 - n)))
   | .xor,.int k n=>ibits .xor k (if k.signed then -1 else k.max) n
   | .not,.bool b=>some (.bool !b)
   | _,_=>none
 | .convInt k x=>match va (tenv E) x with
   | .int _ n=>some (.int k (k.wrap n))
   | _=>none
 | .convStr x=>match va (tenv E) x with
   | .str s=>some (.str s)
   | _=>none
 | .b2s x=>match rd σ (va (tenv E) x) with
   | some es=>match es.mapM byteOf with
     | some bs=>some (.str bs)
     | none=>none
   | none=>none
 | .func f caps=>some (.fn f (caps.map (va (tenv E))))
 | .sliceStr x lo hi=>match va (tenv E) x with
   | .str s=>match bound (lo.map (va (tenv E))) 0,bound (hi.map (va (tenv E))) s.length with
     | some l,some h=>if l≤h∧h≤s.length then some (.str ((s.drop l).take (h - l))) else none
     | _,_=>none
   | _=>none
 | .slice sz x lo hi=>match va (tenv E) x with
   | .sl es=>match bound (lo.map (va (tenv E))) 0,bound (hi.map (va (tenv E))) es.length with
     | some l,some h=>if l≤h∧h≤es.length∧(es.all fun e=>Nat.beq e.length sz)=true then some (.sl ((es.drop l).take (h - l))) else none
     | _,_=>none
   | .nils=>match bound (lo.map (va (tenv E))) 0,bound (hi.map (va (tenv E))) 0 with
     | some 0,some 0=>some .nils
     | _,_=>none
   | .bview id g off len=>match bound (lo.map (va (tenv E))) 0,bound (hi.map (va (tenv E))) len with
     | some l,some h=>if sz=1∧(vGet σ id g).isSome=true∧l≤h∧h≤len then some (.bview id g (off+l) (h - l)) else none
     | _,_=>none
   | _=>none
 | .sliceArr n sz x lo hi=>match va (tenv E) x with
   | .ptr id g off=>match vGet σ id g with
     | some (.box cs _)=>match bound (lo.map (va (tenv E))) 0,bound (hi.map (va (tenv E))) n with
       | some l,some h=>if sz=1∧off+n≤cs.length∧l≤h∧h≤n then some (.bview id g (off+l) (h - l)) else none
       | _,_=>none
     | _=>none
   | _=>none
 | .field off x=>xfield off (va (tenv E) x) σ
 | .fieldVal off r x=>match va (tenv E) x with
   | .agg cs=>cut cs off r
   | _=>none
 | .index sz x i=>match va (tenv E) x,va (tenv E) i with
   | .sl es,.int _ i=>if 0≤i then match es[i.toNat]? with
     | some e=>if e.length=sz then some (.iptr e 0) else none
     | none=>none
     else none
   | .row id g,.int _ i=>match vGet σ id g with
     | some (.row s es _)=>if s=sz∧0≤i∧i<es.length then some (.rptr id g i.toNat 0) else none
     | _=>none
   | .bview id g off len,.int _ i=>if sz=1∧(vGet σ id g).isSome=true∧0≤i∧i<len then some (.ptr id g (off+i.toNat)) else none
   | _,_=>none
 | .indexArr n sz x i=>match va (tenv E) i with
   | .int _ i=>if 0≤i∧i<n then xfield (i.toNat * sz) (va (tenv E) x) σ else none
   | _=>none
 | .indexStr x i=>match va (tenv E) x,va (tenv E) i with
   | .str s,.int _ i=>if 0≤i then match s[i.toNat]? with
     | some b=>some (.int .u8 b.toNat)
     | none=>none
     else none
   | _,_=>none
 | .indexAgg n sz r x i=>match va (tenv E) x,va (tenv E) i with
   | .agg cs,.int _ i=>if 0≤i∧i<n then cut cs (i.toNat * sz) r else none
   | _,_=>none
 | .extract k x=>match va (tenv E) x with
   | .tup vs=>vs[k]?
   | _=>none
 | .call raw f args=>if (raw||eqH (frzArgs σ (args.map (va (tenv E)))) σ)=true then(match (if raw then call f (args.map (va (tenv E))) σ else call f (inlArgs σ (args.map (va (tenv E)))) (frzArgs σ (args.map (va (tenv E))))) with
   | some (v,σ')=>if eqH σ' σ=true then some v else none
   | none=>none) else none
 | .ext f args=>match ext f (inlArgs σ (args.map (va (tenv E)))) with
   | some v=>if eqH (frzArgs σ (args.map (va (tenv E)))) σ=true∧f<1000000 then some v else none
   | none=>none
 | .callV x args=>match va (tenv E) x with
   | .fn f cap=>match ext (1000000+f) [] with
     | some (.bool true)=>match call f (args.map (va (tenv E))++cap) σ with
       | some (v,σ')=>if eqH σ' σ=true then some v else none
       | none=>none
     | _=>none
   | _=>none
 | .len x=>match rd σ (va (tenv E) x) with
   | some es=>some (.int .i64 es.length)
   | none=>none
 | .lenStr x=>match va (tenv E) x with
   | .str s=>some (.int .i64 s.length)
   | _=>none
 | .minmax mx x y=>match va (tenv E) x,va (tenv E) y with
   | .int k a,.int k' b=>if k=k' then some (.int k (if mx then(if a<b then b else a) else(if b<a then b else a))) else none
   | _,_=>none
 | .eqAgg ks ne x y=>match va (tenv E) x,va (tenv E) y with
   | .agg cs,.agg ds=>match eqCells ks cs ds with
     | some r=>some (.bool (if ne then !r else r))
     | none=>none
   | _,_=>none
 | .sliceV sz x lo hi=>match va (tenv E) x with
   | .row id g=>match vGet σ id g with
     | some (.row s es _)=>match bound (lo.map (va (tenv E))) 0,bound (hi.map (va (tenv E))) es.length with
       | some l,some h=>if s=sz∧l≤h∧h≤es.length then some (.rview id g l (h - l)) else none
       | _,_=>none
     | _=>none
   | .rview id g l0 len=>match vGet σ id g with
     | some (.row s _ _)=>match bound (lo.map (va (tenv E))) 0,bound (hi.map (va (tenv E))) len with
       | some l,some h=>if s=sz∧l≤h∧h≤len then some (.rview id g (l0+l) (h - l)) else none
       | _,_=>none
     | _=>none
   | _=>none
 | _=>none
def CallOk [Glob] (P:Program) (call:XC):Prop:=∀ f args σ v σ',call f args σ=some (v,σ')→∀ Post:KP,Post v σ'→T P f args σ Post
structure ExtOk [Glob] (P:Program) (ext:XE):Prop where
 x:∀ f args v,f<1000000→ext f args=some v→∀ (σ:VHeap) (Post:KP),Post v σ→X P f args σ Post
 c:∀ f,ext (1000000+f) []=some (.bool true)→callOk P f=true
section
variable {P:Program} [Glob] {call:XC} {ext:XE} (hc:CallOk P call) (he:ExtOk P ext)
include hc he
theorem xlook_ok {n:Nat} {E:List PV} {σ:VHeap} {op:VOp} {v:PV} (h:xlook call ext E σ op=some v):Y P n op (tenv E) σ v:=by
 intro K hk
 cases op<;>simp only[xlook] at h<;>simp only[vop]<;>first|(cases h;done)|skip
 case mov x=>cases h;exact hk
 case pick c x y=>
  unfold vPick
  split at h<;>simp only[*]<;>first|(cases h;exact hk)|cases h
 case build zero parts=>
  unfold vBuild
  split at h<;>simp only[*]<;>first|(cases h;exact hk)|cases h
 case load sz x=>
  unfold vLoad
  split at h
  ·simp only[*]
   split at h
   ·simp only[*]
   ·cases h
  ·simp only[*]
   split at h
   ·simp only[*]
    split at h
    ·simp only[*]
    ·cases h
   ·cases h
  ·simp only[*]
  ·cases h
 case nilCheck x=>
  unfold vNilCheck
  split at h
  ·rename_i hx;split at h
   ·rename_i hs;cases h;simp only[hx];exact⟨Option.isSome_iff_exists.1 hs,hk⟩
   ·cases h
  ·rename_i hx;split at h
   ·rename_i hs;cases h;simp only[hx];exact⟨Option.isSome_iff_exists.1 hs,hk⟩
   ·cases h
  ·rename_i hx;cases h;simp only[hx];exact hk
  ·cases h
 case bin op t x y=>exact xbin_ok h hk
 case un op x=>
  unfold vUn
  split at h
  ·simp only[*];cases h;exact hk
  ·simp only[*]
  ·simp only[*];cases h;exact hk
  ·cases h
 case convInt k x=>
  unfold vConvInt
  split at h<;>simp only[*]<;>first|(cases h;exact hk)|cases h
 case convStr x=>
  unfold vConvStr
  split at h<;>simp only[*]<;>first|(cases h;exact hk)|cases h
 case b2s x=>
  unfold vB2S
  split at h
  ·simp only[*]
   split at h<;>simp only[*]<;>first|(cases h;exact hk)|cases h
  ·cases h
 case func f caps=>cases h;exact hk
 case sliceStr x lo hi=>
  unfold vSliceStr
  split at h
  ·simp only[*]
   split at h
   ·simp only[*]
    split at h
    ·rename_i hh;cases h;exact⟨hh.1,hh.2,hk⟩
    ·cases h
   ·cases h
  ·cases h
 case slice sz x lo hi=>
  unfold vSlice
  split at h
  ·simp only[*]
   split at h
   ·simp only[*]
    split at h
    ·rename_i hh;cases h;exact⟨hh.1,hh.2.1,fun e he=>Nat.eq_of_beq_eq_true (List.all_eq_true.1 hh.2.2 e he),hk⟩
    ·cases h
   ·cases h
  ·simp only[*]
   split at h
   ·simp only[*];cases h;exact hk
   ·cases h
  ·simp only[*]
   split at h
   ·simp only[*]
    split at h
    ·rename_i hh;cases h;exact⟨hh.1,Option.isSome_iff_exists.1 hh.2.1,hh.2.2.1,hh.2.2.2,hk⟩
    ·cases h
   ·cases h
  ·cases h
 case sliceArr n sz x lo hi=>
  unfold vSliceArr
  split at h
  ·simp only[*]
   split at h
   ·simp only[*]
    split at h
    ·simp only[*]
     split at h
     ·rename_i hh;cases h;exact⟨hh.1,hh.2.1,hh.2.2.1,hh.2.2.2,hk⟩
     ·cases h
    ·cases h
   ·cases h
  ·cases h
 case field off x=>exact xfield_ok h hk
 case fieldVal off r x=>
  unfold vFieldVal
  split at h
  ·simp only[*]
  ·cases h
 case index sz x i=>
  unfold vIndex
  split at h
  ·simp only[*]
   split at h
   ·split at h
    ·split at h
     ·rename_i h0 _ _ h1 h2;cases h;simp only[h1];exact⟨h0,h2,hk⟩
     ·cases h
    ·cases h
   ·cases h
  ·simp only[*]
   split at h
   ·simp only[*]
    split at h
    ·rename_i hh;cases h;exact⟨hh.1,hh.2.1,hh.2.2,hk⟩
    ·cases h
   ·cases h
  ·simp only[*]
   split at h
   ·rename_i hh;cases h;exact⟨hh.1,Option.isSome_iff_exists.1 hh.2.1,hh.2.2.1,hh.2.2.2,hk⟩
   ·cases h
  ·cases h
 case indexArr n sz x i=>
  unfold vIndexArr
  split at h
  ·simp only[*]
   split at h
   ·rename_i hh;exact⟨hh.1,hh.2,xfield_ok h hk⟩
   ·cases h
  ·cases h
 case indexStr x i=>
  unfold vIndexStr
  split at h
  ·simp only[*]
   split at h
   ·split at h
    ·rename_i h0 _ _ h1;cases h;simp only[h1];exact⟨h0,hk⟩
    ·cases h
   ·cases h
  ·cases h
 case indexAgg n sz r x i=>
  unfold vIndexAgg
  split at h
  ·simp only[*]
   split at h
   ·rename_i hh;simp only[h];exact⟨hh.1,hh.2,hk⟩
   ·cases h
  ·cases h
 case extract k x=>
  unfold vExtract
  split at h
  ·simp only[*]
  ·cases h
 case call raw f args=>
  unfold vCall
  split at h
  ·split at h
   ·rename_i v' σ' hcall
    split at h
    ·rename_i hh
     cases h
     have e:=eqH_ok _ _ hh
     subst e
     cases raw
     ·exact hc _ _ _ _ _ (by simpa using hcall) _ hk
     ·exact hc _ _ _ _ _ (by simpa using hcall) _ hk
    ·cases h
   ·cases h
  ·cases h
 case ext f args=>
  split at h
  ·rename_i v' hcall
   split at h
   ·rename_i hh
    cases h
    rw[eqH_ok _ _ hh.1]
    exact he.x _ _ _ hh.2 hcall _ _ hk
   ·cases h
  ·cases h
 case callV x args=>
  split at h
  ·rename_i hx
   split at h
   ·rename_i hext
    split at h
    ·rename_i v' σ' hcall
     split at h
     ·rename_i hh
      cases h
      have e:=eqH_ok _ _ hh
      subst e
      simp only[vCallV,hx,if_true]
      exact⟨he.c _ hext,hc _ _ _ _ _ hcall _ hk⟩
     ·cases h
    ·cases h
   ·cases h
  ·cases h
 case len x=>
  unfold vLen
  split at h
  ·simp only[*];cases h;exact hk
  ·cases h
 case lenStr x=>
  unfold vLenStr
  split at h
  ·simp only[*];cases h;exact hk
  ·cases h
 case minmax mx x y=>
  unfold vMinMax
  split at h
  ·simp only[*]
   split at h
   ·rename_i hh;cases h;exact⟨hh,hk⟩
   ·cases h
  ·cases h
 case eqAgg ks ne x y=>
  unfold vEqAgg
  split at h
  ·simp only[*]
   split at h
   ·simp only[*];cases h;exact hk
   ·cases h
  ·cases h
 case sliceV sz x lo hi=>
  unfold vSliceV
  split at h
  ·simp only[*]
   split at h
   ·simp only[*]
    split at h
    ·simp only[*]
     split at h
     ·rename_i hh;cases h;exact⟨hh.1,hh.2.1,hh.2.2,hk⟩
     ·cases h
    ·cases h
   ·cases h
  ·simp only[*]
   split at h
   ·simp only[*]
    split at h
    ·simp only[*]
     split at h
     ·rename_i hh;cases h;exact⟨hh.1,hh.2.1,hh.2.2,hk⟩
     ·cases h
    ·cases h
   ·cases h
  ·cases h
end
def xsnap (x:PV) (σ:VHeap):Option (PV × VHeap):=
 match x with
 | .row id g=>match σ[id]? with
   | some (g',.row _ es _)=>if Nat.beq g' g=true then some (.slr es id g,frzId σ id) else none
   | _=>none
 | _=>none
theorem xsnap_ok {x:PV} {σ:VHeap} {q:PV × VHeap} (h:xsnap x σ=some q) {K:KP} (k:K q.1 q.2):vSnap x σ K:=by
 unfold xsnap at h;unfold vSnap
 split at h
 ·simp only[]
  split at h
  ·simp only[*]
   split at h
   ·rename_i e;cases h;exact⟨Nat.eq_of_beq_eq_true e,k⟩
   ·cases h
  ·cases h
 ·cases h
def xop (call:XC) (ext:XE) (n:Nat) (E:List PV) (σ:VHeap) (op:VOp):Option (PV × VHeap):=
 match op with
 | .snap x=>xsnap (va (tenv E) x) σ
 | .newRow s sz=>match xnew (n+s) (.row sz [] false) σ with
   | some q=>some (.row (n+s) q.1,q.2)
   | none=>none
 | .alloc s zero=>match xnew (n+s) (.box zero false) σ with
   | some q=>some (.ptr (n+s) q.1 0,q.2)
   | none=>none
 | .box s x=>if (pcells (va (tenv E) x)).all scalar=true then match xnew (n+s) (.box (pcells (va (tenv E) x)) false) σ with
   | some q=>some (.ptr (n+s) q.1 0,q.2)
   | none=>none
   else none
 | .buildSlice s sz len zero parts=>match vFillRow sz (List.replicate len zero) (parts.map fun q=>(q.1,va (tenv E) q.2)) with
   | some es=>match xnew (n+s) (.row sz es false) σ with
     | some q=>some (.row (n+s) q.1,q.2)
     | none=>none
   | none=>none
 | .store sz x v=>if (pcells (va (tenv E) v)).length=sz∧(pcells (va (tenv E) v)).all scalar=true then match va (tenv E) x with
   | .ptr id g off=>match vGet σ id g with
     | some (.box cs false)=>if off+sz≤cs.length then some (.undef,σ.set id (g,.box (splice cs off (pcells (va (tenv E) v))) false)) else none
     | _=>none
   | .rptr id g i off=>match vGet σ id g with
     | some (.row s es false)=>match es[i]? with
       | some e=>if off+sz≤e.length then some (.undef,σ.set id (g,.row s (es.set i (splice e off (pcells (va (tenv E) v)))) false)) else none
       | none=>none
     | _=>none
   | _=>none
   else none
 | .s2b s x=>match va (tenv E) x with
   | .str l=>if l.length≤9223372036854775807 then match xnew (n+s) (.row 1 (bytesEs l) false) σ with
     | some q=>some (.row (n+s) q.1,q.2)
     | none=>none
     else none
   | _=>none
 | .slice sz x lo hi=>match va (tenv E) x with
   | .row id g=>match vGet σ id g with
     | some (.row s es _)=>match bound (lo.map (va (tenv E))) 0,bound (hi.map (va (tenv E))) es.length with
       | some l,some h=>if s=sz∧l≤h∧h≤es.length then some (.sl ((es.drop l).take (h - l)),frzId σ id) else none
       | _,_=>none
     | _=>none
   | _=>match xlook call ext E σ (.slice sz x lo hi) with
     | some v=>some (v,σ)
     | none=>none
 | .rangeStr s x=>match va (tenv E) x with
   | .str l=>match xnew (n+s) (.siter l 0) σ with
     | some q=>some (.iter (n+s) q.1,q.2)
     | none=>none
   | _=>none
 | .nextStr x=>match va (tenv E) x with
   | .iter id g=>match vGet σ id g with
     | some (.siter s pos)=>if pos<s.length then
       some (.tup [.bool true,.int .i64 pos,.int .i32 (Utf8.decode ⟨s.toArray⟩ pos).1],σ.set id (g,.siter s (pos+(Utf8.decode ⟨s.toArray⟩ pos).2)))
       else some (.tup [.bool false],σ)
     | _=>none
   | _=>none
 | .call raw f args=>if raw then call f (args.map (va (tenv E))) σ else call f (inlArgs σ (args.map (va (tenv E)))) (frzArgs σ (args.map (va (tenv E))))
 | .callV x args=>match va (tenv E) x with
   | .fn f cap=>match ext (1000000+f) [] with
     | some (.bool true)=>call f (args.map (va (tenv E))++cap) σ
     | _=>none
   | _=>none
 | .append s sz bytes y x=>match rdA σ (va (tenv E) x) with
   | some new=>if (new.all fun e=>Nat.beq e.length sz&&e.all scalar)=true then match own (va (tenv E) y) with
     | .row id g=>match vGet σ id g with
       | some (.row s' es fz)=>if s'=sz∧(es.length+new.length) * bytes≤140737488355328 then some (.row id (g+1),σ.set id (g+1,.row sz (es++new) fz)) else none
       | _=>none
     | .nils=>if new.length * bytes≤140737488355328 then match xnew (n+s) (.row sz new false) σ with
       | some q=>some (.row (n+s) q.1,q.2)
       | none=>none
       else none
     | _=>none
     else none
   | none=>none
 | .copyTo sz d x=>match rdA σ (va (tenv E) x) with
   | some new=>if (new.all fun e=>Nat.beq e.length sz&&e.all scalar)=true then match va (tenv E) d with
     | .bview id g off len=>match vGet σ id g with
       | some (.box cs false)=>if sz=1∧off+len≤cs.length then some (.int .i64 (min new.length len:Nat),σ.set id (g,.box (splice cs off ((new.take len).flatten)) false)) else none
       | _=>none
     | .row id g=>match vGet σ id g with
       | some (.row s es false)=>if s=sz then some (.int .i64 (min new.length es.length:Nat),σ.set id (g,.row sz (ovl es 0 es.length new) false)) else none
       | _=>none
     | .rview id g lo len=>match vGet σ id g with
       | some (.row s es false)=>if s=sz∧lo+len≤es.length then some (.int .i64 (min new.length len:Nat),σ.set id (g,.row sz (ovl es lo len new) false)) else none
       | _=>none
     | .nils=>some (.int .i64 0,σ)
     | _=>none
     else none
   | none=>none
 | .makeSlice s sz bytes zero x y=>match va (tenv E) x,va (tenv E) y with
   | .int _ l,.int _ c=>if 0≤l∧l≤c∧c * bytes≤140737488355328∧c≤140737488355328 then match xnew (n+s) (.row sz (List.replicate l.toNat zero) false) σ with
     | some q=>some (.row (n+s) q.1,q.2)
     | none=>none
     else none
   | _,_=>none
 | .clip s sz x=>if (rd σ (va (tenv E) x)).isSome=true then match xnew (n+s) (.row sz [] false) σ with
   | some q=>some (.row (n+s) q.1,q.2)
   | none=>none
   else none
 | op=>match xlook call ext E σ op with
   | some v=>some (v,σ)
   | none=>none
theorem rowok_all {sz:Nat} {es:List (List PV)} (h:(es.all fun e=>Nat.beq e.length sz&&e.all scalar)=true):RowOk sz es:=fun e he=>by
 have:=List.all_eq_true.1 h e he
 rw[Bool.and_eq_true] at this
 exact⟨Nat.eq_of_beq_eq_true this.1,this.2⟩
section
variable {P:Program} [Glob] {call:XC} {ext:XE} (hc:CallOk P call) (he:ExtOk P ext)
include hc he
theorem xop_ok {n:Nat} {E:List PV} {σ:VHeap} {op:VOp} {v:PV} {σ':VHeap} (h:xop call ext n E σ op=some (v,σ')) {K:KP} (hk:K v σ'):vop P n (tenv E) σ K op:=by
 have other:∀ {op:VOp},(match xlook call ext E σ op with|some v=>some (v,σ)|none=>none)=some (v,σ')→vop P n (tenv E) σ K op:=by
  intro op h
  split at h
  ·rename_i h1;cases h;exact xlook_ok hc he h1 K hk
  ·cases h
 cases op<;>simp only[xop] at h<;>first|exact other h|skip
 case snap x=>exact xsnap_ok h hk
 case newRow s sz=>
  split at h
  ·rename_i hq;cases h;exact xnew_ok (K:=fun g σ=>K (.row (n+s) g) σ) hq hk
  ·cases h
 case alloc s zero=>
  split at h
  ·rename_i hq;cases h;exact xnew_ok (K:=fun g σ=>K (.ptr (n+s) g 0) σ) hq hk
  ·cases h
 case box s x=>
  split at h
  ·split at h
   ·rename_i ha _ _ hq;cases h;exact⟨ha,xnew_ok hq hk⟩
   ·cases h
  ·cases h
 case buildSlice s sz len zero parts=>
  simp only[vop,vBuildSlice]
  split at h
  ·rename_i hf;simp only[hf]
   split at h
   ·rename_i hq;cases h;exact xnew_ok hq hk
   ·cases h
  ·cases h
 case store sz x v=>
  simp only[vop,vStore]
  split at h
  case isFalse=>cases h
  rename_i hh
  refine⟨hh.1,hh.2,?_⟩
  split at h
  ·simp only[*]
   split at h
   ·simp only[*]
    split at h
    ·rename_i hl;cases h;exact⟨hl,hk⟩
    ·cases h
   ·cases h
  ·simp only[*]
   split at h
   ·simp only[*]
    split at h
    ·simp only[*]
     split at h
     ·rename_i hl;cases h;exact⟨hl,hk⟩
     ·cases h
    ·cases h
   ·cases h
  ·cases h
 case s2b s x=>
  simp only[vop,vS2B]
  split at h
  ·rename_i hx;simp only[hx]
   split at h
   ·rename_i hl
    split at h
    ·rename_i hq;cases h;exact⟨hl,xnew_ok hq hk⟩
    ·cases h
   ·cases h
  ·cases h
 case slice sz x lo hi=>
  split at h
  ·rename_i hx
   simp only[vop,vSlice,hx]
   split at h
   ·rename_i hg;simp only[hg]
    split at h
    ·rename_i h1 h2;simp only[h1,h2]
     split at h
     ·rename_i hl;cases h;exact⟨hl.1,hl.2.1,hl.2.2,hk⟩
     ·cases h
    ·cases h
   ·cases h
  ·exact other h
 case rangeStr s x=>
  simp only[vop,vRangeStr]
  split at h
  ·rename_i hx;simp only[hx]
   split at h
   ·rename_i hq;cases h;exact xnew_ok hq hk
   ·cases h
  ·cases h
 case nextStr x=>
  simp only[vop,vNextStr]
  split at h
  ·rename_i hx;simp only[hx]
   split at h
   ·rename_i hg;simp only[hg]
    split at h
    ·rename_i hl;rw[if_pos hl];cases h;exact hk
    ·rename_i hl;rw[if_neg hl];cases h;exact hk
   ·cases h
  ·cases h
 case call raw f args=>
  simp only[vop,vCall]
  cases raw
  ·exact hc _ _ _ _ _ (by simpa using h) _ hk
  ·exact hc _ _ _ _ _ (by simpa using h) _ hk
 case callV x args=>
  split at h
  ·rename_i hx
   split at h
   ·rename_i hext
    simp only[vop,vCallV,hx,if_true]
    exact⟨he.c _ hext,hc _ _ _ _ _ h _ hk⟩
   ·cases h
  ·cases h
 case append s sz bytes y x=>
  simp only[vop,vAppend]
  split at h
  case h_2=>cases h
  rename_i hr
  simp only[hr]
  split at h
  case isFalse=>cases h
  rename_i hok
  refine⟨rowok_all hok,?_⟩
  split at h
  ·rename_i hx;simp only[hx]
   split at h
   ·rename_i hg;simp only[hg]
    split at h
    ·rename_i hl;cases h;exact⟨hl.1,hl.2,hk⟩
    ·cases h
   ·cases h
  ·rename_i hx;simp only[hx]
   split at h
   ·rename_i hl
    split at h
    ·rename_i hq;cases h;exact⟨hl,xnew_ok hq hk⟩
    ·cases h
   ·cases h
  ·cases h
 case copyTo sz d x=>
  simp only[vop,vCopyTo]
  split at h
  case h_2=>cases h
  rename_i hr
  simp only[hr]
  split at h
  case isFalse=>cases h
  rename_i hok
  refine⟨rowok_all hok,?_⟩
  split at h
  ·rename_i hx;simp only[hx]
   split at h
   ·rename_i hg;simp only[hg]
    split at h
    ·rename_i hl;cases h;exact⟨hl.1,hl.2,hk⟩
    ·cases h
   ·cases h
  ·rename_i hx;simp only[hx]
   split at h
   ·rename_i hg;simp only[hg]
    split at h
    ·rename_i hl;cases h;exact⟨hl,hk⟩
    ·cases h
   ·cases h
  ·rename_i hx;simp only[hx]
   split at h
   ·rename_i hg;simp only[hg]
    split at h
    ·rename_i hl;cases h;exact⟨hl.1,hl.2,hk⟩
    ·cases h
   ·cases h
  ·rename_i hx;simp only[hx];cases h;exact hk
  ·cases h
 case makeSlice s sz bytes zero x y=>
  simp only[vop,vMakeSlice]
  split at h
  ·rename_i hx hy;simp only[hx,hy]
   split at h
   ·rename_i hl
    split at h
    ·rename_i hq;cases h;exact⟨hl.1,hl.2.1,hl.2.2.1,hl.2.2.2,xnew_ok hq hk⟩
    ·cases h
   ·cases h
  ·cases h
 case clip s sz x=>
  split at h
  ·split at h
   ·rename_i ha _ _ hq;cases h;exact⟨Option.isSome_iff_exists.1 ha,xnew_ok hq hk⟩
   ·cases h
  ·cases h
end
def tset (E:List PV) (d:Option Nat) (v:PV):Option (List PV):=
 match d with
 | none=>some E
 | some d=>if d<E.length then some (E.set d v) else none
theorem tset_ok {E E':List PV} {d:Option Nat} {v:PV} (h:tset E d v=some E'):tenv E'=eput (tenv E) d v:=by
 unfold tset at h
 split at h
 ·cases h;rfl
 ·split at h
  ·rename_i d hd;cases h
   funext i
   simp only[tenv,eput]
   by_cases e:i=d
   ·subst e;rw[List.getElem?_set_self hd];simp
   ·rw[List.getElem?_set_ne (Ne.symm e)]
    have:Nat.beq i d=false:=by cases hb:Nat.beq i d with|false=>rfl|true=>exact(e (Nat.eq_of_beq_eq_true hb)).elim
    rw[this];rfl
  ·cases h
def xo (call:XC) (ext:XE) (n:Nat) (o:VO) (E:List PV) (σ:VHeap):Option (List PV × VHeap):=
 match o.guard with
 | none=>match xop call ext n E σ o.op with
   | some (v,σ')=>match tset E o.dst v with|some E'=>some (E',σ')|none=>none
   | none=>none
 | some (s,b)=>match tenv E s with
   | .bool c=>if c=b then(match xop call ext n E σ o.op with
     | some (v,σ')=>match tset E o.dst v with|some E'=>some (E',σ')|none=>none
     | none=>none)
     else match tset E o.dst (.tup []) with|some E'=>some (E',σ)|none=>none
   | .tup []=>match tset E o.dst (.tup []) with|some E'=>some (E',σ)|none=>none
   | _=>none
def xos (call:XC) (ext:XE) (n:Nat):List VO→List PV→VHeap→Option (List PV × VHeap)
 | [],E,σ=>some (E,σ)
 | o::r,E,σ=>match xo call ext n o E σ with
   | some (E',σ')=>xos call ext n r E' σ'
   | none=>none
def xlo (call:XC) (ext:XE) (o:VO) (E:List PV) (σ:VHeap):Option PV:=
 match o.guard with
 | none=>xlook call ext E σ o.op
 | some (s,b)=>match tenv E s with
   | .bool c=>if c=b then xlook call ext E σ o.op else some (.tup [])
   | .tup []=>some (.tup [])
   | _=>none
def xheaps (call:XC) (ext:XE) (n:Nat):List (Nat × VO)→List PV→VHeap→List VHeap
 | [],_,σ=>[σ]
 | (0,o)::r,E,σ=>match xo call ext n o E σ with
   | some (E',σ')=>σ::xheaps call ext n r E' σ'
   | none=>[]
 | (_+1,o)::r,E,σ=>match xlo call ext o E σ with
   | some v=>match tset E o.dst v with
     | some E'=>xheaps call ext n r E' σ
     | none=>[]
   | none=>[]
def xseq (call:XC) (ext:XE) (n:Nat) (hs:List VHeap):List (Nat × VO)→List PV→VHeap→Option (List PV × VHeap)
 | [],E,σ=>some (E,σ)
 | (0,o)::r,E,σ=>match xo call ext n o E σ with
   | some (E',σ')=>if hs.any (eqH σ')=true then xseq call ext n hs r E' σ' else none
   | none=>none
 | (1,o)::r,E,σ=>match xlo call ext o E σ with
   | some v=>match tset E o.dst v with
     | some E'=>xseq call ext n hs r E' σ
     | none=>none
   | none=>none
 | (_+2,o)::r,E,σ=>match xlo call ext o E σ with
   | some v=>if (hs.all fun h=>match xlo call ext o E h with|some v'=>eqPV 9 v' v|none=>false)=true then match tset E o.dst v with
     | some E'=>xseq call ext n hs r E' σ
     | none=>none
     else none
   | none=>none
def xloop (body:List PV→VHeap→Option (VE × List PV × VHeap)):Nat→List PV→VHeap→Option (VE × List PV × VHeap)
 | 0,_,_=>none
 | k+1,E,σ=>match body E σ with
   | some (.normal,E',σ')=>xloop body k E' σ'
   | r=>r
def xdreg (call:XC) (ext:XE) (n:Nat) (ops:List (VO × List Nat)) (B:List Nat) (ord:List (Nat × Nat)) (E:List PV) (σ:VHeap):Option (List PV × VHeap):=
 if okReg ops ord B=true∧befs (ops.map (·.2)) []=B then
  match xseq call ext n (xheaps call ext n (ordOps ops ord) E σ) (ordOps ops ord) E σ with
  | some (E',σ')=>if (xheaps call ext n (ordOps ops ord) E σ).any (eqH σ)=true then some (E',σ') else none
  | none=>none
 else none
def ordC (ops:List (VO × List Nat)):Bool→List (Nat × Nat)→List (Nat × Nat)
 | _,[]=>[]
 | _,(0,i)::r=>(0,i)::ordC ops true r
 | s,(k+1,i)::r=>(match s,ops[i]? with|true,some (⟨_,.call _ _ _,_⟩,_)=>0|_,_=>k+1,i)::ordC ops s r
def isCall:VOp→Bool
 | .call _ _ _=>true
 | _=>false
def kOp:VOp→Nat
 | .mov _ | .pick _ _ _ | .build _ _ | .un _ _ | .convInt _ _ | .convStr _ | .func _ _ | .sliceStr _ _ _ | .fieldVal _ _ _ | .indexStr _ _ | .indexAgg _ _ _ _ _ | .extract _ _ | .lenStr _ | .minmax _ _ _ | .eqAgg _ _ _ _=>2
 | .bin _ _ _ _ | .load _ _ | .nilCheck _ | .field _ _ | .index _ _ _ | .indexArr _ _ _ _ | .sliceArr _ _ _ _ _ | .len _ | .b2s _ | .slice _ _ _ _ | .sliceV _ _ _ _ | .call _ _ _=>1
 | _=>0
def kAll (ops:List (VO × List Nat)) (B:List Nat):List Nat:=
 (List.range ops.length).map fun i=>match ops[i]? with
  | some q=>cond (isCall q.1.op&&(List.range ops.length).any fun j=>match ops[j]? with
    | some r=>Nat.beq (kOp r.1.op) 0&&anc B i j
    | none=>false) 0 (kOp q.1.op)
  | none=>0
def kAllC (ops:List (VO × List Nat)):List Nat:=ops.map fun q=>cond (isCall q.1.op) 0 (kOp q.1.op)
def genPre (ops:List (VO × List Nat)) (B ks:List Nat):Nat→List Nat→List (Nat × Nat) × List Nat
 | 0,l=>([],l)
 | f+1,l=>match (vready ops l).filter fun i=>!Nat.beq ((ks[i]?).getD 0) 0 with
   | []=>([],l)
   | i::_=>
     let rest:=(List.range ops.length).filter fun e=>Nat.beq ((ks[e]?).getD 0) 0&&!memN l e
     let k:=cond (Nat.beq ((ks[i]?).getD 0) 1&&rest.all fun e=>anc B e i) 1 2
     let q:=genPre ops B ks f (i::l)
     ((k,i)::q.1,q.2)
def chainT (g:Nat→OT):List Nat→OT
 | []=>.stop
 | i::r=>.br [] i (g i) (chainT g r)
def genT (ops:List (VO × List Nat)) (B ks:List Nat):Nat→List Nat→OT
 | 0,_=>.stop
 | f+1,l=>
   let q:=genPre ops B ks ops.length l
   match vready ops q.2 with
   | []=>.fin q.1
   | i::r=>.br q.1 i (genT ops B ks f (i::q.2)) (chainT (fun j=>genT ops B ks f (j::q.2)) r)
def xtH (call:XC) (ext:XE) (n:Nat) (ops:List (VO × List Nat)):OT→(List PV→VHeap→List VHeap) × (List PV→VHeap→List VHeap)
 | .fin pre=>(xheaps call ext n (ordOps ops pre),fun _ _=>[])
 | .br pre i r m=>
   let b:=fun E σ=>(match xo call ext n (opAt ops i) E σ with
    | some (E2,σ2)=>σ2::(xtH call ext n ops r).1 E2 σ2
    | none=>[])++(xtH call ext n ops m).2 E σ
   (fun E σ=>match xseq call ext n [σ] (ordOps ops pre) E σ with
    | some (E1,σ1)=>σ1::b E1 σ1
    | none=>[],b)
 | .stop=>(fun _ _=>[],fun _ _=>[])
def isStop:OT→Bool
 | .stop=>true
 | _=>false
def eqRun (a b:List PV × VHeap):Bool:=eqL (eqPV 9) a.1 b.1&&eqH a.2 b.2
theorem eqRun_ok {a b:List PV × VHeap} (h:eqRun a b=true):a=b:=by
 unfold eqRun at h
 rw[Bool.and_eq_true] at h
 obtain⟨a1,a2⟩:=a
 obtain⟨b1,b2⟩:=b
 have h1:=eqL_ok (eqPV_ok 9) _ _ h.1
 have h2:=eqH_ok _ _ h.2
 dsimp only at h1 h2
 rw[h1,h2]
def xt (call:XC) (ext:XE) (n:Nat) (hs:List VHeap) (ops:List (VO × List Nat)):OT→(List PV→VHeap→Option (List PV × VHeap)) × (List PV→VHeap→Option (List PV × VHeap))
 | .fin pre=>(xseq call ext n hs (ordOps ops pre),fun _ _=>none)
 | .br pre i r m=>
   let b:=fun E σ=>match xo call ext n (opAt ops i) E σ with
    | some (E2,σ2)=>if hs.any (eqH σ2)=true then match (xt call ext n hs ops r).1 E2 σ2 with
      | some q=>if isStop m=true then some q else match (xt call ext n hs ops m).2 E σ with
        | some q'=>if eqRun q' q=true then some q else none
        | none=>none
      | none=>none
      else none
    | none=>none
   (fun E σ=>match xseq call ext n hs (ordOps ops pre) E σ with
    | some (E1,σ1)=>b E1 σ1
    | none=>none,b)
 | .stop=>(fun _ _=>none,fun _ _=>none)
def xtree (call:XC) (ext:XE) (n:Nat) (ops:List (VO × List Nat)) (B ks:List Nat) (E:List PV) (σ:VHeap):Option (List PV × VHeap):=
 let T:=genT ops B ks ops.length []
 if okTree ops T B=true∧befs (ops.map (·.2)) []=B then(xt call ext n (σ::(xtH call ext n ops T).1 E σ) ops T).1 E σ else none
def xc (call:XC) (ext:XE) (n fuel:Nat):VC→List PV→VHeap→Option (VE × List PV × VHeap)
 | .skip,E,σ=>some (.normal,E,σ)
 | .region ops,E,σ=>match xos call ext n ops E σ with
   | some (E',σ')=>some (.normal,E',σ')
   | none=>none
 | .seq x y,E,σ=>match xc call ext n fuel x E σ with
   | some (.normal,E',σ')=>xc call ext n fuel y E' σ'
   | r=>r
 | .cond c x y,E,σ=>match va (tenv E) c with
   | .bool true=>xc call ext n fuel x E σ
   | .bool false=>xc call ext n fuel y E σ
   | _=>none
 | .block id c,E,σ=>match xc call ext n fuel c E σ with
   | some (.exit id',E',σ')=>if Nat.beq id' id=true then some (.normal,E',σ') else some (.exit id',E',σ')
   | r=>r
 | .loop c,E,σ=>xloop (xc call ext n fuel c) fuel E σ
 | .exit id,E,σ=>some (.exit id,E,σ)
 | .ret,E,σ=>some (.ret,E,σ)
 | .dreg ops ord B,E,σ=>match xdreg call ext n ops B ord E σ with
   | some q=>some (.normal,q)
   | none=>match xdreg call ext n ops B (ordC ops false ord) E σ with
     | some q=>some (.normal,q)
     | none=>match xtree call ext n ops B (kAll ops B) E σ with
       | some q=>some (.normal,q)
       | none=>match xtree call ext n ops B (kAllC ops) E σ with
         | some q=>some (.normal,q)
         | none=>none
 | .stuck,_,_=>none
section
variable {P:Program} [Glob] {call:XC} {ext:XE} (hc:CallOk P call) (he:ExtOk P ext)
include hc he
theorem xo_ok {n:Nat} {o:VO} {E E':List PV} {σ σ':VHeap} (h:xo call ext n o E σ=some (E',σ')) {K:Env→VHeap→Prop} (hk:K (tenv E') σ'):vrunOps P n K [o] (tenv E) σ:=by
 have run:∀ {v:PV} {σ1:VHeap},xop call ext n E σ o.op=some (v,σ1)→(match tset E o.dst v with|some E'=>some (E',σ1)|none=>none)=some (E',σ')→vop P n (tenv E) σ (fun v σ'=>vrunOps P n K [] (eput (tenv E) o.dst v) σ') o.op:=by
  intro v σ1 h1 h2
  split at h2
  ·rename_i ht;cases h2
   refine xop_ok hc he h1 ?_
   rw[← tset_ok ht];exact hk
  ·cases h2
 have skip:(match tset E o.dst (.tup []) with|some E'=>some (E',σ)|none=>none)=some (E',σ')→vrunOps P n K [] (eput (tenv E) o.dst (.tup [])) σ:=by
  intro h2
  split at h2
  ·rename_i ht;cases h2;rw[← tset_ok ht];exact hk
  ·cases h2
 unfold xo at h
 simp only[vrunOps]
 split at h
 ·rename_i hg
  simp only[hg]
  split at h
  ·rename_i h1;exact run h1 h
  ·cases h
 ·rename_i s b hg
  simp only[hg]
  split at h
  ·rename_i c hs
   simp only[hs]
   split at h
   ·rename_i e;rw[if_pos e]
    split at h
    ·rename_i h1;exact run h1 h
    ·cases h
   ·rename_i e;rw[if_neg e];exact skip h
  ·rename_i hs;simp only[hs];exact skip h
  ·cases h
theorem xos_ok {n:Nat}:∀ (l:List VO) {E E':List PV} {σ σ':VHeap},xos call ext n l E σ=some (E',σ')→∀ {K:Env→VHeap→Prop},K (tenv E') σ'→vrunOps P n K l (tenv E) σ
 | [],_,_,_,_,h,_,hk=>by cases h;exact hk
 | o::r,E,E',σ,σ',h,K,hk=>by
   rw[xos] at h
   split at h
   ·rename_i h1
    exact rcons (xo_ok hc he h1 (xos_ok r h hk))
   ·cases h
theorem xlo_ok {n:Nat} {o:VO} {E:List PV} {σ:VHeap} {v:PV} (h:xlo call ext o E σ=some v):YO P n o (tenv E) σ v:=by
 obtain⟨d,op,g⟩:=o
 unfold xlo at h
 dsimp only at h
 split at h
 ·exact yn (xlook_ok hc he h)
 ·rename_i s b
  split at h
  ·rename_i c hs
   split at h
   ·rename_i e;subst e;exact yt hs (xlook_ok hc he h)
   ·rename_i e;cases h;exact yf (by rw[hs];cases c<;>cases b<;>first|rfl|exact(e rfl).elim)
  ·rename_i hs;cases h;exact yu hs
  ·cases h
theorem xseq_ok {n:Nat} {hs:List VHeap}:∀ (l:List (Nat × VO)) {E E':List PV} {σ σ':VHeap},xseq call ext n hs l E σ=some (E',σ')→∀ {K:Env→VHeap→Prop},K (tenv E') σ'→vseq P n (fun h=>h∈hs) K l (tenv E) σ
 | [],_,_,_,_,h,_,hk=>by cases h;exact hk
 | (0,o)::r,E,E',σ,σ',h,K,hk=>by
   rw[xseq] at h
   split at h
   ·rename_i h1
    split at h
    ·rename_i h2
     refine sv_0 (xo_ok hc he h1 ⟨?_,xseq_ok r h hk⟩)
     obtain⟨x,hx,e⟩:=List.any_eq_true.1 h2
     rw[eqH_ok _ _ e];exact hx
    ·cases h
   ·cases h
 | (1,o)::r,E,E',σ,σ',h,K,hk=>by
   rw[xseq] at h
   split at h
   ·rename_i h1
    split at h
    ·rename_i h2
     refine sv_1 (xlo_ok hc he h1) ?_
     rw[← tset_ok h2];exact xseq_ok r h hk
    ·cases h
   ·cases h
 | (m+2,o)::r,E,E',σ,σ',h,K,hk=>by
   rw[xseq] at h
   split at h
   ·rename_i v h1
    split at h
    ·rename_i h3
     split at h
     ·rename_i h2
      refine⟨v,fun s hsm=>?_,?_⟩
      ·have:=List.all_eq_true.1 h3 s hsm
       split at this
       ·rename_i v' hv'
        have e:=eqPV_ok 9 _ _ this
        subst e
        exact xlo_ok hc he hv'
       ·cases this
      ·rw[← tset_ok h2];exact xseq_ok r h hk
     ·cases h
    ·cases h
   ·cases h
theorem xdreg_ok {n:Nat} {ops:List (VO × List Nat)} {B:List Nat} {ord ord':List (Nat × Nat)} {E E':List PV} {σ σ':VHeap} {Q:QP} (h:xdreg call ext n ops B ord E σ=some (E',σ')) (hk:Q .normal (tenv E') σ'):vrun P n (.dreg ops ord' B) (tenv E) σ Q:=by
 unfold xdreg at h
 split at h
 case isFalse=>cases h
 rename_i h0
 split at h
 ·rename_i h1
  split at h
  ·rename_i h2
   cases h
   refine dr _ ord h0.2 h0.1 rfl ?_ (xseq_ok hc he _ h1 hk)
   obtain⟨x,hx,e⟩:=List.any_eq_true.1 h2
   rw[← eqH_ok _ _ e] at hx;exact hx
  ·cases h
 ·cases h
theorem xt_ok {n:Nat} {hs:List VHeap} {ops:List (VO × List Nat)} {K:Env→VHeap→Prop} {q:List PV × VHeap} (hk:K (tenv q.1) q.2):∀ (T:OT),
  (∀ (E:List PV) (σ:VHeap),(xt call ext n hs ops T).1 E σ=some q→(vta P n (fun h=>h∈hs) K ops T).1 (tenv E) σ)∧
  (∀ (E:List PV) (σ:VHeap),(xt call ext n hs ops T).2 E σ=some q→(vta P n (fun h=>h∈hs) K ops T).2 (tenv E) σ)
 | .fin pre=>⟨fun E σ h=>by
   obtain⟨E',σ'⟩:=q
   rw[xt] at h
   exact xseq_ok hc he _ h hk,fun E σ h=>by rw[xt] at h;cases h⟩
 | .stop=>⟨fun E σ h=>(by rw[xt] at h;cases h),fun E σ h=>(by rw[xt] at h;cases h)⟩
 | .br pre i r m=>by
   have br:∀ (E:List PV) (σ:VHeap),(xt call ext n hs ops (.br pre i r m)).2 E σ=some q→(vta P n (fun h=>h∈hs) K ops (.br pre i r m)).2 (tenv E) σ:=by
    intro E σ h
    rw[xt] at h
    dsimp only at h
    split at h
    ·rename_i E2 σ2 h1
     split at h
     ·rename_i h2
      split at h
      ·rename_i q1 h3
       have e1:q1=q:=by
        split at h
        ·exact Option.some.inj h
        ·split at h
         ·split at h
          ·exact Option.some.inj h
          ·cases h
         ·cases h
       subst e1
       refine⟨xo_ok hc he h1 ⟨?_,(xt_ok hk r).1 _ _ h3⟩,?_⟩
       ·obtain⟨x,hx,e⟩:=List.any_eq_true.1 h2
        rw[eqH_ok _ _ e];exact hx
       ·cases m with
        | stop=>exact va_stop
        | fin p2=>
          split at h
          ·rename_i hst;cases hst
          ·split at h
           ·rename_i q' h4
            split at h
            ·rename_i h5
             have:=eqRun_ok h5;subst this
             exact(xt_ok hk (.fin p2)).2 _ _ h4
            ·cases h
           ·cases h
        | br p2 i2 r2 m2=>
          split at h
          ·rename_i hst;cases hst
          ·split at h
           ·rename_i q' h4
            split at h
            ·rename_i h5
             have:=eqRun_ok h5;subst this
             exact(xt_ok hk (.br p2 i2 r2 m2)).2 _ _ h4
            ·cases h
           ·cases h
      ·cases h
     ·cases h
    ·cases h
   refine⟨fun E σ h=>?_,br⟩
   have h':=h
   rw[xt] at h'
   dsimp only at h'
   split at h'
   ·rename_i E1 σ1 h1
    show vseq P n (fun h=>h∈hs) (fun e s=>(vta P n (fun h=>h∈hs) K ops (.br pre i r m)).2 e s) (ordOps ops pre) (tenv E) σ
    refine xseq_ok hc he _ h1 (br E1 σ1 ?_)
    rw[xt]
    exact h'
   ·cases h'
theorem xtree_ok {n:Nat} {ops:List (VO × List Nat)} {B ks:List Nat} {ord':List (Nat × Nat)} {E E':List PV} {σ σ':VHeap} {Q:QP} (h:xtree call ext n ops B ks E σ=some (E',σ')) (hk:Q .normal (tenv E') σ'):vrun P n (.dreg ops ord' B) (tenv E) σ Q:=by
 unfold xtree at h
 dsimp only at h
 split at h
 ·rename_i h0
  exact drTree _ _ h0.2 h0.1 List.mem_cons_self ((xt_ok (q:=(E',σ')) (K:=fun e s=>Q .normal e s) hc he hk _).1 _ _ h)
 ·cases h
theorem xc_ok {n fuel:Nat}:∀ (c:VC) {E E':List PV} {σ σ':VHeap} {e:VE},xc call ext n fuel c E σ=some (e,E',σ')→∀ {Q:QP},Q e (tenv E') σ'→vrun P n c (tenv E) σ Q
 | .skip,_,_,_,_,_,h,_,hk=>by cases h;exact hk
 | .region ops,E,E',σ,σ',e,h,Q,hk=>by
   rw[xc] at h
   split at h
   ·rename_i h1;cases h;exact xos_ok hc he ops h1 hk
   ·cases h
 | .seq x y,E,E',σ,σ',e,h,Q,hk=>by
   rw[xc] at h
   show vrun P n x (tenv E) σ (Q.then fun env σ=>vrun P n y env σ Q)
   split at h
   ·rename_i h1
    exact xc_ok x h1 (xc_ok y h hk)
   ·rename_i h1
    refine xc_ok x h ?_
    cases e with
    | normal=>exact(h1 _ _ h).elim
    | exit id=>exact hk
    | ret=>exact hk
 | .cond c x y,E,E',σ,σ',e,h,Q,hk=>by
   rw[xc] at h
   split at h
   ·rename_i h1;exact sc_condT h1 (xc_ok x h hk)
   ·rename_i h1;exact sc_condF h1 (xc_ok y h hk)
   ·cases h
 | .block id c,E,E',σ,σ',e,h,Q,hk=>by
   rw[xc] at h
   show vrun P n c (tenv E) σ (Q.block id)
   split at h
   ·rename_i id' _ _ h1
    refine xc_ok c h1 ?_
    split at h
    ·rename_i hb;cases h
     have hb:=Nat.eq_of_beq_eq_true hb;subst hb
     simp only[QP.block,if_true];exact hk
    ·rename_i hb;cases h
     simp only[QP.block];rw[if_neg (fun e=>hb (by rw[e];exact Nat.beq_refl _))];exact hk
   ·rename_i h1
    refine xc_ok c h ?_
    cases e with
    | normal=>exact hk
    | exit id=>exact(h1 _ _ _ h).elim
    | ret=>exact hk
 | .loop c,E,E',σ,σ',e,h,Q,hk=>by
   rw[xc] at h
   refine⟨fun k env s=>∃ E1,env=tenv E1∧xloop (xc call ext n fuel c) k E1 s=some (e,E',σ'),⟨fuel,E,rfl,h⟩,?_⟩
   rintro k _ s ⟨E1,rfl,hx⟩
   cases k with
   | zero=>cases hx
   | succ k=>
     rw[xloop] at hx
     split at hx
     ·rename_i h1
      exact xc_ok c h1 ⟨k,Nat.lt_succ_self k,_,rfl,hx⟩
     ·rename_i h1
      refine xc_ok c hx ?_
      cases e with
      | normal=>exact(h1 _ _ hx).elim
      | exit id=>exact hk
      | ret=>exact hk
 | .exit id,_,_,_,_,_,h,_,hk=>by cases h;exact hk
 | .ret,_,_,_,_,_,h,_,hk=>by cases h;exact hk
 | .dreg ops ord B,E,E',σ,σ',e,h,Q,hk=>by
   rw[xc] at h
   split at h
   ·rename_i h1;cases h;exact xdreg_ok hc he h1 hk
   ·split at h
    ·rename_i h1;cases h;exact xdreg_ok hc he h1 hk
    ·split at h
     ·rename_i h1;cases h;exact xtree_ok hc he h1 hk
     ·split at h
      ·rename_i h1;cases h;exact xtree_ok hc he h1 hk
      ·cases h
 | .stuck,_,_,_,_,_,h,_,_=>by cases h
end
def xtab:List (Nat × VFun)→Nat→Option VFun
 | [],_=>none
 | (k,v)::r,f=>if Nat.beq k f=true then some v else xtab r f
def xtrim (n:Nat) (r:PV) (h:VHeap):PV × VHeap:=
 if Nat.ble n h.length=true∧belB n 9 r=true∧((h.take n).all fun x=>belOB n x.2)=true then(r,h.take n) else(r,h)
def xret (vf:VFun) (n:Nat):Option (VE × List PV × VHeap)→Option (PV × VHeap)
 | some (.exit _,_,_)=>none
 | some (_,E,h)=>match rvAll (tenv E) h vf.results with
   | some r=>some (if vf.raw then xtrim n r h else xtrim n (inl h r) (frz h r))
   | none=>none
 | none=>none
def xcall (tab:List (Nat × VFun)) (ext spec:XE) (fuel:Nat):Nat→XC
 | 0,_,_,_=>none
 | k+1,f,args,σ=>match spec f args with
   | some r=>some (r,σ)
   | none=>match xtab tab f with
     | some vf=>if Nat.ble args.length vf.ntmps=true then
       xret vf σ.length (xc (xcall tab ext spec fuel k) ext σ.length fuel vf.body (args++List.replicate (vf.ntmps - args.length) (.tup [])) (σ++vdead vf.nsites))
       else none
     | none=>none
def SpecOk [Glob] (P:Program) (spec:XE):Prop:=∀ f args v,spec f args=some v→U P f args v
def FunOk [Glob] (P:Program) (f:Nat) (vf:VFun):Prop:=∃ fn raw,P.funcs[f]?=some fn∧cFun P raw vf.raw fn=some vf
def TabOk [Glob] (P:Program) (tab:List (Nat × VFun)):Prop:=∀ p,p∈tab→FunOk P p.1 p.2
theorem TabOk.nil [Glob] {P:Program}:TabOk P []:=fun _ h=>by simp at h
theorem TabOk.cons [Glob] {P:Program} {f:Nat} {vf:VFun} {tab:List (Nat × VFun)} (h:FunOk P f vf) (k:TabOk P tab):TabOk P ((f,vf)::tab):=fun p hp=>by
 rcases List.mem_cons.1 hp with rfl|hp
 ·exact h
 ·exact k p hp
theorem xtab_mem:∀ {tab:List (Nat × VFun)} {f:Nat} {vf:VFun},xtab tab f=some vf→(f,vf)∈tab
 | [],_,_,h=>by cases h
 | (k,v)::r,f,vf,h=>by
   rw[xtab] at h
   split at h
   ·rename_i e;cases h;rw[Nat.eq_of_beq_eq_true e];exact List.mem_cons_self
   ·exact List.mem_cons_of_mem _ (xtab_mem h)
theorem tenv_args (args:List PV) (m:Nat):tenv (args++List.replicate m (.tup []))=argsEnv args:=by
 funext i
 simp only[tenv,argsEnv]
 by_cases h:i<args.length
 ·rw[List.getElem?_append_left h]
 ·rw[List.getElem?_append_right (by omega),List.getElem?_eq_none (l:=args) (by omega),List.getElem?_replicate]
  split<;>rfl
theorem xtrim_ok {n:Nat} {r r':PV} {h h':VHeap} (e:xtrim n r h=(r',h')) {Post:KP} (hk:Post r' h'):Post r h∨TrimP n Post r h:=by
 unfold xtrim at e
 split at e
 ·rename_i hh
  cases e
  refine .inr ⟨h.take n,h.drop n,(List.take_append_drop n h).symm,by rw[List.length_take];have:=Nat.le_of_ble_eq_true hh.1;omega,belB_ok 9 _ hh.2.1,fun x hx=>belOB_ok _ (List.all_eq_true.1 hh.2.2 x hx),hk⟩
 ·cases e;exact .inl hk
theorem xcall_ok [Glob] {P:Program} {tab:List (Nat × VFun)} {ext spec:XE} {fuel:Nat} (ht:TabOk P tab) (he:ExtOk P ext) (hsp:SpecOk P spec):∀ k,CallOk P (xcall tab ext spec fuel k):=by
 intro k
 induction k with
 | zero=>intro f args σ v σ' h;cases h
 | succ k ih=>
   intro f args σ v σ' h Post hk
   rw[xcall] at h
   split at h
   ·rename_i hr;cases h;exact hsp _ _ _ hr _ _ hk
   ·split at h
    case h_2=>cases h
    rename_i vf hv
    split at h
    case isFalse=>cases h
    rename_i hle
    obtain⟨fn,raw,h1,h2⟩:=ht _ (xtab_mem hv)
    have hle:=Nat.le_of_ble_eq_true hle
    have fin:∀ {e:VE} {E:List PV} {hh:VHeap},xc (xcall tab ext spec fuel k) ext σ.length fuel vf.body (args++List.replicate (vf.ntmps - args.length) (.tup [])) (σ++vdead vf.nsites)=some (e,E,hh)→(e=.normal∨e=.ret)→
      (match rvAll (tenv E) hh vf.results with|some r=>some (if vf.raw then xtrim σ.length r hh else xtrim σ.length (inl hh r) (frz hh r))|none=>none)=some (v,σ')→T P f args σ Post:=by
     intro e E hh hx hcase h
     split at h
     case h_2=>cases h
     rename_i r hr
     have body:∀ {Post':KP},(if vf.raw then Post' r hh else Post' (inl hh r) (frz hh r))→vrun P σ.length vf.body (argsEnv args) (σ++vdead vf.nsites) (vend vf Post'):=by
      intro Post' hp
      have:=xc_ok ih he vf.body hx (Q:=vend vf Post') (by
       rcases hcase with rfl|rfl
       ·show vret _ _ _ _;rw[hr];exact hp
       ·show vret _ _ _ _;rw[hr];exact hp)
      rw[tenv_args] at this;exact this
     have key:(if vf.raw then Post r hh else Post (inl hh r) (frz hh r))∨(if vf.raw then TrimP σ.length Post r hh else TrimP σ.length Post (inl hh r) (frz hh r)):=by
      have h:=Option.some.inj h
      split at h
      ·rename_i hraw;simp only[hraw,if_true];exact xtrim_ok h hk
      ·rename_i hraw;simp only[hraw];exact xtrim_ok h hk
     rcases key with key|key
     ·exact T_of h1 h2 ⟨hle,body key⟩
     ·exact T.start fun _ _=>T_of h1 h2 ⟨hle,body key⟩
    unfold xret at h
    split at h
    ·cases h
    ·rename_i e E hh hne hx
     refine fin hx ?_ h
     cases e with
     | normal=>exact .inl rfl
     | ret=>exact .inr rfl
     | exit id=>exact(hne _ rfl).elim
    ·cases h
theorem U_run [Glob] {P:Program} {f:FuncId} {r:PV} (hr:flatB 9 r=true) (hg:∀ g cells,Glob.tab g=some cells→ClL cells) (h:T P f [] [] fun v _=>v=r):U P f [] r:=by
 intro σ Post hk w β vs h1 h2 h3 h4
 have hvs:vs=#[]:=Array.size_eq_zero_iff.1 h1
 subst hvs
 have s0:Sim [] β w:=⟨fun _ _ _ h=>by simp at h,fun _ _ _ _ _ _ _ h=>by simp at h⟩
 have g0:GloRep w [] β:=fun g cells e=>by
  obtain⟨ff,a1,a2,a3⟩:=h4 g cells e
  refine⟨ff,still_part (L:=σ) a1,fun j c hj=>?_,a3⟩
  exact Rep.part (σ:=[]) (L:=σ) (a2 j c hj) (belL_iff.1 ((hg g cells e).cl 0) c (List.mem_of_getElem? hj))
 refine(h w β #[] rfl (fun i c v h=>by simp at h) s0 g0).mono ?_
 rintro e w' ⟨v,r',σ',β',rfl,rfl,e3,_,e5⟩
 have old:∀ b,b<w.heap.size→w'.heap[b]?=w.heap[b]?:=fun b hb=>e5.own b hb (by rintro ⟨i,g,o,h1,_⟩;simp at h1)
 have hs:Step σ β w σ β w':=
  ⟨e5.os,e5.tape,e5.output,e5.size,fun b hb _=>old b hb,fun a v hc _=>by rw[cell_of_heap (old _ (cell_lt hc))];exact hc,fun _ _ h=>h,fun _ _ _ h=>h,
   fun b arr ty fr hb=>⟨arr,(old b (Array.getElem?_eq_some_iff.1 hb).1).trans hb,rfl⟩,fun i gi oi h1=>⟨gi,oi,h1,Nat.le_refl _,fun _=>⟨oi.alike_refl,rfl⟩⟩⟩
 refine⟨v,_,σ,β,rfl,hk,flat_rep 9 _ _ hr e3,⟨fun i gi oi h1=>?_,h3.inj⟩,hs⟩
 by_cases hl:oi.live
 ·exact(h3.obj i gi oi h1).step hs fun b hb=>old b (h3.lt h1 hl hb)
 ·cases oi<;>simp[VObj.live] at hl;trivial
theorem U_kernel [Glob] {P:Program} {tab:List (Nat × VFun)} {ext spec:XE} {f:FuncId} (fuel k:Nat) (r:PV) (ht:TabOk P tab) (he:ExtOk P ext) (hsp:SpecOk P spec) (hg:∀ g cells,Glob.tab g=some cells→ClL cells)
  (hr:flatB 9 r=true) (h:(match xcall tab ext spec fuel k f [] [] with|some (v,_)=>eqPV 9 v r|none=>false)=true):U P f [] r:=by
 refine U_run hr hg ?_
 split at h
 ·rename_i v σ' hx
  exact xcall_ok ht he hsp k f [] [] v σ' hx _ (eqPV_ok 9 _ _ h)
 ·cases h
section
variable {k:IntKind} {a b x:Int}
theorem w_i64 (h1:-9223372036854775808≤x) (h2:x≤9223372036854775807):IntKind.i64.wrap x=x:=by unfold IntKind.wrap;simp[IntKind.bits,IntKind.signed];omega
theorem w_i32 (h1:-2147483648≤x) (h2:x≤2147483647):IntKind.i32.wrap x=x:=by unfold IntKind.wrap;simp[IntKind.bits,IntKind.signed];omega
theorem w_u8 (h1:0≤x) (h2:x≤255):IntKind.u8.wrap x=x:=by unfold IntKind.wrap;simp[IntKind.bits,IntKind.signed];omega
theorem w_u16 (h1:0≤x) (h2:x≤65535):IntKind.u16.wrap x=x:=by unfold IntKind.wrap;simp[IntKind.bits,IntKind.signed];omega
theorem w_u32 (h1:0≤x) (h2:x≤4294967295):IntKind.u32.wrap x=x:=by unfold IntKind.wrap;simp[IntKind.bits,IntKind.signed];omega
theorem w_u64 (h1:0≤x) (h2:x≤18446744073709551615):IntKind.u64.wrap x=x:=by unfold IntKind.wrap;simp[IntKind.bits,IntKind.signed];omega
theorem ib_add (h:k.wrap (a+b)=a+b):ibin .add k a k b=some (.int k (a+b)):=by simp[ibin,h]
theorem ib_sub (h:k.wrap (a - b)=a - b):ibin .sub k a k b=some (.int k (a - b)):=by simp[ibin,h]
theorem ib_mul (h:k.wrap (a * b)=a * b):ibin .mul k a k b=some (.int k (a * b)):=by simp[ibin,h]
theorem ib_lss:ibin .lss k a k b=some (.bool (decide (a<b))):=by simp[ibin]
theorem ib_leq:ibin .leq k a k b=some (.bool (decide (a≤b))):=by simp[ibin]
theorem ib_gtr:ibin .gtr k a k b=some (.bool (decide (b<a))):=by simp[ibin]
theorem ib_geq:ibin .geq k a k b=some (.bool (decide (b≤a))):=by simp[ibin]
theorem ib_eql:ibin .eql k a k b=some (.bool (decide (a=b))):=by simp[ibin];rw[Bool.eq_iff_iff];simp
theorem ib_neq:ibin .neq k a k b=some (.bool (decide (a≠b))):=by simp[ibin];rw[Bool.eq_iff_iff];simp
theorem ib_lssT (h:a<b):ibin .lss k a k b=some (.bool true):=by simp[ibin,h]
theorem ib_lssF (h:¬ a<b):ibin .lss k a k b=some (.bool false):=by simp[ibin];omega
theorem ib_leqT (h:a≤b):ibin .leq k a k b=some (.bool true):=by simp[ibin,h]
theorem ib_leqF (h:¬ a≤b):ibin .leq k a k b=some (.bool false):=by simp[ibin];omega
theorem ib_gtrT (h:a > b):ibin .gtr k a k b=some (.bool true):=by simp[ibin];omega
theorem ib_gtrF (h:¬ a > b):ibin .gtr k a k b=some (.bool false):=by simp[ibin];omega
theorem ib_geqT (h:a≥b):ibin .geq k a k b=some (.bool true):=by simp[ibin];omega
theorem ib_geqF (h:¬ a≥b):ibin .geq k a k b=some (.bool false):=by simp[ibin];omega
theorem ib_eqlT (h:a=b):ibin .eql k a k b=some (.bool true):=by simp[ibin,h]
theorem ib_eqlF (h:¬ a=b):ibin .eql k a k b=some (.bool false):=by simp[ibin,h]
theorem ib_neqT (h:¬ a=b):ibin .neq k a k b=some (.bool true):=by simp[ibin,h]
theorem ib_neqF (h:a=b):ibin .neq k a k b=some (.bool false):=by simp[ibin,h]
end
section
variable {s t:List UInt8}
theorem sb_eqlT (h:s=t):sbin .eql s t=some (.bool true):=by simp[sbin,h]
theorem sb_eql:sbin .eql s t=some (.bool (decide (s=t))):=by simp[sbin];rw[Bool.eq_iff_iff];simp
theorem sb_neq:sbin .neq s t=some (.bool (decide (s≠t))):=by simp[sbin];rw[Bool.eq_iff_iff];simp
theorem sb_add (h:s.length+t.length≤9223372036854775807):sbin .add s t=some (.str (s++t)):=by simp[sbin,h]
end
theorem belH_setB {σ:VHeap} {n id g:Nat} {cs:List PV} {fz:Bool} [k:ClL cs] (h:belH n σ):belH n (σ.set id (g,.box cs fz)):=belH_set h (k.cl n)
theorem belH_setR {σ:VHeap} {n id g sz:Nat} {es:List (List PV)} {fz:Bool} [k:ClLL es] (h:belH n σ):belH n (σ.set id (g,.row sz es fz)):=belH_set h (k.cl n)
theorem pc_agg (cs:List PV):pcells (.agg cs)=cs:=rfl
theorem spl_0 (c v:PV) (cs:List PV):splice (c::cs) 0 [v]=v::cs:=rfl
theorem spl_s {c:PV} {cs ds r:List PV} {k:Nat} (h:splice cs k ds=r):splice (c::cs) (k+1) ds=c::r:=by
 subst h
 unfold splice
 have:k+1+ds.length=(k+ds.length)+1:=by omega
 rw[List.take_succ_cons,this,List.drop_succ_cons];rfl
theorem gi {α:Type} {l:List α} {i:Nat} (h:i<l.length):l[i]?=some l[i]:=List.getElem?_eq_getElem h
theorem bd_i {q:IntKind} {i:Int} {d:Nat} (h:0≤i):bound (some (.int q i)) d=some i.toNat:=by simp[bound,h]
theorem bd_s {env:Env} {x:VA} {q:IntKind} {i:Int} {d:Nat} (e:va env x=.int q i) (h:0≤i):bound ((some x).map (va env)) d=some i.toNat:=by simp[bound,e,h]
theorem mapn (env:Env):List.map (va env) []=[]:=rfl
theorem mapc {env:Env} {x:VA} {v:PV} {as:List VA} {vs:List PV} (h:va env x=v) (k:as.map (va env)=vs):(x::as).map (va env)=v::vs:=by rw[List.map_cons,h,k]
@[reducible] def byt (b:UInt8):PV:=.int .u8 b.toNat
@[reducible] def bsl (l:List UInt8):List (List PV):=l.map fun b=>[byt b]
theorem bsl_len (l:List UInt8):(bsl l).length=l.length:=by simp[bsl]
theorem bytesEs_len (l:List UInt8):(bytesEs l).length=l.length:=by simp[bytesEs]
theorem szm {α:Type} {k:Nat} (l:List α) (f:α→List PV) (h:∀ x,(f x).length=k):∀ e,e∈l.map f→e.length=k:=by intro e he;obtain⟨x,_,rfl⟩:=List.mem_map.1 he;exact h x
theorem gim {α:Type} {l:List α} {f:α→List PV} {i:Nat} {x:α} (h:l[i]?=some x):(l.map f)[i]?=some (f x):=by rw[List.getElem?_map,h];rfl
theorem gimL {α:Type} {l:List α} {f:α→List PV} {i:Nat} (h:i<l.length):(l.map f)[(i:Int).toNat]?=some (f l[i]):=by rw[Int.toNat_natCast,List.getElem?_map,List.getElem?_eq_getElem h];rfl
theorem giL {α:Type} {l:List α} {i:Nat} (h:i<l.length):l[(i:Int).toNat]?=some l[i]:=List.getElem?_eq_getElem h
theorem fr_nil (sz:Nat) (es:List (List PV)) (env:Env):vFillRow sz es (([]:List (Nat × VA)).map fun q=>(q.1,va env q.2))=some es:=rfl
theorem fr_cons {sz i:Nat} {es es' r:List (List PV)} {env:Env} {x:VA} {v:PV} {cs:List PV} {q:List (Nat × VA)} (e:va env x=v) (hp:pcells v=cs) (hl:cs.length=sz) (hs:cs.all scalar=true) (hi:i<es.length) (he:es.set i cs=es')
  (k:vFillRow sz es' (q.map fun q=>(q.1,va env q.2))=some r):vFillRow sz es (((i,x)::q).map fun q=>(q.1,va env q.2))=some r:=by
 subst hp he
 rw[List.map_cons,vFillRow,e,if_pos ⟨hl,hs,hi⟩];exact k
theorem fl_nil (cs:List PV) (env:Env):vFill cs (([]:List (Nat × Nat × VA)).map fun q=>(q.1,q.2.1,va env q.2.2))=some cs:=rfl
theorem fl_cons {sz off:Nat} {es es' r:List PV} {env:Env} {x:VA} {v:PV} {cs:List PV} {q:List (Nat × Nat × VA)} (e:va env x=v) (hp:pcells v=cs) (hl:cs.length=sz) (hs:cs.all scalar=true) (hi:off+sz≤es.length) (he:splice es off cs=es')
  (k:vFill es' (q.map fun q=>(q.1,q.2.1,va env q.2.2))=some r):vFill es (((off,sz,x)::q).map fun q=>(q.1,q.2.1,va env q.2.2))=some r:=by
 subst hp he
 rw[List.map_cons,vFill,e,if_pos ⟨hl,hs,hi⟩];exact k
theorem ordOps_nil (ops:List (VO × List Nat)):ordOps ops []=[]:=rfl
theorem ordOps_cons {ops:List (VO × List Nat)} {m i:Nat} {r:List (Nat × Nat)} {o:VO} {as:List Nat} {l:List (Nat × VO)} (h:ops[i]?=some (o,as)) (k:ordOps ops r=l):ordOps ops ((m,i)::r)=(m,o)::l:=by
 subst k
 simp only[ordOps,List.map_cons,h]
theorem rowok_m {α:Type} {k:Nat} (l:List α) (f:α→List PV) (h:∀ x,(f x).length=k∧(f x).all scalar=true):RowOk k (l.map f):=by intro e he;obtain⟨x,_,rfl⟩:=List.mem_map.1 he;exact h x
theorem bytesEs_eq (l:List UInt8):bytesEs l=bsl l:=rfl
theorem szb (l:List UInt8):∀ e,e∈bsl l→e.length=1:=by intro e he;obtain⟨b,_,rfl⟩:=List.mem_map.1 he;rfl
theorem byteOf_byt (b:UInt8):byteOf [byt b]=some b:=by simp[byteOf]
theorem m_bytes (l:List UInt8):(bsl l).mapM byteOf=some l:=by
 unfold bsl
 induction l with
 | nil=>rfl
 | cons b l ih=>rw[List.map_cons,List.mapM_cons,byteOf_byt,ih];rfl
theorem m_bytesEs (l:List UInt8):(bytesEs l).mapM byteOf=some l:=m_bytes l
theorem szs (k:Nat):∀ e,e∈([]:List (List PV))→e.length=k:=by simp
theorem rowok1 {c:List PV} {sz:Nat} (h:(Nat.beq c.length sz&&c.all scalar)=true):RowOk sz [c]:=by
 intro e he
 simp at he;subst he
 simp only[Bool.and_eq_true] at h
 exact⟨Nat.eq_of_beq_eq_true h.1,h.2⟩
theorem rowok_bytes (l:List UInt8):RowOk 1 (bytesEs l):=by
 intro e he;obtain⟨b,_,rfl⟩:=List.mem_map.1 he;exact⟨rfl,rfl⟩
theorem rowok_bs (l:List UInt8):RowOk 1 (bsl l):=rowok_bytes l
instance (l:List UInt8):ClLL (bytesEs l):=inferInstanceAs (ClLL (bsl l))
section
variable {n:Nat} {env:Env} {σ L h:VHeap} {v:PV}
theorem rd_l {k g sz:Nat} {es:List (List PV)} {fz:Bool} {x:PV} (e:x=.row (n+k) g) (hn:σ.length=n) (hg:vGet L k g=some (.row sz es fz)):rd (σ++L) x=some es:=by
 subst e;simp only[rd,lget hn hg]
theorem rd_v {k g off len:Nat} {cs:List PV} {q:List (List PV)} {fz:Bool} {x:PV} (e:x=.bview (n+k) g off len) (hn:σ.length=n) (hg:vGet L k g=some (.box cs fz)) (hq:VCut cs off len q):rd (σ++L) x=some q:=by
 have hq:=hq.cut
 subst e hq
 simp only[rd,lget hn hg]
theorem ra_row {k g sz:Nat} {es:List (List PV)} {fz:Bool} (hn:σ.length=n) (hg:vGet L k g=some (.row sz es fz)):rdA (σ++L) (.row (n+k) g)=some es:=by
 simp only[rdA,rd,lget hn hg]
theorem ra_view {k g off len:Nat} {cs:List PV} {q:List (List PV)} {fz:Bool} (hn:σ.length=n) (hg:vGet L k g=some (.box cs fz)) (hq:VCut cs off len q):rdA (σ++L) (.bview (n+k) g off len)=some q:=by
 have hq:=hq.cut
 subst hq
 simp only[rdA,rd,lget hn hg]
theorem rv_t {t:Nat} (e:va env (.t t)=v):rvVal env h (.tmp t)=some v:=by simp only[rvVal];rw[e]
theorem rv_c {t id g off:Nat} {sz:Option Nat} {cs:List PV} {fz:Bool} (e:va env (.t t)=.ptr id g off) (hg:vGet h id g=some (.box cs fz)) (hc:cut cs off sz=some v):rvVal env h (.cell t sz)=some v:=by
 simp only[rvVal,ldV];rw[e];simp only[hg,hc]
theorem rv_nil:List.mapM (rvVal env h) []=some []:=rfl
theorem rv_cons {q:RV} {l:List RV} {vs:List PV} (e:rvVal env h q=some v) (k:List.mapM (rvVal env h) l=some vs):List.mapM (rvVal env h) (q::l)=some (v::vs):=by
 rw[List.mapM_cons,e,k];rfl
theorem rv_one {q:RV} (e:rvVal env h q=some v):rvAll env h [q]=some v:=by simp[rvAll,e]
theorem rv_many {l:List RV} {vs:List PV} {r:PV} (e:List.mapM (rvVal env h) l=some vs) (hr:(match vs with|[x]=>x|xs=>.tup xs)=r):rvAll env h l=some r:=by
 unfold rvAll;rw[e];subst hr
 match vs with
 | []=>rfl
 | [_]=>rfl
 | _::_::_=>rfl
theorem drJ [Glob] {P:Program} {ops:List (VO × List Nat)} {B:List Nat} {ord':List (Nat × Nat)} (J:VHeap→Prop) (ord:List (Nat × Nat)) {l:List (Nat × VO)} {Q:QP} (hB:befs (ops.map (·.2)) []=B) (hok:okReg ops ord B=true) (hl:ordOps ops ord=l) (hJ:J h) (hv:vseq P n J (fun e s=>Q .normal e s) l env h):vrun P n (.dreg ops ord' B) env h Q:=
 dr J ord hB hok hl hJ hv
theorem drT [Glob] {P:Program} {ops:List (VO × List Nat)} {B:List Nat} {ord:List (Nat × Nat)} {l:List (Nat × VO)} {Q:QP} (hB:befs (ops.map (·.2)) []=B) (hok:okReg ops ord B=true) (hl:ordOps ops ord=l) (hv:vseq P n (fun _=>True) (fun e s=>Q .normal e s) l env h):vrun P n (.dreg ops ord B) env h Q:=
 dr _ ord hB hok hl trivial hv
end
theorem z_hn {G:Prop} (g:G:=by first|exact rfl|assumption|(simp only[List.length_set];first|done|assumption)|(simp only[List.length_set,List.length_append];first|done|assumption)):G:=g
theorem z_vv {G:Prop} (g:G:=by first|exact rfl|assumption):G:=g
theorem z_ll {G:Prop} (g:G:=by first|(dsimp only[List.length_cons,List.length_nil,Nat.reduceAdd,Nat.zero_add];done)|(dsimp only[List.length_cons,List.length_nil,Nat.reduceAdd,Nat.zero_add];exact rfl)|exact rfl):G:=g
theorem z_vs {G:Prop} (g:G:=by first|exact rfl|(simp only[List.map_nil,List.map_cons];done)|assumption):G:=g
theorem z_lg {G:Prop} (g:G:=by first|exact rfl|exact vGet_of rfl|assumption):G:=g
theorem z_mv {G:Prop} (g:G:=by first|exact(rfl:_=PV.int _ _)|exact(rfl:_=PV.bool _)|exact(rfl:_=PV.ptr _ _ _)|exact(rfl:_=PV.sl _)|exact(rfl:_=PV.agg _)|exact(rfl:_=PV.str _)|exact(rfl:_=PV.row _ _)|exact(rfl:_=PV.tup _)|exact(rfl:_=PV.map _ _)|exact(rfl:_=PV.rptr _ _ _ _)|exact(rfl:_=PV.iptr _ _)|exact(rfl:_=PV.bview _ _ _ _)|exact(rfl:_=PV.rview _ _ _ _)|exact(rfl:_=PV.fn _ _)|exact(rfl:_=PV.iter _ _)|exact(rfl:_=PV.nilp)|exact(rfl:_=PV.nils)|exact(rfl:_=PV.nilm)|exact(rfl:_=PV.undef)|assumption|exact rfl):G:=g
theorem z_wq {G:Prop} (g:G:=by first|exact w_i64 (by omega) (by omega)|exact w_u8 (by omega) (by omega)|exact w_i32 (by omega) (by omega)|exact w_u64 (by omega) (by omega)|exact w_u32 (by omega) (by omega)|exact w_u16 (by omega) (by omega)):G:=g
theorem z_og {G:Prop} (g:G:=by first|assumption|((repeat ((with_reducible apply hget_ne);(first|assumption|omega)));first|assumption|(apply hget_eq;(first|omega|(simp only[List.length_set];omega))))):G:=g
theorem z_hg {G:Prop} (g:G:=by first|((apply lget);(exact z_hn);(exact z_lg))|assumption|((apply oget);exact z_og)|exact z_og):G:=g
theorem z_pc {G:Prop} (g:G:=by first|exact pc_agg _|exact(rfl:_=[_])|exact rfl):G:=g
theorem z_nl {G:Prop} (g:G:=by first|(dsimp only[frzId,vdead,List.replicate,List.getElem?_cons_succ,List.getElem?_cons_zero,List.set_cons_zero,List.set_cons_succ,VObj.freeze,Nat.reduceAdd,List.cons_append,List.nil_append];done)|(dsimp only[frzId,vdead,List.replicate,List.getElem?_cons_succ,List.getElem?_cons_zero,List.set_cons_zero,List.set_cons_succ,VObj.freeze,Nat.reduceAdd,List.cons_append,List.nil_append];exact rfl)|exact rfl):G:=g
theorem z_ns {G:Prop} (g:G:=by first|(with_reducible assumption)|assumption|((repeat (apply spl_s));exact spl_0 _ _ _)|exact rfl):G:=g
theorem z_ct {G:Prop} (g:G:=by first|(with_reducible assumption)|assumption|exact rfl):G:=g
theorem z_bi {G:Prop} (g:G:=by first|assumption|exact ib_add (by exact z_wq)|exact ib_sub (by exact z_wq)|exact ib_lssT (by omega)|exact ib_lssF (by omega)|exact ib_geqT (by omega)|exact ib_geqF (by omega)|exact ib_eqlT (by first|rfl|omega)|exact ib_eqlF (by omega)|exact ib_neqT (by omega)|exact ib_neqF (by first|rfl|omega)|exact ib_gtrT (by omega)|exact ib_gtrF (by omega)|exact ib_leqT (by omega)|exact ib_leqF (by omega)|exact ib_mul (by exact z_wq)|exact ib_lss|exact ib_leq|exact ib_gtr|exact ib_geq|exact ib_eql|exact ib_neq|exact rfl):G:=g
theorem z_cv {G:Prop} (g:G:=by first|exact z_wq|assumption|exact rfl):G:=g
theorem z_bd {G:Prop} (g:G:=by first|exact rfl|assumption|exact bd_i (by omega)|exact bd_s rfl (by omega)|exact bd_s (by assumption) (by omega)):G:=g
theorem z_om {G:Prop} (g:G:=by first|omega|exact rfl|assumption|(simp only[List.length_append,List.length_cons,List.length_nil,List.length_map,List.length_take,List.length_drop,List.length_replicate,bsl_len,bytesEs_len];omega)|(simp only[List.length_append,List.length_cons,List.length_nil,List.length_map,List.length_take,List.length_drop,List.length_replicate,bsl_len,bytesEs_len] at *;omega)):G:=g
theorem z_sb {G:Prop} (g:G:=by first|assumption|exact sb_eqlT rfl|exact sb_eql|exact sb_neq|exact sb_add (by exact z_om)|exact rfl):G:=g
theorem z_sc {G:Prop} (g:G:=by first|exact rfl|(simp only[List.all_append,List.all_map,List.all_cons,List.all_nil,scalar,Function.comp_def,Bool.and_true,Bool.and_self,List.all_const];done)|assumption):G:=g
theorem z_ma {G:Prop} (g:G:=by(repeat ((apply mapc);(exact z_mv)));exact mapn _):G:=g
theorem z_pli {G:Prop} (g:G:=by infer_instance):G:=g
theorem z_il {G:Prop} (g:G:=by(repeat (first|((with_reducible apply InlA.pl);infer_instance)|(with_reducible apply InlA.nils)|((with_reducible apply InlA.row);(exact z_lg);(exact z_nl))|((with_reducible apply InlA.rview);(exact z_lg);(exact z_nl))|((with_reducible apply InlA.bview);(exact z_lg);infer_instance;(exact z_nl))));with_reducible exact InlA.nil _):G:=g
theorem z_fr {G:Prop} (g:G:=by first|((repeat ((apply fr_cons);(exact z_mv);(exact z_pc);(first|assumption|exact rfl);(exact z_sc);(first|omega|exact rfl|decide|assumption|(simp only[List.length_append,List.length_cons,List.length_nil,List.length_map,List.length_replicate] at *;omega));(exact z_nl)));exact fr_nil _ _ _)|exact rfl):G:=g
theorem z_fl {G:Prop} (g:G:=by first|((repeat ((apply fl_cons);(exact z_mv);(exact z_pc);(first|assumption|exact rfl);(exact z_sc);(first|omega|exact rfl|decide|assumption|(simp only[List.length_append,List.length_cons,List.length_nil,List.length_map,List.length_replicate] at *;omega));(exact z_ns)));exact fl_nil _ _)|exact rfl):G:=g
theorem z_gx {G:Prop} (g:G:=by first|assumption|exact rfl|exact gim (by assumption)|exact gimL (by assumption)|exact giL (by assumption)|exact gi (by assumption)):G:=g
theorem z_oa {G:Prop} (g:G:=by first|omega|assumption|exact rfl):G:=g
theorem z_sz {G:Prop} (g:G:=by first|assumption|exact szs _|(exact szm _ _ (fun _=>rfl))|(intro e he;simp only[List.mem_append,List.mem_cons,List.mem_map] at he;grind)):G:=g
theorem z_of {G:Prop} (g:G:=by first|((simp only[Nat.reduceAdd,Nat.zero_add,Nat.add_zero,Nat.mul_one,Nat.reduceMul,Int.toNat_natCast,Int.reduceToNat,Nat.reduceSub,Nat.sub_zero]);exact rfl)|exact rfl):G:=g
theorem z_ol {G:Prop} (g:G:=by(repeat ((apply ordOps_cons);exact rfl));exact ordOps_nil _):G:=g
theorem z_ya {G:Prop} (g:G:=by first|((with_reducible apply y_mov);exact z_mv)|((with_reducible apply y_loadL);exact z_vv;exact z_hn;exact z_lg;exact z_ct)|((with_reducible apply y_loadI);exact z_vv;exact z_ct)|((with_reducible apply y_load);exact z_vv;exact z_hg;exact z_ct)|((with_reducible apply y_loadR);exact z_vv;exact z_hg;exact z_gx;exact z_ct)|((with_reducible apply y_fieldL);exact z_vv;exact z_hn;exact z_lg;exact z_of)|((with_reducible apply y_fieldI);exact z_vv;exact z_of)|((with_reducible apply y_field);exact z_vv;exact z_hg;exact z_of)|((with_reducible apply y_fieldR);exact z_vv;exact z_hg;exact z_of)|((with_reducible apply y_bin);exact z_vv;exact z_vv;exact z_bi)|((with_reducible apply y_binS);exact z_vv;exact z_vv;exact z_sb)|((with_reducible apply y_eqB);exact z_vv;exact z_vv)|((with_reducible apply y_neB);exact z_vv;exact z_vv)|((with_reducible apply y_ptrE);exact z_vv;exact z_vv;exact z_hg)|((with_reducible apply y_ptrN);exact z_vv;exact z_vv;exact z_hg)|((with_reducible apply y_nilE);exact z_vv;exact z_vv)|((with_reducible apply y_nilN);exact z_vv;exact z_vv)|((with_reducible apply y_nilsE);exact z_vv;exact z_vv)|((with_reducible apply y_pickT);exact z_vv;exact z_mv)|((with_reducible apply y_pickF);exact z_vv;exact z_mv)|((with_reducible apply y_extract);exact z_vv;exact z_vv)|((with_reducible apply y_not);exact z_vv)|((with_reducible apply y_nilL);exact z_vv;exact z_hn;exact z_lg)|((with_reducible apply y_nilI);exact z_vv)|((with_reducible apply y_nil);exact z_vv;exact z_hg)|((with_reducible apply y_nilR);exact z_vv;exact z_hg)|((with_reducible apply y_conv);exact z_vv;exact z_cv)|((with_reducible apply y_convS);exact z_vv)|((with_reducible apply y_neg);exact z_vv;(first|assumption|exact z_wq|exact rfl))|((with_reducible apply y_lenS);exact z_vv;infer_instance)|((with_reducible apply y_len0);exact z_vv)|((with_reducible apply y_lenR);exact z_vv;exact z_hg;infer_instance)|((with_reducible apply y_lenStr);exact z_vv)|((with_reducible apply y_lenV);exact z_vv;exact z_hg;exact z_oa)|((with_reducible apply y_build);exact z_fl)|((with_reducible apply y_fieldVal);exact z_vv;exact z_ct)|((with_reducible apply y_indexS);exact z_vv;exact z_vv;exact z_oa;exact z_gx;exact z_vv)|((with_reducible apply y_indexR);exact z_vv;exact z_vv;exact z_hg;exact z_oa;exact z_oa)|((with_reducible apply y_indexV);exact z_vv;exact z_vv;exact z_hg;exact rfl;exact z_oa;exact z_oa;exact z_of)|((with_reducible apply y_indexStr);exact z_vv;exact z_vv;exact z_oa;exact z_gx)|((with_reducible apply y_indexAgg);exact z_vv;exact z_vv;exact z_oa;exact z_oa;exact z_ct)|((with_reducible apply y_indexArr);exact z_vv;exact z_vv;exact z_hg;exact z_oa;exact z_oa;exact z_of)|((with_reducible apply y_indexArrI);exact z_vv;exact z_vv;exact z_oa;exact z_oa;exact z_of)|((with_reducible apply y_func);exact z_ma)|((with_reducible apply y_minmax);exact z_vv;exact z_vv)|((with_reducible apply y_sliceStr);exact z_vv;exact z_bd;exact z_bd;exact z_om;exact z_om)|((with_reducible apply y_slice);exact z_vv;infer_instance;exact z_bd;exact z_bd;exact z_om;exact z_om;exact z_sz;infer_instance)|((with_reducible apply y_sliceArr);exact z_vv;exact z_hg;exact z_bd;exact z_bd;exact rfl;exact z_om;exact z_om;exact z_om;exact z_of;exact z_of)|((with_reducible apply y_sliceV);exact z_vv;exact z_hg;exact z_bd;exact z_bd;exact z_om;exact z_om)|((with_reducible apply y_eqAgg);exact z_vv;exact z_vv;exact z_vv)|((with_reducible apply y_b2s);(first|exact rfl|(exact rd_l (by exact z_vv) (by exact z_hn) (by exact z_lg))|(exact rd_v (by exact z_vv) (by exact z_hn) (by exact z_lg) (by infer_instance))|assumption);(first|assumption|exact m_bytes _|exact m_bytesEs _|exact rfl))|((with_reducible apply y_nextStrE);exact z_vv;exact z_hn;exact z_lg;omega)):G:=g
theorem z_ra {G:Prop} (g:G:=by first|exact rfl|assumption|exact ra_row (by exact z_hn) (by exact z_lg)|exact ra_view (by exact z_hn) (by exact z_lg) (by infer_instance)):G:=g
theorem z_rk {G:Prop} (g:G:=by first|exact rowok1 rfl|exact rowok_bytes _|exact rowok_bs _|exact rowok_m _ _ (fun _=>⟨rfl,rfl⟩)|assumption):G:=g
theorem z_ea {G:Prop} (g:G:=by first|((with_reducible apply e_alloc);exact z_hn;exact rfl;exact z_nl)|((with_reducible apply e_box);exact z_mv;exact z_pc;exact z_sc;exact z_hn;exact rfl;exact z_nl)|((with_reducible apply e_newRow);exact z_hn;exact rfl;exact z_nl)|((with_reducible apply e_storeL);exact z_vv;exact z_mv;exact z_pc;exact z_vv;exact z_sc;exact z_hn;exact z_lg;exact z_om;exact z_ns;exact z_nl)|((with_reducible apply e_storeO);exact z_vv;exact z_mv;exact z_pc;exact z_vv;exact z_sc;exact z_og;exact z_om;exact z_ns)|((with_reducible apply e_buildSlice);exact z_fr;exact z_hn;exact rfl;exact z_nl)|((with_reducible apply e_append);exact z_vv;exact z_ra;exact z_rk;exact z_hn;exact z_lg;exact z_om;infer_instance;exact z_nl)|((with_reducible apply e_appendS);exact z_vv;exact z_ra;exact z_rk;exact z_hn;exact z_lg;exact z_om;infer_instance;exact z_nl)|((with_reducible apply e_snap);exact z_vv;exact z_hn;exact rfl;exact z_nl)|((with_reducible apply e_append0);exact z_vv;exact z_ra;exact z_rk;exact z_om;exact z_hn;exact rfl;exact z_nl)|((with_reducible apply e_s2b);exact z_vv;exact z_om;exact z_hn;exact rfl;exact z_nl)|((with_reducible apply e_makeSlice);exact z_vv;exact z_vv;exact z_om;exact z_om;exact z_om;exact z_om;exact z_hn;exact rfl;exact z_nl)|((with_reducible apply e_clip);exact z_ra;exact z_hn;exact rfl;exact z_nl)|((with_reducible apply e_copyV);exact z_vv;exact z_ra;exact z_rk;exact z_hn;exact z_lg;exact rfl;exact z_om;(first|assumption|exact rfl);exact z_nl)|((with_reducible apply e_copyR);exact z_vv;exact z_ra;exact z_rk;exact z_hn;exact z_lg;exact z_nl)|((with_reducible apply e_copyW);exact z_vv;exact z_ra;exact z_rk;exact z_hn;exact z_lg;exact z_om;exact z_nl)|((with_reducible apply e_storeR);exact z_vv;exact z_mv;exact z_pc;exact z_vv;exact z_sc;exact z_hn;exact z_lg;exact z_gx;exact z_om;exact z_nl)|((with_reducible apply e_sliceR);exact z_vv;exact z_hn;exact z_lg;infer_instance;exact z_bd;exact z_bd;exact z_om;exact z_om;infer_instance;exact z_nl)|((with_reducible apply e_rangeStr);exact z_vv;exact z_hn;exact rfl;exact z_nl)|((with_reducible apply e_nextStr);exact z_vv;exact z_hn;exact z_lg;omega;exact z_nl)):G:=g
theorem z_be {G:Prop} (g:G:=by first|exact Cl.cl _|exact ClL.cl _|assumption):G:=g
theorem z_hb {G:Prop} (g:G:=by first|assumption|((repeat (first|(with_reducible apply belH_setB)|(with_reducible apply belH_setR)));assumption)):G:=g
theorem z_rw1 {G:Prop} (g:G:=by first|exact rv_t (by exact z_mv)|exact rv_c (by exact z_vv) (by exact z_hg) (by exact z_ct)):G:=g
theorem z_rw {G:Prop} (g:G:=by first|exact rv_one (by exact z_rw1)|exact rv_many (by(repeat ((apply rv_cons);(exact z_rw1)));exact rv_nil) (by exact rfl)):G:=g
structure Wrap (Q:Prop):Prop where
 q:Q
theorem W {P Q:Prop} (q:Q) (w:Wrap Q→P:=by intro q;(repeat (first|(with_reducible apply st_end)|((with_reducible apply ys1);exact z_ya)|((with_reducible apply gt);exact z_vv)|((with_reducible apply gf);exact z_vv)|((with_reducible apply gu);exact z_vv)|((with_reducible apply est);exact z_ea)|(with_reducible apply sc_seq)|(with_reducible apply sc_region)|(with_reducible apply sq_thenN)|(with_reducible apply sc_block)|(with_reducible apply sc_skip)|(with_reducible apply sc_ret)|(with_reducible apply sc_exit)|(with_reducible apply sq_thenR)|(with_reducible apply sq_thenX)|(with_reducible apply sq_blockN)|(with_reducible apply sq_blockR)|(with_reducible apply sq_blockX)|((with_reducible apply sc_condT);exact z_vv)|((with_reducible apply sc_condF);exact z_vv)|((with_reducible apply sq_blockY);decide)|((with_reducible apply sv1n);(exact z_ya))|((with_reducible apply sv1t);exact z_vv;(exact z_ya))|((with_reducible apply sv1f);exact z_vv)|((with_reducible apply sv1u);exact z_vv)|((with_reducible apply sv2n);(intro hh hJ;exact z_ya))|((with_reducible apply sv2t);exact z_vv;(intro hh hJ;exact z_ya))|((with_reducible apply sv2f);exact z_vv)|((with_reducible apply sv2u);exact z_vv)|(with_reducible apply sv_nil)|((with_reducible apply sv_0);(with_reducible apply est);exact z_ea;(with_reducible apply st_end);(refine And.intro (by first|exact trivial|assumption) ?_))|((with_reducible apply sv_0);(with_reducible apply gt);exact z_vv;(with_reducible apply est);exact z_ea;(with_reducible apply st_end);(refine And.intro (by first|exact trivial|assumption) ?_))|((with_reducible apply sv_0);(first|((with_reducible apply gf);exact z_vv)|((with_reducible apply gu);exact z_vv));(with_reducible apply st_end);(refine And.intro (by first|exact trivial|assumption) ?_))|(refine drT (by kernel_rfl) (by kernel_rfl) (by exact z_ol) ?_)|(refine ret_p (.inl rfl) (by exact rfl) (by exact z_rw) (by infer_instance) (by exact z_be) (by exact z_hn) (by exact z_hb) ?_)|(refine ret_a (.inl rfl) (by exact rfl) (by exact z_rw) (by exact z_il) (by exact z_be) (by exact z_hn) (by exact z_hb) ?_)|(refine ret_t (.inl rfl) (by exact rfl) (by exact z_rw) (by exact z_il) (by exact z_be) (by exact z_hn) (by exact z_hb) ?_)|(refine ret_p (.inr rfl) (by exact rfl) (by exact z_rw) (by infer_instance) (by exact z_be) (by exact z_hn) (by exact z_hb) ?_)|(refine ret_a (.inr rfl) (by exact rfl) (by exact z_rw) (by exact z_il) (by exact z_be) (by exact z_hn) (by exact z_hb) ?_)|(refine ret_t (.inr rfl) (by exact rfl) (by exact z_rw) (by exact z_il) (by exact z_be) (by exact z_hn) (by exact z_hb) ?_)|(refine ret_n (.inl rfl) (by exact rfl) (by exact z_rw) (by infer_instance) ?_)));exact q.q):P:=w ⟨q⟩
theorem Wo {P Q:Prop} (q:Q) (w:Wrap Q→P:=by intro q;(repeat (first|(with_reducible apply st_end)|((with_reducible apply ys1);exact z_ya)|((with_reducible apply gt);exact z_vv)|((with_reducible apply gf);exact z_vv)|((with_reducible apply gu);exact z_vv)|((with_reducible apply est);exact z_ea)|(with_reducible apply sc_seq)|(with_reducible apply sc_region)|(with_reducible apply sq_thenN)|(with_reducible apply sc_block)|(with_reducible apply sc_skip)|(with_reducible apply sc_ret)|(with_reducible apply sc_exit)|(with_reducible apply sq_thenR)|(with_reducible apply sq_thenX)|(with_reducible apply sq_blockN)|(with_reducible apply sq_blockR)|(with_reducible apply sq_blockX)|((with_reducible apply sc_condT);exact z_vv)|((with_reducible apply sc_condF);exact z_vv)|((with_reducible apply sq_blockY);decide)|((with_reducible apply sv1n);(exact z_ya))|((with_reducible apply sv1t);exact z_vv;(exact z_ya))|((with_reducible apply sv1f);exact z_vv)|((with_reducible apply sv1u);exact z_vv)|((with_reducible apply sv2n);(intro hh hJ;exact z_ya))|((with_reducible apply sv2t);exact z_vv;(intro hh hJ;exact z_ya))|((with_reducible apply sv2f);exact z_vv)|((with_reducible apply sv2u);exact z_vv)|(with_reducible apply sv_nil)|((with_reducible apply sv_0);(with_reducible apply est);exact z_ea;(with_reducible apply st_end);(refine And.intro (by first|exact trivial|assumption) ?_))|((with_reducible apply sv_0);(with_reducible apply gt);exact z_vv;(with_reducible apply est);exact z_ea;(with_reducible apply st_end);(refine And.intro (by first|exact trivial|assumption) ?_))|((with_reducible apply sv_0);(first|((with_reducible apply gf);exact z_vv)|((with_reducible apply gu);exact z_vv));(with_reducible apply st_end);(refine And.intro (by first|exact trivial|assumption) ?_))|(refine ret_p (.inl rfl) (by exact rfl) (by exact z_rw) (by infer_instance) (by exact z_be) (by exact z_hn) (by exact z_hb) ?_)|(refine ret_a (.inl rfl) (by exact rfl) (by exact z_rw) (by exact z_il) (by exact z_be) (by exact z_hn) (by exact z_hb) ?_)|(refine ret_t (.inl rfl) (by exact rfl) (by exact z_rw) (by exact z_il) (by exact z_be) (by exact z_hn) (by exact z_hb) ?_)|(refine ret_p (.inr rfl) (by exact rfl) (by exact z_rw) (by infer_instance) (by exact z_be) (by exact z_hn) (by exact z_hb) ?_)|(refine ret_a (.inr rfl) (by exact rfl) (by exact z_rw) (by exact z_il) (by exact z_be) (by exact z_hn) (by exact z_hb) ?_)|(refine ret_t (.inr rfl) (by exact rfl) (by exact z_rw) (by exact z_il) (by exact z_be) (by exact z_hn) (by exact z_hb) ?_)|(refine ret_n (.inl rfl) (by exact rfl) (by exact z_rw) (by infer_instance) ?_)));exact q.q):P:=w ⟨q⟩
theorem cu [Glob] {P:Program} {n:Nat} {K:Env→VHeap→Prop} {r:List VO} {d:Option Nat} {env:Env} {σ L L':VHeap} {v:PV} {f:FuncId} {args:List VA} {cs ws vs:List PV} (u:U P f vs v) (k:vrunOps P n K r (eput env d v) (σ++L'))
  (hn:σ.length=n:=by exact z_hn) (hm:args.map (va env)=cs:=by exact z_ma) (hi:InlA n L L cs ws L':=by exact z_il) (hv:ws=vs:=by exact z_vs):vrunOps P n K (⟨d,.call false f args,none⟩::r) env (σ++L):=callU u hn (by rw[hm,← hv];exact hi) k
theorem ct [Glob] {P:Program} {n:Nat} {K:Env→VHeap→Prop} {r:List VO} {d:Option Nat} {env:Env} {σ L L':VHeap} {f:FuncId} {args:List VA} {cs ws vs:List PV} (k:T P f vs (σ++L') fun v h'=>vrunOps P n K r (eput env d v) h')
  (hn:σ.length=n:=by exact z_hn) (hm:args.map (va env)=cs:=by exact z_ma) (hi:InlA n L L cs ws L':=by exact z_il) (hv:ws=vs:=by exact z_vs):vrunOps P n K (⟨d,.call false f args,none⟩::r) env (σ++L):=callT hn (by rw[hm,← hv];exact hi) k
theorem s1 [Glob] {P:Program} {n:Nat} {J:VHeap→Prop} {K:Env→VHeap→Prop} {r:List (Nat × VO)} {d:Option Nat} {env:Env} {h:VHeap} {v:PV} {f:FuncId} {args:List VA} {vs:List PV} (u:U P f vs v) (k:vseq P n J K r (eput env d v) h)
  (hm:args.map (va env)=vs:=by exact z_ma) (hp:PlL vs:=by infer_instance):vseq P n J K ((1,⟨d,.call false f args,none⟩)::r) env h:=sv_1 (yn (y_call u hm)) k
theorem s2 [Glob] {P:Program} {n:Nat} {J:VHeap→Prop} {K:Env→VHeap→Prop} {r:List (Nat × VO)} {d:Option Nat} {env:Env} {h:VHeap} {v:PV} {f:FuncId} {args:List VA} {vs:List PV} (u:U P f vs v) (k:vseq P n J K r (eput env d v) h)
  (hm:args.map (va env)=vs:=by exact z_ma) (hp:PlL vs:=by infer_instance):vseq P n J K ((2,⟨d,.call false f args,none⟩)::r) env h:=sv_2 (fun _ _=>yn (y_call u hm)) k
theorem or_low {a b:Nat} (h:b<256):(a * 256) ||| b=a * 256+b:=by
 have:=Nat.shiftLeft_add_eq_or_of_lt (i:=8) (b:=b) (by simpa using h) a
 rw[Nat.shiftLeft_eq] at this
 exact this.symm
theorem bv_i64 {a:Nat}:BitVec.ofInt IntKind.i64.bits (a:Int)=BitVec.ofNat 64 a:=by
 show BitVec.ofInt 64 (a:Int)=_
 simp
theorem bv_u8 (a:Nat):BitVec.ofInt IntKind.u8.bits (a:Int)=BitVec.ofNat 8 a:=by
 show BitVec.ofInt 8 (a:Int)=_
 simp
theorem ib_orN {a b:Nat} (ha:a<2 ^ 63) (hb:b<2 ^ 63):ibin .or .i64 (a:Int) .i64 (b:Int)=some (.int .i64 ((a ||| b:Nat):Int)):=by
 have h:a ||| b<2 ^ 63:=Nat.or_lt_two_pow ha hb
 simp only[ibin,ibits,if_true]
 rw[bv_i64,bv_i64]
 have e:(BitVec.ofNat 64 a ||| BitVec.ofNat 64 b).toNat=a ||| b:=by
  rw[BitVec.toNat_or,BitVec.toNat_ofNat,BitVec.toNat_ofNat,Nat.mod_eq_of_lt (by omega),Nat.mod_eq_of_lt (by omega)]
 show some (PV.int .i64 (IntKind.i64.wrap ((BitVec.ofNat 64 a ||| BitVec.ofNat 64 b).toNat:Int)))=_
 rw[e,w_i64 (by omega) (by omega)]
theorem ib_andN {a b:Nat} (ha:a<2 ^ 63) (hb:b<2 ^ 63):ibin .and .i64 (a:Int) .i64 (b:Int)=some (.int .i64 ((a &&& b:Nat):Int)):=by
 have h:a &&& b<2 ^ 63:=Nat.and_lt_two_pow a hb
 simp only[ibin,ibits,if_true]
 rw[bv_i64,bv_i64]
 have e:(BitVec.ofNat 64 a &&& BitVec.ofNat 64 b).toNat=a &&& b:=by
  rw[BitVec.toNat_and,BitVec.toNat_ofNat,BitVec.toNat_ofNat,Nat.mod_eq_of_lt (by omega),Nat.mod_eq_of_lt (by omega)]
 show some (PV.int .i64 (IntKind.i64.wrap ((BitVec.ofNat 64 a &&& BitVec.ofNat 64 b).toNat:Int)))=_
 rw[e,w_i64 (by omega) (by omega)]
theorem bv_u64 {a:Nat}:BitVec.ofInt IntKind.u64.bits (a:Int)=BitVec.ofNat 64 a:=by
 show BitVec.ofInt 64 (a:Int)=_
 simp
theorem ib_andU {a b:Nat} (ha:a<2 ^ 64) (hb:b<2 ^ 64):ibin .and .u64 (a:Int) .u64 (b:Int)=some (.int .u64 ((a &&& b:Nat):Int)):=by
 have h:a &&& b<2 ^ 64:=Nat.and_lt_two_pow a hb
 simp only[ibin,ibits,if_true]
 rw[bv_u64,bv_u64]
 have e:(BitVec.ofNat 64 a &&& BitVec.ofNat 64 b).toNat=a &&& b:=by
  rw[BitVec.toNat_and,BitVec.toNat_ofNat,BitVec.toNat_ofNat,Nat.mod_eq_of_lt (by omega),Nat.mod_eq_of_lt (by omega)]
 show some (PV.int .u64 (IntKind.u64.wrap ((BitVec.ofNat 64 a &&& BitVec.ofNat 64 b).toNat:Int)))=_
 rw[e,w_u64 (by omega) (by omega)]
theorem ib_andB {a b:UInt8}:ibin .and .u8 (a.toNat:Int) .u8 (b.toNat:Int)=some (.int .u8 (((a &&& b).toNat:Nat):Int)):=by
 simp only[ibin,ibits,if_true]
 rw[bv_u8,bv_u8]
 have e:(BitVec.ofNat 8 a.toNat &&& BitVec.ofNat 8 b.toNat).toNat=(a &&& b).toNat:=by
  have h1:=a.toNat_lt
  have h2:=b.toNat_lt
  rw[BitVec.toNat_and,BitVec.toNat_ofNat,BitVec.toNat_ofNat,Nat.mod_eq_of_lt (by omega),Nat.mod_eq_of_lt (by omega),UInt8.toNat_and]
 show some (PV.int .u8 (IntKind.u8.wrap ((BitVec.ofNat 8 a.toNat &&& BitVec.ofNat 8 b.toNat).toNat:Int)))=_
 have:=(a &&& b).toNat_lt
 rw[e,w_u8 (by omega) (by omega)]
theorem ib_shlN {a:Nat} {k':IntKind} {n:Nat} (hn:n≤64) (h:a * 2 ^ n<2 ^ 63):ibin .shl .i64 (a:Int) k' (n:Int)=some (.int .i64 ((a * 2 ^ n:Nat):Int)):=by
 have e:min (n:Int).toNat IntKind.i64.bits=n:=by rw[Int.toNat_natCast];exact Nat.min_eq_left hn
 unfold ibin
 simp only[e]
 rw[if_pos (by omega)]
 have e2:(a:Int) * 2 ^ n=((a * 2 ^ n:Nat):Int):=by push_cast;rfl
 rw[e2,w_i64 (by omega) (by omega)]
theorem ib_shrN {a:Nat} {k k':IntKind} {n:Nat} (hn:n≤k.bits):ibin .shr k (a:Int) k' (n:Int)=some (.int k ((a / 2 ^ n:Nat):Int)):=by
 have e:min (n:Int).toNat k.bits=n:=by rw[Int.toNat_natCast];exact Nat.min_eq_left hn
 unfold ibin
 simp only[e]
 rw[if_pos (by omega)]
 have e2:Int.fdiv (a:Int) (2 ^ n)=((a / 2 ^ n:Nat):Int):=by
  rw[Int.fdiv_eq_ediv_of_nonneg _ (Int.pow_nonneg (by omega))];push_cast;rfl
 rw[e2]
end Go.V
