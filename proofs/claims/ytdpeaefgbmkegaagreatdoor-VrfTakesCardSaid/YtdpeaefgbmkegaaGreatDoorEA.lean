/- Values of a small language of plain data, its heap, and what it means that a world of the machine bears them. -/
import Derived.WalkKit
import Derived.KernelRfl
import Derived.Laws.Cells
import Derived.Laws.Strings
import Derived.WalkSpells
import Derived.Laws.Pointers
import Derived.Laws.Small
import Derived.Lib.Strings
import Derived.Laws.Append
import Derived.Laws.BytesString
import Derived.Laws.StructEq
namespace Go.V
open Go
inductive PV where
 | bool (b:Bool)
 | int (k:IntKind) (n:Int)
 | str (s:List UInt8)
 | agg (cs:List PV)
 | tup (vs:List PV)
 | nilp
 | ptr (id gen off:Nat)
 | rptr (id gen idx off:Nat)
 | iptr (cells:List PV) (off:Nat)
 | sl (es:List (List PV))
 | nils
 | row (id gen:Nat)
 | bview (id gen off len:Nat)
 | rview (id gen lo len:Nat)
 | map (id gen:Nat)
 | nilm
 | fn (f:FuncId) (cap:List PV)
 | iter (id gen:Nat)
 | undef
 | slr (es:List (List PV)) (id gen:Nat)
 deriving Inhabited
inductive VObj where
 | dead
 | box (cs:List PV) (fz:Bool)
 | row (sz:Nat) (es:List (List PV)) (fz:Bool)
 | map (es:List (PV × PV × Nat)) (clock:Nat)
 | siter (s:List UInt8) (pos:Nat)
 | miter (m g since stepped:Nat) (seen:List Nat)
 deriving Inhabited
abbrev VHeap:=List (Nat × VObj)
abbrev Beta:=Nat→Option Nat
def VObj.alike:VObj→VObj→Prop
 | .box cs _,.box cs' _=>cs.length=cs'.length
 | .row sz es _,.row sz' es' _=>sz=sz'∧es.length=es'.length
 | .map _ _,.map _ _=>True
 | .siter s _,.siter s' _=>s=s'
 | .miter m g since _ _,.miter m' g' since' _ _=>m=m'∧g=g'∧since=since'
 | .dead,.dead=>True
 | _,_=>False
theorem VObj.alike_refl (o:VObj):o.alike o:=by cases o<;>simp[VObj.alike]
theorem VObj.alike_trans {a b c:VObj} (h:a.alike b) (k:b.alike c):a.alike c:=by
 cases a<;>cases b<;>simp_all [VObj.alike]<;>cases c<;>simp_all
def VObj.may:VObj→Nat→Prop
 | .box _ fz,_=>fz=false
 | .row sz es fz,i=>fz=true→es.length * sz≤i
 | _,_=>False
def Wr (σ:VHeap) (β:Beta) (b i:Nat):Prop:=∃ id g o,σ[id]?=some (g,o)∧β id=some b∧o.may i
def VObj.live:VObj→Prop
 | .dead=>False
 | _=>True
def Owned (σ:VHeap) (β:Beta) (b:Nat):Prop:=∃ id g o,σ[id]?=some (g,o)∧β id=some b∧o.live
theorem VObj.live_of_may {o:VObj} {i:Nat} (h:o.may i):o.live:=by cases o<;>simp_all [VObj.may,VObj.live]
def Still (w:World) (σ:VHeap) (β:Beta) (a:Addr) (n:Nat) (f:Nat→Value):Prop:=
 ∀ j,j<n→w.cell? (a.add j)=some (f j)∧¬ Wr σ β a.block (a.add j).off
inductive Rep (w:World) (σ:VHeap) (β:Beta):PV→Value→Prop where
 | bool (b:Bool):Rep w σ β (.bool b) (.bool b)
 | int (k:IntKind) (n:Int):Rep w σ β (.int k n) (.int k n)
 | str (s:ByteArray):Rep w σ β (.str s.data.toList) (.string s)
 | agg (cs:List PV) (vs:Array Value) (hl:cs.length=vs.size) (h:∀ (i:Nat) (c:PV) (v:Value),cs[i]?=some c→vs[i]?=some v→Rep w σ β c v):Rep w σ β (.agg cs) (.agg vs)
 | tup (cs:List PV) (vs:Array Value) (hl:cs.length=vs.size) (h:∀ (i:Nat) (c:PV) (v:Value),cs[i]?=some c→vs[i]?=some v→Rep w σ β c v):Rep w σ β (.tup cs) (.tuple vs)
 | nilp:Rep w σ β .nilp (.pointer none)
 | stalep (id g off g':Nat) (o:VObj) (p:Option Addr) (h:σ[id]?=some (g',o)) (hg:g<g'):Rep w σ β (.ptr id g off) (.pointer p)
 | ptr (id g off b:Nat) (cs:List PV) (fz:Bool) (h:σ[id]?=some (g,.box cs fz)) (hb:β id=some b):Rep w σ β (.ptr id g off) (.pointer (some ⟨b,off,none⟩))
 | stalerp (id g i off g':Nat) (o:VObj) (p:Option Addr) (h:σ[id]?=some (g',o)) (hg:g<g'):Rep w σ β (.rptr id g i off) (.pointer p)
 | rptr (id g i off b sz:Nat) (es:List (List PV)) (fz:Bool) (h:σ[id]?=some (g,.row sz es fz)) (hb:β id=some b):Rep w σ β (.rptr id g i off) (.pointer (some ⟨b,i * sz+off,none⟩))
 | iptr (cells:List PV) (off:Nat) (a a0:Addr) (f:Nat→Value) (ha:a=a0.add off) (hs:Still w σ β a0 cells.length f) (h:∀ (j:Nat) (c:PV),cells[j]?=some c→Rep w σ β c (f j)):Rep w σ β (.iptr cells off) (.pointer (some a))
 | sl (es:List (List PV)) (sz n cap:Nat) (a:Option Addr) (f:Nat→Value) (hn:es.length=n) (hc:n≤cap)
   (hsz:∀ e,e∈es→e.length=sz) (ha:0<n→∃ a0,a=some a0∧Still w σ β a0 (n * sz) f)
   (h:∀ (i:Nat) (e:List PV) (j:Nat) (c:PV),es[i]?=some e→e[j]?=some c→Rep w σ β c (f (i * sz+j))):Rep w σ β (.sl es) (.slice a n cap)
 | nils:Rep w σ β .nils (.slice none 0 0)
 | stalerow (id g g':Nat) (o:VObj) (p:Option Addr) (n c:Nat) (h:σ[id]?=some (g',o)) (hg:g<g'):Rep w σ β (.row id g) (.slice p n c)
 | rownil (id g sz:Nat) (fz:Bool) (ad:Option Addr) (h:σ[id]?=some (g,.row sz [] fz)) (hb:β id=none):Rep w σ β (.row id g) (.slice ad 0 0)
 | row (id g b sz cap:Nat) (es:List (List PV)) (fz:Bool) (arr:Array Value) (ty:TypeId) (fr:Nat × Nat) (h:σ[id]?=some (g,.row sz es fz)) (hb:β id=some b)
   (hh:w.heap[b]?=some (.cells arr ty fr)) (hc:es.length≤cap) (hsz:cap * sz≤arr.size):Rep w σ β (.row id g) (.slice (some ⟨b,0,none⟩) es.length cap)
 | stalebv (id g off len g':Nat) (o:VObj) (p:Option Addr) (n c:Nat) (h:σ[id]?=some (g',o)) (hg:g<g'):Rep w σ β (.bview id g off len) (.slice p n c)
 | bview (id g off len b cap:Nat) (a:Option Addr) (cs:List PV) (fz:Bool) (h:σ[id]?=some (g,.box cs fz)) (hb:β id=some b) (hl:off+len≤cs.length) (hc:len≤cap)
   (ha:0<len→a=some ⟨b,off,none⟩):Rep w σ β (.bview id g off len) (.slice a len cap)
 | stalerv (id g lo len g':Nat) (o:VObj) (p:Option Addr) (n c:Nat) (h:σ[id]?=some (g',o)) (hg:g<g'):Rep w σ β (.rview id g lo len) (.slice p n c)
 | rview (id g lo len cap sz:Nat) (a:Option Addr) (es:List (List PV)) (fz:Bool) (h:σ[id]?=some (g,.row sz es fz)) (hl:lo+len≤es.length) (hc:len≤cap)
   (ha:0<len→∃ b,β id=some b∧a=some ⟨b,lo * sz,none⟩):Rep w σ β (.rview id g lo len) (.slice a len cap)
 | stalemap (id g g':Nat) (o:VObj) (p:Option Nat) (h:σ[id]?=some (g',o)) (hg:g<g'):Rep w σ β (.map id g) (.map p)
 | map (id g b:Nat) (es:List (PV × PV × Nat)) (clock:Nat) (h:σ[id]?=some (g,.map es clock)) (hb:β id=some b):Rep w σ β (.map id g) (.map (some b))
 | nilm:Rep w σ β .nilm (.map none)
 | fn (f:FuncId) (cap:List PV) (vs:Array Value) (hl:cap.length=vs.size) (h:∀ (i:Nat) (c:PV) (v:Value),cap[i]?=some c→vs[i]?=some v→Rep w σ β c v):Rep w σ β (.fn f cap) (.func (.func f) #[] vs)
 | staleit (id g g':Nat) (o:VObj) (p:Option Addr) (h:σ[id]?=some (g',o)) (hg:g<g'):Rep w σ β (.iter id g) (.pointer p)
 | siter (id g b:Nat) (s:List UInt8) (pos:Nat) (h:σ[id]?=some (g,.siter s pos)) (hb:β id=some b):Rep w σ β (.iter id g) (.pointer (some ⟨b,0,none⟩))
 | miter (id g b m mg since stepped:Nat) (seen:List Nat) (h:σ[id]?=some (g,.miter m mg since stepped seen)) (hb:β id=some b):Rep w σ β (.iter id g) (.pointer (some ⟨b,0,none⟩))
 | undef (v:Value):Rep w σ β .undef v
 | slr (es:List (List PV)) (id g:Nat) (v:Value) (h1:Rep w σ β (.sl es) v) (h2:Rep w σ β (.row id g) v):Rep w σ β (.slr es id g) v
structure Step (σ:VHeap) (β:Beta) (w:World) (σ':VHeap) (β':Beta) (w':World):Prop where
 os:w'.os=w.os
 tape:w'.tape=w.tape
 output:w'.output=w.output
 size:w.heap.size≤w'.heap.size
 own:∀ b,b<w.heap.size→¬ Owned σ β b→w'.heap[b]?=w.heap[b]?
 still:∀ a v,w.cell? a=some v→¬ Wr σ β a.block a.off→w'.cell? a=some v
 kept:∀ b,b<w.heap.size→Owned σ' β' b→Owned σ β b
 wr:∀ b i,b<w.heap.size→Wr σ' β' b i→Wr σ β b i
 shape:∀ (b:Nat) (arr:Array Value) (ty:TypeId) (fr:Nat × Nat),w.heap[b]?=some (.cells arr ty fr)→∃ arr',w'.heap[b]?=some (.cells arr' ty fr)∧arr'.size=arr.size
 gens:∀ (id g:Nat) (o:VObj),σ[id]?=some (g,o)→∃ g' o',σ'[id]?=some (g',o')∧g≤g'∧(g=g'→o.alike o'∧β' id=β id)
theorem cell_lt {w:World} {a:Addr} {v:Value} (h:w.cell? a=some v):a.block<w.heap.size:=World.block_lt_of_cell? w a h
theorem Step.refl (σ:VHeap) (β:Beta) (w:World):Step σ β w σ β w:=
 ⟨rfl,rfl,rfl,Nat.le_refl _,fun _ _ _=>rfl,fun _ _ h _=>h,fun _ _ h=>h,fun _ _ _ h=>h,fun _ arr _ _ h=>⟨arr,h,rfl⟩,fun _ g o h=>⟨g,o,h,Nat.le_refl _,fun _=>⟨o.alike_refl,rfl⟩⟩⟩
theorem Step.trans {σ β w σ1 β1 w1 σ2 β2 w2} (h:Step σ β w σ1 β1 w1) (k:Step σ1 β1 w1 σ2 β2 w2):Step σ β w σ2 β2 w2:=by
 refine⟨k.os.trans h.os,k.tape.trans h.tape,k.output.trans h.output,Nat.le_trans h.size k.size,?_,?_,?_,?_,?_,?_⟩
 ·intro b hb hno
  rw[k.own b (Nat.lt_of_lt_of_le hb h.size) (fun ho=>hno (h.kept b hb ho)),h.own b hb hno]
 ·intro a v hc hno
  exact k.still a v (h.still a v hc hno) (fun hw=>hno (h.wr _ _ (cell_lt hc) hw))
 ·intro b hb ho
  exact h.kept b hb (k.kept b (Nat.lt_of_lt_of_le hb h.size) ho)
 ·intro b i hb ho
  exact h.wr b i hb (k.wr b i (Nat.lt_of_lt_of_le hb h.size) ho)
 ·intro b arr ty fr hb
  obtain⟨arr1,h1,e1⟩:=h.shape b arr ty fr hb
  obtain⟨arr2,h2,e2⟩:=k.shape b arr1 ty fr h1
  exact⟨arr2,h2,e2.trans e1⟩
 ·intro id g o ho
  obtain⟨g1,o1,h1,l1,e1⟩:=h.gens id g o ho
  obtain⟨g2,o2,h2,l2,e2⟩:=k.gens id g1 o1 h1
  refine⟨g2,o2,h2,Nat.le_trans l1 l2,fun e=>?_⟩
  have h3:g=g1:=by omega
  have h4:g1=g2:=by omega
  exact⟨VObj.alike_trans (e1 h3).1 (e2 h4).1,(e2 h4).2.trans (e1 h3).2⟩
theorem Still.step {σ β w σ' β' w'} (h:Step σ β w σ' β' w') {a:Addr} {n:Nat} {f:Nat→Value} (hs:Still w σ β a n f):Still w' σ' β' a n f:=by
 intro j hj
 obtain⟨h1,h2⟩:=hs j hj
 have hblk:(a.add j).block=a.block:=by unfold Addr.add;split<;>rfl
 refine⟨h.still _ _ h1 (by rw[hblk];exact h2),fun hw=>h2 (h.wr _ _ (by rw[← hblk];exact cell_lt h1) hw)⟩
theorem Rep.step {σ β w σ' β' w'} (h:Step σ β w σ' β' w') {c:PV} {v:Value} (hr:Rep w σ β c v):Rep w' σ' β' c v:=by
 have stale:∀ {id g g':Nat} {o:VObj},σ[id]?=some (g',o)→g<g'→∃ g2 o2,σ'[id]?=some (g2,o2)∧g<g2:=by
  intro id g g' o ho hg
  obtain⟨g2,o2,h2,l2,_⟩:=h.gens id g' o ho
  exact⟨g2,o2,h2,by omega⟩
 induction hr with
 | bool b=>exact .bool b
 | int k n=>exact .int k n
 | str s=>exact .str s
 | agg cs vs hl _ ih=>exact .agg cs vs hl ih
 | tup cs vs hl _ ih=>exact .tup cs vs hl ih
 | nilp=>exact .nilp
 | stalep id g off g' o p h1 hg=>obtain⟨g2,o2,h2,l2⟩:=stale h1 hg;exact .stalep id g off g2 o2 p h2 l2
 | ptr id g off b cs fz h1 hb=>
   obtain⟨g2,o2,h2,l2,e2⟩:=h.gens id g _ h1
   by_cases e:g=g2
   ·subst e
    obtain⟨e3,e4⟩:=e2 rfl
    cases o2<;>simp[VObj.alike] at e3
    exact .ptr id g off b _ _ h2 (by rw[e4,hb])
   ·exact .stalep id g off g2 o2 _ h2 (by omega)
 | stalerp id g i off g' o v h1 hg=>obtain⟨g2,o2,h2,l2⟩:=stale h1 hg;exact .stalerp id g i off g2 o2 v h2 l2
 | rptr id g i off b sz es fz h1 hb=>
   obtain⟨g2,o2,h2,l2,e2⟩:=h.gens id g _ h1
   by_cases e:g=g2
   ·subst e
    obtain⟨e3,e4⟩:=e2 rfl
    cases o2<;>simp[VObj.alike] at e3
    obtain⟨rfl,_⟩:=e3
    exact .rptr id g i off b _ _ _ h2 (by rw[e4,hb])
   ·exact .stalerp id g i off g2 o2 _ h2 (by omega)
 | iptr cells off a a0 f ha hs _ ih=>exact .iptr cells off a a0 f ha (hs.step h) ih
 | sl es sz n cap a f hn hc hsz ha _ ih=>
   exact .sl es sz n cap a f hn hc hsz (fun h0=>let ⟨a0,e0,hs⟩:=ha h0;⟨a0,e0,hs.step h⟩) ih
 | nils=>exact .nils
 | stalerow id g g' o p n c h1 hg=>obtain⟨g2,o2,h2,l2⟩:=stale h1 hg;exact .stalerow id g g2 o2 p n c h2 l2
 | rownil id g sz fz ad h1 hb=>
   obtain⟨g2,o2,h2,l2,e2⟩:=h.gens id g _ h1
   by_cases e:g=g2
   ·subst e
    obtain⟨e3,e4⟩:=e2 rfl
    cases o2<;>simp[VObj.alike] at e3
    obtain⟨rfl,e5⟩:=e3
    rename_i es fz2
    have:es=[]:=List.length_eq_zero_iff.1 e5.symm
    subst this
    exact .rownil id g _ _ ad h2 (by rw[e4,hb])
   ·exact .stalerow id g g2 o2 _ _ _ h2 (by omega)
 | row id g b sz cap es fz arr ty fr h1 hb hh hc hsz=>
   obtain⟨g2,o2,h2,l2,e2⟩:=h.gens id g _ h1
   by_cases e:g=g2
   ·subst e
    obtain⟨e3,e4⟩:=e2 rfl
    cases o2<;>simp[VObj.alike] at e3
    obtain⟨rfl,e5⟩:=e3
    obtain⟨arr',h6,e6⟩:=h.shape b arr ty fr hh
    rw[e5]
    exact .row id g b sz cap _ _ arr' ty fr h2 (by rw[e4,hb]) h6 (by omega) (by omega)
   ·exact .stalerow id g g2 o2 _ _ _ h2 (by omega)
 | stalebv id g off len g' o p n c h1 hg=>obtain⟨g2,o2,h2,l2⟩:=stale h1 hg;exact .stalebv id g off len g2 o2 p n c h2 l2
 | bview id g off len b cap a cs fz h1 hb hl hc ha=>
   obtain⟨g2,o2,h2,l2,e2⟩:=h.gens id g _ h1
   by_cases e:g=g2
   ·subst e
    obtain⟨e3,e4⟩:=e2 rfl
    cases o2<;>simp[VObj.alike] at e3
    exact .bview id g off len b cap a _ _ h2 (by rw[e4,hb]) (by omega) hc ha
   ·exact .stalebv id g off len g2 o2 _ _ _ h2 (by omega)
 | stalerv id g lo len g' o p n c h1 hg=>obtain⟨g2,o2,h2,l2⟩:=stale h1 hg;exact .stalerv id g lo len g2 o2 _ _ _ h2 l2
 | rview id g lo len cap sz a es fz h1 hl hc ha=>
   obtain⟨g2,o2,h2,l2,e2⟩:=h.gens id g _ h1
   by_cases e:g=g2
   ·subst e
    obtain⟨e3,e4⟩:=e2 rfl
    cases o2<;>simp[VObj.alike] at e3
    obtain⟨rfl,e5⟩:=e3
    exact .rview id g lo len cap _ a _ _ h2 (by omega) hc (by rw[e4];exact ha)
   ·exact .stalerv id g lo len g2 o2 _ _ _ h2 (by omega)
 | stalemap id g g' o v h1 hg=>obtain⟨g2,o2,h2,l2⟩:=stale h1 hg;exact .stalemap id g g2 o2 v h2 l2
 | map id g b es clock h1 hb=>
   obtain⟨g2,o2,h2,l2,e2⟩:=h.gens id g _ h1
   by_cases e:g=g2
   ·subst e
    obtain⟨e3,e4⟩:=e2 rfl
    cases o2<;>simp[VObj.alike] at e3
    exact .map id g b _ _ h2 (by rw[e4,hb])
   ·exact .stalemap id g g2 o2 _ h2 (by omega)
 | nilm=>exact .nilm
 | fn f cap vs hl _ ih=>exact .fn f cap vs hl ih
 | staleit id g g' o v h1 hg=>obtain⟨g2,o2,h2,l2⟩:=stale h1 hg;exact .staleit id g g2 o2 v h2 l2
 | siter id g b s pos h1 hb=>
   obtain⟨g2,o2,h2,l2,e2⟩:=h.gens id g _ h1
   by_cases e:g=g2
   ·subst e
    obtain⟨e3,e4⟩:=e2 rfl
    cases o2<;>simp[VObj.alike] at e3
    subst e3
    exact .siter id g b _ _ h2 (by rw[e4,hb])
   ·exact .staleit id g g2 o2 _ h2 (by omega)
 | miter id g b m mg since stepped seen h1 hb=>
   obtain⟨g2,o2,h2,l2,e2⟩:=h.gens id g _ h1
   by_cases e:g=g2
   ·subst e
    obtain⟨e3,e4⟩:=e2 rfl
    cases o2<;>simp[VObj.alike] at e3
    exact .miter id g b _ _ _ _ _ h2 (by rw[e4,hb])
   ·exact .staleit id g g2 o2 _ h2 (by omega)
 | undef v=>exact .undef v
 | slr es id g v _ _ i1 i2=>exact .slr es id g v i1 i2
def Cells (w:World) (b:Nat) (arr:Array Value):Prop:=∃ ty fr,w.heap[b]?=some (.cells arr ty fr)∧∀ i,i<arr.size→¬ (fr.1≤i∧i<fr.2)
def ORep (w:World) (σ:VHeap) (β:Beta) (ob:Option Nat):VObj→Prop
 | .dead=>True
 | .box cs _=>∃ b arr,ob=some b∧Cells w b arr∧cs.length=arr.size∧∀ (i:Nat) (c:PV) (v:Value),cs[i]?=some c→arr[i]?=some v→Rep w σ β c v
 | .row sz es _=>(ob=none∧es=[])∨∃ b arr,ob=some b∧Cells w b arr∧es.length * sz≤arr.size∧(∀ e,e∈es→e.length=sz)∧
   ∀ (i:Nat) (e:List PV) (j:Nat) (c:PV) (v:Value),es[i]?=some e→e[j]?=some c→arr[i * sz+j]?=some v→Rep w σ β c v
 | .map es clock=>∃ b ms,ob=some b∧w.heap[b]?=some (.map ms clock)∧es.length=ms.size∧
   ∀ (i:Nat) (e:PV × PV × Nat) (m:MapEntry),es[i]?=some e→ms[i]?=some m→Rep w σ β e.1 m.key∧Rep w σ β e.2.1 m.val∧e.2.2=m.born
 | .siter s pos=>∃ b,ob=some b∧∃ bs:ByteArray,bs.data.toList=s∧w.heap[b]?=some (.stringIter bs pos)
 | .miter m g since stepped seen=>∃ b,ob=some b∧∃ mb,Rep w σ β (.map m g) (.map (some mb))∧w.heap[b]?=some (.mapIter (some mb) since seen.toArray stepped)
structure Sim (σ:VHeap) (β:Beta) (w:World):Prop where
 obj:∀ (id g:Nat) (o:VObj),σ[id]?=some (g,o)→ORep w σ β (β id) o
 inj:∀ (i j b gi gj:Nat) (oi oj:VObj),σ[i]?=some (gi,oi)→σ[j]?=some (gj,oj)→oi.live→oj.live→β i=some b→β j=some b→i=j
theorem Cells.lt {w:World} {b:Nat} {arr:Array Value} (h:Cells w b arr):b<w.heap.size:=by
 obtain⟨ty,fr,h,_⟩:=h
 exact(Array.getElem?_eq_some_iff.1 h).1
theorem Cells.cell {w:World} {b:Nat} {arr:Array Value} (h:Cells w b arr) (i:Nat):w.cell? ⟨b,i,none⟩=arr[i]?:=by
 obtain⟨ty,fr,h,_⟩:=h
 simp[World.cell?,h]
theorem add_zero (a:Addr):a.add 0=a:=by simp[Addr.add]
theorem add_mk (b o n:Nat):(⟨b,o,none⟩:Addr).add n=⟨b,o+n,none⟩:=by unfold Addr.add;split<;>simp_all
theorem add_add (a:Addr) (i j:Nat):(a.add i).add j=a.add (i+j):=by
 unfold Addr.add
 by_cases hi:i=0
 ·subst hi;simp
 ·by_cases hj:j=0
  ·subst hj;simp
  ·rw[if_neg hi,if_neg hj,if_neg (by omega)];simp[Nat.add_assoc]
theorem add_block (a:Addr) (i:Nat):(a.add i).block=a.block:=by unfold Addr.add;split<;>rfl
theorem Sim.lt {σ β w} (h:Sim σ β w) {id g:Nat} {o:VObj} {b:Nat} (ho:σ[id]?=some (g,o)) (hl:o.live) (hb:β id=some b):b<w.heap.size:=by
 have:=h.obj id g o ho
 cases o with
 | dead=>exact hl.elim
 | box cs fz=>obtain⟨b',arr,e,hc,_⟩:=this;rw[hb] at e;cases e;exact hc.lt
 | row sz es fz=>
   rcases this with ⟨e,_⟩|⟨b',arr,e,hc,_⟩
   ·rw[hb] at e;cases e
   ·rw[hb] at e;cases e;exact hc.lt
 | map es clock=>obtain⟨b',ms,e,hh,_⟩:=this;rw[hb] at e;cases e;exact(Array.getElem?_eq_some_iff.1 hh).1
 | siter s pos=>obtain⟨b',e,bs,_,hh⟩:=this;rw[hb] at e;cases e;exact(Array.getElem?_eq_some_iff.1 hh).1
 | miter m g since stepped seen=>obtain⟨b',e,mb,_,hh⟩:=this;rw[hb] at e;cases e;exact(Array.getElem?_eq_some_iff.1 hh).1
theorem ORep.step {σ β w σ' β' w'} (h:Step σ β w σ' β' w') {ob:Option Nat} {o:VObj} (hr:ORep w σ β ob o)
  (hh:∀ b,ob=some b→w'.heap[b]?=w.heap[b]?):ORep w' σ' β' ob o:=by
 have cells:∀ {b:Nat} {arr:Array Value},ob=some b→Cells w b arr→Cells w' b arr:=by
  rintro b arr e ⟨ty,fr,h1,h2⟩
  exact⟨ty,fr,(hh b e).trans h1,h2⟩
 cases o with
 | dead=>trivial
 | box cs fz=>
   obtain⟨b,arr,e,hc,hl,hr⟩:=hr
   exact⟨b,arr,e,cells e hc,hl,fun i c v h1 h2=>(hr i c v h1 h2).step h⟩
 | row sz es fz=>
   rcases hr with hr|⟨b,arr,e,hc,hl,hs,hr⟩
   ·exact .inl hr
   ·exact .inr ⟨b,arr,e,cells e hc,hl,hs,fun i e j c v h1 h2 h3=>(hr i e j c v h1 h2 h3).step h⟩
 | map es clock=>
   obtain⟨b,ms,e,h1,hl,hr⟩:=hr
   refine⟨b,ms,e,(hh b e).trans h1,hl,fun i e m h2 h3=>?_⟩
   obtain⟨r1,r2,r3⟩:=hr i e m h2 h3
   exact⟨r1.step h,r2.step h,r3⟩
 | siter s pos=>
   obtain⟨b,e,bs,h1,h2⟩:=hr
   exact⟨b,e,bs,h1,(hh b e).trans h2⟩
 | miter m g since stepped seen=>
   obtain⟨b,e,mb,h1,h2⟩:=hr
   exact⟨b,e,mb,h1.step h,(hh b e).trans h2⟩
def upd (β:Beta) (id:Nat) (b:Option Nat):Beta:=fun i=>if i=id then b else β i
theorem upd_same (β:Beta) (id:Nat) (b:Option Nat):upd β id b id=b:=by simp[upd]
theorem upd_ne (β:Beta) {id i:Nat} (b:Option Nat) (h:i≠id):upd β id b i=β i:=by simp[upd,h]
theorem set_get {σ:VHeap} {id i g:Nat} {o:VObj} {x:Nat × VObj} (h:(σ.set id x)[i]?=some (g,o)):(i=id∧(g,o)=x)∨(i≠id∧σ[i]?=some (g,o)):=by
 by_cases e:i=id
 ·subst e
  rw[List.getElem?_set] at h
  simp only[if_true] at h
  split at h
  ·exact .inl ⟨rfl,(Option.some.inj h).symm⟩
  ·cases h
 ·rw[List.getElem?_set_ne (Ne.symm e)] at h
  exact .inr ⟨e,h⟩
theorem set_same {σ:VHeap} {id:Nat} {x y:Nat × VObj} (h:σ[id]?=some y):(σ.set id x)[id]?=some x:=by
 rw[List.getElem?_set_self]
 exact(List.getElem?_eq_some_iff.1 h).1
theorem cell_of_heap {w w':World} {a:Addr} (h:w'.heap[a.block]?=w.heap[a.block]?):w'.cell? a=w.cell? a:=by
 unfold World.cell?;rw[h]
theorem alloc_sim {σ β w w'} {id g:Nat} {o0 o:VObj} {obj:Obj} (h:Sim σ β w) (hid:σ[id]?=some (g,o0))
  (hos:w'.os=w.os) (ht:w'.tape=w.tape) (hout:w'.output=w.output) (hheap:w'.heap=w.heap.push obj)
  (ho:Step σ β w (σ.set id (g+1,o)) (upd β id (some w.heap.size)) w'→ORep w' (σ.set id (g+1,o)) (upd β id (some w.heap.size)) (some w.heap.size) o) :
  Step σ β w (σ.set id (g+1,o)) (upd β id (some w.heap.size)) w'∧Sim (σ.set id (g+1,o)) (upd β id (some w.heap.size)) w':=by
 have old:∀ b,b<w.heap.size→w'.heap[b]?=w.heap[b]?:=by
  intro b hb
  rw[hheap,Array.getElem?_push,if_neg (by omega)]
 have hs:Step σ β w (σ.set id (g+1,o)) (upd β id (some w.heap.size)) w':=by
  refine⟨hos,ht,hout,by rw[hheap];simp,fun b hb _=>old b hb,fun a v hc _=>by rw[cell_of_heap (old _ (cell_lt hc))];exact hc,?_,?_,?_,?_⟩
  ·rintro b hb ⟨i,gi,oi,h1,h2,h3⟩
   rcases set_get h1 with ⟨e,h4⟩|⟨e,h4⟩
   ·subst e;rw[upd_same] at h2;cases h2;omega
   ·rw[upd_ne _ _ e] at h2;exact⟨i,gi,oi,h4,h2,h3⟩
  ·rintro b j hb ⟨i,gi,oi,h1,h2,h3⟩
   rcases set_get h1 with ⟨e,h4⟩|⟨e,h4⟩
   ·subst e;rw[upd_same] at h2;cases h2;omega
   ·rw[upd_ne _ _ e] at h2;exact⟨i,gi,oi,h4,h2,h3⟩
  ·intro b arr ty fr hb
   exact⟨arr,by rw[old b (Array.getElem?_eq_some_iff.1 hb).1];exact hb,rfl⟩
  ·intro i gi oi h1
   by_cases e:i=id
   ·subst e
    rw[hid] at h1;cases h1
    exact⟨g+1,o,set_same hid,by omega,fun e=>by omega⟩
   ·exact⟨gi,oi,by rw[List.getElem?_set_ne (Ne.symm e)];exact h1,Nat.le_refl _,fun _=>⟨oi.alike_refl,upd_ne _ _ e⟩⟩
 refine⟨hs,?_,?_⟩
 ·intro i gi oi h1
  rcases set_get h1 with ⟨e,h4⟩|⟨e,h4⟩
  ·subst e;cases h4;rw[upd_same];exact ho hs
  ·rw[upd_ne _ _ e]
   by_cases hl:oi.live
   ·exact(h.obj i gi oi h4).step hs fun b hb=>old b (h.lt h4 hl hb)
   ·cases oi<;>simp[VObj.live] at hl;trivial
 ·intro i j b gi gj oi oj h1 h2 l1 l2 b1 b2
  rcases set_get h1 with ⟨e1,h3⟩|⟨e1,h3⟩<;>rcases set_get h2 with ⟨e2,h4⟩|⟨e2,h4⟩
  ·rw[e1,e2]
  ·subst e1;rw[upd_same] at b1;cases b1
   rw[upd_ne _ _ e2] at b2
   have:=h.lt h4 l2 b2;omega
  ·subst e2;rw[upd_same] at b2;cases b2
   rw[upd_ne _ _ e1] at b1
   have:=h.lt h3 l1 b1;omega
  ·rw[upd_ne _ _ e1] at b1;rw[upd_ne _ _ e2] at b2
   exact h.inj i j b gi gj oi oj h3 h4 l1 l2 b1 b2
theorem put_sim' {σ β w w'} {id g g' b:Nat} {o o':VObj} {obj obj':Obj} (h:Sim σ β w) (hid:σ[id]?=some (g,o)) (hl:o.live) (hb:β id=some b)
  (hos:w'.os=w.os) (ht:w'.tape=w.tape) (hout:w'.output=w.output) (hobj:w.heap[b]?=some obj) (hheap:w'.heap=w.heap.setIfInBounds b obj')
  (hgg:g≤g') (hal:g=g'→o.alike o') (hmay:∀ i,o'.may i→o.may i)
  (hcell:∀ i v,w.cell? ⟨b,i,none⟩=some v→¬ o.may i→w'.cell? ⟨b,i,none⟩=some v)
  (hshape:∀ arr ty fr,obj=.cells arr ty fr→∃ arr',obj'=.cells arr' ty fr∧arr'.size=arr.size)
  (ho:Step σ β w (σ.set id (g',o')) β w'→ORep w' (σ.set id (g',o')) β (some b) o') :
  Step σ β w (σ.set id (g',o')) β w'∧Sim (σ.set id (g',o')) β w':=by
 have hlt:b<w.heap.size:=(Array.getElem?_eq_some_iff.1 hobj).1
 have old:∀ c,c≠b→w'.heap[c]?=w.heap[c]?:=by
  intro c hc
  rw[hheap,Array.getElem?_setIfInBounds_ne (Ne.symm hc)]
 have new:w'.heap[b]?=some obj':=by
  rw[hheap,Array.getElem?_setIfInBounds_self_of_lt hlt]
 have hs:Step σ β w (σ.set id (g',o')) β w':=by
  refine⟨hos,ht,hout,by rw[hheap];simp,?_,?_,?_,?_,?_,?_⟩
  ·intro c hc hno
   exact old c fun e=>hno (e▸⟨id,g,o,hid,hb,hl⟩)
  ·intro a v hc hno
   by_cases e:a.block=b
   ·have hsp:a=⟨b,a.off,none⟩:=by
     cases a with
     | mk blk off spot=>
       simp only at e;subst e
       cases spot with
       | none=>rfl
       | some s=>unfold World.cell? at hc;split at hc<;>simp at hc
    rw[hsp] at hc ⊢
    exact hcell _ _ hc fun hm=>hno (by rw[hsp];exact⟨id,g,o,hid,hb,hm⟩)
   ·rw[cell_of_heap (old _ e)];exact hc
  ·rintro c hc ⟨i,gi,oi,h1,h2,h3⟩
   rcases set_get h1 with ⟨e,h4⟩|⟨e,h4⟩
   ·subst e;cases h4;exact⟨i,g,o,hid,h2,hl⟩
   ·exact⟨i,gi,oi,h4,h2,h3⟩
  ·rintro c j hc ⟨i,gi,oi,h1,h2,h3⟩
   rcases set_get h1 with ⟨e,h4⟩|⟨e,h4⟩
   ·subst e;cases h4;exact⟨i,g,o,hid,h2,hmay _ h3⟩
   ·exact⟨i,gi,oi,h4,h2,h3⟩
  ·intro c arr ty fr hc
   by_cases e:c=b
   ·subst e
    rw[hobj] at hc
    obtain⟨arr',e1,e2⟩:=hshape arr ty fr (Option.some.inj hc)
    exact⟨arr',by rw[new,e1],e2⟩
   ·exact⟨arr,by rw[old c e];exact hc,rfl⟩
  ·intro i gi oi h1
   by_cases e:i=id
   ·subst e
    rw[hid] at h1;cases h1
    exact⟨g',o',set_same hid,hgg,fun e=>⟨hal e,rfl⟩⟩
   ·exact⟨gi,oi,by rw[List.getElem?_set_ne (Ne.symm e)];exact h1,Nat.le_refl _,fun _=>⟨oi.alike_refl,rfl⟩⟩
 refine⟨hs,?_,?_⟩
 ·intro i gi oi h1
  rcases set_get h1 with ⟨e,h4⟩|⟨e,h4⟩
  ·subst e;cases h4;rw[hb];exact ho hs
  ·by_cases hli:oi.live
   ·refine(h.obj i gi oi h4).step hs fun c hc=>old c fun e2=>e ?_
    subst e2
    exact h.inj i id c gi g oi o h4 hid hli hl hc hb
   ·cases oi<;>simp[VObj.live] at hli;trivial
 ·intro i j c gi gj oi oj h1 h2 l1 l2 b1 b2
  rcases set_get h1 with ⟨e1,h3⟩|⟨e1,h3⟩<;>rcases set_get h2 with ⟨e2,h4⟩|⟨e2,h4⟩
  ·rw[e1,e2]
  ·subst e1;exact h.inj i j c g gj o oj hid h4 hl l2 b1 b2
  ·subst e2;exact h.inj i j c gi g oi o h3 hid l1 hl b1 b2
  ·exact h.inj i j c gi gj oi oj h3 h4 l1 l2 b1 b2
theorem put_sim {σ β w w'} {id g b:Nat} {o o':VObj} {obj obj':Obj} (h:Sim σ β w) (hid:σ[id]?=some (g,o)) (hl:o.live) (hb:β id=some b)
  (hos:w'.os=w.os) (ht:w'.tape=w.tape) (hout:w'.output=w.output) (hobj:w.heap[b]?=some obj) (hheap:w'.heap=w.heap.setIfInBounds b obj')
  (hal:o.alike o') (hmay:∀ i,o'.may i→o.may i)
  (hcell:∀ i v,w.cell? ⟨b,i,none⟩=some v→¬ o.may i→w'.cell? ⟨b,i,none⟩=some v)
  (hshape:∀ arr ty fr,obj=.cells arr ty fr→∃ arr',obj'=.cells arr' ty fr∧arr'.size=arr.size)
  (ho:Step σ β w (σ.set id (g,o')) β w'→ORep w' (σ.set id (g,o')) β (some b) o') :
  Step σ β w (σ.set id (g,o')) β w'∧Sim (σ.set id (g,o')) β w':=
 put_sim' h hid hl hb hos ht hout hobj hheap (Nat.le_refl _) (fun _=>hal) hmay hcell hshape ho
theorem same_sim {σ β w w'} (h:Sim σ β w) (hos:w'.os=w.os) (ht:w'.tape=w.tape) (hout:w'.output=w.output) (hheap:w'.heap=w.heap):Step σ β w σ β w'∧Sim σ β w':=by
 have old:∀ b:Nat,w'.heap[b]?=w.heap[b]?:=fun b=>by rw[hheap]
 have hs:Step σ β w σ β w':=
  ⟨hos,ht,hout,by rw[hheap];exact Nat.le_refl _,fun b _ _=>old b,fun a v hc _=>by rw[cell_of_heap (old _)];exact hc,fun _ _ h=>h,fun _ _ _ h=>h,
   fun b arr ty fr hb=>⟨arr,(old b).trans hb,rfl⟩,fun i gi oi h1=>⟨gi,oi,h1,Nat.le_refl _,fun _=>⟨oi.alike_refl,rfl⟩⟩⟩
 exact⟨hs,fun i gi oi h1=>(h.obj i gi oi h1).step hs fun b _=>old b,h.inj⟩
def VObj.freeze:VObj→VObj
 | .box cs _=>.box cs true
 | .row sz es _=>.row sz es true
 | o=>o
def VObj.fzd:VObj→Prop
 | .box _ fz=>fz=true
 | .row _ _ fz=>fz=true
 | _=>True
theorem VObj.freeze_fzd (o:VObj):o.freeze.fzd:=by cases o<;>simp[VObj.freeze,VObj.fzd]
theorem VObj.freeze_alike (o:VObj):o.alike o.freeze:=by cases o<;>simp[VObj.freeze,VObj.alike]
theorem VObj.freeze_live {o:VObj}:o.freeze.live↔o.live:=by cases o<;>simp[VObj.freeze,VObj.live]
theorem VObj.freeze_may {o:VObj} {i:Nat} (h:o.freeze.may i):o.may i:=by cases o<;>simp_all [VObj.freeze,VObj.may]
theorem VObj.freeze_freeze (o:VObj):o.freeze.freeze=o.freeze:=by cases o<;>simp[VObj.freeze]
def frzId (σ:VHeap) (id:Nat):VHeap:=
 match σ[id]? with
 | some (g,o)=>σ.set id (g,o.freeze)
 | none=>σ
def frzIds (σ:VHeap) (l:List Nat):VHeap:=l.foldl frzId σ
def FE (σ σ':VHeap):Prop:=∀ id:Nat,σ'[id]?=σ[id]?∨∃ g o,σ[id]?=some (g,o)∧σ'[id]?=some (g,o.freeze)
def Fz (σ:VHeap) (id:Nat):Prop:=∀ (g:Nat) (o:VObj),σ[id]?=some (g,o)→o.fzd
theorem FE.refl (σ:VHeap):FE σ σ:=fun _=>.inl rfl
theorem FE.trans {a b c:VHeap} (h:FE a b) (k:FE b c):FE a c:=by
 intro id
 rcases h id with h1|⟨g,o,h1,h2⟩<;>rcases k id with k1|⟨g',o',k1,k2⟩
 ·exact .inl (k1.trans h1)
 ·exact .inr ⟨g',o',h1▸k1,k2⟩
 ·exact .inr ⟨g,o,h1,k1.trans h2⟩
 ·rw[h2] at k1;cases k1
  exact .inr ⟨g,o,h1,by rw[k2,VObj.freeze_freeze]⟩
theorem frzId_FE (σ:VHeap) (id:Nat):FE σ (frzId σ id):=by
 unfold frzId
 split
 ·rename_i g o h
  intro i
  by_cases e:i=id
  ·subst e;exact .inr ⟨g,o,h,set_same h⟩
  ·exact .inl (List.getElem?_set_ne (Ne.symm e))
 ·exact FE.refl σ
theorem frzIds_FE (l:List Nat):∀ σ:VHeap,FE σ (frzIds σ l):=by
 induction l with
 | nil=>exact FE.refl
 | cons a l ih=>intro σ;exact(frzId_FE σ a).trans (ih _)
theorem Fz.mono {σ σ':VHeap} {id:Nat} (h:Fz σ id) (k:FE σ σ'):Fz σ' id:=by
 intro g o ho
 rcases k id with k1|⟨g',o',k1,k2⟩
 ·exact h g o (k1▸ho)
 ·rw[k2] at ho;cases ho;exact VObj.freeze_fzd o'
theorem frzId_Fz (σ:VHeap) (id:Nat):Fz (frzId σ id) id:=by
 unfold frzId
 split
 ·rename_i g o h
  intro g' o' h'
  rw[set_same h] at h';cases h'
  exact VObj.freeze_fzd o
 ·rename_i h
  intro g' o' h'
  rw[h] at h';cases h'
theorem frzIds_Fz (l:List Nat):∀ (σ:VHeap) (id:Nat),id∈l→Fz (frzIds σ l) id:=by
 induction l with
 | nil=>intro σ id h;cases h
 | cons a l ih=>
   intro σ id h
   cases h with
   | head=>exact(frzId_Fz σ _).mono (frzIds_FE l _)
   | tail _ h=>exact ih _ id h
theorem FE.step {σ σ':VHeap} (h:FE σ σ') (β:Beta) (w:World):Step σ β w σ' β w:=by
 refine⟨rfl,rfl,rfl,Nat.le_refl _,fun _ _ _=>rfl,fun _ _ h _=>h,?_,?_,fun _ arr _ _ h=>⟨arr,h,rfl⟩,?_⟩
 ·rintro b _ ⟨id,g,o,h1,h2,h3⟩
  rcases h id with k|⟨g',o',k1,k2⟩
  ·exact⟨id,g,o,k▸h1,h2,h3⟩
  ·rw[k2] at h1;cases h1;exact⟨id,g,o',k1,h2,VObj.freeze_live.1 h3⟩
 ·rintro b i _ ⟨id,g,o,h1,h2,h3⟩
  rcases h id with k|⟨g',o',k1,k2⟩
  ·exact⟨id,g,o,k▸h1,h2,h3⟩
  ·rw[k2] at h1;cases h1;exact⟨id,g,o',k1,h2,VObj.freeze_may h3⟩
 ·intro id g o h1
  rcases h id with k|⟨g',o',k1,k2⟩
  ·exact⟨g,o,k.trans h1,Nat.le_refl _,fun _=>⟨o.alike_refl,rfl⟩⟩
  ·rw[h1] at k1;cases k1;exact⟨g,o.freeze,k2,Nat.le_refl _,fun _=>⟨o.freeze_alike,rfl⟩⟩
theorem ORep.freeze {w:World} {σ:VHeap} {β:Beta} {ob:Option Nat} {o:VObj} (h:ORep w σ β ob o):ORep w σ β ob o.freeze:=by cases o<;>exact h
theorem FE.sim {σ σ':VHeap} (h:FE σ σ') {β:Beta} {w:World} (hs:Sim σ β w):Sim σ' β w:=by
 refine⟨fun id g o h1=>?_,fun i j b gi gj oi oj h1 h2 l1 l2 b1 b2=>?_⟩
 ·rcases h id with k|⟨g',o',k1,k2⟩
  ·exact(hs.obj id g o (k▸h1)).step (h.step β w) fun _ _=>rfl
  ·rw[k2] at h1;cases h1;exact((hs.obj id g o' k1).step (h.step β w) fun _ _=>rfl).freeze
 ·have f:∀ {i g:Nat} {o:VObj},σ'[i]?=some (g,o)→o.live→∃ g o,σ[i]?=some (g,o)∧o.live:=by
   intro i g o h1 h2
   rcases h i with k|⟨g',o',k1,k2⟩
   ·exact⟨g,o,k▸h1,h2⟩
   ·rw[k2] at h1;cases h1;exact⟨g,o',k1,VObj.freeze_live.1 h2⟩
  obtain⟨g1,o1,e1,f1⟩:=f h1 l1
  obtain⟨g2,o2,e2,f2⟩:=f h2 l2
  exact hs.inj i j b g1 g2 o1 o2 e1 e2 f1 f2 b1 b2
mutual
def inl (σ:VHeap):PV→PV
 | .agg cs=>.agg (inlL σ cs)
 | .tup vs=>.tup (inlL σ vs)
 | .nils=>.sl []
 | .row id g=>match σ[id]? with
   | some (g',.row _ es _)=>if g'=g then .sl es else .undef
   | _=>.undef
 | .bview id g off len=>match σ[id]? with
   | some (g',.box cs _)=>if g'=g then .sl (((cs.drop off).take len).map fun c=>[c]) else .undef
   | _=>.undef
 | .rview id g lo len=>match σ[id]? with
   | some (g',.row _ es _)=>if g'=g then .sl ((es.drop lo).take len) else .undef
   | _=>.undef
 | .bool b=>.bool b
 | .int k n=>.int k n
 | .str s=>.str s
 | .nilp=>.nilp
 | .ptr id g off=>.ptr id g off
 | .rptr id g i off=>.rptr id g i off
 | .iptr cs off=>.iptr cs off
 | .sl es=>.sl es
 | .map id g=>.map id g
 | .nilm=>.nilm
 | .fn f cap=>.fn f cap
 | .iter id g=>.iter id g
 | .undef=>.undef
 | .slr es _ _=>.sl es
def inlL (σ:VHeap):List PV→List PV
 | []=>[]
 | c::cs=>inl σ c::inlL σ cs
end
mutual
def refs:PV→List Nat
 | .agg cs=>refsL cs
 | .tup vs=>refsL vs
 | .row id _=>[id]
 | .bview id _ _ _=>[id]
 | .rview id _ _ _=>[id]
 | .nils=>[]
 | .bool _=>[]
 | .int _ _=>[]
 | .str _=>[]
 | .nilp=>[]
 | .ptr _ _ _=>[]
 | .rptr _ _ _ _=>[]
 | .iptr _ _=>[]
 | .sl _=>[]
 | .map _ _=>[]
 | .nilm=>[]
 | .fn _ _=>[]
 | .iter _ _=>[]
 | .undef=>[]
 | .slr _ _ _=>[]
def refsL:List PV→List Nat
 | []=>[]
 | c::cs=>refs c++refsL cs
end
theorem inlL_eq (σ:VHeap) (cs:List PV):inlL σ cs=cs.map (inl σ):=by
 induction cs with
 | nil=>rfl
 | cons c cs ih=>rw[inlL,ih];rfl
theorem refsL_eq (cs:List PV):refsL cs=cs.flatMap refs:=by
 induction cs with
 | nil=>rfl
 | cons c cs ih=>rw[refsL,ih];rfl
theorem row_still {σ β w σ'} (hs:Sim σ β w) (hf:FE σ σ') {id g b sz:Nat} {es:List (List PV)} {fz:Bool} {arr:Array Value} (h:σ[id]?=some (g,.row sz es fz)) (hb:β id=some b)
  (hz:Fz σ' id) (hc:Cells w b arr) {i:Nat} (hi:i<es.length * sz) (hia:i<arr.size):w.cell? ⟨b,i,none⟩=some (arr.getD i default)∧¬ Wr σ' β b i:=by
 refine⟨by rw[hc.cell,Array.getElem?_eq_getElem hia,Array.getD_eq_getD_getElem?,Array.getElem?_eq_getElem hia];rfl,?_⟩
 rintro ⟨j,gj,oj,h1,h2,h3⟩
 have hs':=hf.sim hs
 have h4:∃ o',σ'[id]?=some (g,o')∧o'.live∧(∃ fz',o'=.row sz es fz'):=by
  rcases hf id with k|⟨g',o',k1,k2⟩
  ·exact⟨_,k.trans h,trivial,fz,rfl⟩
  ·rw[h] at k1;cases k1;exact⟨_,k2,trivial,true,rfl⟩
 obtain⟨o',h5,h6,fz',h7⟩:=h4
 have e:=hs'.inj j id b gj g oj o' h1 h5 (VObj.live_of_may h3) h6 h2 hb
 subst e
 rw[h5] at h1;cases h1
 have h8:=hz g _ h5
 subst h7
 have:=h3 h8
 omega
theorem box_still {σ β w σ'} (hs:Sim σ β w) (hf:FE σ σ') {id g b:Nat} {cs:List PV} {fz:Bool} {arr:Array Value} (h:σ[id]?=some (g,.box cs fz)) (hb:β id=some b)
  (hz:Fz σ' id) (hc:Cells w b arr) {i:Nat} (hia:i<arr.size):w.cell? ⟨b,i,none⟩=some (arr.getD i default)∧¬ Wr σ' β b i:=by
 refine⟨by rw[hc.cell,Array.getElem?_eq_getElem hia,Array.getD_eq_getD_getElem?,Array.getElem?_eq_getElem hia];rfl,?_⟩
 rintro ⟨j,gj,oj,h1,h2,h3⟩
 have hs':=hf.sim hs
 have h4:∃ o',σ'[id]?=some (g,o')∧o'.live∧(∃ fz',o'=.box cs fz'):=by
  rcases hf id with k|⟨g',o',k1,k2⟩
  ·exact⟨_,k.trans h,trivial,fz,rfl⟩
  ·rw[h] at k1;cases k1;exact⟨_,k2,trivial,true,rfl⟩
 obtain⟨o',h5,h6,fz',h7⟩:=h4
 have e:=hs'.inj j id b gj g oj o' h1 h5 (VObj.live_of_may h3) h6 h2 hb
 subst e
 rw[h5] at h1;cases h1
 have h8:=hz g _ h5
 subst h7
 simp only[VObj.fzd] at h8
 simp only[VObj.may] at h3
 rw[h8] at h3;cases h3
theorem inl_rep {σ β w σ'} (hs:Sim σ β w) (hf:FE σ σ') {c:PV} {v:Value} (hr:Rep w σ β c v):(∀ id,id∈refs c→Fz σ' id)→Rep w σ' β (inl σ c) v:=by
 have hst:=hf.step β w
 induction hr with
 | agg cs vs hl h ih=>
   intro hz
   rw[inl,inlL_eq]
   refine .agg _ vs (by simpa using hl) fun i c v h1 h2=>?_
   rw[List.getElem?_map] at h1
   cases h3:cs[i]? with
   | none=>rw[h3] at h1;cases h1
   | some c0=>
     rw[h3] at h1;cases h1
     exact ih i c0 v h3 h2 fun id hid=>hz id (by rw[refs,refsL_eq];exact List.mem_flatMap.2 ⟨c0,List.mem_of_getElem? h3,hid⟩)
 | tup cs vs hl h ih=>
   intro hz
   rw[inl,inlL_eq]
   refine .tup _ vs (by simpa using hl) fun i c v h1 h2=>?_
   rw[List.getElem?_map] at h1
   cases h3:cs[i]? with
   | none=>rw[h3] at h1;cases h1
   | some c0=>
     rw[h3] at h1;cases h1
     exact ih i c0 v h3 h2 fun id hid=>hz id (by rw[refs,refsL_eq];exact List.mem_flatMap.2 ⟨c0,List.mem_of_getElem? h3,hid⟩)
 | nils=>intro _;rw[inl];exact .sl [] 0 0 0 none (fun _=>default) rfl (Nat.le_refl _) (by simp) (by omega) (by simp)
 | stalerow id g g' o p n c h1 hg=>
   intro _
   rw[inl]
   split
   ·rename_i g2 sz es fz h2
    rw[h1] at h2;cases h2
    rw[if_neg (by omega)];exact .undef _
   ·exact .undef _
 | rownil id g sz fz ad h1 hb=>
   intro _
   rw[inl,h1];simp only[if_true]
   exact .sl [] 0 0 0 ad (fun _=>default) rfl (Nat.le_refl _) (by simp) (by omega) (by simp)
 | row id g b sz cap es fz arr ty fr h1 hb hh hc hsz=>
   intro hz
   have hz:=hz id (by simp[refs])
   have hob:=hs.obj id g _ h1
   rcases hob with ⟨e,_⟩|⟨b',arr',e,hcl,hle,hel,hre⟩
   ·rw[hb] at e;cases e
   ·rw[hb] at e;cases e
    rw[inl,h1];simp only[if_true]
    refine .sl es sz es.length cap _ (fun i=>arr'.getD i default) rfl hc hel (fun _=>⟨_,rfl,?_⟩) ?_
    ·intro j hj
     have:=row_still hs hf h1 hb hz hcl hj (by omega)
     rw[add_mk,Nat.zero_add];exact this
    ·intro i e j c h2 h3
     have h4:i<es.length:=(List.getElem?_eq_some_iff.1 h2).1
     have h5:j<sz:=by rw[← hel e (List.mem_of_getElem? h2)];exact(List.getElem?_eq_some_iff.1 h3).1
     have h6:i * sz+j<es.length * sz:=by
      have:(i+1) * sz≤es.length * sz:=Nat.mul_le_mul_right _ h4
      rw[Nat.add_mul] at this;omega
     have h7:i * sz+j<arr'.size:=by omega
     refine(hre i e j c (arr'.getD (i * sz+j) default) h2 h3 ?_).step hst
     rw[Array.getElem?_eq_getElem h7,Array.getD_eq_getD_getElem?,Array.getElem?_eq_getElem h7];rfl
 | stalebv id g off len g' o p n c h1 hg=>
   intro _
   rw[inl]
   split
   ·rename_i g2 cs fz h2
    rw[h1] at h2;cases h2
    rw[if_neg (by omega)];exact .undef _
   ·exact .undef _
 | bview id g off len b cap a cs fz h1 hb hl hc ha=>
   intro hz
   have hz:=hz id (by simp[refs])
   obtain⟨b',arr,e,hcl,hle,hre⟩:=hs.obj id g _ h1
   rw[hb] at e;cases e
   rw[inl,h1];simp only[if_true]
   have hlen:(((cs.drop off).take len).map fun c=>[c]).length=len:=by simp;omega
   refine .sl _ 1 len cap a (fun i=>arr.getD (off+i) default) hlen hc (by intro e he;obtain⟨c,_,rfl⟩:=List.mem_map.1 he;rfl) (fun h0=>⟨_,ha h0,?_⟩) ?_
   ·intro j hj
    have:=box_still (i:=off+j) hs hf h1 hb hz hcl (by omega)
    rw[add_mk];exact this
   ·intro i e j c h2 h3
    rw[List.getElem?_map,List.getElem?_take] at h2
    split at h2
    ·rename_i hi
     rw[List.getElem?_drop] at h2
     cases h4:cs[off+i]? with
     | none=>rw[h4] at h2;cases h2
     | some c0=>
       rw[h4] at h2;cases h2
       have hj0:j=0:=by
        have:=(List.getElem?_eq_some_iff.1 h3).1
        simp at this;omega
       subst hj0
       cases h3
       have h7:off+i<arr.size:=by omega
       simp only[Nat.mul_one,Nat.add_zero]
       refine(hre (off+i) _ (arr.getD (off+i) default) h4 ?_).step hst
       rw[Array.getElem?_eq_getElem h7,Array.getD_eq_getD_getElem?,Array.getElem?_eq_getElem h7];rfl
    ·cases h2
 | stalerv id g lo len g' o p n c h1 hg=>
   intro _
   rw[inl]
   split
   ·rename_i g2 sz es fz h2
    rw[h1] at h2;cases h2
    rw[if_neg (by omega)];exact .undef _
   ·exact .undef _
 | rview id g lo len cap sz a es fz h1 hl hc ha=>
   intro hz
   have hz:=hz id (by simp[refs])
   rw[inl,h1];simp only[if_true]
   by_cases h00:len=0
   ·subst h00
    rw[List.take_zero]
    exact .sl [] 0 0 cap a (fun _=>default) rfl (Nat.zero_le _) (by simp) (by omega) (by simp)
   obtain⟨b,hb,ha⟩:=ha (by omega)
   have hob:=hs.obj id g _ h1
   rcases hob with ⟨e,_⟩|⟨b',arr',e,hcl,hle,hel,hre⟩
   ·rw[hb] at e;cases e
   ·rw[hb] at e;cases e
    have hle2:(lo+len) * sz≤es.length * sz:=Nat.mul_le_mul_right _ hl
    rw[Nat.add_mul] at hle2
    refine .sl _ sz len cap a (fun i=>arr'.getD (lo * sz+i) default) (by simp;omega) hc (fun e he=>hel e (List.mem_of_mem_drop (List.mem_of_mem_take he))) (fun h0=>⟨_,ha,?_⟩) ?_
    ·intro j hj
     have:=row_still (i:=lo * sz+j) hs hf h1 hb hz hcl (by omega) (by omega)
     rw[add_mk];exact this
    ·intro i e j c h2 h3
     rw[List.getElem?_take] at h2
     split at h2
     ·rename_i hi
      rw[List.getElem?_drop] at h2
      have h5:j<sz:=by rw[← hel e (List.mem_of_getElem? h2)];exact(List.getElem?_eq_some_iff.1 h3).1
      have h6:i * sz+j<len * sz:=by
       have:(i+1) * sz≤len * sz:=Nat.mul_le_mul_right _ hi
       rw[Nat.add_mul] at this;omega
      have h7:lo * sz+(i * sz+j)<arr'.size:=by omega
      refine(hre (lo+i) e j c (arr'.getD (lo * sz+(i * sz+j)) default) h2 h3 ?_).step hst
      rw[Nat.add_mul,Nat.add_assoc,Array.getElem?_eq_getElem h7,Array.getD_eq_getD_getElem?,Array.getElem?_eq_getElem h7];rfl
     ·cases h2
 | bool b=>intro _;exact .bool b
 | int k n=>intro _;exact .int k n
 | str s=>intro _;exact .str s
 | nilp=>intro _;exact .nilp
 | stalep id g off g' o v h1 hg=>intro _;exact(Rep.stalep id g off g' o v h1 hg).step hst
 | ptr id g off b cs fz h1 hb=>intro _;exact(Rep.ptr id g off b cs fz h1 hb).step hst
 | stalerp id g i off g' o v h1 hg=>intro _;exact(Rep.stalerp id g i off g' o v h1 hg).step hst
 | rptr id g i off b sz es fz h1 hb=>intro _;exact(Rep.rptr id g i off b sz es fz h1 hb).step hst
 | iptr cells off a a0 f ha hs h=>intro _;exact(Rep.iptr cells off a a0 f ha hs h).step hst
 | sl es sz n cap a f hn hc hsz ha h=>intro _;exact(Rep.sl es sz n cap a f hn hc hsz ha h).step hst
 | stalemap id g g' o v h1 hg=>intro _;exact(Rep.stalemap id g g' o v h1 hg).step hst
 | map id g b es clock h1 hb=>intro _;exact(Rep.map id g b es clock h1 hb).step hst
 | nilm=>intro _;exact .nilm
 | fn f cap vs hl h=>intro _;exact(Rep.fn f cap vs hl h).step hst
 | staleit id g g' o v h1 hg=>intro _;exact(Rep.staleit id g g' o v h1 hg).step hst
 | siter id g b s pos h1 hb=>intro _;exact(Rep.siter id g b s pos h1 hb).step hst
 | miter id g b m mg since stepped seen h1 hb=>intro _;exact(Rep.miter id g b m mg since stepped seen h1 hb).step hst
 | undef v=>intro _;exact .undef v
 | slr es id g v _ _ i1 _=>
   intro _
   have:=i1 (by simp[refs])
   rw[inl] at this
   rw[inl];exact this
def frz (σ:VHeap) (c:PV):VHeap:=frzIds σ (refs c)
theorem frz_rep {σ β w} (hs:Sim σ β w) {c:PV} {v:Value} (hr:Rep w σ β c v) :
  Rep w (frz σ c) β (inl σ c) v∧Sim (frz σ c) β w∧Step σ β w (frz σ c) β w:=
 have hf:=frzIds_FE (refs c) σ
 ⟨inl_rep hs hf hr fun id hid=>frzIds_Fz _ _ id hid,hf.sim hs,hf.step β w⟩
inductive VA where
 | t (i:Nat)
 | c (v:PV)
 deriving Inhabited
class Glob where
 tab:Nat→Option (List PV)
 still:FuncId→Bool
def GloRep [Glob] (w:World) (σ:VHeap) (β:Beta):Prop:=∀ (g:Nat) (cells:List PV),Glob.tab g=some cells→∃ f,Still w σ β ⟨g,0,none⟩ cells.length f∧(∀ (j:Nat) (c:PV),cells[j]?=some c→Rep w σ β c (f j))∧∃ arr ty fr,w.heap[g]?=some (.cells arr ty fr)∧arr.size=cells.length
theorem GloRep.step [Glob] {w σ β σ' β' w'} (h:GloRep w σ β) (hs:Step σ β w σ' β' w'):GloRep w' σ' β':=fun g cells e=>
 let ⟨f,h1,h2,arr,ty,fr,h3,h4⟩:=h g cells e
 let ⟨arr',h5,h6⟩:=hs.shape g arr ty fr h3
 ⟨f,h1.step hs,fun j c hj=>(h2 j c hj).step hs,arr',ty,fr,h5,h6.trans h4⟩
abbrev Env:=Nat→PV
def va (env:Env):VA→PV
 | .t i=>env i
 | .c v=>v
def cpv:Value→Option PV
 | .bool b=>some (.bool b)
 | .int k n=>some (.int k n)
 | .string s=>some (.str s.data.toList)
 | .pointer none=>some .nilp
 | .slice none 0 0=>some .nils
 | .map none=>some .nilm
 | _=>some .undef
def cA [Glob]:Operand→Option VA
 | .tmp t=>some (.t t)
 | .const v=>(cpv v).map .c
 | .func f=>some (.c (.fn f []))
 | .global g=>(Glob.tab g).map fun cells=>.c (.iptr cells 0)
structure FrameRep [Glob] (w:World) (σ:VHeap) (β:Beta) (env:Env) (a:Act):Prop where
 defers:a.defers=[]
 rep:∀ i:Nat,Rep w σ β (env i) (a.tmps.getD i Go.undef)
 glo:GloRep w σ β
theorem cpv_rep {w σ β v c} (h:cpv v=some c):Rep w σ β c v:=by
 unfold cpv at h
 split at h<;>first|cases h|skip
 ·exact .bool _
 ·exact .int _ _
 ·exact .str _
 ·exact .nilp
 ·exact .nils
 ·exact .nilm
 ·exact .undef _
theorem FrameRep.eval [Glob] {w σ β env a} (h:FrameRep w σ β env a) {o:Operand} {x:VA} (hx:cA o=some x):Rep w σ β (va env x) (a.eval o):=by
 unfold cA at hx
 split at hx
 ·rename_i t
  cases hx
  exact h.rep t
 ·rename_i v
  cases hc:cpv v with
  | none=>rw[hc] at hx;cases hx
  | some c=>rw[hc] at hx;cases hx;exact cpv_rep hc
 ·cases hx
  exact .fn _ [] #[] rfl (by simp)
 ·rename_i g
  cases hc:Glob.tab g with
  | none=>rw[hc] at hx;cases hx
  | some cells=>
    rw[hc] at hx;cases hx
    obtain⟨f,h1,h2,_⟩:=h.glo g cells hc
    exact .iptr cells 0 _ _ f (add_zero _).symm h1 h2
theorem FrameRep.step [Glob] {w σ β env a w' σ' β'} (h:FrameRep w σ β env a) (hs:Step σ β w σ' β' w'):FrameRep w' σ' β' env a:=
 ⟨h.defers,fun i=>(h.rep i).step hs,h.glo.step hs⟩
def eput (env:Env) (d:Option Nat) (r:PV):Env:=match d with|some d=>fun i=>cond (Nat.beq i d) r (env i)|none=>env
theorem FrameRep.put [Glob] {w σ β env a} (h:FrameRep w σ β env a) {d:Option Nat} {r:PV} {v:Value} (hd:∀ d',d=some d'→d'<a.tmps.size) (hr:Rep w σ β r v):FrameRep w σ β (eput env d r) (a.put d v):=by
 cases d with
 | none=>exact h
 | some d=>
   refine⟨h.defers,fun i=>?_,h.glo⟩
   simp only[eput,Act.put]
   by_cases e:i=d
   ·subst e
    rw[Nat.beq_refl,cond_true,Array.getD_eq_getD_getElem?,Array.getElem?_setIfInBounds_self_of_lt (hd i rfl)]
    exact hr
   ·rw[show Nat.beq i d=false from by cases h:Nat.beq i d with|false=>rfl|true=>exact(e (Nat.eq_of_beq_eq_true h)).elim,cond_false,Array.getD_eq_getD_getElem?,Array.getElem?_setIfInBounds_ne (Ne.symm e),← Array.getD_eq_getD_getElem?]
    exact h.rep i
abbrev KP:=PV→VHeap→Prop
def OpS (P:Program) (o:Oper) (a:Act) (σ:VHeap) (β:Beta) (w:World) (K:KP):Prop:=
 ∀ (N:Act→World→Prop) (Q:Exit→Act→World→Prop),(∀ v w' r σ' β',K r σ'→Rep w' σ' β' r v→Sim σ' β' w'→Step σ β w σ' β' w'→N (a.put o.dst v) w')→o.wp P a w N Q
theorem OpS.value {P o a σ β w} {K:KP} {v:Value} {w':World} {r:PV} {σ':VHeap} {β':Beta} (h:(execOp a.eval o).run P w=.ok (.value v) w') (hk:K r σ')
  (hr:Rep w' σ' β' r v) (hs:Sim σ' β' w') (ht:Step σ β w σ' β' w'):OpS P o a σ β w K:=by
 intro N Q hN
 unfold Oper.wp
 rw[h]
 exact hN v w' r σ' β' hk hr hs ht
theorem OpS.skip {P o a σ β w} {K:KP} {w':World} {σ':VHeap} {β':Beta} (h:(execOp a.eval o).run P w=.ok .skip w') (hk:K .undef σ')
  (hs:Sim σ' β' w') (ht:Step σ β w σ' β' w'):OpS P o a σ β w K:=by
 intro N Q hN
 unfold Oper.wp
 rw[h]
 exact hN undef w' .undef σ' β' hk (.undef _) hs ht
def T [Glob] (P:Program) (f:FuncId) (args:List PV) (σ:VHeap) (Post:KP):Prop:=
 ∀ (w:World) (β:Beta) (vs:Array Value),vs.size=args.length→(∀ (i:Nat) (c:PV) (v:Value),args[i]?=some c→vs[i]?=some v→Rep w σ β c v)→Sim σ β w→GloRep w σ β→
  Calls P f vs w fun e w'=>∃ v r σ' β',e=.returned v∧Post r σ'∧Rep w' σ' β' r v∧Sim σ' β' w'∧Step σ β w σ' β' w'
theorem T.mono [Glob] {P f args σ} {Post Post':KP} (h:T P f args σ Post) (k:∀ r σ',Post r σ'→Post' r σ'):T P f args σ Post':=
 fun w β vs h1 h2 h3 h4=>(h w β vs h1 h2 h3 h4).mono fun _ _ ⟨v,r,σ',β',e1,e2,e3,e4,e5⟩=>⟨v,r,σ',β',e1,k r σ' e2,e3,e4,e5⟩
theorem OpS.enter [Glob] {P o a σ β w} {K:KP} {f:FuncId} {vs:Array Value} {args:List PV} (h:(execOp a.eval o).run P w=.ok (.enter f vs) w) (hT:T P f args σ K)
  (hl:vs.size=args.length) (hr:∀ (i:Nat) (c:PV) (v:Value),args[i]?=some c→vs[i]?=some v→Rep w σ β c v) (hs:Sim σ β w) (hg:GloRep w σ β):OpS P o a σ β w K:=by
 intro N Q hN
 unfold Oper.wp
 rw[h]
 refine(hT w β vs hl hr hs hg).mono ?_
 rintro e w' ⟨v,r,σ',β',rfl,e2,e3,e4,e5⟩
 exact hN v w' r σ' β' e2 e3 e4 e5
theorem OpS.pre {P o a σ β w σ1} {K:KP} (h:Step σ β w σ1 β w) (k:OpS P o a σ1 β w K):OpS P o a σ β w K:=
 fun N Q hN=>k N Q fun v w' r σ' β' h1 h2 h3 h4=>hN v w' r σ' β' h1 h2 h3 (h.trans h4)
def pcells:PV→List PV
 | .agg cs=>cs
 | v=>[v]
def vMov (x:PV) (σ:VHeap) (K:KP):Prop:=K x σ
def vSnap (x:PV) (σ:VHeap) (K:KP):Prop:=
 match x with
 | .row id g=>match σ[id]? with
   | some (g',.row _ es _)=>g'=g∧K (.slr es id g) (frzId σ id)
   | _=>False
 | _=>False
def vPick (c a b:PV) (σ:VHeap) (K:KP):Prop:=
 match c with
 | .bool true=>K a σ
 | .bool false=>K b σ
 | _=>False
def vNew (id:Nat) (o:VObj) (σ:VHeap) (K:Nat→VHeap→Prop):Prop:=
 match σ[id]? with
 | some (g,_)=>K (g+1) (σ.set id (g+1,o))
 | none=>False
def vAlloc (id:Nat) (zero:List PV) (σ:VHeap) (K:KP):Prop:=vNew id (.box zero false) σ fun g σ=>K (.ptr id g 0) σ
def vGet (σ:VHeap) (id g:Nat):Option VObj:=
 match σ[id]? with
 | some (g',o)=>if g'=g then some o else none
 | none=>none
theorem vGet_some {σ:VHeap} {id g:Nat} {o:VObj} (h:vGet σ id g=some o):σ[id]?=some (g,o):=by
 unfold vGet at h
 split at h
 ·rename_i g' o' h1
  split at h
  ·rename_i e;cases h;rw[h1,e]
  ·cases h
 ·cases h
def cut (cs:List PV) (off:Nat):Option Nat→Option PV
 | none=>cs[off]?
 | some n=>if off+n≤cs.length then some (.agg ((cs.drop off).take n)) else none
def vLoad (sz:Option Nat) (x:PV) (σ:VHeap) (K:KP):Prop:=
 match x with
 | .ptr id g off=>match vGet σ id g with
   | some (.box cs _)=>match cut cs off sz with|some c=>K c σ|none=>False
   | _=>False
 | .rptr id g i off=>match vGet σ id g with
   | some (.row _ es _)=>match es[i]? with
     | some e=>match cut e off sz with|some c=>K c σ|none=>False
     | none=>False
   | _=>False
 | .iptr cs off=>match cut cs off sz with|some c=>K c σ|none=>False
 | _=>False
def splice (cs:List PV) (off:Nat) (vs:List PV):List PV:=cs.take off++vs++cs.drop (off+vs.length)
def scalar:PV→Bool
 | .agg _=>false
 | .tup _=>false
 | .undef=>false
 | .slr _ _ _=>false
 | _=>true
def vStore (sz:Nat) (x v:PV) (σ:VHeap) (K:KP):Prop:=
 (pcells v).length=sz∧(pcells v).all scalar=true∧
 match x with
 | .ptr id g off=>match vGet σ id g with
   | some (.box cs false)=>off+sz≤cs.length∧K .undef (σ.set id (g,.box (splice cs off (pcells v)) false))
   | _=>False
 | .rptr id g i off=>match vGet σ id g with
   | some (.row s es false)=>match es[i]? with
     | some e=>off+sz≤e.length∧K .undef (σ.set id (g,.row s (es.set i (splice e off (pcells v))) false))
     | none=>False
   | _=>False
 | _=>False
def vNilCheck (x:PV) (σ:VHeap) (K:KP):Prop:=
 match x with
 | .ptr id g _=>(∃ o,vGet σ id g=some o)∧K x σ
 | .rptr id g _ _=>(∃ o,vGet σ id g=some o)∧K x σ
 | .iptr _ _=>K x σ
 | _=>False
def vField (off:Nat) (x:PV) (σ:VHeap) (K:KP):Prop:=
 match x with
 | .ptr id g o=>(∃ o,vGet σ id g=some o)∧K (.ptr id g (o+off)) σ
 | .rptr id g i o=>(∃ o,vGet σ id g=some o)∧K (.rptr id g i (o+off)) σ
 | .iptr cs o=>K (.iptr cs (o+off)) σ
 | _=>False
def vExtract (k:Nat) (x:PV) (σ:VHeap) (K:KP):Prop:=
 match x with
 | .tup vs=>match vs[k]? with|some v=>K v σ|none=>False
 | _=>False
section
variable {P:Program} {o:Oper} {a:Act} {σ:VHeap} {β:Beta} {w:World} {env:Env} {K:KP}
theorem s_mov [Glob] {x:Operand} {y:VA} (ho:o.op=.move x∨o.op=.assign x) (hx:cA x=some y) (hf:FrameRep w σ β env a) (hs:Sim σ β w) (hk:vMov (va env y) σ K):OpS P o a σ β w K:=by
 refine OpS.value (v:=a.eval x) (w':=w) ?_ hk (hf.eval hx) hs (Step.refl _ _ _)
 rcases ho with h|h<;>simp[execOp,h]
theorem s_snap [Glob] {x:Operand} {y:VA} (ho:o.op=.move x∨o.op=.assign x) (hx:cA x=some y) (hf:FrameRep w σ β env a) (hs:Sim σ β w) (hk:vSnap (va env y) σ K):OpS P o a σ β w K:=by
 have h1:=hf.eval hx
 unfold vSnap at hk
 split at hk
 ·rename_i id g hy
  split at hk
  ·rename_i g' sz es fz hg
   obtain⟨rfl,hk⟩:=hk
   rw[hy] at h1
   obtain⟨k1,k2,k3⟩:=frz_rep hs h1
   have e1:frz σ (.row id g')=frzId σ id:=rfl
   have e2:inl σ (.row id g')=.sl es:=by rw[inl,hg];simp
   rw[e1] at k1 k2 k3
   rw[e2] at k1
   refine OpS.value (v:=a.eval x) (w':=w) ?_ hk (.slr es id g' _ k1 (h1.step k3)) k2 k3
   rcases ho with h|h<;>simp[execOp,h]
  ·exact hk.elim
 ·exact hk.elim
theorem s_pick [Glob] {c x y:Operand} {c' x' y':VA} (ho:o.op=.pick c x y) (hc:cA c=some c') (hx:cA x=some x') (hy:cA y=some y') (hf:FrameRep w σ β env a) (hs:Sim σ β w)
  (hk:vPick (va env c') (va env x') (va env y') σ K):OpS P o a σ β w K:=by
 have h1:=hf.eval hc
 unfold vPick at hk
 split at hk
 ·rename_i e;rw[e] at h1
  generalize he:a.eval c=ec at h1
  cases h1
  exact OpS.value (v:=a.eval x) (w':=w) (by simp[execOp,ho,he,asBool]) hk (hf.eval hx) hs (Step.refl _ _ _)
 ·rename_i e;rw[e] at h1
  generalize he:a.eval c=ec at h1
  cases h1
  exact OpS.value (v:=a.eval y) (w':=w) (by simp[execOp,ho,he,asBool]) hk (hf.eval hy) hs (Step.refl _ _ _)
 ·exact hk.elim
theorem s_newVar [Glob] {t:TypeId} {v:Value} {id:Nat} {cs:List PV} (hrun:(execOp a.eval o).run P w=(do pure (Next.value (.pointer (some (← newVar t v)))):Sem Next).run P w)
  (hs:Sim σ β w) (hl:cs.length=v.cells.size) (hr:∀ (i:Nat) (c:PV) (u:Value),cs[i]?=some c→v.cells[i]?=some u→Rep w σ β c u)
  (hk:vNew id (.box cs false) σ fun g σ=>K (.ptr id g 0) σ):OpS P o a σ β w K:=by
 unfold vNew at hk
 split at hk
 ·rename_i g o0 hid
  have h2:=alloc_sim (w':=w.alloc (.cells v.cells t)) (obj:=.cells v.cells t) (o:=.box cs false) hs hid rfl rfl rfl rfl fun hst=>
   ⟨w.heap.size,v.cells,rfl,⟨t,(0,0),heap_alloc_new w _,by simp⟩,hl,fun i c u h1 h2=>(hr i c u h1 h2).step hst⟩
  refine OpS.value (v:=.pointer (some ⟨w.heap.size,0,none⟩)) (w':=w.alloc (.cells v.cells t)) ?_ hk ?_ h2.2 h2.1
  ·rw[hrun];simp[newVar,newRow,newObj,Sem.run]
  ·exact .ptr id (g+1) 0 w.heap.size cs false (set_same hid) (upd_same _ _ _)
 ·exact hk.elim
def zeroPV (P:Program) (t:TypeId):Option (List PV):=((P.info? t).bind (·.zero)).bind fun z=>z.cells.toList.mapM cpv
theorem mapM_some {α γ:Type} {f:α→Option γ}:∀ {l:List α} {r:List γ},l.mapM f=some r→r.length=l.length∧∀ (i:Nat) (x:α) (y:γ),l[i]?=some x→r[i]?=some y→f x=some y:=by
 intro l
 induction l with
 | nil=>intro r h;simp at h;subst h;simp
 | cons x l ih=>
   intro r h
   rw[List.mapM_cons] at h
   cases h1:f x with
   | none=>rw[h1] at h;simp at h
   | some y=>
     cases h2:l.mapM f with
     | none=>rw[h1,h2] at h;simp at h
     | some ys=>
       rw[h1,h2] at h
       simp at h;subst h
       obtain⟨i1,i2⟩:=ih h2
       refine⟨by simp[i1],fun i a b ha hb=>?_⟩
       cases i with
       | zero=>simp at ha hb;subst ha;subst hb;exact h1
       | succ i=>simp at ha hb;exact i2 i a b ha hb
theorem run_zeroValue [Glob] {t:TypeId} {cs:List PV} (h:zeroPV P t=some cs) (w:World):∃ z,(∀ w,(zeroValue t).run P w=.ok z w)∧cs.length=z.cells.size∧
  ∀ (σ:VHeap) (β:Beta) (i:Nat) (c:PV) (u:Value),cs[i]?=some c→z.cells[i]?=some u→Rep w σ β c u:=by
 unfold zeroPV at h
 cases hi:P.info? t with
 | none=>rw[hi] at h;simp at h
 | some i=>
   rw[hi] at h
   cases hz:i.zero with
   | none=>simp[hz] at h
   | some z=>
     simp[hz] at h
     obtain⟨h1,h2⟩:=mapM_some h
     refine⟨z,fun w=>?_,by simpa using h1,fun σ β i c u h3 h4=>cpv_rep (h2 i u c (by simpa using h4) h3)⟩
     simp[zeroValue,typeInfo,program,Sem.run,hi,hz]
theorem s_alloc [Glob] {t:TypeId} {id:Nat} {cs:List PV} (ho:o.op=.alloc t) (hz:zeroPV P t=some cs) (hs:Sim σ β w) (hk:vAlloc id cs σ K):OpS P o a σ β w K:=by
 obtain⟨z,h1,h2,h3⟩:=run_zeroValue hz w
 refine s_newVar (t:=t) (v:=z) ?_ hs h2 (fun i c u=>h3 σ β i c u) hk
 simp[execOp,ho,Instr.alloc,h1,newVar,newRow,newObj,Sem.run]
def isAggT (P:Program) (t:TypeId):Option Bool:=match P.underlying t with|some (.struct _)=>some true|some (.array _ _)=>some true|some _=>some false|none=>none
def loadSz (P:Program) (t:TypeId):Option (Option Nat):=(isAggT P t).bind fun b=>if b then(P.info? t).map fun i=>some i.size else some none
theorem run_isAgg {t:TypeId} {b:Bool} (h:isAggT P t=some b) (w:World):(isAgg t).run P w=.ok b w:=by
 unfold isAggT at h
 unfold isAgg
 cases hu:P.underlying t with
 | none=>rw[hu] at h;cases h
 | some d=>rw[hu] at h;cases d<;>simp_all [underlying,program,Sem.run]
theorem run_loadVar [Glob] {t:TypeId} {sz:Option Nat} (h:loadSz P t=some sz) {ad:Addr} {cs:List PV} {off:Nat} {f:Nat→Value} {w:World}
  (hc:∀ (j:Nat) (c:PV),cs[off+j]?=some c→w.cell? (ad.add j)=some (f j)∧Rep w σ β c (f j)) {c:PV} (hcut:cut cs off sz=some c) :
  ∃ v,(loadVar t ad).run P w=.ok v w∧Rep w σ β c v:=by
 unfold loadSz at h
 cases hb:isAggT P t with
 | none=>rw[hb] at h;simp at h
 | some b=>
   rw[hb] at h
   have hr:=run_isAgg hb
   cases b with
   | false=>
     simp at h;subst h
     simp only[cut] at hcut
     obtain⟨h1,h2⟩:=hc 0 c (by simpa using hcut)
     rw[add_zero] at h1
     exact⟨f 0,by simp[loadVar,hr,h1],h2⟩
   | true=>
     simp at h
     obtain⟨i,hi,h⟩:=h;subst h
     simp only[cut] at hcut
     split at hcut
     ·rename_i hle
      cases hcut
      have hcell:∀ j,j<i.size→w.cell? (ad.add j)=some (f j):=fun j hj=>(hc j _ (List.getElem?_eq_getElem (by omega))).1
      refine⟨.agg ((List.range i.size).map f).toArray,?_,?_⟩
      ·simp only[loadVar,Sem.run_bind,hr,Result.andThen_ok,Sem.run_ite,if_true,sizeOf,typeInfo,program,Sem.run,hi,Sem.run_pure]
       rw[run_loadCells w ad i.size f hcell];rfl
      ·refine .agg _ _ (by simp;omega) fun j c v h1 h2=>?_
       rw[List.getElem?_take] at h1
       split at h1
       ·rename_i hj
        rw[List.getElem?_drop] at h1
        simp[hj] at h2
        subst h2
        exact(hc j c h1).2
       ·cases h1
     ·cases hcut
theorem s_load [Glob] {t:TypeId} {x:Operand} {y:VA} {sz:Option Nat} (ho:o.op=.load t x) (hsz:loadSz P t=some sz) (hx:cA x=some y) (hf:FrameRep w σ β env a) (hs:Sim σ β w)
  (hk:vLoad sz (va env y) σ K):OpS P o a σ β w K:=by
 have h1:=hf.eval hx
 have go:∀ {ad:Addr} {cs:List PV} {off:Nat} {f:Nat→Value} {c:PV},a.eval x=.pointer (some ad)→
   (∀ (j:Nat) (c:PV),cs[off+j]?=some c→w.cell? (ad.add j)=some (f j)∧Rep w σ β c (f j))→cut cs off sz=some c→K c σ→OpS P o a σ β w K:=by
  intro ad cs off f c he hc hcut hk
  obtain⟨v,h2,h3⟩:=run_loadVar hsz hc hcut
  exact OpS.value (v:=v) (w':=w) (by simp[execOp,ho,he,Instr.loadAt,Instr.sureAddr,h2]) hk h3 hs (Step.refl _ _ _)
 generalize hc0:va env y=c0 at *
 generalize he:a.eval x=ex at *
 unfold vLoad at hk
 split at hk
 ·rename_i id g off
  split at hk
  ·rename_i cs fz hg
   have hg':=vGet_some hg
   split at hk
   ·rename_i c hcut
    cases h1 with
    | stalep _ _ _ g' o' p h5 h6=>rw[hg'] at h5;cases h5;omega
    | ptr _ _ _ b cs' fz' h5 hb=>
      obtain⟨b',arr,e,hcl,hlen,hre⟩:=hs.obj id g _ hg'
      rw[hb] at e;cases e
      refine go (f:=fun j=>arr.getD (off+j) default) rfl (fun j c h6=>?_) hcut hk
      have h7:off+j<arr.size:=by rw[← hlen];exact(List.getElem?_eq_some_iff.1 h6).1
      have h8:arr[off+j]?=some (arr.getD (off+j) default):=by rw[Array.getElem?_eq_getElem h7,Array.getD_eq_getD_getElem?,Array.getElem?_eq_getElem h7];rfl
      exact⟨by rw[add_mk,hcl.cell,h8],hre _ c _ h6 h8⟩
   ·exact hk.elim
  ·exact hk.elim
 ·rename_i id g i off
  split at hk
  ·rename_i s es fz hg
   have hg':=vGet_some hg
   split at hk
   ·rename_i e hes
    split at hk
    ·rename_i c hcut
     cases h1 with
     | stalerp _ _ _ _ g' o' p h5 h6=>rw[hg'] at h5;cases h5;omega
     | rptr _ _ _ _ b sz' es' fz' h5 hb=>
       rw[hg'] at h5;cases h5
       rcases hs.obj id g _ hg' with ⟨e1,_⟩|⟨b',arr,e1,hcl,hlen,hel,hre⟩
       ·rw[hb] at e1;cases e1
       ·rw[hb] at e1;cases e1
        refine go (f:=fun j=>arr.getD (i * s+off+j) default) rfl (fun j c h6=>?_) hcut hk
        have h4:i<es.length:=(List.getElem?_eq_some_iff.1 hes).1
        have h5:off+j<s:=by rw[← hel e (List.mem_of_getElem? hes)];exact(List.getElem?_eq_some_iff.1 h6).1
        have h7:i * s+(off+j)<arr.size:=by
         have:(i+1) * s≤es.length * s:=Nat.mul_le_mul_right _ h4
         rw[Nat.add_mul] at this;omega
        have h8:arr[i * s+(off+j)]?=some (arr.getD (i * s+off+j) default):=by rw[Nat.add_assoc,Array.getElem?_eq_getElem h7,Array.getD_eq_getD_getElem?,Array.getElem?_eq_getElem h7];rfl
        exact⟨by rw[add_mk,hcl.cell,Nat.add_assoc,h8,Nat.add_assoc],hre _ e _ c _ hes h6 h8⟩
    ·exact hk.elim
   ·exact hk.elim
  ·exact hk.elim
 ·rename_i cs off
  split at hk
  ·rename_i c hcut
   cases h1 with
   | iptr _ _ ad a0 f ha hst hr=>
     refine go (f:=fun j=>f (off+j)) rfl (fun j c h6=>?_) hcut hk
     subst ha
     have h7:=(List.getElem?_eq_some_iff.1 h6).1
     exact⟨by rw[add_add];exact(hst _ h7).1,hr _ c h6⟩
  ·exact hk.elim
 ·exact hk.elim
theorem s_nilCheck [Glob] {x:Operand} {y:VA} (ho:o.op=.nilCheck x) (hx:cA x=some y) (hf:FrameRep w σ β env a) (hs:Sim σ β w) (hk:vNilCheck (va env y) σ K):OpS P o a σ β w K:=by
 have h1:=hf.eval hx
 have go:∀ {ad:Addr},a.eval x=.pointer (some ad)→K (va env y) σ→OpS P o a σ β w K:=by
  intro ad he hk
  exact OpS.value (v:=a.eval x) (w':=w) (by simp[execOp,ho,he]) hk h1 hs (Step.refl _ _ _)
 generalize hc0:va env y=c0 at *
 generalize he:a.eval x=ex at *
 unfold vNilCheck at hk
 split at hk
 ·obtain⟨⟨o',hg⟩,hk⟩:=hk
  cases h1 with
  | stalep _ _ _ g' o' p h5 h6=>rw[vGet_some hg] at h5;cases h5;omega
  | ptr _ _ _ b cs' fz' h5 hb=>exact go rfl hk
 ·obtain⟨⟨o',hg⟩,hk⟩:=hk
  cases h1 with
  | stalerp _ _ _ _ g' o' p h5 h6=>rw[vGet_some hg] at h5;cases h5;omega
  | rptr _ _ _ _ b sz' es' fz' h5 hb=>exact go rfl hk
 ·cases h1 with
  | iptr _ _ ad a0 f ha hst hr=>exact go rfl hk
 ·exact hk.elim
def fieldOff (P:Program) (s:TypeId) (k:Nat):Option Nat:=
 match P.underlying s with
 | some (.struct fs)=>match fs[k]? with
   | some f=>match P.info? f.type with
     | some i=>if i.size=0 then none else some f.offset
     | none=>none
   | none=>none
 | _=>none
theorem s_field [Glob] {s:TypeId} {x:Operand} {k off:Nat} {y:VA} (ho:o.op=.fieldAddr s x k) (hoff:fieldOff P s k=some off) (hx:cA x=some y) (hf:FrameRep w σ β env a) (hs:Sim σ β w)
  (hk:vField off (va env y) σ K):OpS P o a σ β w K:=by
 have h1:=hf.eval hx
 have run:∀ {ad:Addr},a.eval x=.pointer (some ad)→(execOp a.eval o).run P w=.ok (.value (.pointer (some (ad.add off)))) w:=by
  intro ad he
  unfold fieldOff at hoff
  split at hoff
  ·rename_i fs hu
   split at hoff
   ·rename_i f hfk
    split at hoff
    ·rename_i i hi
     split at hoff
     ·cases hoff
     ·rename_i hne
      cases hoff
      simp[execOp,ho,he,Instr.fieldAt,underlying,program,Sem.run,hu,hfk,Instr.sureAddr,fieldPlace,sizeOf,typeInfo,hi,hne]
    ·cases hoff
   ·cases hoff
  ·cases hoff
 generalize hc0:va env y=c0 at *
 generalize he:a.eval x=ex at *
 unfold vField at hk
 split at hk
 ·rename_i id g o0
  obtain⟨⟨o',hg⟩,hk⟩:=hk
  cases h1 with
  | stalep _ _ _ g' o' p h5 h6=>rw[vGet_some hg] at h5;cases h5;omega
  | ptr _ _ _ b cs' fz' h5 hb=>exact OpS.value (run rfl) hk (by rw[add_mk];exact .ptr id g _ b cs' fz' h5 hb) hs (Step.refl _ _ _)
 ·rename_i id g i o0
  obtain⟨⟨o',hg⟩,hk⟩:=hk
  cases h1 with
  | stalerp _ _ _ _ g' o' p h5 h6=>rw[vGet_some hg] at h5;cases h5;omega
  | rptr _ _ _ _ b sz' es' fz' h5 hb=>exact OpS.value (run rfl) hk (by rw[add_mk,Nat.add_assoc];exact .rptr id g i _ b sz' es' fz' h5 hb) hs (Step.refl _ _ _)
 ·rename_i cs o0
  cases h1 with
  | iptr _ _ ad a0 f ha hst hr=>exact OpS.value (run rfl) hk (.iptr cs _ _ a0 f (by rw[ha,add_add]) hst hr) hs (Step.refl _ _ _)
 ·exact hk.elim
theorem s_extract [Glob] {x:Operand} {k:Nat} {y:VA} (ho:o.op=.extract x k) (hx:cA x=some y) (hf:FrameRep w σ β env a) (hs:Sim σ β w)
  (hk:vExtract k (va env y) σ K):OpS P o a σ β w K:=by
 have h1:=hf.eval hx
 generalize hc0:va env y=c0 at *
 generalize he:a.eval x=ex at *
 unfold vExtract at hk
 split at hk
 ·rename_i vs
  split at hk
  ·rename_i c hc
   cases h1 with
   | tup _ us hl hr=>
     have h2:k<us.size:=by rw[← hl];exact(List.getElem?_eq_some_iff.1 hc).1
     have h3:us[k]?=some us[k]:=Array.getElem?_eq_getElem h2
     exact OpS.value (v:=us[k]) (w':=w) (by simp[execOp,ho,he,Instr.extract,h2]) hk (hr k c _ hc h3) hs (Step.refl _ _ _)
  ·exact hk.elim
 ·exact hk.elim
end
def wset (arr:Array Value) (off:Nat):List Value→Array Value
 | []=>arr
 | v::vs=>wset (arr.setIfInBounds off v) (off+1) vs
theorem wset_size (vs:List Value):∀ (arr:Array Value) (off:Nat),(wset arr off vs).size=arr.size:=by
 induction vs with
 | nil=>intro arr off;rfl
 | cons v vs ih=>intro arr off;rw[wset,ih];simp
theorem wset_get (vs:List Value):∀ (arr:Array Value) (off k:Nat),off+vs.length≤arr.size→
  (wset arr off vs)[k]?=if off≤k∧k<off+vs.length then vs[k - off]? else arr[k]?:=by
 induction vs with
 | nil=>intro arr off k _;rw[wset,if_neg (by simp)]
 | cons v vs ih=>
   intro arr off k h
   simp only[List.length_cons] at h ⊢
   rw[wset,ih _ _ _ (by simp;omega)]
   by_cases e:k=off
   ·subst e
    rw[if_neg (by omega),if_pos (by omega),Nat.sub_self,Array.getElem?_setIfInBounds_self_of_lt (by omega)];rfl
   ·rw[Array.getElem?_setIfInBounds_ne (Ne.symm e)]
    by_cases h2:off+1≤k∧k<off+1+vs.length
    ·rw[if_pos h2,if_pos (by omega)]
     have:k - off=(k - (off+1))+1:=by omega
     rw[this,List.getElem?_cons_succ]
    ·rw[if_neg h2,if_neg (by omega)]
def celly:Value→Bool
 | .agg _=>false
 | .tuple _=>false
 | _=>true
theorem celly_of {w σ β c v} (h:Rep w σ β c v) (hs:scalar c=true):celly v=true:=by
 cases h<;>first|rfl|simp[scalar] at hs
section
variable {P:Program}
def World.setBlock (w:World) (b:Nat) (o:Obj):World:={ w with heap:=w.heap.setIfInBounds b o }
theorem run_store_cell {w:World} {b i:Nat} {arr:Array Value} {ty:TypeId} {fr:Nat × Nat} (hb:w.heap[b]?=some (.cells arr ty fr)) (hi:i<arr.size) (hf:¬ (fr.1≤i∧i<fr.2))
  {v:Value} (hv:celly v=true):(store ⟨b,i,none⟩ v).run P w=.ok () (World.setBlock w b (.cells (arr.setIfInBounds i v) ty fr)):=by
 have h1:w.cell? ⟨b,i,none⟩=some arr[i]:=by simp[World.cell?,hb,hi]
 have h2:w.frozen? ⟨b,i,none⟩=false:=by simp[World.frozen?,hb];omega
 have h3:w.setCell ⟨b,i,none⟩ v=World.setBlock w b (.cells (arr.setIfInBounds i v) ty fr):=by
  unfold World.setCell World.setBlock
  congr 1
  apply Array.ext_getElem?
  intro j
  rw[Array.getElem?_modify,Array.getElem?_setIfInBounds]
  by_cases e:b=j
  ·subst e
   obtain⟨hlt,hb2⟩:=Array.getElem?_eq_some_iff.1 hb
   simp[hlt,hb2]
  ·simp[e]
 cases v<;>first|(simp[celly] at hv;done)|simp[store,Sem.run,h1,h2,h3]
theorem setBlock_setBlock (w:World) (b:Nat) (o o':Obj):World.setBlock (World.setBlock w b o) b o'=World.setBlock w b o':=by
 unfold World.setBlock
 congr 1
 apply Array.ext_getElem?
 intro j
 simp only[Array.getElem?_setIfInBounds,Array.size_setIfInBounds]
 split<;>rfl
theorem run_storeCells {b:Nat} {ty:TypeId} {fr:Nat × Nat}:∀ (vs:List Value) (w:World) (arr:Array Value) (off i:Nat),w.heap[b]?=some (.cells arr ty fr)→off+i+vs.length≤arr.size→
  (∀ k,k<arr.size→¬ (fr.1≤k∧k<fr.2))→(∀ v,v∈vs→celly v=true)→
  (storeCells ⟨b,off,none⟩ vs i).run P w=.ok () (if vs=[] then w else World.setBlock w b (.cells (wset arr (off+i) vs) ty fr)):=by
 intro vs
 induction vs with
 | nil=>intro w arr off i h1 h2 h3 h4;simp[storeCells]
 | cons v vs ih=>
   intro w arr off i h1 h2 h3 h4
   simp only[List.length_cons] at h2
   rw[if_neg (by simp)]
   simp only[storeCells,Sem.run_bind]
   rw[add_mk,run_store_cell h1 (by omega) (h3 _ (by omega)) (h4 v (by simp))]
   simp only[Result.andThen_ok]
   have hlt:=(Array.getElem?_eq_some_iff.1 h1).1
   rw[ih (World.setBlock w b (.cells (arr.setIfInBounds (off+i) v) ty fr)) (arr.setIfInBounds (off+i) v) off (i+1)
    (by simp[World.setBlock,hlt]) (by simp;omega) (by simpa using h3) (fun u hu=>h4 u (by simp[hu]))]
   congr 1
   split
   ·rename_i e;subst e;rw[wset,wset]
   ·rw[setBlock_setBlock,wset,Nat.add_assoc]
variable {o:Oper} {a:Act} {σ:VHeap} {β:Beta} {w:World} {env:Env} {K:KP}
theorem splice_get (cs vs:List PV) (off k:Nat) (h:off+vs.length≤cs.length):(splice cs off vs)[k]?=if off≤k∧k<off+vs.length then vs[k - off]? else cs[k]?:=by
 unfold splice
 have h1:(cs.take off).length=off:=by simp;omega
 by_cases hk:k<off
 ·rw[if_neg (by omega),List.append_assoc,List.getElem?_append_left (by omega),List.getElem?_take,if_pos hk]
 ·rw[List.append_assoc,List.getElem?_append_right (by omega),h1]
  by_cases hk2:k<off+vs.length
  ·rw[if_pos (by omega),List.getElem?_append_left (by omega)]
  ·rw[if_neg (by omega),List.getElem?_append_right (by omega),List.getElem?_drop]
   congr 1;omega
theorem splice_length (cs vs:List PV) (off:Nat) (h:off+vs.length≤cs.length):(splice cs off vs).length=cs.length:=by unfold splice;simp;omega
theorem pcells_rep {c:PV} {v:Value} (h:Rep w σ β c v) (hs:(pcells c).all scalar=true):(pcells c).length=v.cells.size∧(∀ u,u∈v.cells→celly u=true)∧
  ∀ (i:Nat) (d:PV) (u:Value),(pcells c)[i]?=some d→v.cells[i]?=some u→Rep w σ β d u:=by
 by_cases hc:∃ cs,c=.agg cs
 ·obtain⟨cs,rfl⟩:=hc
  cases h with
  | agg _ us hl hr=>
    refine⟨hl,fun u hu=>?_,hr⟩
    obtain⟨i,hi,rfl⟩:=Array.mem_iff_getElem.1 hu
    simp only[Value.cells] at hi
    have h1:i<cs.length:=by omega
    refine celly_of (hr i cs[i] us[i] (List.getElem?_eq_getElem h1) (Array.getElem?_eq_getElem hi)) ?_
    exact List.all_eq_true.1 hs _ (List.getElem_mem h1)
 ·have e:pcells c=[c]:=by cases c<;>first|rfl|exact(hc ⟨_,rfl⟩).elim
  rw[e] at hs ⊢
  have hcv:celly v=true:=celly_of h (by simpa using hs)
  have e2:v.cells=#[v]:=by cases v<;>first|rfl|simp[celly] at hcv
  rw[e2]
  refine⟨rfl,by simpa using hcv,fun i d u h1 h2=>?_⟩
  have hi:i=0:=by
   have:=(List.getElem?_eq_some_iff.1 h1).1
   simp at this;omega
  subst hi
  simp at h1 h2;subst h1;subst h2;exact h
def sizeT (P:Program) (t:TypeId):Option Nat:=(P.info? t).map (·.size)
theorem s_store [Glob] {t:TypeId} {x v:Operand} {x' v':VA} {sz:Nat} (ho:o.op=.store t x v) (hsz:sizeT P t=some sz) (hx:cA x=some x') (hv:cA v=some v') (hf:FrameRep w σ β env a) (hs:Sim σ β w)
  (hk:vStore sz (va env x') (va env v') σ K):OpS P o a σ β w K:=by
 have h1:=hf.eval hx
 have h2:=hf.eval hv
 obtain⟨hlen,hall,hk⟩:=hk
 obtain⟨e1,e2,e3⟩:=pcells_rep h2 hall
 unfold sizeT at hsz
 cases hi:P.info? t with
 | none=>rw[hi] at hsz;simp at hsz
 | some i=>
 rw[hi] at hsz;simp at hsz
 have main:∀ {id g b off:Nat} {ob ob':VObj} {arr:Array Value},a.eval x=.pointer (some ⟨b,off,none⟩)→σ[id]?=some (g,ob)→ob.live→β id=some b→Cells w b arr→off+sz≤arr.size→
   ob.alike ob'→(∀ i,ob'.may i→ob.may i)→(∀ j,j<arr.size→¬ ob.may j→¬ (off≤j∧j<off+sz))→
   (∀ w',Step σ β w (σ.set id (g,ob')) β w'→Cells w' b (wset arr off (a.eval v).cells.toList)→ORep w' (σ.set id (g,ob')) β (some b) ob')→K .undef (σ.set id (g,ob'))→OpS P o a σ β w K:=by
  intro id g b off ob ob' arr he hid hl hb ⟨ty,fr,hc1,hc2⟩ hle hal hmay hno hor hk
  have hrun:(storeCells ⟨b,off,none⟩ (a.eval v).cells.toList 0).run P w=_:=run_storeCells (P:=P) (a.eval v).cells.toList w arr off 0 hc1 (by simp;omega) hc2 (by simpa using e2)
  by_cases hnil:(a.eval v).cells.toList=[]
  ·have hz:sz=0:=by have:(a.eval v).cells.size=0:=by simpa using congrArg List.length hnil
                    omega
   rw[if_pos hnil] at hrun
   have hp:=put_sim (w':=w) (o':=ob') (obj:=.cells arr ty fr) (obj':=.cells arr ty fr) hs hid hl hb rfl rfl rfl hc1 (by
    apply Array.ext_getElem?;intro j;rw[Array.getElem?_setIfInBounds]
    split
    ·rename_i e;subst e;rw[if_pos (Array.getElem?_eq_some_iff.1 hc1).1,hc1]
    ·rfl) hal hmay (fun _ _ h _=>h) (fun arr' ty' fr' e=>⟨arr',e,rfl⟩) (fun hst=>hor w hst ⟨ty,fr,by rw[hnil];exact hc1,by rw[hnil];exact hc2⟩)
   refine OpS.skip (w':=w) ?_ hk hp.2 hp.1
   simp[execOp,ho,he,Instr.storeAt,Instr.sureAddr,storeVar,sizeOf,typeInfo,program,Sem.run,hi,hrun,hsz,← e1,hlen]
  ·rw[if_neg hnil] at hrun
   have hp:=put_sim (w':=World.setBlock w b (.cells (wset arr off (a.eval v).cells.toList) ty fr)) (o':=ob') (obj:=.cells arr ty fr) (obj':=.cells (wset arr off (a.eval v).cells.toList) ty fr) hs hid hl hb rfl rfl rfl hc1 rfl hal hmay (by
    intro j u hj hm
    have hlt:=(Array.getElem?_eq_some_iff.1 hc1).1
    simp only[World.cell?,hc1,World.setBlock,Array.getElem?_setIfInBounds_self_of_lt hlt] at hj ⊢
    simp at hj ⊢
    have hj2:=(Array.getElem?_eq_some_iff.1 hj).1
    rw[wset_get _ _ _ _ (by simp;omega),if_neg (by have:=hno j hj2 hm;simp;omega)]
    exact hj) (fun arr' ty' fr' e=>by cases e;exact⟨_,rfl,wset_size _ _ _⟩)
    (fun hst=>hor _ hst ⟨ty,fr,by simp[World.setBlock,(Array.getElem?_eq_some_iff.1 hc1).1],by rw[wset_size];exact hc2⟩)
   refine OpS.skip (w':=World.setBlock w b (.cells (wset arr off (a.eval v).cells.toList) ty fr)) ?_ hk hp.2 hp.1
   simp[execOp,ho,he,Instr.storeAt,Instr.sureAddr,storeVar,sizeOf,typeInfo,program,Sem.run,hi,hrun,hsz,← e1,hlen]
 generalize hc0:va env x'=c0 at *
 split at hk
 ·rename_i id g off
  split at hk
  ·rename_i cs hg
   have hg':=vGet_some hg
   obtain⟨hle,hk⟩:=hk
   generalize he:a.eval x=ex at *
   cases h1 with
   | stalep _ _ _ g' o' p h5 h6=>rw[hg'] at h5;cases h5;omega
   | ptr _ _ _ b cs' fz' h5 hb=>
     obtain⟨b',arr,e,hcl,hlen',hre⟩:=hs.obj id g _ hg'
     rw[hb] at e;cases e
     refine main (ob':=.box (splice cs off (pcells (va env v'))) false) rfl hg' trivial hb hcl (by omega) (by rw[VObj.alike,splice_length _ _ _ (by omega)]) (fun i h=>h) (fun j _ h=>absurd rfl h) (fun w' hst hcl'=>?_) hk
     refine⟨b,_,rfl,hcl',by rw[splice_length _ _ _ (by omega),wset_size,hlen'],fun i c u h6 h7=>?_⟩
     rw[splice_get _ _ _ _ (by omega)] at h6
     rw[wset_get _ _ _ _ (by simp;omega)] at h7
     split at h6
     ·rename_i hin
      rw[if_pos (by simp;omega)] at h7
      exact(e3 _ c u h6 (by simpa using h7)).step hst
     ·rename_i hout
      rw[if_neg (by simp;omega)] at h7
      exact(hre i c u h6 h7).step hst
  ·exact hk.elim
 ·rename_i id g i0 off
  split at hk
  ·rename_i s es hg
   have hg':=vGet_some hg
   split at hk
   ·rename_i e0 hes
    obtain⟨hle,hk⟩:=hk
    generalize he:a.eval x=ex at *
    cases h1 with
    | stalerp _ _ _ _ g' o' p h5 h6=>rw[hg'] at h5;cases h5;omega
    | rptr _ _ _ _ b sz' es' fz' h5 hb=>
      rw[hg'] at h5;cases h5
      rcases hs.obj id g _ hg' with ⟨e,_⟩|⟨b',arr,e,hcl,hlen',hel,hre⟩
      ·rw[hb] at e;cases e
      ·rw[hb] at e;cases e
       have h4:i0<es.length:=(List.getElem?_eq_some_iff.1 hes).1
       have h9:e0.length=s:=hel e0 (List.mem_of_getElem? hes)
       have h10:(i0+1) * s≤es.length * s:=Nat.mul_le_mul_right _ h4
       rw[Nat.add_mul] at h10
       refine main (ob':=.row s (es.set i0 (splice e0 off (pcells (va env v')))) false) rfl hg' trivial hb hcl (by omega) (by simp[VObj.alike]) (fun i h=>by simp[VObj.may]) (fun j _ h=>absurd (by simp[VObj.may]) h) (fun w' hst hcl'=>?_) hk
       refine .inr ⟨b,_,rfl,hcl',by rw[List.length_set,wset_size];exact hlen',?_,fun i e j c u h6 h7 h8=>?_⟩
       ·intro e he
        rcases List.mem_or_eq_of_mem_set he with h|h
        ·exact hel e h
        ·rw[h,splice_length _ _ _ (by omega),h9]
       ·rw[wset_get _ _ _ _ (by simp;omega)] at h8
        by_cases hi0:i=i0
        ·subst hi0
         rw[List.getElem?_set_self h4] at h6;cases h6
         rw[splice_get _ _ _ _ (by omega)] at h7
         split at h7
         ·rename_i hin
          rw[if_pos (by simp;omega)] at h8
          refine(e3 _ c u h7 ?_).step hst
          have:i * s+j - (i * s+off)=j - off:=by omega
          rw[this] at h8;simpa using h8
         ·rename_i hout
          rw[if_neg (by simp;omega)] at h8
          exact(hre i e0 j c u hes h7 h8).step hst
        ·rw[List.getElem?_set_ne (Ne.symm hi0)] at h6
         have hj:j<s:=by rw[← hel e (List.mem_of_getElem? h6)];exact(List.getElem?_eq_some_iff.1 h7).1
         rw[if_neg] at h8
         ·exact(hre i e j c u h6 h7 h8).step hst
         ·simp only[Array.length_toList]
          rcases Nat.lt_or_gt_of_ne hi0 with hlt|hgt
          ·have:(i+1) * s≤i0 * s:=Nat.mul_le_mul_right _ hlt
           rw[Nat.add_mul] at this;omega
          ·have:(i0+1) * s≤i * s:=Nat.mul_le_mul_right _ hgt
           rw[Nat.add_mul] at this;omega
   ·exact hk.elim
  ·exact hk.elim
 ·exact hk.elim
end
inductive BT where
 | num|bool|ptr|slice
 deriving DecidableEq,Inhabited
def btOf (P:Program) (t:TypeId):Option BT:=
 match P.underlying t with
 | some .bool=>some .bool
 | some (.pointer _)=>some .ptr
 | some (.slice _)=>some .slice
 | some (.int _)=>some .num
 | some .string=>some .num
 | _=>none
def ibits (op:BinOp) (k:IntKind) (x y:Int):Option PV:=
 let a:=BitVec.ofInt k.bits x
 let b:=BitVec.ofInt k.bits y
 match op with
 | .and=>some (.int k (k.wrap (a &&& b).toNat))
 | .or=>some (.int k (k.wrap (a ||| b).toNat))
 | .xor=>some (.int k (k.wrap (a ^^^ b).toNat))
 | .andNot=>some (.int k (k.wrap (a &&& ~~~b).toNat))
 | _=>none
def ibin (op:BinOp) (k:IntKind) (a:Int) (k':IntKind) (b:Int):Option PV:=
 match op with
 | .shl=>if 0≤b then some (.int k (k.wrap (a * 2 ^ (min b.toNat k.bits)))) else none
 | .shr=>if 0≤b then some (.int k (a.fdiv (2 ^ (min b.toNat k.bits)))) else none
 | op=>if k=k' then match op with
   | .add=>some (.int k (k.wrap (a+b)))
   | .sub=>some (.int k (k.wrap (a - b)))
   | .mul=>some (.int k (k.wrap (a * b)))
   | .quo=>if b=0 then none else some (.int k (k.wrap (a.tdiv b)))
   | .rem=>if b=0 then none else some (.int k (a.tmod b))
   | .eql=>some (.bool (a==b))
   | .neq=>some (.bool (a != b))
   | .lss=>some (.bool (decide (a<b)))
   | .leq=>some (.bool (decide (a≤b)))
   | .gtr=>some (.bool (decide (a > b)))
   | .geq=>some (.bool (decide (a≥b)))
   | op=>ibits op k a b
   else none
def sbin (op:BinOp) (x y:List UInt8):Option PV:=
 match op with
 | .add=>if x.length+y.length≤9223372036854775807 then some (.str (x++y)) else none
 | .eql=>some (.bool (x==y))
 | .neq=>some (.bool !(x==y))
 | .lss=>some (.bool (Op.bytesLess x y))
 | .leq=>some (.bool (Op.bytesLess x y||x==y))
 | .gtr=>some (.bool !(Op.bytesLess x y||x==y))
 | .geq=>some (.bool !(Op.bytesLess x y))
 | _=>none
def eqK (op:BinOp) (r:Bool) (σ:VHeap) (K:KP):Prop:=
 match op with
 | .eql=>K (.bool r) σ
 | .neq=>K (.bool !r) σ
 | _=>False
def nilK (op:BinOp) (x:PV) (σ:VHeap) (K:KP):Prop:=
 match x with
 | .nils=>eqK op true σ K
 | .sl es=>eqK op false σ K∧(es=[]→eqK op true σ K)
 | _=>False
def vBin (op:BinOp) (t:BT) (x y:PV) (σ:VHeap) (K:KP):Prop:=
 match x,y with
 | .int k a,.int k' b=>match ibin op k a k' b with|some c=>K c σ|none=>False
 | .str a,.str b=>match sbin op a b with|some c=>K c σ|none=>False
 | .bool a,.bool b=>t=.bool∧eqK op (a==b) σ K
 | .nilp,.nilp=>t=.ptr∧eqK op true σ K
 | .ptr id g _,.nilp=>t=.ptr∧(∃ o,vGet σ id g=some o)∧eqK op false σ K
 | x,.nils=>t=.slice∧nilK op x σ K
 | _,_=>False
def vUn (op:UnOp) (x:PV) (σ:VHeap) (K:KP):Prop:=
 match op,x with
 | .neg,.int k n=>K (.int k (k.wrap (0 - n))) σ
 | .xor,.int k n=>match ibits .xor k (if k.signed then -1 else k.max) n with|some c=>K c σ|none=>False
 | .not,.bool b=>K (.bool !b) σ
 | _,_=>False
def vConvInt (k:IntKind) (x:PV) (σ:VHeap) (K:KP):Prop:=
 match x with
 | .int _ n=>K (.int k (k.wrap n)) σ
 | _=>False
def vConvStr (x:PV) (σ:VHeap) (K:KP):Prop:=
 match x with
 | .str s=>K (.str s) σ
 | _=>False
section
variable {P:Program} {o:Oper} {a:Act} {σ:VHeap} {β:Beta} {w:World} {env:Env} {K:KP}
theorem run_intBin {op:BinOp} {t:TypeId} {k k':IntKind} {x y:Int} {c:PV} (h:ibin op k x k' y=some c):∃ v,(∀ w,(binOp op t (.int k x) (.int k' y)).run P w=.ok v w)∧∀ w σ β,Rep w σ β c v:=by
 unfold ibin at h
 split at h
 ·split at h
  ·rename_i h0
   cases h
   exact⟨_,fun w=>by simp only[binOp,Op.shift];rw[if_neg (by omega)];rfl,fun _ _ _=>.int _ _⟩
  ·cases h
 ·split at h
  ·rename_i h0
   cases h
   exact⟨_,fun w=>by simp only[binOp,Op.shift];rw[if_neg (by omega)];rfl,fun _ _ _=>.int _ _⟩
  ·cases h
 ·split at h
  ·rename_i hk
   subst hk
   split at h
   ·cases h;exact⟨_,fun w=>by simp[binOp,Op.intArith],fun _ _ _=>.int _ _⟩
   ·cases h;exact⟨_,fun w=>by simp[binOp,Op.intArith],fun _ _ _=>.int _ _⟩
   ·cases h;exact⟨_,fun w=>by simp[binOp,Op.intArith],fun _ _ _=>.int _ _⟩
   ·split at h
    ·cases h
    ·rename_i hne
     cases h;exact⟨_,fun w=>by simp[binOp,Op.intDiv,hne],fun _ _ _=>.int _ _⟩
   ·split at h
    ·cases h
    ·rename_i hne
     cases h;exact⟨_,fun w=>by simp[binOp,Op.intDiv,hne],fun _ _ _=>.int _ _⟩
   ·cases h;exact⟨_,fun w=>by simp[binOp,Op.intCmp],fun _ _ _=>.bool _⟩
   ·cases h;exact⟨_,fun w=>by simp[binOp,Op.intCmp],fun _ _ _=>.bool _⟩
   ·cases h;exact⟨_,fun w=>by simp[binOp,Op.intCmp],fun _ _ _=>.bool _⟩
   ·cases h;exact⟨_,fun w=>by simp[binOp,Op.intCmp],fun _ _ _=>.bool _⟩
   ·cases h;exact⟨_,fun w=>by simp[binOp,Op.intCmp],fun _ _ _=>.bool _⟩
   ·cases h;exact⟨_,fun w=>by simp[binOp,Op.intCmp],fun _ _ _=>.bool _⟩
   ·unfold ibits at h
    split at h
    ·cases h;exact⟨_,fun w=>by simp[binOp,Op.intBits],fun _ _ _=>.int _ _⟩
    ·cases h;exact⟨_,fun w=>by simp[binOp,Op.intBits],fun _ _ _=>.int _ _⟩
    ·cases h;exact⟨_,fun w=>by simp[binOp,Op.intBits],fun _ _ _=>.int _ _⟩
    ·cases h;exact⟨_,fun w=>by simp[binOp,Op.intBits],fun _ _ _=>.int _ _⟩
    ·cases h
  ·cases h
theorem run_strBin {op:BinOp} {t:TypeId} {x y:ByteArray} {c:PV} (h:sbin op x.data.toList y.data.toList=some c):∃ v,(∀ w,(binOp op t (.string x) (.string y)).run P w=.ok v w)∧∀ w σ β,Rep w σ β c v:=by
 unfold sbin at h
 split at h
 ·split at h
  ·rename_i hle
   cases h
   refine⟨.string (x++y),fun w=>?_,fun _ _ _=>?_⟩
   ·simp only[binOp,Op.stringOp]
    have e1:x.data.toList.length=x.size:=by simp
    have e2:y.data.toList.length=y.size:=by simp
    have e3:IntKind.i64.max=9223372036854775807:=by decide
    rw[if_neg (by rw[e3];omega)];rfl
   ·have:=Rep.str (w:=‹World›) (σ:=‹VHeap›) (β:=‹Beta›) (x++y)
    simpa [ByteArray.data_append] using this
  ·cases h
 all_goals first|(cases h;done)|(cases h;exact⟨_,fun w=>by simp[binOp,Op.stringOp,ByteArray.toList_eq],fun _ _ _=>.bool _⟩)
theorem run_eqGuard (op:BinOp) (t:TypeId) (x y:Operand) {u v:Value} (hu:∀ cs,u≠.agg cs) (hi:u≠.nilIface):(eqGuard op t x y u v).run P w=.ok () w:=by
 unfold eqGuard
 cases op<;>simp<;>cases u<;>first|rfl|exact(hi rfl).elim|exact(hu _ rfl).elim
theorem s_bin [Glob] {op:BinOp} {t t':TypeId} {x y:Operand} {x' y':VA} {bt:BT} (ho:o.op=.binOp op t x y t') (hbt:btOf P t=some bt) (hx:cA x=some x') (hy:cA y=some y')
  (hf:FrameRep w σ β env a) (hs:Sim σ β w) (hk:vBin op bt (va env x') (va env y') σ K):OpS P o a σ β w K:=by
 have h1:=hf.eval hx
 have h2:=hf.eval hy
 have fin:∀ {v:Value} {c:PV},(∀ cs,a.eval x≠.agg cs)→a.eval x≠.nilIface→(binOp op t (a.eval x) (a.eval y)).run P w=.ok v w→Rep w σ β c v→K c σ→OpS P o a σ β w K:=by
  intro v c hu hi hrun hrep hk
  refine OpS.value (v:=v) (w':=w) ?_ hk hrep hs (Step.refl _ _ _)
  simp[execOp,ho,run_eqGuard op t x y hu hi,hrun]
 have ptee:∀ {e:TypeId},P.underlying t=some (.pointer e)→P.underlying t=some (.pointer (P.pointee t)):=by
  intro e h;simp[Program.pointee,h]
 have eqfin:∀ {r:Bool},(∀ cs,a.eval x≠.agg cs)→a.eval x≠.nilIface→(op=.eql→(binOp .eql t (a.eval x) (a.eval y)).run P w=.ok (.bool r) w)→
   (op=.neq→(binOp .neq t (a.eval x) (a.eval y)).run P w=.ok (.bool !r) w)→eqK op r σ K→OpS P o a σ β w K:=by
  intro r hu hi he hn hk
  unfold eqK at hk
  split at hk
  ·exact fin hu hi (he rfl) (.bool _) hk
  ·exact fin hu hi (hn rfl) (.bool _) hk
  ·exact hk.elim
 generalize hc0:va env x'=c0 at *
 generalize hc1:va env y'=c1 at *
 generalize he:a.eval x=ex at *
 generalize hey:a.eval y=ey at *
 unfold vBin at hk
 split at hk
 ·split at hk
  ·rename_i c hc
   cases h1;cases h2
   obtain⟨v,e1,e2⟩:=run_intBin (P:=P) (t:=t) hc
   exact fin (by simp) (by simp) (e1 w) (e2 w σ β) hk
  ·exact hk.elim
 ·split at hk
  ·rename_i c hc
   cases h1;cases h2
   obtain⟨v,e1,e2⟩:=run_strBin (P:=P) (t:=t) hc
   exact fin (by simp) (by simp) (e1 w) (e2 w σ β) hk
  ·exact hk.elim
 ·obtain⟨ht,hk⟩:=hk
  subst ht
  cases h1;cases h2
  have hu:P.underlying t=some .bool:=by unfold btOf at hbt;split at hbt<;>first|assumption|cases hbt
  exact eqfin (by simp) (by simp) (fun _=>run_eql_bool w t _ _ hu) (fun _=>run_neq_bool w t _ _ hu) hk
 ·obtain⟨ht,hk⟩:=hk
  subst ht
  cases h1;cases h2
  obtain⟨e,hu⟩:∃ e,P.underlying t=some (.pointer e):=by unfold btOf at hbt;split at hbt<;>first|exact⟨_,by assumption⟩|cases hbt
  exact eqfin (by simp) (by simp) (fun _=>run_eql_pointer_nil (P:=P) w t _ (ptee hu)) (fun _=>run_neq_pointer_nil (P:=P) w t _ (ptee hu)) hk
 ·obtain⟨ht,⟨o',hg⟩,hk⟩:=hk
  subst ht
  cases h2
  obtain⟨e,hu⟩:∃ e,P.underlying t=some (.pointer e):=by unfold btOf at hbt;split at hbt<;>first|exact⟨_,by assumption⟩|cases hbt
  cases h1 with
  | stalep _ _ _ g' o' p h5 h6=>rw[vGet_some hg] at h5;cases h5;omega
  | ptr _ _ _ b cs' fz' h5 hb=>exact eqfin (by simp) (by simp) (fun _=>run_eql_pointer_nil (P:=P) w t _ (ptee hu)) (fun _=>run_neq_pointer_nil (P:=P) w t _ (ptee hu)) hk
 ·obtain⟨ht,hk⟩:=hk
  subst ht
  obtain⟨e,hu⟩:∃ e,P.underlying t=some (.slice e):=by unfold btOf at hbt;split at hbt<;>first|exact⟨_,by assumption⟩|cases hbt
  cases h2
  unfold nilK at hk
  split at hk
  ·cases h1
   exact eqfin (by simp) (by simp) (fun _=>Lib.run_eql_slice_nil (P:=P) w t e _ _ _ 0 0 hu) (fun _=>run_neq_slice_nil_any (P:=P) w t e _ _ _ 0 0 hu) hk
  ·rename_i es
   obtain⟨hk1,hk2⟩:=hk
   cases h1 with
   | sl _ sz n cap ad f hn hcap hsz ha hr=>
     cases ad with
     | none=>
       have:es=[]:=by
        rcases Nat.eq_zero_or_pos n with h|h
        ·exact List.length_eq_zero_iff.1 (hn.trans h)
        ·obtain⟨a0,e0,_⟩:=ha h;cases e0
       exact eqfin (by simp) (by simp) (fun _=>Lib.run_eql_slice_nil (P:=P) w t e _ _ _ 0 0 hu) (fun _=>run_neq_slice_nil_any (P:=P) w t e _ _ _ 0 0 hu) (hk2 this)
     | some ad=>exact eqfin (by simp) (by simp) (fun _=>Lib.run_eql_slice_nil (P:=P) w t e _ _ _ 0 0 hu) (fun _=>run_neq_slice_nil_any (P:=P) w t e _ _ _ 0 0 hu) hk1
  ·exact hk.elim
 ·exact hk.elim
theorem s_un [Glob] {op:UnOp} {t:TypeId} {x:Operand} {x':VA} (ho:o.op=.unOp op t x) (hx:cA x=some x') (hf:FrameRep w σ β env a) (hs:Sim σ β w) (hk:vUn op (va env x') σ K):OpS P o a σ β w K:=by
 have h1:=hf.eval hx
 generalize hc0:va env x'=c0 at *
 generalize he:a.eval x=ex at *
 unfold vUn at hk
 split at hk
 ·cases h1
  exact OpS.value (v:=.int _ _) (w':=w) (by simp[execOp,ho,he,Op.unary,Op.intArith]) hk (.int _ _) hs (Step.refl _ _ _)
 ·cases h1
  split at hk
  ·rename_i c hc
   unfold ibits at hc
   simp only[] at hc
   cases hc
   exact OpS.value (v:=.int _ _) (w':=w) (by simp[execOp,ho,he,Op.unary,Op.intBits]) hk (.int _ _) hs (Step.refl _ _ _)
  ·exact hk.elim
 ·cases h1
  exact OpS.value (v:=.bool _) (w':=w) (by simp[execOp,ho,he,Op.unary]) hk (.bool _) hs (Step.refl _ _ _)
 ·exact hk.elim
theorem s_convInt [Glob] {s t:TypeId} {x:Operand} {x':VA} {k j:IntKind} (ho:o.op=.convert s t x) (hsu:P.underlying s=some (.int j)) (hu:P.underlying t=some (.int k)) (hx:cA x=some x')
  (hf:FrameRep w σ β env a) (hs:Sim σ β w) (hk:vConvInt k (va env x') σ K):OpS P o a σ β w K:=by
 have h1:=hf.eval hx
 generalize hc0:va env x'=c0 at *
 generalize he:a.eval x=ex at *
 unfold vConvInt at hk
 split at hk
 ·cases h1
  exact OpS.value (v:=.int _ _) (w':=w) (by simp[execOp,ho,he,convert,underlying,program,Sem.run,hu,hsu,Conv.intToInt]) hk (.int _ _) hs (Step.refl _ _ _)
 ·exact hk.elim
theorem s_convStr [Glob] {s t:TypeId} {x:Operand} {x':VA} (ho:o.op=.convert s t x) (hsu:P.underlying s=some .string) (hu:P.underlying t=some .string) (hx:cA x=some x')
  (hf:FrameRep w σ β env a) (hs:Sim σ β w) (hk:vConvStr (va env x') σ K):OpS P o a σ β w K:=by
 have h1:=hf.eval hx
 generalize hc0:va env x'=c0 at *
 generalize he:a.eval x=ex at *
 unfold vConvStr at hk
 split at hk
 ·cases h1
  exact OpS.value (v:=.string _) (w':=w) (by simp[execOp,ho,he,convert,underlying,program,Sem.run,hu,hsu]) hk (.str _) hs (Step.refl _ _ _)
 ·exact hk.elim
end
def rd (σ:VHeap):PV→Option (List (List PV))
 | .sl es=>some es
 | .nils=>some []
 | .row id g=>match vGet σ id g with
   | some (.row _ es _)=>some es
   | _=>none
 | .bview id g off len=>match vGet σ id g with
   | some (.box cs _)=>some (((cs.drop off).take len).map fun c=>[c])
   | _=>none
 | .rview id g lo len=>match vGet σ id g with
   | some (.row _ es _)=>some ((es.drop lo).take len)
   | _=>none
 | .slr es _ _=>some es
 | _=>none
def vLen (x:PV) (σ:VHeap) (K:KP):Prop:=
 match rd σ x with
 | some es=>K (.int .i64 es.length) σ
 | none=>False
def vLenStr (x:PV) (σ:VHeap) (K:KP):Prop:=
 match x with
 | .str s=>K (.int .i64 s.length) σ
 | _=>False
def vIndex (sz:Nat) (x i:PV) (σ:VHeap) (K:KP):Prop:=
 match x,i with
 | .sl es,.int _ i=>0≤i∧match es[i.toNat]? with|some e=>e.length=sz∧K (.iptr e 0) σ|none=>False
 | .row id g,.int _ i=>match vGet σ id g with
   | some (.row s es _)=>s=sz∧0≤i∧i<es.length∧K (.rptr id g i.toNat 0) σ
   | _=>False
 | .bview id g off len,.int _ i=>sz=1∧(∃ o,vGet σ id g=some o)∧0≤i∧i<len∧K (.ptr id g (off+i.toNat)) σ
 | _,_=>False
def vIndexArr (n sz:Nat) (x i:PV) (σ:VHeap) (K:KP):Prop:=
 match i with
 | .int _ i=>0≤i∧i<n∧vField (i.toNat * sz) x σ K
 | _=>False
def vIndexStr (x i:PV) (σ:VHeap) (K:KP):Prop:=
 match x,i with
 | .str s,.int _ i=>0≤i∧match s[i.toNat]? with|some b=>K (.int .u8 b.toNat) σ|none=>False
 | _,_=>False
def vIndexAgg (n sz:Nat) (r:Option Nat) (x i:PV) (σ:VHeap) (K:KP):Prop:=
 match x,i with
 | .agg cs,.int _ i=>0≤i∧i<n∧match cut cs (i.toNat * sz) r with|some c=>K c σ|none=>False
 | _,_=>False
def vFieldVal (off:Nat) (r:Option Nat) (x:PV) (σ:VHeap) (K:KP):Prop:=
 match x with
 | .agg cs=>match cut cs off r with|some c=>K c σ|none=>False
 | _=>False
section
variable {P:Program} {o:Oper} {a:Act} {σ:VHeap} {β:Beta} {w:World} {env:Env} {K:KP}
theorem arr_getD {arr:Array Value} {i:Nat} (h:i<arr.size):arr[i]?=some (arr.getD i default):=by
 rw[Array.getElem?_eq_getElem h,Array.getD_eq_getD_getElem?,Array.getElem?_eq_getElem h];rfl
theorem mul_in {i j n s:Nat} (hi:i<n) (hj:j<s):i * s+j<n * s:=by
 have:(i+1) * s≤n * s:=Nat.mul_le_mul_right _ hi
 rw[Nat.add_mul] at this;omega
theorem rd_rep [Glob] (hs:Sim σ β w) {x:PV} {v:Value} (hr:Rep w σ β x v) {es:List (List PV)} (h:rd σ x=some es) :
  ∃ (ad:Option Addr) (c sz:Nat) (f:Nat→Value),v=.slice ad es.length c∧es.length≤c∧(∀ e,e∈es→e.length=sz)∧(0<es.length→∃ a0,ad=some a0∧∀ j,j<es.length * sz→w.cell? (a0.add j)=some (f j))∧
   ∀ (i:Nat) (e:List PV) (j:Nat) (c:PV),es[i]?=some e→e[j]?=some c→Rep w σ β c (f (i * sz+j)):=by
 cases x<;>simp only[rd] at h<;>first|(cases h;done)|skip
 ·cases h
  cases hr with
  | sl _ sz n cap ad f hn hcap hsz ha hr=>
    subst hn
    exact⟨ad,cap,sz,f,rfl,hcap,hsz,fun h0=>let ⟨a0,e0,hst⟩:=ha h0;⟨a0,e0,fun j hj=>(hst j hj).1⟩,hr⟩
 ·cases h
  cases hr
  exact⟨none,0,0,fun _=>default,rfl,Nat.le_refl _,by simp,by simp,by simp⟩
 ·rename_i id g
  split at h
  ·rename_i s es' fz hg
   cases h
   have hg':=vGet_some hg
   cases hr with
   | stalerow _ _ g' o' p n c h5 h6=>rw[hg'] at h5;cases h5;omega
   | rownil _ _ sz fz' ad h5 hb=>
     rw[hg'] at h5;cases h5
     exact⟨ad,0,0,fun _=>default,rfl,Nat.le_refl _,by simp,by simp,by simp⟩
   | row _ _ b sz cap es2 fz' arr ty fr h5 hb hh hc hsz=>
     rw[hg'] at h5;cases h5
     rcases hs.obj id g _ hg' with ⟨e,_⟩|⟨b',arr',e,hcl,hle,hel,hre⟩
     ·rw[hb] at e;cases e
     ·rw[hb] at e;cases e
      refine⟨_,cap,s,fun j=>arr'.getD j default,rfl,hc,hel,fun _=>⟨_,rfl,fun j hj=>?_⟩,fun i e j c h2 h3=>?_⟩
      ·rw[add_mk,Nat.zero_add,hcl.cell,arr_getD (by omega)]
      ·have h5:j<s:=by rw[← hel e (List.mem_of_getElem? h2)];exact(List.getElem?_eq_some_iff.1 h3).1
       have:=mul_in (List.getElem?_eq_some_iff.1 h2).1 h5
       exact hre i e j c _ h2 h3 (arr_getD (by omega))
  ·cases h
 ·rename_i id g off len
  split at h
  ·rename_i cs fz hg
   cases h
   have hg':=vGet_some hg
   cases hr with
   | stalebv _ _ _ _ g' o' p n c h5 h6=>rw[hg'] at h5;cases h5;omega
   | bview _ _ _ _ b cap ad cs' fz' h5 hb hl hc ha=>
     rw[hg'] at h5;cases h5
     obtain⟨b',arr,e,hcl,hle,hre⟩:=hs.obj id g _ hg'
     rw[hb] at e;cases e
     have hlen:(((cs.drop off).take len).map fun c=>[c]).length=len:=by simp;omega
     refine⟨ad,cap,1,fun j=>arr.getD (off+j) default,by rw[hlen],by omega,(by intro e he;obtain⟨c,_,rfl⟩:=List.mem_map.1 he;rfl),fun h0=>⟨_,ha (by omega),fun j hj=>?_⟩,fun i e j c h2 h3=>?_⟩
     ·rw[add_mk,hcl.cell,arr_getD (by omega)]
     ·rw[List.getElem?_map,List.getElem?_take] at h2
      split at h2
      ·rw[List.getElem?_drop] at h2
       cases h4:cs[off+i]? with
       | none=>rw[h4] at h2;cases h2
       | some c0=>
         rw[h4] at h2;cases h2
         have hj0:j=0:=by
          have:=(List.getElem?_eq_some_iff.1 h3).1
          simp at this;omega
         subst hj0
         cases h3
         simp only[Nat.mul_one,Nat.add_zero]
         exact hre (off+i) _ _ h4 (arr_getD (by rw[← hle];exact(List.getElem?_eq_some_iff.1 h4).1))
      ·cases h2
  ·cases h
 ·rename_i id g lo len
  split at h
  ·rename_i s es' fz hg
   cases h
   have hg':=vGet_some hg
   cases hr with
   | stalerv _ _ _ _ g' o' p n c h5 h6=>rw[hg'] at h5;cases h5;omega
   | rview _ _ _ _ cap sz ad es2 fz' h5 hl hc ha=>
     rw[hg'] at h5;cases h5
     by_cases h00:len=0
     ·subst h00
      exact⟨ad,cap,0,fun _=>default,by simp,by simp,by simp,by simp,by simp⟩
     obtain⟨b,hb,ha⟩:=ha (by omega)
     rcases hs.obj id g _ hg' with ⟨e,_⟩|⟨b',arr',e,hcl,hle,hel,hre⟩
     ·rw[hb] at e;cases e
     ·rw[hb] at e;cases e
      have hlen:((es'.drop lo).take len).length=len:=by simp;omega
      have hle2:(lo+len) * s≤es'.length * s:=Nat.mul_le_mul_right _ hl
      rw[Nat.add_mul] at hle2
      refine⟨ad,cap,s,fun j=>arr'.getD (lo * s+j) default,by rw[hlen],by omega,fun e he=>hel e (List.mem_of_mem_drop (List.mem_of_mem_take he)),fun h0=>⟨_,ha,fun j hj=>?_⟩,fun i e j c h2 h3=>?_⟩
      ·rw[hlen] at hj
       rw[add_mk,hcl.cell,arr_getD (by omega)]
      ·rw[List.getElem?_take] at h2
       split at h2
       ·rename_i hi
        rw[List.getElem?_drop] at h2
        have h5:j<s:=by rw[← hel e (List.mem_of_getElem? h2)];exact(List.getElem?_eq_some_iff.1 h3).1
        have h6:=mul_in hi h5
        refine hre (lo+i) e j c _ h2 h3 ?_
        rw[Nat.add_mul,Nat.add_assoc]
        exact arr_getD (by omega)
       ·cases h2
  ·cases h
 ·cases h
  cases hr with
  | slr _ _ _ _ h1 h2=>
    cases h1 with
    | sl _ sz n cap ad f hn hcap hsz ha hr=>
      subst hn
      exact⟨ad,cap,sz,f,rfl,hcap,hsz,fun h0=>let ⟨a0,e0,hst⟩:=ha h0;⟨a0,e0,fun j hj=>(hst j hj).1⟩,hr⟩
theorem run_underlying' {t:TypeId} {d:TypeDesc} (h:P.underlying t=some d) (w:World):(underlying t).run P w=.ok d w:=by simp[underlying,program,Sem.run,h]
theorem run_call_builtin {b:Builtin} {args:Array Operand} {ts:Array TypeId} (ho:o.op=.call { callee:=.builtin b,args,argTypes:=ts }) {r:Result Next}
  (h:(builtin b ts o.type (args.map fun | .const _=>true|_=>false) (args.map a.eval)).run P w=r):(execOp a.eval o).run P w=r:=by
 rw[← h];simp[execOp,ho,resolve,invoke];rfl
theorem s_len [Glob] {x:Operand} {x':VA} {t e:TypeId} (ho:o.op=.call { callee:=.builtin .len,args:=#[x],argTypes:=#[t] }) (hu:P.underlying t=some (.slice e)) (hx:cA x=some x')
  (hf:FrameRep w σ β env a) (hs:Sim σ β w) (hk:vLen (va env x') σ K):OpS P o a σ β w K:=by
 have h1:=hf.eval hx
 unfold vLen at hk
 split at hk
 ·rename_i es hes
  obtain⟨ad,c,sz,f,hv,_⟩:=rd_rep hs h1 hes
  refine OpS.value (v:=.int .i64 es.length) (w':=w) (run_call_builtin ho ?_) hk (.int _ _) hs (Step.refl _ _ _)
  simp[builtin,Builtin.len_,hv,run_underlying' hu,goInt]
 ·exact hk.elim
theorem s_lenStr [Glob] {x:Operand} {x':VA} {t:TypeId} (ho:o.op=.call { callee:=.builtin .len,args:=#[x],argTypes:=#[t] }) (hu:P.underlying t=some .string) (hx:cA x=some x')
  (hf:FrameRep w σ β env a) (hs:Sim σ β w) (hk:vLenStr (va env x') σ K):OpS P o a σ β w K:=by
 have h1:=hf.eval hx
 generalize he:a.eval x=ex at *
 unfold vLenStr at hk
 split at hk
 ·rename_i s hes
  rw[hes] at h1
  cases h1 with
  | str s=>
    refine OpS.value (v:=.int .i64 s.size) (w':=w) (run_call_builtin ho ?_) hk ?_ hs (Step.refl _ _ _)
    ·simp[builtin,Builtin.len_,he,run_underlying' hu,goInt]
    ·have:s.data.toList.length=s.size:=by simp
     rw[this];exact .int _ _
 ·exact hk.elim
theorem run_sizeOf {t:TypeId} {sz:Nat} (h:sizeT P t=some sz) (w:World):(sizeOf t).run P w=.ok sz w:=by
 unfold sizeT at h
 cases hi:P.info? t with
 | none=>rw[hi] at h;simp at h
 | some i=>rw[hi] at h;simp at h;simp[sizeOf,typeInfo,program,Sem.run,hi,h]
theorem s_index [Glob] {t e:TypeId} {x i:Operand} {x' i':VA} {sz:Nat} (ho:o.op=.indexAddr t x i) (hu:P.underlying t=some (.slice e)) (hsz:sizeT P e=some sz) (hx:cA x=some x') (hi:cA i=some i')
  (hf:FrameRep w σ β env a) (hs:Sim σ β w) (hk:vIndex sz (va env x') (va env i') σ K):OpS P o a σ β w K:=by
 have h1:=hf.eval hx
 have h2:=hf.eval hi
 have run:∀ {ad:Addr} {n c:Nat} {k:IntKind} {j:Int},a.eval x=.slice (some ad) n c→a.eval i=.int k j→0≤j→j<n→
   (execOp a.eval o).run P w=.ok (.value (.pointer (some (ad.add (j.toNat * sz))))) w:=by
  intro ad n c k j e1 e2 h0 h1
  simp[execOp,ho,e1,e2,Instr.indexAt,asIntOf,run_underlying' hu,h0,h1,run_sizeOf hsz]
 generalize hc0:va env x'=c0 at *
 generalize hc1:va env i'=c1 at *
 generalize he:a.eval x=ex at *
 generalize hei:a.eval i=ei at *
 unfold vIndex at hk
 split at hk
 ·rename_i es k j
  obtain⟨hj0,hk⟩:=hk
  split at hk
  ·rename_i el hel
   obtain⟨hl,hk⟩:=hk
   cases h2
   have hlt:=(List.getElem?_eq_some_iff.1 hel).1
   cases h1 with
   | sl _ sz' n cap ad f hn hcap hsz' ha hr=>
     obtain⟨a0,rfl,hst⟩:=ha (by omega)
     have hss:sz=sz':=by rw[← hl];exact hsz' el (List.mem_of_getElem? hel)
     subst hss
     refine OpS.value (run rfl rfl hj0 (by omega)) hk (.iptr el 0 _ (a0.add (j.toNat * sz)) (fun q=>f (j.toNat * sz+q)) (by rw[add_zero]) (fun q hq=>?_) (fun q c hq=>hr _ el q c hel hq)) hs (Step.refl _ _ _)
     rw[add_add,add_block]
     exact hst _ (mul_in (by omega) (by omega))
  ·exact hk.elim
 ·rename_i id g k j
  split at hk
  ·rename_i s es fz hg
   obtain⟨hss,hj0,hlt,hk⟩:=hk
   subst hss
   have hg':=vGet_some hg
   cases h2
   cases h1 with
   | stalerow _ _ g' o' p n c h5 h6=>rw[hg'] at h5;cases h5;omega
   | rownil _ _ sz fz' ad h5 hb=>rw[hg'] at h5;cases h5;simp at hlt;omega
   | row _ _ b sz cap es2 fz' arr ty fr h5 hb hh hc hsz=>
     rw[hg'] at h5;cases h5
     refine OpS.value (run rfl rfl hj0 hlt) hk ?_ hs (Step.refl _ _ _)
     rw[add_mk,Nat.zero_add]
     exact .rptr id g j.toNat 0 b s es fz hg' hb
  ·exact hk.elim
 ·rename_i id g off len k j
  obtain⟨hss,⟨o',hg⟩,hj0,hlt,hk⟩:=hk
  subst hss
  have hg':=vGet_some hg
  cases h2
  cases h1 with
  | stalebv _ _ _ _ g' o' p n c h5 h6=>rw[hg'] at h5;cases h5;omega
  | bview _ _ _ _ b cap ad cs' fz' h5 hb hl hc ha=>
    have:=ha (by omega)
    subst this
    refine OpS.value (run rfl rfl hj0 hlt) hk ?_ hs (Step.refl _ _ _)
    rw[add_mk,Nat.mul_one]
    exact .ptr id g _ b cs' fz' h5 hb
 ·exact hk.elim
theorem s_indexArr [Glob] {t e:TypeId} {x i:Operand} {x' i':VA} {n sz:Nat} (ho:o.op=.indexAddr t x i) (hu:P.underlying t=some (.array n e)) (hsz:sizeT P e=some sz) (hx:cA x=some x') (hi:cA i=some i')
  (hf:FrameRep w σ β env a) (hs:Sim σ β w) (hk:vIndexArr n sz (va env x') (va env i') σ K):OpS P o a σ β w K:=by
 have h1:=hf.eval hx
 have h2:=hf.eval hi
 generalize hc1:va env i'=c1 at *
 generalize hei:a.eval i=ei at *
 unfold vIndexArr at hk
 split at hk
 ·rename_i k j
  obtain⟨h0,hlt,hk⟩:=hk
  cases h2
  have run:∀ {ad:Addr},a.eval x=.pointer (some ad)→(execOp a.eval o).run P w=.ok (.value (.pointer (some (ad.add (j.toNat * sz))))) w:=by
   intro ad e1
   simp[execOp,ho,e1,hei,Instr.indexAt,asIntOf,run_underlying' hu,h0,hlt,run_sizeOf hsz,Instr.sureAddr]
  generalize hc0:va env x'=c0 at *
  generalize he:a.eval x=ex at *
  unfold vField at hk
  split at hk
  ·rename_i id g o0
   obtain⟨⟨o',hg⟩,hk⟩:=hk
   cases h1 with
   | stalep _ _ _ g' o' p h5 h6=>rw[vGet_some hg] at h5;cases h5;omega
   | ptr _ _ _ b cs' fz' h5 hb=>exact OpS.value (run rfl) hk (by rw[add_mk];exact .ptr id g _ b cs' fz' h5 hb) hs (Step.refl _ _ _)
  ·rename_i id g i o0
   obtain⟨⟨o',hg⟩,hk⟩:=hk
   cases h1 with
   | stalerp _ _ _ _ g' o' p h5 h6=>rw[vGet_some hg] at h5;cases h5;omega
   | rptr _ _ _ _ b sz' es' fz' h5 hb=>exact OpS.value (run rfl) hk (by rw[add_mk,Nat.add_assoc];exact .rptr id g i _ b sz' es' fz' h5 hb) hs (Step.refl _ _ _)
  ·rename_i cs o0
   cases h1 with
   | iptr _ _ ad a0 f ha hst hr=>exact OpS.value (run rfl) hk (.iptr cs _ _ a0 f (by rw[ha,add_add]) hst hr) hs (Step.refl _ _ _)
  ·exact hk.elim
 ·exact hk.elim
theorem s_indexStr [Glob] {t:TypeId} {x i:Operand} {x' i':VA} (ho:o.op=.index t x i) (hu:P.underlying t=some .string) (hx:cA x=some x') (hi:cA i=some i')
  (hf:FrameRep w σ β env a) (hs:Sim σ β w) (hk:vIndexStr (va env x') (va env i') σ K):OpS P o a σ β w K:=by
 have h1:=hf.eval hx
 have h2:=hf.eval hi
 generalize hc0:va env x'=c0 at *
 generalize hc1:va env i'=c1 at *
 generalize he:a.eval x=ex at *
 generalize hei:a.eval i=ei at *
 unfold vIndexStr at hk
 split at hk
 ·rename_i s k j
  obtain⟨h0,hk⟩:=hk
  split at hk
  ·rename_i b hb
   cases h1 with
   | str s=>
     cases h2
     have hlt:j.toNat<s.size:=by have:=(List.getElem?_eq_some_iff.1 hb).1;simpa using this
     have hb2:s[j.toNat]?=some b:=by
      rw[getElem?_pos s j.toNat hlt]
      have:=(List.getElem?_eq_some_iff.1 hb).2
      rw[← this];simp;rfl
     refine OpS.value (v:=.int .u8 b.toNat) (w':=w) ?_ hk (.int _ _) hs (Step.refl _ _ _)
     simp[execOp,ho,he,hei,Instr.index,asIntOf,run_underlying' hu,h0,hb2]
  ·exact hk.elim
 ·exact hk.elim
theorem run_part [Glob] {t:TypeId} {r:Option Nat} (h:loadSz P t=some r) {cs:List PV} {vs:Array Value} (hl:cs.length=vs.size) (hr:∀ (i:Nat) (c:PV) (v:Value),cs[i]?=some c→vs[i]?=some v→Rep w σ β c v)
  {off:Nat} {c:PV} (hc:cut cs off r=some c):∃ v,(∀ w,(part t vs off).run P w=.ok v w)∧Rep w σ β c v:=by
 unfold loadSz at h
 cases hb:isAggT P t with
 | none=>rw[hb] at h;simp at h
 | some b=>
   rw[hb] at h
   have hra:=run_isAgg hb
   cases b with
   | false=>
     simp at h;subst h
     simp only[cut] at hc
     have hlt:off<vs.size:=by rw[← hl];exact(List.getElem?_eq_some_iff.1 hc).1
     have h3:vs[off]?=some vs[off]:=Array.getElem?_eq_getElem hlt
     exact⟨vs[off],fun w=>by simp[part,hra,hlt],hr off c _ hc h3⟩
   | true=>
     simp at h
     obtain⟨i,hi,h⟩:=h;subst h
     simp only[cut] at hc
     split at hc
     ·rename_i hle
      cases hc
      refine⟨.agg (vs.extract off (off+i.size)),fun w=>by simp[part,hra,run_sizeOf (P:=P) (t:=t) (sz:=i.size) (by simp[sizeT,hi])],.agg _ _ (by simp;omega) fun j c v h1 h2=>?_⟩
      rw[List.getElem?_take] at h1
      split at h1
      ·rename_i hj
       rw[List.getElem?_drop] at h1
       rw[Array.getElem?_extract] at h2
       split at h2
       ·exact hr _ c v h1 h2
       ·cases h2
      ·cases h1
     ·cases hc
theorem s_indexAgg [Glob] {t e:TypeId} {x i:Operand} {x' i':VA} {n sz:Nat} {r:Option Nat} (ho:o.op=.index t x i) (hu:P.underlying t=some (.array n e)) (hsz:sizeT P e=some sz) (hld:loadSz P e=some r)
  (hx:cA x=some x') (hi:cA i=some i') (hf:FrameRep w σ β env a) (hs:Sim σ β w) (hk:vIndexAgg n sz r (va env x') (va env i') σ K):OpS P o a σ β w K:=by
 have h1:=hf.eval hx
 have h2:=hf.eval hi
 generalize hc0:va env x'=c0 at *
 generalize hc1:va env i'=c1 at *
 generalize he:a.eval x=ex at *
 generalize hei:a.eval i=ei at *
 unfold vIndexAgg at hk
 split at hk
 ·rename_i cs k j
  obtain⟨h0,hlt,hk⟩:=hk
  split at hk
  ·rename_i c hc
   cases h1 with
   | agg _ vs hl hr=>
     cases h2
     obtain⟨v,hv,hrv⟩:=run_part hld hl hr hc
     refine OpS.value (v:=v) (w':=w) ?_ hk hrv hs (Step.refl _ _ _)
     simp[execOp,ho,he,hei,Instr.index,asIntOf,run_underlying' hu,h0,hlt,run_sizeOf hsz,hv]
  ·exact hk.elim
 ·exact hk.elim
def fieldVal (P:Program) (s:TypeId) (k:Nat):Option (Nat × Option Nat):=
 match P.underlying s with
 | some (.struct fs)=>match fs[k]? with
   | some f=>(loadSz P f.type).map fun r=>(f.offset,r)
   | none=>none
 | _=>none
theorem s_fieldVal [Glob] {t:TypeId} {x:Operand} {x':VA} {k off:Nat} {r:Option Nat} (ho:o.op=.field t x k) (hfv:fieldVal P t k=some (off,r)) (hx:cA x=some x') (hf:FrameRep w σ β env a) (hs:Sim σ β w)
  (hk:vFieldVal off r (va env x') σ K):OpS P o a σ β w K:=by
 have h1:=hf.eval hx
 generalize hc0:va env x'=c0 at *
 generalize he:a.eval x=ex at *
 unfold fieldVal at hfv
 split at hfv
 ·rename_i fs hu
  split at hfv
  ·rename_i f hfk
   cases hld:loadSz P f.type with
   | none=>rw[hld] at hfv;simp at hfv
   | some r'=>
     rw[hld] at hfv;simp at hfv
     obtain⟨rfl,rfl⟩:=hfv
     unfold vFieldVal at hk
     split at hk
     ·rename_i cs
      split at hk
      ·rename_i c hc
       cases h1 with
       | agg _ vs hl hr=>
         obtain⟨v,hv,hrv⟩:=run_part hld hl hr hc
         refine OpS.value (v:=v) (w':=w) ?_ hk hrv hs (Step.refl _ _ _)
         simp[execOp,ho,he,Instr.field,run_underlying' hu,hfk,asAgg,hv]
      ·exact hk.elim
     ·exact hk.elim
  ·cases hfv
 ·cases hfv
end
def cAo [Glob]:Option Operand→Option (Option VA)
 | none=>some none
 | some x=>(cA x).map some
def bound (x:Option PV) (d:Nat):Option Nat:=
 match x with
 | none=>some d
 | some (.int _ i)=>if 0≤i then some i.toNat else none
 | some _=>none
def vSliceStr (x:PV) (lo hi:Option PV) (σ:VHeap) (K:KP):Prop:=
 match x with
 | .str s=>match bound lo 0,bound hi s.length with
   | some l,some h=>l≤h∧h≤s.length∧K (.str ((s.drop l).take (h - l))) σ
   | _,_=>False
 | _=>False
def vSlice (sz:Nat) (x:PV) (lo hi:Option PV) (σ:VHeap) (K:KP):Prop:=
 match x with
 | .sl es=>match bound lo 0,bound hi es.length with
   | some l,some h=>l≤h∧h≤es.length∧(∀ e,e∈es→e.length=sz)∧K (.sl ((es.drop l).take (h - l))) σ
   | _,_=>False
 | .nils=>match bound lo 0,bound hi 0 with
   | some 0,some 0=>K .nils σ
   | _,_=>False
 | .row id g=>match vGet σ id g with
   | some (.row s es _)=>match bound lo 0,bound hi es.length with
     | some l,some h=>s=sz∧l≤h∧h≤es.length∧K (.sl ((es.drop l).take (h - l))) (frzId σ id)
     | _,_=>False
   | _=>False
 | .bview id g off len=>match bound lo 0,bound hi len with
   | some l,some h=>sz=1∧(∃ o,vGet σ id g=some o)∧l≤h∧h≤len∧K (.bview id g (off+l) (h - l)) σ
   | _,_=>False
 | _=>False
def vSliceArr (n sz:Nat) (x:PV) (lo hi:Option PV) (σ:VHeap) (K:KP):Prop:=
 match x with
 | .ptr id g off=>match vGet σ id g with
   | some (.box cs _)=>match bound lo 0,bound hi n with
     | some l,some h=>sz=1∧off+n≤cs.length∧l≤h∧h≤n∧K (.bview id g (off+l) (h - l)) σ
     | _,_=>False
   | _=>False
 | _=>False
section
variable {P:Program} {o:Oper} {a:Act} {σ:VHeap} {β:Beta} {w:World} {env:Env} {K:KP}
theorem bound_int {c:PV} {d n:Nat} (h:bound (some c) d=some n):∃ k,c=.int k n:=by
 cases c<;>simp only[bound] at h<;>first|(cases h;done)|skip
 split at h
 ·cases h;rename_i k i h0;exact⟨k,by rw[Int.toNat_of_nonneg h0]⟩
 ·cases h
theorem bound_eval [Glob] (hf:FrameRep w σ β env a) {x:Option Operand} {x':Option VA} (hx:cAo x=some x') {d n:Nat} (h:bound (x'.map (va env)) d=some n) :
  (x.map a.eval=none∧n=d)∨∃ k,x.map a.eval=some (.int k n):=by
 cases x with
 | none=>cases hx;simp[bound] at h;exact .inl ⟨rfl,h.symm⟩
 | some x=>
   simp[cAo] at hx
   obtain⟨y,hy,rfl⟩:=hx
   have h1:=hf.eval hy
   simp only[Option.map_some] at h ⊢
   obtain⟨k,e⟩:=bound_int h
   rw[e] at h1
   generalize a.eval x=v at h1
   cases h1
   exact .inr ⟨k,rfl⟩
theorem run_bounds {isS:Bool} {len cap l h:Nat} {lo hi:Option Value} (hh:(hi=none∧h=len)∨∃ k,hi=some (.int k h)) (hl:(lo=none∧l=0)∨∃ k,lo=some (.int k l)) (h1:l≤h) (h2:h≤cap) (w:World) :
  (Instr.sliceBounds isS len cap lo hi none).run P w=.ok (l,h,cap) w:=by
 rcases hh with ⟨rfl,rfl⟩|⟨k,rfl⟩<;>rcases hl with ⟨rfl,rfl⟩|⟨k',rfl⟩
 ·simp[Instr.sliceBounds]
 ·simp[Instr.sliceBounds,Instr.sliceBound,asIntOf,h1]
 ·simp[Instr.sliceBounds,Instr.sliceBound,asIntOf,h2]
 ·simp[Instr.sliceBounds,Instr.sliceBound,asIntOf,h1,h2]
theorem s_sliceStr [Glob] {t:TypeId} {x:Operand} {x':VA} {lo hi:Option Operand} {lo' hi':Option VA} (ho:o.op=.slice t x lo hi none) (hu:P.underlying t=some .string) (hx:cA x=some x')
  (hlo:cAo lo=some lo') (hhi:cAo hi=some hi') (hf:FrameRep w σ β env a) (hs:Sim σ β w) (hk:vSliceStr (va env x') (lo'.map (va env)) (hi'.map (va env)) σ K):OpS P o a σ β w K:=by
 have h1:=hf.eval hx
 generalize hc0:va env x'=c0 at *
 generalize he:a.eval x=ex at *
 unfold vSliceStr at hk
 split at hk
 ·rename_i s
  split at hk
  ·rename_i l h hl hh
   obtain⟨hlh,hhl,hk⟩:=hk
   cases h1 with
   | str s=>
     have e0:s.data.toList.length=s.size:=by simp
     have e1:=bound_eval hf hhi hh
     have e2:=bound_eval hf hlo hl
     rw[e0] at e1 hhl
     refine OpS.value (v:=.string (s.extract l h)) (w':=w) ?_ hk ?_ hs (Step.refl _ _ _)
     ·simp[execOp,ho,he,Instr.sliceAt,Instr.slice,run_underlying' hu,run_bounds (P:=P) e1 e2 hlh hhl]
     ·have:=Rep.str (w:=w) (σ:=σ) (β:=β) (s.extract l h)
      have e3:=Lib.extract_data s l h
      rw[e3] at this;exact this
  ·exact hk.elim
 ·exact hk.elim
theorem s_slice [Glob] {t e:TypeId} {x:Operand} {x':VA} {lo hi:Option Operand} {lo' hi':Option VA} {sz:Nat} (ho:o.op=.slice t x lo hi none) (hu:P.underlying t=some (.slice e)) (hsz:sizeT P e=some sz) (hx:cA x=some x')
  (hlo:cAo lo=some lo') (hhi:cAo hi=some hi') (hf:FrameRep w σ β env a) (hs:Sim σ β w) (hk:vSlice sz (va env x') (lo'.map (va env)) (hi'.map (va env)) σ K):OpS P o a σ β w K:=by
 have h1:=hf.eval hx
 have run:∀ {ad:Option Addr} {n c l h:Nat},a.eval x=.slice ad n c→n≤c→bound (lo'.map (va env)) 0=some l→bound (hi'.map (va env)) n=some h→l≤h→h≤n→
   (execOp a.eval o).run P w=.ok (.value (.slice (if c=l then ad else ad.map (·.add (l * sz))) (h - l) (c - l))) w:=by
  intro ad n c l h e0 hnc hl hh hlh hhn
  simp[execOp,ho,e0,Instr.sliceAt,Instr.slice,run_underlying' hu,run_bounds (P:=P) (bound_eval hf hhi hh) (bound_eval hf hlo hl) hlh (by omega:h≤c),run_sizeOf hsz]
 have cutsl:∀ {σ':VHeap} {es:List (List PV)} {n c l h sz':Nat} {ad:Option Addr} {f:Nat→Value},es.length=n→n≤c→l≤h→h≤n→(∀ e,e∈es→e.length=sz')→(sz'=sz∨es=[])→
   (0<n→∃ a0,ad=some a0∧Still w σ' β a0 (n * sz') f)→(∀ (i:Nat) (e:List PV) (j:Nat) (c:PV),es[i]?=some e→e[j]?=some c→Rep w σ' β c (f (i * sz'+j)))→
   Rep w σ' β (.sl ((es.drop l).take (h - l))) (.slice (if c=l then ad else ad.map (·.add (l * sz))) (h - l) (c - l)):=by
  intro σ' es n c l h sz' ad f hn hnc hlh hhn hel hss ha hr
  refine .sl _ sz' _ _ _ (fun q=>f (l * sz'+q)) (by simp;omega) (by omega) (fun e he=>hel e (List.mem_of_mem_drop (List.mem_of_mem_take he))) (fun h0=>?_) (fun i e j c h2 h3=>?_)
  ·obtain⟨a0,rfl,hst⟩:=ha (by omega)
   rw[if_neg (by omega)]
   rcases hss with rfl|rfl
   ·refine⟨_,rfl,fun q hq=>?_⟩
    rw[add_add,add_block]
    refine hst _ ?_
    have:(h - l) * sz'+l * sz'=h * sz':=by rw[← Nat.add_mul];congr 1;omega
    have:h * sz'≤n * sz':=Nat.mul_le_mul_right _ hhn
    omega
   ·simp at hn;omega
  ·rw[List.getElem?_take] at h2
   split at h2
   ·rw[List.getElem?_drop] at h2
    have:=hr _ e j c h2 h3
    rw[Nat.add_mul,Nat.add_assoc] at this;exact this
   ·cases h2
 generalize hc0:va env x'=c0 at *
 generalize he:a.eval x=ex at *
 unfold vSlice at hk
 split at hk
 ·rename_i es
  split at hk
  ·rename_i l h hl hh
   obtain⟨hlh,hhl,hel,hk⟩:=hk
   cases h1 with
   | sl _ sz' n c ad f hn hcap hsz' ha hr=>
     subst hn
     refine OpS.value (run rfl hcap hl hh hlh hhl) hk (cutsl rfl hcap hlh hhl hsz' ?_ ha hr) hs (Step.refl _ _ _)
     cases es with
     | nil=>exact .inr rfl
     | cons e es=>exact .inl ((hsz' e (by simp)).symm.trans (hel e (by simp)))
  ·exact hk.elim
 ·split at hk
  ·rename_i hl hh
   cases h1
   refine OpS.value (run rfl (Nat.le_refl _) hl hh (Nat.le_refl _) (Nat.le_refl _)) hk ?_ hs (Step.refl _ _ _)
   simp;exact .nils
  ·exact hk.elim
 ·rename_i id g
  split at hk
  ·rename_i s es fz hg
   split at hk
   ·rename_i l h hl hh
    obtain⟨hss,hlh,hhl,hk⟩:=hk
    subst hss
    have hg':=vGet_some hg
    have hfe:=frzId_FE σ id
    have hz:=frzId_Fz σ id
    cases h1 with
    | stalerow _ _ g' o' p n c h5 h6=>rw[hg'] at h5;cases h5;omega
    | rownil _ _ sz fz' ad h5 hb=>
      rw[hg'] at h5;cases h5
      simp only[List.length_nil] at hh hhl
      have hl0:l=0:=by omega
      have hh0:h=0:=by omega
      subst hl0;subst hh0
      refine OpS.value (run rfl (Nat.le_refl _) hl hh (Nat.le_refl _) (Nat.le_refl _)) hk ?_ (hfe.sim hs) (hfe.step β w)
      simp;exact .sl [] 0 0 0 _ (fun _=>default) rfl (Nat.le_refl _) (by simp) (by omega) (by simp)
    | row _ _ b _ cap es2 fz' arr ty fr h5 hb hh' hc hsz=>
      rw[hg'] at h5;cases h5
      rcases hs.obj id g _ hg' with ⟨e,_⟩|⟨b',arr',e,hcl,hle,hel,hre⟩
      ·rw[hb] at e;cases e
      ·rw[hb] at e;cases e
       refine OpS.value (run rfl hc hl hh hlh hhl) hk (cutsl (sz':=s) (f:=fun j=>arr'.getD j default) rfl hc hlh hhl hel (.inl rfl) (fun _=>⟨_,rfl,fun j hj=>?_⟩) (fun i e j c h2 h3=>?_)) (hfe.sim hs) (hfe.step β w)
       ·have:=row_still hs hfe hg' hb hz hcl hj (by omega)
        rw[add_mk,Nat.zero_add];exact this
       ·have h5:j<s:=by rw[← hel e (List.mem_of_getElem? h2)];exact(List.getElem?_eq_some_iff.1 h3).1
        have:=mul_in (List.getElem?_eq_some_iff.1 h2).1 h5
        exact(hre i e j c _ h2 h3 (arr_getD (by omega))).step (hfe.step β w)
   ·exact hk.elim
  ·exact hk.elim
 ·rename_i id g off len
  split at hk
  ·rename_i l h hl hh
   obtain⟨hss,⟨o',hg⟩,hlh,hhl,hk⟩:=hk
   subst hss
   have hg':=vGet_some hg
   cases h1 with
   | stalebv _ _ _ _ g' o' p n c h5 h6=>rw[hg'] at h5;cases h5;omega
   | bview _ _ _ _ b cap ad cs' fz' h5 hb hle hc ha=>
     refine OpS.value (run rfl hc hl hh hlh hhl) hk (.bview id g _ _ b _ _ cs' fz' h5 hb (by omega) (by omega) (fun h0=>?_)) hs (Step.refl _ _ _)
     rw[if_neg (by omega),ha (by omega),Option.map_some,add_mk,Nat.mul_one]
  ·exact hk.elim
 ·exact hk.elim
theorem s_sliceArr [Glob] {t e:TypeId} {x:Operand} {x':VA} {lo hi:Option Operand} {lo' hi':Option VA} {n sz:Nat} (ho:o.op=.slice t x lo hi none) (hu:P.underlying t=some (.array n e)) (hsz:sizeT P e=some sz) (hx:cA x=some x')
  (hlo:cAo lo=some lo') (hhi:cAo hi=some hi') (hf:FrameRep w σ β env a) (hs:Sim σ β w) (hk:vSliceArr n sz (va env x') (lo'.map (va env)) (hi'.map (va env)) σ K):OpS P o a σ β w K:=by
 have h1:=hf.eval hx
 generalize hc0:va env x'=c0 at *
 generalize he:a.eval x=ex at *
 unfold vSliceArr at hk
 split at hk
 ·rename_i id g off
  split at hk
  ·rename_i cs fz hg
   have hg':=vGet_some hg
   split at hk
   ·rename_i l h hl hh
    obtain⟨hss,hle,hlh,hhn,hk⟩:=hk
    subst hss
    cases h1 with
    | stalep _ _ _ g' o' p h5 h6=>rw[hg'] at h5;cases h5;omega
    | ptr _ _ _ b cs' fz' h5 hb=>
      rw[hg'] at h5;cases h5
      refine OpS.value (v:=.slice (some (if n=l then⟨b,off,none⟩ else⟨b,off+l * 1,none⟩)) (h - l) (n - l)) (w':=w) ?_ hk (.bview id g _ _ b _ _ cs fz hg' hb (by omega) (by omega) (fun h0=>?_)) hs (Step.refl _ _ _)
      ·simp[execOp,ho,he,Instr.sliceAt,run_underlying' hu,run_bounds (P:=P) (isS:=false) (len:=n) (bound_eval hf hhi hh) (bound_eval hf hlo hl) hlh hhn,run_sizeOf hsz,Instr.sureAddr,add_mk]
      ·rw[if_neg (by omega),Nat.mul_one]
   ·exact hk.elim
  ·exact hk.elim
 ·exact hk.elim
end
def vBox (id:Nat) (x:PV) (σ:VHeap) (K:KP):Prop:=(pcells x).all scalar=true∧vNew id (.box (pcells x) false) σ fun g σ=>K (.ptr id g 0) σ
def vFill (cs:List PV):List (Nat × Nat × PV)→Option (List PV)
 | []=>some cs
 | (off,sz,v)::r=>if (pcells v).length=sz∧(pcells v).all scalar=true∧off+sz≤cs.length then vFill (splice cs off (pcells v)) r else none
def vBuild (zero:List PV) (parts:List (Nat × Nat × PV)) (σ:VHeap) (K:KP):Prop:=
 match vFill zero parts with
 | some cs=>K (.agg cs) σ
 | none=>False
def vFillRow (sz:Nat) (es:List (List PV)):List (Nat × PV)→Option (List (List PV))
 | []=>some es
 | (i,v)::r=>if (pcells v).length=sz∧(pcells v).all scalar=true∧i<es.length then vFillRow sz (es.set i (pcells v)) r else none
def vBuildSlice (id sz len:Nat) (zero:List PV) (parts:List (Nat × PV)) (σ:VHeap) (K:KP):Prop:=
 match vFillRow sz (List.replicate len zero) parts with
 | some es=>vNew id (.row sz es false) σ fun g σ=>K (.row id g) σ
 | none=>False
def vNewRow (id sz:Nat) (σ:VHeap) (K:KP):Prop:=vNew id (.row sz [] false) σ fun g σ=>K (.row id g) σ
section
variable {P:Program} {o:Oper} {a:Act} {σ:VHeap} {β:Beta} {w:World} {env:Env} {K:KP}
theorem s_box [Glob] {t:TypeId} {x:Operand} {x':VA} {id:Nat} (ho:o.op=.box t x) (hx:cA x=some x') (hf:FrameRep w σ β env a) (hs:Sim σ β w) (hk:vBox id (va env x') σ K):OpS P o a σ β w K:=by
 have h1:=hf.eval hx
 obtain⟨hall,hk⟩:=hk
 obtain⟨e1,e2,e3⟩:=pcells_rep h1 hall
 refine s_newVar (t:=t) (v:=a.eval x) ?_ hs e1 e3 hk
 simp[execOp,ho,Instr.box,newVar,newRow,newObj,Sem.run]
theorem nil_sim {id g sz:Nat} {o0:VObj} {fz:Bool} (h:Sim σ β w) (hid:σ[id]?=some (g,o0)) :
  Step σ β w (σ.set id (g+1,.row sz [] fz)) (upd β id none) w∧Sim (σ.set id (g+1,.row sz [] fz)) (upd β id none) w:=by
 have hs:Step σ β w (σ.set id (g+1,.row sz [] fz)) (upd β id none) w:=by
  refine⟨rfl,rfl,rfl,Nat.le_refl _,fun _ _ _=>rfl,fun _ _ h _=>h,?_,?_,fun _ arr _ _ h=>⟨arr,h,rfl⟩,?_⟩
  ·rintro b hb ⟨i,gi,oi,h1,h2,h3⟩
   rcases set_get h1 with ⟨e,h4⟩|⟨e,h4⟩
   ·subst e;rw[upd_same] at h2;cases h2
   ·rw[upd_ne _ _ e] at h2;exact⟨i,gi,oi,h4,h2,h3⟩
  ·rintro b j hb ⟨i,gi,oi,h1,h2,h3⟩
   rcases set_get h1 with ⟨e,h4⟩|⟨e,h4⟩
   ·subst e;rw[upd_same] at h2;cases h2
   ·rw[upd_ne _ _ e] at h2;exact⟨i,gi,oi,h4,h2,h3⟩
  ·intro i gi oi h1
   by_cases e:i=id
   ·subst e
    rw[hid] at h1;cases h1
    exact⟨g+1,_,set_same hid,by omega,fun e=>by omega⟩
   ·exact⟨gi,oi,by rw[List.getElem?_set_ne (Ne.symm e)];exact h1,Nat.le_refl _,fun _=>⟨oi.alike_refl,upd_ne _ _ e⟩⟩
 refine⟨hs,?_,?_⟩
 ·intro i gi oi h1
  rcases set_get h1 with ⟨e,h4⟩|⟨e,h4⟩
  ·subst e;cases h4;rw[upd_same];exact .inl ⟨rfl,rfl⟩
  ·rw[upd_ne _ _ e]
   exact(h.obj i gi oi h4).step hs fun b hb=>rfl
 ·intro i j b gi gj oi oj h1 h2 l1 l2 b1 b2
  rcases set_get h1 with ⟨e1,h3⟩|⟨e1,h3⟩<;>rcases set_get h2 with ⟨e2,h4⟩|⟨e2,h4⟩
  ·rw[e1,e2]
  ·subst e1;rw[upd_same] at b1;cases b1
  ·subst e2;rw[upd_same] at b2;cases b2
  ·rw[upd_ne _ _ e1] at b1;rw[upd_ne _ _ e2] at b2
   exact h.inj i j b gi gj oi oj h3 h4 l1 l2 b1 b2
theorem s_newRow [Glob] {x:Operand} {id sz:Nat} (ho:o.op=.assign x) (hx:x=.const (.slice none 0 0)) (hs:Sim σ β w) (hk:vNewRow id sz σ K):OpS P o a σ β w K:=by
 unfold vNewRow vNew at hk
 split at hk
 ·rename_i g o0 hid
  have h:=nil_sim (sz:=sz) (fz:=false) hs hid
  refine OpS.value (v:=.slice none 0 0) (w':=w) (by simp[execOp,ho,hx,Act.eval]) hk (.rownil id (g+1) sz false none (set_same hid) (upd_same _ _ _)) h.2 h.1
 ·exact hk.elim
theorem fold_set (vs:List Value):∀ (arr:Array Value) (off i:Nat),(vs.zipIdx i).foldl (fun cs (x:Value × Nat)=>cs.setIfInBounds (off+x.2) x.1) arr=wset arr (off+i) vs:=by
 induction vs with
 | nil=>intro arr off i;rfl
 | cons v vs ih=>intro arr off i;rw[List.zipIdx_cons,List.foldl_cons,ih,wset];rfl
def CellsRep (w:World) (σ:VHeap) (β:Beta) (cs:List PV) (vs:Array Value):Prop:=cs.length=vs.size∧∀ (i:Nat) (c:PV) (v:Value),cs[i]?=some c→vs[i]?=some v→Rep w σ β c v
theorem CellsRep.splice [Glob] {cs vs:List PV} {arr:Array Value} {us:List Value} {off:Nat} (h:CellsRep w σ β cs arr) (hl:vs.length=us.length) (hle:off+vs.length≤cs.length)
  (hr:∀ (i:Nat) (c:PV) (v:Value),vs[i]?=some c→us[i]?=some v→Rep w σ β c v):CellsRep w σ β (splice cs off vs) (wset arr off us):=by
 obtain⟨h1,h2⟩:=h
 refine⟨by rw[splice_length _ _ _ hle,wset_size,h1],fun i c v h3 h4=>?_⟩
 rw[splice_get _ _ _ _ hle] at h3
 rw[wset_get _ _ _ _ (by omega)] at h4
 split at h3
 ·rw[if_pos (by omega)] at h4;exact hr _ c v h3 h4
 ·rw[if_neg (by omega)] at h4;exact h2 i c v h3 h4
theorem fill_rep [Glob] {place:Nat→Option (Nat × Nat)}:∀ (parts:List (Nat × Operand)) (parts':List (Nat × Nat × VA)) (cs:List PV) (arr:Array Value) (cs':List PV),parts.length=parts'.length→
  (∀ (i:Nat) (p:Nat × Operand) (q:Nat × Nat × VA),parts[i]?=some p→parts'[i]?=some q→place p.1=some (q.1,q.2.1)∧cA p.2=some q.2.2)→FrameRep w σ β env a→CellsRep w σ β cs arr→
  vFill cs (parts'.map fun q=>(q.1,q.2.1,va env q.2.2))=some cs'→∃ arr',Instr.fill place arr (parts.map fun p=>(p.1,a.eval p.2))=some arr'∧CellsRep w σ β cs' arr':=by
 intro parts
 induction parts with
 | nil=>
   intro parts' cs arr cs' hl _ _ hc h
   have:parts'=[]:=List.length_eq_zero_iff.1 hl.symm
   subst this
   simp[vFill] at h;subst h
   exact⟨arr,rfl,hc⟩
 | cons p parts ih=>
   intro parts' cs arr cs' hl hp hf hc h
   cases parts' with
   | nil=>simp at hl
   | cons q parts'=>
     obtain⟨h1,h2⟩:=hp 0 p q rfl rfl
     have hr:=hf.eval h2
     simp only[List.map_cons,vFill] at h
     split at h
     ·rename_i hcond
      obtain⟨c1,c2,c3⟩:=hcond
      obtain⟨e1,e2,e3⟩:=pcells_rep hr c2
      obtain⟨arr',e4,e5⟩:=ih parts' (splice cs q.1 (pcells (va env q.2.2))) (wset arr q.1 (a.eval p.2).cells.toList) cs' (by simpa using hl) (fun i p' q' h3 h4=>hp (i+1) p' q' (by simpa using h3) (by simpa using h4)) hf
       (hc.splice (by simpa using e1) (by omega) (fun i c v h3 h4=>e3 i c v h3 (by simpa using h4))) h
      refine⟨arr',?_,e5⟩
      rw[← e4]
      simp only[List.map_cons,Instr.fill,h1]
      rw[if_neg]
      ·congr 1
       rw[← Array.foldl_toList,Array.toList_zipIdx]
       exact fold_set _ _ _ _
      ·have:=hc.1
       simp;omega
     ·cases h
theorem run_mapM {α γ:Type} {f:α→Sem γ} {g:α→γ} (l:List α) (h:∀ x,x∈l→∀ w,(f x).run P w=.ok (g x) w) (w:World):(l.mapM f).run P w=.ok (l.map g) w:=by
 induction l with
 | nil=>simp
 | cons x l ih=>rw[List.mapM_cons];simp[h x (by simp),ih fun y hy=>h y (by simp[hy])]
theorem run_amapM [Glob] {α γ:Type} {f:α→Sem γ} {g:α→γ} (l:Array α) (h:∀ x,x∈l→∀ w,(f x).run P w=.ok (g x) w) (w:World):(l.mapM f).run P w=.ok (l.map g) w:=by
 rw[Array.mapM_eq_mapM_toList]
 simp only[Sem.run_map,run_mapM l.toList (g:=g) (fun x hx=>h x (by simpa using hx)),Result.andThen_ok]
 congr 1
 apply Array.ext'
 simp
def placeOf (P:Program) (t:TypeId):Option (Nat→Option (Nat × Nat)):=
 match P.underlying t with
 | some (.struct fs)=>if fs.toList.all (fun f=>(sizeT P f.type).isSome) then some fun i=>(fs[i]?).map fun f=>(f.offset,(sizeT P f.type).getD 0) else none
 | some (.array _ e)=>match sizeT P e with|some s=>some fun i=>some (i * s,s)|none=>none
 | _=>none
theorem s_build [Glob] {t:TypeId} {parts:Array (Nat × Operand)} {parts':List (Nat × Nat × VA)} {zero:List PV} {place:Nat→Option (Nat × Nat)} (ho:o.op=.build t parts) (hz:zeroPV P t=some zero)
  (hpl:placeOf P t=some place) (hl:parts.toList.length=parts'.length)
  (hp:∀ (i:Nat) (p:Nat × Operand) (q:Nat × Nat × VA),parts.toList[i]?=some p→parts'[i]?=some q→place p.1=some (q.1,q.2.1)∧cA p.2=some q.2.2)
  (hf:FrameRep w σ β env a) (hs:Sim σ β w) (hk:vBuild zero (parts'.map fun q=>(q.1,q.2.1,va env q.2.2)) σ K):OpS P o a σ β w K:=by
 unfold vBuild at hk
 split at hk
 ·rename_i cs' hfill
  obtain⟨z,z1,z2,z3⟩:=run_zeroValue hz w
  obtain⟨arr',e1,e2⟩:=fill_rep parts.toList parts' zero z.cells cs' hl hp hf ⟨z2,z3 σ β⟩ hfill
  refine OpS.value (v:=.agg arr') (w':=w) ?_ hk (.agg _ _ e2.1 e2.2) hs (Step.refl _ _ _)
  have e3:(parts.map fun p=>(p.1,a.eval p.2)).toList=parts.toList.map fun p=>(p.1,a.eval p.2):=by simp
  unfold placeOf at hpl
  split at hpl
  ·rename_i fs hu
   split at hpl
   ·rename_i hall
    cases hpl
    have hm:∀ w,(fs.mapM fun f=>(do pure (f.offset,← sizeOf f.type):Sem (Nat × Nat))).run P w=.ok (fs.map fun f=>(f.offset,((sizeT P f.type).getD 0))) w:=by
     refine run_amapM fs fun f hf w=>?_
     have h1:(sizeT P f.type).isSome=true:=by
      exact List.all_eq_true.1 hall f (Array.mem_toList_iff.2 hf)
     obtain⟨s,hsz⟩:=Option.isSome_iff_exists.1 h1
     simp[run_sizeOf hsz,hsz]
    have e4:(fun (i:Nat)=>(fs[i]?).map fun (f:Field)=>(f.offset,(sizeT P f.type).getD 0))=fun (i:Nat)=>(fs.map fun (f:Field)=>(f.offset,((sizeT P f.type).getD 0)))[i]?:=by funext i;simp
    rw[e4] at e1
    have e5:(Array.map (fun x=>match x with|(i,x)=>(i,a.eval x)) parts).toList=parts.toList.map fun p=>(p.1,a.eval p.2):=by simp
    simp only[execOp,ho,Instr.build,Sem.run_bind,z1,Result.andThen_ok,run_underlying' hu,hm,e5,e1,Sem.run_pure]
   ·cases hpl
  ·rename_i n e hu
   split at hpl
   ·rename_i s hse
    cases hpl
    have e5:(Array.map (fun x=>match x with|(i,x)=>(i,a.eval x)) parts).toList=parts.toList.map fun p=>(p.1,a.eval p.2):=by simp
    simp only[execOp,ho,Instr.build,Sem.run_bind,z1,Result.andThen_ok,run_underlying' hu,run_sizeOf hse,e5,e1,Sem.run_pure]
   ·cases hpl
  ·cases hpl
 ·exact hk.elim
theorem s_newBlock [Glob] {id sz n c:Nat} {es:List (List PV)} {arr:Array Value} {w':World} {ty:TypeId} {fr:Nat × Nat}
  (hrun:(execOp a.eval o).run P w=.ok (.value (.slice (some ⟨w.heap.size,0,none⟩) n c)) w') (hn:es.length=n) (hnc:n≤c) (hsz:c * sz≤arr.size)
  (hos:w'.os=w.os) (ht:w'.tape=w.tape) (hout:w'.output=w.output) (hheap:w'.heap=w.heap.push (.cells arr ty fr)) (hfr:∀ i,i<arr.size→¬ (fr.1≤i∧i<fr.2))
  (hel:∀ e,e∈es→e.length=sz) (hr:∀ (i:Nat) (e:List PV) (j:Nat) (c:PV) (v:Value),es[i]?=some e→e[j]?=some c→arr[i * sz+j]?=some v→Rep w σ β c v)
  (hs:Sim σ β w) (hk:vNew id (.row sz es false) σ fun g σ=>K (.row id g) σ):OpS P o a σ β w K:=by
 unfold vNew at hk
 split at hk
 ·rename_i g o0 hid
  have hc:es.length * sz≤arr.size:=Nat.le_trans (Nat.mul_le_mul_right _ (by omega)) hsz
  have hblk:w'.heap[w.heap.size]?=some (.cells arr ty fr):=by rw[hheap];simp
  have h2:=alloc_sim (obj:=.cells arr ty fr) (o:=.row sz es false) hs hid hos ht hout hheap fun hst=>
   .inr ⟨w.heap.size,arr,rfl,⟨ty,fr,hblk,hfr⟩,hc,hel,fun i e j c v h1 h2 h3=>(hr i e j c v h1 h2 h3).step hst⟩
  refine OpS.value hrun hk ?_ h2.2 h2.1
  rw[← hn]
  exact .row id (g+1) w.heap.size sz c es false arr ty fr (set_same hid) (upd_same _ _ _) hblk (by omega) hsz
 ·exact hk.elim
end
def bytesEs (s:List UInt8):List (List PV):=s.map fun b=>[.int .u8 b.toNat]
def rdA (σ:VHeap):PV→Option (List (List PV))
 | .str s=>some (bytesEs s)
 | x=>rd σ x
def RowOk (sz:Nat) (es:List (List PV)):Prop:=∀ e,e∈es→e.length=sz∧e.all scalar=true
def byteOf:List PV→Option UInt8
 | [.int .u8 n]=>some (UInt8.ofNat n.toNat)
 | _=>none
def own:PV→PV
 | .slr _ id g=>.row id g
 | x=>x
theorem own_rep {w:World} {σ:VHeap} {β:Beta} {x:PV} {v:Value} (h:Rep w σ β x v):Rep w σ β (own x) v:=by
 cases x with
 | slr es id g=>cases h with|slr _ _ _ _ h1 h2=>exact h2
 | _=>exact h
def vAppend (id0 sz bytes:Nat) (s x:PV) (σ:VHeap) (K:KP):Prop:=
 match rdA σ x with
 | some new=>RowOk sz new∧
   match own s with
   | .row id g=>match vGet σ id g with
     | some (.row s es fz)=>s=sz∧(es.length+new.length) * bytes≤140737488355328∧K (.row id (g+1)) (σ.set id (g+1,.row sz (es++new) fz))
     | _=>False
   | .nils=>new.length * bytes≤140737488355328∧vNew id0 (.row sz new false) σ fun g σ=>K (.row id0 g) σ
   | _=>False
 | none=>False
def vS2B (id:Nat) (x:PV) (σ:VHeap) (K:KP):Prop:=
 match x with
 | .str s=>s.length≤9223372036854775807∧vNew id (.row 1 (bytesEs s) false) σ fun g σ=>K (.row id g) σ
 | _=>False
def vB2S (x:PV) (σ:VHeap) (K:KP):Prop:=
 match rd σ x with
 | some es=>match es.mapM byteOf with
   | some bs=>K (.str bs) σ
   | none=>False
 | none=>False
section
variable {P:Program} {o:Oper} {a:Act} {σ:VHeap} {β:Beta} {w:World} {env:Env} {K:KP}
def RowRep (w:World) (σ:VHeap) (β:Beta) (sz:Nat) (es:List (List PV)) (arr:Array Value) (from':Nat):Prop:=
 ∀ (i:Nat) (e:List PV) (j:Nat) (c:PV) (v:Value),es[i]?=some e→e[j]?=some c→arr[from'+i * sz+j]?=some v→Rep w σ β c v
theorem rdA_rep [Glob] (hs:Sim σ β w) {x:PV} {v:Value} (hr:Rep w σ β x v) {es:List (List PV)} (h:rdA σ x=some es) {sz:Nat} (hok:∀ e,e∈es→e.length=sz) :
  (∀ w,(Builtin.lenOf v).run P w=.ok es.length w)∧∀ m,m≤es.length→∃ arr:Array Value,(Builtin.firstCells sz m v).run P w=.ok arr w∧arr.size=m * sz∧RowRep w σ β sz (es.take m) arr 0∧((∀ e,e∈es→e.all scalar=true)→∀ u,u∈arr→celly u=true):=by
 by_cases hx:∃ s,x=.str s
 ·obtain⟨s,rfl⟩:=hx
  simp only[rdA] at h
  cases h
  cases hr with
  | str s=>
    have e0:s.data.toList.length=s.size:=by simp
    have hcells:∀ u,u∈s.data.map (fun b:UInt8=>Value.int .u8 b.toNat)→celly u=true:=by
     intro u hu;obtain⟨b,_,rfl⟩:=Array.mem_map.1 hu;rfl
    refine⟨fun w=>by simp[Builtin.lenOf,bytesEs],fun m hm=>?_⟩
    simp[bytesEs] at hm
    by_cases hm0:m=0
    ·subst hm0
     refine⟨#[],by simp[Builtin.firstCells,ByteArray.extract,ByteArray.copySlice],by simp,fun i e j c v h1=>by simp at h1,by simp⟩
    have hsz:sz=1:=by
     have hlt:0<s.data.toList.length:=by simp;omega
     have:=(hok [.int .u8 (s.data.toList[0]).toNat] (by simp only[bytesEs];exact List.mem_map.2 ⟨_,List.getElem_mem hlt,rfl⟩))
     simpa using this.symm
    subst hsz
    refine⟨(s.extract 0 m).data.map fun b=>.int .u8 b.toNat,by simp[Builtin.firstCells],?_,?_,?_⟩
    ·have:=congrArg List.length (Lib.extract_data s 0 m)
     simp at this ⊢;omega
    ·intro i e j c v h1 h2 h3
     rw[List.getElem?_take] at h1
     split at h1
     ·rename_i hi
      simp only[bytesEs,List.getElem?_map] at h1
      cases h4:s.data.toList[i]? with
      | none=>rw[h4] at h1;cases h1
      | some b=>
        rw[h4] at h1;cases h1
        have hj0:j=0:=by
         have:=(List.getElem?_eq_some_iff.1 h2).1
         simp at this;omega
        subst hj0
        cases h2
        simp only[Nat.zero_add,Nat.mul_one,Nat.add_zero] at h3
        rw[Array.getElem?_map] at h3
        have h5:(s.extract 0 m).data[i]?=s.data.toList[i]?:=by
         rw[← Array.getElem?_toList,Lib.extract_data]
         simp[hi]
        rw[h5,h4] at h3
        cases h3;exact .int _ _
     ·cases h1
    ·intro _ u hu;obtain⟨b,_,rfl⟩:=Array.mem_map.1 hu;rfl
 ·have h':rd σ x=some es:=by
   cases x<;>first|exact h|exact(hx ⟨_,rfl⟩).elim
  obtain⟨ad,c,sz',f,rfl,hc,hel,had,hre⟩:=rd_rep hs hr h'
  refine⟨fun w=>by simp[Builtin.lenOf],fun m hm=>?_⟩
  by_cases hm0:m=0
  ·subst hm0
   refine⟨#[],?_,by simp,fun i e j c v h1=>by simp at h1,by simp⟩
   cases ad<;>simp[Builtin.firstCells,loadCells,loadCellsFrom]
  ·obtain⟨a0,rfl,hcell⟩:=had (by omega)
   have hss:sz'=sz:=by
    have hlt:0<es.length:=by omega
    rw[← hel _ (List.getElem_mem hlt),hok _ (List.getElem_mem hlt)]
   subst hss
   have hle:m * sz'≤es.length * sz':=Nat.mul_le_mul_right _ hm
   refine⟨((List.range (m * sz')).map f).toArray,?_,by simp,?_,?_⟩
   ·simp only[Builtin.firstCells]
    exact run_loadCells w a0 (m * sz') f fun j hj=>hcell j (by omega)
   ·intro i e j c v h1 h2 h3
    rw[List.getElem?_take] at h1
    split at h1
    ·have h5:j<sz':=by rw[← hel e (List.mem_of_getElem? h1)];exact(List.getElem?_eq_some_iff.1 h2).1
     rename_i hi
     have:=mul_in hi h5
     simp at h3
     obtain⟨q,hq,rfl⟩:=h3
     rw[List.getElem?_range this] at hq
     cases hq
     exact hre i e j c h1 h2
    ·cases h1
   ·intro hscal u hu
    simp at hu
    obtain⟨q,hq,rfl⟩:=hu
    have hz:0<sz':=by rcases Nat.eq_zero_or_pos sz' with h|h;·subst h;simp at hq
                      ·exact h
    have h1:q / sz'<es.length:=by rw[Nat.div_lt_iff_lt_mul hz];omega
    have h2:q % sz'<(es[q / sz']).length:=by rw[hel _ (List.getElem_mem h1)];exact Nat.mod_lt _ hz
    have h3:=hre (q / sz') _ (q % sz') _ (List.getElem?_eq_getElem h1) (List.getElem?_eq_getElem h2)
    have h4:q / sz' * sz'+q % sz'=q:=Nat.div_add_mod' q sz'
    rw[h4] at h3
    exact celly_of h3 (List.all_eq_true.1 (hscal _ (List.getElem_mem h1)) _ (List.getElem_mem h2))
structure AppT (P:Program) (ts tx te:TypeId) (i:TypeInfo) (z:Value):Prop where
 us:P.underlying ts=some (.slice te)
 info:P.info? te=some i
 zero:i.zero=some z
 zsz:z.cells.size=i.size
 pos:0<i.bytes
 ux:(∃ e,P.underlying tx=some (.slice e))∨P.underlying tx=some .string
def appT (P:Program) (ts tx:TypeId):Option (Nat × Nat):=
 match P.underlying ts with
 | some (.slice te)=>match P.info? te with
   | some i=>match i.zero with
     | some z=>if z.cells.size=i.size∧0<i.bytes then match P.underlying tx with
       | some (.slice _)=>some (i.size,i.bytes)
       | some .string=>some (i.size,i.bytes)
       | _=>none
       else none
     | none=>none
   | none=>none
 | _=>none
theorem appT_ok {ts tx:TypeId} {sz bytes:Nat} (h:appT P ts tx=some (sz,bytes)):∃ te i z,AppT P ts tx te i z∧i.size=sz∧i.bytes=bytes:=by
 unfold appT at h
 split at h
 ·rename_i te hu
  split at h
  ·rename_i i hi
   split at h
   ·rename_i z hz
    split at h
    ·rename_i hc
     split at h
     ·rename_i e hx;cases h;exact⟨te,i,z,⟨hu,hi,hz,hc.1,hc.2,.inl ⟨e,hx⟩⟩,rfl,rfl⟩
     ·rename_i hx;cases h;exact⟨te,i,z,⟨hu,hi,hz,hc.1,hc.2,.inr hx⟩,rfl,rfl⟩
     ·cases h
    ·cases h
   ·cases h
  ·cases h
 ·cases h
theorem run_append_fits [Glob] {ts tx te:TypeId} {i:TypeInfo} {z:Value} {ty len cap n:Nat} (A:AppT P ts tx te i z) {base:Option Addr} {x:Value} {arr:Array Value} (hlen:∀ w,(Builtin.lenOf x).run P w=.ok n w)
  (hc:(Builtin.firstCells i.size n x).run P w=.ok arr w) (hfit:len+n≤cap) :
  (Builtin.append_ #[ts,tx] ty #[.slice base len cap,x]).run P w =
   (match base with|some ad=>(storeCells (ad.add (len * i.size)) arr.toList).run P w|none=>.ok () w).andThen fun _ w=>.ok (.slice base (len+n) cap) w:=by
 obtain⟨us,info,zero,zsz,pos,ux⟩:=A
 rcases ux with ⟨e,ux⟩|ux<;>cases base<;>simp[Builtin.append_,run_underlying' us,run_underlying' ux,sizeOf,typeInfo,info,hlen,hfit,hc]
theorem run_append_grows [Glob] {ts tx te:TypeId} {i:TypeInfo} {z:Value} {ty len cap n:Nat} (A:AppT P ts tx te i z) {base:Option Addr} {x:Value} {arr old:Array Value} (hlen:∀ w,(Builtin.lenOf x).run P w=.ok n w)
  (hc:(Builtin.firstCells i.size n x).run P w.drew=.ok arr w.drew) (hold:(Builtin.firstCells i.size len (.slice base len cap)).run P w.drew=.ok old w.drew) (hfit:cap<len+n) (hb:(len+n) * i.bytes≤140737488355328) :
  (Builtin.append_ #[ts,tx] ty #[.slice base len cap,x]).run P w =
   .ok (.slice (some ⟨w.heap.size,0,none⟩) (len+n) (grownCap w (len+n) cap te)) (w.drew.alloc (.cells (old++arr++Builtin.zeroCells z.cells (grownCap w (len+n) cap te - (len+n))) te)):=by
 obtain⟨us,info,zero,zsz,pos,ux⟩:=A
 have hn:¬ (len+n≤cap):=by omega
 have h1:len+n≤(len+n) * i.bytes:=Nat.le_mul_of_pos_right _ pos
 have h63:¬ (9223372036854775807<((len:Int)+(n:Int))):=by omega
 have h48:¬ (281474976710656<Builtin.nextslicecap (len+n) cap * i.bytes):=by have:=growslice_fits hfit hb;omega
 rcases ux with ⟨e,ux⟩|ux<;>simp[Builtin.append_,run_underlying' us,run_underlying' ux,sizeOf,typeInfo,zeroValue,info,zero,hlen,hn,h63,h48,hc,hold,Question.forced,newRow,grownCap]
theorem grownCap_le (w:World) (need old:Nat) (e:TypeId) (_h:need≤140737488355328):need≤grownCap w need old e:=by
 unfold grownCap Question.cut;simp
theorem zeroCells_size (z:Array Value) (n:Nat):(Builtin.zeroCells z n).size=n * z.size:=by simp[Builtin.zeroCells]
theorem s_append [Glob] {ts tx:TypeId} {s x:Operand} {s' x':VA} {id0 sz bytes:Nat} (ho:o.op=.call { callee:=.builtin .append,args:=#[s,x],argTypes:=#[ts,tx] }) (hA:appT P ts tx=some (sz,bytes))
  (hs':cA s=some s') (hx':cA x=some x') (hf:FrameRep w σ β env a) (hs:Sim σ β w) (hk:vAppend id0 sz bytes (va env s') (va env x') σ K):OpS P o a σ β w K:=by
 obtain⟨te,i,z,A,rfl,rfl⟩:=appT_ok hA
 have h1:=own_rep (hf.eval hs')
 have h2:=hf.eval hx'
 have hd:=same_sim (w':=w.drew) hs rfl rfl rfl rfl
 unfold vAppend at hk
 split at hk
 case h_2=>exact hk.elim
 rename_i new hnew
 obtain⟨hok,hk⟩:=hk
 obtain⟨hlen,hcells⟩:=rdA_rep (P:=P) hs h2 hnew (fun e he=>(hok e he).1)
 obtain⟨_,hcellsD⟩:=rdA_rep (P:=P) hd.2 (h2.step hd.1) hnew (fun e he=>(hok e he).1)
 have grow:∀ {id g:Nat} {o0:VObj} {es:List (List PV)} {fz:Bool} {base:Option Addr} {cap:Nat} {old:Array Value},σ[id]?=some (g,o0)→a.eval s=.slice base es.length cap→cap<es.length+new.length→
   (es.length+new.length) * i.bytes≤140737488355328→(∀ e,e∈es→e.length=i.size)→(Builtin.firstCells i.size es.length (.slice base es.length cap)).run P w.drew=.ok old w.drew→old.size=es.length * i.size→
   RowRep w σ β i.size es old 0→K (.row id (g+1)) (σ.set id (g+1,.row i.size (es++new) fz))→OpS P o a σ β w K:=by
  intro id g o0 es fz base cap old hid he hcap hb hel hold holds hre hk
  obtain⟨arr,c1,c2,c3,_⟩:=hcellsD new.length (Nat.le_refl _)
  have c3':RowRep w.drew σ β i.size new arr 0:=by rw[List.take_length] at c3;exact c3
  have hn47:es.length+new.length≤140737488355328:=Nat.le_trans (Nat.le_mul_of_pos_right _ A.pos) hb
  have hgc:=grownCap_le w (es.length+new.length) cap te hn47
  have hblk:(w.drew.alloc (.cells (old++arr++Builtin.zeroCells z.cells (grownCap w (es.length+new.length) cap te - (es.length+new.length))) te)).heap[w.heap.size]? =
    some (.cells (old++arr++Builtin.zeroCells z.cells (grownCap w (es.length+new.length) cap te - (es.length+new.length))) te):=heap_alloc_new w.drew _
  have hsize:(old++arr++Builtin.zeroCells z.cells (grownCap w (es.length+new.length) cap te - (es.length+new.length))).size=grownCap w (es.length+new.length) cap te * i.size:=by
   simp only[Array.size_append,zeroCells_size,holds,c2,A.zsz]
   rw[← Nat.add_mul,← Nat.add_mul];congr 1;omega
  have hle:(es++new).length * i.size≤(old++arr++Builtin.zeroCells z.cells (grownCap w (es.length+new.length) cap te - (es.length+new.length))).size:=by
   rw[hsize,List.length_append];exact Nat.mul_le_mul_right _ hgc
  have h3:=alloc_sim (w':=w.drew.alloc (.cells (old++arr++Builtin.zeroCells z.cells (grownCap w (es.length+new.length) cap te - (es.length+new.length))) te)) (obj:=.cells _ te) (o:=.row i.size (es++new) fz) hs hid rfl rfl rfl rfl fun hst=>by
   refine .inr ⟨w.heap.size,_,rfl,⟨te,(0,0),hblk,by simp⟩,hle,?_,fun q e j c v h1 h2 h3=>?_⟩
   ·intro e he
    rcases List.mem_append.1 he with h|h
    ·exact hel e h
    ·exact(hok e h).1
   ·rw[Array.append_assoc] at h3
    by_cases hq:q<es.length
    ·rw[List.getElem?_append_left hq] at h1
     have h5:j<i.size:=by rw[← hel e (List.mem_of_getElem? h1)];exact(List.getElem?_eq_some_iff.1 h2).1
     have:=mul_in hq h5
     rw[Array.getElem?_append_left (by omega)] at h3
     exact(hre q e j c v h1 h2 (by simpa using h3)).step hst
    ·rw[List.getElem?_append_right (by omega)] at h1
     have h5:j<i.size:=by rw[← (hok e (List.mem_of_getElem? h1)).1];exact(List.getElem?_eq_some_iff.1 h2).1
     have h6:=mul_in (List.getElem?_eq_some_iff.1 h1).1 h5
     have h7:q * i.size=es.length * i.size+(q - es.length) * i.size:=by rw[← Nat.add_mul];congr 1;omega
     rw[Array.getElem?_append_right (by omega),Array.getElem?_append_left (by omega)] at h3
     have h8:q * i.size+j - old.size=0+(q - es.length) * i.size+j:=by omega
     rw[h8] at h3
     refine Rep.step (Step.trans ?_ hst) (c3' _ e j c v h1 h2 h3)
     exact(same_sim (w:=w.drew) (w':=w) hd.2 rfl rfl rfl rfl).1
  refine OpS.value (v:=.slice (some ⟨w.heap.size,0,none⟩) (es++new).length (grownCap w (es.length+new.length) cap te)) (run_call_builtin ho ?_) hk ?_ h3.2 h3.1
  ·simp only[builtin,List.map_toArray,List.map_cons,List.map_nil,Sem.run_bind,he]
   rw[run_append_grows A hlen c1 hold hcap hb,List.length_append];rfl
  ·exact .row id (g+1) w.heap.size i.size _ _ fz _ te (0,0) (set_same hid) (upd_same _ _ _) hblk (by rw[List.length_append];exact hgc) (by rw[hsize];exact Nat.le_refl _)
 split at hk
 ·rename_i id g heq
  rw[heq] at h1
  split at hk
  ·rename_i s0 es fz hg
   obtain⟨rfl,hb,hk⟩:=hk
   have hg':=vGet_some hg
   generalize he:a.eval s=ex at *
   cases h1 with
   | stalerow _ _ g' o' p n c h5 h6=>rw[hg'] at h5;cases h5;omega
   | rownil _ _ sz fz' ad h5 hb'=>
     rw[hg'] at h5;cases h5
     by_cases hnil:new=[]
     ·subst hnil
      obtain⟨arr,c1,c2,c3,_⟩:=hcells 0 (Nat.le_refl _)
      have h3:=nil_sim (sz:=i.size) (fz:=fz) hs hg'
      refine OpS.value (v:=.slice ad 0 0) (w':=w) (run_call_builtin ho ?_) hk (.rownil id (g+1) i.size fz ad (set_same hg') (upd_same _ _ _)) h3.2 h3.1
      simp only[builtin,List.map_toArray,List.map_cons,List.map_nil,Sem.run_bind,he]
      have ha:arr=#[]:=Array.eq_empty_of_size_eq_zero (by rw[c2];simp)
      subst ha
      rw[run_append_fits (n:=0) A hlen c1 (Nat.le_refl _)];cases ad<;>rfl
     ·have h0:0<new.length:=List.length_pos_iff.2 hnil
      refine grow (es:=[]) (old:=#[]) hg' rfl (by simpa using h0) hb (by simp) (by cases ad<;>simp[Builtin.firstCells,loadCells,loadCellsFrom]) (by simp) (fun q e j c v h1=>by simp at h1) hk
   | row _ _ b sz cap es2 fz' arr0 ty fr h5 hb' hh hc hsz=>
     rw[hg'] at h5;cases h5
     rcases hs.obj id g _ hg' with ⟨e,_⟩|⟨b',arr',e,hcl,hle,hel,hre⟩
     ·rw[hb'] at e;cases e
     ·rw[hb'] at e;cases e
      obtain⟨ty',fr',hh',hfr⟩:=hcl
      rw[hh] at hh';cases hh'
      by_cases hfit:es.length+new.length≤cap
      ·obtain⟨arr,c1,c2,c3,c4⟩:=hcells new.length (Nat.le_refl _)
       rw[List.take_length] at c3
       have hin:es.length * i.size+arr.size≤arr0.size:=by
        rw[c2,← Nat.add_mul];exact Nat.le_trans (Nat.mul_le_mul_right _ hfit) hsz
       have hrun:=run_storeCells (P:=P) arr.toList w arr0 (es.length * i.size) 0 hh (by simpa using hin) hfr (fun v hv=>c4 (fun e he=>(hok e he).2) v (by simpa using hv))
       have hwb:World.setBlock w b (.cells (wset arr0 (es.length * i.size) arr.toList) ty fr)=if arr.toList=[] then World.setBlock w b (.cells arr0 ty fr) else World.setBlock w b (.cells (wset arr0 (es.length * i.size) arr.toList) ty fr):=by
        split
        ·rename_i e;rw[e];rfl
        ·rfl
       have hself:World.setBlock w b (.cells arr0 ty fr)=w:=by
        unfold World.setBlock
        have:w.heap.setIfInBounds b (.cells arr0 ty fr)=w.heap:=by
         apply Array.ext_getElem?;intro j;rw[Array.getElem?_setIfInBounds]
         split
         ·rename_i e;subst e;rw[if_pos (Array.getElem?_eq_some_iff.1 hh).1,hh]
         ·rfl
        rw[this]
       rw[hself] at hwb
       have hrun':(storeCells ⟨b,es.length * i.size,none⟩ arr.toList 0).run P w=.ok () (World.setBlock w b (.cells (wset arr0 (es.length * i.size) arr.toList) ty fr)):=by
        rw[hrun,hwb,Nat.add_zero]
       have hlt:=(Array.getElem?_eq_some_iff.1 hh).1
       have hblk:(World.setBlock w b (.cells (wset arr0 (es.length * i.size) arr.toList) ty fr)).heap[b]?=some (.cells (wset arr0 (es.length * i.size) arr.toList) ty fr):=by simp[World.setBlock,hlt]
       have h3:=put_sim' (g':=g+1) (w':=World.setBlock w b (.cells (wset arr0 (es.length * i.size) arr.toList) ty fr)) (o':=.row i.size (es++new) fz) (obj:=.cells arr0 ty fr) (obj':=.cells (wset arr0 (es.length * i.size) arr.toList) ty fr) hs hg' trivial hb' rfl rfl rfl hh rfl
        (by omega) (fun e=>by omega) (fun q hq hz=>by have:=hq hz;rw[List.length_append,Nat.add_mul] at this;omega) (by
         intro j u hj hm
         simp only[World.cell?,hh,hblk] at hj ⊢
         simp at hj ⊢
         have hj2:=(Array.getElem?_eq_some_iff.1 hj).1
         have hjl:j<es.length * i.size:=by
          simp only[VObj.may] at hm
          omega
         rw[wset_get _ _ _ _ (by simpa using hin),if_neg (by omega)]
         exact hj) (fun arr' ty' fr' e=>by cases e;exact⟨_,rfl,wset_size _ _ _⟩)
        (fun hst=>by
         refine .inr ⟨b,_,rfl,⟨ty,fr,hblk,by rw[wset_size];exact hfr⟩,by rw[wset_size,List.length_append,Nat.add_mul,← c2];exact hin,?_,fun q e j c v h1 h2 h3=>?_⟩
         ·intro e he
          rcases List.mem_append.1 he with h|h
          ·exact hel e h
          ·exact(hok e h).1
         ·rw[wset_get _ _ _ _ (by simpa using hin)] at h3
          by_cases hq:q<es.length
          ·rw[List.getElem?_append_left hq] at h1
           have h5:j<i.size:=by rw[← hel e (List.mem_of_getElem? h1)];exact(List.getElem?_eq_some_iff.1 h2).1
           have:=mul_in hq h5
           rw[if_neg (by omega)] at h3
           exact(hre q e j c v h1 h2 h3).step hst
          ·rw[List.getElem?_append_right (by omega)] at h1
           have h5:j<i.size:=by rw[← (hok e (List.mem_of_getElem? h1)).1];exact(List.getElem?_eq_some_iff.1 h2).1
           have h6:=mul_in (List.getElem?_eq_some_iff.1 h1).1 h5
           have h7:q * i.size=es.length * i.size+(q - es.length) * i.size:=by rw[← Nat.add_mul];congr 1;omega
           rw[if_pos (by simp;omega)] at h3
           have h8:q * i.size+j - es.length * i.size=0+(q - es.length) * i.size+j:=by omega
           rw[h8] at h3
           exact(c3 _ e j c v h1 h2 (by simpa using h3)).step hst)
       refine OpS.value (v:=.slice (some ⟨b,0,none⟩) (es++new).length cap) (run_call_builtin ho ?_) hk ?_ h3.2 h3.1
       ·simp only[builtin,List.map_toArray,List.map_cons,List.map_nil,Sem.run_bind,he]
        rw[run_append_fits A hlen c1 hfit]
        simp only[add_mk,Nat.zero_add,hrun',List.length_append,Result.andThen_ok,Sem.run_pure]
       ·exact .row id (g+1) b i.size cap _ fz _ ty fr (set_same hg') hb' hblk (by rw[List.length_append];exact hfit) (by rw[wset_size];exact hsz)
      ·have hrd:rdA σ (.row id g)=some es:=by simp[rdA,rd,hg]
       obtain⟨_,ho'⟩:=rdA_rep (P:=P) hd.2 (Rep.step hd.1 (Rep.row id g b i.size cap es fz arr0 ty fr hg' hb' hh hc hsz)) hrd hel
       obtain⟨old,q1,q2,q3,_⟩:=ho' es.length (Nat.le_refl _)
       rw[List.take_length] at q3
       exact grow hg' rfl (by omega) hb hel q1 q2 (fun q e j c v h1 h2 h3=>Rep.step (same_sim (w:=w.drew) (w':=w) hd.2 rfl rfl rfl rfl).1 (q3 q e j c v h1 h2 h3)) hk
  ·exact hk.elim
 ·rename_i heq
  rw[heq] at h1
  obtain⟨hb,hk⟩:=hk
  unfold vNew at hk
  split at hk
  ·rename_i g o0 hid
   generalize he:a.eval s=ex at *
   cases h1
   by_cases hnil:new=[]
   ·subst hnil
    obtain⟨arr,c1,c2,c3,_⟩:=hcells 0 (Nat.le_refl _)
    have h3:=nil_sim (sz:=i.size) (fz:=false) hs hid
    refine OpS.value (v:=.slice none 0 0) (w':=w) (run_call_builtin ho ?_) hk (.rownil id0 (g+1) i.size false none (set_same hid) (upd_same _ _ _)) h3.2 h3.1
    simp only[builtin,List.map_toArray,List.map_cons,List.map_nil,Sem.run_bind,he]
    rw[run_append_fits (n:=0) A hlen c1 (Nat.le_refl _)];rfl
   ·have h0:0<new.length:=List.length_pos_iff.2 hnil
    exact grow (es:=[]) (old:=#[]) hid rfl (by simpa using h0) (by simpa using hb) (by simp) (by simp[Builtin.firstCells]) (by simp) (fun q e j c v h1=>by simp at h1) hk
  ·exact hk.elim
 ·exact hk.elim
theorem s_buildSlice [Glob] {t e:TypeId} {len id sz:Nat} {parts:Array (Nat × Operand)} {parts':List (Nat × VA)} {zero:List PV} (ho:o.op=.buildSlice t len parts) (hu:P.underlying t=some (.slice e)) (hsz:sizeT P e=some sz)
  (hz:zeroPV P e=some zero) (hzl:zero.length=sz) (hsmall:len * sz≤16777216)
  (hl:parts.toList.length=parts'.length) (hp:∀ (i:Nat) (p:Nat × Operand) (q:Nat × VA),parts.toList[i]?=some p→parts'[i]?=some q→p.1=q.1∧cA p.2=some q.2)
  (hf:FrameRep w σ β env a) (hs:Sim σ β w) (hk:vBuildSlice id sz len zero (parts'.map fun q=>(q.1,va env q.2)) σ K):OpS P o a σ β w K:=by
 unfold vBuildSlice at hk
 split at hk
 case h_2=>exact hk.elim
 rename_i es' hfill
 obtain⟨z,z1,z2,z3⟩:=run_zeroValue hz w
 have hzs:z.cells.size=sz:=by omega
 -- the row of zeros
 have main:∀ (ps:List (Nat × Operand)) (ps':List (Nat × VA)) (es:List (List PV)) (arr:Array Value) (es':List (List PV)),ps.length=ps'.length→
   (∀ (i:Nat) (p:Nat × Operand) (q:Nat × VA),ps[i]?=some p→ps'[i]?=some q→p.1=q.1∧cA p.2=some q.2)→arr.size=es.length * sz→(∀ e,e∈es→e.length=sz)→RowRep w σ β sz es arr 0→
   vFillRow sz es (ps'.map fun q=>(q.1,va env q.2))=some es'→∃ arr',Instr.fill (fun i=>some (i * sz,sz)) arr (ps.map fun p=>(p.1,a.eval p.2))=some arr'∧es'.length=es.length∧arr'.size=es'.length * sz∧(∀ e,e∈es'→e.length=sz)∧RowRep w σ β sz es' arr' 0:=by
  intro ps
  induction ps with
  | nil=>
    intro ps' es arr es' hl _ h1 h2 h3 h
    have:ps'=[]:=List.length_eq_zero_iff.1 hl.symm
    subst this
    simp[vFillRow] at h;subst h
    exact⟨arr,rfl,rfl,h1,h2,h3⟩
  | cons p ps ih=>
    intro ps' es arr es' hl hp h1 h2 h3 h
    cases ps' with
    | nil=>simp at hl
    | cons q ps'=>
      obtain⟨e1,e2⟩:=hp 0 p q rfl rfl
      have hr:=hf.eval e2
      simp only[List.map_cons,vFillRow] at h
      split at h
      ·rename_i hcond
       obtain⟨c1,c2,c3⟩:=hcond
       obtain⟨f1,f2,f3⟩:=pcells_rep hr c2
       have hmul:q.1 * sz+sz≤es.length * sz:=by
        have:(q.1+1) * sz≤es.length * sz:=Nat.mul_le_mul_right _ c3
        rw[Nat.add_mul] at this;omega
       have hlen:(a.eval p.2).cells.toList.length=sz:=by simp;omega
       obtain⟨arr',g1,g2,g3,g4,g5⟩:=ih ps' (es.set q.1 (pcells (va env q.2))) (wset arr (q.1 * sz) (a.eval p.2).cells.toList) es' (by simpa using hl)
        (fun i p' q' h3 h4=>hp (i+1) p' q' (by simpa using h3) (by simpa using h4)) (by rw[wset_size,List.length_set,h1])
        (fun e he=>by rcases List.mem_or_eq_of_mem_set he with h|h;·exact h2 e h
                      ·rw[h,c1])
        (fun i e j c v h4 h5 h6=>by
         rw[wset_get _ _ _ _ (by rw[hlen,h1];exact hmul)] at h6
         by_cases hi:i=q.1
         ·subst hi
          rw[List.getElem?_set_self c3] at h4;cases h4
          have hj:=(List.getElem?_eq_some_iff.1 h5).1
          rw[if_pos (by rw[hlen];omega)] at h6
          have:0+q.1 * sz+j - q.1 * sz=j:=by omega
          rw[this] at h6
          exact f3 j c v h5 (by simpa using h6)
         ·rw[List.getElem?_set_ne (Ne.symm hi)] at h4
          have hj:j<sz:=by rw[← h2 e (List.mem_of_getElem? h4)];exact(List.getElem?_eq_some_iff.1 h5).1
          rw[if_neg] at h6
          ·exact h3 i e j c v h4 h5 h6
          ·rw[hlen]
           rcases Nat.lt_or_gt_of_ne hi with hlt|hgt
           ·have:(i+1) * sz≤q.1 * sz:=Nat.mul_le_mul_right _ hlt
            rw[Nat.add_mul] at this;omega
           ·have:(q.1+1) * sz≤i * sz:=Nat.mul_le_mul_right _ hgt
            rw[Nat.add_mul] at this;omega) h
       refine⟨arr',?_,by rw[g2,List.length_set],g3,g4,g5⟩
       rw[← g1]
       simp only[List.map_cons,Instr.fill]
       rw[if_neg]
       ·congr 1
        rw[← Array.foldl_toList,Array.toList_zipIdx,e1]
        exact fold_set _ _ _ _
       ·rw[e1];simp at hlen ⊢;omega
      ·cases h
 by_cases h0:len * sz=0
 ·obtain⟨arr',g1,g2,g3,g4,g5⟩:=main parts.toList parts' (List.replicate len zero) #[] es' hl hp (by simp[h0]) (by intro e he;rw[List.eq_of_mem_replicate he,hzl]) (fun i e j c v _ _ h=>by simp at h) hfill
  refine s_newBlock (ty:=e) (fr:=(0,0)) (w':=w.alloc (.cells arr' e)) (n:=len) (c:=len) ?_ (by rw[g2];simp) (Nat.le_refl _) (by rw[g3,g2];simp) rfl rfl rfl rfl (by simp) g4 (fun i e j c v h1 h2 h3=>g5 i e j c v h1 h2 (by simpa using h3)) hs hk
  have e5:(Array.map (fun x=>match x with|(i,x)=>(i,a.eval x)) parts).toList=parts.toList.map fun p=>(p.1,a.eval p.2):=by simp
  have e6:∀ (f:Nat→Value),(Array.range 0).map f=#[]:=fun f=>by apply Array.ext';simp
  simp only[execOp,ho,Instr.buildSlice,Sem.run_bind,run_underlying' hu,Result.andThen_ok,run_sizeOf hsz,h0,e5]
  simp only[e6,g1]
  simp[newRow,newObj,Sem.run]
 ·have hsz0:0<sz:=by rcases Nat.eq_zero_or_pos sz with h|h;·simp[h] at h0
                     ·exact h
  obtain⟨arr',g1,g2,g3,g4,g5⟩:=main parts.toList parts' (List.replicate len zero) ((Array.range (len * sz)).map fun i=>z.cells[i % z.cells.size]!) es' hl hp (by simp) (by intro e he;rw[List.eq_of_mem_replicate he,hzl]) (fun i e j c v h1 h2 h3=>by
   rw[List.getElem?_replicate] at h1
   split at h1
   ·rename_i hi
    cases h1
    have hj:j<sz:=by rw[← hzl];exact(List.getElem?_eq_some_iff.1 h2).1
    have:=mul_in hi hj
    have hmod:(i * sz+j) % z.cells.size=j:=by rw[hzs,Nat.mul_comm,Nat.mul_add_mod,Nat.mod_eq_of_lt hj]
    rw[Nat.zero_add,Array.getElem?_map] at h3
    have h7:(Array.range (len * sz))[i * sz+j]?=some (i * sz+j):=by rw[Array.getElem?_eq_getElem (by simpa using this),Array.getElem_range]
    rw[h7,Option.map_some,hmod,getElem!_pos z.cells j (by omega)] at h3
    cases h3
    exact z3 σ β j c _ h2 (Array.getElem?_eq_getElem (by omega))
   ·cases h1) hfill
  refine s_newBlock (ty:=e) (fr:=(0,0)) (w':=w.alloc (.cells arr' e)) (n:=len) (c:=len) ?_ (by rw[g2];simp) (Nat.le_refl _) (by rw[g3,g2];simp) rfl rfl rfl rfl (by simp) g4 (fun i e j c v h1 h2 h3=>g5 i e j c v h1 h2 (by simpa using h3)) hs hk
  have e5:(Array.map (fun x=>match x with|(i,x)=>(i,a.eval x)) parts).toList=parts.toList.map fun p=>(p.1,a.eval p.2):=by simp
  have h24:¬ (16777216<len * sz):=by omega
  simp only[execOp,ho,Instr.buildSlice,Sem.run_bind,run_underlying' hu,Result.andThen_ok,run_sizeOf hsz,e5]
  simp[h0,z1,g1,newRow,newObj,Sem.run,h24]
end
def vMinMax (mx:Bool) (x y:PV) (σ:VHeap) (K:KP):Prop:=
 match x,y with
 | .int k a,.int k' b=>k=k'∧K (.int k (if mx then(if a<b then b else a) else(if b<a then b else a))) σ
 | _,_=>False
def vFunc (f:FuncId) (caps:List PV) (σ:VHeap) (K:KP):Prop:=K (.fn f caps) σ
def callOk (P:Program) (f:FuncId):Bool:=
 match P.funcs[f]? with
 | some fn=>fn.name != "runtime.NumGoroutine"&&fn.body.isSome
 | none=>false
def inlArgs (σ:VHeap) (args:List PV):List PV:=args.map (inl σ)
def frzArgs (σ:VHeap) (args:List PV):VHeap:=frzIds σ (refsL args)
def vCall [Glob] (P:Program) (raw:Bool) (f:FuncId) (args:List PV) (σ:VHeap) (K:KP):Prop:=
 if raw then T P f args σ K else T P f (inlArgs σ args) (frzArgs σ args) K
def vCallV [Glob] (P:Program) (raw:Bool) (x:PV) (args:List PV) (σ:VHeap) (K:KP):Prop:=
 match x with
 | .fn f cap=>callOk P f=true∧if raw then T P f (args++cap) σ K else T P f (inlArgs σ args++cap) (frzArgs σ args) K
 | _=>False
section
variable {P:Program} {o:Oper} {a:Act} {σ:VHeap} {β:Beta} {w:World} {env:Env} {K:KP}
theorem frzArgs_rep (hs:Sim σ β w) {args:List PV} {vs:Array Value} (hr:CellsRep w σ β args vs):CellsRep w (frzArgs σ args) β (inlArgs σ args) vs∧Sim (frzArgs σ args) β w∧Step σ β w (frzArgs σ args) β w:=by
 have hf:=frzIds_FE (refsL args) σ
 refine⟨⟨by simp[inlArgs,hr.1],fun i c v h1 h2=>?_⟩,hf.sim hs,hf.step β w⟩
 simp only[inlArgs,List.getElem?_map] at h1
 cases h3:args[i]? with
 | none=>rw[h3] at h1;cases h1
 | some c0=>
   rw[h3] at h1;cases h1
   exact inl_rep hs hf (hr.2 i c0 v h3 h2) fun id hid=>frzIds_Fz _ _ id (by rw[refsL_eq];exact List.mem_flatMap.2 ⟨c0,List.mem_of_getElem? h3,hid⟩)
def cAs [Glob] (l:List Operand):Option (List VA):=l.mapM cA
theorem args_rep [Glob] (hf:FrameRep w σ β env a) {l:Array Operand} {l':List VA} (h:cAs l.toList=some l'):CellsRep w σ β (l'.map (va env)) (l.map a.eval):=by
 obtain⟨h1,h2⟩:=mapM_some h
 refine⟨by simp[h1],fun i c v h3 h4=>?_⟩
 rw[List.getElem?_map] at h3
 cases h5:l'[i]? with
 | none=>rw[h5] at h3;cases h3
 | some y=>
   rw[h5] at h3;cases h3
   rw[Array.getElem?_map] at h4
   cases h6:l[i]? with
   | none=>rw[h6] at h4;cases h4
   | some x=>rw[h6] at h4;cases h4;exact hf.eval (h2 i x y (by simpa using h6) h5)
theorem run_callFunc {f:FuncId} (h:callOk P f=true) (vs:Array Value) (w:World):(callFunc f vs).run P w=.ok (.enter f vs) w:=by
 unfold callOk at h
 split at h
 ·rename_i fn hfn
  simp at h
  obtain⟨h1,h2⟩:=h
  simp[callFunc,program,Sem.run,hfn,h1]
  intro hn;rw[hn] at h2;cases h2
 ·cases h
theorem CellsRep.append {xs ys:List PV} {us vs:Array Value} (h:CellsRep w σ β xs us) (k:CellsRep w σ β ys vs):CellsRep w σ β (xs++ys) (us++vs):=by
 refine⟨by simp[h.1,k.1],fun i c v h1 h2=>?_⟩
 by_cases hi:i<xs.length
 ·rw[List.getElem?_append_left hi] at h1
  rw[Array.getElem?_append_left (by rw[← h.1];exact hi)] at h2
  exact h.2 i c v h1 h2
 ·rw[List.getElem?_append_right (by omega)] at h1
  rw[Array.getElem?_append_right (by rw[← h.1];omega),← h.1] at h2
  exact k.2 _ c v h1 h2
theorem CellsRep.step {xs:List PV} {us:Array Value} {σ' β' w'} (h:CellsRep w σ β xs us) (hs:Step σ β w σ' β' w'):CellsRep w' σ' β' xs us:=⟨h.1,fun i c v h1 h2=>(h.2 i c v h1 h2).step hs⟩
theorem s_call [Glob] {f:FuncId} {args:Array Operand} {args':List VA} {ts:Array TypeId} {raw:Bool} (ho:o.op=.call { callee:=.value (.func f),args,argTypes:=ts }) (hok:callOk P f=true) (ha:cAs args.toList=some args')
  (hf:FrameRep w σ β env a) (hs:Sim σ β w) (hk:vCall P raw f (args'.map (va env)) σ K):OpS P o a σ β w K:=by
 have hr:=args_rep hf ha
 have hrun:(execOp a.eval o).run P w=.ok (.enter f (args.map a.eval)) w:=by
  simp[execOp,ho,resolve,Act.eval,Deferred.ofValue,invoke,run_callFunc hok]
 unfold vCall at hk
 split at hk
 ·exact OpS.enter hrun hk hr.1.symm hr.2 hs hf.glo
 ·obtain⟨e1,e2,e3⟩:=frzArgs_rep hs hr
  exact OpS.pre e3 (OpS.enter hrun hk e1.1.symm e1.2 e2 (hf.glo.step e3))
theorem s_callV [Glob] {x:Operand} {x':VA} {args:Array Operand} {args':List VA} {ts:Array TypeId} {raw:Bool} (ho:o.op=.call { callee:=.value x,args,argTypes:=ts }) (hx:cA x=some x') (ha:cAs args.toList=some args')
  (hf:FrameRep w σ β env a) (hs:Sim σ β w) (hk:vCallV P raw (va env x') (args'.map (va env)) σ K):OpS P o a σ β w K:=by
 have h1:=hf.eval hx
 have hr:=args_rep hf ha
 generalize hc0:va env x'=c0 at *
 generalize he:a.eval x=ex at *
 unfold vCallV at hk
 split at hk
 ·rename_i f cap
  obtain⟨hok,hk⟩:=hk
  cases h1 with
  | fn _ _ vs hl hv=>
    have hrun:(execOp a.eval o).run P w=.ok (.enter f (args.map a.eval++vs)) w:=by
     simp[execOp,ho,resolve,he,Deferred.ofValue,invoke,run_callFunc hok]
    have hcap:CellsRep w σ β cap vs:=⟨hl,hv⟩
    split at hk
    ·have h2:=hr.append hcap
     exact OpS.enter hrun hk h2.1.symm h2.2 hs hf.glo
    ·obtain⟨e1,e2,e3⟩:=frzArgs_rep hs hr
     have h2:=e1.append (hcap.step e3)
     exact OpS.pre e3 (OpS.enter hrun hk h2.1.symm h2.2 e2 (hf.glo.step e3))
 ·exact hk.elim
theorem s_func [Glob] {f:FuncId} {caps:Array Operand} {caps':List VA} (ho:o.op=.makeFunc (.func f) #[] caps) (ha:cAs caps.toList=some caps') (hf:FrameRep w σ β env a) (hs:Sim σ β w)
  (hk:vFunc f (caps'.map (va env)) σ K):OpS P o a σ β w K:=by
 have hr:=args_rep hf ha
 exact OpS.value (v:=.func (.func f) #[] (caps.map a.eval)) (w':=w) (by simp[execOp,ho,Instr.makeFunc]) hk (.fn _ _ _ hr.1 hr.2) hs (Step.refl _ _ _)
theorem s_min [Glob] {x y:Operand} {x' y':VA} {ts:Array TypeId} {mx:Bool} (ho:o.op=.call { callee:=.builtin (if mx then .max else .min),args:=#[x,y],argTypes:=ts }) (hx:cA x=some x') (hy:cA y=some y')
  (hf:FrameRep w σ β env a) (hs:Sim σ β w) (hk:vMinMax mx (va env x') (va env y') σ K):OpS P o a σ β w K:=by
 have h1:=hf.eval hx
 have h2:=hf.eval hy
 generalize hc0:va env x'=c0 at *
 generalize hc1:va env y'=c1 at *
 generalize he:a.eval x=ex at *
 generalize hey:a.eval y=ey at *
 unfold vMinMax at hk
 split at hk
 ·rename_i k p k' q
  obtain⟨rfl,hk⟩:=hk
  cases h1;cases h2
  refine OpS.value (v:=.int k _) (w':=w) (run_call_builtin ho ?_) hk (.int _ _) hs (Step.refl _ _ _)
  cases mx<;>simp[builtin,Builtin.min_,Builtin.max_,Builtin.min2,Builtin.max2,he,hey]
 ·exact hk.elim
theorem s_b2s [Glob] {t u e:TypeId} {x:Operand} {x':VA} (ho:o.op=.convert t u x) (hs':P.underlying t=some (.slice e)) (he:P.underlying e=some (.int .u8)) (hd:P.underlying u=some .string) (hx:cA x=some x')
  (hf:FrameRep w σ β env a) (hs:Sim σ β w) (hk:vB2S (va env x') σ K):OpS P o a σ β w K:=by
 have h1:=hf.eval hx
 unfold vB2S at hk
 split at hk
 ·rename_i es hes
  split at hk
  ·rename_i bs hbs
   obtain⟨ad,c,sz,f,hv,hc,hel,had,hre⟩:=rd_rep hs h1 hes
   obtain⟨m1,m2⟩:=mapM_some hbs
   have key:∀ i,i<es.length→sz=1∧∃ n,f i=.int .u8 n∧bs[i]?=some (UInt8.ofNat n.toNat):=by
    intro i hi
    have hb:i<bs.length:=by omega
    have hm:=m2 i _ _ (List.getElem?_eq_getElem hi) (List.getElem?_eq_getElem hb)
    unfold byteOf at hm
    split at hm
    ·rename_i n heq
     have hbb:=Option.some.inj hm
     have hz:=hel _ (List.getElem_mem hi)
     rw[heq] at hz
     have hz1:sz=1:=by simpa using hz.symm
     subst hz1
     have:=hre i es[i] 0 (.int .u8 n) (List.getElem?_eq_getElem hi) (by rw[heq];rfl)
     simp only[Nat.mul_one,Nat.add_zero] at this
     generalize f i=fi at *
     cases this
     exact⟨rfl,n,rfl,by rw[List.getElem?_eq_getElem hb,hbb]⟩
    ·cases hm
   have fin:∀ {s:ByteArray},s.data.toList=bs→(convert t u (a.eval x)).run P w=.ok (.string s) w→OpS P o a σ β w K:=by
    intro s e1 e2
    refine OpS.value (v:=.string s) (w':=w) (by simp[execOp,ho,e2]) hk ?_ hs (Step.refl _ _ _)
    rw[← e1];exact .str s
   by_cases h0:es.length=0
   ·have hb0:bs=[]:=List.length_eq_zero_iff.1 (by omega)
    refine fin (s:=.empty) (by rw[hb0];rfl) ?_
    rw[hv,run_convert_bytes_string w t u e ad _ _ hs' he hd,h0]
    cases ad with
    | none=>simp[Conv.bytesToString]
    | some ad=>simp[Conv.bytesToString,loadCells,loadCellsFrom]
   ·obtain⟨a0,rfl,hcell⟩:=had (by omega)
    obtain⟨hz1,_⟩:=key 0 (by omega)
    subst hz1
    let ns:List Int:=(List.range es.length).map fun i=>match f i with | .int _ n=>n|_=>0
    have hload:(loadCells a0 es.length).run P w=.ok (ns.map (Value.int .u8)).toArray w:=by
     rw[run_loadCells w a0 es.length f (fun j hj=>hcell j (by omega))]
     congr 2
     simp only[ns,List.map_map]
     apply List.map_congr_left
     intro i hi
     obtain⟨_,n,e1,_⟩:=key i (by simpa using hi)
     simp[e1]
    have hfold:∀ (l:List Int) (s:ByteArray),(l.foldl (fun r n=>r.push (UInt8.ofNat n.toNat)) s).data.toList=s.data.toList++l.map fun n=>UInt8.ofNat n.toNat:=by
     intro l
     induction l with
     | nil=>intro s;simp
     | cons n l ih=>intro s;rw[List.foldl_cons,ih];simp[ByteArray.push]
    refine fin (s:=ns.foldl (fun r n=>r.push (UInt8.ofNat n.toNat)) ByteArray.empty) ?_ ?_
    ·rw[hfold]
     apply List.ext_getElem?
     intro i
     simp only[ns]
     by_cases hi:i<es.length
     ·obtain⟨_,n,e1,e2⟩:=key i hi
      rw[e2]
      simp[hi,e1]
     ·rw[List.getElem?_eq_none (by simp;omega),List.getElem?_eq_none (by omega)]
    ·rw[hv,run_convert_bytes_string w t u e _ _ _ hs' he hd,run_bytesToString w a0 es.length c ns hload]
  ·exact hk.elim
 ·exact hk.elim
def s2bArr (s:ByteArray) (cap:Nat):Array Value:=s.data.map (fun b:UInt8=>Value.int .u8 b.toNat)++Array.replicate (cap - s.size) (Value.int .u8 0)
theorem s_s2b [Glob] {t u e:TypeId} {x:Operand} {x':VA} {id:Nat} (ho:o.op=.convert t u x) (hst:P.underlying t=some .string) (hd:P.underlying u=some (.slice e)) (he:P.underlying e=some (.int .u8)) (hx:cA x=some x')
  (hf:FrameRep w σ β env a) (hs:Sim σ β w) (hk:vS2B id (va env x') σ K):OpS P o a σ β w K:=by
 have h1:=hf.eval hx
 generalize hc0:va env x'=c0 at *
 generalize hex:a.eval x=ex at *
 unfold vS2B at hk
 split at hk
 ·obtain⟨hle,hk⟩:=hk
  cases h1 with
  | str s=>
    have e0:s.data.toList.length=s.size:=by simp
    have hcap:s.size≤grownCap w s.size 0 e:=by unfold grownCap Question.cut;simp
    have hsize:(s2bArr s (grownCap w s.size 0 e)).size=grownCap w s.size 0 e:=by
     have:s.data.size=s.size:=rfl
     simp[s2bArr];omega
    refine s_newBlock (ty:=e) (fr:=((s2bArr s (grownCap w s.size 0 e)).size,(s2bArr s (grownCap w s.size 0 e)).size+1))
     (arr:=s2bArr s (grownCap w s.size 0 e)) (n:=s.size) (c:=grownCap w s.size 0 e)
     (w':=(w.drew.alloc (.cells (s2bArr s (grownCap w s.size 0 e)) e)).freeze ⟨w.heap.size,(s2bArr s (grownCap w s.size 0 e)).size,none⟩ 1)
     ?_ (by simp[bytesEs]) hcap (by rw[hsize];omega) rfl rfl rfl ?_ (fun i hi=>by omega) ?_ ?_ hs hk
    ·simp[execOp,ho,hex,convert,run_underlying' hst,run_underlying' hd,run_underlying' he,Conv.stringToBytes,Question.forced,newRow,markStringish,World.shape?,grownCap]
     have hh:=heap_alloc_new w.drew (.cells (s2bArr s (grownCap w s.size 0 e)) e)
     have hz:w.drew.heap.size=w.heap.size:=rfl
     rw[hz] at hh
     unfold s2bArr at hh ⊢
     unfold grownCap at hh
     obtain⟨_,hh⟩:=Array.getElem?_eq_some_iff.1 hh
     rw[hh]
     simp[freeze,Sem.run]
    ·have hz:(w.drew.alloc (Obj.cells (s2bArr s (grownCap w s.size 0 e)) e)).heap=w.heap.push (Obj.cells (s2bArr s (grownCap w s.size 0 e)) e):=rfl
     unfold World.freeze
     rw[if_neg (by omega)]
     simp only[hz]
     apply Array.ext_getElem?
     intro j
     rw[Array.getElem?_modify,Array.getElem?_push,Array.getElem?_push]
     by_cases hj:j=w.heap.size
     ·subst hj;simp
     ·rw[if_neg hj,if_neg hj,if_neg (fun h=>hj h.symm)]
    ·intro e he;obtain⟨b,_,rfl⟩:=List.mem_map.1 he;rfl
    ·intro i e j c v h1 h2 h3
     simp only[bytesEs,List.getElem?_map] at h1
     cases h4:s.data.toList[i]? with
     | none=>rw[h4] at h1;cases h1
     | some b=>
       rw[h4] at h1;cases h1
       have hj0:j=0:=by
        have:=(List.getElem?_eq_some_iff.1 h2).1
        simp at this;omega
       subst hj0
       cases h2
       have hi:i<s.data.size:=by have:=(List.getElem?_eq_some_iff.1 h4).1;simpa using this
       rw[Nat.mul_one,Nat.add_zero,s2bArr,Array.getElem?_append_left (by simpa using hi),Array.getElem?_map] at h3
       rw[Array.getElem?_toList] at h4
       rw[h4] at h3;cases h3;exact .int _ _
 ·exact hk.elim
end
abbrev Ents:=List (PV × PV × Nat)
section
variable {P:Program} {o:Oper} {a:Act} {σ:VHeap} {β:Beta} {w:World} {env:Env} {K:KP}
theorem str_inv {l:List UInt8} {v:Value} (h:Rep w σ β (.str l) v):∃ s:ByteArray,v=.string s∧s.data.toList=l:=by
 generalize hc:PV.str l=c at h
 cases h<;>cases hc
 exact⟨_,rfl,rfl⟩
end
def nexts (es:Ents) (since:Nat) (seen:List Nat):List (Option (PV × PV × Nat)):=
 let left:=es.filter fun e=>!seen.contains e.2.2
 (if left.all (fun e=>decide (since≤e.2.2)) then[none] else[])++left.map some
def vNextMap (x:PV) (σ:VHeap) (K:KP):Prop:=
 match x with
 | .iter id g=>match vGet σ id g with
   | some (.miter m mg since last seen)=>match vGet σ m mg with
     | some (.map es clock)=>¬ (seen≠[]∧es≠[]∧∀ e,e∈es→last≤e.2.2)∧
       ∀ c,c∈nexts es since seen→match c with
        | some (k,v,b)=>K (.tup [.bool true,k,v]) (σ.set id (g,.miter m mg since clock (seen++[b])))
        | none=>K (.tup [.bool false]) σ
     | _=>False
   | _=>False
 | _=>False
def vRangeStr (id:Nat) (x:PV) (σ:VHeap) (K:KP):Prop:=
 match x with
 | .str s=>vNew id (.siter s 0) σ fun g' σ=>K (.iter id g') σ
 | _=>False
def vNextStr (x:PV) (σ:VHeap) (K:KP):Prop:=
 match x with
 | .iter id g=>match vGet σ id g with
   | some (.siter s pos)=>if pos<s.length then
     K (.tup [.bool true,.int .i64 pos,.int .i32 (Utf8.decode ⟨s.toArray⟩ pos).1]) (σ.set id (g,.siter s (pos+(Utf8.decode ⟨s.toArray⟩ pos).2)))
     else K (.tup [.bool false]) σ
   | _=>False
 | _=>False
section
variable {P:Program} {o:Oper} {a:Act} {σ:VHeap} {β:Beta} {w:World} {env:Env} {K:KP}
theorem s_rangeStr [Glob] {t:TypeId} {x:Operand} {x':VA} {id:Nat} (ho:o.op=.range t x) (hu:P.underlying t=some .string) (hx:cA x=some x') (hf:FrameRep w σ β env a) (hs:Sim σ β w)
  (hk:vRangeStr id (va env x') σ K):OpS P o a σ β w K:=by
 have h1:=hf.eval hx
 unfold vRangeStr at hk
 generalize hc0:va env x'=c0 at *
 split at hk
 ·rename_i l
  obtain⟨s,e1,e2⟩:=str_inv h1
  unfold vNew at hk
  split at hk
  ·rename_i g0 o0 hid
   have h2:=alloc_sim (w':=w.alloc (.stringIter s 0)) (obj:=.stringIter s 0) (o:=.siter l 0) hs hid rfl rfl rfl rfl fun hst=>⟨w.heap.size,rfl,s,e2,heap_alloc_new w _⟩
   refine OpS.value (v:=.pointer (some ⟨w.heap.size,0,none⟩)) (w':=w.alloc (.stringIter s 0)) ?_ hk (.siter id (g0+1) w.heap.size l 0 (set_same hid) (upd_same _ _ _)) h2.2 h2.1
   simp[execOp,ho,e1,Instr.range,run_underlying' hu,newObj,Sem.run]
  ·exact hk.elim
 ·exact hk.elim
theorem tup1 (b:Bool):Rep w σ β (.tup [.bool b]) (.tuple #[.bool b]):=by
 refine .tup _ _ rfl fun i c v h1 h2=>?_
 match i with
 | 0=>cases h1;cases h2;exact .bool _
 | n+1=>simp at h1
theorem tup3 {b:Bool} {c d:PV} {u v:Value} (h1:Rep w σ β c u) (h2:Rep w σ β d v):Rep w σ β (.tup [.bool b,c,d]) (.tuple #[.bool b,u,v]):=by
 refine .tup _ _ rfl fun i c v h1 h2=>?_
 match i with
 | 0=>cases h1;cases h2;exact .bool _
 | 1=>cases h1;cases h2;assumption
 | 2=>cases h1;cases h2;assumption
 | n+3=>simp at h1
theorem setBlock_live {id g b:Nat} {ob ob':VObj} {obj obj':Obj} (hs:Sim σ β w) (hg:vGet σ id g=some ob) (hl:ob.live) (hb:β id=some b) (hobj:w.heap[b]?=some obj) (hnc:∀ arr ty fr,obj≠.cells arr ty fr) (hal:ob.alike ob') (hmay:∀ i,¬ ob'.may i)
  (ho:Step σ β w (σ.set id (g,ob')) β (World.setBlock w b obj')→ORep (World.setBlock w b obj') (σ.set id (g,ob')) β (some b) ob') :
  Step σ β w (σ.set id (g,ob')) β (World.setBlock w b obj')∧Sim (σ.set id (g,ob')) β (World.setBlock w b obj'):=by
 refine put_sim (obj:=obj) (obj':=obj') hs (vGet_some hg) hl hb rfl rfl rfl hobj rfl hal (fun i h=>(hmay i h).elim) (fun i v hc=>?_) (fun arr ty fr e=>(hnc _ _ _ e).elim) ho
 unfold World.cell? at hc
 rw[show w.heap[(⟨b,i,none⟩:Addr).block]?=some obj from hobj] at hc
 cases obj<;>first|(exact(hnc _ _ _ rfl).elim)|(simp at hc)
theorem s_nextStr [Glob] {x:Operand} {x':VA} (ho:o.op=.next x true) (hx:cA x=some x') (hf:FrameRep w σ β env a) (hs:Sim σ β w) (hk:vNextStr (va env x') σ K):OpS P o a σ β w K:=by
 have h1:=hf.eval hx
 unfold vNextStr at hk
 generalize hc0:va env x'=c0 at *
 generalize he:a.eval x=ex at *
 split at hk
 ·rename_i id g
  split at hk
  ·rename_i l pos hg
   have hg':=vGet_some hg
   cases h1 with
   | staleit _ _ g' o' p h5 h6=>rw[hg'] at h5;cases h5;omega
   | miter _ _ b m mg since stepped seen h5 hb=>rw[hg'] at h5;cases h5
   | siter _ _ b s0 pos0 h5 hb=>
     rw[hg'] at h5;cases h5
     obtain⟨b',e,bs,e2,hh⟩:=hs.obj id g _ hg'
     rw[hb] at e;cases e
     have hlt:=(Array.getElem?_eq_some_iff.1 hh).1
     have hbs:(⟨l.toArray⟩:ByteArray)=bs:=by rw[← e2]
     have hlen:l.length=bs.size:=by rw[← e2];simp
     rw[hbs,hlen] at hk
     have hget:(getObj b).run P w=.ok (.stringIter bs pos) w:=by simp[getObj,Sem.run,hh]
     have hset:∀ o',(setObj b o').run P w=.ok () (World.setBlock w b o'):=fun o'=>by simp[setObj,Sem.run,hh,World.setBlock]
     split at hk
     ·rename_i hp
      have h3:=setBlock_live (ob':=.siter l (pos+(Utf8.decode bs pos).2)) (obj':=.stringIter bs (pos+(Utf8.decode bs pos).2)) hs hg trivial hb hh (by simp) rfl (by simp[VObj.may]) (fun _=>⟨b,rfl,bs,e2,by simp[World.setBlock,hlt]⟩)
      refine OpS.value (v:=.tuple #[.bool true,.int .i64 pos,.int .i32 (Utf8.decode bs pos).1]) ?_ hk (tup3 (.int _ _) (.int _ _)) h3.2 h3.1
      simp[execOp,ho,he,Instr.next,hget,hp,hset,goInt]
     ·rename_i hp
      refine OpS.value (v:=.tuple #[.bool false]) (w':=w) ?_ hk (tup1 _) hs (Step.refl _ _ _)
      simp[execOp,ho,he,Instr.next,hget,hp]
  ·exact hk.elim
 ·exact hk.elim
end
end Go.V
