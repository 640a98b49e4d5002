/- Contracts of the shelf as triples. -/
import Derived.Test.YtdpeaefgbmkegaaGreatDoorEB
import Derived.Below
import Derived.Sort.Grow
import Derived.Lib.LaidTab
import Derived.Lib.ItoaNum
import Derived.Deep.Draws
import Derived.Test.YtdpeaefgbmkegaaGreatDoorEC
import Derived.Laws.Externs
import Derived.Lib.Bytealg
import Derived.ChangeArms
import Derived.LaidMore
import Derived.DataReads
import Derived.OpenShut
namespace Go.V
open Go
open Go.RowKit (Below)
open Go.Sort (grow)
theorem below_sim {σ β w w'} (h:Sim σ β w) (hb:Below w.heap.size w w'):Step σ β w σ β w'∧Sim σ β w':=by
 have old:∀ b:Nat,b<w.heap.size→w'.heap[b]?=w.heap[b]?:=hb.block
 have hs:Step σ β w σ β w':=
  ⟨hb.os,hb.tape,hb.output,hb.size,fun b hb _=>old b hb,fun a v hc _=>by rw[cell_of_heap (old _ (cell_lt hc))];exact hc,fun _ _ h=>h,fun _ _ _ h=>h,
   fun b arr ty fr hb=>⟨arr,(old b (Array.getElem?_eq_some_iff.1 hb).1).trans hb,rfl⟩,fun i gi oi h1=>⟨gi,oi,h1,Nat.le_refl _,fun _=>⟨oi.alike_refl,rfl⟩⟩⟩
 refine⟨hs,fun i gi oi h1=>?_,h.inj⟩
 by_cases hl:oi.live
 ·exact(h.obj i gi oi h1).step hs fun b hb=>old b (h.lt h1 hl hb)
 ·cases oi<;>simp[VObj.live] at hl;trivial
theorem below_grow (w:World) (k:Nat) (os:Array Obj):Below w.heap.size w (grow (w.drewN k) os):=
 ⟨rfl,rfl,rfl,by simp[grow,World.drewN],fun b hb=>by simp[grow,World.drewN,Array.getElem?_append_left hb]⟩
theorem U_text [Glob] {P:Program} {f:FuncId} {args:List PV} {r:List UInt8}
  (h:∀ (w:World) (σ:VHeap) (β:Beta) (vs:Array Value),vs.size=args.length→(∀ (i:Nat) (c:PV) (v:Value),args[i]?=some c→vs[i]?=some v→Rep w σ β c v)→Sim σ β w→GloRep w σ β→
   Calls P f vs w fun e w'=>e=.returned (.string ⟨r.toArray⟩)∧Below w.heap.size w w'):U P f args (.str r):=by
 intro σ Post hk w β vs h1 h2 h3 h4
 refine(h w σ β vs h1 h2 h3 h4).mono ?_
 rintro e w' ⟨rfl,hb⟩
 obtain⟨s1,s2⟩:=below_sim h3 hb
 exact⟨_,_,σ,β,rfl,hk,Rep.str (⟨r.toArray⟩:ByteArray),s2,s1⟩
theorem rep_str {w σ β} {l:List UInt8} {v:Value} (h:Rep w σ β (.str l) v):∃ s:ByteArray,v=.string s∧s.data.toList=l:=by
 cases h;exact⟨_,rfl,rfl⟩
theorem rep_int {w σ β} {k:IntKind} {n:Int} {v:Value} (h:Rep w σ β (.int k n) v):v=.int k n:=by
 cases h;rfl
theorem GloRep.tab [Glob] {P:Program} {w σ β} {name:String} {g:Nat} {k:IntKind} {zs:List Int} {cells:List PV} (h:GloRep w σ β) (hg:P.globalNamed name=some g) (ht:Glob.tab g=some cells) (hz:cells=zs.map fun z=>.int k z):Lib.TabIs P w name k zs:=by
 subst hz
 obtain⟨f,h1,h2,arr,ty,fr,h3,h4⟩:=h g _ ht
 unfold Lib.TabIs World.var?
 rw[hg,Option.bind_some]
 simp only[h3]
 congr 1
 apply Array.ext
 ·rw[h4];simp
 ·intro i hi1 hi2
  have hi:i<zs.length:=by simpa using hi2
  have h5:=(h1 i (by simpa using hi)).1
  have h6:=rep_int (h2 i (.int k zs[i]) (by simp[hi]))
  have h7:w.cell? ((⟨g,0,none⟩:Addr).add i)=arr[i]?:=by
   unfold World.cell? Addr.add
   by_cases e:i=0
   ·subst e;simp only[if_true,h3];simp
   ·rw[if_neg e];simp only[h3];simp
  rw[h7,h6,Array.getElem?_eq_getElem hi1] at h5
  have h8:=Option.some.inj h5
  rw[h8];simp
@[reducible] def strRow (ss:List (List UInt8)):List (List PV):=ss.map fun s=>[.str s]
theorem U_join [Glob] {P:Program} {f:FuncId} {jn:List (List UInt8)→List UInt8→List UInt8}
  (h0:∀ (a:Option Addr) (c:Nat) (sep:ByteArray) (w:World),Calls P f #[.slice a 0 c,.string sep] w fun e w'=>e=.returned (.string ⟨#[]⟩)∧w'=w)
  (h1:∀ (bk o c:Nat) (xs:List ByteArray) (sep:ByteArray) (w:World),(∀ (j:Nat) x,xs[j]?=some x→w.cell? ⟨bk,o+j,none⟩=some (.string x))→bk<w.heap.size→xs.length≤140737488355328→xs.length≤c→
   (jn (xs.map (·.data.toList)) sep.data.toList).length≤140737488355328→
   Calls P f #[.slice (some ⟨bk,o,none⟩) xs.length c,.string sep] w fun e w'=>e=.returned (.string ⟨(jn (xs.map (·.data.toList)) sep.data.toList).toArray⟩)∧Below w.heap.size w w')
  (hj:∀ s,jn [] s=[]) {ss:List (List UInt8)} {sep:List UInt8} (hN:ss.length≤140737488355328) (hl:(jn ss sep).length≤140737488355328):U P f [.sl (strRow ss),.str sep] (.str (jn ss sep)):=by
 refine U_text fun w σ β vs hs hr hS hG=>?_
 match vs,hs with
 | ⟨[v,u]⟩,_=>
 obtain⟨sp,rfl,rfl⟩:=rep_str (hr 1 (.str sep) u rfl rfl)
 have hv:=hr 0 (.sl (strRow ss)) v rfl rfl
 cases hv with
 | sl _ sz n cap a fv hn hc hsz ha h=>
   by_cases e0:ss=[]
   ·subst e0
    have:n=0:=by rw[← hn];rfl
    subst this
    rw[hj]
    refine(h0 a cap sp w).mono ?_
    rintro e w' ⟨rfl,rfl⟩
    exact⟨rfl,Below.refl _ _⟩
   ·have hn2:ss.length=n:=by rw[← hn];simp
    have hpos:0<ss.length:=by cases ss with
     | nil=>exact(e0 rfl).elim
     | cons _ _=>simp
    have hz:sz=1:=by
     cases ss with
     | nil=>exact(e0 rfl).elim
     | cons s r=>exact(hsz [.str s] (by simp)).symm
    subst hz
    obtain⟨a0,rfl,hst⟩:=ha (by omega)
    have hc0:=(hst 0 (by omega)).1
    have hsp:a0.spot=none:=by
     unfold World.cell? Addr.add at hc0
     rw[if_pos rfl] at hc0
     split at hc0
     ·split at hc0
      ·cases hc0
      ·rename_i h9;simpa using h9
     ·cases hc0
    have hblk:a0.block<w.heap.size:=by
     have:=cell_lt hc0
     simpa [Addr.add] using this
    obtain⟨bk,o,sp0⟩:=a0
    simp only at hsp hblk
    subst hsp
    have hx:∀ j,(hj:j<ss.length)→fv j=.string ⟨ss[j].toArray⟩:=fun j hj=>by
     obtain⟨s,e1,e2⟩:=rep_str (h j [.str ss[j]] 0 (.str ss[j]) (by simp[hj]) rfl)
     rw[Nat.mul_one,Nat.add_zero] at e1
     rw[e1,← e2]
    have hm:(ss.map fun s=>(⟨s.toArray⟩:ByteArray)).map (·.data.toList)=ss:=by
     rw[List.map_map]
     conv=>rhs;rw[← List.map_id ss]
     exact List.map_congr_left fun s _=>rfl
    have hlen:(ss.map fun s=>(⟨s.toArray⟩:ByteArray)).length=n:=by rw[List.length_map,hn2]
    have:=h1 bk o cap (ss.map fun s=>(⟨s.toArray⟩:ByteArray)) sp w (fun j x hj2=>by
     rw[List.getElem?_map] at hj2
     cases h8:ss[j]? with
     | none=>rw[h8] at hj2;cases hj2
     | some s=>
       rw[h8] at hj2
       simp only[Option.map_some,Option.some.injEq] at hj2
       subst hj2
       obtain⟨h9,h10⟩:=List.getElem?_eq_some_iff.1 h8
       have h11:=(hst j (by omega)).1
       rw[hx j h9,h10] at h11
       rw[← h11]
       congr 1
       unfold Addr.add
       by_cases e:j=0
       ·subst e;simp
       ·rw[if_neg e]) hblk (by omega) (by omega) (by rw[hm];exact hl)
    rw[hm,hlen] at this
    exact this
theorem run_loadBytes {P:Program} {w:World} {l:List UInt8}:∀ {a:Addr} {acc:ByteArray},(∀ (j:Nat) (x:UInt8),l[j]?=some x→w.cell? (a.add j)=some (.int .u8 x.toNat))→
  (Extern.Bytes.loadBytes a l.length acc).run P w=.ok ⟨acc.data++l.toArray⟩ w:=by
 induction l with
 | nil=>intro a acc _;simp[Extern.Bytes.loadBytes]
 | cons x r ih=>
   intro a acc h
   have h0:=h 0 x rfl
   rw[Addr.add,if_pos rfl] at h0
   have h1:(load a).run P w=.ok (.int .u8 x.toNat) w:=by simp[h0]
   rw[List.length_cons,Extern.Bytes.loadBytes]
   simp only[Sem.run_bind,h1,Result.andThen]
   have h2:(acc.push (x.toNat:Int).toNat.toUInt8)=acc.push x:=by simp
   rw[h2,ih (a:=a.add 1) (acc:=acc.push x) fun j y hj=>by
    have:=h (j+1) y hj
    rw[← this];congr 1
    unfold Addr.add
    by_cases e:j=0
    ·subst e;simp
    ·simp[e];omega]
   simp[ByteArray.push]
theorem run_bytesOf [Glob] {P:Program} {w:World} {σ β} {l:List UInt8} {v:Value} (h:Rep w σ β (.sl (bsl l)) v):(Extern.Bytes.bytesOf v).run P w=.ok ⟨l.toArray⟩ w:=by
 cases h with
 | sl _ sz n cap a f hn hc hsz ha h=>
   have hn2:l.length=n:=by rw[← hn];simp
   cases l with
   | nil=>
     have:n=0:=by simpa using hn2.symm
     subst this
     cases a with
     | none=>rfl
     | some a=>rfl
   | cons x r=>
     have hz:sz=1:=(hsz [byt x] (by simp)).symm
     subst hz
     obtain⟨a0,rfl,hst⟩:=ha (by rw[← hn2];simp)
     have:=run_loadBytes (P:=P) (w:=w) (l:=x::r) (a:=a0) (acc:=.empty) fun j y hj=>by
      have hj2:=(List.getElem?_eq_some_iff.1 hj).1
      have e1:=rep_int (h j [byt y] 0 (byt y) (by rw[List.getElem?_map,hj];rfl) rfl)
      rw[Nat.mul_one,Nat.add_zero] at e1
      rw[(hst j (by omega)).1,e1]
     rw[hn2] at this
     simp only[Extern.Bytes.bytesOf]
     rw[this,show ByteArray.empty.data=#[] from rfl,Array.empty_append]
theorem X_cmp [Glob] {P:Program} {f:FuncId} {fn:Func} (hf:P.funcs[f]?=some fn) (hname:(fn.name=="runtime.NumGoroutine")=false)
  (hb:fn.body.isNone=true) (hn:Extern.findNext fn=none) (he:Extern.find fn=some Extern.BytealgCompare.compare) {a b:List UInt8} {σ:VHeap} {Post:KP} (k:Post (.int .i64 (Lib.compareBytes a b)) σ):X P f [.sl (bsl a),.sl (bsl b)] σ Post:=by
 intro w β vs h1 h2 h3 h4
 match vs,h1 with
 | ⟨[u,v]⟩,_=>
 have e1:=run_bytesOf (P:=P) (h2 0 (.sl (bsl a)) u rfl rfl)
 have e2:=run_bytesOf (P:=P) (h2 1 (.sl (bsl b)) v rfl rfl)
 refine⟨.int .i64 (Lib.compareBytes a b),w,_,σ,β,?_,k,.int _ _,h3,Step.refl _ _ _⟩
 rw[run_callFunc_extern hf hname hb hn he]
 have e3:(Extern.BytealgCompare.compare ⟨[u,v]⟩).run P w=.ok (.int .i64 (Lib.compareBytes a b)) w:=by
  show ((Extern.Bytes.bytesOf u >>= fun x=>Extern.Bytes.bytesOf v >>= fun y=>pure (goInt (Extern.BytealgCompare.cmp x y))):Sem Value).run P w=_
  simp only[Sem.run_bind,e1,e2,Result.andThen,Sem.run_pure]
  rw[Lib.cmp_eq];rfl
 rw[e3];rfl
end Go.V
namespace Go.V
open Go Go.RowKit
theorem Sim.nil (β:Beta) (w:World):Sim [] β w:=⟨fun _ _ _ h=>by simp at h,fun _ _ _ _ _ _ _ h=>by simp at h⟩
theorem below_of_T [Glob] {P:Program} {f:FuncId} {vs:Array Value} {w:World} {args:List PV} (h:T P f args [] (fun r _=>r=.bool true)) (hl:vs.size=args.length)
  (hr:∀ (i:Nat) (c:PV) (v:Value),args[i]?=some c→vs[i]?=some v→Rep w [] (fun _=>none) c v) (hg:GloRep w [] fun _=>none):Calls P f vs w fun e w'=>e=.returned (.bool true)∧Below w.heap.size w w':=by
 refine(h w (fun _=>none) vs hl hr (Sim.nil _ w) hg).mono ?_
 rintro e w' ⟨v,r,σ',β',rfl,rfl,e3,e4,e5⟩
 cases e3
 exact⟨rfl,e5.os,e5.tape,e5.output,e5.size,fun k hk=>e5.own k hk (by rintro ⟨i,g,o,h1,_⟩;simp at h1)⟩
theorem gloOf {P:Program} {w:World} {β:Beta} {name:String} {g:Nat} {k:IntKind} {zs:List Int} (hg:P.globalNamed name=some g) (h:Lib.TabIs P w name k zs) {cells:List PV} (hc:cells=zs.map fun z=>.int k z) :
  ∃ f,Still w [] β ⟨g,0,none⟩ cells.length f∧(∀ (j:Nat) (c:PV),cells[j]?=some c→Rep w [] β c (f j))∧∃ arr ty fr,w.heap[g]?=some (.cells arr ty fr)∧arr.size=cells.length:=by
 subst hc
 unfold Lib.TabIs World.var? at h
 rw[hg,Option.bind_some] at h
 split at h
 ·rename_i arr ty fr hh
  cases h
  refine⟨fun j=>.int k (zs.getD j 0),fun j hj=>⟨?_,?_⟩,fun j c hj=>?_,_,ty,fr,hh,by simp⟩
  ·have hj':j<zs.length:=by simpa using hj
   rw[add_mk]
   simp only[World.cell?,hh,Nat.zero_add]
   simp[List.getElem?_eq_getElem hj',List.getD_eq_getElem?_getD]
  ·rintro ⟨i,g,o,h1,_⟩;simp at h1
  ·rw[List.getElem?_map] at hj
   cases hz:zs[j]? with
   | none=>rw[hz] at hj;cases hj
   | some z=>rw[hz] at hj;cases hj;show Rep w [] β (.int k z) (.int k (zs.getD j 0));rw[List.getD_eq_getElem?_getD,hz];exact .int k z
 ·cases h
inductive Sh where
 | bool
 | int (k:IntKind)
 | str
 | sl (l:List Sh)
 deriving Inhabited
inductive Fits:Sh→PV→Prop where
 | bool (b:Bool):Fits .bool (.bool b)
 | int (k:IntKind) (n:Int) (h:(Lit.int k n).wf=true):Fits (.int k) (.int k n)
 | str (s:List UInt8) (h:s.length≤maxLen):Fits .str (.str s)
 | sl (l:List Sh) (es:List (List PV)) (hl:es.length≤maxLen) (h1:∀ e,e∈es→e.length=l.length)
   (h2:∀ (e:List PV) (i:Nat) (sh:Sh) (c:PV),e∈es→l[i]?=some sh→e[i]?=some c→Fits sh c):Fits (.sl l) (.sl es)
def FitsL (l:List Sh) (cs:List PV):Prop:=cs.length=l.length∧∀ (i:Nat) (sh:Sh) (c:PV),l[i]?=some sh→cs[i]?=some c→Fits sh c
inductive Sz:PV→Prop where
 | bool (b:Bool):Sz (.bool b)
 | int (k:IntKind) (n:Int):Sz (.int k n)
 | str (s:List UInt8) (h:s.length≤reachBytes):Sz (.str s)
 | sl (es:List (List PV)) (h:es.length≤reachBytes) (h2:∀ (e:List PV) (c:PV),e∈es→c∈e→Sz c):Sz (.sl es)
def SzL (cs:List PV):Prop:=∀ c,c∈cs→Sz c
theorem SzL.app {a b:List PV} (h:SzL a) (k:SzL b):SzL (a++b):=fun c hc=>by
 rcases List.mem_append.1 hc with hc|hc
 ·exact h c hc
 ·exact k c hc
theorem SzL.one {c:PV} (h:Sz c):SzL [c]:=fun x hx=>by rw[List.mem_singleton.1 hx];exact h
theorem SzL.nil:SzL []:=fun x hx=>by cases hx
theorem SzL.left {a b:List PV} (h:SzL (a++b)):SzL a:=fun c hc=>h c (List.mem_append_left _ hc)
theorem SzL.right {a b:List PV} (h:SzL (a++b)):SzL b:=fun c hc=>h c (List.mem_append_right _ hc)
theorem SzL.head {c:PV} {r:List PV} (h:SzL (c::r)):Sz c:=h c List.mem_cons_self
theorem SzL.tail {c:PV} {r:List PV} (h:SzL (c::r)):SzL r:=fun x hx=>h x (List.mem_cons_of_mem _ hx)
def shFields (P:Program) (sh:TypeId→Option (List Sh)):List Field→Nat→Option (List Sh)
 | [],_=>some []
 | f::fs,off=>if f.offset=off then match sh f.type with
   | some s=>if P.cellsOf f.type=s.length then(shFields P sh fs (off+s.length)).map fun r=>s++r else none
   | none=>none
   else none
def shOf (P:Program):Nat→TypeId→Option (List Sh)
 | 0,_=>none
 | n+1,t=>match P.underlying t with
   | some .bool=>some [.bool]
   | some (.int k)=>some [.int k]
   | some .string=>some [.str]
   | some (.slice e)=>match shOf P n e with
     | some s=>if P.cellsOf e=s.length∧1≤P.bytesOf e then some [.sl s] else none
     | none=>none
   | some (.struct fs)=>match shFields P (shOf P n) fs.toList 0 with
     | some s=>if P.cellsOf t=s.length then some s else none
     | none=>none
   | some (.array k e)=>match shOf P n e with
     | some s=>if P.cellsOf e=s.length∧P.cellsOf t=k * s.length then some (List.replicate k s).flatten else none
     | none=>none
   | _=>none
section
variable {H:Type} {enc:TypeId × Value→H} {P:Program} {w:World} {base:Nat} {spare:Nat→Bool} {held:Bool} {β:Beta}
abbrev WOk (l:List Nat):Prop:=l.all (·≤reachBytes)=true
theorem WOk.left {a b:List Nat} (h:WOk (a++b)):WOk a:=by unfold WOk at *;rw[List.all_append,Bool.and_eq_true] at h;exact h.1
theorem WOk.right {a b:List Nat} (h:WOk (a++b)):WOk b:=by unfold WOk at *;rw[List.all_append,Bool.and_eq_true] at h;exact h.2
def Bears (w:World) (β:Beta) (pcs:List PV) (cs:List Value) (off:Nat):Prop:=∀ (i:Nat) (c:PV) (u:Value),pcs[i]?=some c→cs[off+i]?=some u→Rep w [] β c u
theorem read_fields {sh:TypeId→Option (List Sh)} {m:Nat} (ih:∀ t s,sh t=some s→∀ cs x,DataW.trod enc P w base spare held m t cs=some x→∃ pcs,FitsL s pcs∧pcs.length=cs.length∧Bears w β pcs cs 0∧(WOk (x.1.weights P t)→SzL pcs)) (cs:List Value) :
  ∀ (fs:List Field) (xs:List (DataW H × List MemPlace)) (off:Nat) (s:List Sh),shFields P sh fs off=some s→off+s.length≤cs.length→xs.length=fs.length→(∀ (i:Nat) f,fs[i]?=some f→DataW.trod enc P w base spare held m f.type ((cs.drop f.offset).take (P.cellsOf f.type))=xs[i]?)→∃ pcs,FitsL s pcs∧Bears w β pcs cs off∧(WOk (DataW.weightsEach P (fs.map (·.type)) (xs.map (·.1)))→SzL pcs):=by
 intro fs
 induction fs with
 | nil=>intro xs off s h _ _ _;cases h;exact⟨[],⟨rfl,by simp⟩,fun i c u h=>(by simp at h),fun _=>SzL.nil⟩
 | cons f fs ihf=>
   intro xs off s h hle hxl hx
   match xs,hxl with
   | x::xs,hxl=>
   unfold shFields at h
   split at h
   case isFalse=>cases h
   rename_i hoff
   split at h
   case h_2=>cases h
   rename_i s1 hs1
   split at h
   case isFalse=>cases h
   rename_i hc
   simp only[Option.map_eq_some_iff] at h
   obtain⟨r,hr,rfl⟩:=h
   have hx1:=hx 0 f rfl
   rw[List.getElem?_cons_zero] at hx1
   rw[hoff,hc] at hx1
   obtain⟨p1,q1,q2,q3,q4⟩:=ih _ _ hs1 _ _ hx1
   rw[List.length_append] at hle
   obtain⟨p2,t1,t2,t3⟩:=ihf xs _ _ hr (by omega) (by simpa using hxl) fun i g hg=>by have:=hx (i+1) g (by rw[List.getElem?_cons_succ];exact hg);rw[List.getElem?_cons_succ] at this;exact this
   refine⟨p1++p2,⟨by rw[List.length_append,List.length_append,q1.1,t1.1],fun i sh c h1 h2=>?_⟩,fun i c u h1 h2=>?_,fun hw=>?_⟩
   ·by_cases hi:i<s1.length
    ·rw[List.getElem?_append_left hi] at h1
     rw[List.getElem?_append_left (by rw[q1.1];exact hi)] at h2
     exact q1.2 i sh c h1 h2
    ·rw[List.getElem?_append_right (by omega)] at h1
     rw[List.getElem?_append_right (by rw[q1.1];omega),q1.1] at h2
     exact t1.2 _ sh c h1 h2
   ·by_cases hi:i<s1.length
    ·rw[List.getElem?_append_left (by rw[q1.1];exact hi)] at h1
     refine q3 i c u h1 ?_
     rw[Nat.zero_add,List.getElem?_take_of_lt hi,List.getElem?_drop]
     exact h2
    ·rw[List.getElem?_append_right (by rw[q1.1];omega),q1.1] at h1
     refine t2 _ c u h1 ?_
     rw[← h2];congr 1;omega
   ·rw[List.map_cons,List.map_cons,DataW.weightsEach] at hw
    exact(q4 hw.left).app (t3 hw.right)
theorem fits_app {s1 s2:List Sh} {p1 p2:List PV} (q:FitsL s1 p1) (t:FitsL s2 p2):FitsL (s1++s2) (p1++p2):=by
 refine⟨by rw[List.length_append,List.length_append,q.1,t.1],fun i sh c h1 h2=>?_⟩
 by_cases hi:i<s1.length
 ·rw[List.getElem?_append_left hi] at h1
  rw[List.getElem?_append_left (by rw[q.1];exact hi)] at h2
  exact q.2 i sh c h1 h2
 ·rw[List.getElem?_append_right (by omega)] at h1
  rw[List.getElem?_append_right (by rw[q.1];omega),q.1] at h2
  exact t.2 _ sh c h1 h2
theorem read_items {s:List Sh} {e:TypeId} {m:Nat} (ih:∀ cs x,DataW.trod enc P w base spare held m e cs=some x→∃ pcs,FitsL s pcs∧pcs.length=cs.length∧Bears w β pcs cs 0∧(WOk (x.1.weights P e)→SzL pcs)) (cs:List Value) :
  ∀ (xs:List (DataW H × List MemPlace)) (j:Nat),(j+xs.length) * s.length≤cs.length→(∀ i,i<xs.length→DataW.trod enc P w base spare held m e ((cs.drop ((j+i) * s.length)).take s.length)=xs[i]?)→∃ pcs,FitsL (List.replicate xs.length s).flatten pcs∧Bears w β pcs cs (j * s.length)∧(WOk (DataW.weightsAll P e (xs.map (·.1)))→SzL pcs):=by
 intro xs
 induction xs with
 | nil=>intro j _ _;exact⟨[],⟨rfl,by simp⟩,fun i c u h=>(by simp at h),fun _=>SzL.nil⟩
 | cons x xs ihk=>
   intro j hle hx
   rw[List.length_cons] at hle
   have hx1:=hx 0 (by simp)
   rw[List.getElem?_cons_zero,Nat.add_zero] at hx1
   obtain⟨p1,q1,q2,q3,q4⟩:=ih _ _ hx1
   obtain⟨p2,t1,t2,t3⟩:=ihk (j+1) (by rw[show j+1+xs.length=j+(xs.length+1) by omega];exact hle) fun i hi=>by
    have:=hx (i+1) (by rw[List.length_cons];omega)
    rw[List.getElem?_cons_succ,show j+(i+1)=j+1+i by omega] at this;exact this
   refine⟨p1++p2,by rw[List.length_cons,List.replicate_succ,List.flatten_cons];exact fits_app q1 t1,fun i c u h1 h2=>?_,fun hw=>?_⟩
   ·by_cases hi:i<s.length
    ·rw[List.getElem?_append_left (by rw[q1.1];exact hi)] at h1
     refine q3 i c u h1 ?_
     rw[Nat.zero_add,List.getElem?_take_of_lt hi,List.getElem?_drop]
     exact h2
    ·rw[List.getElem?_append_right (by rw[q1.1];omega),q1.1] at h1
     refine t2 _ c u h1 ?_
     rw[← h2,Nat.add_mul,Nat.one_mul];congr 1;omega
   ·rw[List.map_cons,DataW.weightsAll] at hw
    exact(q4 hw.left).app (t3 hw.right)
theorem weightsAll_mem {e:TypeId}:∀ {xs:List (DataW H × List MemPlace)} {i:Nat} {x:DataW H × List MemPlace},WOk (DataW.weightsAll P e (xs.map (·.1)))→xs[i]?=some x→WOk (x.1.weights P e)
 | [],i,x,_,h=>by simp at h
 | y::ys,0,x,hw,h=>by
   rw[List.getElem?_cons_zero] at h;cases h
   rw[List.map_cons,DataW.weightsAll] at hw
   exact hw.left
 | y::ys,i+1,x,hw,h=>by
   rw[List.getElem?_cons_succ] at h
   rw[List.map_cons,DataW.weightsAll] at hw
   exact weightsAll_mem hw.right h
theorem read_data:∀ (n:Nat) (t:TypeId) (s:List Sh),shOf P n t=some s→∀ (fuel:Nat) (cs:List Value) (x:DataW H × List MemPlace),DataW.trod enc P w base spare held fuel t cs=some x→
  ∃ pcs,FitsL s pcs∧pcs.length=cs.length∧Bears w β pcs cs 0∧(WOk (x.1.weights P t)→SzL pcs):=by
 intro n
 induction n with
 | zero=>intro t s h;cases h
 | succ n ih=>
   intro t s h fuel cs x hx
   unfold shOf at h
   split at h
   ·rename_i hu
    cases h
    obtain⟨b,rfl,_⟩:=DataW.trod_bool hu hx
    refine⟨[.bool b],⟨rfl,fun i sh c h1 h2=>?_⟩,rfl,fun i c u h1 h2=>?_,fun _=>SzL.one (.bool b)⟩
    ·cases i with
     | zero=>cases h1;cases h2;exact .bool b
     | succ i=>simp at h2
    ·cases i with
     | zero=>cases h1;cases h2;exact .bool b
     | succ i=>simp at h1
   ·rename_i k hu
    cases h
    obtain⟨m,rfl,_,hw⟩:=DataW.trod_int hu hx
    refine⟨[.int k m],⟨rfl,fun i sh c h1 h2=>?_⟩,rfl,fun i c u h1 h2=>?_,fun _=>SzL.one (.int k m)⟩
    ·cases i with
     | zero=>cases h1;cases h2;exact .int k m hw
     | succ i=>simp at h2
    ·cases i with
     | zero=>cases h1;cases h2;exact .int k m
     | succ i=>simp at h1
   ·rename_i hu
    cases h
    obtain⟨b,rfl,rfl,hw⟩:=DataW.trod_string hu hx
    refine⟨[.str b.data.toList],⟨rfl,fun i sh c h1 h2=>?_⟩,rfl,fun i c u h1 h2=>?_,fun hs=>SzL.one (.str _ (by simpa [WOk,DataW.weights] using hs))⟩
    ·cases i with
     | zero=>cases h1;cases h2;exact .str _ (by simpa using hw)
     | succ i=>simp at h2
    ·cases i with
     | zero=>cases h1;cases h2;exact .str b
     | succ i=>simp at h1
   ·rename_i e hu
    split at h
    case h_2=>cases h
    rename_i s1 hs1
    split at h
    case isFalse=>cases h
    rename_i hc
    cases h
    obtain⟨hc,hby⟩:=hc
    rcases DataW.trod_slice hu hx with ⟨rfl,_⟩|⟨a,len,cap,elems,rest,m,_,rfl,rfl,hb,hl,hm,hlen,hel,_,_⟩
    ·refine⟨[.sl []],⟨rfl,fun i sh c h1 h2=>?_⟩,rfl,fun i c u h1 h2=>?_,fun _=>SzL.one (.sl [] (by simp) (by simp))⟩
     ·cases i with
      | zero=>cases h1;cases h2;exact .sl _ [] (by simp) (by simp) (by simp)
      | succ i=>simp at h2
     ·cases i with
      | zero=>cases h1;cases h2;exact .sl [] 0 0 0 none (fun _=>default) rfl (Nat.le_refl _) (by simp) (by omega) (by simp)
      | succ i=>simp at h1
    ·have each:∀ i,i<len→∃ (ci:List Value) (pi:List PV),FitsL s1 pi∧pi.length=ci.length∧ci.length=s1.length∧Bears w β pi ci 0∧(∀ j,j<s1.length→w.cell? (a.add (i * s1.length+j))=ci[j]?)∧(WOk (DataW.weightsAll P e (elems.map (·.1)))→SzL pi):=by
      intro i hi
      have h1:=hel i hi
      rw[List.getElem?_eq_getElem (by omega),Option.bind_eq_some_iff] at h1
      obtain⟨ci,h2,h3⟩:=h1
      obtain⟨_,h4,h5⟩:=World.cells?_some h2
      obtain⟨pi,q1,q2,q3,q4⟩:=ih _ _ hs1 _ _ _ h3
      rw[hc] at h4 h5
      exact⟨ci,pi,q1,q2,h4,q3,fun j hj=>(by rw[← add_add];exact h5 j hj),fun hw=>q4 (weightsAll_mem hw (List.getElem?_eq_getElem (by omega)))⟩
     let es:List (List PV):=(List.range len).map fun i=>if h:i<len then Classical.choose (Classical.choose_spec (each i h)) else[]
     have hes:∀ (i:Nat) (e':List PV),es[i]?=some e'→i<len∧∃ ci:List Value,FitsL s1 e'∧e'.length=ci.length∧ci.length=s1.length∧Bears w β e' ci 0∧(∀ j,j<s1.length→w.cell? (a.add (i * s1.length+j))=ci[j]?)∧(WOk (DataW.weightsAll P e (elems.map (·.1)))→SzL e'):=by
      intro i e' hi
      have hi':i<len:=by have:=(List.getElem?_eq_some_iff.1 hi).1;simpa [es] using this
      simp only[es,List.getElem?_map,List.getElem?_range hi',Option.map_some,dif_pos hi',Option.some.injEq] at hi
      subst hi
      exact⟨hi',_,Classical.choose_spec (Classical.choose_spec (each i hi'))⟩
     have helen:es.length=len:=by simp[es]
     let f:Nat→Value:=fun j=>(w.cell? (a.add j)).getD default
     refine⟨[.sl es],⟨rfl,fun i sh c h1 h2=>?_⟩,rfl,fun i c u h1 h2=>?_,fun hw=>SzL.one ?_⟩
     ·cases i with
      | zero=>
        cases h1;cases h2
        refine .sl _ es (by omega) (fun e' he=>?_) (fun e' i sh c he h1 h2=>?_)
        ·obtain⟨j,hj⟩:=List.mem_iff_getElem?.1 he
         obtain⟨_,ci,q,_⟩:=hes j e' hj
         exact q.1
        ·obtain⟨j,hj⟩:=List.mem_iff_getElem?.1 he
         obtain⟨_,ci,q,_⟩:=hes j e' hj
         exact q.2 i sh c h1 h2
      | succ i=>simp at h2
     ·cases i with
      | zero=>
        cases h1;cases h2
        refine .sl es s1.length len cap (some a) f helen hl (fun e' he=>?_) (fun h0=>⟨a,rfl,fun j hj=>⟨?_,?_⟩⟩) (fun i e' j c h1 h2=>?_)
        ·obtain⟨j,hj⟩:=List.mem_iff_getElem?.1 he
         obtain⟨_,ci,q,_⟩:=hes j e' hj
         exact q.1
        ·have hpos:0<s1.length:=by
          rcases Nat.eq_zero_or_pos s1.length with h|h
          ·rw[h] at hj;simp at hj
          ·exact h
         have hq:j / s1.length<len:=by rw[Nat.div_lt_iff_lt_mul hpos];exact hj
         obtain⟨ci,pi,_,_,q3,_,q5,_⟩:=each _ hq
         have hr:j % s1.length<s1.length:=Nat.mod_lt _ hpos
         have:=q5 _ hr
         rw[show j / s1.length * s1.length+j % s1.length=j by rw[Nat.mul_comm];exact Nat.div_add_mod j s1.length,List.getElem?_eq_getElem (by omega)] at this
         simp only[f,this];rfl
        ·rintro ⟨i,g,o,h1,_⟩;simp at h1
        ·obtain⟨hi,ci,q1,q2,q3,q4,q5,_⟩:=hes i e' h1
         have hj:j<s1.length:=by have:=(List.getElem?_eq_some_iff.1 h2).1;rw[q1.1] at this;exact this
         have h5:=q5 j hj
         rw[List.getElem?_eq_getElem (by omega)] at h5
         simp only[f,h5,Option.getD_some]
         exact q4 j c _ h2 (by rw[Nat.zero_add];exact List.getElem?_eq_getElem (by omega))
      | succ i=>simp at h1
     ·unfold DataW.weights at hw
      rw[hu] at hw
      dsimp only at hw
      have h1:(elems.length+rest.length) * P.bytesOf e≤reachBytes:=by
       have:=hw
       unfold WOk at this
       rw[List.all_cons,Bool.and_eq_true] at this
       simpa using this.1
      have h2:WOk (DataW.weightsAll P e (elems.map (·.1))):=by
       have:=hw
       unfold WOk at this
       rw[List.all_cons,Bool.and_eq_true] at this
       exact WOk.left this.2
      refine .sl es ?_ fun e' c he hc'=>?_
      ·have:elems.length+rest.length≤(elems.length+rest.length) * P.bytesOf e:=Nat.le_mul_of_pos_right _ hby
       omega
      ·obtain⟨j,hj⟩:=List.mem_iff_getElem?.1 he
       obtain⟨_,ci,_,_,_,_,_,q⟩:=hes j e' hj
       exact q h2 c hc'
   ·rename_i fs hu
    split at h
    case h_2=>cases h
    rename_i s1 hs1
    split at h
    case isFalse=>cases h
    rename_i hc
    cases h
    obtain⟨xs,m,rfl,rfl,hlen,hxl,hf⟩:=DataW.trod_struct hu hx
    obtain⟨pcs,q1,q2,q3⟩:=read_fields (m:=m) (fun t s hs cs x hx=>ih t s hs m cs x hx) cs fs.toList xs 0 s hs1 (by omega) (by rw[hxl,Array.length_toList]) (fun i f hi=>hf i f (by rw[← Array.getElem?_toList];exact hi))
    refine⟨pcs,q1,by rw[q1.1,hlen,hc],q2,fun hw=>q3 ?_⟩
    unfold DataW.weights at hw
    rw[hu] at hw
    exact hw
   ·rename_i k e hu
    split at h
    case h_2=>cases h
    rename_i s1 hs1
    split at h
    case isFalse=>cases h
    rename_i hc
    cases h
    obtain⟨xs,m,rfl,rfl,hlen,hxl,hel⟩:=DataW.trod_array hu hx
    obtain⟨pcs,q1,q2,q3⟩:=read_items (m:=m) (fun cs x hx=>ih e s1 hs1 m cs x hx) cs xs 0 (by rw[Nat.zero_add,hlen,hc.2,hxl];exact Nat.le_refl _) (fun i hi=>by
     have h1:=hel i (by omega)
     rw[hc.1] at h1
     rw[Nat.zero_add];exact h1)
    rw[Nat.zero_mul] at q2
    rw[hxl] at q1
    refine⟨pcs,q1,by rw[q1.1,hlen,hc.2];simp,q2,fun hw=>q3 ?_⟩
    unfold DataW.weights at hw
    rw[hu] at hw
    exact hw
   ·cases h
theorem read_oneW {n:Nat} {t:TypeId} {sh:Sh} (hs:shOf P n t=some [sh]) {v:Value} {d:DataW H} {ps:List MemPlace} (h:DataW.Trod enc P w base spare held t v d ps) (hv:v.cells.toList=[v]):∃ pv,Fits sh pv∧Rep w [] β pv v∧(WOk (d.weights P t)→Sz pv):=by
 obtain⟨fuel,hf⟩:=h
 rw[hv] at hf
 obtain⟨pcs,q1,q2,q3,q4⟩:=read_data (β:=β) n t _ hs fuel _ _ hf
 match pcs,q2 with
 | [pv],_=>exact⟨pv,q1.2 0 sh pv rfl rfl,q3 0 pv v rfl rfl,fun hw=>(q4 hw).head⟩
theorem read_aggW {n:Nat} {t:TypeId} {s:List Sh} (hs:shOf P n t=some s) {vs:Array Value} {d:DataW H} {ps:List MemPlace} (h:DataW.Trod enc P w base spare held t (.agg vs) d ps):∃ pcs,FitsL s pcs∧Rep w [] β (.agg pcs) (.agg vs)∧(WOk (d.weights P t)→SzL pcs):=by
 obtain⟨fuel,hf⟩:=h
 obtain⟨pcs,q1,q2,q3,q4⟩:=read_data (β:=β) n t _ hs fuel _ _ hf
 have q2':pcs.length=vs.size:=by simpa [Value.cells] using q2
 exact⟨pcs,q1,.agg pcs vs q2' fun i c u h1 h2=>q3 i c u h1 (by simpa [Value.cells] using h2),q4⟩
theorem read_one {n:Nat} {t:TypeId} {sh:Sh} (hs:shOf P n t=some [sh]) {v:Value} {d:DataW H} {ps:List MemPlace} (h:DataW.Trod enc P w base spare held t v d ps) (hv:v.cells.toList=[v]):∃ pv,Fits sh pv∧Rep w [] β pv v:=by
 obtain⟨pv,h1,h2,_⟩:=read_oneW (β:=β) hs h hv
 exact⟨pv,h1,h2⟩
theorem read_agg {n:Nat} {t:TypeId} {s:List Sh} (hs:shOf P n t=some s) {vs:Array Value} {d:DataW H} {ps:List MemPlace} (h:DataW.Trod enc P w base spare held t (.agg vs) d ps):∃ pcs,FitsL s pcs∧Rep w [] β (.agg pcs) (.agg vs):=by
 obtain⟨pcs,h1,h2,_⟩:=read_aggW (β:=β) hs h
 exact⟨pcs,h1,h2⟩
end
theorem fits_split {s1 s2:List Sh} {cs:List PV} (h:FitsL (s1++s2) cs):∃ a b,cs=a++b∧FitsL s1 a∧FitsL s2 b:=by
 have hl:=h.1
 rw[List.length_append] at hl
 refine⟨cs.take s1.length,cs.drop s1.length,(List.take_append_drop _ _).symm,⟨by rw[List.length_take];omega,fun i sh c h1 h2=>?_⟩,⟨by rw[List.length_drop];omega,fun i sh c h1 h2=>?_⟩⟩
 ·have hi:=(List.getElem?_eq_some_iff.1 h1).1
  rw[List.getElem?_take_of_lt hi] at h2
  exact h.2 i sh c (by rw[List.getElem?_append_left hi];exact h1) h2
 ·rw[List.getElem?_drop] at h2
  exact h.2 (s1.length+i) sh c (by rw[List.getElem?_append_right (by omega),Nat.add_sub_cancel_left];exact h1) h2
theorem fits_one {sh:Sh} {s:List Sh} {cs:List PV} (h:FitsL (sh::s) cs):∃ c r,cs=c::r∧Fits sh c∧FitsL s r:=by
 obtain⟨a,b,rfl,h1,h2⟩:=fits_split (s1:=[sh]) (s2:=s) h
 match a,h1 with
 | [c],h1=>exact⟨c,b,rfl,h1.2 0 sh c rfl rfl,h2⟩
 | [],h1=>have:=h1.1;simp at this
 | _::_::_,h1=>have:=h1.1;simp at this
theorem fits_nil {cs:List PV} (h:FitsL [] cs):cs=[]:=List.length_eq_zero_iff.1 h.1
theorem wf_u8 {n:Int} (h:(Lit.int .u8 n).wf=true):0≤n∧n≤255:=by
 simp only[Lit.wf,Bool.and_eq_true,decide_eq_true_eq] at h
 have e1:IntKind.u8.min=0:=by decide
 have e2:IntKind.u8.max=255:=by decide
 omega
theorem fits_bytes:∀ (n:Nat) {cs:List PV},FitsL (List.replicate n (.int .u8)) cs→∃ l:List UInt8,l.length=n∧cs=l.map fun b=>.int .u8 b.toNat
 | 0,cs,h=>⟨[],rfl,fits_nil h⟩
 | n+1,cs,h=>by
   obtain⟨c,r,rfl,h1,h2⟩:=fits_one h
   obtain⟨l,hl,rfl⟩:=fits_bytes n h2
   cases h1 with
   | int k z hw=>
     have:=wf_u8 hw
     refine⟨UInt8.ofNat z.toNat::l,by simp[hl],?_⟩
     rw[List.map_cons]
     congr 2
     have:(UInt8.ofNat z.toNat).toNat=z.toNat:=by
      simp;omega
     omega
theorem fits_sl {s:List Sh} {c:PV} (h:Fits (.sl s) c):∃ es:List (List PV),c=.sl es∧es.length≤maxLen∧∀ e,e∈es→FitsL s e:=by
 cases h with
 | sl _ es hl h1 h2=>exact⟨es,rfl,hl,fun e he=>⟨h1 e he,fun i sh c=>h2 e i sh c he⟩⟩
theorem fits_rows:∀ {es:List (List PV)},(∀ e,e∈es→FitsL [.int .u8] e)→∃ l:List UInt8,es=l.map fun b=>[.int .u8 b.toNat]
 | [],_=>⟨[],rfl⟩
 | e::es,h=>by
   obtain⟨l,rfl⟩:=fits_rows fun x hx=>h x (List.mem_cons_of_mem _ hx)
   obtain⟨m,hm,rfl⟩:=fits_bytes 1 (h e List.mem_cons_self)
   match m,hm with
   | [b],_=>exact⟨b::l,rfl⟩
theorem wf_i64 {n:Int} (h:(Lit.int .i64 n).wf=true):-9223372036854775808≤n∧n≤9223372036854775807:=by
 simp only[Lit.wf,Bool.and_eq_true,decide_eq_true_eq] at h
 have e1:IntKind.i64.min=-9223372036854775808:=by decide
 have e2:IntKind.i64.max=9223372036854775807:=by decide
 omega
end Go.V
