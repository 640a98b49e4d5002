/- The evaluator at plain arguments. -/
import Derived.Test.YtdpeaefgbmkegaaGreatDoorEC
namespace Go.V
open Go
theorem U_runA [Glob] {P:Program} {f:FuncId} {args:List PV} {r:PV} (hr:flatB 9 r=true) (ha:args.all (flatB 9)=true) (hg:∀ g cells,Glob.tab g=some cells→ClL cells) (h:T P f args [] fun v _=>v=r):U P f args r:=by
 intro σ Post hk w β vs h1 h2 h3 h4
 have s0:Sim [] β w:=⟨fun _ _ _ h=>by simp at h,fun _ _ _ _ _ _ _ h=>by simp at h⟩
 have g0:GloRep w [] β:=fun g cells e=>by
  obtain⟨ff,a1,a2,a3⟩:=h4 g cells e
  refine⟨ff,still_part (L:=σ) a1,fun j c hj=>?_,a3⟩
  exact Rep.part (σ:=[]) (L:=σ) (a2 j c hj) (belL_iff.1 ((hg g cells e).cl 0) c (List.mem_of_getElem? hj))
 refine(h w β vs h1 (fun i c v e1 e2=>flat_rep 9 _ _ (List.all_eq_true.1 ha c (List.mem_of_getElem? e1)) (h2 i c v e1 e2)) s0 g0).mono ?_
 rintro e w' ⟨v,r',σ',β',rfl,rfl,e3,_,e5⟩
 have old:∀ b,b<w.heap.size→w'.heap[b]?=w.heap[b]?:=fun b hb=>e5.own b hb (by rintro ⟨i,g,o,h1,_⟩;simp at h1)
 have hs:Step σ β w σ β w':=
  ⟨e5.os,e5.tape,e5.output,e5.size,fun b hb _=>old b hb,fun a v hc _=>by rw[cell_of_heap (old _ (cell_lt hc))];exact hc,fun _ _ h=>h,fun _ _ _ h=>h,
   fun b arr ty fr hb=>⟨arr,(old b (Array.getElem?_eq_some_iff.1 hb).1).trans hb,rfl⟩,fun i gi oi h1=>⟨gi,oi,h1,Nat.le_refl _,fun _=>⟨oi.alike_refl,rfl⟩⟩⟩
 refine⟨v,_,σ,β,rfl,hk,flat_rep 9 _ _ hr e3,⟨fun i gi oi h1=>?_,h3.inj⟩,hs⟩
 by_cases hl:oi.live
 ·exact(h3.obj i gi oi h1).step hs fun b hb=>old b (h3.lt h1 hl hb)
 ·cases oi<;>simp[VObj.live] at hl;trivial
theorem U_kernelA [Glob] {P:Program} {tab:List (Nat × VFun)} {ext spec:XE} {f:FuncId} (fuel k:Nat) (args:List PV) (r:PV) (ht:TabOk P tab) (he:ExtOk P ext) (hsp:SpecOk P spec) (hg:∀ g cells,Glob.tab g=some cells→ClL cells)
  (hr:(flatB 9 r&&args.all (flatB 9))=true) (h:(match xcall tab ext spec fuel k f args [] with|some (v,_)=>eqPV 9 v r|none=>false)=true):U P f args r:=by
 rw[Bool.and_eq_true] at hr
 refine U_runA hr.1 hr.2 hg ?_
 split at h
 ·rename_i v σ' hx
  exact xcall_ok ht he hsp k f args [] v σ' hx _ (eqPV_ok 9 _ _ h)
 ·cases h
end Go.V
