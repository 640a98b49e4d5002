/-
  RelayTakes returns true for every input, and its arguments read behind the call as they read before; the tables of Go's library that the row lists are tied to the program's text by the given tie. No condition beyond the given card.
-/
import Derived.Test.YtdpeaefgbmkegaaGreatDoorRows
import Derived.Test.YtdpeaefgbmkegaaGreatDoorTie
import Derived.Test.YtdpeaefgbmkegaaGreatDoorCards
import Derived.WalkKit
import Derived.ProofKit
import Derived.OpenShut
import Derived.ShutString
import Derived.ChangeOld
import Derived.Below
import Derived.LaidMore
import Derived.Lay
import Derived.SevenTiedAt
import Derived.Stop.Joined
import Derived.Test.YtdpeaefgbmkegaaGreatDoorHT
import Derived.Test.YtdpeaefgbmkegaaGreatDoorKF
import Derived.Test.YtdpeaefgbmkegaaGreatDoorHV
set_option maxHeartbeats 8000000
namespace Go.Proofs.YtdpeaefgbmkegaaGreatDoor.relayTakes
open Go Go.ChangeShapes Go.WideShapes Go.ChangeAt Go.RowKit Go.V
set_option linter.unusedVariables false
set_option maxRecDepth 100000
theorem own:ownKnob Tryz.prog.godebug=none:=by kernel_rfl
theorem laidOut:laidOutB Tryz.prog=true:=by kernel_rfl
theorem sh3:shOf Tryz.prog 12 3=some [.int .i64]:=by kernel_rfl
theorem sh24:shOf Tryz.prog 12 24=some [.int .i64,.int .u8,.int .u8,.int .u8,.int .u8,.int .u8,.int .u8,.int .u8,.int .u8,.int .u8,.int .u8,.int .u8,.int .u8,.int .u8,.int .u8,.int .u8,.int .u8]:=by kernel_rfl
theorem sh40:shOf Tryz.prog 12 40=some [.int .i64,.int .i64,.int .i64,.int .u8,.int .u8,.int .u8,.int .u8,.int .u8,.int .u8,.int .u8,.int .u8,.int .i64,.int .i64,.int .u8,.int .u8,.int .u8,.int .u8,.int .u8,.int .u8,.int .u8,.int .u8,.int .u8,.int .u8,.int .u8,.int .u8,.int .u8,.int .u8,.int .u8,.int .u8,.int .i64,.int .u8,.int .u8,.int .u8,.int .u8,.int .u8,.int .u8,.int .u8,.int .u8,.int .u8,.int .u8,.int .u8,.int .u8,.int .u8,.int .u8,.int .u8,.int .u8,.int .i64,.int .u8,.int .u8,.int .u8,.int .u8,.int .u8,.int .u8,.int .u8,.int .u8,.int .u8,.int .u8,.int .u8,.int .u8,.int .u8,.int .u8,.int .u8,.int .u8,.str,.int .u8,.int .u8,.int .u8,.int .u8,.int .u8,.int .u8,.int .u8,.int .u8,.int .i64,.int .u8,.int .u8,.int .u8,.int .u8,.int .u8,.int .u8,.int .u8,.int .u8,.int .u8,.int .u8,.int .u8,.int .u8,.int .u8,.int .u8,.int .u8,.int .u8,.int .i64,.int .i64,.int .i64,.int .u8,.int .u8,.int .u8,.int .u8,.int .u8,.int .u8,.int .u8,.int .u8,.int .u8,.int .u8,.int .u8,.int .u8,.int .u8,.int .u8,.int .u8,.int .u8,.int .i64,.sl [.bool,.sl [.int .i64]],.int .i64,.int .i64,.int .i64,.int .u8,.int .u8,.int .u8,.int .u8,.int .u8,.int .u8,.int .u8,.int .u8,.int .u8,.int .u8,.int .u8,.int .u8,.int .u8,.int .u8,.int .u8,.int .u8,.sl [.int .i64,.int .u8,.int .u8,.int .u8,.int .u8,.int .u8,.int .u8,.int .u8,.int .u8,.int .u8,.int .u8,.int .u8,.int .u8,.int .u8,.int .u8,.int .u8,.int .u8],.sl [.int .u8,.int .u8,.int .u8,.int .u8,.int .u8,.int .u8,.int .u8,.int .u8],.sl [.bool,.int .i64,.int .i64,.int .i64,.int .u8,.int .u8,.int .u8,.int .u8,.int .u8,.int .u8,.int .u8,.int .u8,.int .u8,.int .u8,.int .u8,.int .u8,.int .u8,.int .u8,.int .u8,.int .u8,.sl [.int .u8]]]:=by kernel_rfl
theorem sh41:shOf Tryz.prog 12 41=some [.sl [.int .i64]]:=by kernel_rfl
theorem walk (c0:PV) (f0:Fits (.int .i64) c0) (c1:List PV) (f1:FitsL [.int .i64,.int .u8,.int .u8,.int .u8,.int .u8,.int .u8,.int .u8,.int .u8,.int .u8,.int .u8,.int .u8,.int .u8,.int .u8,.int .u8,.int .u8,.int .u8,.int .u8] c1) (c2:List PV) (f2:FitsL [.int .i64,.int .u8,.int .u8,.int .u8,.int .u8,.int .u8,.int .u8,.int .u8,.int .u8,.int .u8,.int .u8,.int .u8,.int .u8,.int .u8,.int .u8,.int .u8,.int .u8] c2) (c3:List PV) (f3:FitsL [.int .i64,.int .i64,.int .i64,.int .u8,.int .u8,.int .u8,.int .u8,.int .u8,.int .u8,.int .u8,.int .u8,.int .i64,.int .i64,.int .u8,.int .u8,.int .u8,.int .u8,.int .u8,.int .u8,.int .u8,.int .u8,.int .u8,.int .u8,.int .u8,.int .u8,.int .u8,.int .u8,.int .u8,.int .u8,.int .i64,.int .u8,.int .u8,.int .u8,.int .u8,.int .u8,.int .u8,.int .u8,.int .u8,.int .u8,.int .u8,.int .u8,.int .u8,.int .u8,.int .u8,.int .u8,.int .u8,.int .i64,.int .u8,.int .u8,.int .u8,.int .u8,.int .u8,.int .u8,.int .u8,.int .u8,.int .u8,.int .u8,.int .u8,.int .u8,.int .u8,.int .u8,.int .u8,.int .u8,.str,.int .u8,.int .u8,.int .u8,.int .u8,.int .u8,.int .u8,.int .u8,.int .u8,.int .i64,.int .u8,.int .u8,.int .u8,.int .u8,.int .u8,.int .u8,.int .u8,.int .u8,.int .u8,.int .u8,.int .u8,.int .u8,.int .u8,.int .u8,.int .u8,.int .u8,.int .i64,.int .i64,.int .i64,.int .u8,.int .u8,.int .u8,.int .u8,.int .u8,.int .u8,.int .u8,.int .u8,.int .u8,.int .u8,.int .u8,.int .u8,.int .u8,.int .u8,.int .u8,.int .u8,.int .i64,.sl [.bool,.sl [.int .i64]],.int .i64,.int .i64,.int .i64,.int .u8,.int .u8,.int .u8,.int .u8,.int .u8,.int .u8,.int .u8,.int .u8,.int .u8,.int .u8,.int .u8,.int .u8,.int .u8,.int .u8,.int .u8,.int .u8,.sl [.int .i64,.int .u8,.int .u8,.int .u8,.int .u8,.int .u8,.int .u8,.int .u8,.int .u8,.int .u8,.int .u8,.int .u8,.int .u8,.int .u8,.int .u8,.int .u8,.int .u8],.sl [.int .u8,.int .u8,.int .u8,.int .u8,.int .u8,.int .u8,.int .u8,.int .u8],.sl [.bool,.int .i64,.int .i64,.int .i64,.int .u8,.int .u8,.int .u8,.int .u8,.int .u8,.int .u8,.int .u8,.int .u8,.int .u8,.int .u8,.int .u8,.int .u8,.int .u8,.int .u8,.int .u8,.int .u8,.sl [.int .u8]]] c3) (c4:PV) (f4:Fits (.sl [.int .i64]) c4) (c5:PV) (f5:Fits (.int .i64) c5):T Tryz.prog 3 [c0,.agg c1,.agg c2,.agg c3,c4,c5] [] (fun r _=>r=.bool true):=by
 obtain⟨i,rfl,hi⟩:=fits_A f1
 obtain⟨k,rfl,hc⟩:=fits_A f2
 obtain⟨r,rfl,hr⟩:=fits_Rt f3
 obtain⟨es,rfl,hl,hes⟩:=fits_sl f4
 obtain⟨l,rfl,_⟩:=fits_list (c:=fun n=>[PV.int .i64 n]) (ok:=fun _=>True) (fun e he=>fits_int he) hes
 rw[List.length_map] at hl
 cases f0 with
 | int _ v w0=>
   cases f5 with
   | int _ p w5=>
     have hp:=wf_i64 w5
     exact tRelayTakes hr hi hc hl hp.2 hp.1 uSmall17 _ _ rfl
theorem lifted (os:Os) (started:os.Started) (H:Type) (enc:TypeId × Value→H) :
  ReturnsInHanded {} Tryz.checked os 3 .any (fun w args=>(Rows.relayTakesSpec.pre enc Tryz.prog Tryz.f3 Rows.relayTakesRow.domain false w args∧laidMetH Tryz.prog laidL w)∧sizedMet enc Tryz.prog Tryz.f3 (OpenSpec.ofChange Rows.relayTakesSpec) false w args) (Rows.relayTakesSpec.post enc Tryz.prog Tryz.f3 false true false false):=by
 refine returnsInHanded_of_change_and (C:=Tryz.checked) (X:=fun w _=>laidMetH Tryz.prog laidL w) (fun _ _ _ hh h=>h.of_heap hh) own started (by kernel_rfl) Tryz.func3
  (ChangeSpec.witness_shaped (enc:=enc) (C:=Tryz.checked) (os:=os) (X:=fun w _=>laidMetH Tryz.prog laidL w) false (World.laidAll Tryz.prog os laidL) #[.int .i64 0,.agg #[.int .i64 0,.int .u8 0,.int .u8 0,.int .u8 0,.int .u8 0,.int .u8 0,.int .u8 0,.int .u8 0,.int .u8 0,.int .u8 0,.int .u8 0,.int .u8 0,.int .u8 0,.int .u8 0,.int .u8 0,.int .u8 0,.int .u8 0],.agg #[.int .i64 0,.int .u8 0,.int .u8 0,.int .u8 0,.int .u8 0,.int .u8 0,.int .u8 0,.int .u8 0,.int .u8 0,.int .u8 0,.int .u8 0,.int .u8 0,.int .u8 0,.int .u8 0,.int .u8 0,.int .u8 0,.int .u8 0],.agg #[.int .i64 0,.int .i64 0,.int .i64 0,.int .u8 0,.int .u8 0,.int .u8 0,.int .u8 0,.int .u8 0,.int .u8 0,.int .u8 0,.int .u8 0,.int .i64 0,.int .i64 0,.int .u8 0,.int .u8 0,.int .u8 0,.int .u8 0,.int .u8 0,.int .u8 0,.int .u8 0,.int .u8 0,.int .u8 0,.int .u8 0,.int .u8 0,.int .u8 0,.int .u8 0,.int .u8 0,.int .u8 0,.int .u8 0,.int .i64 0,.int .u8 0,.int .u8 0,.int .u8 0,.int .u8 0,.int .u8 0,.int .u8 0,.int .u8 0,.int .u8 0,.int .u8 0,.int .u8 0,.int .u8 0,.int .u8 0,.int .u8 0,.int .u8 0,.int .u8 0,.int .u8 0,.int .i64 0,.int .u8 0,.int .u8 0,.int .u8 0,.int .u8 0,.int .u8 0,.int .u8 0,.int .u8 0,.int .u8 0,.int .u8 0,.int .u8 0,.int .u8 0,.int .u8 0,.int .u8 0,.int .u8 0,.int .u8 0,.int .u8 0,.string ⟨#[]⟩,.int .u8 0,.int .u8 0,.int .u8 0,.int .u8 0,.int .u8 0,.int .u8 0,.int .u8 0,.int .u8 0,.int .i64 0,.int .u8 0,.int .u8 0,.int .u8 0,.int .u8 0,.int .u8 0,.int .u8 0,.int .u8 0,.int .u8 0,.int .u8 0,.int .u8 0,.int .u8 0,.int .u8 0,.int .u8 0,.int .u8 0,.int .u8 0,.int .u8 0,.int .i64 0,.int .i64 0,.int .i64 0,.int .u8 0,.int .u8 0,.int .u8 0,.int .u8 0,.int .u8 0,.int .u8 0,.int .u8 0,.int .u8 0,.int .u8 0,.int .u8 0,.int .u8 0,.int .u8 0,.int .u8 0,.int .u8 0,.int .u8 0,.int .u8 0,.int .i64 0,.slice none 0 0,.int .i64 0,.int .i64 0,.int .i64 0,.int .u8 0,.int .u8 0,.int .u8 0,.int .u8 0,.int .u8 0,.int .u8 0,.int .u8 0,.int .u8 0,.int .u8 0,.int .u8 0,.int .u8 0,.int .u8 0,.int .u8 0,.int .u8 0,.int .u8 0,.int .u8 0,.slice none 0 0,.slice none 0 0,.slice none 0 0],.slice none 0 0,.int .i64 0] 8 (World.laidAll_os _ _ _)
   (World.shaped_of_ZipB (by kernel_rfl) (by kernel_rfl)) (by kernel_rfl) (by kernel_rfl) (by kernel_rfl)
   (by rw[MakeChecks.laidMetH_plain _ _ _ (by kernel_rfl)];exact laidMet_laidAll _ (by kernel_rfl) (by kernel_rfl))) ?_
 intro W base args ds gs before hval0 hW hcnd hsz0 hL _
 have hval:∀ (j:Nat) t v,Tryz.f3.params[j]?=some t→args[j]?=some v→Value.okWide Tryz.prog W .any base t v:=hval0
 have hW':=hW
 obtain⟨p,q,hA0,hV,rfl,hfz,hnd⟩:=hW
 have hA:DataW.TrodAll enc Tryz.prog W 0 (fun _=>true) true Tryz.f3.params.toList args.toList ds p:=hA0
 have hsz:(DataW.weightsEach Tryz.prog (Tryz.f3.params.toList++Rows.relayTakesSpec.plain.varTypes Tryz.prog) (ds++gs)).all (·≤reachBytes)=true:=hsz0
 rw[Tryz.params3] at hA hval hsz
 obtain⟨v0,vs0,d0,ds0,p0,q0,hargs,rfl,rfl,h0,r0⟩:=trodAll_cons hA
 obtain⟨v1,vs1,d1,ds1,p1,q1,rfl,rfl,rfl,h1,r1⟩:=trodAll_cons r0
 obtain⟨v2,vs2,d2,ds2,p2,q2,rfl,rfl,rfl,h2,r2⟩:=trodAll_cons r1
 obtain⟨v3,vs3,d3,ds3,p3,q3,rfl,rfl,rfl,h3,r3⟩:=trodAll_cons r2
 obtain⟨v4,vs4,d4,ds4,p4,q4,rfl,rfl,rfl,h4,r4⟩:=trodAll_cons r3
 obtain⟨v5,vs5,d5,ds5,p5,q5,rfl,rfl,rfl,h5,r5⟩:=trodAll_cons r4
 obtain⟨rfl,rfl,rfl⟩:=trodAll_nil r5
 obtain rfl:args=#[v0,v1,v2,v3,v4,v5]:=by cases args;simp_all
 obtain⟨rfl,rfl⟩:=trodVars_none hV
 have lt0:∀ x∈p0,x.block<W.heap.size:=by obtain⟨m,hm⟩:=h0;exact DataW.trod_lt m _ _ _ hm
 obtain⟨a0,rfl⟩:=okWide_int Tryz.underlying3 (hval 0 3 v0 rfl rfl)
 obtain⟨c0,f0,b0⟩:=read_one (β:=fun _=>none) sh3 h0 rfl
 have lt1:∀ x∈p1,x.block<W.heap.size:=by obtain⟨m,hm⟩:=h1;exact DataW.trod_lt m _ _ _ hm
 obtain⟨a1,rfl,_⟩:=okWide_struct Tryz.underlying24 (hval 1 24 v1 rfl rfl)
 obtain⟨c1,f1,b1⟩:=read_agg (β:=fun _=>none) sh24 h1
 have lt2:∀ x∈p2,x.block<W.heap.size:=by obtain⟨m,hm⟩:=h2;exact DataW.trod_lt m _ _ _ hm
 obtain⟨a2,rfl,_⟩:=okWide_struct Tryz.underlying24 (hval 2 24 v2 rfl rfl)
 obtain⟨c2,f2,b2⟩:=read_agg (β:=fun _=>none) sh24 h2
 have lt3:∀ x∈p3,x.block<W.heap.size:=by obtain⟨m,hm⟩:=h3;exact DataW.trod_lt m _ _ _ hm
 obtain⟨a3,rfl,_⟩:=okWide_struct Tryz.underlying40 (hval 3 40 v3 rfl rfl)
 obtain⟨c3,f3,b3⟩:=read_agg (β:=fun _=>none) sh40 h3
 have lt4:∀ x∈p4,x.block<W.heap.size:=by obtain⟨m,hm⟩:=h4;exact DataW.trod_lt m _ _ _ hm
 obtain⟨a4,len4,cap4,rfl⟩:=okWide_slice Tryz.underlying41 (hval 4 41 v4 rfl rfl)
 obtain⟨c4,f4,b4⟩:=read_one (β:=fun _=>none) sh41 h4 rfl
 have lt5:∀ x∈p5,x.block<W.heap.size:=by obtain⟨m,hm⟩:=h5;exact DataW.trod_lt m _ _ _ hm
 obtain⟨a5,rfl⟩:=okWide_int Tryz.underlying3 (hval 5 3 v5 rfl rfl)
 obtain⟨c5,f5,b5⟩:=read_one (β:=fun _=>none) sh3 h5 rfl
 clear hA0 hval0
 refine(below_of_T (walk c0 f0 c1 f1 c2 f2 c3 f3 c4 f4 c5 f5) rfl ?_ (glo hL _)).mono fun e W' ⟨he,bel⟩=>?_
 ·intro i c v h1 h2
  match i,h1,h2 with
  | 0,h1,h2=>cases h1;cases h2;exact b0
  | 1,h1,h2=>cases h1;cases h2;exact b1
  | 2,h1,h2=>cases h1;cases h2;exact b2
  | 3,h1,h2=>cases h1;cases h2;exact b3
  | 4,h1,h2=>cases h1;cases h2;exact b4
  | 5,h1,h2=>cases h1;cases h2;exact b5
  | n+6,h1,h2=>simp at h1
 subst he
 exact⟨_,rfl,_,_,_,[],_,[],hW',trodAll_mk1 (shut_bool Tryz.underlying4 _),(trodAll_cons_mk (Below.trod laidOut (by kernel_rfl) (of_decide_eq_true (by kernel_rfl)) h0 bel lt0) (trodAll_cons_mk (Below.trod laidOut (by kernel_rfl) (of_decide_eq_true (by kernel_rfl)) h1 bel lt1) (trodAll_cons_mk (Below.trod laidOut (by kernel_rfl) (of_decide_eq_true (by kernel_rfl)) h2 bel lt2) (trodAll_cons_mk (Below.trod laidOut (by kernel_rfl) (of_decide_eq_true (by kernel_rfl)) h3 bel lt3) (trodAll_cons_mk (Below.trod laidOut (by kernel_rfl) (of_decide_eq_true (by kernel_rfl)) h4 bel lt4) (trodAll_cons_mk (Below.trod laidOut (by kernel_rfl) (of_decide_eq_true (by kernel_rfl)) h5 bel lt5) trodAll_mk0)))))),rfl,bel.frame _,fun h=>by cases h⟩
theorem and_t {a b:Bool} (h1:a=true) (h2:b=true):(a&&b)=true:=by rw[h1,h2];rfl
theorem closed:joinedFacts Tryz.pinned.checked.prog 3 Tryz.f3 Rows.relayTakesSpec Rows.relayTakesRow=true:=by
 unfold joinedFacts
 repeat' (with_reducible refine and_t ?_ ?_)
 all_goals as_aux_lemma=>kernel_rfl
theorem over:Rows.relayTakesRow.holds Tryz.pinned (OpenSpec.ofChange Rows.relayTakesSpec):=
 OpenClaim.holds_of_wide 3 Tryz.f3 rfl rfl rfl rfl rfl rfl rfl ⟨rfl,rfl,rfl,rfl,rfl⟩ rfl rfl rfl rfl rfl (by kernel_rfl) Tryz.func3 closed
  (of_decide_eq_true (by kernel_rfl)) (by unfold Func.isWrapper;first|(rw[if_pos (by decide +kernel)];kernel_rfl)|(rw[if_neg (by decide +kernel)];exact⟨rfl,rfl⟩))
  (fun os started H enc _=>lifted os started H enc)
theorem proved:Rows.RelayTakesCardSaid:=
 Claim7.holds_tied_plain_at .later [] [.data,.data,.data,.data,.pinned] true (true,"b7d686801860f1202b833460bee2d86e0e1970edaa18410fadc2c02f36340070") false over (fun _ h=>by cases h) (by kernel_rfl) (fun _ h=>by cases h) relayTakes_row_tie rfl ⟨rfl,rfl⟩ (by kernel_rfl) rfl
  (fun f fn hf hfn=>by
   obtain rfl:f=3:=Option.some.inj ((show Tryz.prog.funcNamed "vinery/vinerylaw17.RelayTakes"=some 3 by kernel_rfl).symm.trans hf) |>.symm
   obtain rfl:fn=Tryz.f3:=(Option.some.inj (Tryz.func3.symm.trans hfn)).symm
   exact⟨by kernel_rfl,fun j t ht=>by
    rw[Tryz.params3] at ht
    have hm:t∈[3,24,24,40,41,3]:=by simpa using Array.mem_of_getElem? ht
    have hall:([3,24,24,40,41,3].all fun u=>!Tryz.prog.wantsStandIn u)=true:=by kernel_rfl
    exact(show Tryz.prog.wantsStandIn t=false by simpa using List.all_eq_true.1 hall t hm)⟩)
  (by kernel_rfl)
#print axioms proved
end Go.Proofs.YtdpeaefgbmkegaaGreatDoor.relayTakes
