/- Tables as arguments. -/
import Derived.Test.YtdpeaefgbmkegaaGreatDoorHT
import Derived.Test.YtdpeaefgbmkegaaGreatDoorHU
import Derived.Test.YtdpeaefgbmkegaaGreatDoorR27
namespace Go.Proofs.YtdpeaefgbmkegaaGreatDoor
open Go Go.V
set_option maxRecDepth 100000
def shE:List Sh:=List.replicate 8 (.int .u8)
def shVr:List Sh:=[.str]++([.int .i64]++(shE++([.sl shE]++([.sl shE]++(shA++[.sl shA])))))
theorem fits_Vr {cs:List PV} (h:FitsL shVr cs):∃ v:Vr,cs=vrC v∧okVrf v:=by
 obtain⟨c1,q,rfl,h1,kk1⟩:=fits_1 h
 obtain⟨c2,q,rfl,h2,kk2⟩:=fits_1 kk1
 obtain⟨p,q,rfl,h3,kk3⟩:=fits_split kk2
 obtain⟨rd,rfl,hrd⟩:=fits_E h3
 obtain⟨c4,q,rfl,h4,kk4⟩:=fits_1 kk3
 obtain⟨c5,q,rfl,h5,kk5⟩:=fits_1 kk4
 obtain⟨p,q,rfl,h6,kk6⟩:=fits_split kk5
 obtain⟨rp,rfl,hrp⟩:=fits_A h6
 obtain⟨c7,q,rfl,h7,kk7⟩:=fits_one kk6
 obtain rfl:=fits_nil kk7
 obtain⟨e4,rfl,_,hes4⟩:=fits_sl h4
 obtain⟨im,rfl,him⟩:=fits_list (c:=u8c) (ok:=fun e=>e.length=8) (fun e he=>fits_E he) hes4
 obtain⟨e5,rfl,_,hes5⟩:=fits_sl h5
 obtain⟨ex,rfl,hex⟩:=fits_list (c:=u8c) (ok:=fun e=>e.length=8) (fun e he=>fits_E he) hes5
 obtain⟨e7,rfl,_,hes7⟩:=fits_sl h7
 obtain⟨se,rfl,hse⟩:=fits_list (c:=adc) (ok:=okD) (fun e he=>fits_A he) hes7
 cases h1 with
 | str s hs=>
   cases h2 with
   | int _ n _=>exact⟨⟨s,n,rd,im,ex,rp,se⟩,rfl,⟨⟨hrd,hrp⟩,Nat.le_trans hs (by decide),him,hex,hse⟩⟩
theorem fits_Vrs {x:PV} (h:Fits (.sl shVr) x):∃ l:List Vr,x=.sl (l.map vrC)∧∀ v,v∈l→okVrf v:=by
 obtain⟨es,rfl,_,hes⟩:=fits_sl h
 obtain⟨l,rfl,hl⟩:=fits_list (c:=vrC) (ok:=okVrf) (fun e he=>fits_Vr he) hes
 exact⟨l,rfl,hl⟩
theorem fits_Rts {x:PV} (h:Fits (.sl shRt) x):∃ l:List Rt,x=.sl (l.map rtC)∧∀ r,r∈l→okArg r:=by
 obtain⟨es,rfl,_,hes⟩:=fits_sl h
 obtain⟨l,rfl,hl⟩:=fits_list (c:=rtC) (ok:=okArg) (fun e he=>fits_Rt he) hes
 exact⟨l,rfl,hl⟩
def shPf:List Sh:=shA++[.int .i64]
theorem fits_Pf {cs:List PV} (h:FitsL shPf cs):∃ p:Pf,cs=pfC p∧okPf p:=by
 obtain⟨p,q,rfl,h1,kk1⟩:=fits_split h
 obtain⟨a,rfl,ha⟩:=fits_A h1
 obtain⟨c,q,rfl,h2,kk2⟩:=fits_one kk1
 obtain rfl:=fits_nil kk2
 cases h2 with
 | int _ n _=>exact⟨⟨a,n⟩,rfl,⟨ha⟩⟩
def shLc:List Sh:=[.str]++(shPf++[.int .i64])
theorem fits_Lc {cs:List PV} (h:FitsL shLc cs):∃ l:Lc,cs=lcC l∧okLc l:=by
 obtain⟨c1,q,rfl,h1,kk1⟩:=fits_1 h
 obtain⟨p,q,rfl,h2,kk2⟩:=fits_split kk1
 obtain⟨pf,rfl,hp⟩:=fits_Pf h2
 obtain⟨c3,q,rfl,h3,kk3⟩:=fits_one kk2
 obtain rfl:=fits_nil kk3
 cases h1 with
 | str s _=>
   cases h3 with
   | int _ n _=>exact⟨⟨s,pf,n⟩,rfl,⟨hp⟩⟩
def shFl:List Sh:=[.str]++(shA++shA)
theorem fits_Fl {cs:List PV} (h:FitsL shFl cs):∃ l:Fl,cs=flC l∧True:=by
 obtain⟨c1,q,rfl,h1,kk1⟩:=fits_1 h
 obtain⟨p,q,rfl,h2,kk2⟩:=fits_split kk1
 obtain⟨a,rfl,_⟩:=fits_A h2
 obtain⟨b,rfl,_⟩:=fits_A kk2
 cases h1 with
 | str s _=>exact⟨⟨s,a,b⟩,rfl,trivial⟩
def shJn:List Sh:=[.str]++([.str]++(shA++shA))
theorem fits_Jn {cs:List PV} (h:FitsL shJn cs):∃ l:Jn,cs=jnC l∧True:=by
 obtain⟨c1,q,rfl,h1,kk1⟩:=fits_1 h
 obtain⟨c2,q,rfl,h2,kk2⟩:=fits_1 kk1
 obtain⟨p,q,rfl,h3,kk3⟩:=fits_split kk2
 obtain⟨a,rfl,_⟩:=fits_A h3
 obtain⟨b,rfl,_⟩:=fits_A kk3
 cases h1 with
 | str s _=>
   cases h2 with
   | str t _=>exact⟨⟨s,t,a,b⟩,rfl,trivial⟩
structure okSite (s:Si):Prop where
 ok:okSi s
 vrfs:∀ v,v∈s.vrfs→okVrf v
 locs:∀ l,l∈s.locs→okLc l
 lrn:∀ r,r∈s.lrn→okArg r
def shSi:List Sh:=shA++([.int .i64]++([.sl shVr]++([.sl shLc]++([.sl shFl]++([.sl shJn]++[.sl shRt])))))
theorem fits_Si {cs:List PV} (h:FitsL shSi cs):∃ s:Si,cs=siC s∧okSite s:=by
 obtain⟨p,q,rfl,h1,kk1⟩:=fits_split h
 obtain⟨pe,rfl,hpe⟩:=fits_A h1
 obtain⟨c2,q,rfl,h2,kk2⟩:=fits_1 kk1
 obtain⟨c3,q,rfl,h3,kk3⟩:=fits_1 kk2
 obtain⟨c4,q,rfl,h4,kk4⟩:=fits_1 kk3
 obtain⟨c5,q,rfl,h5,kk5⟩:=fits_1 kk4
 obtain⟨c6,q,rfl,h6,kk6⟩:=fits_1 kk5
 obtain⟨c7,q,rfl,h7,kk7⟩:=fits_one kk6
 obtain rfl:=fits_nil kk7
 obtain⟨e3,rfl,_,hes3⟩:=fits_sl h3
 obtain⟨vr,rfl,hvr⟩:=fits_list (c:=vrC) (ok:=okVrf) (fun e he=>fits_Vr he) hes3
 obtain⟨e4,rfl,_,hes4⟩:=fits_sl h4
 obtain⟨lo,rfl,hlo⟩:=fits_list (c:=lcC) (ok:=okLc) (fun e he=>fits_Lc he) hes4
 obtain⟨e5,rfl,_,hes5⟩:=fits_sl h5
 obtain⟨ac,rfl,_⟩:=fits_list (c:=flC) (ok:=fun _=>True) (fun e he=>fits_Fl he) hes5
 obtain⟨e6,rfl,_,hes6⟩:=fits_sl h6
 obtain⟨jn,rfl,_⟩:=fits_list (c:=jnC) (ok:=fun _=>True) (fun e he=>fits_Jn he) hes6
 obtain⟨e7,rfl,_,hes7⟩:=fits_sl h7
 obtain⟨lr,rfl,hlr⟩:=fits_list (c:=rtC) (ok:=okArg) (fun e he=>fits_Rt he) hes7
 cases h2 with
 | int _ n _=>exact⟨⟨pe,n,vr,lo,ac,jn,lr⟩,rfl,⟨⟨hpe⟩,hvr,hlo,hlr⟩⟩
end Go.Proofs.YtdpeaefgbmkegaaGreatDoor
