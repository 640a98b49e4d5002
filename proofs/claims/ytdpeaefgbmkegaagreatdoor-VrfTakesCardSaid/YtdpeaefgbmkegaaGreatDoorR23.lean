/- vinerylaw18.small: closed. -/
import Derived.Test.YtdpeaefgbmkegaaGreatDoorHV
import Derived.Test.YtdpeaefgbmkegaaGreatDoorR9
import Derived.Test.YtdpeaefgbmkegaaGreatDoorHU
import Derived.Test.YtdpeaefgbmkegaaGreatDoorVJ
import Derived.Test.YtdpeaefgbmkegaaGreatDoorFE
namespace Go.Proofs.YtdpeaefgbmkegaaGreatDoor
open Go Go.V
set_option maxRecDepth 10000
def r18:Rt:=⟨4,5,mI,(nm0,0),w1,⟨0,[],-1,100,ad0,[],[[0,2,0,1,0,0,0,1]],[]⟩⟩
theorem rtT18:rtT r18=true:=by
 unfold rtT
 rw[show r18.m=mI from rfl,show r18.size=4 from rfl,show r18.safi=5 from rfl,if_pos rfl,mI_one];rfl
theorem rtR18:rtR r18=true:=by
 unfold rtR
 rw[rtT18,show r18.safi=5 from rfl,if_pos rfl,show r18.u=(nm0,0) from rfl,eqUr_self];rfl
theorem okR18:okRib r18:=
 ⟨⟨⟨rfl,rfl,rfl,rfl⟩,(by first|exact⟨rfl,rfl⟩|exact⟨rfl,rfl,rfl⟩|exact⟨rfl⟩),rfl,⟨rfl⟩⟩,fun _ h=>(by cases h),fun _ h=>(by cases h),fun _ h=>(by cases h),by decide⟩
theorem n18:U Tryz.prog 32 [.agg (rtC r18)] (.tup [.str (nameR r18),.bool true]):=by
 have:=uName15 okR18
 rw[rtR18] at this;exact this
def vtabV:List (Nat × VFun):=[(13,vf13),(19,vf19),(41,vf41),(43,vf43),(28,vf28),(29,vf29),(34,vf34),(39,vf39),(40,vf40),(42,vf42),(16,vf16),(17,vf17),(50,vf50),(51,vf51),(52,vf52),(53,vf53),(54,vf54),(78,vf78),(79,vf79),(80,vf80),(87,vf87),(88,vf88),(89,vf89),(90,vf90),(91,vf91),(75,vf75),(81,vf81),(82,vf82),(83,vf83),(84,vf84),(86,vf86),(46,vf46),(47,vf47),(100,vf100),(101,vf101),(102,vf102),(104,vf104),(119,vf119),(120,vf120),(127,vf127),(128,vf128),(129,vf129),(96,vf96),(121,vf121),(122,vf122),(123,vf123),(125,vf125),(97,vf97),(98,vf98),(140,vf140),(141,vf141),(139,vf139),(174,vf174),(175,vf175),(176,vf176),(177,vf177),(223,vf223),(227,vf227),(249,vf249),(250,vf250),(263,vf263)]
theorem vtabV_ok:TabOk Tryz.prog vtabV:=(TabOk.cons ⟨_,rawF,Tryz.func13,cf13⟩ (TabOk.cons ⟨_,rawF,Tryz.func19,cf19⟩ (TabOk.cons ⟨_,rawF,Tryz.func41,cf41⟩ (TabOk.cons ⟨_,rawF,Tryz.func43,cf43⟩ (TabOk.cons ⟨_,rawF,Tryz.func28,cf28⟩ (TabOk.cons ⟨_,rawF,Tryz.func29,cf29⟩ (TabOk.cons ⟨_,rawF,Tryz.func34,cf34⟩ (TabOk.cons ⟨_,rawF,Tryz.func39,cf39⟩ (TabOk.cons ⟨_,rawF,Tryz.func40,cf40⟩ (TabOk.cons ⟨_,rawF,Tryz.func42,cf42⟩ (TabOk.cons ⟨_,rawF,Tryz.func16,cf16⟩ (TabOk.cons ⟨_,rawF,Tryz.func17,cf17⟩ (TabOk.cons ⟨_,rawF,Tryz.func50,cf50⟩ (TabOk.cons ⟨_,rawF,Tryz.func51,cf51⟩ (TabOk.cons ⟨_,rawF,Tryz.func52,cf52⟩ (TabOk.cons ⟨_,rawF,Tryz.func53,cf53⟩ (TabOk.cons ⟨_,rawF,Tryz.func54,cf54⟩ (TabOk.cons ⟨_,rawF,Tryz.func78,cf78⟩ (TabOk.cons ⟨_,rawF,Tryz.func79,cf79⟩ (TabOk.cons ⟨_,rawF,Tryz.func80,cf80⟩ (TabOk.cons ⟨_,rawF,Tryz.func87,cf87⟩ (TabOk.cons ⟨_,rawF,Tryz.func88,cf88⟩ (TabOk.cons ⟨_,rawF,Tryz.func89,cf89⟩ (TabOk.cons ⟨_,rawF,Tryz.func90,cf90⟩ (TabOk.cons ⟨_,rawF,Tryz.func91,cf91⟩ (TabOk.cons ⟨_,rawF,Tryz.func75,cf75⟩ (TabOk.cons ⟨_,rawF,Tryz.func81,cf81⟩ (TabOk.cons ⟨_,rawF,Tryz.func82,cf82⟩ (TabOk.cons ⟨_,rawF,Tryz.func83,cf83⟩ (TabOk.cons ⟨_,rawF,Tryz.func84,cf84⟩ (TabOk.cons ⟨_,rawF,Tryz.func86,cf86⟩ (TabOk.cons ⟨_,rawF,Tryz.func46,cf46⟩ (TabOk.cons ⟨_,rawF,Tryz.func47,cf47⟩ (TabOk.cons ⟨_,rawF,Tryz.func100,cf100⟩ (TabOk.cons ⟨_,rawF,Tryz.func101,cf101⟩ (TabOk.cons ⟨_,rawF,Tryz.func102,cf102⟩ (TabOk.cons ⟨_,rawF,Tryz.func104,cf104⟩ (TabOk.cons ⟨_,rawF,Tryz.func119,cf119⟩ (TabOk.cons ⟨_,rawF,Tryz.func120,cf120⟩ (TabOk.cons ⟨_,rawF,Tryz.func127,cf127⟩ (TabOk.cons ⟨_,rawF,Tryz.func128,cf128⟩ (TabOk.cons ⟨_,rawF,Tryz.func129,cf129⟩ (TabOk.cons ⟨_,rawF,Tryz.func96,cf96⟩ (TabOk.cons ⟨_,rawF,Tryz.func121,cf121⟩ (TabOk.cons ⟨_,rawF,Tryz.func122,cf122⟩ (TabOk.cons ⟨_,rawF,Tryz.func123,cf123⟩ (TabOk.cons ⟨_,rawF,Tryz.func125,cf125⟩ (TabOk.cons ⟨_,rawF,Tryz.func97,cf97⟩ (TabOk.cons ⟨_,rawF,Tryz.func98,cf98⟩ (TabOk.cons ⟨_,rawF,Tryz.func140,cf140⟩ (TabOk.cons ⟨_,rawF,Tryz.func141,cf141⟩ (TabOk.cons ⟨_,rawF,Tryz.func139,cf139⟩ (TabOk.cons ⟨_,rawF,Tryz.func174,cf174⟩ (TabOk.cons ⟨_,rawF,Tryz.func175,cf175⟩ (TabOk.cons ⟨_,rawF,Tryz.func176,cf176⟩ (TabOk.cons ⟨_,rawF,Tryz.func177,cf177⟩ (TabOk.cons ⟨_,rawF,Tryz.func223,cf223⟩ (TabOk.cons ⟨_,rawF,Tryz.func227,cf227⟩ (TabOk.cons ⟨_,rawF,Tryz.func249,cf249⟩ (TabOk.cons ⟨_,rawF,Tryz.func250,cf250⟩ (TabOk.cons ⟨_,rawF,Tryz.func263,cf263⟩ TabOk.nil)))))))))))))))))))))))))))))))))))))))))))))))))))))))))))))
def closK:List Nat:=[79,79,91,129,97]
theorem closK_ok:∀ f,f∈closK→callOk Tryz.prog f=true:=by
 intro f hf
 simp only[closK,List.mem_cons,List.not_mem_nil,or_false] at hf
 rcases hf with rfl|rfl|rfl|rfl|rfl<;>kernel_rfl
def rt18 (n:UInt8):List UInt8:=[0,2,0,1,0,0,0,n]
def tb18:Vr:=⟨[97],3,[0,0,0,1,0,0,0,3],[rt18 1],[rt18 1],ad0,[]⟩
theorem tb18_ok:okVrf tb18:=⟨⟨rfl,rfl⟩,(by show (1:Nat)≤_;decide),fun e h=>(by rw[List.mem_singleton.1 (h:e∈[rt18 1])];rfl),fun e h=>(by rw[List.mem_singleton.1 (h:e∈[rt18 1])];rfl),fun _ h=>(by cases h)⟩
theorem vrR18:vrR tb18=true:=by kernel_rfl
theorem right18:U Tryz.prog 43 [.agg (vrC tb18)] (.bool true):=by
 have h:=uVrR tb18_ok
 rw[vrR18] at h;exact h
theorem text18:U Tryz.prog 42 [.agg (u8c [1,2,10,0,0,1,0,3])] (.str [114,116,58,49,58,49,48,46,48,46,48,46,49,58,51]):=
 U_kernelA (tab:=vtabV) (ext:=extK closK) (spec:=specX) 100 20 _ _ vtabV_ok (extK_ok closK_ok) specX_ok glob_cl rfl (by kernel_rfl)
theorem cl18:U Tryz.prog 120 [.sl []] (.sl []):=uClA (es:=[]) (fun e h=>by cases h) (by decide)
def factsV:List (Nat × List PV × PV):=[(42,[.agg (u8c [1,2,10,0,0,1,0,3])],.str [114,116,58,49,58,49,48,46,48,46,48,46,49,58,51]),(43,[.agg (vrC tb18)],.bool true),(120,[.sl []],.sl []),(32,[.agg (rtC r18)],.tup [.str (nameR r18),.bool true])]
theorem factsV_ok:∀ p,p∈factsV→U Tryz.prog p.1 p.2.1 p.2.2:=by
 intro p hp
 simp only[factsV,List.mem_cons,List.not_mem_nil,or_false] at hp
 rcases hp with rfl|rfl|rfl|rfl
 ·exact text18
 ·exact right18
 ·exact cl18
 ·exact n18
theorem specV_ok:SpecOk Tryz.prog (factSpec factsV specX):=factSpec_ok specX_ok factsV factsV_ok
theorem uSmall18:U Tryz.prog 13 [] (.bool true):=U_kernel (tab:=vtabV) (ext:=extK closK) (spec:=factSpec factsV specX) 100 20 (.bool true) vtabV_ok (extK_ok closK_ok) specV_ok glob_cl rfl (by kernel_rfl)
end Go.Proofs.YtdpeaefgbmkegaaGreatDoor
