/-
  DERIVED. Each function of this seat computes its Lean function. Conditions: as each theorem says.
-/
import Derived.Test.YtcmhkcpheehlhaaGreatDoorDefs
set_option linter.unusedVariables false
set_option linter.unusedSimpArgs false
set_option linter.unusedSectionVars false
namespace Lift.Q5
noncomputable section
open Go Go.RowKit Go.Proofs Lift Lift.Fn
theorem ko {ms:List (FuncId×Mode U)} (h:Known kk env0 (zaac ms)):KitOk (Kit.withModes kk (zaac ms)) env0:=zayq eqOk mixed h
abbrev MS:=List (FuncId×Mode U)
abbrev Kn (m:MS):=Known kk env0 (zaac m)
theorem kc {l:MS}{g:FuncId}{m:Mode U}(hm:zaad kk env0 g m)(h:Kn l)(hc:zabo kk.P g=true:=by kernel_rfl):Kn ((g,m)::l):=known_cons hc hm h
theorem fj {f:FuncId}{fn:Func}{ts:List Ty}{rs:List (List Ty)}{ms:MS}{sh:StSh}{fi:List Find}{os:List StSh}{F F':curT kk.u.U (sumT kk.u.U rs) ts}(h:Kn ms)(hF:F=F')(hf:kk.P.funcs[f]? =some fn:=by kernel_rfl)(hl:zaav (zaag fn)=[]:=by kernel_rfl)(hE:curL ts (fun ls=>(Kit.withModes kk (zaac ms)).fnEval jnL fn sh os ls (sumE rs))=F':=by kernel_rfl):zaad kk env0 f (mdG sh fi os ts rs F):=fnG (ko h) hf (zaab hl trivial) hF hE
theorem fo {f:FuncId}{fn:Func}{ts:List Ty}{rs:List (List Ty)}{ms:MS}{sh:StSh}{fi:List Find}{os:List StSh}{F F':curT kk.u.U (sumT kk.u.U rs) ts}(h:Kn ms)(hF:F=F')(hf:kk.P.funcs[f]? =some fn:=by kernel_rfl)(hl:zaav (zaag fn)=[]:=by kernel_rfl)(hE:curL ts (fun ls=>(Kit.withModes kk (zaac ms)).fnEval noL fn sh os ls (sumE rs))=F':=by kernel_rfl):zaad kk env0 f (mdG sh fi os ts rs F):=fnG (ko h) hf (zaab hl trivial) hF hE
theorem lj {nt:Nat}{b:Code}{ts:List Ty}{rs:List (List Ty)}{ms:MS}{sh:StSh}{os:List Out}{F:curT kk.u.U (sumT kk.u.U rs) ts}(i:Nat->curT kk.u.U (sumT kk.u.U rs) ts)(t:curT kk.u.U (sumT kk.u.U rs) ts->curT kk.u.U (sumT kk.u.U rs) ts)(h:Kn ms)(hF:F=i fuel)(hl:zaav b=[]:=by kernel_rfl)(h0:i 0=curC ts:=by kernel_rfl)(hS:∀ n,i (n+1)=t (i n):=by intro _;kernel_rfl)(hE:∀ r,curL ts (fun ls=>(Kit.withModes kk (zaac ms)).turn nt jnL sh os b ls (curA ts r) (sumE rs))=t r:=by intro _;kernel_rfl):LoopR kk env0 nt b (lpG sh os ts rs F):=loopG i t (ko h) (zaab hl trivial) h0 hS hF hE
theorem lo {nt:Nat}{b:Code}{ts:List Ty}{rs:List (List Ty)}{ms:MS}{sh:StSh}{os:List Out}{F:curT kk.u.U (sumT kk.u.U rs) ts}(i:Nat->curT kk.u.U (sumT kk.u.U rs) ts)(t:curT kk.u.U (sumT kk.u.U rs) ts->curT kk.u.U (sumT kk.u.U rs) ts)(h:Kn ms)(hF:F=i fuel)(hl:zaav b=[]:=by kernel_rfl)(h0:i 0=curC ts:=by kernel_rfl)(hS:∀ n,i (n+1)=t (i n):=by intro _;kernel_rfl)(hE:∀ r,curL ts (fun ls=>(Kit.withModes kk (zaac ms)).turn nt noL sh os b ls (curA ts r) (sumE rs))=t r:=by intro _;kernel_rfl):LoopR kk env0 nt b (lpG sh os ts rs F):=loopG i t (ko h) (zaab hl trivial) h0 hS hF hE
def qbU_md:Mode U:=mdG ⟨⟨[0],[],[]⟩,[.t (.int .i32)],[]⟩ [] [⟨⟨[0],[],[]⟩,[.t (.int .i64)],[]⟩] [.int .i32] [[.int .i64]] qbU
theorem qbU_post:zaad kk env0 117 qbU_md:=
  fo (fn:=Tryz.f117) known10 (zaaa _)
def ms11:MS:=(117,qbU_md)::ms10
theorem known11:Kn ms11:=kc qbU_post known10
def qbB_b4:Code:=(zaah (zaag Tryz.f68) 0)
def qbB_lp4:Lift.Loop U:=lpG ⟨⟨[0,3,4,5,10],[3,5,10],[⟨.slot 4,4,77,(.st 77)⟩]⟩,[.t .str,.ptr 3 0,.oslc 4,.ptr 5 0,.ptr 10 0],[.blk 77 [.t (.int .i64),.t (.int .i64),.t (.int .i64),.t (.int .i64)],.blk 77 [.t (.int .i64),.t (.int .i64),.t (.int .i64),.t (.int .i64)],.sit,.row 77 (.st 77)]⟩ [⟨.ret,⟨⟨[2,3],[3],[⟨.slot 2,2,77,(.st 77)⟩]⟩,[.oslc 2,.ptr 3 0],[.blk 77 [.t (.int .i64),.t (.int .i64),.t (.int .i64),.t (.int .i64)],.row 77 (.st 77)]⟩⟩,⟨.exit 0,⟨⟨[3,4,5],[3,5],[⟨.slot 4,4,77,(.st 77)⟩]⟩,[.ptr 3 0,.oslc 4,.ptr 5 0],[.blk 77 [.t (.int .i64),.t (.int .i64),.t (.int .i64),.t (.int .i64)],.blk 77 [.t (.int .i64),.t (.int .i64),.t (.int .i64),.t (.int .i64)],.row 77 (.st 77)]⟩⟩] [.str,.int .i64,.int .i64,.int .i64,.int .i64,.int .i64,.int .i64,.int .i64,.int .i64,.str,.fn,.slc (.st 77)] [[.int .i64,.int .i64,.int .i64,.int .i64,.slc (.st 77)],[.int .i64,.int .i64,.int .i64,.int .i64,.int .i64,.int .i64,.int .i64,.int .i64,.slc (.st 77)]] qbB_l4
theorem qbB_ok4:LoopR kk env0 Tryz.f68.ntmps qbB_b4 qbB_lp4:=
  lo qbB_i4 qbB_t4 known11 (zaaa _)
def qbB_L:Nat->Option (Lift.Loop U):=fun n=>bif Nat.beq n 4 then some qbB_lp4 else none
def qbB_md:Mode U:=mdG ⟨⟨[0],[],[]⟩,[.t .str],[]⟩ [] [⟨⟨[0,1],[],[⟨.slot 0,100050,77,(.st 77)⟩]⟩,[.oslc 100050,.t (.st 77)],[.row 77 (.st 77)]⟩] [.str] [[.st 77,.slc (.st 77)]] qbB
theorem qbB_post:zaad kk env0 68 qbB_md:=
  fnG (fn:=Tryz.f68) (ko known11) (by kernel_rfl) (L:=qbB_L) (zaab (bs:=[qbB_b4]) (by kernel_rfl) ⟨.inr ⟨_,by kernel_rfl,zaal.of_round (qbB_ok4)⟩,trivial⟩) (zaaa _) (by kernel_rfl)
def ms12:MS:=(68,qbB_md)::ms11
theorem known12:Kn ms12:=kc qbB_post known11
def qbA_md:Mode U:=mdG ⟨⟨[0],[],[]⟩,[.t .str],[]⟩ [] [⟨⟨[0,1],[],[⟨.slot 0,100050,77,(.st 77)⟩]⟩,[.oslc 100050,.t (.st 30)],[.row 77 (.st 77)]⟩] [.str] [[.st 30,.slc (.st 77)]] qbA
theorem qbA_post:zaad kk env0 29 qbA_md:=
  fo (fn:=Tryz.f29) known12 (zaaa _)
def ms13:MS:=(29,qbA_md)::ms12
theorem known13:Kn ms13:=kc qbA_post known12
def qbx_md:Mode U:=mdG ⟨⟨[0],[],[]⟩,[.t (.int .i64)],[]⟩ [] [⟨⟨[0],[],[]⟩,[.t .bool],[]⟩] [.int .i64] [[.bool]] qbx
theorem qbx_post:zaad kk env0 69 qbx_md:=
  fo (fn:=Tryz.f69) known13 (zaaa _)
def ms14:MS:=(69,qbx_md)::ms13
theorem known14:Kn ms14:=kc qbx_post known13
def qan_b3:Code:=(zaah (zaag Tryz.f30) 0)
def qan_lp3:Lift.Loop U:=lpG ⟨⟨[0,3,7],[7],[]⟩,[.t .str,.t .bool,.ptr 7 0],[.sit]⟩ [⟨.ret,⟨⟨[2],[],[]⟩,[.t (.int .i64)],[]⟩⟩,⟨.exit 0,⟨⟨[0],[],[]⟩,[.t .str],[]⟩⟩] [.str,.bool,.str,.fn] [[.int .i64],[.str]] qan_l3
theorem qan_ok3:LoopR kk env0 Tryz.f30.ntmps qan_b3 qan_lp3:=
  lo qan_i3 qan_t3 known14 (zaaa _)
def qan_L:Nat->Option (Lift.Loop U):=fun n=>bif Nat.beq n 3 then some qan_lp3 else none
def qan_md:Mode U:=mdG ⟨⟨[0],[],[]⟩,[.t .str],[]⟩ [] [⟨⟨[0],[],[]⟩,[.t (.int .i64)],[]⟩] [.str] [[.int .i64]] qan
theorem qan_post:zaad kk env0 30 qan_md:=
  fnG (fn:=Tryz.f30) (ko known14) (by kernel_rfl) (L:=qan_L) (zaab (bs:=[qan_b3]) (by kernel_rfl) ⟨.inr ⟨_,by kernel_rfl,zaal.of_round (qan_ok3)⟩,trivial⟩) (zaaa _) (by kernel_rfl)
def ms15:MS:=(30,qan_md)::ms14
theorem known15:Kn ms15:=kc qan_post known14
def qbV_md:Mode U:=mdG ⟨⟨[0],[],[]⟩,[.t (.int .i32)],[]⟩ [] [⟨⟨[0],[],[]⟩,[.t .bool],[]⟩] [.int .i32] [[.bool]] qbV
theorem qbV_post:zaad kk env0 177 qbV_md:=
  fo (fn:=Tryz.f177) known15 (zaaa _)
def ms16:MS:=(177,qbV_md)::ms15
theorem known16:Kn ms16:=kc qbV_post known15
def qbC_md:Mode U:=mdG ⟨⟨[0],[],[]⟩,[.t (.int .i64)],[]⟩ [] [⟨⟨[0],[],[]⟩,[.t .bool],[]⟩] [.int .i64] [[.bool]] qbC
theorem qbC_post:zaad kk env0 149 qbC_md:=
  fo (fn:=Tryz.f149) known16 (zaaa _)
def ms17:MS:=(149,qbC_md)::ms16
theorem known17:Kn ms17:=kc qbC_post known16
def qbz_md:Mode U:=mdG ⟨⟨[0],[],[]⟩,[.t (.int .i64)],[]⟩ [] [⟨⟨[0],[],[]⟩,[.t .bool],[]⟩] [.int .i64] [[.bool]] qbz
theorem qbz_post:zaad kk env0 119 qbz_md:=
  fo (fn:=Tryz.f119) known17 (zaaa _)
def ms18:MS:=(119,qbz_md)::ms17
theorem known18:Kn ms18:=kc qbz_post known17
def qby_md:Mode U:=mdG ⟨⟨[0],[],[]⟩,[.t (.int .i64)],[]⟩ [] [⟨⟨[0],[],[]⟩,[.t .bool],[]⟩] [.int .i64] [[.bool]] qby
theorem qby_post:zaad kk env0 74 qby_md:=
  fo (fn:=Tryz.f74) known18 (zaaa _)
def ms19:MS:=(74,qby_md)::ms18
theorem known19:Kn ms19:=kc qby_post known18
def qal_md:Mode U:=mdG ⟨⟨[0],[],[]⟩,[.t (.int .i32)],[]⟩ [] [⟨⟨[0],[],[]⟩,[.t .bool],[]⟩] [.int .i32] [[.bool]] qal
theorem qal_post:zaad kk env0 71 qal_md:=
  fo (fn:=Tryz.f71) known19 (zaaa _)
def ms20:MS:=(71,qal_md)::ms19
theorem known20:Kn ms20:=kc qal_post known19
def qbE_b2:Code:=(zaah (zaag Tryz.f123) 0)
def qbE_lp2:Lift.Loop U:=lpG ⟨⟨[0,1,7,8],[],[]⟩,[.t (.slc .str),.t .str,.t (.int .i64),.t (.int .i64)],[]⟩ [⟨.ret,⟨⟨[4],[],[]⟩,[.t (.int .i64)],[]⟩⟩,⟨.exit 0,⟨⟨[],[],[]⟩,[],[]⟩⟩] [.slc .str,.str,.int .i64,.int .i64] [[.int .i64],[]] qbE_l2
theorem qbE_ok2:LoopR kk env0 Tryz.f123.ntmps qbE_b2 qbE_lp2:=
  lo qbE_i2 qbE_t2 known20 (zaaa _)
def qbE_L:Nat->Option (Lift.Loop U):=fun n=>bif Nat.beq n 2 then some qbE_lp2 else none
def qbE_md:Mode U:=mdG ⟨⟨[0,1],[],[]⟩,[.t (.slc .str),.t .str],[]⟩ [] [⟨⟨[0],[],[]⟩,[.t (.int .i64)],[]⟩] [.slc .str,.str] [[.int .i64]] qbE
theorem qbE_post:zaad kk env0 123 qbE_md:=
  fnG (fn:=Tryz.f123) (ko known20) (by kernel_rfl) (L:=qbE_L) (zaab (bs:=[qbE_b2]) (by kernel_rfl) ⟨.inr ⟨_,by kernel_rfl,zaal.of_round (qbE_ok2)⟩,trivial⟩) (zaaa _) (by kernel_rfl)
def ms21:MS:=(123,qbE_md)::ms20
theorem known21:Kn ms21:=kc qbE_post known20
def qbD_md:Mode U:=mdG ⟨⟨[0,1],[],[]⟩,[.t (.slc .str),.t .str],[]⟩ [] [⟨⟨[0],[],[]⟩,[.t .bool],[]⟩] [.slc .str,.str] [[.bool]] qbD
theorem qbD_post:zaad kk env0 76 qbD_md:=
  fo (fn:=Tryz.f76) known21 (zaaa _)
def ms22:MS:=(76,qbD_md)::ms21
theorem known22:Kn ms22:=kc qbD_post known21
def qao_md:Mode U:=mdG ⟨⟨[0],[],[]⟩,[.t .str],[]⟩ [] [⟨⟨[0],[],[]⟩,[.t .str],[]⟩] [.str] [[.str]] qao
theorem qao_post:zaad kk env0 72 qao_md:=
  fo (fn:=Tryz.f72) known22 (zaaa _)
def ms23:MS:=(72,qao_md)::ms22
theorem known23:Kn ms23:=kc qao_post known22
def qaq_b2:Code:=(zaah (zaag Tryz.f73) 0)
def qaq_lp2:Lift.Loop U:=lpG ⟨⟨[0,6],[6],[]⟩,[.t .str,.ptr 6 0],[.sit]⟩ [⟨.ret,⟨⟨[2],[],[]⟩,[.t .str],[]⟩⟩,⟨.exit 0,⟨⟨[0],[],[]⟩,[.t .str],[]⟩⟩] [.str,.str,.fn] [[.str],[.str]] qaq_l2
theorem qaq_ok2:LoopR kk env0 Tryz.f73.ntmps qaq_b2 qaq_lp2:=
  lo qaq_i2 qaq_t2 known23 (zaaa _)
def qaq_L:Nat->Option (Lift.Loop U):=fun n=>bif Nat.beq n 2 then some qaq_lp2 else none
def qaq_md:Mode U:=mdG ⟨⟨[0],[],[]⟩,[.t .str],[]⟩ [] [⟨⟨[0],[],[]⟩,[.t .str],[]⟩] [.str] [[.str]] qaq
theorem qaq_post:zaad kk env0 73 qaq_md:=
  fnG (fn:=Tryz.f73) (ko known23) (by kernel_rfl) (L:=qaq_L) (zaab (bs:=[qaq_b2]) (by kernel_rfl) ⟨.inr ⟨_,by kernel_rfl,zaal.of_round (qaq_ok2)⟩,trivial⟩) (zaaa _) (by kernel_rfl)
def ms24:MS:=(73,qaq_md)::ms23
theorem known24:Kn ms24:=kc qaq_post known23
def qam_md:Mode U:=mdG ⟨⟨[0],[],[]⟩,[.t .str],[]⟩ [] [⟨⟨[0,1],[],[]⟩,[.t (.int .i64),.t .bool],[]⟩] [.str] [[.int .i64,.bool]] qam
theorem qam_post:zaad kk env0 75 qam_md:=
  fo (fn:=Tryz.f75) known24 (zaaa _)
def ms25:MS:=(75,qam_md)::ms24
theorem known25:Kn ms25:=kc qam_post known24
def qak_md:Mode U:=mdG ⟨⟨[],[],[]⟩,[],[]⟩ [] [⟨⟨[0],[],[⟨.slot 0,100050,9,.str⟩]⟩,[.oslc 100050],[.row 9 .str]⟩] [] [[.slc .str]] qak
theorem qak_post:zaad kk env0 77 qak_md:=
  fo (fn:=Tryz.f77) known25 (zaaa _)
def ms26:MS:=(77,qak_md)::ms25
theorem known26:Kn ms26:=kc qak_post known25
def qap_md:Mode U:=mdG ⟨⟨[0],[],[]⟩,[.t .str],[]⟩ [] [⟨⟨[0,1],[],[]⟩,[.t (.st 37),.t (.int .i64)],[]⟩] [.str] [[.st 37,.int .i64]] qap
theorem qap_post:zaad kk env0 31 qap_md:=
  fo (fn:=Tryz.f31) known26 (zaaa _)
def ms27:MS:=(31,qap_md)::ms26
theorem known27:Kn ms27:=kc qap_post known26
def qaj_b6:Code:=(zaah (zaag Tryz.f13) 0)
def qaj_lp6:Lift.Loop U:=lpG ⟨⟨[0,3,6,7],[3],[⟨.slot 6,6,37,(.st 37)⟩]⟩,[.t .str,.ptr 3 0,.oslc 6,.t (.int .i64)],[.blk 30 [.t (.int .i64),.t (.int .i64),.t .str],.row 37 (.st 37)]⟩ [⟨.ret,⟨⟨[2,3],[3],[]⟩,[.nil,.ptr 3 0],[.blk 30 [.t (.int .i64),.t (.int .i64),.t .str]]⟩⟩,⟨.exit 0,⟨⟨[0,3,6],[3],[⟨.slot 6,6,37,(.st 37)⟩]⟩,[.t .str,.ptr 3 0,.oslc 6],[.blk 30 [.t (.int .i64),.t (.int .i64),.t .str],.row 37 (.st 37)]⟩⟩] [.str,.int .i64,.int .i64,.int .i64,.str,.slc (.st 37)] [[.int .i64,.int .i64,.str],[.str,.int .i64,.int .i64,.str,.slc (.st 37)]] qaj_l6
theorem qaj_ok6:LoopR kk env0 Tryz.f13.ntmps qaj_b6 qaj_lp6:=
  lo qaj_i6 qaj_t6 known27 (zaaa _)
def qaj_L:Nat->Option (Lift.Loop U):=fun n=>bif Nat.beq n 6 then some qaj_lp6 else none
def qaj_md:Mode U:=mdG ⟨⟨[0],[],[]⟩,[.t .str],[]⟩ [] [⟨⟨[0,1],[],[]⟩,[.t (.slc (.st 37)),.t (.st 30)],[]⟩] [.str] [[.slc (.st 37),.st 30]] qaj
theorem qaj_post:zaad kk env0 13 qaj_md:=
  fnG (fn:=Tryz.f13) (ko known27) (by kernel_rfl) (L:=qaj_L) (zaab (bs:=[qaj_b6]) (by kernel_rfl) ⟨.inr ⟨_,by kernel_rfl,zaal.of_round (qaj_ok6)⟩,trivial⟩) (zaaa _) (by kernel_rfl)
def ms28:MS:=(13,qaj_md)::ms27
theorem known28:Kn ms28:=kc qaj_post known27
def qax_md:Mode U:=mdG ⟨⟨[0],[100000],[]⟩,[.ptr 100000 0],[.blk 67 [.t (.slc (.st 37))]]⟩ [⟨100000,.slot 0,[]⟩] [⟨⟨[0],[100000],[]⟩,[.t (.st 37)],[.blk 67 [.t (.slc (.st 37))]]⟩] [.slc (.st 37)] [[.st 37,.slc (.st 37)]] qax
theorem qax_post:zaad kk env0 60 qax_md:=
  fj (fn:=Tryz.f60) known28 (zaaa _)
def ms29:MS:=(60,qax_md)::ms28
theorem known29:Kn ms29:=kc qax_post known28
def qav_md:Mode U:=mdG ⟨⟨[0,1],[100000],[]⟩,[.ptr 100000 0,.t .str],[.blk 67 [.t (.slc (.st 37))]]⟩ [⟨100000,.slot 0,[]⟩] [⟨⟨[0],[100000],[]⟩,[.t .bool],[.blk 67 [.t (.slc (.st 37))]]⟩] [.str,.slc (.st 37)] [[.bool,.slc (.st 37)]] qav
theorem qav_post:zaad kk env0 113 qav_md:=
  fj (fn:=Tryz.f113) known29 (zaaa _)
def ms30:MS:=(113,qav_md)::ms29
theorem known30:Kn ms30:=kc qav_post known29
def qaD_md:Mode U:=mdG ⟨⟨[0],[100000],[]⟩,[.ptr 100000 0],[.blk 67 [.t (.slc (.st 37))]]⟩ [⟨100000,.slot 0,[]⟩] [⟨⟨[0],[100000],[]⟩,[.t (.st 37)],[.blk 67 [.t (.slc (.st 37))]]⟩] [.slc (.st 37)] [[.st 37,.slc (.st 37)]] qaD
theorem qaD_post:zaad kk env0 114 qaD_md:=
  fj (fn:=Tryz.f114) known30 (zaaa _)
def ms31:MS:=(114,qaD_md)::ms30
theorem known31:Kn ms31:=kc qaD_post known30
def qaE_md:Mode U:=mdG ⟨⟨[0,1],[100000],[]⟩,[.ptr 100000 0,.t .str],[.blk 67 [.t (.slc (.st 37))]]⟩ [⟨100000,.slot 0,[]⟩] [⟨⟨[0],[100000],[]⟩,[.t .bool],[.blk 67 [.t (.slc (.st 37))]]⟩] [.str,.slc (.st 37)] [[.bool,.slc (.st 37)]] qaE
theorem qaE_post:zaad kk env0 61 qaE_md:=
  fj (fn:=Tryz.f61) known31 (zaaa _)
def ms32:MS:=(61,qaE_md)::ms31
theorem known32:Kn ms32:=kc qaE_post known31
def qaB_md:Mode U:=mdG ⟨⟨[0],[100000],[]⟩,[.ptr 100000 0],[.blk 67 [.t (.slc (.st 37))]]⟩ [⟨100000,.slot 0,[]⟩] [⟨⟨[777777],[],[]⟩,[.ifc 64 (.t (.st 64))],[]⟩] [.slc (.st 37)] [[.st 64]] qaB
theorem qaB_post:zaad kk env0 115 qaB_md:=
  fj (fn:=Tryz.f115) known32 (zaaa _)
def ms33:MS:=(115,qaB_md)::ms32
theorem known33:Kn ms33:=kc qaB_post known32
def qay_md:Mode U:=mdG ⟨⟨[0,1],[100000],[]⟩,[.ptr 100000 0,.t (.int .i64)],[.blk 67 [.t (.slc (.st 37))]]⟩ [⟨100000,.slot 0,[]⟩] [⟨⟨[0],[100000],[]⟩,[.t (.st 37)],[.blk 67 [.t (.slc (.st 37))]]⟩,⟨⟨[777777],[],[]⟩,[.ifc 64 (.t (.st 64))],[]⟩] [.int .i64,.slc (.st 37)] [[.st 37,.slc (.st 37)],[.st 64]] qay
theorem qay_post:zaad kk env0 63 qay_md:=
  fj (fn:=Tryz.f63) known33 (zaaa _)
def ms34:MS:=(63,qay_md)::ms33
theorem known34:Kn ms34:=kc qay_post known33
def qaw_md:Mode U:=mdG ⟨⟨[0],[100000],[]⟩,[.ptr 100000 0],[.blk 67 [.t (.slc (.st 37))]]⟩ [⟨100000,.slot 0,[]⟩] [⟨⟨[0],[100000],[]⟩,[.t .str],[.blk 67 [.t (.slc (.st 37))]]⟩,⟨⟨[777777],[],[]⟩,[.ifc 64 (.t (.st 64))],[]⟩] [.slc (.st 37)] [[.str,.slc (.st 37)],[.st 64]] qaw
theorem qaw_post:zaad kk env0 62 qaw_md:=
  fj (fn:=Tryz.f62) known34 (zaaa _)
def ms35:MS:=(62,qaw_md)::ms34
theorem known35:Kn ms35:=kc qaw_post known34
def qaG_md:Mode U:=mdG ⟨⟨[0,1],[100000],[]⟩,[.ptr 100000 0,.t .str],[.blk 67 [.t (.slc (.st 37))]]⟩ [⟨100000,.slot 0,[]⟩] [⟨⟨[],[100000],[]⟩,[],[.blk 67 [.t (.slc (.st 37))]]⟩,⟨⟨[777777],[],[]⟩,[.ifc 64 (.t (.st 64))],[]⟩] [.str,.slc (.st 37)] [[.slc (.st 37)],[.st 64]] qaG
theorem qaG_post:zaad kk env0 64 qaG_md:=
  fj (fn:=Tryz.f64) known35 (zaaa _)
def ms36:MS:=(64,qaG_md)::ms35
theorem known36:Kn ms36:=kc qaG_post known35
def qas_md:Mode U:=mdG ⟨⟨[],[],[]⟩,[],[]⟩ [] [⟨⟨[0],[],[⟨.slot 0,100050,196,(.map .str (.int .i64))⟩]⟩,[.oslc 100050],[.row 196 (.map .str (.int .i64))]⟩] [] [[.slc (.map .str (.int .i64))]] qas
theorem qas_post:zaad kk env0 175 qas_md:=
  fj (fn:=Tryz.f175) known36 (zaaa _)
def ms37:MS:=(175,qas_md)::ms36
theorem known37:Kn ms37:=kc qas_post known36
abbrev qaF_tr:Type:=curT U (sumT U [[.int .i64,.int .i64,.str,.slc (.st 37),.slc (.st 1050)],[.st 64]]) [.slc (.st 37)]
def qaF_rmd (rec_qaF:qaF_tr):Mode U:=mdG ⟨⟨[0],[100000],[]⟩,[.ptr 100000 0],[.blk 67 [.t (.slc (.st 37))]]⟩ [⟨100000,.slot 0,[]⟩] [⟨⟨[0],[100000],[⟨.sub 0 3,100400,50,(.st 1050)⟩]⟩,[.agg [.t (.int .i64),.t (.int .i64),.t .str,.oslc 100400]],[.blk 67 [.t (.slc (.st 37))],.row 50 (.st 1050)]⟩,⟨⟨[777777],[],[]⟩,[.ifc 64 (.t (.st 64))],[]⟩] [.slc (.st 37)] [[.int .i64,.int .i64,.str,.slc (.st 37),.slc (.st 1050)],[.st 64]] rec_qaF
abbrev qaF_rec (r:qaF_tr):Prop:=zaad kk env0 176 (qaF_rmd r)
def ms38 (rec_qaF:qaF_tr):MS:=(176,(qaF_rmd rec_qaF))::ms37
theorem known38 (rec_qaF:qaF_tr) (hrec_qaF:qaF_rec rec_qaF):Kn (ms38 rec_qaF):=kc hrec_qaF known37
abbrev qau_tr:Type:=curT U (sumT U [[.int .i64,.int .i64,.str,.slc (.st 37),.slc (.st 1050)],[.st 64]]) [.int .i64,.slc (.st 37)]
def qau_rmd (rec_qau:qau_tr):Mode U:=mdG ⟨⟨[0,1],[100000],[]⟩,[.ptr 100000 0,.t (.int .i64)],[.blk 67 [.t (.slc (.st 37))]]⟩ [⟨100000,.slot 0,[]⟩] [⟨⟨[0],[100000],[⟨.sub 0 3,100400,50,(.st 1050)⟩]⟩,[.agg [.t (.int .i64),.t (.int .i64),.t .str,.oslc 100400]],[.blk 67 [.t (.slc (.st 37))],.row 50 (.st 1050)]⟩,⟨⟨[777777],[],[]⟩,[.ifc 64 (.t (.st 64))],[]⟩] [.int .i64,.slc (.st 37)] [[.int .i64,.int .i64,.str,.slc (.st 37),.slc (.st 1050)],[.st 64]] rec_qau
abbrev qau_rec (r:qau_tr):Prop:=zaad kk env0 148 (qau_rmd r)
def ms39 (rec_qaF:qaF_tr) (rec_qau:qau_tr):MS:=(148,(qau_rmd rec_qau))::(ms38 rec_qaF)
theorem known39 (rec_qaF:qaF_tr) (hrec_qaF:qaF_rec rec_qaF) (rec_qau:qau_tr) (hrec_qau:qau_rec rec_qau):Kn (ms39 rec_qaF rec_qau):=kc hrec_qau (known38 rec_qaF hrec_qaF)
def qaF_md (rec_qau:qau_tr):Mode U:=qaF_rmd (qaF rec_qau)
theorem qaF_step (rec_qaF:qaF_tr) (hrec_qaF:qaF_rec rec_qaF) (rec_qau:qau_tr) (hrec_qau:qau_rec rec_qau):zaaq (Kit.withModes kk (zaac (ms39 rec_qaF rec_qau))) env0 Tryz.f176.ntmps jnL (zaag Tryz.f176):=zaab (bs:=[]) (by kernel_rfl) trivial
theorem qaF_post (rec_qau:qau_tr) (hrec_qau:qau_rec rec_qau):zaad kk env0 176 (qaF_rmd (qaF rec_qau)):=
  recG (qaF_i rec_qau) (fun r=>qaF_f r rec_qau) (by kernel_rfl) (fun _=>by kernel_rfl) (zaaa _) fun r ih=>fnG (fn:=Tryz.f176) (ko (known39 r ih rec_qau hrec_qau)) (by kernel_rfl) (qaF_step r ih rec_qau hrec_qau) rfl (by kernel_rfl)
def ms40 (rec_qau:qau_tr):MS:=(148,(qau_rmd rec_qau))::ms37
theorem known40 (rec_qau:qau_tr) (hrec_qau:qau_rec rec_qau):Kn (ms40 rec_qau):=kc hrec_qau known37
def ms41 (rec_qau:qau_tr):MS:=(176,(qaF_md rec_qau))::(ms40 rec_qau)
theorem known41 (rec_qau:qau_tr) (hrec_qau:qau_rec rec_qau):Kn (ms41 rec_qau):=kc (qaF_post rec_qau hrec_qau) (known40 rec_qau hrec_qau)
def qau_b5:Code:=(zaah (zaag Tryz.f148) 0)
def qau_L5 (rec_qau:qau_tr):Nat->Option (Lift.Loop U):=fun n=>bif Nat.beq n zaar then some zaao else bif Nat.beq n (zajb+9) then some (zale 5) else none
def qau_lp5 (rec_qau:qau_tr):Lift.Loop U:=lpG ⟨⟨[0,1,4,5,6],[100000,4,6],[⟨.slot 5,5,196,(.map .str (.int .i64))⟩,⟨.cell 6 3,20303,50,(.st 1050)⟩]⟩,[.ptr 100000 0,.t (.int .i64),.ptr 4 0,.oslc 5,.ptr 6 0],[.blk 67 [.t (.slc (.st 37))],.blk 50 [.t (.int .i64),.t (.int .i64),.t .str,.nil],.blk 50 [.t (.int .i64),.t (.int .i64),.t .str,.oslc 20303],.row 196 (.map .str (.int .i64)),.row 50 (.st 1050)]⟩ [⟨.exit 0,⟨⟨[4,6],[100000,4,6],[⟨.cell 6 3,20303,50,(.st 1050)⟩]⟩,[.ptr 4 0,.ptr 6 0],[.blk 67 [.t (.slc (.st 37))],.blk 50 [.t (.int .i64),.t (.int .i64),.t .str,.nil],.blk 50 [.t (.int .i64),.t (.int .i64),.t .str,.oslc 20303],.row 50 (.st 1050)]⟩⟩,⟨.pan,⟨⟨[777777],[],[]⟩,[.ifc 64 (.t (.st 64))],[]⟩⟩] [.int .i64,.slc (.st 37),.int .i64,.int .i64,.str,.int .i64,.int .i64,.str,.slc (.map .str (.int .i64)),.slc (.st 1050)] [[.slc (.st 37),.int .i64,.int .i64,.str,.int .i64,.int .i64,.str,.slc (.st 1050)],[.st 64]] (qau_l5 rec_qau)
theorem qau_ok5 (rec_qau:qau_tr) (hrec_qau:qau_rec rec_qau):LoopR kk env0 Tryz.f148.ntmps qau_b5 (qau_lp5 rec_qau):=
  loopG (qau_i5 rec_qau) (qau_t5 rec_qau) (ko (known41 rec_qau hrec_qau)) (L:=(qau_L5 rec_qau)) (zaab (bs:=[]) (by kernel_rfl) trivial) (by kernel_rfl) (fun _=>by kernel_rfl) (zaaa _) (fun _=>by kernel_rfl)
def qau_L (rec_qau:qau_tr):Nat->Option (Lift.Loop U):=fun n=>bif Nat.beq n zaar then some zaao else bif Nat.beq n (zajb+9) then some (zale 5) else bif Nat.beq n 5 then some (qau_lp5 rec_qau) else none
def qau_md:Mode U:=qau_rmd qau
theorem qau_step (rec_qau:qau_tr) (hrec_qau:qau_rec rec_qau):zaaq (Kit.withModes kk (zaac (ms41 rec_qau))) env0 Tryz.f148.ntmps (qau_L rec_qau) (zaag Tryz.f148):=zaab (bs:=[qau_b5]) (by kernel_rfl) ⟨.inr ⟨_,by kernel_rfl,zaal.of_round (qau_ok5 rec_qau hrec_qau)⟩,trivial⟩
theorem qau_post:zaad kk env0 148 (qau_rmd qau):=
  recG qau_i qau_f (by kernel_rfl) (fun _=>by kernel_rfl) (zaaa _) fun r ih=>fnG (fn:=Tryz.f148) (ko (known41 r ih)) (by kernel_rfl) (qau_step r ih) rfl (by kernel_rfl)
def ms42:MS:=(148,qau_md)::ms37
theorem known42:Kn ms42:=kc qau_post known37
def qaz_md:Mode U:=mdG ⟨⟨[0],[100000],[]⟩,[.ptr 100000 0],[.blk 67 [.t (.slc (.st 37))]]⟩ [⟨100000,.slot 0,[]⟩] [⟨⟨[0],[100000],[⟨.sub 0 6,100700,50,(.st 1050)⟩,⟨.sub 0 8,100900,52,(.st 1052)⟩,⟨.sub 0 9,101000,52,(.st 1052)⟩]⟩,[.agg [.t (.int .i64),.t .str,.t .str,.t (.int .i64),.t (.int .i64),.t .str,.oslc 100700,.t (.int .i64),.oslc 100900,.oslc 101000]],[.blk 67 [.t (.slc (.st 37))],.row 50 (.st 1050),.row 52 (.st 1052),.row 52 (.st 1052)]⟩,⟨⟨[777777],[],[]⟩,[.ifc 64 (.t (.st 64))],[]⟩] [.slc (.st 37)] [[.int .i64,.str,.str,.int .i64,.int .i64,.str,.int .i64,.slc (.st 37),.slc (.st 1050),.slc (.st 1052),.slc (.st 1052)],[.st 64]] qaz
theorem qaz_post:zaad kk env0 147 qaz_md:=
  fj (fn:=Tryz.f147) known42 (zaaa _)
def ms43:MS:=(147,qaz_md)::ms42
theorem known43:Kn ms43:=kc qaz_post known42
abbrev qat_tr:Type:=curT U (sumT U [[.slc (.st 37),.slc (.st 1052)],[.st 64]]) [.slc (.st 37)]
def qat_rmd (rec_qat:qat_tr):Mode U:=mdG ⟨⟨[0],[100000],[]⟩,[.ptr 100000 0],[.blk 67 [.t (.slc (.st 37))]]⟩ [⟨100000,.slot 0,[]⟩] [⟨⟨[0],[100000],[⟨.slot 0,100050,52,(.st 1052)⟩]⟩,[.oslc 100050],[.blk 67 [.t (.slc (.st 37))],.row 52 (.st 1052)]⟩,⟨⟨[777777],[],[]⟩,[.ifc 64 (.t (.st 64))],[]⟩] [.slc (.st 37)] [[.slc (.st 37),.slc (.st 1052)],[.st 64]] rec_qat
abbrev qat_rec (r:qat_tr):Prop:=zaad kk env0 65 (qat_rmd r)
def ms44 (rec_qat:qat_tr):MS:=(65,(qat_rmd rec_qat))::ms43
theorem known44 (rec_qat:qat_tr) (hrec_qat:qat_rec rec_qat):Kn (ms44 rec_qat):=kc hrec_qat known43
def qaC_b4:Code:=(zaah (zaag Tryz.f116) 0)
def qaC_lp4 (rec_qat:qat_tr):Lift.Loop U:=lpG ⟨⟨[0,2,16,17,18],[100000,2],[⟨.slot 16,16,9,.str⟩]⟩,[.ptr 100000 0,.ptr 2 0,.oslc 16,.t (.int .i64),.t (.int .i64)],[.blk 67 [.t (.slc (.st 37))],.blk 52 [.t (.int .i64),.t .str,.t .str,.t (.int .i64),.t (.int .i64),.t .str,.nil,.t (.int .i64),.nil,.nil],.row 9 .str]⟩ [⟨.ret,⟨⟨[2],[100000,2],[]⟩,[.ptr 2 0],[.blk 67 [.t (.slc (.st 37))],.blk 52 [.t (.int .i64),.t .str,.t .str,.t (.int .i64),.t (.int .i64),.t .str,.nil,.t (.int .i64),.nil,.nil]]⟩⟩,⟨.pan,⟨⟨[777777],[],[]⟩,[.ifc 64 (.t (.st 64))],[]⟩⟩,⟨.exit 0,⟨⟨[0,2],[100000,2],[]⟩,[.ptr 100000 0,.ptr 2 0],[.blk 67 [.t (.slc (.st 37))],.blk 52 [.t (.int .i64),.t .str,.t .str,.t (.int .i64),.t (.int .i64),.t .str,.nil,.t (.int .i64),.nil,.nil]]⟩⟩] [.int .i64,.int .i64,.slc (.st 37),.int .i64,.str,.str,.int .i64,.int .i64,.str,.int .i64,.slc .str] [[.slc (.st 37),.int .i64,.str,.str,.int .i64,.int .i64,.str,.int .i64],[.st 64],[.slc (.st 37),.int .i64,.str,.str,.int .i64,.int .i64,.str,.int .i64]] (qaC_l4 rec_qat)
theorem qaC_ok4 (rec_qat:qat_tr) (hrec_qat:qat_rec rec_qat):LoopR kk env0 Tryz.f116.ntmps qaC_b4 (qaC_lp4 rec_qat):=
  lj (qaC_i4 rec_qat) (qaC_t4 rec_qat) (known44 rec_qat hrec_qat) (zaaa _)
def qaC_L (rec_qat:qat_tr):Nat->Option (Lift.Loop U):=fun n=>bif Nat.beq n zaar then some zaao else bif Nat.beq n 4 then some (qaC_lp4 rec_qat) else none
def qaC_md (rec_qat:qat_tr):Mode U:=mdG ⟨⟨[0],[100000],[]⟩,[.ptr 100000 0],[.blk 67 [.t (.slc (.st 37))]]⟩ [⟨100000,.slot 0,[]⟩] [⟨⟨[0],[100000],[⟨.sub 0 6,100700,50,(.st 1050)⟩,⟨.sub 0 8,100900,52,(.st 1052)⟩,⟨.sub 0 9,101000,52,(.st 1052)⟩]⟩,[.agg [.t (.int .i64),.t .str,.t .str,.t (.int .i64),.t (.int .i64),.t .str,.oslc 100700,.t (.int .i64),.oslc 100900,.oslc 101000]],[.blk 67 [.t (.slc (.st 37))],.row 50 (.st 1050),.row 52 (.st 1052),.row 52 (.st 1052)]⟩,⟨⟨[777777],[],[]⟩,[.ifc 64 (.t (.st 64))],[]⟩] [.slc (.st 37)] [[.int .i64,.str,.str,.int .i64,.int .i64,.str,.int .i64,.slc (.st 37),.slc (.st 1050),.slc (.st 1052),.slc (.st 1052)],[.st 64]] (qaC rec_qat)
theorem qaC_post (rec_qat:qat_tr) (hrec_qat:qat_rec rec_qat):zaad kk env0 116 (qaC_md rec_qat):=
  fnG (fn:=Tryz.f116) (ko (known44 rec_qat hrec_qat)) (by kernel_rfl) (L:=(qaC_L rec_qat)) (zaab (bs:=[qaC_b4]) (by kernel_rfl) ⟨.inr ⟨_,by kernel_rfl,zaal.of_round (qaC_ok4 rec_qat hrec_qat)⟩,trivial⟩) (zaaa _) (by kernel_rfl)
def ms45 (rec_qat:qat_tr):MS:=(116,(qaC_md rec_qat))::(ms44 rec_qat)
theorem known45 (rec_qat:qat_tr) (hrec_qat:qat_rec rec_qat):Kn (ms45 rec_qat):=kc (qaC_post rec_qat hrec_qat) (known44 rec_qat hrec_qat)
def qat_b3:Code:=(zaah (zaag Tryz.f65) 0)
def qat_lp3 (rec_qat:qat_tr):Lift.Loop U:=lpG ⟨⟨[0,3],[100000],[⟨.slot 3,3,52,(.st 1052)⟩]⟩,[.ptr 100000 0,.oslc 3],[.blk 67 [.t (.slc (.st 37))],.row 52 (.st 1052)]⟩ [⟨.pan,⟨⟨[777777],[],[]⟩,[.ifc 64 (.t (.st 64))],[]⟩⟩,⟨.exit 0,⟨⟨[3],[100000],[⟨.slot 3,3,52,(.st 1052)⟩]⟩,[.oslc 3],[.blk 67 [.t (.slc (.st 37))],.row 52 (.st 1052)]⟩⟩] [.slc (.st 37),.slc (.st 1052)] [[.st 64],[.slc (.st 37),.slc (.st 1052)]] (qat_l3 rec_qat)
theorem qat_ok3 (rec_qat:qat_tr) (hrec_qat:qat_rec rec_qat):LoopR kk env0 Tryz.f65.ntmps qat_b3 (qat_lp3 rec_qat):=
  lj (qat_i3 rec_qat) (qat_t3 rec_qat) (known45 rec_qat hrec_qat) (zaaa _)
def qat_L (rec_qat:qat_tr):Nat->Option (Lift.Loop U):=fun n=>bif Nat.beq n zaar then some zaao else bif Nat.beq n 3 then some (qat_lp3 rec_qat) else none
def qat_md:Mode U:=qat_rmd qat
theorem qat_step (rec_qat:qat_tr) (hrec_qat:qat_rec rec_qat):zaaq (Kit.withModes kk (zaac (ms45 rec_qat))) env0 Tryz.f65.ntmps (qat_L rec_qat) (zaag Tryz.f65):=zaab (bs:=[qat_b3]) (by kernel_rfl) ⟨.inr ⟨_,by kernel_rfl,zaal.of_round (qat_ok3 rec_qat hrec_qat)⟩,trivial⟩
theorem qat_post:zaad kk env0 65 (qat_rmd qat):=
  recG qat_i qat_f (by kernel_rfl) (fun _=>by kernel_rfl) (zaaa _) fun r ih=>fnG (fn:=Tryz.f65) (ko (known45 r ih)) (by kernel_rfl) (qat_step r ih) rfl (by kernel_rfl)
def ms46:MS:=(65,qat_md)::ms43
theorem known46:Kn ms46:=kc qat_post known43
def qaA_b2:Code:=(zaah (zaag Tryz.f27) 0)
def qaA_L2:Nat->Option (Lift.Loop U):=fun n=>bif Nat.beq n zaar then some zaao else bif Nat.beq n (zajb+17) then some (zale 3) else none
def qaA_lp2:Lift.Loop U:=lpG ⟨⟨[0,2,3],[100000,2,3],[⟨.cell 3 0,20150,62,(.st 62)⟩,⟨.cell 3 1,20151,9,.str⟩,⟨.cell 3 2,20152,46,(.st 1046)⟩]⟩,[.ptr 100000 0,.ptr 2 0,.ptr 3 0],[.blk 67 [.t (.slc (.st 37))],.blk 27 [.nil,.nil,.nil],.blk 27 [.oslc 20150,.oslc 20151,.oslc 20152],.row 62 (.st 62),.row 9 .str,.row 46 (.st 1046)]⟩ [⟨.pan,⟨⟨[777777],[],[]⟩,[.ifc 64 (.t (.st 64))],[]⟩⟩,⟨.exit 0,⟨⟨[2,3],[100000,2,3],[⟨.cell 3 0,20150,62,(.st 62)⟩,⟨.cell 3 1,20151,9,.str⟩,⟨.cell 3 2,20152,46,(.st 1046)⟩]⟩,[.ptr 2 0,.ptr 3 0],[.blk 67 [.t (.slc (.st 37))],.blk 27 [.nil,.nil,.nil],.blk 27 [.oslc 20150,.oslc 20151,.oslc 20152],.row 62 (.st 62),.row 9 .str,.row 46 (.st 1046)]⟩⟩] [.slc (.st 37),.slc (.st 62),.slc .str,.slc (.st 1046)] [[.st 64],[.slc (.st 37),.slc (.st 62),.slc .str,.slc (.st 1046)]] qaA_l2
theorem qaA_ok2:LoopR kk env0 Tryz.f27.ntmps qaA_b2 qaA_lp2:=
  loopG qaA_i2 qaA_t2 (ko known46) (L:=qaA_L2) (zaab (bs:=[]) (by kernel_rfl) trivial) (by kernel_rfl) (fun _=>by kernel_rfl) (zaaa _) (fun _=>by kernel_rfl)
def qaA_L:Nat->Option (Lift.Loop U):=fun n=>bif Nat.beq n zaar then some zaao else bif Nat.beq n (zajb+17) then some (zale 3) else bif Nat.beq n 2 then some qaA_lp2 else none
def qaA_md:Mode U:=mdG ⟨⟨[0],[100000],[]⟩,[.ptr 100000 0],[.blk 67 [.t (.slc (.st 37))]]⟩ [⟨100000,.slot 0,[]⟩] [⟨⟨[0],[100000],[⟨.sub 0 0,100100,62,(.st 62)⟩,⟨.sub 0 1,100200,9,.str⟩,⟨.sub 0 2,100300,46,(.st 1046)⟩]⟩,[.agg [.oslc 100100,.oslc 100200,.oslc 100300]],[.blk 67 [.t (.slc (.st 37))],.row 62 (.st 62),.row 9 .str,.row 46 (.st 1046)]⟩,⟨⟨[777777],[],[]⟩,[.ifc 64 (.t (.st 64))],[]⟩] [.slc (.st 37)] [[.slc (.st 37),.slc (.st 62),.slc .str,.slc (.st 1046)],[.st 64]] qaA
theorem qaA_post:zaad kk env0 27 qaA_md:=
  fnG (fn:=Tryz.f27) (ko known46) (by kernel_rfl) (L:=qaA_L) (zaab (bs:=[qaA_b2]) (by kernel_rfl) ⟨.inr ⟨_,by kernel_rfl,zaal.of_round (qaA_ok2)⟩,trivial⟩) (zaaa _) (by kernel_rfl)
def ms47:MS:=(27,qaA_md)::ms46
theorem known47:Kn ms47:=kc qaA_post known46
def qbJ_md:Mode U:=mdG ⟨⟨[0,1,2],[100000],[]⟩,[.t (.st 52),.t (.int .i64),.ptr 100000 0],[.blk 3 [.t (.int .i64)]]⟩ [⟨100000,.slot 2,[]⟩] [⟨⟨[],[100000],[]⟩,[],[.blk 3 [.t (.int .i64)]]⟩] [.st 52,.int .i64,.int .i64] [[.int .i64]] qbJ
theorem qbJ_post:zaad kk env0 66 qbJ_md:=
  fj (fn:=Tryz.f66) known47 (zaaa _)
def ms48:MS:=(66,qbJ_md)::ms47
theorem known48:Kn ms48:=kc qbJ_post known47
def qbK_md:Mode U:=mdG ⟨⟨[0,1,2],[100000],[]⟩,[.t (.st 50),.t (.int .i64),.ptr 100000 0],[.blk 3 [.t (.int .i64)]]⟩ [⟨100000,.slot 2,[]⟩] [⟨⟨[],[100000],[]⟩,[],[.blk 3 [.t (.int .i64)]]⟩] [.st 50,.int .i64,.int .i64] [[.int .i64]] qbK
theorem qbK_post:zaad kk env0 67 qbK_md:=
  fj (fn:=Tryz.f67) known48 (zaaa _)
def ms49:MS:=(67,qbK_md)::ms48
theorem known49:Kn ms49:=kc qbK_post known48
abbrev qaa_tr:Type:=curT U (sumT U [[.int .i64]]) [.st 50,.int .i64,.int .i64]
def qaa_rmd (rec_qaa:qaa_tr):Mode U:=mdG ⟨⟨[0,1,2],[100000],[]⟩,[.agg [.clo 66 [.ptr 100000 0],.clo 67 [.ptr 100000 0]],.t (.st 50),.t (.int .i64)],[.blk 3 [.t (.int .i64)]]⟩ [⟨100000,.slot 0,[0,0]⟩] [⟨⟨[],[100000],[]⟩,[],[.blk 3 [.t (.int .i64)]]⟩] [.st 50,.int .i64,.int .i64] [[.int .i64]] rec_qaa
abbrev qaa_rec (r:qaa_tr):Prop:=zaad kk env0 129 (qaa_rmd r)
def ms50 (rec_qaa:qaa_tr):MS:=(129,(qaa_rmd rec_qaa))::ms49
theorem known50 (rec_qaa:qaa_tr) (hrec_qaa:qaa_rec rec_qaa):Kn (ms50 rec_qaa):=kc hrec_qaa known49
def qaa_b3:Code:=(zaah (zaag Tryz.f129) 0)
def qaa_lp3 (rec_qaa:qaa_tr):Lift.Loop U:=lpG ⟨⟨[2,3,14,15,16],[100000,3],[]⟩,[.t (.int .i64),.ptr 3 0,.t (.slc (.st 50)),.t (.int .i64),.t (.int .i64)],[.blk 3 [.t (.int .i64)],.blk 89 [.clo 66 [.ptr 100000 0],.clo 67 [.ptr 100000 0]]]⟩ [⟨.exit 0,⟨⟨[],[100000],[]⟩,[],[.blk 3 [.t (.int .i64)]]⟩⟩] [.int .i64,.slc (.st 50),.int .i64,.int .i64,.int .i64] [[.int .i64]] (qaa_l3 rec_qaa)
theorem qaa_ok3 (rec_qaa:qaa_tr) (hrec_qaa:qaa_rec rec_qaa):LoopR kk env0 Tryz.f129.ntmps qaa_b3 (qaa_lp3 rec_qaa):=
  lj (qaa_i3 rec_qaa) (qaa_t3 rec_qaa) (known50 rec_qaa hrec_qaa) (zaaa _)
def qaa_L (rec_qaa:qaa_tr):Nat->Option (Lift.Loop U):=fun n=>bif Nat.beq n zaar then some zaao else bif Nat.beq n 3 then some (qaa_lp3 rec_qaa) else none
def qaa_md:Mode U:=qaa_rmd qaa
theorem qaa_step (rec_qaa:qaa_tr) (hrec_qaa:qaa_rec rec_qaa):zaaq (Kit.withModes kk (zaac (ms50 rec_qaa))) env0 Tryz.f129.ntmps (qaa_L rec_qaa) (zaag Tryz.f129):=zaab (bs:=[qaa_b3]) (by kernel_rfl) ⟨.inr ⟨_,by kernel_rfl,zaal.of_round (qaa_ok3 rec_qaa hrec_qaa)⟩,trivial⟩
theorem qaa_post:zaad kk env0 129 (qaa_rmd qaa):=
  recG qaa_i qaa_f (by kernel_rfl) (fun _=>by kernel_rfl) (zaaa _) fun r ih=>fnG (fn:=Tryz.f129) (ko (known50 r ih)) (by kernel_rfl) (qaa_step r ih) rfl (by kernel_rfl)
def ms51:MS:=(129,qaa_md)::ms49
theorem known51:Kn ms51:=kc qaa_post known49
abbrev qag_tr:Type:=curT U (sumT U [[.int .i64]]) [.slc (.st 52),.int .i64,.int .i64]
def qag_rmd (rec_qag:qag_tr):Mode U:=mdG ⟨⟨[0,1,2],[100000],[]⟩,[.agg [.clo 66 [.ptr 100000 0],.clo 67 [.ptr 100000 0]],.t (.slc (.st 52)),.t (.int .i64)],[.blk 3 [.t (.int .i64)]]⟩ [⟨100000,.slot 0,[0,0]⟩] [⟨⟨[],[100000],[]⟩,[],[.blk 3 [.t (.int .i64)]]⟩] [.slc (.st 52),.int .i64,.int .i64] [[.int .i64]] rec_qag
abbrev qag_rec (r:qag_tr):Prop:=zaad kk env0 89 (qag_rmd r)
def ms52 (rec_qag:qag_tr):MS:=(89,(qag_rmd rec_qag))::ms51
theorem known52 (rec_qag:qag_tr) (hrec_qag:qag_rec rec_qag):Kn (ms52 rec_qag):=kc hrec_qag known51
def qag_b2:Code:=(zaah (zaag Tryz.f89) 0)
def qag_lp2 (rec_qag:qag_tr):Lift.Loop U:=lpG ⟨⟨[2,3,8,9,10],[100000,3],[]⟩,[.t (.int .i64),.ptr 3 0,.t (.slc (.st 52)),.t (.int .i64),.t (.int .i64)],[.blk 3 [.t (.int .i64)],.blk 89 [.clo 66 [.ptr 100000 0],.clo 67 [.ptr 100000 0]]]⟩ [⟨.exit 0,⟨⟨[],[100000],[]⟩,[],[.blk 3 [.t (.int .i64)]]⟩⟩] [.int .i64,.slc (.st 52),.int .i64,.int .i64,.int .i64] [[.int .i64]] (qag_l2 rec_qag)
theorem qag_ok2 (rec_qag:qag_tr) (hrec_qag:qag_rec rec_qag):LoopR kk env0 Tryz.f89.ntmps qag_b2 (qag_lp2 rec_qag):=
  lj (qag_i2 rec_qag) (qag_t2 rec_qag) (known52 rec_qag hrec_qag) (zaaa _)
def qag_L (rec_qag:qag_tr):Nat->Option (Lift.Loop U):=fun n=>bif Nat.beq n zaar then some zaao else bif Nat.beq n 2 then some (qag_lp2 rec_qag) else none
def qag_md:Mode U:=qag_rmd qag
theorem qag_step (rec_qag:qag_tr) (hrec_qag:qag_rec rec_qag):zaaq (Kit.withModes kk (zaac (ms52 rec_qag))) env0 Tryz.f89.ntmps (qag_L rec_qag) (zaag Tryz.f89):=zaab (bs:=[qag_b2]) (by kernel_rfl) ⟨.inr ⟨_,by kernel_rfl,zaal.of_round (qag_ok2 rec_qag hrec_qag)⟩,trivial⟩
theorem qag_post:zaad kk env0 89 (qag_rmd qag):=
  recG qag_i qag_f (by kernel_rfl) (fun _=>by kernel_rfl) (zaaa _) fun r ih=>fnG (fn:=Tryz.f89) (ko (known52 r ih)) (by kernel_rfl) (qag_step r ih) rfl (by kernel_rfl)
def ms53:MS:=(89,qag_md)::ms51
theorem known53:Kn ms53:=kc qag_post known51
def qad_b2:Code:=(zaah (zaag Tryz.f43) 0)
def qad_lp2:Lift.Loop U:=lpG ⟨⟨[2,7,8,9],[100000,2],[]⟩,[.ptr 2 0,.t (.slc (.st 46)),.t (.int .i64),.t (.int .i64)],[.blk 3 [.t (.int .i64)],.blk 89 [.clo 66 [.ptr 100000 0],.clo 67 [.ptr 100000 0]]]⟩ [⟨.exit 0,⟨⟨[],[100000],[]⟩,[],[.blk 3 [.t (.int .i64)]]⟩⟩] [.slc (.st 46),.int .i64,.int .i64,.int .i64] [[.int .i64]] qad_l2
theorem qad_ok2:LoopR kk env0 Tryz.f43.ntmps qad_b2 qad_lp2:=
  lj qad_i2 qad_t2 known53 (zaaa _)
def qad_L:Nat->Option (Lift.Loop U):=fun n=>bif Nat.beq n zaar then some zaao else bif Nat.beq n 2 then some qad_lp2 else none
def qad_md:Mode U:=mdG ⟨⟨[0,1],[100000],[]⟩,[.agg [.clo 66 [.ptr 100000 0],.clo 67 [.ptr 100000 0]],.t (.st 27)],[.blk 3 [.t (.int .i64)]]⟩ [⟨100000,.slot 0,[0,0]⟩] [⟨⟨[],[100000],[]⟩,[],[.blk 3 [.t (.int .i64)]]⟩] [.st 27,.int .i64] [[.int .i64]] qad
theorem qad_post:zaad kk env0 43 qad_md:=
  fnG (fn:=Tryz.f43) (ko known53) (by kernel_rfl) (L:=qad_L) (zaab (bs:=[qad_b2]) (by kernel_rfl) ⟨.inr ⟨_,by kernel_rfl,zaal.of_round (qad_ok2)⟩,trivial⟩) (zaaa _) (by kernel_rfl)
def ms54:MS:=(43,qad_md)::ms53
theorem known54:Kn ms54:=kc qad_post known53
def qbI_md:Mode U:=mdG ⟨⟨[0],[],[]⟩,[.t (.st 27)],[]⟩ [] [⟨⟨[0],[],[]⟩,[.t (.int .i64)],[]⟩] [.st 27] [[.int .i64]] qbI
theorem qbI_post:zaad kk env0 28 qbI_md:=
  fj (fn:=Tryz.f28) known54 (zaaa _)
def ms55:MS:=(28,qbI_md)::ms54
theorem known55:Kn ms55:=kc qbI_post known54
def qbG_md:Mode U:=mdG ⟨⟨[0,1,2],[100000],[]⟩,[.t (.st 52),.t (.int .i64),.ptr 100000 0],[.blk 3 [.t (.int .i64)]]⟩ [⟨100000,.slot 2,[]⟩] [⟨⟨[],[100000],[]⟩,[],[.blk 3 [.t (.int .i64)]]⟩] [.st 52,.int .i64,.int .i64] [[.int .i64]] qbG
theorem qbG_post:zaad kk env0 41 qbG_md:=
  fj (fn:=Tryz.f41) known55 (zaaa _)
def ms56:MS:=(41,qbG_md)::ms55
theorem known56:Kn ms56:=kc qbG_post known55
def qbH_md:Mode U:=mdG ⟨⟨[0,1,2],[100000],[]⟩,[.t (.st 50),.t (.int .i64),.ptr 100000 0],[.blk 3 [.t (.int .i64)]]⟩ [⟨100000,.slot 2,[]⟩] [⟨⟨[],[100000],[]⟩,[],[.blk 3 [.t (.int .i64)]]⟩] [.st 50,.int .i64,.int .i64] [[.int .i64]] qbH
theorem qbH_post:zaad kk env0 42 qbH_md:=
  fj (fn:=Tryz.f42) known56 (zaaa _)
def ms57:MS:=(42,qbH_md)::ms56
theorem known57:Kn ms57:=kc qbH_post known56
abbrev qab_tr:Type:=curT U (sumT U [[.int .i64]]) [.st 50,.int .i64,.int .i64]
def qab_rmd (rec_qab:qab_tr):Mode U:=mdG ⟨⟨[0,1,2],[100000],[]⟩,[.agg [.clo 41 [.ptr 100000 0],.clo 42 [.ptr 100000 0]],.t (.st 50),.t (.int .i64)],[.blk 3 [.t (.int .i64)]]⟩ [⟨100000,.slot 0,[0,0]⟩] [⟨⟨[],[100000],[]⟩,[],[.blk 3 [.t (.int .i64)]]⟩] [.st 50,.int .i64,.int .i64] [[.int .i64]] rec_qab
abbrev qab_rec (r:qab_tr):Prop:=zaad kk env0 129 (qab_rmd r)
def ms58 (rec_qab:qab_tr):MS:=(129,(qab_rmd rec_qab))::ms57
theorem known58 (rec_qab:qab_tr) (hrec_qab:qab_rec rec_qab):Kn (ms58 rec_qab):=kc hrec_qab known57
def qab_b3:Code:=(zaah (zaag Tryz.f129) 0)
def qab_lp3 (rec_qab:qab_tr):Lift.Loop U:=lpG ⟨⟨[2,3,14,15,16],[100000,3],[]⟩,[.t (.int .i64),.ptr 3 0,.t (.slc (.st 50)),.t (.int .i64),.t (.int .i64)],[.blk 3 [.t (.int .i64)],.blk 89 [.clo 41 [.ptr 100000 0],.clo 42 [.ptr 100000 0]]]⟩ [⟨.exit 0,⟨⟨[],[100000],[]⟩,[],[.blk 3 [.t (.int .i64)]]⟩⟩] [.int .i64,.slc (.st 50),.int .i64,.int .i64,.int .i64] [[.int .i64]] (qab_l3 rec_qab)
theorem qab_ok3 (rec_qab:qab_tr) (hrec_qab:qab_rec rec_qab):LoopR kk env0 Tryz.f129.ntmps qab_b3 (qab_lp3 rec_qab):=
  lj (qab_i3 rec_qab) (qab_t3 rec_qab) (known58 rec_qab hrec_qab) (zaaa _)
def qab_L (rec_qab:qab_tr):Nat->Option (Lift.Loop U):=fun n=>bif Nat.beq n zaar then some zaao else bif Nat.beq n 3 then some (qab_lp3 rec_qab) else none
def qab_md:Mode U:=qab_rmd qab
theorem qab_step (rec_qab:qab_tr) (hrec_qab:qab_rec rec_qab):zaaq (Kit.withModes kk (zaac (ms58 rec_qab))) env0 Tryz.f129.ntmps (qab_L rec_qab) (zaag Tryz.f129):=zaab (bs:=[qab_b3]) (by kernel_rfl) ⟨.inr ⟨_,by kernel_rfl,zaal.of_round (qab_ok3 rec_qab hrec_qab)⟩,trivial⟩
theorem qab_post:zaad kk env0 129 (qab_rmd qab):=
  recG qab_i qab_f (by kernel_rfl) (fun _=>by kernel_rfl) (zaaa _) fun r ih=>fnG (fn:=Tryz.f129) (ko (known58 r ih)) (by kernel_rfl) (qab_step r ih) rfl (by kernel_rfl)
def ms59:MS:=(129,qab_md)::ms57
theorem known59:Kn ms59:=kc qab_post known57
abbrev qah_tr:Type:=curT U (sumT U [[.int .i64]]) [.slc (.st 52),.int .i64,.int .i64]
def qah_rmd (rec_qah:qah_tr):Mode U:=mdG ⟨⟨[0,1,2],[100000],[]⟩,[.agg [.clo 41 [.ptr 100000 0],.clo 42 [.ptr 100000 0]],.t (.slc (.st 52)),.t (.int .i64)],[.blk 3 [.t (.int .i64)]]⟩ [⟨100000,.slot 0,[0,0]⟩] [⟨⟨[],[100000],[]⟩,[],[.blk 3 [.t (.int .i64)]]⟩] [.slc (.st 52),.int .i64,.int .i64] [[.int .i64]] rec_qah
abbrev qah_rec (r:qah_tr):Prop:=zaad kk env0 89 (qah_rmd r)
def ms60 (rec_qah:qah_tr):MS:=(89,(qah_rmd rec_qah))::ms59
theorem known60 (rec_qah:qah_tr) (hrec_qah:qah_rec rec_qah):Kn (ms60 rec_qah):=kc hrec_qah known59
def qah_b2:Code:=(zaah (zaag Tryz.f89) 0)
def qah_lp2 (rec_qah:qah_tr):Lift.Loop U:=lpG ⟨⟨[2,3,8,9,10],[100000,3],[]⟩,[.t (.int .i64),.ptr 3 0,.t (.slc (.st 52)),.t (.int .i64),.t (.int .i64)],[.blk 3 [.t (.int .i64)],.blk 89 [.clo 41 [.ptr 100000 0],.clo 42 [.ptr 100000 0]]]⟩ [⟨.exit 0,⟨⟨[],[100000],[]⟩,[],[.blk 3 [.t (.int .i64)]]⟩⟩] [.int .i64,.slc (.st 52),.int .i64,.int .i64,.int .i64] [[.int .i64]] (qah_l2 rec_qah)
theorem qah_ok2 (rec_qah:qah_tr) (hrec_qah:qah_rec rec_qah):LoopR kk env0 Tryz.f89.ntmps qah_b2 (qah_lp2 rec_qah):=
  lj (qah_i2 rec_qah) (qah_t2 rec_qah) (known60 rec_qah hrec_qah) (zaaa _)
def qah_L (rec_qah:qah_tr):Nat->Option (Lift.Loop U):=fun n=>bif Nat.beq n zaar then some zaao else bif Nat.beq n 2 then some (qah_lp2 rec_qah) else none
def qah_md:Mode U:=qah_rmd qah
theorem qah_step (rec_qah:qah_tr) (hrec_qah:qah_rec rec_qah):zaaq (Kit.withModes kk (zaac (ms60 rec_qah))) env0 Tryz.f89.ntmps (qah_L rec_qah) (zaag Tryz.f89):=zaab (bs:=[qah_b2]) (by kernel_rfl) ⟨.inr ⟨_,by kernel_rfl,zaal.of_round (qah_ok2 rec_qah hrec_qah)⟩,trivial⟩
theorem qah_post:zaad kk env0 89 (qah_rmd qah):=
  recG qah_i qah_f (by kernel_rfl) (fun _=>by kernel_rfl) (zaaa _) fun r ih=>fnG (fn:=Tryz.f89) (ko (known60 r ih)) (by kernel_rfl) (qah_step r ih) rfl (by kernel_rfl)
def ms61:MS:=(89,qah_md)::ms59
theorem known61:Kn ms61:=kc qah_post known59
def qae_b2:Code:=(zaah (zaag Tryz.f43) 0)
def qae_lp2:Lift.Loop U:=lpG ⟨⟨[2,7,8,9],[100000,2],[]⟩,[.ptr 2 0,.t (.slc (.st 46)),.t (.int .i64),.t (.int .i64)],[.blk 3 [.t (.int .i64)],.blk 89 [.clo 41 [.ptr 100000 0],.clo 42 [.ptr 100000 0]]]⟩ [⟨.exit 0,⟨⟨[],[100000],[]⟩,[],[.blk 3 [.t (.int .i64)]]⟩⟩] [.slc (.st 46),.int .i64,.int .i64,.int .i64] [[.int .i64]] qae_l2
theorem qae_ok2:LoopR kk env0 Tryz.f43.ntmps qae_b2 qae_lp2:=
  lj qae_i2 qae_t2 known61 (zaaa _)
def qae_L:Nat->Option (Lift.Loop U):=fun n=>bif Nat.beq n zaar then some zaao else bif Nat.beq n 2 then some qae_lp2 else none
def qae_md:Mode U:=mdG ⟨⟨[0,1],[100000],[]⟩,[.agg [.clo 41 [.ptr 100000 0],.clo 42 [.ptr 100000 0]],.t (.st 27)],[.blk 3 [.t (.int .i64)]]⟩ [⟨100000,.slot 0,[0,0]⟩] [⟨⟨[],[100000],[]⟩,[],[.blk 3 [.t (.int .i64)]]⟩] [.st 27,.int .i64] [[.int .i64]] qae
theorem qae_post:zaad kk env0 43 qae_md:=
  fnG (fn:=Tryz.f43) (ko known61) (by kernel_rfl) (L:=qae_L) (zaab (bs:=[qae_b2]) (by kernel_rfl) ⟨.inr ⟨_,by kernel_rfl,zaal.of_round (qae_ok2)⟩,trivial⟩) (zaaa _) (by kernel_rfl)
def ms62:MS:=(43,qae_md)::ms61
theorem known62:Kn ms62:=kc qae_post known61
def qbF_md:Mode U:=mdG ⟨⟨[0],[],[]⟩,[.t (.st 27)],[]⟩ [] [⟨⟨[0],[],[]⟩,[.t (.int .i64)],[]⟩] [.st 27] [[.int .i64]] qbF
theorem qbF_post:zaad kk env0 16 qbF_md:=
  fj (fn:=Tryz.f16) known62 (zaaa _)
def ms63:MS:=(16,qbF_md)::ms62
theorem known63:Kn ms63:=kc qbF_post known62
def qar_md:Mode U:=mdG ⟨⟨[0],[],[]⟩,[.t .str],[]⟩ [] [⟨⟨[0,1],[],[⟨.sub 0 0,100100,62,(.st 62)⟩,⟨.sub 0 1,100200,9,.str⟩,⟨.sub 0 2,100300,46,(.st 1046)⟩]⟩,[.agg [.oslc 100100,.oslc 100200,.oslc 100300],.t (.st 30)],[.row 62 (.st 62),.row 9 .str,.row 46 (.st 1046)]⟩] [.str] [[.st 30,.slc (.st 62),.slc .str,.slc (.st 1046)]] qar
theorem qar_post:zaad kk env0 12 qar_md:=
  fnGD (fn:=Tryz.f12) (ko known63) (by kernel_rfl) (L:=jnL) (zaab (bs:=[]) (by kernel_rfl) trivial) (zaaa _) (by kernel_rfl) (by kernel_rfl)
def ms64:MS:=(12,qar_md)::ms63
theorem known64:Kn ms64:=kc qar_post known63
def qaM_md:Mode U:=mdG ⟨⟨[],[],[]⟩,[],[]⟩ [] [⟨⟨[0],[],[]⟩,[.t .bool],[]⟩] [] [[.bool]] qaM
theorem qaM_post:zaad kk env0 11 qaM_md:=
  fo (fn:=Tryz.f11) known64 (zaaa _)
def ms65:MS:=(11,qaM_md)::ms64
theorem known65:Kn ms65:=kc qaM_post known64
def qbR_md:Mode U:=mdG ⟨⟨[0],[],[]⟩,[.t .str],[]⟩ [] [⟨⟨[0],[],[]⟩,[.t .bool],[]⟩] [.str] [[.bool]] qbR
theorem qbR_post:zaad kk env0 90 qbR_md:=
  fj (fn:=Tryz.f90) known65 (zaaa _)
def ms66:MS:=(90,qbR_md)::ms65
theorem known66:Kn ms66:=kc qbR_post known65
def qbS_md:Mode U:=mdG ⟨⟨[],[],[]⟩,[],[]⟩ [] [⟨⟨[0],[],[]⟩,[.t (.map (.int .i64) (.st 154))],[]⟩] [] [[.map (.int .i64) (.st 154)]] qbS
theorem qbS_post:zaad kk env0 130 qbS_md:=
  fj (fn:=Tryz.f130) known66 (zaaa _)
def ms67:MS:=(130,qbS_md)::ms66
theorem known67:Kn ms67:=kc qbS_post known66
def qbQ_md:Mode U:=mdG ⟨⟨[0,1],[],[]⟩,[.t .str,.t .bool],[]⟩ [] [⟨⟨[0],[],[]⟩,[.t .bool],[]⟩] [.str,.bool] [[.bool]] qbQ
theorem qbQ_post:zaad kk env0 131 qbQ_md:=
  fj (fn:=Tryz.f131) known67 (zaaa _)
def ms68:MS:=(131,qbQ_md)::ms67
theorem known68:Kn ms68:=kc qbQ_post known67
def qbT_md:Mode U:=mdG ⟨⟨[0],[],[]⟩,[.t (.st 52)],[]⟩ [] [⟨⟨[0],[],[]⟩,[.t .bool],[]⟩] [.st 52] [[.bool]] qbT
theorem qbT_post:zaad kk env0 92 qbT_md:=
  fj (fn:=Tryz.f92) known68 (zaaa _)
def ms69:MS:=(92,qbT_md)::ms68
theorem known69:Kn ms69:=kc qbT_post known68
def qbO_md:Mode U:=mdG ⟨⟨[0,1,2],[100000],[]⟩,[.t (.st 52),.t (.int .i64),.ptr 100000 0],[.blk 4 [.t .bool]]⟩ [⟨100000,.slot 2,[]⟩] [⟨⟨[],[100000],[]⟩,[],[.blk 4 [.t .bool]]⟩] [.st 52,.int .i64,.bool] [[.bool]] qbO
theorem qbO_post:zaad kk env0 91 qbO_md:=
  fj (fn:=Tryz.f91) known69 (zaaa _)
def ms70:MS:=(91,qbO_md)::ms69
theorem known70:Kn ms70:=kc qbO_post known69
def qbM_md:Mode U:=mdG ⟨⟨[0],[],[]⟩,[.t (.st 50)],[]⟩ [] [⟨⟨[0],[],[]⟩,[.t .bool],[]⟩] [.st 50] [[.bool]] qbM
theorem qbM_post:zaad kk env0 94 qbM_md:=
  fj (fn:=Tryz.f94) known70 (zaaa _)
def ms71:MS:=(94,qbM_md)::ms70
theorem known71:Kn ms71:=kc qbM_post known70
def qbP_md:Mode U:=mdG ⟨⟨[0,1,2],[100000],[]⟩,[.t (.st 50),.t (.int .i64),.ptr 100000 0],[.blk 4 [.t .bool]]⟩ [⟨100000,.slot 2,[]⟩] [⟨⟨[],[100000],[]⟩,[],[.blk 4 [.t .bool]]⟩] [.st 50,.int .i64,.bool] [[.bool]] qbP
theorem qbP_post:zaad kk env0 93 qbP_md:=
  fj (fn:=Tryz.f93) known71 (zaaa _)
def ms72:MS:=(93,qbP_md)::ms71
theorem known72:Kn ms72:=kc qbP_post known71
abbrev qac_tr:Type:=curT U (sumT U [[.bool]]) [.st 50,.int .i64,.bool]
def qac_rmd (rec_qac:qac_tr):Mode U:=mdG ⟨⟨[0,1,2],[100000],[]⟩,[.agg [.clo 91 [.ptr 100000 0],.clo 93 [.ptr 100000 0]],.t (.st 50),.t (.int .i64)],[.blk 4 [.t .bool]]⟩ [⟨100000,.slot 0,[0,0]⟩] [⟨⟨[],[100000],[]⟩,[],[.blk 4 [.t .bool]]⟩] [.st 50,.int .i64,.bool] [[.bool]] rec_qac
abbrev qac_rec (r:qac_tr):Prop:=zaad kk env0 129 (qac_rmd r)
def ms73 (rec_qac:qac_tr):MS:=(129,(qac_rmd rec_qac))::ms72
theorem known73 (rec_qac:qac_tr) (hrec_qac:qac_rec rec_qac):Kn (ms73 rec_qac):=kc hrec_qac known72
def qac_b3:Code:=(zaah (zaag Tryz.f129) 0)
def qac_lp3 (rec_qac:qac_tr):Lift.Loop U:=lpG ⟨⟨[2,3,14,15,16],[100000,3],[]⟩,[.t (.int .i64),.ptr 3 0,.t (.slc (.st 50)),.t (.int .i64),.t (.int .i64)],[.blk 4 [.t .bool],.blk 89 [.clo 91 [.ptr 100000 0],.clo 93 [.ptr 100000 0]]]⟩ [⟨.exit 0,⟨⟨[],[100000],[]⟩,[],[.blk 4 [.t .bool]]⟩⟩] [.int .i64,.slc (.st 50),.int .i64,.int .i64,.bool] [[.bool]] (qac_l3 rec_qac)
theorem qac_ok3 (rec_qac:qac_tr) (hrec_qac:qac_rec rec_qac):LoopR kk env0 Tryz.f129.ntmps qac_b3 (qac_lp3 rec_qac):=
  lj (qac_i3 rec_qac) (qac_t3 rec_qac) (known73 rec_qac hrec_qac) (zaaa _)
def qac_L (rec_qac:qac_tr):Nat->Option (Lift.Loop U):=fun n=>bif Nat.beq n zaar then some zaao else bif Nat.beq n 3 then some (qac_lp3 rec_qac) else none
def qac_md:Mode U:=qac_rmd qac
theorem qac_step (rec_qac:qac_tr) (hrec_qac:qac_rec rec_qac):zaaq (Kit.withModes kk (zaac (ms73 rec_qac))) env0 Tryz.f129.ntmps (qac_L rec_qac) (zaag Tryz.f129):=zaab (bs:=[qac_b3]) (by kernel_rfl) ⟨.inr ⟨_,by kernel_rfl,zaal.of_round (qac_ok3 rec_qac hrec_qac)⟩,trivial⟩
theorem qac_post:zaad kk env0 129 (qac_rmd qac):=
  recG qac_i qac_f (by kernel_rfl) (fun _=>by kernel_rfl) (zaaa _) fun r ih=>fnG (fn:=Tryz.f129) (ko (known73 r ih)) (by kernel_rfl) (qac_step r ih) rfl (by kernel_rfl)
def ms74:MS:=(129,qac_md)::ms72
theorem known74:Kn ms74:=kc qac_post known72
abbrev qai_tr:Type:=curT U (sumT U [[.bool]]) [.slc (.st 52),.int .i64,.bool]
def qai_rmd (rec_qai:qai_tr):Mode U:=mdG ⟨⟨[0,1,2],[100000],[]⟩,[.agg [.clo 91 [.ptr 100000 0],.clo 93 [.ptr 100000 0]],.t (.slc (.st 52)),.t (.int .i64)],[.blk 4 [.t .bool]]⟩ [⟨100000,.slot 0,[0,0]⟩] [⟨⟨[],[100000],[]⟩,[],[.blk 4 [.t .bool]]⟩] [.slc (.st 52),.int .i64,.bool] [[.bool]] rec_qai
abbrev qai_rec (r:qai_tr):Prop:=zaad kk env0 89 (qai_rmd r)
def ms75 (rec_qai:qai_tr):MS:=(89,(qai_rmd rec_qai))::ms74
theorem known75 (rec_qai:qai_tr) (hrec_qai:qai_rec rec_qai):Kn (ms75 rec_qai):=kc hrec_qai known74
def qai_b2:Code:=(zaah (zaag Tryz.f89) 0)
def qai_lp2 (rec_qai:qai_tr):Lift.Loop U:=lpG ⟨⟨[2,3,8,9,10],[100000,3],[]⟩,[.t (.int .i64),.ptr 3 0,.t (.slc (.st 52)),.t (.int .i64),.t (.int .i64)],[.blk 4 [.t .bool],.blk 89 [.clo 91 [.ptr 100000 0],.clo 93 [.ptr 100000 0]]]⟩ [⟨.exit 0,⟨⟨[],[100000],[]⟩,[],[.blk 4 [.t .bool]]⟩⟩] [.int .i64,.slc (.st 52),.int .i64,.int .i64,.bool] [[.bool]] (qai_l2 rec_qai)
theorem qai_ok2 (rec_qai:qai_tr) (hrec_qai:qai_rec rec_qai):LoopR kk env0 Tryz.f89.ntmps qai_b2 (qai_lp2 rec_qai):=
  lj (qai_i2 rec_qai) (qai_t2 rec_qai) (known75 rec_qai hrec_qai) (zaaa _)
def qai_L (rec_qai:qai_tr):Nat->Option (Lift.Loop U):=fun n=>bif Nat.beq n zaar then some zaao else bif Nat.beq n 2 then some (qai_lp2 rec_qai) else none
def qai_md:Mode U:=qai_rmd qai
theorem qai_step (rec_qai:qai_tr) (hrec_qai:qai_rec rec_qai):zaaq (Kit.withModes kk (zaac (ms75 rec_qai))) env0 Tryz.f89.ntmps (qai_L rec_qai) (zaag Tryz.f89):=zaab (bs:=[qai_b2]) (by kernel_rfl) ⟨.inr ⟨_,by kernel_rfl,zaal.of_round (qai_ok2 rec_qai hrec_qai)⟩,trivial⟩
theorem qai_post:zaad kk env0 89 (qai_rmd qai):=
  recG qai_i qai_f (by kernel_rfl) (fun _=>by kernel_rfl) (zaaa _) fun r ih=>fnG (fn:=Tryz.f89) (ko (known75 r ih)) (by kernel_rfl) (qai_step r ih) rfl (by kernel_rfl)
def ms76:MS:=(89,qai_md)::ms74
theorem known76:Kn ms76:=kc qai_post known74
def qaf_b2:Code:=(zaah (zaag Tryz.f43) 0)
def qaf_lp2:Lift.Loop U:=lpG ⟨⟨[2,7,8,9],[100000,2],[]⟩,[.ptr 2 0,.t (.slc (.st 46)),.t (.int .i64),.t (.int .i64)],[.blk 4 [.t .bool],.blk 89 [.clo 91 [.ptr 100000 0],.clo 93 [.ptr 100000 0]]]⟩ [⟨.exit 0,⟨⟨[],[100000],[]⟩,[],[.blk 4 [.t .bool]]⟩⟩] [.slc (.st 46),.int .i64,.int .i64,.bool] [[.bool]] qaf_l2
theorem qaf_ok2:LoopR kk env0 Tryz.f43.ntmps qaf_b2 qaf_lp2:=
  lj qaf_i2 qaf_t2 known76 (zaaa _)
def qaf_L:Nat->Option (Lift.Loop U):=fun n=>bif Nat.beq n zaar then some zaao else bif Nat.beq n 2 then some qaf_lp2 else none
def qaf_md:Mode U:=mdG ⟨⟨[0,1],[100000],[]⟩,[.agg [.clo 91 [.ptr 100000 0],.clo 93 [.ptr 100000 0]],.t (.st 27)],[.blk 4 [.t .bool]]⟩ [⟨100000,.slot 0,[0,0]⟩] [⟨⟨[],[100000],[]⟩,[],[.blk 4 [.t .bool]]⟩] [.st 27,.bool] [[.bool]] qaf
theorem qaf_post:zaad kk env0 43 qaf_md:=
  fnG (fn:=Tryz.f43) (ko known76) (by kernel_rfl) (L:=qaf_L) (zaab (bs:=[qaf_b2]) (by kernel_rfl) ⟨.inr ⟨_,by kernel_rfl,zaal.of_round (qaf_ok2)⟩,trivial⟩) (zaaa _) (by kernel_rfl)
def ms77:MS:=(43,qaf_md)::ms76
theorem known77:Kn ms77:=kc qaf_post known76
def qbN_b3:Code:=(zaah (zaag Tryz.f44) 0)
def qbN_lp3:Lift.Loop U:=lpG ⟨⟨[1,3,11,12,13],[1,3],[]⟩,[.ptr 1 0,.ptr 3 0,.t (.slc (.st 62)),.t (.int .i64),.t (.int .i64)],[.blk 27 [.t (.slc (.st 62)),.t (.slc .str),.t (.slc (.st 46))],.blk 4 [.t .bool]]⟩ [⟨.exit 0,⟨⟨[1,3],[1,3],[]⟩,[.ptr 1 0,.ptr 3 0],[.blk 27 [.t (.slc (.st 62)),.t (.slc .str),.t (.slc (.st 46))],.blk 4 [.t .bool]]⟩⟩] [.slc (.st 62),.int .i64,.int .i64,.slc (.st 62),.slc .str,.slc (.st 46),.bool] [[.slc (.st 62),.slc .str,.slc (.st 46),.bool]] qbN_l3
theorem qbN_ok3:LoopR kk env0 Tryz.f44.ntmps qbN_b3 qbN_lp3:=
  lj qbN_i3 qbN_t3 known77 (zaaa _)
def qbN_b8:Code:=(zaah (zaag Tryz.f44) 1)
def qbN_lp8:Lift.Loop U:=lpG ⟨⟨[1,3,35,36,37],[1,3],[]⟩,[.ptr 1 0,.ptr 3 0,.t (.slc .str),.t (.int .i64),.t (.int .i64)],[.blk 27 [.t (.slc (.st 62)),.t (.slc .str),.t (.slc (.st 46))],.blk 4 [.t .bool]]⟩ [⟨.exit 2,⟨⟨[1,3],[1,3],[]⟩,[.ptr 1 0,.ptr 3 0],[.blk 27 [.t (.slc (.st 62)),.t (.slc .str),.t (.slc (.st 46))],.blk 4 [.t .bool]]⟩⟩] [.slc .str,.int .i64,.int .i64,.slc (.st 62),.slc .str,.slc (.st 46),.bool] [[.slc (.st 62),.slc .str,.slc (.st 46),.bool]] qbN_l8
theorem qbN_ok8:LoopR kk env0 Tryz.f44.ntmps qbN_b8 qbN_lp8:=
  lj qbN_i8 qbN_t8 known77 (zaaa _)
def qbN_b13:Code:=(zaah (zaag Tryz.f44) 2)
def qbN_lp13:Lift.Loop U:=lpG ⟨⟨[1,3,48,49,50],[1,3],[]⟩,[.ptr 1 0,.ptr 3 0,.t (.slc (.st 46)),.t (.int .i64),.t (.int .i64)],[.blk 27 [.t (.slc (.st 62)),.t (.slc .str),.t (.slc (.st 46))],.blk 4 [.t .bool]]⟩ [⟨.exit 4,⟨⟨[1,3],[1,3],[]⟩,[.ptr 1 0,.ptr 3 0],[.blk 27 [.t (.slc (.st 62)),.t (.slc .str),.t (.slc (.st 46))],.blk 4 [.t .bool]]⟩⟩] [.slc (.st 46),.int .i64,.int .i64,.slc (.st 62),.slc .str,.slc (.st 46),.bool] [[.slc (.st 62),.slc .str,.slc (.st 46),.bool]] qbN_l13
theorem qbN_ok13:LoopR kk env0 Tryz.f44.ntmps qbN_b13 qbN_lp13:=
  lj qbN_i13 qbN_t13 known77 (zaaa _)
def qbN_L:Nat->Option (Lift.Loop U):=fun n=>bif Nat.beq n zaar then some zaao else bif Nat.beq n 3 then some qbN_lp3 else bif Nat.beq n 8 then some qbN_lp8 else bif Nat.beq n 13 then some qbN_lp13 else none
def qbN_md:Mode U:=mdG ⟨⟨[0],[],[]⟩,[.t (.st 27)],[]⟩ [] [⟨⟨[0],[],[]⟩,[.t .bool],[]⟩] [.st 27] [[.bool]] qbN
theorem qbN_post:zaad kk env0 44 qbN_md:=
  fnG (fn:=Tryz.f44) (ko known77) (by kernel_rfl) (L:=qbN_L) (zaab (bs:=[qbN_b3,qbN_b8,qbN_b13]) (by kernel_rfl) ⟨.inr ⟨_,by kernel_rfl,zaal.of_round (qbN_ok3)⟩,.inr ⟨_,by kernel_rfl,zaal.of_round (qbN_ok8)⟩,.inr ⟨_,by kernel_rfl,zaal.of_round (qbN_ok13)⟩,trivial⟩) (zaaa _) (by kernel_rfl)
def ms78:MS:=(44,qbN_md)::ms77
theorem known78:Kn ms78:=kc qbN_post known77
def qbL_md:Mode U:=mdG ⟨⟨[0],[],[]⟩,[.t (.st 27)],[]⟩ [] [⟨⟨[0],[],[]⟩,[.t (.int .i64)],[]⟩] [.st 27] [[.int .i64]] qbL
theorem qbL_post:zaad kk env0 17 qbL_md:=
  fj (fn:=Tryz.f17) known78 (zaaa _)
def ms79:MS:=(17,qbL_md)::ms78
theorem known79:Kn ms79:=kc qbL_post known78
abbrev qa6_tr:Type:=curT U (sumT U [[.int .i64,.int .i64,.str,.slc (.st 1050)]]) [.st 50]
def qa6_rmd (rec_qa6:qa6_tr):Mode U:=mdG ⟨⟨[0],[],[]⟩,[.t (.st 50)],[]⟩ [] [⟨⟨[0],[],[⟨.sub 0 3,100400,50,(.st 1050)⟩]⟩,[.agg [.t (.int .i64),.t (.int .i64),.t .str,.oslc 100400]],[.row 50 (.st 1050)]⟩] [.st 50] [[.int .i64,.int .i64,.str,.slc (.st 1050)]] rec_qa6
abbrev qa6_rec (r:qa6_tr):Prop:=zaad kk env0 95 (qa6_rmd r)
def ms80 (rec_qa6:qa6_tr):MS:=(95,(qa6_rmd rec_qa6))::ms79
theorem known80 (rec_qa6:qa6_tr) (hrec_qa6:qa6_rec rec_qa6):Kn (ms80 rec_qa6):=kc hrec_qa6 known79
def qa6_b3:Code:=(zaah (zaag Tryz.f95) 0)
def qa6_lp3 (rec_qa6:qa6_tr):Lift.Loop U:=lpG ⟨⟨[1,2,3,4],[1,2,3],[⟨.cell 3 3,20153,50,(.st 1050)⟩]⟩,[.ptr 1 0,.ptr 2 0,.ptr 3 0,.t (.int .i64)],[.blk 50 [.t (.int .i64),.t (.int .i64),.t .str,.t (.slc (.st 50))],.blk 50 [.t (.int .i64),.t (.int .i64),.t .str,.nil],.blk 50 [.t (.int .i64),.t (.int .i64),.t .str,.oslc 20153],.row 50 (.st 1050)]⟩ [⟨.exit 0,⟨⟨[2,3],[2,3],[⟨.cell 3 3,20153,50,(.st 1050)⟩]⟩,[.ptr 2 0,.ptr 3 0],[.blk 50 [.t (.int .i64),.t (.int .i64),.t .str,.nil],.blk 50 [.t (.int .i64),.t (.int .i64),.t .str,.oslc 20153],.row 50 (.st 1050)]⟩⟩] [.int .i64,.int .i64,.int .i64,.str,.slc (.st 50),.int .i64,.int .i64,.str,.int .i64,.int .i64,.str,.slc (.st 1050)] [[.int .i64,.int .i64,.str,.int .i64,.int .i64,.str,.slc (.st 1050)]] (qa6_l3 rec_qa6)
theorem qa6_ok3 (rec_qa6:qa6_tr) (hrec_qa6:qa6_rec rec_qa6):LoopR kk env0 Tryz.f95.ntmps qa6_b3 (qa6_lp3 rec_qa6):=
  lj (qa6_i3 rec_qa6) (qa6_t3 rec_qa6) (known80 rec_qa6 hrec_qa6) (zaaa _)
def qa6_L (rec_qa6:qa6_tr):Nat->Option (Lift.Loop U):=fun n=>bif Nat.beq n zaar then some zaao else bif Nat.beq n 3 then some (qa6_lp3 rec_qa6) else none
def qa6_md:Mode U:=qa6_rmd qa6
theorem qa6_step (rec_qa6:qa6_tr) (hrec_qa6:qa6_rec rec_qa6):zaaq (Kit.withModes kk (zaac (ms80 rec_qa6))) env0 Tryz.f95.ntmps (qa6_L rec_qa6) (zaag Tryz.f95):=zaab (bs:=[qa6_b3]) (by kernel_rfl) ⟨.inr ⟨_,by kernel_rfl,zaal.of_round (qa6_ok3 rec_qa6 hrec_qa6)⟩,trivial⟩
theorem qa6_post:zaad kk env0 95 (qa6_rmd qa6):=
  recG qa6_i qa6_f (by kernel_rfl) (fun _=>by kernel_rfl) (zaaa _) fun r ih=>fnG (fn:=Tryz.f95) (ko (known80 r ih)) (by kernel_rfl) (qa6_step r ih) rfl (by kernel_rfl)
def ms81:MS:=(95,qa6_md)::ms79
theorem known81:Kn ms81:=kc qa6_post known79
abbrev qa7_tr:Type:=curT U (sumT U [[.slc (.st 1052)]]) [.slc (.st 52)]
def qa7_rmd (rec_qa7:qa7_tr):Mode U:=mdG ⟨⟨[0],[],[]⟩,[.t (.slc (.st 52))],[]⟩ [] [⟨⟨[0],[],[⟨.slot 0,100050,52,(.st 1052)⟩]⟩,[.oslc 100050],[.row 52 (.st 1052)]⟩] [.slc (.st 52)] [[.slc (.st 1052)]] rec_qa7
abbrev qa7_rec (r:qa7_tr):Prop:=zaad kk env0 45 (qa7_rmd r)
def ms82 (rec_qa7:qa7_tr):MS:=(45,(qa7_rmd rec_qa7))::ms81
theorem known82 (rec_qa7:qa7_tr) (hrec_qa7:qa7_rec rec_qa7):Kn (ms82 rec_qa7):=kc hrec_qa7 known81
def qa7_b3:Code:=(zaah (zaag Tryz.f45) 0)
def qa7_lp3 (rec_qa7:qa7_tr):Lift.Loop U:=lpG ⟨⟨[0,3,4],[],[⟨.slot 3,3,52,(.st 1052)⟩]⟩,[.t (.slc (.st 52)),.oslc 3,.t (.int .i64)],[.row 52 (.st 1052)]⟩ [⟨.exit 0,⟨⟨[3],[],[⟨.slot 3,3,52,(.st 1052)⟩]⟩,[.oslc 3],[.row 52 (.st 1052)]⟩⟩] [.slc (.st 52),.int .i64,.slc (.st 1052)] [[.slc (.st 1052)]] (qa7_l3 rec_qa7)
theorem qa7_ok3 (rec_qa7:qa7_tr) (hrec_qa7:qa7_rec rec_qa7):LoopR kk env0 Tryz.f45.ntmps qa7_b3 (qa7_lp3 rec_qa7):=
  lj (qa7_i3 rec_qa7) (qa7_t3 rec_qa7) (known82 rec_qa7 hrec_qa7) (zaaa _)
def qa7_L (rec_qa7:qa7_tr):Nat->Option (Lift.Loop U):=fun n=>bif Nat.beq n zaar then some zaao else bif Nat.beq n 3 then some (qa7_lp3 rec_qa7) else none
def qa7_md:Mode U:=qa7_rmd qa7
theorem qa7_step (rec_qa7:qa7_tr) (hrec_qa7:qa7_rec rec_qa7):zaaq (Kit.withModes kk (zaac (ms82 rec_qa7))) env0 Tryz.f45.ntmps (qa7_L rec_qa7) (zaag Tryz.f45):=zaab (bs:=[qa7_b3]) (by kernel_rfl) ⟨.inr ⟨_,by kernel_rfl,zaal.of_round (qa7_ok3 rec_qa7 hrec_qa7)⟩,trivial⟩
theorem qa7_post:zaad kk env0 45 (qa7_rmd qa7):=
  recG qa7_i qa7_f (by kernel_rfl) (fun _=>by kernel_rfl) (zaaa _) fun r ih=>fnG (fn:=Tryz.f45) (ko (known82 r ih)) (by kernel_rfl) (qa7_step r ih) rfl (by kernel_rfl)
def ms83:MS:=(45,qa7_md)::ms81
theorem known83:Kn ms83:=kc qa7_post known81
def qa5_b5:Code:=(zaah (zaag Tryz.f18) 0)
def qa5_lp5:Lift.Loop U:=lpG ⟨⟨[1,2,3,4],[1,2,3],[⟨.cell 3 0,20150,62,(.st 62)⟩,⟨.cell 3 1,20151,9,.str⟩,⟨.cell 3 2,20152,46,(.st 1046)⟩]⟩,[.ptr 1 0,.ptr 2 0,.ptr 3 0,.t (.int .i64)],[.blk 27 [.t (.slc (.st 62)),.t (.slc .str),.t (.slc (.st 46))],.blk 27 [.nil,.nil,.nil],.blk 27 [.oslc 20150,.oslc 20151,.oslc 20152],.row 62 (.st 62),.row 9 .str,.row 46 (.st 1046)]⟩ [⟨.exit 0,⟨⟨[2,3],[2,3],[⟨.cell 3 0,20150,62,(.st 62)⟩,⟨.cell 3 1,20151,9,.str⟩,⟨.cell 3 2,20152,46,(.st 1046)⟩]⟩,[.ptr 2 0,.ptr 3 0],[.blk 27 [.nil,.nil,.nil],.blk 27 [.oslc 20150,.oslc 20151,.oslc 20152],.row 62 (.st 62),.row 9 .str,.row 46 (.st 1046)]⟩⟩] [.int .i64,.slc (.st 62),.slc .str,.slc (.st 46),.slc (.st 62),.slc .str,.slc (.st 1046)] [[.slc (.st 62),.slc .str,.slc (.st 1046)]] qa5_l5
theorem qa5_ok5:LoopR kk env0 Tryz.f18.ntmps qa5_b5 qa5_lp5:=
  lj qa5_i5 qa5_t5 known83 (zaaa _)
def qa5_L:Nat->Option (Lift.Loop U):=fun n=>bif Nat.beq n zaar then some zaao else bif Nat.beq n 5 then some qa5_lp5 else none
def qa5_md:Mode U:=mdG ⟨⟨[0],[],[]⟩,[.t (.st 27)],[]⟩ [] [⟨⟨[0],[],[⟨.sub 0 0,100100,62,(.st 62)⟩,⟨.sub 0 1,100200,9,.str⟩,⟨.sub 0 2,100300,46,(.st 1046)⟩]⟩,[.agg [.oslc 100100,.oslc 100200,.oslc 100300]],[.row 62 (.st 62),.row 9 .str,.row 46 (.st 1046)]⟩] [.st 27] [[.slc (.st 62),.slc .str,.slc (.st 1046)]] qa5
theorem qa5_post:zaad kk env0 18 qa5_md:=
  fnG (fn:=Tryz.f18) (ko known83) (by kernel_rfl) (L:=qa5_L) (zaab (bs:=[qa5_b5]) (by kernel_rfl) ⟨.inr ⟨_,by kernel_rfl,zaal.of_round (qa5_ok5)⟩,trivial⟩) (zaaa _) (by kernel_rfl)
def ms84:MS:=(18,qa5_md)::ms83
theorem known84:Kn ms84:=kc qa5_post known83
abbrev qaL_tr:Type:=curT U (sumT U [[.slc (.st 1052)]]) [.slc (.st 1052)]
def qaL_rmd (rec_qaL:qaL_tr):Mode U:=mdG ⟨⟨[0],[],[⟨.slot 0,0,52,(.st 1052)⟩]⟩,[.oslc 0],[.row 52 (.st 1052)]⟩ [] [⟨⟨[0],[],[⟨.slot 0,100050,52,(.st 1052)⟩]⟩,[.oslc 100050],[.row 52 (.st 1052)]⟩] [.slc (.st 1052)] [[.slc (.st 1052)]] rec_qaL
abbrev qaL_rec (r:qaL_tr):Prop:=zaad kk env0 19 (qaL_rmd r)
def ms85 (rec_qaL:qaL_tr):MS:=(19,(qaL_rmd rec_qaL))::ms84
theorem known85 (rec_qaL:qaL_tr) (hrec_qaL:qaL_rec rec_qaL):Kn (ms85 rec_qaL):=kc hrec_qaL known84
abbrev qaJ_tr:Type:=curT U (sumT U [[.int .i64,.int .i64,.str,.slc (.st 1050)]]) [.int .i64,.int .i64,.str,.slc (.st 1050)]
def qaJ_rmd (rec_qaJ:qaJ_tr):Mode U:=mdG ⟨⟨[0],[],[⟨.sub 0 3,600003,50,(.st 1050)⟩]⟩,[.agg [.t (.int .i64),.t (.int .i64),.t .str,.oslc 600003]],[.row 50 (.st 1050)]⟩ [] [⟨⟨[0],[],[⟨.sub 0 3,100400,50,(.st 1050)⟩]⟩,[.agg [.t (.int .i64),.t (.int .i64),.t .str,.oslc 100400]],[.row 50 (.st 1050)]⟩] [.int .i64,.int .i64,.str,.slc (.st 1050)] [[.int .i64,.int .i64,.str,.slc (.st 1050)]] rec_qaJ
abbrev qaJ_rec (r:qaJ_tr):Prop:=zaad kk env0 46 (qaJ_rmd r)
def ms86 (rec_qaL:qaL_tr) (rec_qaJ:qaJ_tr):MS:=(46,(qaJ_rmd rec_qaJ))::(ms85 rec_qaL)
theorem known86 (rec_qaL:qaL_tr) (hrec_qaL:qaL_rec rec_qaL) (rec_qaJ:qaJ_tr) (hrec_qaJ:qaJ_rec rec_qaJ):Kn (ms86 rec_qaL rec_qaJ):=kc hrec_qaJ (known85 rec_qaL hrec_qaL)
def qaJ_b2:Code:=(zaah (zaag Tryz.f46) 0)
def qaJ_lp2 (rec_qaL:qaL_tr) (rec_qaJ:qaJ_tr):Lift.Loop U:=lpG ⟨⟨[1,2,3],[1,2],[⟨.cell 1 3,20053,50,(.st 1050)⟩]⟩,[.ptr 1 0,.ptr 2 0,.t (.int .i64)],[.blk 50 [.t (.int .i64),.t (.int .i64),.t .str,.oslc 20053],.blk 50 [.t (.int .i64),.t (.int .i64),.t .str,.nil],.row 50 (.st 1050)]⟩ [⟨.exit 0,⟨⟨[1,2],[1,2],[⟨.cell 1 3,20053,50,(.st 1050)⟩]⟩,[.ptr 1 0,.ptr 2 0],[.blk 50 [.t (.int .i64),.t (.int .i64),.t .str,.oslc 20053],.blk 50 [.t (.int .i64),.t (.int .i64),.t .str,.nil],.row 50 (.st 1050)]⟩⟩] [.int .i64,.int .i64,.int .i64,.str,.int .i64,.int .i64,.str,.slc (.st 1050)] [[.int .i64,.int .i64,.str,.int .i64,.int .i64,.str,.slc (.st 1050)]] (qaJ_l2 rec_qaL rec_qaJ)
theorem qaJ_ok2 (rec_qaL:qaL_tr) (hrec_qaL:qaL_rec rec_qaL) (rec_qaJ:qaJ_tr) (hrec_qaJ:qaJ_rec rec_qaJ):LoopR kk env0 Tryz.f46.ntmps qaJ_b2 (qaJ_lp2 rec_qaL rec_qaJ):=
  lj (qaJ_i2 rec_qaL rec_qaJ) (qaJ_t2 rec_qaL rec_qaJ) (known86 rec_qaL hrec_qaL rec_qaJ hrec_qaJ) (zaaa _)
def qaJ_L (rec_qaL:qaL_tr) (rec_qaJ:qaJ_tr):Nat->Option (Lift.Loop U):=fun n=>bif Nat.beq n zaar then some zaao else bif Nat.beq n 2 then some (qaJ_lp2 rec_qaL rec_qaJ) else none
def qaJ_md (rec_qaL:qaL_tr):Mode U:=qaJ_rmd (qaJ rec_qaL)
theorem qaJ_step (rec_qaL:qaL_tr) (hrec_qaL:qaL_rec rec_qaL) (rec_qaJ:qaJ_tr) (hrec_qaJ:qaJ_rec rec_qaJ):zaaq (Kit.withModes kk (zaac (ms86 rec_qaL rec_qaJ))) env0 Tryz.f46.ntmps (qaJ_L rec_qaL rec_qaJ) (zaag Tryz.f46):=zaab (bs:=[qaJ_b2]) (by kernel_rfl) ⟨.inr ⟨_,by kernel_rfl,zaal.of_round (qaJ_ok2 rec_qaL hrec_qaL rec_qaJ hrec_qaJ)⟩,trivial⟩
theorem qaJ_post (rec_qaL:qaL_tr) (hrec_qaL:qaL_rec rec_qaL):zaad kk env0 46 (qaJ_rmd (qaJ rec_qaL)):=
  recG (qaJ_i rec_qaL) (qaJ_f rec_qaL) (by kernel_rfl) (fun _=>by kernel_rfl) (zaaa _) fun r ih=>fnG (fn:=Tryz.f46) (ko (known86 rec_qaL hrec_qaL r ih)) (by kernel_rfl) (qaJ_step rec_qaL hrec_qaL r ih) rfl (by kernel_rfl)
def ms87 (rec_qaL:qaL_tr):MS:=(46,(qaJ_md rec_qaL))::(ms85 rec_qaL)
theorem known87 (rec_qaL:qaL_tr) (hrec_qaL:qaL_rec rec_qaL):Kn (ms87 rec_qaL):=kc (qaJ_post rec_qaL hrec_qaL) (known85 rec_qaL hrec_qaL)
def qaL_b2:Code:=(zaah (zaag Tryz.f19) 0)
def qaL_lp2 (rec_qaL:qaL_tr):Lift.Loop U:=lpG ⟨⟨[0,3],[],[⟨.slot 0,0,52,(.st 1052)⟩]⟩,[.oslc 0,.t (.int .i64)],[.row 52 (.st 1052)]⟩ [⟨.exit 0,⟨⟨[0],[],[⟨.slot 0,0,52,(.st 1052)⟩]⟩,[.oslc 0],[.row 52 (.st 1052)]⟩⟩] [.int .i64,.slc (.st 1052)] [[.slc (.st 1052)]] (qaL_l2 rec_qaL)
theorem qaL_ok2 (rec_qaL:qaL_tr) (hrec_qaL:qaL_rec rec_qaL):LoopR kk env0 Tryz.f19.ntmps qaL_b2 (qaL_lp2 rec_qaL):=
  lj (qaL_i2 rec_qaL) (qaL_t2 rec_qaL) (known87 rec_qaL hrec_qaL) (zaaa _)
def qaL_L (rec_qaL:qaL_tr):Nat->Option (Lift.Loop U):=fun n=>bif Nat.beq n zaar then some zaao else bif Nat.beq n 2 then some (qaL_lp2 rec_qaL) else none
def qaL_md:Mode U:=qaL_rmd qaL
theorem qaL_step (rec_qaL:qaL_tr) (hrec_qaL:qaL_rec rec_qaL):zaaq (Kit.withModes kk (zaac (ms87 rec_qaL))) env0 Tryz.f19.ntmps (qaL_L rec_qaL) (zaag Tryz.f19):=zaab (bs:=[qaL_b2]) (by kernel_rfl) ⟨.inr ⟨_,by kernel_rfl,zaal.of_round (qaL_ok2 rec_qaL hrec_qaL)⟩,trivial⟩
theorem qaL_post:zaad kk env0 19 (qaL_rmd qaL):=
  recG qaL_i qaL_f (by kernel_rfl) (fun _=>by kernel_rfl) (zaaa _) fun r ih=>fnG (fn:=Tryz.f19) (ko (known87 r ih)) (by kernel_rfl) (qaL_step r ih) rfl (by kernel_rfl)
def ms88:MS:=(19,qaL_md)::ms84
theorem known88:Kn ms88:=kc qaL_post known84
abbrev qaK_tr:Type:=curT U (sumT U [[.int .i64,.int .i64,.str,.slc (.st 1050)]]) [.int .i64,.int .i64,.str,.slc (.st 1050)]
def qaK_rmd (rec_qaK:qaK_tr):Mode U:=mdG ⟨⟨[0],[],[⟨.sub 0 3,600003,50,(.st 1050)⟩]⟩,[.agg [.t (.int .i64),.t (.int .i64),.t .str,.oslc 600003]],[.row 50 (.st 1050)]⟩ [] [⟨⟨[0],[],[⟨.sub 0 3,100400,50,(.st 1050)⟩]⟩,[.agg [.t (.int .i64),.t (.int .i64),.t .str,.oslc 100400]],[.row 50 (.st 1050)]⟩] [.int .i64,.int .i64,.str,.slc (.st 1050)] [[.int .i64,.int .i64,.str,.slc (.st 1050)]] rec_qaK
abbrev qaK_rec (r:qaK_tr):Prop:=zaad kk env0 46 (qaK_rmd r)
def ms89 (rec_qaK:qaK_tr):MS:=(46,(qaK_rmd rec_qaK))::ms88
theorem known89 (rec_qaK:qaK_tr) (hrec_qaK:qaK_rec rec_qaK):Kn (ms89 rec_qaK):=kc hrec_qaK known88
def qaK_b2:Code:=(zaah (zaag Tryz.f46) 0)
def qaK_lp2 (rec_qaK:qaK_tr):Lift.Loop U:=lpG ⟨⟨[1,2,3],[1,2],[⟨.cell 1 3,20053,50,(.st 1050)⟩]⟩,[.ptr 1 0,.ptr 2 0,.t (.int .i64)],[.blk 50 [.t (.int .i64),.t (.int .i64),.t .str,.oslc 20053],.blk 50 [.t (.int .i64),.t (.int .i64),.t .str,.nil],.row 50 (.st 1050)]⟩ [⟨.exit 0,⟨⟨[1,2],[1,2],[⟨.cell 1 3,20053,50,(.st 1050)⟩]⟩,[.ptr 1 0,.ptr 2 0],[.blk 50 [.t (.int .i64),.t (.int .i64),.t .str,.oslc 20053],.blk 50 [.t (.int .i64),.t (.int .i64),.t .str,.nil],.row 50 (.st 1050)]⟩⟩] [.int .i64,.int .i64,.int .i64,.str,.int .i64,.int .i64,.str,.slc (.st 1050)] [[.int .i64,.int .i64,.str,.int .i64,.int .i64,.str,.slc (.st 1050)]] (qaK_l2 rec_qaK)
theorem qaK_ok2 (rec_qaK:qaK_tr) (hrec_qaK:qaK_rec rec_qaK):LoopR kk env0 Tryz.f46.ntmps qaK_b2 (qaK_lp2 rec_qaK):=
  lj (qaK_i2 rec_qaK) (qaK_t2 rec_qaK) (known89 rec_qaK hrec_qaK) (zaaa _)
def qaK_L (rec_qaK:qaK_tr):Nat->Option (Lift.Loop U):=fun n=>bif Nat.beq n zaar then some zaao else bif Nat.beq n 2 then some (qaK_lp2 rec_qaK) else none
def qaK_md:Mode U:=qaK_rmd qaK
theorem qaK_step (rec_qaK:qaK_tr) (hrec_qaK:qaK_rec rec_qaK):zaaq (Kit.withModes kk (zaac (ms89 rec_qaK))) env0 Tryz.f46.ntmps (qaK_L rec_qaK) (zaag Tryz.f46):=zaab (bs:=[qaK_b2]) (by kernel_rfl) ⟨.inr ⟨_,by kernel_rfl,zaal.of_round (qaK_ok2 rec_qaK hrec_qaK)⟩,trivial⟩
theorem qaK_post:zaad kk env0 46 (qaK_rmd qaK):=
  recG qaK_i qaK_f (by kernel_rfl) (fun _=>by kernel_rfl) (zaaa _) fun r ih=>fnG (fn:=Tryz.f46) (ko (known89 r ih)) (by kernel_rfl) (qaK_step r ih) rfl (by kernel_rfl)
def ms90:MS:=(46,qaK_md)::ms88
theorem known90:Kn ms90:=kc qaK_post known88
def qaI_b2:Code:=(zaah (zaag Tryz.f19) 0)
def qaI_lp2:Lift.Loop U:=lpG ⟨⟨[0,3],[],[⟨.slot 0,9000000,52,(.st 1052)⟩]⟩,[.win 9000000,.t (.int .i64)],[.row 52 (.st 1052)]⟩ [⟨.exit 0,⟨⟨[0],[],[⟨.slot 0,9000000,52,(.st 1052)⟩]⟩,[.win 9000000],[.row 52 (.st 1052)]⟩⟩] [.fn,.int .i64,.slc (.st 1052)] [[.fn,.slc (.st 1052)]] qaI_l2
theorem qaI_ok2:LoopR kk env0 Tryz.f19.ntmps qaI_b2 qaI_lp2:=
  lj qaI_i2 qaI_t2 known90 (zaaa _)
def qaI_L:Nat->Option (Lift.Loop U):=fun n=>bif Nat.beq n zaar then some zaao else bif Nat.beq n 2 then some qaI_lp2 else none
def qaI_md:Mode U:=mdG ⟨⟨[0],[],[⟨.slot 0,9000000,52,(.st 1052)⟩]⟩,[.win 9000000],[.row 52 (.st 1052)]⟩ [] [⟨⟨[0],[],[⟨.slot 0,100050,52,(.st 52)⟩,⟨.here 9000000,9000000,52,(.st 52)⟩]⟩,[.oslc 100050],[.row 52 (.st 52),.row 52 (.st 52)]⟩] [.fn,.slc (.st 1052)] [[.slc (.st 52),.slc (.st 52)]] qaI
theorem qaI_post:zaad kk env0 19 qaI_md:=
  fnG (fn:=Tryz.f19) (ko known90) (by kernel_rfl) (L:=qaI_L) (zaab (bs:=[qaI_b2]) (by kernel_rfl) ⟨.inr ⟨_,by kernel_rfl,zaal.of_round (qaI_ok2)⟩,trivial⟩) (zaaa _) (by kernel_rfl)
def ms91:MS:=(19,qaI_md)::ms90
theorem known91:Kn ms91:=kc qaI_post known90
abbrev qbd_tr:Type:=curT U (sumT U [[.bool]]) [.st 50,.st 50]
def qbd_rmd (rec_qbd:qbd_tr):Mode U:=mdG ⟨⟨[0,1],[],[]⟩,[.t (.st 50),.t (.st 50)],[]⟩ [] [⟨⟨[0],[],[]⟩,[.t .bool],[]⟩] [.st 50,.st 50] [[.bool]] rec_qbd
abbrev qbd_rec (r:qbd_tr):Prop:=zaad kk env0 96 (qbd_rmd r)
def ms92 (rec_qbd:qbd_tr):MS:=(96,(qbd_rmd rec_qbd))::ms91
theorem known92 (rec_qbd:qbd_tr) (hrec_qbd:qbd_rec rec_qbd):Kn (ms92 rec_qbd):=kc hrec_qbd known91
def qbd_b4:Code:=(zaah (zaag Tryz.f96) 0)
def qbd_lp4 (rec_qbd:qbd_tr):Lift.Loop U:=lpG ⟨⟨[2,3,5],[2,3],[]⟩,[.ptr 2 0,.ptr 3 0,.t (.int .i64)],[.blk 50 [.t (.int .i64),.t (.int .i64),.t .str,.t (.slc (.st 50))],.blk 50 [.t (.int .i64),.t (.int .i64),.t .str,.t (.slc (.st 50))]]⟩ [⟨.ret,⟨⟨[4],[],[]⟩,[.t .bool],[]⟩⟩,⟨.exit 0,⟨⟨[],[],[]⟩,[],[]⟩⟩] [.int .i64,.int .i64,.int .i64,.str,.slc (.st 50),.int .i64,.int .i64,.str,.slc (.st 50)] [[.bool],[]] (qbd_l4 rec_qbd)
theorem qbd_ok4 (rec_qbd:qbd_tr) (hrec_qbd:qbd_rec rec_qbd):LoopR kk env0 Tryz.f96.ntmps qbd_b4 (qbd_lp4 rec_qbd):=
  lj (qbd_i4 rec_qbd) (qbd_t4 rec_qbd) (known92 rec_qbd hrec_qbd) (zaaa _)
def qbd_L (rec_qbd:qbd_tr):Nat->Option (Lift.Loop U):=fun n=>bif Nat.beq n zaar then some zaao else bif Nat.beq n 4 then some (qbd_lp4 rec_qbd) else none
def qbd_md:Mode U:=qbd_rmd qbd
theorem qbd_step (rec_qbd:qbd_tr) (hrec_qbd:qbd_rec rec_qbd):zaaq (Kit.withModes kk (zaac (ms92 rec_qbd))) env0 Tryz.f96.ntmps (qbd_L rec_qbd) (zaag Tryz.f96):=zaab (bs:=[qbd_b4]) (by kernel_rfl) ⟨.inr ⟨_,by kernel_rfl,zaal.of_round (qbd_ok4 rec_qbd hrec_qbd)⟩,trivial⟩
theorem qbd_post:zaad kk env0 96 (qbd_rmd qbd):=
  recG qbd_i qbd_f (by kernel_rfl) (fun _=>by kernel_rfl) (zaaa _) fun r ih=>fnG (fn:=Tryz.f96) (ko (known92 r ih)) (by kernel_rfl) (qbd_step r ih) rfl (by kernel_rfl)
def ms93:MS:=(96,qbd_md)::ms91
theorem known93:Kn ms93:=kc qbd_post known91
abbrev qbg_tr:Type:=curT U (sumT U [[.bool]]) [.slc (.st 52),.slc (.st 52)]
def qbg_rmd (rec_qbg:qbg_tr):Mode U:=mdG ⟨⟨[0,1],[],[]⟩,[.t (.slc (.st 52)),.t (.slc (.st 52))],[]⟩ [] [⟨⟨[0],[],[]⟩,[.t .bool],[]⟩] [.slc (.st 52),.slc (.st 52)] [[.bool]] rec_qbg
abbrev qbg_rec (r:qbg_tr):Prop:=zaad kk env0 47 (qbg_rmd r)
def ms94 (rec_qbg:qbg_tr):MS:=(47,(qbg_rmd rec_qbg))::ms93
theorem known94 (rec_qbg:qbg_tr) (hrec_qbg:qbg_rec rec_qbg):Kn (ms94 rec_qbg):=kc hrec_qbg known93
def qbg_b4:Code:=(zaah (zaag Tryz.f47) 0)
def qbg_lp4 (rec_qbg:qbg_tr):Lift.Loop U:=lpG ⟨⟨[0,1,5],[],[]⟩,[.t (.slc (.st 52)),.t (.slc (.st 52)),.t (.int .i64)],[]⟩ [⟨.ret,⟨⟨[4],[],[]⟩,[.t .bool],[]⟩⟩,⟨.exit 0,⟨⟨[],[],[]⟩,[],[]⟩⟩] [.slc (.st 52),.slc (.st 52),.int .i64] [[.bool],[]] (qbg_l4 rec_qbg)
theorem qbg_ok4 (rec_qbg:qbg_tr) (hrec_qbg:qbg_rec rec_qbg):LoopR kk env0 Tryz.f47.ntmps qbg_b4 (qbg_lp4 rec_qbg):=
  lj (qbg_i4 rec_qbg) (qbg_t4 rec_qbg) (known94 rec_qbg hrec_qbg) (zaaa _)
def qbg_L (rec_qbg:qbg_tr):Nat->Option (Lift.Loop U):=fun n=>bif Nat.beq n zaar then some zaao else bif Nat.beq n 4 then some (qbg_lp4 rec_qbg) else none
def qbg_md:Mode U:=qbg_rmd qbg
theorem qbg_step (rec_qbg:qbg_tr) (hrec_qbg:qbg_rec rec_qbg):zaaq (Kit.withModes kk (zaac (ms94 rec_qbg))) env0 Tryz.f47.ntmps (qbg_L rec_qbg) (zaag Tryz.f47):=zaab (bs:=[qbg_b4]) (by kernel_rfl) ⟨.inr ⟨_,by kernel_rfl,zaal.of_round (qbg_ok4 rec_qbg hrec_qbg)⟩,trivial⟩
theorem qbg_post:zaad kk env0 47 (qbg_rmd qbg):=
  recG qbg_i qbg_f (by kernel_rfl) (fun _=>by kernel_rfl) (zaaa _) fun r ih=>fnG (fn:=Tryz.f47) (ko (known94 r ih)) (by kernel_rfl) (qbg_step r ih) rfl (by kernel_rfl)
def ms95:MS:=(47,qbg_md)::ms93
theorem known95:Kn ms95:=kc qbg_post known93
def qbc_b4:Code:=(zaah (zaag Tryz.f20) 0)
def qbc_lp4:Lift.Loop U:=lpG ⟨⟨[2,3,5],[2,3],[]⟩,[.ptr 2 0,.ptr 3 0,.t (.int .i64)],[.blk 27 [.t (.slc (.st 62)),.t (.slc .str),.t (.slc (.st 46))],.blk 27 [.t (.slc (.st 62)),.t (.slc .str),.t (.slc (.st 46))]]⟩ [⟨.ret,⟨⟨[4],[],[]⟩,[.t .bool],[]⟩⟩,⟨.exit 0,⟨⟨[2,3],[2,3],[]⟩,[.ptr 2 0,.ptr 3 0],[.blk 27 [.t (.slc (.st 62)),.t (.slc .str),.t (.slc (.st 46))],.blk 27 [.t (.slc (.st 62)),.t (.slc .str),.t (.slc (.st 46))]]⟩⟩] [.int .i64,.slc (.st 62),.slc .str,.slc (.st 46),.slc (.st 62),.slc .str,.slc (.st 46)] [[.bool],[.slc (.st 62),.slc .str,.slc (.st 46),.slc (.st 62),.slc .str,.slc (.st 46)]] qbc_l4
theorem qbc_ok4:LoopR kk env0 Tryz.f20.ntmps qbc_b4 qbc_lp4:=
  lj qbc_i4 qbc_t4 known95 (zaaa _)
def qbc_b9:Code:=(zaah (zaag Tryz.f20) 1)
def qbc_lp9:Lift.Loop U:=lpG ⟨⟨[2,3,6],[2,3],[]⟩,[.ptr 2 0,.ptr 3 0,.t (.int .i64)],[.blk 27 [.t (.slc (.st 62)),.t (.slc .str),.t (.slc (.st 46))],.blk 27 [.t (.slc (.st 62)),.t (.slc .str),.t (.slc (.st 46))]]⟩ [⟨.ret,⟨⟨[4],[],[]⟩,[.t .bool],[]⟩⟩,⟨.exit 2,⟨⟨[2,3],[2,3],[]⟩,[.ptr 2 0,.ptr 3 0],[.blk 27 [.t (.slc (.st 62)),.t (.slc .str),.t (.slc (.st 46))],.blk 27 [.t (.slc (.st 62)),.t (.slc .str),.t (.slc (.st 46))]]⟩⟩] [.int .i64,.slc (.st 62),.slc .str,.slc (.st 46),.slc (.st 62),.slc .str,.slc (.st 46)] [[.bool],[.slc (.st 62),.slc .str,.slc (.st 46),.slc (.st 62),.slc .str,.slc (.st 46)]] qbc_l9
theorem qbc_ok9:LoopR kk env0 Tryz.f20.ntmps qbc_b9 qbc_lp9:=
  lj qbc_i9 qbc_t9 known95 (zaaa _)
def qbc_b14:Code:=(zaah (zaag Tryz.f20) 2)
def qbc_lp14:Lift.Loop U:=lpG ⟨⟨[2,3,7],[2,3],[]⟩,[.ptr 2 0,.ptr 3 0,.t (.int .i64)],[.blk 27 [.t (.slc (.st 62)),.t (.slc .str),.t (.slc (.st 46))],.blk 27 [.t (.slc (.st 62)),.t (.slc .str),.t (.slc (.st 46))]]⟩ [⟨.ret,⟨⟨[4],[],[]⟩,[.t .bool],[]⟩⟩,⟨.exit 4,⟨⟨[],[],[]⟩,[],[]⟩⟩] [.int .i64,.slc (.st 62),.slc .str,.slc (.st 46),.slc (.st 62),.slc .str,.slc (.st 46)] [[.bool],[]] qbc_l14
theorem qbc_ok14:LoopR kk env0 Tryz.f20.ntmps qbc_b14 qbc_lp14:=
  lj qbc_i14 qbc_t14 known95 (zaaa _)
def qbc_L:Nat->Option (Lift.Loop U):=fun n=>bif Nat.beq n zaar then some zaao else bif Nat.beq n 4 then some qbc_lp4 else bif Nat.beq n 9 then some qbc_lp9 else bif Nat.beq n 14 then some qbc_lp14 else none
def qbc_md:Mode U:=mdG ⟨⟨[0,1],[],[]⟩,[.t (.st 27),.t (.st 27)],[]⟩ [] [⟨⟨[0],[],[]⟩,[.t .bool],[]⟩] [.st 27,.st 27] [[.bool]] qbc
theorem qbc_post:zaad kk env0 20 qbc_md:=
  fnG (fn:=Tryz.f20) (ko known95) (by kernel_rfl) (L:=qbc_L) (zaab (bs:=[qbc_b4,qbc_b9,qbc_b14]) (by kernel_rfl) ⟨.inr ⟨_,by kernel_rfl,zaal.of_round (qbc_ok4)⟩,.inr ⟨_,by kernel_rfl,zaal.of_round (qbc_ok9)⟩,.inr ⟨_,by kernel_rfl,zaal.of_round (qbc_ok14)⟩,trivial⟩) (zaaa _) (by kernel_rfl)
def ms96:MS:=(20,qbc_md)::ms95
theorem known96:Kn ms96:=kc qbc_post known95
def qaQ_md:Mode U:=mdG ⟨⟨[0],[],[]⟩,[.t (.int .i64)],[]⟩ [] [⟨⟨[0],[],[]⟩,[.t .bool],[]⟩] [.int .i64] [[.bool]] qaQ
theorem qaQ_post:zaad kk env0 126 qaQ_md:=
  fo (fn:=Tryz.f126) known96 (zaaa _)
def ms97:MS:=(126,qaQ_md)::ms96
theorem known97:Kn ms97:=kc qaQ_post known96
def qaT_md:Mode U:=mdG ⟨⟨[0],[],[]⟩,[.t (.int .i64)],[]⟩ [] [⟨⟨[0],[],[]⟩,[.t (.int .i64)],[]⟩] [.int .i64] [[.int .i64]] qaT
theorem qaT_post:zaad kk env0 160 qaT_md:=
  fo (fn:=Tryz.f160) known97 (zaaa _)
def ms98:MS:=(160,qaT_md)::ms97
theorem known98:Kn ms98:=kc qaT_post known97
def qaN_b18:Code:=(zaah (zaag Tryz.f124) 0)
def qaN_lp18:Lift.Loop U:=lpG ⟨⟨[0,1,7,8,9],[],[]⟩,[.t .str,.t (.int .i64),.t (.int .i64),.t (.int .i64),.t (.int .i64)],[]⟩ [⟨.ret,⟨⟨[4,5],[],[]⟩,[.t (.int .i64),.t (.int .i64)],[]⟩⟩,⟨.exit 1,⟨⟨[7,8],[],[]⟩,[.t (.int .i64),.t (.int .i64)],[]⟩⟩] [.str,.int .i64,.int .i64,.int .i64,.int .i64] [[.int .i64,.int .i64],[.int .i64,.int .i64]] qaN_l18
theorem qaN_ok18:LoopR kk env0 Tryz.f124.ntmps qaN_b18 qaN_lp18:=
  lo qaN_i18 qaN_t18 known98 (zaaa _)
def qaN_L:Nat->Option (Lift.Loop U):=fun n=>bif Nat.beq n 18 then some qaN_lp18 else none
def qaN_md:Mode U:=mdG ⟨⟨[0,1],[],[]⟩,[.t .str,.t (.int .i64)],[]⟩ [] [⟨⟨[0,1],[],[]⟩,[.t (.int .i64),.t (.int .i64)],[]⟩] [.str,.int .i64] [[.int .i64,.int .i64]] qaN
theorem qaN_post:zaad kk env0 124 qaN_md:=
  fnG (fn:=Tryz.f124) (ko known98) (by kernel_rfl) (L:=qaN_L) (zaab (bs:=[qaN_b18]) (by kernel_rfl) ⟨.inr ⟨_,by kernel_rfl,zaal.of_round (qaN_ok18)⟩,trivial⟩) (zaaa _) (by kernel_rfl)
def ms99:MS:=(124,qaN_md)::ms98
theorem known99:Kn ms99:=kc qaN_post known98
def qaU_md:Mode U:=mdG ⟨⟨[0,1,2],[],[]⟩,[.t (.st 77),.t (.int .i64),.t (.int .i64)],[]⟩ [] [⟨⟨[0],[],[]⟩,[.t (.st 77)],[]⟩] [.st 77,.int .i64,.int .i64] [[.st 77]] qaU
theorem qaU_post:zaad kk env0 125 qaU_md:=
  fo (fn:=Tryz.f125) known99 (zaaa _)
def ms100:MS:=(125,qaU_md)::ms99
theorem known100:Kn ms100:=kc qaU_post known99
def qaV_b3:Code:=(zaah (zaag Tryz.f79) 0)
def qaV_lp3:Lift.Loop U:=lpG ⟨⟨[0,3,4,5],[3,5],[⟨.slot 4,4,77,(.st 77)⟩]⟩,[.t .str,.ptr 3 0,.oslc 4,.ptr 5 0],[.blk 77 [.t (.int .i64),.t (.int .i64),.t (.int .i64),.t (.int .i64)],.blk 77 [.t (.int .i64),.t (.int .i64),.t (.int .i64),.t (.int .i64)],.row 77 (.st 77)]⟩ [⟨.exit 0,⟨⟨[3,4,5],[3,5],[⟨.slot 4,4,77,(.st 77)⟩]⟩,[.ptr 3 0,.oslc 4,.ptr 5 0],[.blk 77 [.t (.int .i64),.t (.int .i64),.t (.int .i64),.t (.int .i64)],.blk 77 [.t (.int .i64),.t (.int .i64),.t (.int .i64),.t (.int .i64)],.row 77 (.st 77)]⟩⟩] [.str,.int .i64,.int .i64,.int .i64,.int .i64,.int .i64,.int .i64,.int .i64,.int .i64,.slc (.st 77)] [[.int .i64,.int .i64,.int .i64,.int .i64,.int .i64,.int .i64,.int .i64,.int .i64,.slc (.st 77)]] qaV_l3
theorem qaV_ok3:LoopR kk env0 Tryz.f79.ntmps qaV_b3 qaV_lp3:=
  lo qaV_i3 qaV_t3 known100 (zaaa _)
def qaV_L:Nat->Option (Lift.Loop U):=fun n=>bif Nat.beq n 3 then some qaV_lp3 else none
def qaV_md:Mode U:=mdG ⟨⟨[0],[],[]⟩,[.t .str],[]⟩ [] [⟨⟨[0,1],[],[⟨.slot 0,100050,77,(.st 77)⟩]⟩,[.oslc 100050,.t (.st 77)],[.row 77 (.st 77)]⟩] [.str] [[.st 77,.slc (.st 77)]] qaV
theorem qaV_post:zaad kk env0 79 qaV_md:=
  fnG (fn:=Tryz.f79) (ko known100) (by kernel_rfl) (L:=qaV_L) (zaab (bs:=[qaV_b3]) (by kernel_rfl) ⟨.inr ⟨_,by kernel_rfl,zaal.of_round (qaV_ok3)⟩,trivial⟩) (zaaa _) (by kernel_rfl)
def ms101:MS:=(79,qaV_md)::ms100
theorem known101:Kn ms101:=kc qaV_post known100
def qaS_md:Mode U:=mdG ⟨⟨[0],[],[]⟩,[.t .str],[]⟩ [] [⟨⟨[0,1],[],[⟨.slot 0,100050,77,(.st 77)⟩]⟩,[.oslc 100050,.t (.st 30)],[.row 77 (.st 77)]⟩] [.str] [[.st 30,.slc (.st 77)]] qaS
theorem qaS_post:zaad kk env0 32 qaS_md:=
  fo (fn:=Tryz.f32) known101 (zaaa _)
def ms102:MS:=(32,qaS_md)::ms101
theorem known102:Kn ms102:=kc qaS_post known101
def qaO_md:Mode U:=mdG ⟨⟨[0],[],[]⟩,[.t (.int .i64)],[]⟩ [] [⟨⟨[0],[],[]⟩,[.t .bool],[]⟩] [.int .i64] [[.bool]] qaO
theorem qaO_post:zaad kk env0 33 qaO_md:=
  fo (fn:=Tryz.f33) known102 (zaaa _)
def ms103:MS:=(33,qaO_md)::ms102
theorem known103:Kn ms103:=kc qaO_post known102
def qaR_md:Mode U:=mdG ⟨⟨[0],[],[]⟩,[.t (.int .i64)],[]⟩ [] [⟨⟨[0],[],[]⟩,[.t .bool],[]⟩] [.int .i64] [[.bool]] qaR
theorem qaR_post:zaad kk env0 80 qaR_md:=
  fo (fn:=Tryz.f80) known103 (zaaa _)
def ms104:MS:=(80,qaR_md)::ms103
theorem known104:Kn ms104:=kc qaR_post known103
def qaP_md:Mode U:=mdG ⟨⟨[0],[],[]⟩,[.t (.int .i64)],[]⟩ [] [⟨⟨[0],[],[]⟩,[.t .bool],[]⟩] [.int .i64] [[.bool]] qaP
theorem qaP_post:zaad kk env0 81 qaP_md:=
  fo (fn:=Tryz.f81) known104 (zaaa _)
def ms105:MS:=(81,qaP_md)::ms104
theorem known105:Kn ms105:=kc qaP_post known104
def qa1_b2:Code:=(zaah (zaag Tryz.f82) 0)
def qa1_lp2:Lift.Loop U:=lpG ⟨⟨[0,5],[],[]⟩,[.t (.slc (.st 77)),.t (.int .i64)],[]⟩ [⟨.exit 0,⟨⟨[5],[],[]⟩,[.t (.int .i64)],[]⟩⟩] [.slc (.st 77),.int .i64] [[.int .i64]] qa1_l2
theorem qa1_ok2:LoopR kk env0 Tryz.f82.ntmps qa1_b2 qa1_lp2:=
  lo qa1_i2 qa1_t2 known105 (zaaa _)
def qa1_L:Nat->Option (Lift.Loop U):=fun n=>bif Nat.beq n 2 then some qa1_lp2 else none
def qa1_md:Mode U:=mdG ⟨⟨[0,1],[],[]⟩,[.t (.slc (.st 77)),.t (.int .i64)],[]⟩ [] [⟨⟨[0],[],[]⟩,[.t (.int .i64)],[]⟩] [.slc (.st 77),.int .i64] [[.int .i64]] qa1
theorem qa1_post:zaad kk env0 82 qa1_md:=
  fnG (fn:=Tryz.f82) (ko known105) (by kernel_rfl) (L:=qa1_L) (zaab (bs:=[qa1_b2]) (by kernel_rfl) ⟨.inr ⟨_,by kernel_rfl,zaal.of_round (qa1_ok2)⟩,trivial⟩) (zaaa _) (by kernel_rfl)
def ms106:MS:=(82,qa1_md)::ms105
theorem known106:Kn ms106:=kc qa1_post known105
def qa0_md:Mode U:=mdG ⟨⟨[0,1,2,3],[],[]⟩,[.t (.slc (.st 77)),.t .str,.t (.int .i64),.t (.int .i64)],[]⟩ [] [⟨⟨[0],[],[]⟩,[.t .str],[]⟩] [.slc (.st 77),.str,.int .i64,.int .i64] [[.str]] qa0
theorem qa0_post:zaad kk env0 83 qa0_md:=
  fo (fn:=Tryz.f83) known106 (zaaa _)
def ms107:MS:=(83,qa0_md)::ms106
theorem known107:Kn ms107:=kc qa0_post known106
def qaY_md:Mode U:=mdG ⟨⟨[],[],[]⟩,[],[]⟩ [] [⟨⟨[0],[],[⟨.slot 0,100050,9,.str⟩]⟩,[.oslc 100050],[.row 9 .str]⟩] [] [[.slc .str]] qaY
theorem qaY_post:zaad kk env0 85 qaY_md:=
  fo (fn:=Tryz.f85) known107 (zaaa _)
def ms108:MS:=(85,qaY_md)::ms107
theorem known108:Kn ms108:=kc qaY_post known107
def qaW_b2:Code:=(zaah (zaag Tryz.f84) 0)
def qaW_lp2:Lift.Loop U:=lpG ⟨⟨[0,1,5],[],[]⟩,[.t (.slc .str),.t .str,.t (.int .i64)],[]⟩ [⟨.ret,⟨⟨[4],[],[]⟩,[.t .bool],[]⟩⟩,⟨.exit 0,⟨⟨[],[],[]⟩,[],[]⟩⟩] [.slc .str,.str,.int .i64] [[.bool],[]] qaW_l2
theorem qaW_ok2:LoopR kk env0 Tryz.f84.ntmps qaW_b2 qaW_lp2:=
  lo qaW_i2 qaW_t2 known108 (zaaa _)
def qaW_L:Nat->Option (Lift.Loop U):=fun n=>bif Nat.beq n 2 then some qaW_lp2 else none
def qaW_md:Mode U:=mdG ⟨⟨[0,1],[],[]⟩,[.t (.slc .str),.t .str],[]⟩ [] [⟨⟨[0],[],[]⟩,[.t .bool],[]⟩] [.slc .str,.str] [[.bool]] qaW
theorem qaW_post:zaad kk env0 84 qaW_md:=
  fnG (fn:=Tryz.f84) (ko known108) (by kernel_rfl) (L:=qaW_L) (zaab (bs:=[qaW_b2]) (by kernel_rfl) ⟨.inr ⟨_,by kernel_rfl,zaal.of_round (qaW_ok2)⟩,trivial⟩) (zaaa _) (by kernel_rfl)
def ms109:MS:=(84,qaW_md)::ms108
theorem known109:Kn ms109:=kc qaW_post known108
def qaZ_b5:Code:=(zaah (zaag Tryz.f86) 0)
def qaZ_lp5:Lift.Loop U:=lpG ⟨⟨[0,4,5],[],[]⟩,[.t .str,.t (.int .i64),.t (.int .i64)],[]⟩ [⟨.ret,⟨⟨[2,3],[],[]⟩,[.t (.int .i64),.t .bool],[]⟩⟩,⟨.exit 0,⟨⟨[4],[],[]⟩,[.t (.int .i64)],[]⟩⟩] [.str,.int .i64,.int .i64] [[.int .i64,.bool],[.int .i64]] qaZ_l5
theorem qaZ_ok5:LoopR kk env0 Tryz.f86.ntmps qaZ_b5 qaZ_lp5:=
  lo qaZ_i5 qaZ_t5 known109 (zaaa _)
def qaZ_L:Nat->Option (Lift.Loop U):=fun n=>bif Nat.beq n 5 then some qaZ_lp5 else none
def qaZ_md:Mode U:=mdG ⟨⟨[0],[],[]⟩,[.t .str],[]⟩ [] [⟨⟨[0,1],[],[]⟩,[.t (.int .i64),.t .bool],[]⟩] [.str] [[.int .i64,.bool]] qaZ
theorem qaZ_post:zaad kk env0 86 qaZ_md:=
  fnG (fn:=Tryz.f86) (ko known109) (by kernel_rfl) (L:=qaZ_L) (zaab (bs:=[qaZ_b5]) (by kernel_rfl) ⟨.inr ⟨_,by kernel_rfl,zaal.of_round (qaZ_ok5)⟩,trivial⟩) (zaaa _) (by kernel_rfl)
def ms110:MS:=(86,qaZ_md)::ms109
theorem known110:Kn ms110:=kc qaZ_post known109
def qa3_md:Mode U:=mdG ⟨⟨[],[],[]⟩,[],[]⟩ [] [⟨⟨[0],[],[⟨.slot 0,100050,9,.str⟩]⟩,[.oslc 100050],[.row 9 .str]⟩] [] [[.slc .str]] qa3
theorem qa3_post:zaad kk env0 127 qa3_md:=
  fo (fn:=Tryz.f127) known110 (zaaa _)
def ms111:MS:=(127,qa3_md)::ms110
theorem known111:Kn ms111:=kc qa3_post known110
def qa2_b3:Code:=(zaah (zaag Tryz.f87) 0)
def qa2_lp3:Lift.Loop U:=lpG ⟨⟨[0,1,5,6],[],[⟨.slot 5,5,9,.str⟩]⟩,[.t .str,.t (.int .i64),.oslc 5,.t (.int .i64)],[.row 9 .str]⟩ [⟨.ret,⟨⟨[4],[],[]⟩,[.t .str],[]⟩⟩,⟨.exit 0,⟨⟨[],[],[]⟩,[],[]⟩⟩] [.str,.int .i64,.int .i64,.slc .str] [[.str],[]] qa2_l3
theorem qa2_ok3:LoopR kk env0 Tryz.f87.ntmps qa2_b3 qa2_lp3:=
  lo qa2_i3 qa2_t3 known111 (zaaa _)
def qa2_L:Nat->Option (Lift.Loop U):=fun n=>bif Nat.beq n 3 then some qa2_lp3 else none
def qa2_md:Mode U:=mdG ⟨⟨[0,1],[],[]⟩,[.t .str,.t (.int .i64)],[]⟩ [] [⟨⟨[0],[],[]⟩,[.t .str],[]⟩] [.str,.int .i64] [[.str]] qa2
theorem qa2_post:zaad kk env0 87 qa2_md:=
  fnG (fn:=Tryz.f87) (ko known111) (by kernel_rfl) (L:=qa2_L) (zaab (bs:=[qa2_b3]) (by kernel_rfl) ⟨.inr ⟨_,by kernel_rfl,zaal.of_round (qa2_ok3)⟩,trivial⟩) (zaaa _) (by kernel_rfl)
def ms112:MS:=(87,qa2_md)::ms111
theorem known112:Kn ms112:=kc qa2_post known111
def qa4_md:Mode U:=mdG ⟨⟨[0,1,2],[],[]⟩,[.t (.slc (.st 77)),.t .str,.t (.int .i64)],[]⟩ [] [⟨⟨[0,1,2],[],[]⟩,[.t (.st 37),.t (.int .i64),.t (.int .i64)],[]⟩] [.slc (.st 77),.str,.int .i64] [[.st 37,.int .i64,.int .i64]] qa4
theorem qa4_post:zaad kk env0 34 qa4_md:=
  fo (fn:=Tryz.f34) known112 (zaaa _)
def ms113:MS:=(34,qa4_md)::ms112
theorem known113:Kn ms113:=kc qa4_post known112
def qaX_b11:Code:=(zaah (zaah (zaag Tryz.f14) 0) 0)
def qaX_lp11:Lift.Loop U:=lpG ⟨⟨[0,3,4,6,7],[3],[⟨.slot 6,6,37,(.st 37)⟩]⟩,[.t .str,.ptr 3 0,.t (.slc (.st 77)),.oslc 6,.t (.int .i64)],[.blk 30 [.t (.int .i64),.t (.int .i64),.t .str],.row 37 (.st 37)]⟩ [⟨.exit 2,⟨⟨[0,3,4,6,7],[3],[⟨.slot 6,6,37,(.st 37)⟩]⟩,[.t .str,.ptr 3 0,.t (.slc (.st 77)),.oslc 6,.t (.int .i64)],[.blk 30 [.t (.int .i64),.t (.int .i64),.t .str],.row 37 (.st 37)]⟩⟩] [.str,.slc (.st 77),.int .i64,.int .i64,.int .i64,.str,.slc (.st 37)] [[.str,.slc (.st 77),.int .i64,.int .i64,.int .i64,.str,.slc (.st 37)]] qaX_l11
theorem qaX_ok11:LoopR kk env0 Tryz.f14.ntmps qaX_b11 qaX_lp11:=
  lo qaX_i11 qaX_t11 known113 (zaaa _)
def qaX_b6:Code:=(zaah (zaag Tryz.f14) 0)
def qaX_L6:Nat->Option (Lift.Loop U):=fun n=>bif Nat.beq n 11 then some qaX_lp11 else none
def qaX_lp6:Lift.Loop U:=lpG ⟨⟨[0,3,4,6,7],[3],[⟨.slot 6,6,37,(.st 37)⟩]⟩,[.t .str,.ptr 3 0,.t (.slc (.st 77)),.oslc 6,.t (.int .i64)],[.blk 30 [.t (.int .i64),.t (.int .i64),.t .str],.row 37 (.st 37)]⟩ [⟨.ret,⟨⟨[2,3],[3],[]⟩,[.nil,.ptr 3 0],[.blk 30 [.t (.int .i64),.t (.int .i64),.t .str]]⟩⟩,⟨.exit 0,⟨⟨[0,3,6],[3],[⟨.slot 6,6,37,(.st 37)⟩]⟩,[.t .str,.ptr 3 0,.oslc 6],[.blk 30 [.t (.int .i64),.t (.int .i64),.t .str],.row 37 (.st 37)]⟩⟩] [.str,.slc (.st 77),.int .i64,.int .i64,.int .i64,.str,.slc (.st 37)] [[.int .i64,.int .i64,.str],[.str,.int .i64,.int .i64,.str,.slc (.st 37)]] qaX_l6
theorem qaX_ok6:LoopR kk env0 Tryz.f14.ntmps qaX_b6 qaX_lp6:=
  loopG qaX_i6 qaX_t6 (ko known113) (L:=qaX_L6) (zaab (bs:=[qaX_b11]) (by kernel_rfl) ⟨.inr ⟨_,by kernel_rfl,zaal.of_round (qaX_ok11)⟩,trivial⟩) (by kernel_rfl) (fun _=>by kernel_rfl) (zaaa _) (fun _=>by kernel_rfl)
def qaX_L:Nat->Option (Lift.Loop U):=fun n=>bif Nat.beq n 6 then some qaX_lp6 else none
def qaX_md:Mode U:=mdG ⟨⟨[0],[],[]⟩,[.t .str],[]⟩ [] [⟨⟨[0,1],[],[⟨.slot 0,100050,37,(.st 37)⟩]⟩,[.oslc 100050,.t (.st 30)],[.row 37 (.st 37)]⟩] [.str] [[.st 30,.slc (.st 37)]] qaX
theorem qaX_post:zaad kk env0 14 qaX_md:=
  fnG (fn:=Tryz.f14) (ko known113) (by kernel_rfl) (L:=qaX_L) (zaab (bs:=[qaX_b6]) (by kernel_rfl) ⟨.inr ⟨_,by kernel_rfl,zaal.of_round (qaX_ok6)⟩,trivial⟩) (zaaa _) (by kernel_rfl)
def ms114:MS:=(14,qaX_md)::ms113
theorem known114:Kn ms114:=kc qaX_post known113
def qbo_md:Mode U:=mdG ⟨⟨[0,1],[100000],[⟨.cell 100000 0,200000,37,(.st 37)⟩]⟩,[.ptr 100000 0,.t .str],[.blk 95 [.oslc 200000,.t (.int .i64),.t .bool],.row 37 (.st 37)]⟩ [⟨100000,.slot 0,[]⟩] [⟨⟨[0],[100000],[⟨.cell 100000 0,200000,37,(.st 37)⟩]⟩,[.t .bool],[.blk 95 [.oslc 200000,.t (.int .i64),.t .bool],.row 37 (.st 37)]⟩] [.str,.int .i64,.bool,.slc (.st 37)] [[.bool,.int .i64,.bool,.slc (.st 37)]] qbo
theorem qbo_post:zaad kk env0 132 qbo_md:=
  fj (fn:=Tryz.f132) known114 (zaaa _)
def ms115:MS:=(132,qbo_md)::ms114
theorem known115:Kn ms115:=kc qbo_post known114
def qbu_md:Mode U:=mdG ⟨⟨[0,1],[100000],[⟨.cell 100000 0,200000,37,(.st 37)⟩]⟩,[.ptr 100000 0,.t .str],[.blk 95 [.oslc 200000,.t (.int .i64),.t .bool],.row 37 (.st 37)]⟩ [⟨100000,.slot 0,[]⟩] [⟨⟨[0],[100000],[⟨.cell 100000 0,200000,37,(.st 37)⟩]⟩,[.t .bool],[.blk 95 [.oslc 200000,.t (.int .i64),.t .bool],.row 37 (.st 37)]⟩] [.str,.int .i64,.bool,.slc (.st 37)] [[.bool,.int .i64,.bool,.slc (.st 37)]] qbu
theorem qbu_post:zaad kk env0 97 qbu_md:=
  fj (fn:=Tryz.f97) known115 (zaaa _)
def ms116:MS:=(97,qbu_md)::ms115
theorem known116:Kn ms116:=kc qbu_post known115
def qbp_md:Mode U:=mdG ⟨⟨[0],[100000],[⟨.cell 100000 0,200000,37,(.st 37)⟩]⟩,[.ptr 100000 0],[.blk 95 [.oslc 200000,.t (.int .i64),.t .bool],.row 37 (.st 37)]⟩ [⟨100000,.slot 0,[]⟩] [⟨⟨[0],[100000],[⟨.cell 100000 0,200000,37,(.st 37)⟩]⟩,[.t .str],[.blk 95 [.oslc 200000,.t (.int .i64),.t .bool],.row 37 (.st 37)]⟩] [.int .i64,.bool,.slc (.st 37)] [[.str,.int .i64,.bool,.slc (.st 37)]] qbp
theorem qbp_post:zaad kk env0 98 qbp_md:=
  fj (fn:=Tryz.f98) known116 (zaaa _)
def ms117:MS:=(98,qbp_md)::ms116
theorem known117:Kn ms117:=kc qbp_post known116
def qbq_md:Mode U:=mdG ⟨⟨[0,1],[100000],[⟨.cell 100000 0,200000,37,(.st 37)⟩]⟩,[.ptr 100000 0,.t (.int .i64)],[.blk 95 [.oslc 200000,.t (.int .i64),.t .bool],.row 37 (.st 37)]⟩ [⟨100000,.slot 0,[]⟩] [⟨⟨[0],[100000],[⟨.cell 100000 0,200000,37,(.st 37)⟩]⟩,[.t (.int .i64)],[.blk 95 [.oslc 200000,.t (.int .i64),.t .bool],.row 37 (.st 37)]⟩] [.int .i64,.int .i64,.bool,.slc (.st 37)] [[.int .i64,.int .i64,.bool,.slc (.st 37)]] qbq
theorem qbq_post:zaad kk env0 99 qbq_md:=
  fj (fn:=Tryz.f99) known117 (zaaa _)
def ms118:MS:=(99,qbq_md)::ms117
theorem known118:Kn ms118:=kc qbq_post known117
def qbw_md:Mode U:=mdG ⟨⟨[0,1],[100000],[⟨.cell 100000 0,200000,37,(.st 37)⟩]⟩,[.ptr 100000 0,.t .str],[.blk 95 [.oslc 200000,.t (.int .i64),.t .bool],.row 37 (.st 37)]⟩ [⟨100000,.slot 0,[]⟩] [⟨⟨[],[100000],[⟨.cell 100000 0,200000,37,(.st 37)⟩]⟩,[],[.blk 95 [.oslc 200000,.t (.int .i64),.t .bool],.row 37 (.st 37)]⟩] [.str,.int .i64,.bool,.slc (.st 37)] [[.int .i64,.bool,.slc (.st 37)]] qbw
theorem qbw_post:zaad kk env0 100 qbw_md:=
  fj (fn:=Tryz.f100) known118 (zaaa _)
def ms119:MS:=(100,qbw_md)::ms118
theorem known119:Kn ms119:=kc qbw_post known118
abbrev qbv_tr:Type:=curT U (sumT U [[.int .i64,.int .i64,.str,.int .i64,.bool,.slc (.st 1050),.slc (.st 37)]]) [.int .i64,.bool,.slc (.st 37)]
def qbv_rmd (rec_qbv:qbv_tr):Mode U:=mdG ⟨⟨[0],[100000],[⟨.cell 100000 0,200000,37,(.st 37)⟩]⟩,[.ptr 100000 0],[.blk 95 [.oslc 200000,.t (.int .i64),.t .bool],.row 37 (.st 37)]⟩ [⟨100000,.slot 0,[]⟩] [⟨⟨[0],[100000],[⟨.sub 0 3,100400,50,(.st 1050)⟩,⟨.cell 100000 0,200000,37,(.st 37)⟩]⟩,[.agg [.t (.int .i64),.t (.int .i64),.t .str,.oslc 100400]],[.blk 95 [.oslc 200000,.t (.int .i64),.t .bool],.row 50 (.st 1050),.row 37 (.st 37)]⟩] [.int .i64,.bool,.slc (.st 37)] [[.int .i64,.int .i64,.str,.int .i64,.bool,.slc (.st 1050),.slc (.st 37)]] rec_qbv
abbrev qbv_rec (r:qbv_tr):Prop:=zaad kk env0 187 (qbv_rmd r)
def ms120 (rec_qbv:qbv_tr):MS:=(187,(qbv_rmd rec_qbv))::ms119
theorem known120 (rec_qbv:qbv_tr) (hrec_qbv:qbv_rec rec_qbv):Kn (ms120 rec_qbv):=kc hrec_qbv known119
abbrev qbn_tr:Type:=curT U (sumT U [[.int .i64,.int .i64,.str,.int .i64,.bool,.slc (.st 1050),.slc (.st 37)]]) [.int .i64,.int .i64,.bool,.slc (.st 37)]
def qbn_rmd (rec_qbn:qbn_tr):Mode U:=mdG ⟨⟨[0,1],[100000],[⟨.cell 100000 0,200000,37,(.st 37)⟩]⟩,[.ptr 100000 0,.t (.int .i64)],[.blk 95 [.oslc 200000,.t (.int .i64),.t .bool],.row 37 (.st 37)]⟩ [⟨100000,.slot 0,[]⟩] [⟨⟨[0],[100000],[⟨.sub 0 3,100400,50,(.st 1050)⟩,⟨.cell 100000 0,200000,37,(.st 37)⟩]⟩,[.agg [.t (.int .i64),.t (.int .i64),.t .str,.oslc 100400]],[.blk 95 [.oslc 200000,.t (.int .i64),.t .bool],.row 50 (.st 1050),.row 37 (.st 37)]⟩] [.int .i64,.int .i64,.bool,.slc (.st 37)] [[.int .i64,.int .i64,.str,.int .i64,.bool,.slc (.st 1050),.slc (.st 37)]] rec_qbn
abbrev qbn_rec (r:qbn_tr):Prop:=zaad kk env0 163 (qbn_rmd r)
def ms121 (rec_qbv:qbv_tr) (rec_qbn:qbn_tr):MS:=(163,(qbn_rmd rec_qbn))::(ms120 rec_qbv)
theorem known121 (rec_qbv:qbv_tr) (hrec_qbv:qbv_rec rec_qbv) (rec_qbn:qbn_tr) (hrec_qbn:qbn_rec rec_qbn):Kn (ms121 rec_qbv rec_qbn):=kc hrec_qbn (known120 rec_qbv hrec_qbv)
def qbv_md (rec_qbn:qbn_tr):Mode U:=qbv_rmd (qbv rec_qbn)
theorem qbv_step (rec_qbv:qbv_tr) (hrec_qbv:qbv_rec rec_qbv) (rec_qbn:qbn_tr) (hrec_qbn:qbn_rec rec_qbn):zaaq (Kit.withModes kk (zaac (ms121 rec_qbv rec_qbn))) env0 Tryz.f187.ntmps jnL (zaag Tryz.f187):=zaab (bs:=[]) (by kernel_rfl) trivial
theorem qbv_post (rec_qbn:qbn_tr) (hrec_qbn:qbn_rec rec_qbn):zaad kk env0 187 (qbv_rmd (qbv rec_qbn)):=
  recG (qbv_i rec_qbn) (fun r=>qbv_f r rec_qbn) (by kernel_rfl) (fun _=>by kernel_rfl) (zaaa _) fun r ih=>fnG (fn:=Tryz.f187) (ko (known121 r ih rec_qbn hrec_qbn)) (by kernel_rfl) (qbv_step r ih rec_qbn hrec_qbn) rfl (by kernel_rfl)
def ms122 (rec_qbn:qbn_tr):MS:=(163,(qbn_rmd rec_qbn))::ms119
theorem known122 (rec_qbn:qbn_tr) (hrec_qbn:qbn_rec rec_qbn):Kn (ms122 rec_qbn):=kc hrec_qbn known119
def ms123 (rec_qbn:qbn_tr):MS:=(187,(qbv_md rec_qbn))::(ms122 rec_qbn)
theorem known123 (rec_qbn:qbn_tr) (hrec_qbn:qbn_rec rec_qbn):Kn (ms123 rec_qbn):=kc (qbv_post rec_qbn hrec_qbn) (known122 rec_qbn hrec_qbn)
def qbk_md (rec_qbn:qbn_tr):Mode U:=mdG ⟨⟨[0],[],[]⟩,[.t (.int .i64)],[]⟩ [] [⟨⟨[0,1],[],[⟨.slot 0,100050,9,.str⟩,⟨.slot 1,100051,3,(.int .i64)⟩]⟩,[.oslc 100050,.oslc 100051],[.row 9 .str,.row 3 (.int .i64)]⟩] [.int .i64] [[.slc .str,.slc (.int .i64)]] (qbk rec_qbn)
theorem qbk_post (rec_qbn:qbn_tr) (hrec_qbn:qbn_rec rec_qbn):zaad kk env0 208 (qbk_md rec_qbn):=
  fj (fn:=Tryz.f208) (known123 rec_qbn hrec_qbn) (zaaa _)
def ms124 (rec_qbn:qbn_tr):MS:=(208,(qbk_md rec_qbn))::(ms123 rec_qbn)
theorem known124 (rec_qbn:qbn_tr) (hrec_qbn:qbn_rec rec_qbn):Kn (ms124 rec_qbn):=kc (qbk_post rec_qbn hrec_qbn) (known123 rec_qbn hrec_qbn)
def qbs_b3:Code:=(zaah (zaag Tryz.f188) 0)
def qbs_lp3 (rec_qbn:qbn_tr):Lift.Loop U:=lpG ⟨⟨[0,5,6,7],[100000],[⟨.slot 5,5,9,.str⟩,⟨.slot 6,6,3,(.int .i64)⟩,⟨.cell 100000 0,200000,37,(.st 37)⟩]⟩,[.ptr 100000 0,.oslc 5,.oslc 6,.t (.int .i64)],[.blk 95 [.oslc 200000,.t (.int .i64),.t .bool],.row 9 .str,.row 3 (.int .i64),.row 37 (.st 37)]⟩ [⟨.ret,⟨⟨[4],[100000],[⟨.cell 100000 0,200000,37,(.st 37)⟩]⟩,[.t (.int .i64)],[.blk 95 [.oslc 200000,.t (.int .i64),.t .bool],.row 37 (.st 37)]⟩⟩,⟨.exit 0,⟨⟨[],[100000],[⟨.cell 100000 0,200000,37,(.st 37)⟩]⟩,[],[.blk 95 [.oslc 200000,.t (.int .i64),.t .bool],.row 37 (.st 37)]⟩⟩] [.int .i64,.int .i64,.bool,.slc .str,.slc (.int .i64),.slc (.st 37)] [[.int .i64,.int .i64,.bool,.slc (.st 37)],[.int .i64,.bool,.slc (.st 37)]] (qbs_l3 rec_qbn)
theorem qbs_ok3 (rec_qbn:qbn_tr) (hrec_qbn:qbn_rec rec_qbn):LoopR kk env0 Tryz.f188.ntmps qbs_b3 (qbs_lp3 rec_qbn):=
  lj (qbs_i3 rec_qbn) (qbs_t3 rec_qbn) (known124 rec_qbn hrec_qbn) (zaaa _)
def qbs_L (rec_qbn:qbn_tr):Nat->Option (Lift.Loop U):=fun n=>bif Nat.beq n zaar then some zaao else bif Nat.beq n 3 then some (qbs_lp3 rec_qbn) else none
def qbs_md (rec_qbn:qbn_tr):Mode U:=mdG ⟨⟨[0,1],[100000],[⟨.cell 100000 0,200000,37,(.st 37)⟩]⟩,[.ptr 100000 0,.t (.int .i64)],[.blk 95 [.oslc 200000,.t (.int .i64),.t .bool],.row 37 (.st 37)]⟩ [⟨100000,.slot 0,[]⟩] [⟨⟨[0],[100000],[⟨.cell 100000 0,200000,37,(.st 37)⟩]⟩,[.t (.int .i64)],[.blk 95 [.oslc 200000,.t (.int .i64),.t .bool],.row 37 (.st 37)]⟩] [.int .i64,.int .i64,.bool,.slc (.st 37)] [[.int .i64,.int .i64,.bool,.slc (.st 37)]] (qbs rec_qbn)
theorem qbs_post (rec_qbn:qbn_tr) (hrec_qbn:qbn_rec rec_qbn):zaad kk env0 188 (qbs_md rec_qbn):=
  fnG (fn:=Tryz.f188) (ko (known124 rec_qbn hrec_qbn)) (by kernel_rfl) (L:=(qbs_L rec_qbn)) (zaab (bs:=[qbs_b3]) (by kernel_rfl) ⟨.inr ⟨_,by kernel_rfl,zaal.of_round (qbs_ok3 rec_qbn hrec_qbn)⟩,trivial⟩) (zaaa _) (by kernel_rfl)
def ms125 (rec_qbn:qbn_tr):MS:=(188,(qbs_md rec_qbn))::(ms124 rec_qbn)
theorem known125 (rec_qbn:qbn_tr) (hrec_qbn:qbn_rec rec_qbn):Kn (ms125 rec_qbn):=kc (qbs_post rec_qbn hrec_qbn) (known124 rec_qbn hrec_qbn)
def qbn_b4:Code:=(zaah (zaag Tryz.f163) 0)
def qbn_lp4 (rec_qbn:qbn_tr):Lift.Loop U:=lpG ⟨⟨[0,1,4,5],[100000,4,5],[⟨.cell 100000 0,200000,37,(.st 37)⟩,⟨.cell 5 3,20253,50,(.st 1050)⟩]⟩,[.ptr 100000 0,.t (.int .i64),.ptr 4 0,.ptr 5 0],[.blk 95 [.oslc 200000,.t (.int .i64),.t .bool],.blk 50 [.t (.int .i64),.t (.int .i64),.t .str,.nil],.blk 50 [.t (.int .i64),.t (.int .i64),.t .str,.oslc 20253],.row 37 (.st 37),.row 50 (.st 1050)]⟩ [⟨.exit 0,⟨⟨[4,5],[100000,4,5],[⟨.cell 100000 0,200000,37,(.st 37)⟩,⟨.cell 5 3,20253,50,(.st 1050)⟩]⟩,[.ptr 4 0,.ptr 5 0],[.blk 95 [.oslc 200000,.t (.int .i64),.t .bool],.blk 50 [.t (.int .i64),.t (.int .i64),.t .str,.nil],.blk 50 [.t (.int .i64),.t (.int .i64),.t .str,.oslc 20253],.row 37 (.st 37),.row 50 (.st 1050)]⟩⟩] [.int .i64,.int .i64,.bool,.int .i64,.int .i64,.str,.int .i64,.int .i64,.str,.slc (.st 37),.slc (.st 1050)] [[.int .i64,.bool,.int .i64,.int .i64,.str,.int .i64,.int .i64,.str,.slc (.st 37),.slc (.st 1050)]] (qbn_l4 rec_qbn)
theorem qbn_ok4 (rec_qbn:qbn_tr) (hrec_qbn:qbn_rec rec_qbn):LoopR kk env0 Tryz.f163.ntmps qbn_b4 (qbn_lp4 rec_qbn):=
  lj (qbn_i4 rec_qbn) (qbn_t4 rec_qbn) (known125 rec_qbn hrec_qbn) (zaaa _)
def qbn_L (rec_qbn:qbn_tr):Nat->Option (Lift.Loop U):=fun n=>bif Nat.beq n zaar then some zaao else bif Nat.beq n 4 then some (qbn_lp4 rec_qbn) else none
def qbn_md:Mode U:=qbn_rmd qbn
theorem qbn_step (rec_qbn:qbn_tr) (hrec_qbn:qbn_rec rec_qbn):zaaq (Kit.withModes kk (zaac (ms125 rec_qbn))) env0 Tryz.f163.ntmps (qbn_L rec_qbn) (zaag Tryz.f163):=zaab (bs:=[qbn_b4]) (by kernel_rfl) ⟨.inr ⟨_,by kernel_rfl,zaal.of_round (qbn_ok4 rec_qbn hrec_qbn)⟩,trivial⟩
theorem qbn_post:zaad kk env0 163 (qbn_rmd qbn):=
  recG qbn_i qbn_f (by kernel_rfl) (fun _=>by kernel_rfl) (zaaa _) fun r ih=>fnG (fn:=Tryz.f163) (ko (known125 r ih)) (by kernel_rfl) (qbn_step r ih) rfl (by kernel_rfl)
def ms126:MS:=(163,qbn_md)::ms119
theorem known126:Kn ms126:=kc qbn_post known119
def qbr_md:Mode U:=mdG ⟨⟨[0],[100000],[⟨.cell 100000 0,200000,37,(.st 37)⟩]⟩,[.ptr 100000 0],[.blk 95 [.oslc 200000,.t (.int .i64),.t .bool],.row 37 (.st 37)]⟩ [⟨100000,.slot 0,[]⟩] [⟨⟨[0],[100000],[⟨.sub 0 6,100700,50,(.st 1050)⟩,⟨.sub 0 8,100900,52,(.st 1052)⟩,⟨.sub 0 9,101000,52,(.st 1052)⟩,⟨.cell 100000 0,200000,37,(.st 37)⟩]⟩,[.agg [.t (.int .i64),.t .str,.t .str,.t (.int .i64),.t (.int .i64),.t .str,.oslc 100700,.t (.int .i64),.oslc 100900,.oslc 101000]],[.blk 95 [.oslc 200000,.t (.int .i64),.t .bool],.row 50 (.st 1050),.row 52 (.st 1052),.row 52 (.st 1052),.row 37 (.st 37)]⟩] [.int .i64,.bool,.slc (.st 37)] [[.int .i64,.str,.str,.int .i64,.int .i64,.str,.int .i64,.int .i64,.bool,.slc (.st 1050),.slc (.st 1052),.slc (.st 1052),.slc (.st 37)]] qbr
theorem qbr_post:zaad kk env0 161 qbr_md:=
  fj (fn:=Tryz.f161) known126 (zaaa _)
def ms127:MS:=(161,qbr_md)::ms126
theorem known127:Kn ms127:=kc qbr_post known126
def qbj_md:Mode U:=mdG ⟨⟨[0],[],[]⟩,[.t .str],[]⟩ [] [⟨⟨[0],[],[]⟩,[.t (.int .i64)],[]⟩] [.str] [[.int .i64]] qbj
theorem qbj_post:zaad kk env0 162 qbj_md:=
  fj (fn:=Tryz.f162) known127 (zaaa _)
def ms128:MS:=(162,qbj_md)::ms127
theorem known128:Kn ms128:=kc qbj_post known127
abbrev qbl_tr:Type:=curT U (sumT U [[.int .i64,.bool,.slc (.st 1052),.slc (.st 37)]]) [.int .i64,.bool,.slc (.st 37)]
def qbl_rmd (rec_qbl:qbl_tr):Mode U:=mdG ⟨⟨[0],[100000],[⟨.cell 100000 0,200000,37,(.st 37)⟩]⟩,[.ptr 100000 0],[.blk 95 [.oslc 200000,.t (.int .i64),.t .bool],.row 37 (.st 37)]⟩ [⟨100000,.slot 0,[]⟩] [⟨⟨[0],[100000],[⟨.slot 0,100050,52,(.st 1052)⟩,⟨.cell 100000 0,200000,37,(.st 37)⟩]⟩,[.oslc 100050],[.blk 95 [.oslc 200000,.t (.int .i64),.t .bool],.row 52 (.st 1052),.row 37 (.st 37)]⟩] [.int .i64,.bool,.slc (.st 37)] [[.int .i64,.bool,.slc (.st 1052),.slc (.st 37)]] rec_qbl
abbrev qbl_rec (r:qbl_tr):Prop:=zaad kk env0 101 (qbl_rmd r)
def ms129 (rec_qbl:qbl_tr):MS:=(101,(qbl_rmd rec_qbl))::ms128
theorem known129 (rec_qbl:qbl_tr) (hrec_qbl:qbl_rec rec_qbl):Kn (ms129 rec_qbl):=kc hrec_qbl known128
def qbt_md (rec_qbl:qbl_tr):Mode U:=mdG ⟨⟨[0],[100000],[⟨.cell 100000 0,200000,37,(.st 37)⟩]⟩,[.ptr 100000 0],[.blk 95 [.oslc 200000,.t (.int .i64),.t .bool],.row 37 (.st 37)]⟩ [⟨100000,.slot 0,[]⟩] [⟨⟨[0],[100000],[⟨.sub 0 6,100700,50,(.st 1050)⟩,⟨.sub 0 8,100900,52,(.st 1052)⟩,⟨.sub 0 9,101000,52,(.st 1052)⟩,⟨.cell 100000 0,200000,37,(.st 37)⟩]⟩,[.agg [.t (.int .i64),.t .str,.t .str,.t (.int .i64),.t (.int .i64),.t .str,.oslc 100700,.t (.int .i64),.oslc 100900,.oslc 101000]],[.blk 95 [.oslc 200000,.t (.int .i64),.t .bool],.row 50 (.st 1050),.row 52 (.st 1052),.row 52 (.st 1052),.row 37 (.st 37)]⟩] [.int .i64,.bool,.slc (.st 37)] [[.int .i64,.str,.str,.int .i64,.int .i64,.str,.int .i64,.int .i64,.bool,.slc (.st 1050),.slc (.st 1052),.slc (.st 1052),.slc (.st 37)]] (qbt rec_qbl)
theorem qbt_post (rec_qbl:qbl_tr) (hrec_qbl:qbl_rec rec_qbl):zaad kk env0 133 (qbt_md rec_qbl):=
  fj (fn:=Tryz.f133) (known129 rec_qbl hrec_qbl) (zaaa _)
def ms130 (rec_qbl:qbl_tr):MS:=(133,(qbt_md rec_qbl))::(ms129 rec_qbl)
theorem known130 (rec_qbl:qbl_tr) (hrec_qbl:qbl_rec rec_qbl):Kn (ms130 rec_qbl):=kc (qbt_post rec_qbl hrec_qbl) (known129 rec_qbl hrec_qbl)
def qbl_b3:Code:=(zaah (zaag Tryz.f101) 0)
def qbl_lp3 (rec_qbl:qbl_tr):Lift.Loop U:=lpG ⟨⟨[0,3],[100000],[⟨.cell 100000 0,200000,37,(.st 37)⟩,⟨.slot 3,3,52,(.st 1052)⟩]⟩,[.ptr 100000 0,.oslc 3],[.blk 95 [.oslc 200000,.t (.int .i64),.t .bool],.row 37 (.st 37),.row 52 (.st 1052)]⟩ [⟨.exit 0,⟨⟨[3],[100000],[⟨.slot 3,3,52,(.st 1052)⟩,⟨.cell 100000 0,200000,37,(.st 37)⟩]⟩,[.oslc 3],[.blk 95 [.oslc 200000,.t (.int .i64),.t .bool],.row 52 (.st 1052),.row 37 (.st 37)]⟩⟩] [.int .i64,.bool,.slc (.st 37),.slc (.st 1052)] [[.int .i64,.bool,.slc (.st 1052),.slc (.st 37)]] (qbl_l3 rec_qbl)
theorem qbl_ok3 (rec_qbl:qbl_tr) (hrec_qbl:qbl_rec rec_qbl):LoopR kk env0 Tryz.f101.ntmps qbl_b3 (qbl_lp3 rec_qbl):=
  lj (qbl_i3 rec_qbl) (qbl_t3 rec_qbl) (known130 rec_qbl hrec_qbl) (zaaa _)
def qbl_L (rec_qbl:qbl_tr):Nat->Option (Lift.Loop U):=fun n=>bif Nat.beq n zaar then some zaao else bif Nat.beq n 3 then some (qbl_lp3 rec_qbl) else none
def qbl_md:Mode U:=qbl_rmd qbl
theorem qbl_step (rec_qbl:qbl_tr) (hrec_qbl:qbl_rec rec_qbl):zaaq (Kit.withModes kk (zaac (ms130 rec_qbl))) env0 Tryz.f101.ntmps (qbl_L rec_qbl) (zaag Tryz.f101):=zaab (bs:=[qbl_b3]) (by kernel_rfl) ⟨.inr ⟨_,by kernel_rfl,zaal.of_round (qbl_ok3 rec_qbl hrec_qbl)⟩,trivial⟩
theorem qbl_post:zaad kk env0 101 (qbl_rmd qbl):=
  recG qbl_i qbl_f (by kernel_rfl) (fun _=>by kernel_rfl) (zaaa _) fun r ih=>fnG (fn:=Tryz.f101) (ko (known130 r ih)) (by kernel_rfl) (qbl_step r ih) rfl (by kernel_rfl)
def ms131:MS:=(101,qbl_md)::ms128
theorem known131:Kn ms131:=kc qbl_post known128
def qbm_md:Mode U:=mdG ⟨⟨[0,1],[100000],[⟨.cell 100000 0,200000,37,(.st 37)⟩,⟨.sub 1 0,600064,62,(.st 62)⟩,⟨.sub 1 1,600065,9,.str⟩,⟨.sub 1 2,600066,46,(.st 1046)⟩]⟩,[.ptr 100000 0,.agg [.oslc 600064,.oslc 600065,.oslc 600066]],[.blk 95 [.oslc 200000,.t (.int .i64),.t .bool],.row 37 (.st 37),.row 62 (.st 62),.row 9 .str,.row 46 (.st 1046)]⟩ [⟨100000,.slot 0,[]⟩] [⟨⟨[0],[100000],[⟨.sub 0 0,100100,62,(.st 62)⟩,⟨.sub 0 1,100200,9,.str⟩,⟨.sub 0 2,100300,46,(.st 1046)⟩,⟨.cell 100000 0,200000,37,(.st 37)⟩]⟩,[.agg [.oslc 100100,.oslc 100200,.oslc 100300]],[.blk 95 [.oslc 200000,.t (.int .i64),.t .bool],.row 62 (.st 62),.row 9 .str,.row 46 (.st 1046),.row 37 (.st 37)]⟩] [.int .i64,.bool,.slc (.st 37),.slc (.st 62),.slc .str,.slc (.st 1046)] [[.int .i64,.bool,.slc (.st 62),.slc .str,.slc (.st 1046),.slc (.st 37)]] qbm
theorem qbm_post:zaad kk env0 48 qbm_md:=
  fj (fn:=Tryz.f48) known131 (zaaa _)
def ms132:MS:=(48,qbm_md)::ms131
theorem known132:Kn ms132:=kc qbm_post known131
def qbh_md:Mode U:=mdG ⟨⟨[0],[],[]⟩,[.t (.st 50)],[]⟩ [] [⟨⟨[0],[],[]⟩,[.t .bool],[]⟩] [.st 50] [[.bool]] qbh
theorem qbh_post:zaad kk env0 134 qbh_md:=
  fj (fn:=Tryz.f134) known132 (zaaa _)
def ms133:MS:=(134,qbh_md)::ms132
theorem known133:Kn ms133:=kc qbh_post known132
abbrev qbb_tr:Type:=curT U (sumT U [[.int .i64]]) [.st 50]
def qbb_rmd (rec_qbb:qbb_tr):Mode U:=mdG ⟨⟨[0],[],[]⟩,[.t (.st 50)],[]⟩ [] [⟨⟨[0],[],[]⟩,[.t (.int .i64)],[]⟩] [.st 50] [[.int .i64]] rec_qbb
abbrev qbb_rec (r:qbb_tr):Prop:=zaad kk env0 135 (qbb_rmd r)
def ms134 (rec_qbb:qbb_tr):MS:=(135,(qbb_rmd rec_qbb))::ms133
theorem known134 (rec_qbb:qbb_tr) (hrec_qbb:qbb_rec rec_qbb):Kn (ms134 rec_qbb):=kc hrec_qbb known133
def qbb_b3:Code:=(zaah (zaag Tryz.f135) 0)
def qbb_lp3 (rec_qbb:qbb_tr):Lift.Loop U:=lpG ⟨⟨[1,3,4],[1],[]⟩,[.ptr 1 0,.t (.int .i64),.t (.int .i64)],[.blk 50 [.t (.int .i64),.t (.int .i64),.t .str,.t (.slc (.st 50))]]⟩ [⟨.exit 0,⟨⟨[3],[],[]⟩,[.t (.int .i64)],[]⟩⟩] [.int .i64,.int .i64,.int .i64,.int .i64,.str,.slc (.st 50)] [[.int .i64]] (qbb_l3 rec_qbb)
theorem qbb_ok3 (rec_qbb:qbb_tr) (hrec_qbb:qbb_rec rec_qbb):LoopR kk env0 Tryz.f135.ntmps qbb_b3 (qbb_lp3 rec_qbb):=
  lj (qbb_i3 rec_qbb) (qbb_t3 rec_qbb) (known134 rec_qbb hrec_qbb) (zaaa _)
def qbb_L (rec_qbb:qbb_tr):Nat->Option (Lift.Loop U):=fun n=>bif Nat.beq n zaar then some zaao else bif Nat.beq n 3 then some (qbb_lp3 rec_qbb) else none
def qbb_md:Mode U:=qbb_rmd qbb
theorem qbb_step (rec_qbb:qbb_tr) (hrec_qbb:qbb_rec rec_qbb):zaaq (Kit.withModes kk (zaac (ms134 rec_qbb))) env0 Tryz.f135.ntmps (qbb_L rec_qbb) (zaag Tryz.f135):=zaab (bs:=[qbb_b3]) (by kernel_rfl) ⟨.inr ⟨_,by kernel_rfl,zaal.of_round (qbb_ok3 rec_qbb hrec_qbb)⟩,trivial⟩
theorem qbb_post:zaad kk env0 135 (qbb_rmd qbb):=
  recG qbb_i qbb_f (by kernel_rfl) (fun _=>by kernel_rfl) (zaaa _) fun r ih=>fnG (fn:=Tryz.f135) (ko (known134 r ih)) (by kernel_rfl) (qbb_step r ih) rfl (by kernel_rfl)
def ms135:MS:=(135,qbb_md)::ms133
theorem known135:Kn ms135:=kc qbb_post known133
abbrev qbf_tr:Type:=curT U (sumT U [[.int .i64]]) [.slc (.st 52),.int .i64]
def qbf_rmd (rec_qbf:qbf_tr):Mode U:=mdG ⟨⟨[0,1],[],[]⟩,[.t (.slc (.st 52)),.t (.int .i64)],[]⟩ [] [⟨⟨[0],[],[]⟩,[.t (.int .i64)],[]⟩] [.slc (.st 52),.int .i64] [[.int .i64]] rec_qbf
abbrev qbf_rec (r:qbf_tr):Prop:=zaad kk env0 102 (qbf_rmd r)
def ms136 (rec_qbf:qbf_tr):MS:=(102,(qbf_rmd rec_qbf))::ms135
theorem known136 (rec_qbf:qbf_tr) (hrec_qbf:qbf_rec rec_qbf):Kn (ms136 rec_qbf):=kc hrec_qbf known135
def qbf_b3:Code:=(zaah (zaag Tryz.f102) 0)
def qbf_lp3 (rec_qbf:qbf_tr):Lift.Loop U:=lpG ⟨⟨[0,1,5,6],[],[]⟩,[.t (.slc (.st 52)),.t (.int .i64),.t (.int .i64),.t (.int .i64)],[]⟩ [⟨.exit 0,⟨⟨[5],[],[]⟩,[.t (.int .i64)],[]⟩⟩] [.slc (.st 52),.int .i64,.int .i64,.int .i64] [[.int .i64]] (qbf_l3 rec_qbf)
theorem qbf_ok3 (rec_qbf:qbf_tr) (hrec_qbf:qbf_rec rec_qbf):LoopR kk env0 Tryz.f102.ntmps qbf_b3 (qbf_lp3 rec_qbf):=
  lj (qbf_i3 rec_qbf) (qbf_t3 rec_qbf) (known136 rec_qbf hrec_qbf) (zaaa _)
def qbf_L (rec_qbf:qbf_tr):Nat->Option (Lift.Loop U):=fun n=>bif Nat.beq n zaar then some zaao else bif Nat.beq n 3 then some (qbf_lp3 rec_qbf) else none
def qbf_md:Mode U:=qbf_rmd qbf
theorem qbf_step (rec_qbf:qbf_tr) (hrec_qbf:qbf_rec rec_qbf):zaaq (Kit.withModes kk (zaac (ms136 rec_qbf))) env0 Tryz.f102.ntmps (qbf_L rec_qbf) (zaag Tryz.f102):=zaab (bs:=[qbf_b3]) (by kernel_rfl) ⟨.inr ⟨_,by kernel_rfl,zaal.of_round (qbf_ok3 rec_qbf hrec_qbf)⟩,trivial⟩
theorem qbf_post:zaad kk env0 102 (qbf_rmd qbf):=
  recG qbf_i qbf_f (by kernel_rfl) (fun _=>by kernel_rfl) (zaaa _) fun r ih=>fnG (fn:=Tryz.f102) (ko (known136 r ih)) (by kernel_rfl) (qbf_step r ih) rfl (by kernel_rfl)
def ms137:MS:=(102,qbf_md)::ms135
theorem known137:Kn ms137:=kc qbf_post known135
def qa9_b3:Code:=(zaah (zaag Tryz.f49) 0)
def qa9_lp3:Lift.Loop U:=lpG ⟨⟨[1,3,4],[1],[]⟩,[.ptr 1 0,.t (.int .i64),.t (.int .i64)],[.blk 27 [.t (.slc (.st 62)),.t (.slc .str),.t (.slc (.st 46))]]⟩ [⟨.exit 0,⟨⟨[3],[],[]⟩,[.t (.int .i64)],[]⟩⟩] [.int .i64,.int .i64,.slc (.st 62),.slc .str,.slc (.st 46)] [[.int .i64]] qa9_l3
theorem qa9_ok3:LoopR kk env0 Tryz.f49.ntmps qa9_b3 qa9_lp3:=
  lj qa9_i3 qa9_t3 known137 (zaaa _)
def qa9_L:Nat->Option (Lift.Loop U):=fun n=>bif Nat.beq n zaar then some zaao else bif Nat.beq n 3 then some qa9_lp3 else none
def qa9_md:Mode U:=mdG ⟨⟨[0],[],[]⟩,[.t (.st 27)],[]⟩ [] [⟨⟨[0],[],[]⟩,[.t (.int .i64)],[]⟩] [.st 27] [[.int .i64]] qa9
theorem qa9_post:zaad kk env0 49 qa9_md:=
  fnG (fn:=Tryz.f49) (ko known137) (by kernel_rfl) (L:=qa9_L) (zaab (bs:=[qa9_b3]) (by kernel_rfl) ⟨.inr ⟨_,by kernel_rfl,zaal.of_round (qa9_ok3)⟩,trivial⟩) (zaaa _) (by kernel_rfl)
def ms138:MS:=(49,qa9_md)::ms137
theorem known138:Kn ms138:=kc qa9_post known137
abbrev qba_tr:Type:=curT U (sumT U [[.int .i64]]) [.st 50]
def qba_rmd (rec_qba:qba_tr):Mode U:=mdG ⟨⟨[0],[],[]⟩,[.t (.st 50)],[]⟩ [] [⟨⟨[0],[],[]⟩,[.t (.int .i64)],[]⟩] [.st 50] [[.int .i64]] rec_qba
abbrev qba_rec (r:qba_tr):Prop:=zaad kk env0 136 (qba_rmd r)
def ms139 (rec_qba:qba_tr):MS:=(136,(qba_rmd rec_qba))::ms138
theorem known139 (rec_qba:qba_tr) (hrec_qba:qba_rec rec_qba):Kn (ms139 rec_qba):=kc hrec_qba known138
def qba_b3:Code:=(zaah (zaag Tryz.f136) 0)
def qba_lp3 (rec_qba:qba_tr):Lift.Loop U:=lpG ⟨⟨[1,3,4],[1],[]⟩,[.ptr 1 0,.t (.int .i64),.t (.int .i64)],[.blk 50 [.t (.int .i64),.t (.int .i64),.t .str,.t (.slc (.st 50))]]⟩ [⟨.exit 0,⟨⟨[3],[],[]⟩,[.t (.int .i64)],[]⟩⟩] [.int .i64,.int .i64,.int .i64,.int .i64,.str,.slc (.st 50)] [[.int .i64]] (qba_l3 rec_qba)
theorem qba_ok3 (rec_qba:qba_tr) (hrec_qba:qba_rec rec_qba):LoopR kk env0 Tryz.f136.ntmps qba_b3 (qba_lp3 rec_qba):=
  lj (qba_i3 rec_qba) (qba_t3 rec_qba) (known139 rec_qba hrec_qba) (zaaa _)
def qba_L (rec_qba:qba_tr):Nat->Option (Lift.Loop U):=fun n=>bif Nat.beq n zaar then some zaao else bif Nat.beq n 3 then some (qba_lp3 rec_qba) else none
def qba_md:Mode U:=qba_rmd qba
theorem qba_step (rec_qba:qba_tr) (hrec_qba:qba_rec rec_qba):zaaq (Kit.withModes kk (zaac (ms139 rec_qba))) env0 Tryz.f136.ntmps (qba_L rec_qba) (zaag Tryz.f136):=zaab (bs:=[qba_b3]) (by kernel_rfl) ⟨.inr ⟨_,by kernel_rfl,zaal.of_round (qba_ok3 rec_qba hrec_qba)⟩,trivial⟩
theorem qba_post:zaad kk env0 136 (qba_rmd qba):=
  recG qba_i qba_f (by kernel_rfl) (fun _=>by kernel_rfl) (zaaa _) fun r ih=>fnG (fn:=Tryz.f136) (ko (known139 r ih)) (by kernel_rfl) (qba_step r ih) rfl (by kernel_rfl)
def ms140:MS:=(136,qba_md)::ms138
theorem known140:Kn ms140:=kc qba_post known138
abbrev qbe_tr:Type:=curT U (sumT U [[.int .i64]]) [.slc (.st 52)]
def qbe_rmd (rec_qbe:qbe_tr):Mode U:=mdG ⟨⟨[0],[],[]⟩,[.t (.slc (.st 52))],[]⟩ [] [⟨⟨[0],[],[]⟩,[.t (.int .i64)],[]⟩] [.slc (.st 52)] [[.int .i64]] rec_qbe
abbrev qbe_rec (r:qbe_tr):Prop:=zaad kk env0 103 (qbe_rmd r)
def ms141 (rec_qbe:qbe_tr):MS:=(103,(qbe_rmd rec_qbe))::ms140
theorem known141 (rec_qbe:qbe_tr) (hrec_qbe:qbe_rec rec_qbe):Kn (ms141 rec_qbe):=kc hrec_qbe known140
def qbe_b3:Code:=(zaah (zaag Tryz.f103) 0)
def qbe_lp3 (rec_qbe:qbe_tr):Lift.Loop U:=lpG ⟨⟨[0,3,4],[],[]⟩,[.t (.slc (.st 52)),.t (.int .i64),.t (.int .i64)],[]⟩ [⟨.exit 0,⟨⟨[3],[],[]⟩,[.t (.int .i64)],[]⟩⟩] [.slc (.st 52),.int .i64,.int .i64] [[.int .i64]] (qbe_l3 rec_qbe)
theorem qbe_ok3 (rec_qbe:qbe_tr) (hrec_qbe:qbe_rec rec_qbe):LoopR kk env0 Tryz.f103.ntmps qbe_b3 (qbe_lp3 rec_qbe):=
  lj (qbe_i3 rec_qbe) (qbe_t3 rec_qbe) (known141 rec_qbe hrec_qbe) (zaaa _)
def qbe_L (rec_qbe:qbe_tr):Nat->Option (Lift.Loop U):=fun n=>bif Nat.beq n zaar then some zaao else bif Nat.beq n 3 then some (qbe_lp3 rec_qbe) else none
def qbe_md:Mode U:=qbe_rmd qbe
theorem qbe_step (rec_qbe:qbe_tr) (hrec_qbe:qbe_rec rec_qbe):zaaq (Kit.withModes kk (zaac (ms141 rec_qbe))) env0 Tryz.f103.ntmps (qbe_L rec_qbe) (zaag Tryz.f103):=zaab (bs:=[qbe_b3]) (by kernel_rfl) ⟨.inr ⟨_,by kernel_rfl,zaal.of_round (qbe_ok3 rec_qbe hrec_qbe)⟩,trivial⟩
theorem qbe_post:zaad kk env0 103 (qbe_rmd qbe):=
  recG qbe_i qbe_f (by kernel_rfl) (fun _=>by kernel_rfl) (zaaa _) fun r ih=>fnG (fn:=Tryz.f103) (ko (known141 r ih)) (by kernel_rfl) (qbe_step r ih) rfl (by kernel_rfl)
def ms142:MS:=(103,qbe_md)::ms140
theorem known142:Kn ms142:=kc qbe_post known140
def qa8_b3:Code:=(zaah (zaag Tryz.f50) 0)
def qa8_lp3:Lift.Loop U:=lpG ⟨⟨[1,3,4],[1],[]⟩,[.ptr 1 0,.t (.int .i64),.t (.int .i64)],[.blk 27 [.t (.slc (.st 62)),.t (.slc .str),.t (.slc (.st 46))]]⟩ [⟨.exit 0,⟨⟨[3],[],[]⟩,[.t (.int .i64)],[]⟩⟩] [.int .i64,.int .i64,.slc (.st 62),.slc .str,.slc (.st 46)] [[.int .i64]] qa8_l3
theorem qa8_ok3:LoopR kk env0 Tryz.f50.ntmps qa8_b3 qa8_lp3:=
  lj qa8_i3 qa8_t3 known142 (zaaa _)
def qa8_L:Nat->Option (Lift.Loop U):=fun n=>bif Nat.beq n zaar then some zaao else bif Nat.beq n 3 then some qa8_lp3 else none
def qa8_md:Mode U:=mdG ⟨⟨[0],[],[]⟩,[.t (.st 27)],[]⟩ [] [⟨⟨[0],[],[]⟩,[.t (.int .i64)],[]⟩] [.st 27] [[.int .i64]] qa8
theorem qa8_post:zaad kk env0 50 qa8_md:=
  fnG (fn:=Tryz.f50) (ko known142) (by kernel_rfl) (L:=qa8_L) (zaab (bs:=[qa8_b3]) (by kernel_rfl) ⟨.inr ⟨_,by kernel_rfl,zaal.of_round (qa8_ok3)⟩,trivial⟩) (zaaa _) (by kernel_rfl)
def ms143:MS:=(50,qa8_md)::ms142
theorem known143:Kn ms143:=kc qa8_post known142
def qbi_b6:Code:=(zaah (zaag Tryz.f21) 0)
def qbi_lp6:Lift.Loop U:=lpG ⟨⟨[2,3,6,7],[2,3,22,7],[⟨.cell 22 0,21100,37,(.st 37)⟩,⟨.cell 7 0,20350,62,(.st 62)⟩,⟨.cell 7 1,20351,9,.str⟩,⟨.cell 7 2,20352,46,(.st 1046)⟩]⟩,[.ptr 2 0,.ptr 3 0,.ptr 22 0,.ptr 7 0],[.blk 27 [.nil,.nil,.nil],.blk 30 [.t (.int .i64),.t (.int .i64),.t .str],.blk 95 [.oslc 21100,.t (.int .i64),.t .bool],.blk 27 [.oslc 20350,.oslc 20351,.oslc 20352],.row 37 (.st 37),.row 62 (.st 62),.row 9 .str,.row 46 (.st 1046)]⟩ [⟨.exit 0,⟨⟨[2,3,6,7],[2,3,22,7],[⟨.cell 22 0,21100,37,(.st 37)⟩,⟨.cell 7 0,20350,62,(.st 62)⟩,⟨.cell 7 1,20351,9,.str⟩,⟨.cell 7 2,20352,46,(.st 1046)⟩]⟩,[.ptr 2 0,.ptr 3 0,.ptr 22 0,.ptr 7 0],[.blk 27 [.nil,.nil,.nil],.blk 30 [.t (.int .i64),.t (.int .i64),.t .str],.blk 95 [.oslc 21100,.t (.int .i64),.t .bool],.blk 27 [.oslc 20350,.oslc 20351,.oslc 20352],.row 37 (.st 37),.row 62 (.st 62),.row 9 .str,.row 46 (.st 1046)]⟩⟩] [.int .i64,.int .i64,.str,.int .i64,.bool,.slc (.st 37),.slc (.st 62),.slc .str,.slc (.st 1046)] [[.int .i64,.int .i64,.str,.int .i64,.bool,.slc (.st 37),.slc (.st 62),.slc .str,.slc (.st 1046)]] qbi_l6
theorem qbi_ok6:LoopR kk env0 Tryz.f21.ntmps qbi_b6 qbi_lp6:=
  lj qbi_i6 qbi_t6 known143 (zaaa _)
def qbi_L:Nat->Option (Lift.Loop U):=fun n=>bif Nat.beq n zaar then some zaao else bif Nat.beq n 6 then some qbi_lp6 else none
def qbi_md:Mode U:=mdG ⟨⟨[0],[],[]⟩,[.t .str],[]⟩ [] [⟨⟨[0,1],[],[⟨.sub 0 0,100100,62,(.st 62)⟩,⟨.sub 0 1,100200,9,.str⟩,⟨.sub 0 2,100300,46,(.st 1046)⟩]⟩,[.agg [.oslc 100100,.oslc 100200,.oslc 100300],.t (.st 30)],[.row 62 (.st 62),.row 9 .str,.row 46 (.st 1046)]⟩] [.str] [[.st 30,.slc (.st 62),.slc .str,.slc (.st 1046)]] qbi
theorem qbi_post:zaad kk env0 21 qbi_md:=
  fnG (fn:=Tryz.f21) (ko known143) (by kernel_rfl) (L:=qbi_L) (zaab (bs:=[qbi_b6]) (by kernel_rfl) ⟨.inr ⟨_,by kernel_rfl,zaal.of_round (qbi_ok6)⟩,trivial⟩) (zaaa _) (by kernel_rfl)
def ms144:MS:=(21,qbi_md)::ms143
theorem known144:Kn ms144:=kc qbi_post known143
def qaH_md:Mode U:=mdG ⟨⟨[0,1,2],[],[]⟩,[.t .str,.t (.int .i64),.t (.int .i64)],[]⟩ [] [⟨⟨[0],[],[]⟩,[.t .bool],[]⟩] [.str,.int .i64,.int .i64] [[.bool]] qaH
theorem qaH_post:zaad kk env0 6 qaH_md:=
  fj (fn:=Tryz.f6) known144 (zaaa _)
end
end Lift.Q5
