/-
  DERIVED. Each function of this seat computes its Lean function. Conditions: as each theorem says.
-/
import Derived.Test.YtcmhkcpheehlhaaGreatDoorDefs
set_option linter.unusedVariables false
set_option linter.unusedSimpArgs false
set_option linter.unusedSectionVars false
namespace Lift.Q4
noncomputable section
open Go Go.RowKit Go.Proofs Lift Lift.Fn
theorem ko {ms:List (FuncId×Mode U)} (h:Known kk env0 (zaac ms)):KitOk (Kit.withModes kk (zaac ms)) env0:=zaux eqOk mixed h
def qa3_md:Mode U:=mdG ⟨⟨[0],[],[]⟩,[.t (.int .i32)],[]⟩ [] [⟨⟨[0],[],[]⟩,[.t (.int .i64)],[]⟩] [.int .i32] [[.int .i64]] qa3
theorem qa3_post:zaae kk env0 117 qa3_md:=
  fnG (fn:=Tryz.f117) (ko known10) (by kernel_rfl) (L:=noL) (zaab (bs:=[]) (by kernel_rfl) trivial) (zaaa _) (by kernel_rfl)
def ms11:List (FuncId×Mode U):=(117,qa3_md)::ms10
theorem known11:Known kk env0 (zaac ms11):=known_cons (by kernel_rfl) qa3_post known10
def qaK_b4:Code:=(zabe (zaap Tryz.f68) 0)
def qaK_lp4:Lift.Loop U:=lpG ⟨⟨[0,3,4,5,10],[3,5,10],[⟨.slot 4,4,77,(.st 77)⟩]⟩,[.t .str,.ptr 3 0,.oslc 4,.ptr 5 0,.ptr 10 0],[.blk 77 [.t (.int .i64),.t (.int .i64),.t (.int .i64),.t (.int .i64)],.blk 77 [.t (.int .i64),.t (.int .i64),.t (.int .i64),.t (.int .i64)],.sit,.row 77 (.st 77)]⟩ [⟨.ret,⟨⟨[2,3],[3],[⟨.slot 2,2,77,(.st 77)⟩]⟩,[.oslc 2,.ptr 3 0],[.blk 77 [.t (.int .i64),.t (.int .i64),.t (.int .i64),.t (.int .i64)],.row 77 (.st 77)]⟩⟩,⟨.exit 0,⟨⟨[3,4,5],[3,5],[⟨.slot 4,4,77,(.st 77)⟩]⟩,[.ptr 3 0,.oslc 4,.ptr 5 0],[.blk 77 [.t (.int .i64),.t (.int .i64),.t (.int .i64),.t (.int .i64)],.blk 77 [.t (.int .i64),.t (.int .i64),.t (.int .i64),.t (.int .i64)],.row 77 (.st 77)]⟩⟩] [.str,.int .i64,.int .i64,.int .i64,.int .i64,.int .i64,.int .i64,.int .i64,.int .i64,.str,.fn,.slc (.st 77)] [[.int .i64,.int .i64,.int .i64,.int .i64,.slc (.st 77)],[.int .i64,.int .i64,.int .i64,.int .i64,.int .i64,.int .i64,.int .i64,.int .i64,.slc (.st 77)]] qaK_l4
theorem qaK_ok4:LoopR kk env0 Tryz.f68.ntmps qaK_b4 qaK_lp4:=
  loopG qaK_i4 qaK_t4 (ko known11) (L:=noL) (zaab (bs:=[]) (by kernel_rfl) trivial) (by kernel_rfl) (fun _=>by kernel_rfl) (zaaa _) (fun _=>by kernel_rfl)
def qaK_L:Nat→Option (Lift.Loop U):=fun n=>bif Nat.beq n 4 then some qaK_lp4 else none
def qaK_md:Mode U:=mdG ⟨⟨[0],[],[]⟩,[.t .str],[]⟩ [] [⟨⟨[0,1],[],[⟨.slot 0,100050,77,(.st 77)⟩]⟩,[.oslc 100050,.t (.st 77)],[.row 77 (.st 77)]⟩] [.str] [[.st 77,.slc (.st 77)]] qaK
theorem qaK_post:zaae kk env0 68 qaK_md:=
  fnG (fn:=Tryz.f68) (ko known11) (by kernel_rfl) (L:=qaK_L) (zaab (bs:=[qaK_b4]) (by kernel_rfl) ⟨.inr ⟨_,by kernel_rfl,zabb.of_round (qaK_ok4)⟩,trivial⟩) (zaaa _) (by kernel_rfl)
def ms12:List (FuncId×Mode U):=(68,qaK_md)::ms11
theorem known12:Known kk env0 (zaac ms12):=known_cons (by kernel_rfl) qaK_post known11
def qaJ_md:Mode U:=mdG ⟨⟨[0],[],[]⟩,[.t .str],[]⟩ [] [⟨⟨[0,1],[],[⟨.slot 0,100050,77,(.st 77)⟩]⟩,[.oslc 100050,.t (.st 30)],[.row 77 (.st 77)]⟩] [.str] [[.st 30,.slc (.st 77)]] qaJ
theorem qaJ_post:zaae kk env0 29 qaJ_md:=
  fnG (fn:=Tryz.f29) (ko known12) (by kernel_rfl) (L:=noL) (zaab (bs:=[]) (by kernel_rfl) trivial) (zaaa _) (by kernel_rfl)
def ms13:List (FuncId×Mode U):=(29,qaJ_md)::ms12
theorem known13:Known kk env0 (zaac ms13):=known_cons (by kernel_rfl) qaJ_post known12
def qaG_md:Mode U:=mdG ⟨⟨[0],[],[]⟩,[.t (.int .i64)],[]⟩ [] [⟨⟨[0],[],[]⟩,[.t .bool],[]⟩] [.int .i64] [[.bool]] qaG
theorem qaG_post:zaae kk env0 69 qaG_md:=
  fnG (fn:=Tryz.f69) (ko known13) (by kernel_rfl) (L:=noL) (zaab (bs:=[]) (by kernel_rfl) trivial) (zaaa _) (by kernel_rfl)
def ms14:List (FuncId×Mode U):=(69,qaG_md)::ms13
theorem known14:Known kk env0 (zaac ms14):=known_cons (by kernel_rfl) qaG_post known13
def qak_b3:Code:=(zabe (zaap Tryz.f30) 0)
def qak_lp3:Lift.Loop U:=lpG ⟨⟨[0,3,7],[7],[]⟩,[.t .str,.t .bool,.ptr 7 0],[.sit]⟩ [⟨.ret,⟨⟨[2],[],[]⟩,[.t (.int .i64)],[]⟩⟩,⟨.exit 0,⟨⟨[0],[],[]⟩,[.t .str],[]⟩⟩] [.str,.bool,.str,.fn] [[.int .i64],[.str]] qak_l3
theorem qak_ok3:LoopR kk env0 Tryz.f30.ntmps qak_b3 qak_lp3:=
  loopG qak_i3 qak_t3 (ko known14) (L:=noL) (zaab (bs:=[]) (by kernel_rfl) trivial) (by kernel_rfl) (fun _=>by kernel_rfl) (zaaa _) (fun _=>by kernel_rfl)
def qak_L:Nat→Option (Lift.Loop U):=fun n=>bif Nat.beq n 3 then some qak_lp3 else none
def qak_md:Mode U:=mdG ⟨⟨[0],[],[]⟩,[.t .str],[]⟩ [] [⟨⟨[0],[],[]⟩,[.t (.int .i64)],[]⟩] [.str] [[.int .i64]] qak
theorem qak_post:zaae kk env0 30 qak_md:=
  fnG (fn:=Tryz.f30) (ko known14) (by kernel_rfl) (L:=qak_L) (zaab (bs:=[qak_b3]) (by kernel_rfl) ⟨.inr ⟨_,by kernel_rfl,zabb.of_round (qak_ok3)⟩,trivial⟩) (zaaa _) (by kernel_rfl)
def ms15:List (FuncId×Mode U):=(30,qak_md)::ms14
theorem known15:Known kk env0 (zaac ms15):=known_cons (by kernel_rfl) qak_post known14
def qa4_md:Mode U:=mdG ⟨⟨[0],[],[]⟩,[.t (.int .i32)],[]⟩ [] [⟨⟨[0],[],[]⟩,[.t .bool],[]⟩] [.int .i32] [[.bool]] qa4
theorem qa4_post:zaae kk env0 177 qa4_md:=
  fnG (fn:=Tryz.f177) (ko known15) (by kernel_rfl) (L:=noL) (zaab (bs:=[]) (by kernel_rfl) trivial) (zaaa _) (by kernel_rfl)
def ms16:List (FuncId×Mode U):=(177,qa4_md)::ms15
theorem known16:Known kk env0 (zaac ms16):=known_cons (by kernel_rfl) qa4_post known15
def qaL_md:Mode U:=mdG ⟨⟨[0],[],[]⟩,[.t (.int .i64)],[]⟩ [] [⟨⟨[0],[],[]⟩,[.t .bool],[]⟩] [.int .i64] [[.bool]] qaL
theorem qaL_post:zaae kk env0 149 qaL_md:=
  fnG (fn:=Tryz.f149) (ko known16) (by kernel_rfl) (L:=noL) (zaab (bs:=[]) (by kernel_rfl) trivial) (zaaa _) (by kernel_rfl)
def ms17:List (FuncId×Mode U):=(149,qaL_md)::ms16
theorem known17:Known kk env0 (zaac ms17):=known_cons (by kernel_rfl) qaL_post known16
def qaI_md:Mode U:=mdG ⟨⟨[0],[],[]⟩,[.t (.int .i64)],[]⟩ [] [⟨⟨[0],[],[]⟩,[.t .bool],[]⟩] [.int .i64] [[.bool]] qaI
theorem qaI_post:zaae kk env0 119 qaI_md:=
  fnG (fn:=Tryz.f119) (ko known17) (by kernel_rfl) (L:=noL) (zaab (bs:=[]) (by kernel_rfl) trivial) (zaaa _) (by kernel_rfl)
def ms18:List (FuncId×Mode U):=(119,qaI_md)::ms17
theorem known18:Known kk env0 (zaac ms18):=known_cons (by kernel_rfl) qaI_post known17
def qaH_md:Mode U:=mdG ⟨⟨[0],[],[]⟩,[.t (.int .i64)],[]⟩ [] [⟨⟨[0],[],[]⟩,[.t .bool],[]⟩] [.int .i64] [[.bool]] qaH
theorem qaH_post:zaae kk env0 74 qaH_md:=
  fnG (fn:=Tryz.f74) (ko known18) (by kernel_rfl) (L:=noL) (zaab (bs:=[]) (by kernel_rfl) trivial) (zaaa _) (by kernel_rfl)
def ms19:List (FuncId×Mode U):=(74,qaH_md)::ms18
theorem known19:Known kk env0 (zaac ms19):=known_cons (by kernel_rfl) qaH_post known18
def qai_md:Mode U:=mdG ⟨⟨[0],[],[]⟩,[.t (.int .i32)],[]⟩ [] [⟨⟨[0],[],[]⟩,[.t .bool],[]⟩] [.int .i32] [[.bool]] qai
theorem qai_post:zaae kk env0 71 qai_md:=
  fnG (fn:=Tryz.f71) (ko known19) (by kernel_rfl) (L:=noL) (zaab (bs:=[]) (by kernel_rfl) trivial) (zaaa _) (by kernel_rfl)
def ms20:List (FuncId×Mode U):=(71,qai_md)::ms19
theorem known20:Known kk env0 (zaac ms20):=known_cons (by kernel_rfl) qai_post known19
def qaS_b2:Code:=(zabe (zaap Tryz.f123) 0)
def qaS_lp2:Lift.Loop U:=lpG ⟨⟨[0,1,7,8],[],[]⟩,[.t (.slc .str),.t .str,.t (.int .i64),.t (.int .i64)],[]⟩ [⟨.ret,⟨⟨[4],[],[]⟩,[.t (.int .i64)],[]⟩⟩,⟨.exit 0,⟨⟨[],[],[]⟩,[],[]⟩⟩] [.slc .str,.str,.int .i64,.int .i64] [[.int .i64],[]] qaS_l2
theorem qaS_ok2:LoopR kk env0 Tryz.f123.ntmps qaS_b2 qaS_lp2:=
  loopG qaS_i2 qaS_t2 (ko known20) (L:=noL) (zaab (bs:=[]) (by kernel_rfl) trivial) (by kernel_rfl) (fun _=>by kernel_rfl) (zaaa _) (fun _=>by kernel_rfl)
def qaS_L:Nat→Option (Lift.Loop U):=fun n=>bif Nat.beq n 2 then some qaS_lp2 else none
def qaS_md:Mode U:=mdG ⟨⟨[0,1],[],[]⟩,[.t (.slc .str),.t .str],[]⟩ [] [⟨⟨[0],[],[]⟩,[.t (.int .i64)],[]⟩] [.slc .str,.str] [[.int .i64]] qaS
theorem qaS_post:zaae kk env0 123 qaS_md:=
  fnG (fn:=Tryz.f123) (ko known20) (by kernel_rfl) (L:=qaS_L) (zaab (bs:=[qaS_b2]) (by kernel_rfl) ⟨.inr ⟨_,by kernel_rfl,zabb.of_round (qaS_ok2)⟩,trivial⟩) (zaaa _) (by kernel_rfl)
def ms21:List (FuncId×Mode U):=(123,qaS_md)::ms20
theorem known21:Known kk env0 (zaac ms21):=known_cons (by kernel_rfl) qaS_post known20
def qaM_md:Mode U:=mdG ⟨⟨[0,1],[],[]⟩,[.t (.slc .str),.t .str],[]⟩ [] [⟨⟨[0],[],[]⟩,[.t .bool],[]⟩] [.slc .str,.str] [[.bool]] qaM
theorem qaM_post:zaae kk env0 76 qaM_md:=
  fnG (fn:=Tryz.f76) (ko known21) (by kernel_rfl) (L:=noL) (zaab (bs:=[]) (by kernel_rfl) trivial) (zaaa _) (by kernel_rfl)
def ms22:List (FuncId×Mode U):=(76,qaM_md)::ms21
theorem known22:Known kk env0 (zaac ms22):=known_cons (by kernel_rfl) qaM_post known21
def qal_md:Mode U:=mdG ⟨⟨[0],[],[]⟩,[.t .str],[]⟩ [] [⟨⟨[0],[],[]⟩,[.t .str],[]⟩] [.str] [[.str]] qal
theorem qal_post:zaae kk env0 72 qal_md:=
  fnG (fn:=Tryz.f72) (ko known22) (by kernel_rfl) (L:=noL) (zaab (bs:=[]) (by kernel_rfl) trivial) (zaaa _) (by kernel_rfl)
def ms23:List (FuncId×Mode U):=(72,qal_md)::ms22
theorem known23:Known kk env0 (zaac ms23):=known_cons (by kernel_rfl) qal_post known22
def qan_b2:Code:=(zabe (zaap Tryz.f73) 0)
def qan_lp2:Lift.Loop U:=lpG ⟨⟨[0,6],[6],[]⟩,[.t .str,.ptr 6 0],[.sit]⟩ [⟨.ret,⟨⟨[2],[],[]⟩,[.t .str],[]⟩⟩,⟨.exit 0,⟨⟨[0],[],[]⟩,[.t .str],[]⟩⟩] [.str,.str,.fn] [[.str],[.str]] qan_l2
theorem qan_ok2:LoopR kk env0 Tryz.f73.ntmps qan_b2 qan_lp2:=
  loopG qan_i2 qan_t2 (ko known23) (L:=noL) (zaab (bs:=[]) (by kernel_rfl) trivial) (by kernel_rfl) (fun _=>by kernel_rfl) (zaaa _) (fun _=>by kernel_rfl)
def qan_L:Nat→Option (Lift.Loop U):=fun n=>bif Nat.beq n 2 then some qan_lp2 else none
def qan_md:Mode U:=mdG ⟨⟨[0],[],[]⟩,[.t .str],[]⟩ [] [⟨⟨[0],[],[]⟩,[.t .str],[]⟩] [.str] [[.str]] qan
theorem qan_post:zaae kk env0 73 qan_md:=
  fnG (fn:=Tryz.f73) (ko known23) (by kernel_rfl) (L:=qan_L) (zaab (bs:=[qan_b2]) (by kernel_rfl) ⟨.inr ⟨_,by kernel_rfl,zabb.of_round (qan_ok2)⟩,trivial⟩) (zaaa _) (by kernel_rfl)
def ms24:List (FuncId×Mode U):=(73,qan_md)::ms23
theorem known24:Known kk env0 (zaac ms24):=known_cons (by kernel_rfl) qan_post known23
def qaj_md:Mode U:=mdG ⟨⟨[0],[],[]⟩,[.t .str],[]⟩ [] [⟨⟨[0,1],[],[]⟩,[.t (.int .i64),.t .bool],[]⟩] [.str] [[.int .i64,.bool]] qaj
theorem qaj_post:zaae kk env0 75 qaj_md:=
  fnG (fn:=Tryz.f75) (ko known24) (by kernel_rfl) (L:=noL) (zaab (bs:=[]) (by kernel_rfl) trivial) (zaaa _) (by kernel_rfl)
def ms25:List (FuncId×Mode U):=(75,qaj_md)::ms24
theorem known25:Known kk env0 (zaac ms25):=known_cons (by kernel_rfl) qaj_post known24
def qah_md:Mode U:=mdG ⟨⟨[],[],[]⟩,[],[]⟩ [] [⟨⟨[0],[],[⟨.slot 0,100050,9,.str⟩]⟩,[.oslc 100050],[.row 9 .str]⟩] [] [[.slc .str]] qah
theorem qah_post:zaae kk env0 77 qah_md:=
  fnG (fn:=Tryz.f77) (ko known25) (by kernel_rfl) (L:=noL) (zaab (bs:=[]) (by kernel_rfl) trivial) (zaaa _) (by kernel_rfl)
def ms26:List (FuncId×Mode U):=(77,qah_md)::ms25
theorem known26:Known kk env0 (zaac ms26):=known_cons (by kernel_rfl) qah_post known25
def qam_md:Mode U:=mdG ⟨⟨[0],[],[]⟩,[.t .str],[]⟩ [] [⟨⟨[0,1],[],[]⟩,[.t (.st 37),.t (.int .i64)],[]⟩] [.str] [[.st 37,.int .i64]] qam
theorem qam_post:zaae kk env0 31 qam_md:=
  fnG (fn:=Tryz.f31) (ko known26) (by kernel_rfl) (L:=noL) (zaab (bs:=[]) (by kernel_rfl) trivial) (zaaa _) (by kernel_rfl)
def ms27:List (FuncId×Mode U):=(31,qam_md)::ms26
theorem known27:Known kk env0 (zaac ms27):=known_cons (by kernel_rfl) qam_post known26
def qag_b6:Code:=(zabe (zaap Tryz.f13) 0)
def qag_lp6:Lift.Loop U:=lpG ⟨⟨[0,3,6,7],[3],[⟨.slot 6,6,37,(.st 37)⟩]⟩,[.t .str,.ptr 3 0,.oslc 6,.t (.int .i64)],[.blk 30 [.t (.int .i64),.t (.int .i64),.t .str],.row 37 (.st 37)]⟩ [⟨.ret,⟨⟨[2,3],[3],[]⟩,[.nil,.ptr 3 0],[.blk 30 [.t (.int .i64),.t (.int .i64),.t .str]]⟩⟩,⟨.exit 0,⟨⟨[0,3,6],[3],[⟨.slot 6,6,37,(.st 37)⟩]⟩,[.t .str,.ptr 3 0,.oslc 6],[.blk 30 [.t (.int .i64),.t (.int .i64),.t .str],.row 37 (.st 37)]⟩⟩] [.str,.int .i64,.int .i64,.int .i64,.str,.slc (.st 37)] [[.int .i64,.int .i64,.str],[.str,.int .i64,.int .i64,.str,.slc (.st 37)]] qag_l6
theorem qag_ok6:LoopR kk env0 Tryz.f13.ntmps qag_b6 qag_lp6:=
  loopG qag_i6 qag_t6 (ko known27) (L:=noL) (zaab (bs:=[]) (by kernel_rfl) trivial) (by kernel_rfl) (fun _=>by kernel_rfl) (zaaa _) (fun _=>by kernel_rfl)
def qag_L:Nat→Option (Lift.Loop U):=fun n=>bif Nat.beq n 6 then some qag_lp6 else none
def qag_md:Mode U:=mdG ⟨⟨[0],[],[]⟩,[.t .str],[]⟩ [] [⟨⟨[0,1],[],[]⟩,[.t (.slc (.st 37)),.t (.st 30)],[]⟩] [.str] [[.slc (.st 37),.st 30]] qag
theorem qag_post:zaae kk env0 13 qag_md:=
  fnG (fn:=Tryz.f13) (ko known27) (by kernel_rfl) (L:=qag_L) (zaab (bs:=[qag_b6]) (by kernel_rfl) ⟨.inr ⟨_,by kernel_rfl,zabb.of_round (qag_ok6)⟩,trivial⟩) (zaaa _) (by kernel_rfl)
def ms28:List (FuncId×Mode U):=(13,qag_md)::ms27
theorem known28:Known kk env0 (zaac ms28):=known_cons (by kernel_rfl) qag_post known27
def qau_md:Mode U:=mdG ⟨⟨[0],[100000],[]⟩,[.ptr 100000 0],[.blk 67 [.t (.slc (.st 37))]]⟩ [⟨100000,.slot 0,[]⟩] [⟨⟨[0],[100000],[]⟩,[.t (.st 37)],[.blk 67 [.t (.slc (.st 37))]]⟩] [.slc (.st 37)] [[.st 37,.slc (.st 37)]] qau
theorem qau_post:zaae kk env0 60 qau_md:=
  fnG (fn:=Tryz.f60) (ko known28) (by kernel_rfl) (L:=jnL) (zaab (bs:=[]) (by kernel_rfl) trivial) (zaaa _) (by kernel_rfl)
def ms29:List (FuncId×Mode U):=(60,qau_md)::ms28
theorem known29:Known kk env0 (zaac ms29):=known_cons (by kernel_rfl) qau_post known28
def qas_md:Mode U:=mdG ⟨⟨[0,1],[100000],[]⟩,[.ptr 100000 0,.t .str],[.blk 67 [.t (.slc (.st 37))]]⟩ [⟨100000,.slot 0,[]⟩] [⟨⟨[0],[100000],[]⟩,[.t .bool],[.blk 67 [.t (.slc (.st 37))]]⟩] [.str,.slc (.st 37)] [[.bool,.slc (.st 37)]] qas
theorem qas_post:zaae kk env0 113 qas_md:=
  fnG (fn:=Tryz.f113) (ko known29) (by kernel_rfl) (L:=jnL) (zaab (bs:=[]) (by kernel_rfl) trivial) (zaaa _) (by kernel_rfl)
def ms30:List (FuncId×Mode U):=(113,qas_md)::ms29
theorem known30:Known kk env0 (zaac ms30):=known_cons (by kernel_rfl) qas_post known29
def qaA_md:Mode U:=mdG ⟨⟨[0],[100000],[]⟩,[.ptr 100000 0],[.blk 67 [.t (.slc (.st 37))]]⟩ [⟨100000,.slot 0,[]⟩] [⟨⟨[0],[100000],[]⟩,[.t (.st 37)],[.blk 67 [.t (.slc (.st 37))]]⟩] [.slc (.st 37)] [[.st 37,.slc (.st 37)]] qaA
theorem qaA_post:zaae kk env0 114 qaA_md:=
  fnG (fn:=Tryz.f114) (ko known30) (by kernel_rfl) (L:=jnL) (zaab (bs:=[]) (by kernel_rfl) trivial) (zaaa _) (by kernel_rfl)
def ms31:List (FuncId×Mode U):=(114,qaA_md)::ms30
theorem known31:Known kk env0 (zaac ms31):=known_cons (by kernel_rfl) qaA_post known30
def qaB_md:Mode U:=mdG ⟨⟨[0,1],[100000],[]⟩,[.ptr 100000 0,.t .str],[.blk 67 [.t (.slc (.st 37))]]⟩ [⟨100000,.slot 0,[]⟩] [⟨⟨[0],[100000],[]⟩,[.t .bool],[.blk 67 [.t (.slc (.st 37))]]⟩] [.str,.slc (.st 37)] [[.bool,.slc (.st 37)]] qaB
theorem qaB_post:zaae kk env0 61 qaB_md:=
  fnG (fn:=Tryz.f61) (ko known31) (by kernel_rfl) (L:=jnL) (zaab (bs:=[]) (by kernel_rfl) trivial) (zaaa _) (by kernel_rfl)
def ms32:List (FuncId×Mode U):=(61,qaB_md)::ms31
theorem known32:Known kk env0 (zaac ms32):=known_cons (by kernel_rfl) qaB_post known31
def qay_md:Mode U:=mdG ⟨⟨[0],[100000],[]⟩,[.ptr 100000 0],[.blk 67 [.t (.slc (.st 37))]]⟩ [⟨100000,.slot 0,[]⟩] [⟨⟨[777777],[],[]⟩,[.ifc 64 (.t (.st 64))],[]⟩] [.slc (.st 37)] [[.st 64]] qay
theorem qay_post:zaae kk env0 115 qay_md:=
  fnG (fn:=Tryz.f115) (ko known32) (by kernel_rfl) (L:=jnL) (zaab (bs:=[]) (by kernel_rfl) trivial) (zaaa _) (by kernel_rfl)
def ms33:List (FuncId×Mode U):=(115,qay_md)::ms32
theorem known33:Known kk env0 (zaac ms33):=known_cons (by kernel_rfl) qay_post known32
def qav_md:Mode U:=mdG ⟨⟨[0,1],[100000],[]⟩,[.ptr 100000 0,.t (.int .i64)],[.blk 67 [.t (.slc (.st 37))]]⟩ [⟨100000,.slot 0,[]⟩] [⟨⟨[0],[100000],[]⟩,[.t (.st 37)],[.blk 67 [.t (.slc (.st 37))]]⟩,⟨⟨[777777],[],[]⟩,[.ifc 64 (.t (.st 64))],[]⟩] [.int .i64,.slc (.st 37)] [[.st 37,.slc (.st 37)],[.st 64]] qav
theorem qav_post:zaae kk env0 63 qav_md:=
  fnG (fn:=Tryz.f63) (ko known33) (by kernel_rfl) (L:=jnL) (zaab (bs:=[]) (by kernel_rfl) trivial) (zaaa _) (by kernel_rfl)
def ms34:List (FuncId×Mode U):=(63,qav_md)::ms33
theorem known34:Known kk env0 (zaac ms34):=known_cons (by kernel_rfl) qav_post known33
def qat_md:Mode U:=mdG ⟨⟨[0],[100000],[]⟩,[.ptr 100000 0],[.blk 67 [.t (.slc (.st 37))]]⟩ [⟨100000,.slot 0,[]⟩] [⟨⟨[0],[100000],[]⟩,[.t .str],[.blk 67 [.t (.slc (.st 37))]]⟩,⟨⟨[777777],[],[]⟩,[.ifc 64 (.t (.st 64))],[]⟩] [.slc (.st 37)] [[.str,.slc (.st 37)],[.st 64]] qat
theorem qat_post:zaae kk env0 62 qat_md:=
  fnG (fn:=Tryz.f62) (ko known34) (by kernel_rfl) (L:=jnL) (zaab (bs:=[]) (by kernel_rfl) trivial) (zaaa _) (by kernel_rfl)
def ms35:List (FuncId×Mode U):=(62,qat_md)::ms34
theorem known35:Known kk env0 (zaac ms35):=known_cons (by kernel_rfl) qat_post known34
def qaD_md:Mode U:=mdG ⟨⟨[0,1],[100000],[]⟩,[.ptr 100000 0,.t .str],[.blk 67 [.t (.slc (.st 37))]]⟩ [⟨100000,.slot 0,[]⟩] [⟨⟨[],[100000],[]⟩,[],[.blk 67 [.t (.slc (.st 37))]]⟩,⟨⟨[777777],[],[]⟩,[.ifc 64 (.t (.st 64))],[]⟩] [.str,.slc (.st 37)] [[.slc (.st 37)],[.st 64]] qaD
theorem qaD_post:zaae kk env0 64 qaD_md:=
  fnG (fn:=Tryz.f64) (ko known35) (by kernel_rfl) (L:=jnL) (zaab (bs:=[]) (by kernel_rfl) trivial) (zaaa _) (by kernel_rfl)
def ms36:List (FuncId×Mode U):=(64,qaD_md)::ms35
theorem known36:Known kk env0 (zaac ms36):=known_cons (by kernel_rfl) qaD_post known35
def qap_md:Mode U:=mdG ⟨⟨[],[],[]⟩,[],[]⟩ [] [⟨⟨[0],[],[⟨.slot 0,100050,196,(.map .str (.int .i64))⟩]⟩,[.oslc 100050],[.row 196 (.map .str (.int .i64))]⟩] [] [[.slc (.map .str (.int .i64))]] qap
theorem qap_post:zaae kk env0 175 qap_md:=
  fnG (fn:=Tryz.f175) (ko known36) (by kernel_rfl) (L:=jnL) (zaab (bs:=[]) (by kernel_rfl) trivial) (zaaa _) (by kernel_rfl)
def ms37:List (FuncId×Mode U):=(175,qap_md)::ms36
theorem known37:Known kk env0 (zaac ms37):=known_cons (by kernel_rfl) qap_post known36
abbrev qaC_tr:Type:=curT U (sumT U [[.int .i64,.int .i64,.str,.slc (.st 37),.slc (.st 1050)],[.st 64]]) [.slc (.st 37)]
def qaC_rmd (rec_qaC:qaC_tr):Mode U:=mdG ⟨⟨[0],[100000],[]⟩,[.ptr 100000 0],[.blk 67 [.t (.slc (.st 37))]]⟩ [⟨100000,.slot 0,[]⟩] [⟨⟨[0],[100000],[⟨.sub 0 3,100400,50,(.st 1050)⟩]⟩,[.agg [.t (.int .i64),.t (.int .i64),.t .str,.oslc 100400]],[.blk 67 [.t (.slc (.st 37))],.row 50 (.st 1050)]⟩,⟨⟨[777777],[],[]⟩,[.ifc 64 (.t (.st 64))],[]⟩] [.slc (.st 37)] [[.int .i64,.int .i64,.str,.slc (.st 37),.slc (.st 1050)],[.st 64]] rec_qaC
abbrev qaC_rec (r:qaC_tr):Prop:=zaae kk env0 176 (qaC_rmd r)
def ms38 (rec_qaC:qaC_tr):List (FuncId×Mode U):=(176,(qaC_rmd rec_qaC))::ms37
theorem known38 (rec_qaC:qaC_tr) (hrec_qaC:qaC_rec rec_qaC):Known kk env0 (zaac (ms38 rec_qaC)):=known_cons (by kernel_rfl) hrec_qaC known37
abbrev qar_tr:Type:=curT U (sumT U [[.int .i64,.int .i64,.str,.slc (.st 37),.slc (.st 1050)],[.st 64]]) [.int .i64,.slc (.st 37)]
def qar_rmd (rec_qar:qar_tr):Mode U:=mdG ⟨⟨[0,1],[100000],[]⟩,[.ptr 100000 0,.t (.int .i64)],[.blk 67 [.t (.slc (.st 37))]]⟩ [⟨100000,.slot 0,[]⟩] [⟨⟨[0],[100000],[⟨.sub 0 3,100400,50,(.st 1050)⟩]⟩,[.agg [.t (.int .i64),.t (.int .i64),.t .str,.oslc 100400]],[.blk 67 [.t (.slc (.st 37))],.row 50 (.st 1050)]⟩,⟨⟨[777777],[],[]⟩,[.ifc 64 (.t (.st 64))],[]⟩] [.int .i64,.slc (.st 37)] [[.int .i64,.int .i64,.str,.slc (.st 37),.slc (.st 1050)],[.st 64]] rec_qar
abbrev qar_rec (r:qar_tr):Prop:=zaae kk env0 148 (qar_rmd r)
def ms39 (rec_qaC:qaC_tr) (rec_qar:qar_tr):List (FuncId×Mode U):=(148,(qar_rmd rec_qar))::(ms38 rec_qaC)
theorem known39 (rec_qaC:qaC_tr) (hrec_qaC:qaC_rec rec_qaC) (rec_qar:qar_tr) (hrec_qar:qar_rec rec_qar):Known kk env0 (zaac (ms39 rec_qaC rec_qar)):=known_cons (by kernel_rfl) hrec_qar (known38 rec_qaC hrec_qaC)
def qaC_md (rec_qar:qar_tr):Mode U:=qaC_rmd (qaC rec_qar)
theorem qaC_step (rec_qaC:qaC_tr) (hrec_qaC:qaC_rec rec_qaC) (rec_qar:qar_tr) (hrec_qar:qar_rec rec_qar):zaaw (Kit.withModes kk (zaac (ms39 rec_qaC rec_qar))) env0 Tryz.f176.ntmps jnL (zaap Tryz.f176):=zaab (bs:=[]) (by kernel_rfl) trivial
theorem qaC_post (rec_qar:qar_tr) (hrec_qar:qar_rec rec_qar):zaae kk env0 176 (qaC_rmd (qaC rec_qar)):=
  recG (qaC_i rec_qar) (fun r=>qaC_f r rec_qar) (by kernel_rfl) (fun _=>by kernel_rfl) (zaaa _) fun r ih=>fnG (fn:=Tryz.f176) (ko (known39 r ih rec_qar hrec_qar)) (by kernel_rfl) (qaC_step r ih rec_qar hrec_qar) rfl (by kernel_rfl)
def ms40 (rec_qar:qar_tr):List (FuncId×Mode U):=(148,(qar_rmd rec_qar))::ms37
theorem known40 (rec_qar:qar_tr) (hrec_qar:qar_rec rec_qar):Known kk env0 (zaac (ms40 rec_qar)):=known_cons (by kernel_rfl) hrec_qar known37
def ms41 (rec_qar:qar_tr):List (FuncId×Mode U):=(176,(qaC_md rec_qar))::(ms40 rec_qar)
theorem known41 (rec_qar:qar_tr) (hrec_qar:qar_rec rec_qar):Known kk env0 (zaac (ms41 rec_qar)):=known_cons (by kernel_rfl) (qaC_post rec_qar hrec_qar) (known40 rec_qar hrec_qar)
def qar_b5:Code:=(zabe (zaap Tryz.f148) 0)
def qar_L5 (rec_qar:qar_tr):Nat→Option (Lift.Loop U):=fun n=>bif Nat.beq n zabd then some zaa8 else bif Nat.beq n (zah5+9) then some (zajv 5) else none
def qar_lp5 (rec_qar:qar_tr):Lift.Loop U:=lpG ⟨⟨[0,1,4,5,6],[100000,4,6],[⟨.slot 5,5,196,(.map .str (.int .i64))⟩,⟨.cell 6 3,20303,50,(.st 1050)⟩]⟩,[.ptr 100000 0,.t (.int .i64),.ptr 4 0,.oslc 5,.ptr 6 0],[.blk 67 [.t (.slc (.st 37))],.blk 50 [.t (.int .i64),.t (.int .i64),.t .str,.nil],.blk 50 [.t (.int .i64),.t (.int .i64),.t .str,.oslc 20303],.row 196 (.map .str (.int .i64)),.row 50 (.st 1050)]⟩ [⟨.exit 0,⟨⟨[4,6],[100000,4,6],[⟨.cell 6 3,20303,50,(.st 1050)⟩]⟩,[.ptr 4 0,.ptr 6 0],[.blk 67 [.t (.slc (.st 37))],.blk 50 [.t (.int .i64),.t (.int .i64),.t .str,.nil],.blk 50 [.t (.int .i64),.t (.int .i64),.t .str,.oslc 20303],.row 50 (.st 1050)]⟩⟩,⟨.pan,⟨⟨[777777],[],[]⟩,[.ifc 64 (.t (.st 64))],[]⟩⟩] [.int .i64,.slc (.st 37),.int .i64,.int .i64,.str,.int .i64,.int .i64,.str,.slc (.map .str (.int .i64)),.slc (.st 1050)] [[.slc (.st 37),.int .i64,.int .i64,.str,.int .i64,.int .i64,.str,.slc (.st 1050)],[.st 64]] (qar_l5 rec_qar)
theorem qar_ok5 (rec_qar:qar_tr) (hrec_qar:qar_rec rec_qar):LoopR kk env0 Tryz.f148.ntmps qar_b5 (qar_lp5 rec_qar):=
  loopG (qar_i5 rec_qar) (qar_t5 rec_qar) (ko (known41 rec_qar hrec_qar)) (L:=(qar_L5 rec_qar)) (zaab (bs:=[]) (by kernel_rfl) trivial) (by kernel_rfl) (fun _=>by kernel_rfl) (zaaa _) (fun _=>by kernel_rfl)
def qar_L (rec_qar:qar_tr):Nat→Option (Lift.Loop U):=fun n=>bif Nat.beq n zabd then some zaa8 else bif Nat.beq n (zah5+9) then some (zajv 5) else bif Nat.beq n 5 then some (qar_lp5 rec_qar) else none
def qar_md:Mode U:=qar_rmd qar
theorem qar_step (rec_qar:qar_tr) (hrec_qar:qar_rec rec_qar):zaaw (Kit.withModes kk (zaac (ms41 rec_qar))) env0 Tryz.f148.ntmps (qar_L rec_qar) (zaap Tryz.f148):=zaab (bs:=[qar_b5]) (by kernel_rfl) ⟨.inr ⟨_,by kernel_rfl,zabb.of_round (qar_ok5 rec_qar hrec_qar)⟩,trivial⟩
theorem qar_post:zaae kk env0 148 (qar_rmd qar):=
  recG qar_i qar_f (by kernel_rfl) (fun _=>by kernel_rfl) (zaaa _) fun r ih=>fnG (fn:=Tryz.f148) (ko (known41 r ih)) (by kernel_rfl) (qar_step r ih) rfl (by kernel_rfl)
def ms42:List (FuncId×Mode U):=(148,qar_md)::ms37
theorem known42:Known kk env0 (zaac ms42):=known_cons (by kernel_rfl) qar_post known37
def qaw_md:Mode U:=mdG ⟨⟨[0],[100000],[]⟩,[.ptr 100000 0],[.blk 67 [.t (.slc (.st 37))]]⟩ [⟨100000,.slot 0,[]⟩] [⟨⟨[0],[100000],[]⟩,[.t (.st 52)],[.blk 67 [.t (.slc (.st 37))]]⟩,⟨⟨[777777],[],[]⟩,[.ifc 64 (.t (.st 64))],[]⟩] [.slc (.st 37)] [[.st 52,.slc (.st 37)],[.st 64]] qaw
theorem qaw_post:zaae kk env0 147 qaw_md:=
  fnG (fn:=Tryz.f147) (ko known42) (by kernel_rfl) (L:=jnL) (zaab (bs:=[]) (by kernel_rfl) trivial) (zaaa _) (by kernel_rfl)
def ms43:List (FuncId×Mode U):=(147,qaw_md)::ms42
theorem known43:Known kk env0 (zaac ms43):=known_cons (by kernel_rfl) qaw_post known42
abbrev qaq_tr:Type:=curT U (sumT U [[.slc (.st 52),.slc (.st 37)],[.st 64]]) [.slc (.st 37)]
def qaq_rmd (rec_qaq:qaq_tr):Mode U:=mdG ⟨⟨[0],[100000],[]⟩,[.ptr 100000 0],[.blk 67 [.t (.slc (.st 37))]]⟩ [⟨100000,.slot 0,[]⟩] [⟨⟨[0],[100000],[]⟩,[.t (.slc (.st 52))],[.blk 67 [.t (.slc (.st 37))]]⟩,⟨⟨[777777],[],[]⟩,[.ifc 64 (.t (.st 64))],[]⟩] [.slc (.st 37)] [[.slc (.st 52),.slc (.st 37)],[.st 64]] rec_qaq
abbrev qaq_rec (r:qaq_tr):Prop:=zaae kk env0 65 (qaq_rmd r)
def ms44 (rec_qaq:qaq_tr):List (FuncId×Mode U):=(65,(qaq_rmd rec_qaq))::ms43
theorem known44 (rec_qaq:qaq_tr) (hrec_qaq:qaq_rec rec_qaq):Known kk env0 (zaac (ms44 rec_qaq)):=known_cons (by kernel_rfl) hrec_qaq known43
def qaz_b4:Code:=(zabe (zaap Tryz.f116) 0)
def qaz_lp4 (rec_qaq:qaq_tr):Lift.Loop U:=lpG ⟨⟨[0,2,16,17,18],[100000,2],[⟨.slot 16,16,9,.str⟩]⟩,[.ptr 100000 0,.ptr 2 0,.oslc 16,.t (.int .i64),.t (.int .i64)],[.blk 67 [.t (.slc (.st 37))],.blk 52 [.t (.int .i64),.t .str,.t .str,.t (.int .i64),.t (.int .i64),.t .str,.nil,.t (.int .i64),.nil,.nil],.row 9 .str]⟩ [⟨.ret,⟨⟨[2],[100000,2],[]⟩,[.ptr 2 0],[.blk 67 [.t (.slc (.st 37))],.blk 52 [.t (.int .i64),.t .str,.t .str,.t (.int .i64),.t (.int .i64),.t .str,.t (.slc (.st 50)),.t (.int .i64),.t (.slc (.st 52)),.t (.slc (.st 52))]]⟩⟩,⟨.pan,⟨⟨[777777],[],[]⟩,[.ifc 64 (.t (.st 64))],[]⟩⟩,⟨.exit 0,⟨⟨[0,2],[100000,2],[]⟩,[.ptr 100000 0,.ptr 2 0],[.blk 67 [.t (.slc (.st 37))],.blk 52 [.t (.int .i64),.t .str,.t .str,.t (.int .i64),.t (.int .i64),.t .str,.nil,.t (.int .i64),.nil,.nil]]⟩⟩] [.int .i64,.int .i64,.slc (.st 37),.int .i64,.str,.str,.int .i64,.int .i64,.str,.int .i64,.slc .str] [[.slc (.st 37),.int .i64,.str,.str,.int .i64,.int .i64,.str,.slc (.st 50),.int .i64,.slc (.st 52),.slc (.st 52)],[.st 64],[.slc (.st 37),.int .i64,.str,.str,.int .i64,.int .i64,.str,.int .i64]] (qaz_l4 rec_qaq)
theorem qaz_ok4 (rec_qaq:qaq_tr) (hrec_qaq:qaq_rec rec_qaq):LoopR kk env0 Tryz.f116.ntmps qaz_b4 (qaz_lp4 rec_qaq):=
  loopG (qaz_i4 rec_qaq) (qaz_t4 rec_qaq) (ko (known44 rec_qaq hrec_qaq)) (L:=jnL) (zaab (bs:=[]) (by kernel_rfl) trivial) (by kernel_rfl) (fun _=>by kernel_rfl) (zaaa _) (fun _=>by kernel_rfl)
def qaz_L (rec_qaq:qaq_tr):Nat→Option (Lift.Loop U):=fun n=>bif Nat.beq n zabd then some zaa8 else bif Nat.beq n 4 then some (qaz_lp4 rec_qaq) else none
def qaz_md (rec_qaq:qaq_tr):Mode U:=mdG ⟨⟨[0],[100000],[]⟩,[.ptr 100000 0],[.blk 67 [.t (.slc (.st 37))]]⟩ [⟨100000,.slot 0,[]⟩] [⟨⟨[0],[100000],[]⟩,[.t (.st 52)],[.blk 67 [.t (.slc (.st 37))]]⟩,⟨⟨[777777],[],[]⟩,[.ifc 64 (.t (.st 64))],[]⟩] [.slc (.st 37)] [[.st 52,.slc (.st 37)],[.st 64]] (qaz rec_qaq)
theorem qaz_post (rec_qaq:qaq_tr) (hrec_qaq:qaq_rec rec_qaq):zaae kk env0 116 (qaz_md rec_qaq):=
  fnG (fn:=Tryz.f116) (ko (known44 rec_qaq hrec_qaq)) (by kernel_rfl) (L:=(qaz_L rec_qaq)) (zaab (bs:=[qaz_b4]) (by kernel_rfl) ⟨.inr ⟨_,by kernel_rfl,zabb.of_round (qaz_ok4 rec_qaq hrec_qaq)⟩,trivial⟩) (zaaa _) (by kernel_rfl)
def ms45 (rec_qaq:qaq_tr):List (FuncId×Mode U):=(116,(qaz_md rec_qaq))::(ms44 rec_qaq)
theorem known45 (rec_qaq:qaq_tr) (hrec_qaq:qaq_rec rec_qaq):Known kk env0 (zaac (ms45 rec_qaq)):=known_cons (by kernel_rfl) (qaz_post rec_qaq hrec_qaq) (known44 rec_qaq hrec_qaq)
def qaq_b3:Code:=(zabe (zaap Tryz.f65) 0)
def qaq_lp3 (rec_qaq:qaq_tr):Lift.Loop U:=lpG ⟨⟨[0,3],[100000],[⟨.slot 3,3,52,(.st 52)⟩]⟩,[.ptr 100000 0,.oslc 3],[.blk 67 [.t (.slc (.st 37))],.row 52 (.st 52)]⟩ [⟨.pan,⟨⟨[777777],[],[]⟩,[.ifc 64 (.t (.st 64))],[]⟩⟩,⟨.exit 0,⟨⟨[3],[100000],[⟨.slot 3,3,52,(.st 52)⟩]⟩,[.oslc 3],[.blk 67 [.t (.slc (.st 37))],.row 52 (.st 52)]⟩⟩] [.slc (.st 37),.slc (.st 52)] [[.st 64],[.slc (.st 37),.slc (.st 52)]] (qaq_l3 rec_qaq)
theorem qaq_ok3 (rec_qaq:qaq_tr) (hrec_qaq:qaq_rec rec_qaq):LoopR kk env0 Tryz.f65.ntmps qaq_b3 (qaq_lp3 rec_qaq):=
  loopG (qaq_i3 rec_qaq) (qaq_t3 rec_qaq) (ko (known45 rec_qaq hrec_qaq)) (L:=jnL) (zaab (bs:=[]) (by kernel_rfl) trivial) (by kernel_rfl) (fun _=>by kernel_rfl) (zaaa _) (fun _=>by kernel_rfl)
def qaq_L (rec_qaq:qaq_tr):Nat→Option (Lift.Loop U):=fun n=>bif Nat.beq n zabd then some zaa8 else bif Nat.beq n 3 then some (qaq_lp3 rec_qaq) else none
def qaq_md:Mode U:=qaq_rmd qaq
theorem qaq_step (rec_qaq:qaq_tr) (hrec_qaq:qaq_rec rec_qaq):zaaw (Kit.withModes kk (zaac (ms45 rec_qaq))) env0 Tryz.f65.ntmps (qaq_L rec_qaq) (zaap Tryz.f65):=zaab (bs:=[qaq_b3]) (by kernel_rfl) ⟨.inr ⟨_,by kernel_rfl,zabb.of_round (qaq_ok3 rec_qaq hrec_qaq)⟩,trivial⟩
theorem qaq_post:zaae kk env0 65 (qaq_rmd qaq):=
  recG qaq_i qaq_f (by kernel_rfl) (fun _=>by kernel_rfl) (zaaa _) fun r ih=>fnG (fn:=Tryz.f65) (ko (known45 r ih)) (by kernel_rfl) (qaq_step r ih) rfl (by kernel_rfl)
def ms46:List (FuncId×Mode U):=(65,qaq_md)::ms43
theorem known46:Known kk env0 (zaac ms46):=known_cons (by kernel_rfl) qaq_post known43
def qax_b2:Code:=(zabe (zaap Tryz.f27) 0)
def qax_L2:Nat→Option (Lift.Loop U):=fun n=>bif Nat.beq n zabd then some zaa8 else bif Nat.beq n (zah5+17) then some (zajv 3) else none
def qax_lp2:Lift.Loop U:=lpG ⟨⟨[0,2,3],[100000,2,3],[⟨.cell 3 0,20150,62,(.st 62)⟩,⟨.cell 3 1,20151,9,.str⟩,⟨.cell 3 2,20152,46,(.st 46)⟩]⟩,[.ptr 100000 0,.ptr 2 0,.ptr 3 0],[.blk 67 [.t (.slc (.st 37))],.blk 27 [.nil,.nil,.nil],.blk 27 [.oslc 20150,.oslc 20151,.oslc 20152],.row 62 (.st 62),.row 9 .str,.row 46 (.st 46)]⟩ [⟨.pan,⟨⟨[777777],[],[]⟩,[.ifc 64 (.t (.st 64))],[]⟩⟩,⟨.exit 0,⟨⟨[2,3],[100000,2,3],[⟨.cell 3 0,20150,62,(.st 62)⟩,⟨.cell 3 1,20151,9,.str⟩,⟨.cell 3 2,20152,46,(.st 46)⟩]⟩,[.ptr 2 0,.ptr 3 0],[.blk 67 [.t (.slc (.st 37))],.blk 27 [.nil,.nil,.nil],.blk 27 [.oslc 20150,.oslc 20151,.oslc 20152],.row 62 (.st 62),.row 9 .str,.row 46 (.st 46)]⟩⟩] [.slc (.st 37),.slc (.st 62),.slc .str,.slc (.st 46)] [[.st 64],[.slc (.st 37),.slc (.st 62),.slc .str,.slc (.st 46)]] qax_l2
theorem qax_ok2:LoopR kk env0 Tryz.f27.ntmps qax_b2 qax_lp2:=
  loopG qax_i2 qax_t2 (ko known46) (L:=qax_L2) (zaab (bs:=[]) (by kernel_rfl) trivial) (by kernel_rfl) (fun _=>by kernel_rfl) (zaaa _) (fun _=>by kernel_rfl)
def qax_L:Nat→Option (Lift.Loop U):=fun n=>bif Nat.beq n zabd then some zaa8 else bif Nat.beq n (zah5+17) then some (zajv 3) else bif Nat.beq n 2 then some qax_lp2 else none
def qax_md:Mode U:=mdG ⟨⟨[0],[100000],[]⟩,[.ptr 100000 0],[.blk 67 [.t (.slc (.st 37))]]⟩ [⟨100000,.slot 0,[]⟩] [⟨⟨[0],[100000],[⟨.sub 0 0,100100,62,(.st 62)⟩,⟨.sub 0 1,100200,9,.str⟩,⟨.sub 0 2,100300,46,(.st 46)⟩]⟩,[.agg [.oslc 100100,.oslc 100200,.oslc 100300]],[.blk 67 [.t (.slc (.st 37))],.row 62 (.st 62),.row 9 .str,.row 46 (.st 46)]⟩,⟨⟨[777777],[],[]⟩,[.ifc 64 (.t (.st 64))],[]⟩] [.slc (.st 37)] [[.slc (.st 37),.slc (.st 62),.slc .str,.slc (.st 46)],[.st 64]] qax
theorem qax_post:zaae kk env0 27 qax_md:=
  fnG (fn:=Tryz.f27) (ko known46) (by kernel_rfl) (L:=qax_L) (zaab (bs:=[qax_b2]) (by kernel_rfl) ⟨.inr ⟨_,by kernel_rfl,zabb.of_round (qax_ok2)⟩,trivial⟩) (zaaa _) (by kernel_rfl)
def ms47:List (FuncId×Mode U):=(27,qax_md)::ms46
theorem known47:Known kk env0 (zaac ms47):=known_cons (by kernel_rfl) qax_post known46
def qaX_md:Mode U:=mdG ⟨⟨[0,1,2],[100000],[]⟩,[.t (.st 52),.t (.int .i64),.ptr 100000 0],[.blk 3 [.t (.int .i64)]]⟩ [⟨100000,.slot 2,[]⟩] [⟨⟨[],[100000],[]⟩,[],[.blk 3 [.t (.int .i64)]]⟩] [.st 52,.int .i64,.int .i64] [[.int .i64]] qaX
theorem qaX_post:zaae kk env0 66 qaX_md:=
  fnG (fn:=Tryz.f66) (ko known47) (by kernel_rfl) (L:=jnL) (zaab (bs:=[]) (by kernel_rfl) trivial) (zaaa _) (by kernel_rfl)
def ms48:List (FuncId×Mode U):=(66,qaX_md)::ms47
theorem known48:Known kk env0 (zaac ms48):=known_cons (by kernel_rfl) qaX_post known47
def qaY_md:Mode U:=mdG ⟨⟨[0,1,2],[100000],[]⟩,[.t (.st 50),.t (.int .i64),.ptr 100000 0],[.blk 3 [.t (.int .i64)]]⟩ [⟨100000,.slot 2,[]⟩] [⟨⟨[],[100000],[]⟩,[],[.blk 3 [.t (.int .i64)]]⟩] [.st 50,.int .i64,.int .i64] [[.int .i64]] qaY
theorem qaY_post:zaae kk env0 67 qaY_md:=
  fnG (fn:=Tryz.f67) (ko known48) (by kernel_rfl) (L:=jnL) (zaab (bs:=[]) (by kernel_rfl) trivial) (zaaa _) (by kernel_rfl)
def ms49:List (FuncId×Mode U):=(67,qaY_md)::ms48
theorem known49:Known kk env0 (zaac ms49):=known_cons (by kernel_rfl) qaY_post known48
abbrev qaa_tr:Type:=curT U (sumT U [[.int .i64]]) [.st 50,.int .i64,.int .i64]
def qaa_rmd (rec_qaa:qaa_tr):Mode U:=mdG ⟨⟨[0,1,2],[100000],[]⟩,[.agg [.clo 66 [.ptr 100000 0],.clo 67 [.ptr 100000 0]],.t (.st 50),.t (.int .i64)],[.blk 3 [.t (.int .i64)]]⟩ [⟨100000,.slot 0,[0,0]⟩] [⟨⟨[],[100000],[]⟩,[],[.blk 3 [.t (.int .i64)]]⟩] [.st 50,.int .i64,.int .i64] [[.int .i64]] rec_qaa
abbrev qaa_rec (r:qaa_tr):Prop:=zaae kk env0 129 (qaa_rmd r)
def ms50 (rec_qaa:qaa_tr):List (FuncId×Mode U):=(129,(qaa_rmd rec_qaa))::ms49
theorem known50 (rec_qaa:qaa_tr) (hrec_qaa:qaa_rec rec_qaa):Known kk env0 (zaac (ms50 rec_qaa)):=known_cons (by kernel_rfl) hrec_qaa known49
def qaa_b3:Code:=(zabe (zaap Tryz.f129) 0)
def qaa_lp3 (rec_qaa:qaa_tr):Lift.Loop U:=lpG ⟨⟨[2,3,14,15,16],[100000,3],[]⟩,[.t (.int .i64),.ptr 3 0,.t (.slc (.st 50)),.t (.int .i64),.t (.int .i64)],[.blk 3 [.t (.int .i64)],.blk 89 [.clo 66 [.ptr 100000 0],.clo 67 [.ptr 100000 0]]]⟩ [⟨.exit 0,⟨⟨[],[100000],[]⟩,[],[.blk 3 [.t (.int .i64)]]⟩⟩] [.int .i64,.slc (.st 50),.int .i64,.int .i64,.int .i64] [[.int .i64]] (qaa_l3 rec_qaa)
theorem qaa_ok3 (rec_qaa:qaa_tr) (hrec_qaa:qaa_rec rec_qaa):LoopR kk env0 Tryz.f129.ntmps qaa_b3 (qaa_lp3 rec_qaa):=
  loopG (qaa_i3 rec_qaa) (qaa_t3 rec_qaa) (ko (known50 rec_qaa hrec_qaa)) (L:=jnL) (zaab (bs:=[]) (by kernel_rfl) trivial) (by kernel_rfl) (fun _=>by kernel_rfl) (zaaa _) (fun _=>by kernel_rfl)
def qaa_L (rec_qaa:qaa_tr):Nat→Option (Lift.Loop U):=fun n=>bif Nat.beq n zabd then some zaa8 else bif Nat.beq n 3 then some (qaa_lp3 rec_qaa) else none
def qaa_md:Mode U:=qaa_rmd qaa
theorem qaa_step (rec_qaa:qaa_tr) (hrec_qaa:qaa_rec rec_qaa):zaaw (Kit.withModes kk (zaac (ms50 rec_qaa))) env0 Tryz.f129.ntmps (qaa_L rec_qaa) (zaap Tryz.f129):=zaab (bs:=[qaa_b3]) (by kernel_rfl) ⟨.inr ⟨_,by kernel_rfl,zabb.of_round (qaa_ok3 rec_qaa hrec_qaa)⟩,trivial⟩
theorem qaa_post:zaae kk env0 129 (qaa_rmd qaa):=
  recG qaa_i qaa_f (by kernel_rfl) (fun _=>by kernel_rfl) (zaaa _) fun r ih=>fnG (fn:=Tryz.f129) (ko (known50 r ih)) (by kernel_rfl) (qaa_step r ih) rfl (by kernel_rfl)
def ms51:List (FuncId×Mode U):=(129,qaa_md)::ms49
theorem known51:Known kk env0 (zaac ms51):=known_cons (by kernel_rfl) qaa_post known49
abbrev qae_tr:Type:=curT U (sumT U [[.int .i64]]) [.slc (.st 52),.int .i64,.int .i64]
def qae_rmd (rec_qae:qae_tr):Mode U:=mdG ⟨⟨[0,1,2],[100000],[]⟩,[.agg [.clo 66 [.ptr 100000 0],.clo 67 [.ptr 100000 0]],.t (.slc (.st 52)),.t (.int .i64)],[.blk 3 [.t (.int .i64)]]⟩ [⟨100000,.slot 0,[0,0]⟩] [⟨⟨[],[100000],[]⟩,[],[.blk 3 [.t (.int .i64)]]⟩] [.slc (.st 52),.int .i64,.int .i64] [[.int .i64]] rec_qae
abbrev qae_rec (r:qae_tr):Prop:=zaae kk env0 89 (qae_rmd r)
def ms52 (rec_qae:qae_tr):List (FuncId×Mode U):=(89,(qae_rmd rec_qae))::ms51
theorem known52 (rec_qae:qae_tr) (hrec_qae:qae_rec rec_qae):Known kk env0 (zaac (ms52 rec_qae)):=known_cons (by kernel_rfl) hrec_qae known51
def qae_b2:Code:=(zabe (zaap Tryz.f89) 0)
def qae_lp2 (rec_qae:qae_tr):Lift.Loop U:=lpG ⟨⟨[2,3,8,9,10],[100000,3],[]⟩,[.t (.int .i64),.ptr 3 0,.t (.slc (.st 52)),.t (.int .i64),.t (.int .i64)],[.blk 3 [.t (.int .i64)],.blk 89 [.clo 66 [.ptr 100000 0],.clo 67 [.ptr 100000 0]]]⟩ [⟨.exit 0,⟨⟨[],[100000],[]⟩,[],[.blk 3 [.t (.int .i64)]]⟩⟩] [.int .i64,.slc (.st 52),.int .i64,.int .i64,.int .i64] [[.int .i64]] (qae_l2 rec_qae)
theorem qae_ok2 (rec_qae:qae_tr) (hrec_qae:qae_rec rec_qae):LoopR kk env0 Tryz.f89.ntmps qae_b2 (qae_lp2 rec_qae):=
  loopG (qae_i2 rec_qae) (qae_t2 rec_qae) (ko (known52 rec_qae hrec_qae)) (L:=jnL) (zaab (bs:=[]) (by kernel_rfl) trivial) (by kernel_rfl) (fun _=>by kernel_rfl) (zaaa _) (fun _=>by kernel_rfl)
def qae_L (rec_qae:qae_tr):Nat→Option (Lift.Loop U):=fun n=>bif Nat.beq n zabd then some zaa8 else bif Nat.beq n 2 then some (qae_lp2 rec_qae) else none
def qae_md:Mode U:=qae_rmd qae
theorem qae_step (rec_qae:qae_tr) (hrec_qae:qae_rec rec_qae):zaaw (Kit.withModes kk (zaac (ms52 rec_qae))) env0 Tryz.f89.ntmps (qae_L rec_qae) (zaap Tryz.f89):=zaab (bs:=[qae_b2]) (by kernel_rfl) ⟨.inr ⟨_,by kernel_rfl,zabb.of_round (qae_ok2 rec_qae hrec_qae)⟩,trivial⟩
theorem qae_post:zaae kk env0 89 (qae_rmd qae):=
  recG qae_i qae_f (by kernel_rfl) (fun _=>by kernel_rfl) (zaaa _) fun r ih=>fnG (fn:=Tryz.f89) (ko (known52 r ih)) (by kernel_rfl) (qae_step r ih) rfl (by kernel_rfl)
def ms53:List (FuncId×Mode U):=(89,qae_md)::ms51
theorem known53:Known kk env0 (zaac ms53):=known_cons (by kernel_rfl) qae_post known51
def qac_b2:Code:=(zabe (zaap Tryz.f43) 0)
def qac_lp2:Lift.Loop U:=lpG ⟨⟨[2,7,8,9],[100000,2],[]⟩,[.ptr 2 0,.t (.slc (.st 46)),.t (.int .i64),.t (.int .i64)],[.blk 3 [.t (.int .i64)],.blk 89 [.clo 66 [.ptr 100000 0],.clo 67 [.ptr 100000 0]]]⟩ [⟨.exit 0,⟨⟨[],[100000],[]⟩,[],[.blk 3 [.t (.int .i64)]]⟩⟩] [.slc (.st 46),.int .i64,.int .i64,.int .i64] [[.int .i64]] qac_l2
theorem qac_ok2:LoopR kk env0 Tryz.f43.ntmps qac_b2 qac_lp2:=
  loopG qac_i2 qac_t2 (ko known53) (L:=jnL) (zaab (bs:=[]) (by kernel_rfl) trivial) (by kernel_rfl) (fun _=>by kernel_rfl) (zaaa _) (fun _=>by kernel_rfl)
def qac_L:Nat→Option (Lift.Loop U):=fun n=>bif Nat.beq n zabd then some zaa8 else bif Nat.beq n 2 then some qac_lp2 else none
def qac_md:Mode U:=mdG ⟨⟨[0,1],[100000],[]⟩,[.agg [.clo 66 [.ptr 100000 0],.clo 67 [.ptr 100000 0]],.t (.st 27)],[.blk 3 [.t (.int .i64)]]⟩ [⟨100000,.slot 0,[0,0]⟩] [⟨⟨[],[100000],[]⟩,[],[.blk 3 [.t (.int .i64)]]⟩] [.st 27,.int .i64] [[.int .i64]] qac
theorem qac_post:zaae kk env0 43 qac_md:=
  fnG (fn:=Tryz.f43) (ko known53) (by kernel_rfl) (L:=qac_L) (zaab (bs:=[qac_b2]) (by kernel_rfl) ⟨.inr ⟨_,by kernel_rfl,zabb.of_round (qac_ok2)⟩,trivial⟩) (zaaa _) (by kernel_rfl)
def ms54:List (FuncId×Mode U):=(43,qac_md)::ms53
theorem known54:Known kk env0 (zaac ms54):=known_cons (by kernel_rfl) qac_post known53
def qaW_md:Mode U:=mdG ⟨⟨[0],[],[]⟩,[.t (.st 27)],[]⟩ [] [⟨⟨[0],[],[]⟩,[.t (.int .i64)],[]⟩] [.st 27] [[.int .i64]] qaW
theorem qaW_post:zaae kk env0 28 qaW_md:=
  fnG (fn:=Tryz.f28) (ko known54) (by kernel_rfl) (L:=jnL) (zaab (bs:=[]) (by kernel_rfl) trivial) (zaaa _) (by kernel_rfl)
def ms55:List (FuncId×Mode U):=(28,qaW_md)::ms54
theorem known55:Known kk env0 (zaac ms55):=known_cons (by kernel_rfl) qaW_post known54
def qaU_md:Mode U:=mdG ⟨⟨[0,1,2],[100000],[]⟩,[.t (.st 52),.t (.int .i64),.ptr 100000 0],[.blk 3 [.t (.int .i64)]]⟩ [⟨100000,.slot 2,[]⟩] [⟨⟨[],[100000],[]⟩,[],[.blk 3 [.t (.int .i64)]]⟩] [.st 52,.int .i64,.int .i64] [[.int .i64]] qaU
theorem qaU_post:zaae kk env0 41 qaU_md:=
  fnG (fn:=Tryz.f41) (ko known55) (by kernel_rfl) (L:=jnL) (zaab (bs:=[]) (by kernel_rfl) trivial) (zaaa _) (by kernel_rfl)
def ms56:List (FuncId×Mode U):=(41,qaU_md)::ms55
theorem known56:Known kk env0 (zaac ms56):=known_cons (by kernel_rfl) qaU_post known55
def qaV_md:Mode U:=mdG ⟨⟨[0,1,2],[100000],[]⟩,[.t (.st 50),.t (.int .i64),.ptr 100000 0],[.blk 3 [.t (.int .i64)]]⟩ [⟨100000,.slot 2,[]⟩] [⟨⟨[],[100000],[]⟩,[],[.blk 3 [.t (.int .i64)]]⟩] [.st 50,.int .i64,.int .i64] [[.int .i64]] qaV
theorem qaV_post:zaae kk env0 42 qaV_md:=
  fnG (fn:=Tryz.f42) (ko known56) (by kernel_rfl) (L:=jnL) (zaab (bs:=[]) (by kernel_rfl) trivial) (zaaa _) (by kernel_rfl)
def ms57:List (FuncId×Mode U):=(42,qaV_md)::ms56
theorem known57:Known kk env0 (zaac ms57):=known_cons (by kernel_rfl) qaV_post known56
abbrev qab_tr:Type:=curT U (sumT U [[.int .i64]]) [.st 50,.int .i64,.int .i64]
def qab_rmd (rec_qab:qab_tr):Mode U:=mdG ⟨⟨[0,1,2],[100000],[]⟩,[.agg [.clo 41 [.ptr 100000 0],.clo 42 [.ptr 100000 0]],.t (.st 50),.t (.int .i64)],[.blk 3 [.t (.int .i64)]]⟩ [⟨100000,.slot 0,[0,0]⟩] [⟨⟨[],[100000],[]⟩,[],[.blk 3 [.t (.int .i64)]]⟩] [.st 50,.int .i64,.int .i64] [[.int .i64]] rec_qab
abbrev qab_rec (r:qab_tr):Prop:=zaae kk env0 129 (qab_rmd r)
def ms58 (rec_qab:qab_tr):List (FuncId×Mode U):=(129,(qab_rmd rec_qab))::ms57
theorem known58 (rec_qab:qab_tr) (hrec_qab:qab_rec rec_qab):Known kk env0 (zaac (ms58 rec_qab)):=known_cons (by kernel_rfl) hrec_qab known57
def qab_b3:Code:=(zabe (zaap Tryz.f129) 0)
def qab_lp3 (rec_qab:qab_tr):Lift.Loop U:=lpG ⟨⟨[2,3,14,15,16],[100000,3],[]⟩,[.t (.int .i64),.ptr 3 0,.t (.slc (.st 50)),.t (.int .i64),.t (.int .i64)],[.blk 3 [.t (.int .i64)],.blk 89 [.clo 41 [.ptr 100000 0],.clo 42 [.ptr 100000 0]]]⟩ [⟨.exit 0,⟨⟨[],[100000],[]⟩,[],[.blk 3 [.t (.int .i64)]]⟩⟩] [.int .i64,.slc (.st 50),.int .i64,.int .i64,.int .i64] [[.int .i64]] (qab_l3 rec_qab)
theorem qab_ok3 (rec_qab:qab_tr) (hrec_qab:qab_rec rec_qab):LoopR kk env0 Tryz.f129.ntmps qab_b3 (qab_lp3 rec_qab):=
  loopG (qab_i3 rec_qab) (qab_t3 rec_qab) (ko (known58 rec_qab hrec_qab)) (L:=jnL) (zaab (bs:=[]) (by kernel_rfl) trivial) (by kernel_rfl) (fun _=>by kernel_rfl) (zaaa _) (fun _=>by kernel_rfl)
def qab_L (rec_qab:qab_tr):Nat→Option (Lift.Loop U):=fun n=>bif Nat.beq n zabd then some zaa8 else bif Nat.beq n 3 then some (qab_lp3 rec_qab) else none
def qab_md:Mode U:=qab_rmd qab
theorem qab_step (rec_qab:qab_tr) (hrec_qab:qab_rec rec_qab):zaaw (Kit.withModes kk (zaac (ms58 rec_qab))) env0 Tryz.f129.ntmps (qab_L rec_qab) (zaap Tryz.f129):=zaab (bs:=[qab_b3]) (by kernel_rfl) ⟨.inr ⟨_,by kernel_rfl,zabb.of_round (qab_ok3 rec_qab hrec_qab)⟩,trivial⟩
theorem qab_post:zaae kk env0 129 (qab_rmd qab):=
  recG qab_i qab_f (by kernel_rfl) (fun _=>by kernel_rfl) (zaaa _) fun r ih=>fnG (fn:=Tryz.f129) (ko (known58 r ih)) (by kernel_rfl) (qab_step r ih) rfl (by kernel_rfl)
def ms59:List (FuncId×Mode U):=(129,qab_md)::ms57
theorem known59:Known kk env0 (zaac ms59):=known_cons (by kernel_rfl) qab_post known57
abbrev qaf_tr:Type:=curT U (sumT U [[.int .i64]]) [.slc (.st 52),.int .i64,.int .i64]
def qaf_rmd (rec_qaf:qaf_tr):Mode U:=mdG ⟨⟨[0,1,2],[100000],[]⟩,[.agg [.clo 41 [.ptr 100000 0],.clo 42 [.ptr 100000 0]],.t (.slc (.st 52)),.t (.int .i64)],[.blk 3 [.t (.int .i64)]]⟩ [⟨100000,.slot 0,[0,0]⟩] [⟨⟨[],[100000],[]⟩,[],[.blk 3 [.t (.int .i64)]]⟩] [.slc (.st 52),.int .i64,.int .i64] [[.int .i64]] rec_qaf
abbrev qaf_rec (r:qaf_tr):Prop:=zaae kk env0 89 (qaf_rmd r)
def ms60 (rec_qaf:qaf_tr):List (FuncId×Mode U):=(89,(qaf_rmd rec_qaf))::ms59
theorem known60 (rec_qaf:qaf_tr) (hrec_qaf:qaf_rec rec_qaf):Known kk env0 (zaac (ms60 rec_qaf)):=known_cons (by kernel_rfl) hrec_qaf known59
def qaf_b2:Code:=(zabe (zaap Tryz.f89) 0)
def qaf_lp2 (rec_qaf:qaf_tr):Lift.Loop U:=lpG ⟨⟨[2,3,8,9,10],[100000,3],[]⟩,[.t (.int .i64),.ptr 3 0,.t (.slc (.st 52)),.t (.int .i64),.t (.int .i64)],[.blk 3 [.t (.int .i64)],.blk 89 [.clo 41 [.ptr 100000 0],.clo 42 [.ptr 100000 0]]]⟩ [⟨.exit 0,⟨⟨[],[100000],[]⟩,[],[.blk 3 [.t (.int .i64)]]⟩⟩] [.int .i64,.slc (.st 52),.int .i64,.int .i64,.int .i64] [[.int .i64]] (qaf_l2 rec_qaf)
theorem qaf_ok2 (rec_qaf:qaf_tr) (hrec_qaf:qaf_rec rec_qaf):LoopR kk env0 Tryz.f89.ntmps qaf_b2 (qaf_lp2 rec_qaf):=
  loopG (qaf_i2 rec_qaf) (qaf_t2 rec_qaf) (ko (known60 rec_qaf hrec_qaf)) (L:=jnL) (zaab (bs:=[]) (by kernel_rfl) trivial) (by kernel_rfl) (fun _=>by kernel_rfl) (zaaa _) (fun _=>by kernel_rfl)
def qaf_L (rec_qaf:qaf_tr):Nat→Option (Lift.Loop U):=fun n=>bif Nat.beq n zabd then some zaa8 else bif Nat.beq n 2 then some (qaf_lp2 rec_qaf) else none
def qaf_md:Mode U:=qaf_rmd qaf
theorem qaf_step (rec_qaf:qaf_tr) (hrec_qaf:qaf_rec rec_qaf):zaaw (Kit.withModes kk (zaac (ms60 rec_qaf))) env0 Tryz.f89.ntmps (qaf_L rec_qaf) (zaap Tryz.f89):=zaab (bs:=[qaf_b2]) (by kernel_rfl) ⟨.inr ⟨_,by kernel_rfl,zabb.of_round (qaf_ok2 rec_qaf hrec_qaf)⟩,trivial⟩
theorem qaf_post:zaae kk env0 89 (qaf_rmd qaf):=
  recG qaf_i qaf_f (by kernel_rfl) (fun _=>by kernel_rfl) (zaaa _) fun r ih=>fnG (fn:=Tryz.f89) (ko (known60 r ih)) (by kernel_rfl) (qaf_step r ih) rfl (by kernel_rfl)
def ms61:List (FuncId×Mode U):=(89,qaf_md)::ms59
theorem known61:Known kk env0 (zaac ms61):=known_cons (by kernel_rfl) qaf_post known59
def qad_b2:Code:=(zabe (zaap Tryz.f43) 0)
def qad_lp2:Lift.Loop U:=lpG ⟨⟨[2,7,8,9],[100000,2],[]⟩,[.ptr 2 0,.t (.slc (.st 46)),.t (.int .i64),.t (.int .i64)],[.blk 3 [.t (.int .i64)],.blk 89 [.clo 41 [.ptr 100000 0],.clo 42 [.ptr 100000 0]]]⟩ [⟨.exit 0,⟨⟨[],[100000],[]⟩,[],[.blk 3 [.t (.int .i64)]]⟩⟩] [.slc (.st 46),.int .i64,.int .i64,.int .i64] [[.int .i64]] qad_l2
theorem qad_ok2:LoopR kk env0 Tryz.f43.ntmps qad_b2 qad_lp2:=
  loopG qad_i2 qad_t2 (ko known61) (L:=jnL) (zaab (bs:=[]) (by kernel_rfl) trivial) (by kernel_rfl) (fun _=>by kernel_rfl) (zaaa _) (fun _=>by kernel_rfl)
def qad_L:Nat→Option (Lift.Loop U):=fun n=>bif Nat.beq n zabd then some zaa8 else bif Nat.beq n 2 then some qad_lp2 else none
def qad_md:Mode U:=mdG ⟨⟨[0,1],[100000],[]⟩,[.agg [.clo 41 [.ptr 100000 0],.clo 42 [.ptr 100000 0]],.t (.st 27)],[.blk 3 [.t (.int .i64)]]⟩ [⟨100000,.slot 0,[0,0]⟩] [⟨⟨[],[100000],[]⟩,[],[.blk 3 [.t (.int .i64)]]⟩] [.st 27,.int .i64] [[.int .i64]] qad
theorem qad_post:zaae kk env0 43 qad_md:=
  fnG (fn:=Tryz.f43) (ko known61) (by kernel_rfl) (L:=qad_L) (zaab (bs:=[qad_b2]) (by kernel_rfl) ⟨.inr ⟨_,by kernel_rfl,zabb.of_round (qad_ok2)⟩,trivial⟩) (zaaa _) (by kernel_rfl)
def ms62:List (FuncId×Mode U):=(43,qad_md)::ms61
theorem known62:Known kk env0 (zaac ms62):=known_cons (by kernel_rfl) qad_post known61
def qaT_md:Mode U:=mdG ⟨⟨[0],[],[]⟩,[.t (.st 27)],[]⟩ [] [⟨⟨[0],[],[]⟩,[.t (.int .i64)],[]⟩] [.st 27] [[.int .i64]] qaT
theorem qaT_post:zaae kk env0 16 qaT_md:=
  fnG (fn:=Tryz.f16) (ko known62) (by kernel_rfl) (L:=jnL) (zaab (bs:=[]) (by kernel_rfl) trivial) (zaaa _) (by kernel_rfl)
def ms63:List (FuncId×Mode U):=(16,qaT_md)::ms62
theorem known63:Known kk env0 (zaac ms63):=known_cons (by kernel_rfl) qaT_post known62
def qao_md:Mode U:=mdG ⟨⟨[0],[],[]⟩,[.t .str],[]⟩ [] [⟨⟨[0,1],[],[⟨.sub 0 0,100100,62,(.st 62)⟩,⟨.sub 0 1,100200,9,.str⟩,⟨.sub 0 2,100300,46,(.st 46)⟩]⟩,[.agg [.oslc 100100,.oslc 100200,.oslc 100300],.t (.st 30)],[.row 62 (.st 62),.row 9 .str,.row 46 (.st 46)]⟩] [.str] [[.st 30,.slc (.st 62),.slc .str,.slc (.st 46)]] qao
theorem qao_post:zaae kk env0 12 qao_md:=
  fnGD (fn:=Tryz.f12) (ko known63) (by kernel_rfl) (L:=jnL) (zaab (bs:=[]) (by kernel_rfl) trivial) (zaaa _) (by kernel_rfl) (by kernel_rfl)
def ms64:List (FuncId×Mode U):=(12,qao_md)::ms63
theorem known64:Known kk env0 (zaac ms64):=known_cons (by kernel_rfl) qao_post known63
def qaF_md:Mode U:=mdG ⟨⟨[],[],[]⟩,[],[]⟩ [] [⟨⟨[0],[],[]⟩,[.t .bool],[]⟩] [] [[.bool]] qaF
theorem qaF_post:zaae kk env0 11 qaF_md:=
  fnG (fn:=Tryz.f11) (ko known64) (by kernel_rfl) (L:=jnL) (zaab (bs:=[]) (by kernel_rfl) trivial) (zaaa _) (by kernel_rfl)
def ms65:List (FuncId×Mode U):=(11,qaF_md)::ms64
theorem known65:Known kk env0 (zaac ms65):=known_cons (by kernel_rfl) qaF_post known64
def qaQ_b4:Code:=(zabe (zaap Tryz.f35) 0)
def qaQ_lp4:Lift.Loop U:=lpG ⟨⟨[0,1,12,13],[],[]⟩,[.t (.slc (.st 62)),.t (.slc (.st 62)),.t (.int .i64),.t (.int .i64)],[]⟩ [⟨.ret,⟨⟨[4],[],[]⟩,[.t .bool],[]⟩⟩,⟨.exit 0,⟨⟨[],[],[]⟩,[],[]⟩⟩] [.slc (.st 62),.slc (.st 62),.int .i64,.int .i64] [[.bool],[]] qaQ_l4
theorem qaQ_ok4:LoopR kk env0 Tryz.f35.ntmps qaQ_b4 qaQ_lp4:=
  loopG qaQ_i4 qaQ_t4 (ko known65) (L:=jnL) (zaab (bs:=[]) (by kernel_rfl) trivial) (by kernel_rfl) (fun _=>by kernel_rfl) (zaaa _) (fun _=>by kernel_rfl)
def qaQ_L:Nat→Option (Lift.Loop U):=fun n=>bif Nat.beq n zabd then some zaa8 else bif Nat.beq n 4 then some qaQ_lp4 else none
def qaQ_md:Mode U:=mdG ⟨⟨[0,1],[],[]⟩,[.t (.slc (.st 62)),.t (.slc (.st 62))],[]⟩ [] [⟨⟨[0],[],[]⟩,[.t .bool],[]⟩] [.slc (.st 62),.slc (.st 62)] [[.bool]] qaQ
theorem qaQ_post:zaae kk env0 35 qaQ_md:=
  fnG (fn:=Tryz.f35) (ko known65) (by kernel_rfl) (L:=qaQ_L) (zaab (bs:=[qaQ_b4]) (by kernel_rfl) ⟨.inr ⟨_,by kernel_rfl,zabb.of_round (qaQ_ok4)⟩,trivial⟩) (zaaa _) (by kernel_rfl)
def ms66:List (FuncId×Mode U):=(35,qaQ_md)::ms65
theorem known66:Known kk env0 (zaac ms66):=known_cons (by kernel_rfl) qaQ_post known65
def qaR_b4:Code:=(zabe (zaap Tryz.f36) 0)
def qaR_lp4:Lift.Loop U:=lpG ⟨⟨[0,1,12,13],[],[]⟩,[.t (.slc .str),.t (.slc .str),.t (.int .i64),.t (.int .i64)],[]⟩ [⟨.ret,⟨⟨[4],[],[]⟩,[.t .bool],[]⟩⟩,⟨.exit 0,⟨⟨[],[],[]⟩,[],[]⟩⟩] [.slc .str,.slc .str,.int .i64,.int .i64] [[.bool],[]] qaR_l4
theorem qaR_ok4:LoopR kk env0 Tryz.f36.ntmps qaR_b4 qaR_lp4:=
  loopG qaR_i4 qaR_t4 (ko known66) (L:=jnL) (zaab (bs:=[]) (by kernel_rfl) trivial) (by kernel_rfl) (fun _=>by kernel_rfl) (zaaa _) (fun _=>by kernel_rfl)
def qaR_L:Nat→Option (Lift.Loop U):=fun n=>bif Nat.beq n zabd then some zaa8 else bif Nat.beq n 4 then some qaR_lp4 else none
def qaR_md:Mode U:=mdG ⟨⟨[0,1],[],[]⟩,[.t (.slc .str),.t (.slc .str)],[]⟩ [] [⟨⟨[0],[],[]⟩,[.t .bool],[]⟩] [.slc .str,.slc .str] [[.bool]] qaR
theorem qaR_post:zaae kk env0 36 qaR_md:=
  fnG (fn:=Tryz.f36) (ko known66) (by kernel_rfl) (L:=qaR_L) (zaab (bs:=[qaR_b4]) (by kernel_rfl) ⟨.inr ⟨_,by kernel_rfl,zabb.of_round (qaR_ok4)⟩,trivial⟩) (zaaa _) (by kernel_rfl)
def ms67:List (FuncId×Mode U):=(36,qaR_md)::ms66
theorem known67:Known kk env0 (zaac ms67):=known_cons (by kernel_rfl) qaR_post known66
abbrev qa1_tr:Type:=curT U (sumT U [[.bool]]) [.st 50,.st 50]
def qa1_rmd (rec_qa1:qa1_tr):Mode U:=mdG ⟨⟨[0,1],[],[]⟩,[.t (.st 50),.t (.st 50)],[]⟩ [] [⟨⟨[0],[],[]⟩,[.t .bool],[]⟩] [.st 50,.st 50] [[.bool]] rec_qa1
abbrev qa1_rec (r:qa1_tr):Prop:=zaae kk env0 88 (qa1_rmd r)
def ms68 (rec_qa1:qa1_tr):List (FuncId×Mode U):=(88,(qa1_rmd rec_qa1))::ms67
theorem known68 (rec_qa1:qa1_tr) (hrec_qa1:qa1_rec rec_qa1):Known kk env0 (zaac (ms68 rec_qa1)):=known_cons (by kernel_rfl) hrec_qa1 known67
def qaN_b4:Code:=(zabe (zaap Tryz.f128) 0)
def qaN_lp4 (rec_qa1:qa1_tr):Lift.Loop U:=lpG ⟨⟨[1,2,15,16,17],[],[]⟩,[.t (.slc (.st 50)),.fnc 88,.t (.slc (.st 50)),.t (.int .i64),.t (.int .i64)],[]⟩ [⟨.ret,⟨⟨[6],[],[]⟩,[.t .bool],[]⟩⟩,⟨.exit 0,⟨⟨[],[],[]⟩,[],[]⟩⟩] [.slc (.st 50),.slc (.st 50),.int .i64,.int .i64] [[.bool],[]] (qaN_l4 rec_qa1)
theorem qaN_ok4 (rec_qa1:qa1_tr) (hrec_qa1:qa1_rec rec_qa1):LoopR kk env0 Tryz.f128.ntmps qaN_b4 (qaN_lp4 rec_qa1):=
  loopG (qaN_i4 rec_qa1) (qaN_t4 rec_qa1) (ko (known68 rec_qa1 hrec_qa1)) (L:=jnL) (zaab (bs:=[]) (by kernel_rfl) trivial) (by kernel_rfl) (fun _=>by kernel_rfl) (zaaa _) (fun _=>by kernel_rfl)
def qaN_L (rec_qa1:qa1_tr):Nat→Option (Lift.Loop U):=fun n=>bif Nat.beq n zabd then some zaa8 else bif Nat.beq n 4 then some (qaN_lp4 rec_qa1) else none
def qaN_md (rec_qa1:qa1_tr):Mode U:=mdG ⟨⟨[0,1,2],[],[]⟩,[.t (.slc (.st 50)),.t (.slc (.st 50)),.fnc 88],[]⟩ [] [⟨⟨[0],[],[]⟩,[.t .bool],[]⟩] [.slc (.st 50),.slc (.st 50)] [[.bool]] (qaN rec_qa1)
theorem qaN_post (rec_qa1:qa1_tr) (hrec_qa1:qa1_rec rec_qa1):zaae kk env0 128 (qaN_md rec_qa1):=
  fnG (fn:=Tryz.f128) (ko (known68 rec_qa1 hrec_qa1)) (by kernel_rfl) (L:=(qaN_L rec_qa1)) (zaab (bs:=[qaN_b4]) (by kernel_rfl) ⟨.inr ⟨_,by kernel_rfl,zabb.of_round (qaN_ok4 rec_qa1 hrec_qa1)⟩,trivial⟩) (zaaa _) (by kernel_rfl)
def ms69 (rec_qa1:qa1_tr):List (FuncId×Mode U):=(128,(qaN_md rec_qa1))::(ms68 rec_qa1)
theorem known69 (rec_qa1:qa1_tr) (hrec_qa1:qa1_rec rec_qa1):Known kk env0 (zaac (ms69 rec_qa1)):=known_cons (by kernel_rfl) (qaN_post rec_qa1 hrec_qa1) (known68 rec_qa1 hrec_qa1)
def qa1_md:Mode U:=qa1_rmd qa1
theorem qa1_step (rec_qa1:qa1_tr) (hrec_qa1:qa1_rec rec_qa1):zaaw (Kit.withModes kk (zaac (ms69 rec_qa1))) env0 Tryz.f88.ntmps jnL (zaap Tryz.f88):=zaab (bs:=[]) (by kernel_rfl) trivial
theorem qa1_post:zaae kk env0 88 (qa1_rmd qa1):=
  recG qa1_i qa1_f (by kernel_rfl) (fun _=>by kernel_rfl) (zaaa _) fun r ih=>fnG (fn:=Tryz.f88) (ko (known69 r ih)) (by kernel_rfl) (qa1_step r ih) rfl (by kernel_rfl)
def ms70:List (FuncId×Mode U):=(88,qa1_md)::ms67
theorem known70:Known kk env0 (zaac ms70):=known_cons (by kernel_rfl) qa1_post known67
abbrev qaO_tr:Type:=curT U (sumT U [[.bool]]) [.slc (.st 52),.slc (.st 52)]
def qaO_rmd (rec_qaO:qaO_tr):Mode U:=mdG ⟨⟨[0,1,2],[],[]⟩,[.t (.slc (.st 52)),.t (.slc (.st 52)),.fnc 40],[]⟩ [] [⟨⟨[0],[],[]⟩,[.t .bool],[]⟩] [.slc (.st 52),.slc (.st 52)] [[.bool]] rec_qaO
abbrev qaO_rec (r:qaO_tr):Prop:=zaae kk env0 39 (qaO_rmd r)
def ms71 (rec_qaO:qaO_tr):List (FuncId×Mode U):=(39,(qaO_rmd rec_qaO))::ms70
theorem known71 (rec_qaO:qaO_tr) (hrec_qaO:qaO_rec rec_qaO):Known kk env0 (zaac (ms71 rec_qaO)):=known_cons (by kernel_rfl) hrec_qaO known70
def qa2_md (rec_qaO:qaO_tr):Mode U:=mdG ⟨⟨[0,1],[],[]⟩,[.t (.st 52),.t (.st 52)],[]⟩ [] [⟨⟨[0],[],[]⟩,[.t .bool],[]⟩] [.st 52,.st 52] [[.bool]] (qa2 rec_qaO)
theorem qa2_post (rec_qaO:qaO_tr) (hrec_qaO:qaO_rec rec_qaO):zaae kk env0 40 (qa2_md rec_qaO):=
  fnG (fn:=Tryz.f40) (ko (known71 rec_qaO hrec_qaO)) (by kernel_rfl) (L:=jnL) (zaab (bs:=[]) (by kernel_rfl) trivial) (zaaa _) (by kernel_rfl)
def ms72 (rec_qaO:qaO_tr):List (FuncId×Mode U):=(40,(qa2_md rec_qaO))::(ms71 rec_qaO)
theorem known72 (rec_qaO:qaO_tr) (hrec_qaO:qaO_rec rec_qaO):Known kk env0 (zaac (ms72 rec_qaO)):=known_cons (by kernel_rfl) (qa2_post rec_qaO hrec_qaO) (known71 rec_qaO hrec_qaO)
def qaO_b4:Code:=(zabe (zaap Tryz.f39) 0)
def qaO_lp4 (rec_qaO:qaO_tr):Lift.Loop U:=lpG ⟨⟨[1,2,15,16,17],[],[]⟩,[.t (.slc (.st 52)),.fnc 40,.t (.slc (.st 52)),.t (.int .i64),.t (.int .i64)],[]⟩ [⟨.ret,⟨⟨[6],[],[]⟩,[.t .bool],[]⟩⟩,⟨.exit 0,⟨⟨[],[],[]⟩,[],[]⟩⟩] [.slc (.st 52),.slc (.st 52),.int .i64,.int .i64] [[.bool],[]] (qaO_l4 rec_qaO)
theorem qaO_ok4 (rec_qaO:qaO_tr) (hrec_qaO:qaO_rec rec_qaO):LoopR kk env0 Tryz.f39.ntmps qaO_b4 (qaO_lp4 rec_qaO):=
  loopG (qaO_i4 rec_qaO) (qaO_t4 rec_qaO) (ko (known72 rec_qaO hrec_qaO)) (L:=jnL) (zaab (bs:=[]) (by kernel_rfl) trivial) (by kernel_rfl) (fun _=>by kernel_rfl) (zaaa _) (fun _=>by kernel_rfl)
def qaO_L (rec_qaO:qaO_tr):Nat→Option (Lift.Loop U):=fun n=>bif Nat.beq n zabd then some zaa8 else bif Nat.beq n 4 then some (qaO_lp4 rec_qaO) else none
def qaO_md:Mode U:=qaO_rmd qaO
theorem qaO_step (rec_qaO:qaO_tr) (hrec_qaO:qaO_rec rec_qaO):zaaw (Kit.withModes kk (zaac (ms72 rec_qaO))) env0 Tryz.f39.ntmps (qaO_L rec_qaO) (zaap Tryz.f39):=zaab (bs:=[qaO_b4]) (by kernel_rfl) ⟨.inr ⟨_,by kernel_rfl,zabb.of_round (qaO_ok4 rec_qaO hrec_qaO)⟩,trivial⟩
theorem qaO_post:zaae kk env0 39 (qaO_rmd qaO):=
  recG qaO_i qaO_f (by kernel_rfl) (fun _=>by kernel_rfl) (zaaa _) fun r ih=>fnG (fn:=Tryz.f39) (ko (known72 r ih)) (by kernel_rfl) (qaO_step r ih) rfl (by kernel_rfl)
def ms73:List (FuncId×Mode U):=(39,qaO_md)::ms70
theorem known73:Known kk env0 (zaac ms73):=known_cons (by kernel_rfl) qaO_post known70
def qa0_md:Mode U:=mdG ⟨⟨[0,1],[],[]⟩,[.t (.st 46),.t (.st 46)],[]⟩ [] [⟨⟨[0],[],[]⟩,[.t .bool],[]⟩] [.st 46,.st 46] [[.bool]] qa0
theorem qa0_post:zaae kk env0 38 qa0_md:=
  fnG (fn:=Tryz.f38) (ko known73) (by kernel_rfl) (L:=jnL) (zaab (bs:=[]) (by kernel_rfl) trivial) (zaaa _) (by kernel_rfl)
def ms74:List (FuncId×Mode U):=(38,qa0_md)::ms73
theorem known74:Known kk env0 (zaac ms74):=known_cons (by kernel_rfl) qa0_post known73
def qaP_b4:Code:=(zabe (zaap Tryz.f37) 0)
def qaP_lp4:Lift.Loop U:=lpG ⟨⟨[1,2,15,16,17],[],[]⟩,[.t (.slc (.st 46)),.fnc 38,.t (.slc (.st 46)),.t (.int .i64),.t (.int .i64)],[]⟩ [⟨.ret,⟨⟨[6],[],[]⟩,[.t .bool],[]⟩⟩,⟨.exit 0,⟨⟨[],[],[]⟩,[],[]⟩⟩] [.slc (.st 46),.slc (.st 46),.int .i64,.int .i64] [[.bool],[]] qaP_l4
theorem qaP_ok4:LoopR kk env0 Tryz.f37.ntmps qaP_b4 qaP_lp4:=
  loopG qaP_i4 qaP_t4 (ko known74) (L:=jnL) (zaab (bs:=[]) (by kernel_rfl) trivial) (by kernel_rfl) (fun _=>by kernel_rfl) (zaaa _) (fun _=>by kernel_rfl)
def qaP_L:Nat→Option (Lift.Loop U):=fun n=>bif Nat.beq n zabd then some zaa8 else bif Nat.beq n 4 then some qaP_lp4 else none
def qaP_md:Mode U:=mdG ⟨⟨[0,1,2],[],[]⟩,[.t (.slc (.st 46)),.t (.slc (.st 46)),.fnc 38],[]⟩ [] [⟨⟨[0],[],[]⟩,[.t .bool],[]⟩] [.slc (.st 46),.slc (.st 46)] [[.bool]] qaP
theorem qaP_post:zaae kk env0 37 qaP_md:=
  fnG (fn:=Tryz.f37) (ko known74) (by kernel_rfl) (L:=qaP_L) (zaab (bs:=[qaP_b4]) (by kernel_rfl) ⟨.inr ⟨_,by kernel_rfl,zabb.of_round (qaP_ok4)⟩,trivial⟩) (zaaa _) (by kernel_rfl)
def ms75:List (FuncId×Mode U):=(37,qaP_md)::ms74
theorem known75:Known kk env0 (zaac ms75):=known_cons (by kernel_rfl) qaP_post known74
def qaZ_md:Mode U:=mdG ⟨⟨[0,1],[],[]⟩,[.t (.st 27),.t (.st 27)],[]⟩ [] [⟨⟨[0],[],[]⟩,[.t .bool],[]⟩] [.st 27,.st 27] [[.bool]] qaZ
theorem qaZ_post:zaae kk env0 15 qaZ_md:=
  fnG (fn:=Tryz.f15) (ko known75) (by kernel_rfl) (L:=jnL) (zaab (bs:=[]) (by kernel_rfl) trivial) (zaaa _) (by kernel_rfl)
def ms76:List (FuncId×Mode U):=(15,qaZ_md)::ms75
theorem known76:Known kk env0 (zaac ms76):=known_cons (by kernel_rfl) qaZ_post known75
def qaE_md:Mode U:=mdG ⟨⟨[0,1],[],[]⟩,[.t .str,.t .str],[]⟩ [] [⟨⟨[0],[],[]⟩,[.t .bool],[]⟩] [.str,.str] [[.bool]] qaE
theorem qaE_post:zaae kk env0 5 qaE_md:=
  fnG (fn:=Tryz.f5) (ko known76) (by kernel_rfl) (L:=jnL) (zaab (bs:=[]) (by kernel_rfl) trivial) (zaaa _) (by kernel_rfl)
end
end Lift.Q4
