/-
  DERIVED. Each function of this seat computes its Lean function. Conditions: as each theorem says.
-/
import Derived.Test.YtnjaffjkdeelhaaGreatDoorDefsB
set_option linter.unusedVariables false
set_option linter.unusedSimpArgs false
set_option linter.unusedSectionVars false
namespace Lift.J6
noncomputable section
open Go Go.RowKit Go.Proofs Lift Lift.Fn
theorem ko {ms:List (FuncId×Mode U)} (h:Known kk env0 (zaac ms)):KitOk (Kit.withModes kk (zaac ms)) env0:=zawl eqOk mixed h
def qbW_md:Mode U:=mdG ⟨⟨[0],[],[]⟩,[.t (.int .i32)],[]⟩ [] [⟨⟨[0],[],[]⟩,[.t (.int .i64)],[]⟩] [.int .i32] [[.int .i64]] qbW
theorem qbW_post:zaad kk env0 129 qbW_md:=
  fnG (fn:=Tryz.f129) (ko known5) (by kernel_rfl) (L:=noL) (zaab (bs:=[]) (by kernel_rfl) trivial) (zaaa _) (by kernel_rfl)
def ms6:List (FuncId×Mode U):=(129,qbW_md)::ms5
theorem known6:Known kk env0 (zaac ms6):=known_cons (by kernel_rfl) qbW_post known5
def qbB_b4:Code:=(zaag (zaae Tryz.f114) 0)
def qbB_lp4:Lift.Loop U:=lpG ⟨⟨[0,3,4,5,10],[3,5,10],[⟨.slot 4,4,146,(.st 146)⟩]⟩,[.t .str,.ptr 3 0,.oslc 4,.ptr 5 0,.ptr 10 0],[.blk 146 [.t (.int .i64),.t (.int .i64),.t (.int .i64),.t (.int .i64)],.blk 146 [.t (.int .i64),.t (.int .i64),.t (.int .i64),.t (.int .i64)],.sit,.row 146 (.st 146)]⟩ [⟨.ret,⟨⟨[2,3],[3],[⟨.slot 2,2,146,(.st 146)⟩]⟩,[.oslc 2,.ptr 3 0],[.blk 146 [.t (.int .i64),.t (.int .i64),.t (.int .i64),.t (.int .i64)],.row 146 (.st 146)]⟩⟩,⟨.exit 0,⟨⟨[3,4,5],[3,5],[⟨.slot 4,4,146,(.st 146)⟩]⟩,[.ptr 3 0,.oslc 4,.ptr 5 0],[.blk 146 [.t (.int .i64),.t (.int .i64),.t (.int .i64),.t (.int .i64)],.blk 146 [.t (.int .i64),.t (.int .i64),.t (.int .i64),.t (.int .i64)],.row 146 (.st 146)]⟩⟩] [.str,.int .i64,.int .i64,.int .i64,.int .i64,.int .i64,.int .i64,.int .i64,.int .i64,.str,.fn,.slc (.st 146)] [[.int .i64,.int .i64,.int .i64,.int .i64,.slc (.st 146)],[.int .i64,.int .i64,.int .i64,.int .i64,.int .i64,.int .i64,.int .i64,.int .i64,.slc (.st 146)]] qbB_l4
theorem qbB_ok4:LoopR kk env0 Tryz.f114.ntmps qbB_b4 qbB_lp4:=
  loopG qbB_i4 qbB_t4 (ko known6) (L:=noL) (zaab (bs:=[]) (by kernel_rfl) trivial) (by kernel_rfl) (fun _=>by kernel_rfl) (zaaa _) (fun _=>by kernel_rfl)
def qbB_L:Nat→Option (Lift.Loop U):=fun n=>bif Nat.beq n 4 then some qbB_lp4 else none
def qbB_md:Mode U:=mdG ⟨⟨[0],[],[]⟩,[.t .str],[]⟩ [] [⟨⟨[0,1],[],[⟨.slot 0,100050,146,(.st 146)⟩]⟩,[.oslc 100050,.t (.st 146)],[.row 146 (.st 146)]⟩] [.str] [[.st 146,.slc (.st 146)]] qbB
theorem qbB_post:zaad kk env0 114 qbB_md:=
  fnG (fn:=Tryz.f114) (ko known6) (by kernel_rfl) (L:=qbB_L) (zaab (bs:=[qbB_b4]) (by kernel_rfl) ⟨.inr ⟨_,by kernel_rfl,zaai.of_round (qbB_ok4)⟩,trivial⟩) (zaaa _) (by kernel_rfl)
def ms7:List (FuncId×Mode U):=(114,qbB_md)::ms6
theorem known7:Known kk env0 (zaac ms7):=known_cons (by kernel_rfl) qbB_post known6
def qbA_md:Mode U:=mdG ⟨⟨[0],[],[]⟩,[.t .str],[]⟩ [] [⟨⟨[0,1],[],[⟨.slot 0,100050,146,(.st 146)⟩]⟩,[.oslc 100050,.t (.st 130)],[.row 146 (.st 146)]⟩] [.str] [[.st 130,.slc (.st 146)]] qbA
theorem qbA_post:zaad kk env0 102 qbA_md:=
  fnG (fn:=Tryz.f102) (ko known7) (by kernel_rfl) (L:=noL) (zaab (bs:=[]) (by kernel_rfl) trivial) (zaaa _) (by kernel_rfl)
def ms8:List (FuncId×Mode U):=(102,qbA_md)::ms7
theorem known8:Known kk env0 (zaac ms8):=known_cons (by kernel_rfl) qbA_post known7
def qbx_md:Mode U:=mdG ⟨⟨[0],[],[]⟩,[.t (.int .i64)],[]⟩ [] [⟨⟨[0],[],[]⟩,[.t .bool],[]⟩] [.int .i64] [[.bool]] qbx
theorem qbx_post:zaad kk env0 115 qbx_md:=
  fnG (fn:=Tryz.f115) (ko known8) (by kernel_rfl) (L:=noL) (zaab (bs:=[]) (by kernel_rfl) trivial) (zaaa _) (by kernel_rfl)
def ms9:List (FuncId×Mode U):=(115,qbx_md)::ms8
theorem known9:Known kk env0 (zaac ms9):=known_cons (by kernel_rfl) qbx_post known8
def qaB_b3:Code:=(zaag (zaae Tryz.f103) 0)
def qaB_lp3:Lift.Loop U:=lpG ⟨⟨[0,3,7],[7],[]⟩,[.t .str,.t .bool,.ptr 7 0],[.sit]⟩ [⟨.ret,⟨⟨[2],[],[]⟩,[.t (.int .i64)],[]⟩⟩,⟨.exit 0,⟨⟨[0],[],[]⟩,[.t .str],[]⟩⟩] [.str,.bool,.str,.fn] [[.int .i64],[.str]] qaB_l3
theorem qaB_ok3:LoopR kk env0 Tryz.f103.ntmps qaB_b3 qaB_lp3:=
  loopG qaB_i3 qaB_t3 (ko known9) (L:=noL) (zaab (bs:=[]) (by kernel_rfl) trivial) (by kernel_rfl) (fun _=>by kernel_rfl) (zaaa _) (fun _=>by kernel_rfl)
def qaB_L:Nat→Option (Lift.Loop U):=fun n=>bif Nat.beq n 3 then some qaB_lp3 else none
def qaB_md:Mode U:=mdG ⟨⟨[0],[],[]⟩,[.t .str],[]⟩ [] [⟨⟨[0],[],[]⟩,[.t (.int .i64)],[]⟩] [.str] [[.int .i64]] qaB
theorem qaB_post:zaad kk env0 103 qaB_md:=
  fnG (fn:=Tryz.f103) (ko known9) (by kernel_rfl) (L:=qaB_L) (zaab (bs:=[qaB_b3]) (by kernel_rfl) ⟨.inr ⟨_,by kernel_rfl,zaai.of_round (qaB_ok3)⟩,trivial⟩) (zaaa _) (by kernel_rfl)
def ms10:List (FuncId×Mode U):=(103,qaB_md)::ms9
theorem known10:Known kk env0 (zaac ms10):=known_cons (by kernel_rfl) qaB_post known9
def qbX_md:Mode U:=mdG ⟨⟨[0],[],[]⟩,[.t (.int .i32)],[]⟩ [] [⟨⟨[0],[],[]⟩,[.t .bool],[]⟩] [.int .i32] [[.bool]] qbX
theorem qbX_post:zaad kk env0 147 qbX_md:=
  fnG (fn:=Tryz.f147) (ko known10) (by kernel_rfl) (L:=noL) (zaab (bs:=[]) (by kernel_rfl) trivial) (zaaa _) (by kernel_rfl)
def ms11:List (FuncId×Mode U):=(147,qbX_md)::ms10
theorem known11:Known kk env0 (zaac ms11):=known_cons (by kernel_rfl) qbX_post known10
def qbC_md:Mode U:=mdG ⟨⟨[0],[],[]⟩,[.t (.int .i64)],[]⟩ [] [⟨⟨[0],[],[]⟩,[.t .bool],[]⟩] [.int .i64] [[.bool]] qbC
theorem qbC_post:zaad kk env0 136 qbC_md:=
  fnG (fn:=Tryz.f136) (ko known11) (by kernel_rfl) (L:=noL) (zaab (bs:=[]) (by kernel_rfl) trivial) (zaaa _) (by kernel_rfl)
def ms12:List (FuncId×Mode U):=(136,qbC_md)::ms11
theorem known12:Known kk env0 (zaac ms12):=known_cons (by kernel_rfl) qbC_post known11
def qbz_md:Mode U:=mdG ⟨⟨[0],[],[]⟩,[.t (.int .i64)],[]⟩ [] [⟨⟨[0],[],[]⟩,[.t .bool],[]⟩] [.int .i64] [[.bool]] qbz
theorem qbz_post:zaad kk env0 131 qbz_md:=
  fnG (fn:=Tryz.f131) (ko known12) (by kernel_rfl) (L:=noL) (zaab (bs:=[]) (by kernel_rfl) trivial) (zaaa _) (by kernel_rfl)
def ms13:List (FuncId×Mode U):=(131,qbz_md)::ms12
theorem known13:Known kk env0 (zaac ms13):=known_cons (by kernel_rfl) qbz_post known12
def qby_md:Mode U:=mdG ⟨⟨[0],[],[]⟩,[.t (.int .i64)],[]⟩ [] [⟨⟨[0],[],[]⟩,[.t .bool],[]⟩] [.int .i64] [[.bool]] qby
theorem qby_post:zaad kk env0 120 qby_md:=
  fnG (fn:=Tryz.f120) (ko known13) (by kernel_rfl) (L:=noL) (zaab (bs:=[]) (by kernel_rfl) trivial) (zaaa _) (by kernel_rfl)
def ms14:List (FuncId×Mode U):=(120,qby_md)::ms13
theorem known14:Known kk env0 (zaac ms14):=known_cons (by kernel_rfl) qby_post known13
def qaz_md:Mode U:=mdG ⟨⟨[0],[],[]⟩,[.t (.int .i32)],[]⟩ [] [⟨⟨[0],[],[]⟩,[.t .bool],[]⟩] [.int .i32] [[.bool]] qaz
theorem qaz_post:zaad kk env0 117 qaz_md:=
  fnG (fn:=Tryz.f117) (ko known14) (by kernel_rfl) (L:=noL) (zaab (bs:=[]) (by kernel_rfl) trivial) (zaaa _) (by kernel_rfl)
def ms15:List (FuncId×Mode U):=(117,qaz_md)::ms14
theorem known15:Known kk env0 (zaac ms15):=known_cons (by kernel_rfl) qaz_post known14
def qbG_b2:Code:=(zaag (zaae Tryz.f83) 0)
def qbG_lp2:Lift.Loop U:=lpG ⟨⟨[0,1,7,8],[],[]⟩,[.t (.slc .str),.t .str,.t (.int .i64),.t (.int .i64)],[]⟩ [⟨.ret,⟨⟨[4],[],[]⟩,[.t (.int .i64)],[]⟩⟩,⟨.exit 0,⟨⟨[],[],[]⟩,[],[]⟩⟩] [.slc .str,.str,.int .i64,.int .i64] [[.int .i64],[]] qbG_l2
theorem qbG_ok2:LoopR kk env0 Tryz.f83.ntmps qbG_b2 qbG_lp2:=
  loopG qbG_i2 qbG_t2 (ko known15) (L:=noL) (zaab (bs:=[]) (by kernel_rfl) trivial) (by kernel_rfl) (fun _=>by kernel_rfl) (zaaa _) (fun _=>by kernel_rfl)
def qbG_L:Nat→Option (Lift.Loop U):=fun n=>bif Nat.beq n 2 then some qbG_lp2 else none
def qbG_md:Mode U:=mdG ⟨⟨[0,1],[],[]⟩,[.t (.slc .str),.t .str],[]⟩ [] [⟨⟨[0],[],[]⟩,[.t (.int .i64)],[]⟩] [.slc .str,.str] [[.int .i64]] qbG
theorem qbG_post:zaad kk env0 83 qbG_md:=
  fnG (fn:=Tryz.f83) (ko known15) (by kernel_rfl) (L:=qbG_L) (zaab (bs:=[qbG_b2]) (by kernel_rfl) ⟨.inr ⟨_,by kernel_rfl,zaai.of_round (qbG_ok2)⟩,trivial⟩) (zaaa _) (by kernel_rfl)
def ms16:List (FuncId×Mode U):=(83,qbG_md)::ms15
theorem known16:Known kk env0 (zaac ms16):=known_cons (by kernel_rfl) qbG_post known15
def qbF_md:Mode U:=mdG ⟨⟨[0,1],[],[]⟩,[.t (.slc .str),.t .str],[]⟩ [] [⟨⟨[0],[],[]⟩,[.t .bool],[]⟩] [.slc .str,.str] [[.bool]] qbF
theorem qbF_post:zaad kk env0 122 qbF_md:=
  fnG (fn:=Tryz.f122) (ko known16) (by kernel_rfl) (L:=noL) (zaab (bs:=[]) (by kernel_rfl) trivial) (zaaa _) (by kernel_rfl)
def ms17:List (FuncId×Mode U):=(122,qbF_md)::ms16
theorem known17:Known kk env0 (zaac ms17):=known_cons (by kernel_rfl) qbF_post known16
def qaC_md:Mode U:=mdG ⟨⟨[0],[],[]⟩,[.t .str],[]⟩ [] [⟨⟨[0],[],[]⟩,[.t .str],[]⟩] [.str] [[.str]] qaC
theorem qaC_post:zaad kk env0 118 qaC_md:=
  fnG (fn:=Tryz.f118) (ko known17) (by kernel_rfl) (L:=noL) (zaab (bs:=[]) (by kernel_rfl) trivial) (zaaa _) (by kernel_rfl)
def ms18:List (FuncId×Mode U):=(118,qaC_md)::ms17
theorem known18:Known kk env0 (zaac ms18):=known_cons (by kernel_rfl) qaC_post known17
def qaE_b2:Code:=(zaag (zaae Tryz.f119) 0)
def qaE_lp2:Lift.Loop U:=lpG ⟨⟨[0,6],[6],[]⟩,[.t .str,.ptr 6 0],[.sit]⟩ [⟨.ret,⟨⟨[2],[],[]⟩,[.t .str],[]⟩⟩,⟨.exit 0,⟨⟨[0],[],[]⟩,[.t .str],[]⟩⟩] [.str,.str,.fn] [[.str],[.str]] qaE_l2
theorem qaE_ok2:LoopR kk env0 Tryz.f119.ntmps qaE_b2 qaE_lp2:=
  loopG qaE_i2 qaE_t2 (ko known18) (L:=noL) (zaab (bs:=[]) (by kernel_rfl) trivial) (by kernel_rfl) (fun _=>by kernel_rfl) (zaaa _) (fun _=>by kernel_rfl)
def qaE_L:Nat→Option (Lift.Loop U):=fun n=>bif Nat.beq n 2 then some qaE_lp2 else none
def qaE_md:Mode U:=mdG ⟨⟨[0],[],[]⟩,[.t .str],[]⟩ [] [⟨⟨[0],[],[]⟩,[.t .str],[]⟩] [.str] [[.str]] qaE
theorem qaE_post:zaad kk env0 119 qaE_md:=
  fnG (fn:=Tryz.f119) (ko known18) (by kernel_rfl) (L:=qaE_L) (zaab (bs:=[qaE_b2]) (by kernel_rfl) ⟨.inr ⟨_,by kernel_rfl,zaai.of_round (qaE_ok2)⟩,trivial⟩) (zaaa _) (by kernel_rfl)
def ms19:List (FuncId×Mode U):=(119,qaE_md)::ms18
theorem known19:Known kk env0 (zaac ms19):=known_cons (by kernel_rfl) qaE_post known18
def qaA_md:Mode U:=mdG ⟨⟨[0],[],[]⟩,[.t .str],[]⟩ [] [⟨⟨[0,1],[],[]⟩,[.t (.int .i64),.t .bool],[]⟩] [.str] [[.int .i64,.bool]] qaA
theorem qaA_post:zaad kk env0 121 qaA_md:=
  fnG (fn:=Tryz.f121) (ko known19) (by kernel_rfl) (L:=noL) (zaab (bs:=[]) (by kernel_rfl) trivial) (zaaa _) (by kernel_rfl)
def ms20:List (FuncId×Mode U):=(121,qaA_md)::ms19
theorem known20:Known kk env0 (zaac ms20):=known_cons (by kernel_rfl) qaA_post known19
def qay_md:Mode U:=mdG ⟨⟨[],[],[]⟩,[],[]⟩ [] [⟨⟨[0],[],[⟨.slot 0,100050,9,.str⟩]⟩,[.oslc 100050],[.row 9 .str]⟩] [] [[.slc .str]] qay
theorem qay_post:zaad kk env0 123 qay_md:=
  fnG (fn:=Tryz.f123) (ko known20) (by kernel_rfl) (L:=noL) (zaab (bs:=[]) (by kernel_rfl) trivial) (zaaa _) (by kernel_rfl)
def ms21:List (FuncId×Mode U):=(123,qay_md)::ms20
theorem known21:Known kk env0 (zaac ms21):=known_cons (by kernel_rfl) qay_post known20
def qaD_md:Mode U:=mdG ⟨⟨[0],[],[]⟩,[.t .str],[]⟩ [] [⟨⟨[0,1],[],[]⟩,[.t (.st 134),.t (.int .i64)],[]⟩] [.str] [[.st 134,.int .i64]] qaD
theorem qaD_post:zaad kk env0 104 qaD_md:=
  fnG (fn:=Tryz.f104) (ko known21) (by kernel_rfl) (L:=noL) (zaab (bs:=[]) (by kernel_rfl) trivial) (zaaa _) (by kernel_rfl)
def ms22:List (FuncId×Mode U):=(104,qaD_md)::ms21
theorem known22:Known kk env0 (zaac ms22):=known_cons (by kernel_rfl) qaD_post known21
def qax_b6:Code:=(zaag (zaae Tryz.f94) 0)
def qax_lp6:Lift.Loop U:=lpG ⟨⟨[0,3,6,7],[3],[⟨.slot 6,6,134,(.st 134)⟩]⟩,[.t .str,.ptr 3 0,.oslc 6,.t (.int .i64)],[.blk 130 [.t (.int .i64),.t (.int .i64),.t .str],.row 134 (.st 134)]⟩ [⟨.ret,⟨⟨[2,3],[3],[]⟩,[.nil,.ptr 3 0],[.blk 130 [.t (.int .i64),.t (.int .i64),.t .str]]⟩⟩,⟨.exit 0,⟨⟨[0,3,6],[3],[⟨.slot 6,6,134,(.st 134)⟩]⟩,[.t .str,.ptr 3 0,.oslc 6],[.blk 130 [.t (.int .i64),.t (.int .i64),.t .str],.row 134 (.st 134)]⟩⟩] [.str,.int .i64,.int .i64,.int .i64,.str,.slc (.st 134)] [[.int .i64,.int .i64,.str],[.str,.int .i64,.int .i64,.str,.slc (.st 134)]] qax_l6
theorem qax_ok6:LoopR kk env0 Tryz.f94.ntmps qax_b6 qax_lp6:=
  loopG qax_i6 qax_t6 (ko known22) (L:=noL) (zaab (bs:=[]) (by kernel_rfl) trivial) (by kernel_rfl) (fun _=>by kernel_rfl) (zaaa _) (fun _=>by kernel_rfl)
def qax_L:Nat→Option (Lift.Loop U):=fun n=>bif Nat.beq n 6 then some qax_lp6 else none
def qax_md:Mode U:=mdG ⟨⟨[0],[],[]⟩,[.t .str],[]⟩ [] [⟨⟨[0,1],[],[⟨.slot 0,100050,134,(.st 134)⟩]⟩,[.oslc 100050,.t (.st 130)],[.row 134 (.st 134)]⟩] [.str] [[.st 130,.slc (.st 134)]] qax
theorem qax_post:zaad kk env0 94 qax_md:=
  fnG (fn:=Tryz.f94) (ko known22) (by kernel_rfl) (L:=qax_L) (zaab (bs:=[qax_b6]) (by kernel_rfl) ⟨.inr ⟨_,by kernel_rfl,zaai.of_round (qax_ok6)⟩,trivial⟩) (zaaa _) (by kernel_rfl)
def ms23:List (FuncId×Mode U):=(94,qax_md)::ms22
theorem known23:Known kk env0 (zaac ms23):=known_cons (by kernel_rfl) qax_post known22
def qbT_md:Mode U:=mdG ⟨⟨[0],[],[]⟩,[.t .str],[]⟩ [] [⟨⟨[0],[],[]⟩,[.t .bool],[]⟩] [.str] [[.bool]] qbT
theorem qbT_post:zaad kk env0 73 qbT_md:=
  fnG (fn:=Tryz.f73) (ko known23) (by kernel_rfl) (L:=jnL) (zaab (bs:=[]) (by kernel_rfl) trivial) (zaaa _) (by kernel_rfl)
def ms24:List (FuncId×Mode U):=(73,qbT_md)::ms23
theorem known24:Known kk env0 (zaac ms24):=known_cons (by kernel_rfl) qbT_post known23
def qbU_md:Mode U:=mdG ⟨⟨[],[],[]⟩,[],[]⟩ [] [⟨⟨[0],[],[]⟩,[.t (.map (.int .i64) (.st 136))],[]⟩] [] [[.map (.int .i64) (.st 136)]] qbU
theorem qbU_post:zaad kk env0 95 qbU_md:=
  fnG (fn:=Tryz.f95) (ko known24) (by kernel_rfl) (L:=jnL) (zaab (bs:=[]) (by kernel_rfl) trivial) (zaaa _) (by kernel_rfl)
def ms25:List (FuncId×Mode U):=(95,qbU_md)::ms24
theorem known25:Known kk env0 (zaac ms25):=known_cons (by kernel_rfl) qbU_post known24
def qbS_md:Mode U:=mdG ⟨⟨[0,1],[],[]⟩,[.t .str,.t .bool],[]⟩ [] [⟨⟨[0],[],[]⟩,[.t .bool],[]⟩] [.str,.bool] [[.bool]] qbS
theorem qbS_post:zaad kk env0 96 qbS_md:=
  fnG (fn:=Tryz.f96) (ko known25) (by kernel_rfl) (L:=jnL) (zaab (bs:=[]) (by kernel_rfl) trivial) (zaaa _) (by kernel_rfl)
def ms26:List (FuncId×Mode U):=(96,qbS_md)::ms25
theorem known26:Known kk env0 (zaac ms26):=known_cons (by kernel_rfl) qbS_post known25
def qbV_md:Mode U:=mdG ⟨⟨[0],[],[]⟩,[.t (.st 62)],[]⟩ [] [⟨⟨[0],[],[]⟩,[.t .bool],[]⟩] [.st 62] [[.bool]] qbV
theorem qbV_post:zaad kk env0 75 qbV_md:=
  fnG (fn:=Tryz.f75) (ko known26) (by kernel_rfl) (L:=jnL) (zaab (bs:=[]) (by kernel_rfl) trivial) (zaaa _) (by kernel_rfl)
def ms27:List (FuncId×Mode U):=(75,qbV_md)::ms26
theorem known27:Known kk env0 (zaac ms27):=known_cons (by kernel_rfl) qbV_post known26
def qbQ_md:Mode U:=mdG ⟨⟨[0,1,2],[100000],[]⟩,[.t (.st 62),.t (.int .i64),.ptr 100000 0],[.blk 4 [.t .bool]]⟩ [⟨100000,.slot 2,[]⟩] [⟨⟨[],[100000],[]⟩,[],[.blk 4 [.t .bool]]⟩] [.st 62,.int .i64,.bool] [[.bool]] qbQ
theorem qbQ_post:zaad kk env0 74 qbQ_md:=
  fnG (fn:=Tryz.f74) (ko known27) (by kernel_rfl) (L:=jnL) (zaab (bs:=[]) (by kernel_rfl) trivial) (zaaa _) (by kernel_rfl)
def ms28:List (FuncId×Mode U):=(74,qbQ_md)::ms27
theorem known28:Known kk env0 (zaac ms28):=known_cons (by kernel_rfl) qbQ_post known27
def qbO_md:Mode U:=mdG ⟨⟨[0],[],[]⟩,[.t (.st 60)],[]⟩ [] [⟨⟨[0],[],[]⟩,[.t .bool],[]⟩] [.st 60] [[.bool]] qbO
theorem qbO_post:zaad kk env0 77 qbO_md:=
  fnG (fn:=Tryz.f77) (ko known28) (by kernel_rfl) (L:=jnL) (zaab (bs:=[]) (by kernel_rfl) trivial) (zaaa _) (by kernel_rfl)
def ms29:List (FuncId×Mode U):=(77,qbO_md)::ms28
theorem known29:Known kk env0 (zaac ms29):=known_cons (by kernel_rfl) qbO_post known28
def qbR_md:Mode U:=mdG ⟨⟨[0,1,2],[100000],[]⟩,[.t (.st 60),.t (.int .i64),.ptr 100000 0],[.blk 4 [.t .bool]]⟩ [⟨100000,.slot 2,[]⟩] [⟨⟨[],[100000],[]⟩,[],[.blk 4 [.t .bool]]⟩] [.st 60,.int .i64,.bool] [[.bool]] qbR
theorem qbR_post:zaad kk env0 76 qbR_md:=
  fnG (fn:=Tryz.f76) (ko known29) (by kernel_rfl) (L:=jnL) (zaab (bs:=[]) (by kernel_rfl) trivial) (zaaa _) (by kernel_rfl)
def ms30:List (FuncId×Mode U):=(76,qbR_md)::ms29
theorem known30:Known kk env0 (zaac ms30):=known_cons (by kernel_rfl) qbR_post known29
abbrev qac_tr:Type:=curT U (sumT U [[.bool]]) [.st 60,.int .i64,.bool]
def qac_rmd (rec_qac:qac_tr):Mode U:=mdG ⟨⟨[0,1,2],[100000],[]⟩,[.agg [.clo 74 [.ptr 100000 0],.clo 76 [.ptr 100000 0]],.t (.st 60),.t (.int .i64)],[.blk 4 [.t .bool]]⟩ [⟨100000,.slot 0,[0,0]⟩] [⟨⟨[],[100000],[]⟩,[],[.blk 4 [.t .bool]]⟩] [.st 60,.int .i64,.bool] [[.bool]] rec_qac
abbrev qac_rec (r:qac_tr):Prop:=zaad kk env0 105 (qac_rmd r)
def ms31 (rec_qac:qac_tr):List (FuncId×Mode U):=(105,(qac_rmd rec_qac))::ms30
theorem known31 (rec_qac:qac_tr) (hrec_qac:qac_rec rec_qac):Known kk env0 (zaac (ms31 rec_qac)):=known_cons (by kernel_rfl) hrec_qac known30
def qac_b3:Code:=(zaag (zaae Tryz.f105) 0)
def qac_lp3 (rec_qac:qac_tr):Lift.Loop U:=lpG ⟨⟨[2,3,14,15,16],[100000,3],[]⟩,[.t (.int .i64),.ptr 3 0,.t (.slc (.st 60)),.t (.int .i64),.t (.int .i64)],[.blk 4 [.t .bool],.blk 122 [.clo 74 [.ptr 100000 0],.clo 76 [.ptr 100000 0]]]⟩ [⟨.exit 0,⟨⟨[],[100000],[]⟩,[],[.blk 4 [.t .bool]]⟩⟩] [.int .i64,.slc (.st 60),.int .i64,.int .i64,.bool] [[.bool]] (qac_l3 rec_qac)
theorem qac_ok3 (rec_qac:qac_tr) (hrec_qac:qac_rec rec_qac):LoopR kk env0 Tryz.f105.ntmps qac_b3 (qac_lp3 rec_qac):=
  loopG (qac_i3 rec_qac) (qac_t3 rec_qac) (ko (known31 rec_qac hrec_qac)) (L:=jnL) (zaab (bs:=[]) (by kernel_rfl) trivial) (by kernel_rfl) (fun _=>by kernel_rfl) (zaaa _) (fun _=>by kernel_rfl)
def qac_L (rec_qac:qac_tr):Nat→Option (Lift.Loop U):=fun n=>bif Nat.beq n zaak then some zaaj else bif Nat.beq n 3 then some (qac_lp3 rec_qac) else none
def qac_md:Mode U:=qac_rmd qac
theorem qac_step (rec_qac:qac_tr) (hrec_qac:qac_rec rec_qac):zaao (Kit.withModes kk (zaac (ms31 rec_qac))) env0 Tryz.f105.ntmps (qac_L rec_qac) (zaae Tryz.f105):=zaab (bs:=[qac_b3]) (by kernel_rfl) ⟨.inr ⟨_,by kernel_rfl,zaai.of_round (qac_ok3 rec_qac hrec_qac)⟩,trivial⟩
theorem qac_post:zaad kk env0 105 (qac_rmd qac):=
  recG qac_i qac_f (by kernel_rfl) (fun _=>by kernel_rfl) (zaaa _) fun r ih=>fnG (fn:=Tryz.f105) (ko (known31 r ih)) (by kernel_rfl) (qac_step r ih) rfl (by kernel_rfl)
def ms32:List (FuncId×Mode U):=(105,qac_md)::ms30
theorem known32:Known kk env0 (zaac ms32):=known_cons (by kernel_rfl) qac_post known30
abbrev qai_tr:Type:=curT U (sumT U [[.bool]]) [.slc (.st 62),.int .i64,.bool]
def qai_rmd (rec_qai:qai_tr):Mode U:=mdG ⟨⟨[0,1,2],[100000],[]⟩,[.agg [.clo 74 [.ptr 100000 0],.clo 76 [.ptr 100000 0]],.t (.slc (.st 62)),.t (.int .i64)],[.blk 4 [.t .bool]]⟩ [⟨100000,.slot 0,[0,0]⟩] [⟨⟨[],[100000],[]⟩,[],[.blk 4 [.t .bool]]⟩] [.slc (.st 62),.int .i64,.bool] [[.bool]] rec_qai
abbrev qai_rec (r:qai_tr):Prop:=zaad kk env0 97 (qai_rmd r)
def ms33 (rec_qai:qai_tr):List (FuncId×Mode U):=(97,(qai_rmd rec_qai))::ms32
theorem known33 (rec_qai:qai_tr) (hrec_qai:qai_rec rec_qai):Known kk env0 (zaac (ms33 rec_qai)):=known_cons (by kernel_rfl) hrec_qai known32
def qai_b2:Code:=(zaag (zaae Tryz.f97) 0)
def qai_lp2 (rec_qai:qai_tr):Lift.Loop U:=lpG ⟨⟨[2,3,8,9,10],[100000,3],[]⟩,[.t (.int .i64),.ptr 3 0,.t (.slc (.st 62)),.t (.int .i64),.t (.int .i64)],[.blk 4 [.t .bool],.blk 122 [.clo 74 [.ptr 100000 0],.clo 76 [.ptr 100000 0]]]⟩ [⟨.exit 0,⟨⟨[],[100000],[]⟩,[],[.blk 4 [.t .bool]]⟩⟩] [.int .i64,.slc (.st 62),.int .i64,.int .i64,.bool] [[.bool]] (qai_l2 rec_qai)
theorem qai_ok2 (rec_qai:qai_tr) (hrec_qai:qai_rec rec_qai):LoopR kk env0 Tryz.f97.ntmps qai_b2 (qai_lp2 rec_qai):=
  loopG (qai_i2 rec_qai) (qai_t2 rec_qai) (ko (known33 rec_qai hrec_qai)) (L:=jnL) (zaab (bs:=[]) (by kernel_rfl) trivial) (by kernel_rfl) (fun _=>by kernel_rfl) (zaaa _) (fun _=>by kernel_rfl)
def qai_L (rec_qai:qai_tr):Nat→Option (Lift.Loop U):=fun n=>bif Nat.beq n zaak then some zaaj else bif Nat.beq n 2 then some (qai_lp2 rec_qai) else none
def qai_md:Mode U:=qai_rmd qai
theorem qai_step (rec_qai:qai_tr) (hrec_qai:qai_rec rec_qai):zaao (Kit.withModes kk (zaac (ms33 rec_qai))) env0 Tryz.f97.ntmps (qai_L rec_qai) (zaae Tryz.f97):=zaab (bs:=[qai_b2]) (by kernel_rfl) ⟨.inr ⟨_,by kernel_rfl,zaai.of_round (qai_ok2 rec_qai hrec_qai)⟩,trivial⟩
theorem qai_post:zaad kk env0 97 (qai_rmd qai):=
  recG qai_i qai_f (by kernel_rfl) (fun _=>by kernel_rfl) (zaaa _) fun r ih=>fnG (fn:=Tryz.f97) (ko (known33 r ih)) (by kernel_rfl) (qai_step r ih) rfl (by kernel_rfl)
def ms34:List (FuncId×Mode U):=(97,qai_md)::ms32
theorem known34:Known kk env0 (zaac ms34):=known_cons (by kernel_rfl) qai_post known32
def qaf_b2:Code:=(zaag (zaae Tryz.f78) 0)
def qaf_lp2:Lift.Loop U:=lpG ⟨⟨[2,7,8,9],[100000,2],[]⟩,[.ptr 2 0,.t (.slc (.st 51)),.t (.int .i64),.t (.int .i64)],[.blk 4 [.t .bool],.blk 122 [.clo 74 [.ptr 100000 0],.clo 76 [.ptr 100000 0]]]⟩ [⟨.exit 0,⟨⟨[],[100000],[]⟩,[],[.blk 4 [.t .bool]]⟩⟩] [.slc (.st 51),.int .i64,.int .i64,.bool] [[.bool]] qaf_l2
theorem qaf_ok2:LoopR kk env0 Tryz.f78.ntmps qaf_b2 qaf_lp2:=
  loopG qaf_i2 qaf_t2 (ko known34) (L:=jnL) (zaab (bs:=[]) (by kernel_rfl) trivial) (by kernel_rfl) (fun _=>by kernel_rfl) (zaaa _) (fun _=>by kernel_rfl)
def qaf_L:Nat→Option (Lift.Loop U):=fun n=>bif Nat.beq n zaak then some zaaj else bif Nat.beq n 2 then some qaf_lp2 else none
def qaf_md:Mode U:=mdG ⟨⟨[0,1],[100000],[]⟩,[.agg [.clo 74 [.ptr 100000 0],.clo 76 [.ptr 100000 0]],.t (.st 26)],[.blk 4 [.t .bool]]⟩ [⟨100000,.slot 0,[0,0]⟩] [⟨⟨[],[100000],[]⟩,[],[.blk 4 [.t .bool]]⟩] [.st 26,.bool] [[.bool]] qaf
theorem qaf_post:zaad kk env0 78 qaf_md:=
  fnG (fn:=Tryz.f78) (ko known34) (by kernel_rfl) (L:=qaf_L) (zaab (bs:=[qaf_b2]) (by kernel_rfl) ⟨.inr ⟨_,by kernel_rfl,zaai.of_round (qaf_ok2)⟩,trivial⟩) (zaaa _) (by kernel_rfl)
def ms35:List (FuncId×Mode U):=(78,qaf_md)::ms34
theorem known35:Known kk env0 (zaac ms35):=known_cons (by kernel_rfl) qaf_post known34
def qbP_b3:Code:=(zaag (zaae Tryz.f54) 0)
def qbP_lp3:Lift.Loop U:=lpG ⟨⟨[1,3,11,12,13],[1,3],[]⟩,[.ptr 1 0,.ptr 3 0,.t (.slc (.st 48)),.t (.int .i64),.t (.int .i64)],[.blk 26 [.t (.slc (.st 48)),.t (.slc .str),.t (.slc (.st 51))],.blk 4 [.t .bool]]⟩ [⟨.exit 0,⟨⟨[1,3],[1,3],[]⟩,[.ptr 1 0,.ptr 3 0],[.blk 26 [.t (.slc (.st 48)),.t (.slc .str),.t (.slc (.st 51))],.blk 4 [.t .bool]]⟩⟩] [.slc (.st 48),.int .i64,.int .i64,.slc (.st 48),.slc .str,.slc (.st 51),.bool] [[.slc (.st 48),.slc .str,.slc (.st 51),.bool]] qbP_l3
theorem qbP_ok3:LoopR kk env0 Tryz.f54.ntmps qbP_b3 qbP_lp3:=
  loopG qbP_i3 qbP_t3 (ko known35) (L:=jnL) (zaab (bs:=[]) (by kernel_rfl) trivial) (by kernel_rfl) (fun _=>by kernel_rfl) (zaaa _) (fun _=>by kernel_rfl)
def qbP_b8:Code:=(zaag (zaae Tryz.f54) 1)
def qbP_lp8:Lift.Loop U:=lpG ⟨⟨[1,3,35,36,37],[1,3],[]⟩,[.ptr 1 0,.ptr 3 0,.t (.slc .str),.t (.int .i64),.t (.int .i64)],[.blk 26 [.t (.slc (.st 48)),.t (.slc .str),.t (.slc (.st 51))],.blk 4 [.t .bool]]⟩ [⟨.exit 2,⟨⟨[1,3],[1,3],[]⟩,[.ptr 1 0,.ptr 3 0],[.blk 26 [.t (.slc (.st 48)),.t (.slc .str),.t (.slc (.st 51))],.blk 4 [.t .bool]]⟩⟩] [.slc .str,.int .i64,.int .i64,.slc (.st 48),.slc .str,.slc (.st 51),.bool] [[.slc (.st 48),.slc .str,.slc (.st 51),.bool]] qbP_l8
theorem qbP_ok8:LoopR kk env0 Tryz.f54.ntmps qbP_b8 qbP_lp8:=
  loopG qbP_i8 qbP_t8 (ko known35) (L:=jnL) (zaab (bs:=[]) (by kernel_rfl) trivial) (by kernel_rfl) (fun _=>by kernel_rfl) (zaaa _) (fun _=>by kernel_rfl)
def qbP_b13:Code:=(zaag (zaae Tryz.f54) 2)
def qbP_lp13:Lift.Loop U:=lpG ⟨⟨[1,3,48,49,50],[1,3],[]⟩,[.ptr 1 0,.ptr 3 0,.t (.slc (.st 51)),.t (.int .i64),.t (.int .i64)],[.blk 26 [.t (.slc (.st 48)),.t (.slc .str),.t (.slc (.st 51))],.blk 4 [.t .bool]]⟩ [⟨.exit 4,⟨⟨[1,3],[1,3],[]⟩,[.ptr 1 0,.ptr 3 0],[.blk 26 [.t (.slc (.st 48)),.t (.slc .str),.t (.slc (.st 51))],.blk 4 [.t .bool]]⟩⟩] [.slc (.st 51),.int .i64,.int .i64,.slc (.st 48),.slc .str,.slc (.st 51),.bool] [[.slc (.st 48),.slc .str,.slc (.st 51),.bool]] qbP_l13
theorem qbP_ok13:LoopR kk env0 Tryz.f54.ntmps qbP_b13 qbP_lp13:=
  loopG qbP_i13 qbP_t13 (ko known35) (L:=jnL) (zaab (bs:=[]) (by kernel_rfl) trivial) (by kernel_rfl) (fun _=>by kernel_rfl) (zaaa _) (fun _=>by kernel_rfl)
def qbP_L:Nat→Option (Lift.Loop U):=fun n=>bif Nat.beq n zaak then some zaaj else bif Nat.beq n 3 then some qbP_lp3 else bif Nat.beq n 8 then some qbP_lp8 else bif Nat.beq n 13 then some qbP_lp13 else none
def qbP_md:Mode U:=mdG ⟨⟨[0],[],[]⟩,[.t (.st 26)],[]⟩ [] [⟨⟨[0],[],[]⟩,[.t .bool],[]⟩] [.st 26] [[.bool]] qbP
theorem qbP_post:zaad kk env0 54 qbP_md:=
  fnG (fn:=Tryz.f54) (ko known35) (by kernel_rfl) (L:=qbP_L) (zaab (bs:=[qbP_b3,qbP_b8,qbP_b13]) (by kernel_rfl) ⟨.inr ⟨_,by kernel_rfl,zaai.of_round (qbP_ok3)⟩,.inr ⟨_,by kernel_rfl,zaai.of_round (qbP_ok8)⟩,.inr ⟨_,by kernel_rfl,zaai.of_round (qbP_ok13)⟩,trivial⟩) (zaaa _) (by kernel_rfl)
def ms36:List (FuncId×Mode U):=(54,qbP_md)::ms35
theorem known36:Known kk env0 (zaac ms36):=known_cons (by kernel_rfl) qbP_post known35
def qbL_md:Mode U:=mdG ⟨⟨[0,1,2],[100000],[]⟩,[.t (.st 62),.t (.int .i64),.ptr 100000 0],[.blk 3 [.t (.int .i64)]]⟩ [⟨100000,.slot 2,[]⟩] [⟨⟨[],[100000],[]⟩,[],[.blk 3 [.t (.int .i64)]]⟩] [.st 62,.int .i64,.int .i64] [[.int .i64]] qbL
theorem qbL_post:zaad kk env0 79 qbL_md:=
  fnG (fn:=Tryz.f79) (ko known36) (by kernel_rfl) (L:=jnL) (zaab (bs:=[]) (by kernel_rfl) trivial) (zaaa _) (by kernel_rfl)
def ms37:List (FuncId×Mode U):=(79,qbL_md)::ms36
theorem known37:Known kk env0 (zaac ms37):=known_cons (by kernel_rfl) qbL_post known36
def qbM_md:Mode U:=mdG ⟨⟨[0,1,2],[100000],[]⟩,[.t (.st 60),.t (.int .i64),.ptr 100000 0],[.blk 3 [.t (.int .i64)]]⟩ [⟨100000,.slot 2,[]⟩] [⟨⟨[],[100000],[]⟩,[],[.blk 3 [.t (.int .i64)]]⟩] [.st 60,.int .i64,.int .i64] [[.int .i64]] qbM
theorem qbM_post:zaad kk env0 80 qbM_md:=
  fnG (fn:=Tryz.f80) (ko known37) (by kernel_rfl) (L:=jnL) (zaab (bs:=[]) (by kernel_rfl) trivial) (zaaa _) (by kernel_rfl)
def ms38:List (FuncId×Mode U):=(80,qbM_md)::ms37
theorem known38:Known kk env0 (zaac ms38):=known_cons (by kernel_rfl) qbM_post known37
abbrev qad_tr:Type:=curT U (sumT U [[.int .i64]]) [.st 60,.int .i64,.int .i64]
def qad_rmd (rec_qad:qad_tr):Mode U:=mdG ⟨⟨[0,1,2],[100000],[]⟩,[.agg [.clo 79 [.ptr 100000 0],.clo 80 [.ptr 100000 0]],.t (.st 60),.t (.int .i64)],[.blk 3 [.t (.int .i64)]]⟩ [⟨100000,.slot 0,[0,0]⟩] [⟨⟨[],[100000],[]⟩,[],[.blk 3 [.t (.int .i64)]]⟩] [.st 60,.int .i64,.int .i64] [[.int .i64]] rec_qad
abbrev qad_rec (r:qad_tr):Prop:=zaad kk env0 105 (qad_rmd r)
def ms39 (rec_qad:qad_tr):List (FuncId×Mode U):=(105,(qad_rmd rec_qad))::ms38
theorem known39 (rec_qad:qad_tr) (hrec_qad:qad_rec rec_qad):Known kk env0 (zaac (ms39 rec_qad)):=known_cons (by kernel_rfl) hrec_qad known38
def qad_b3:Code:=(zaag (zaae Tryz.f105) 0)
def qad_lp3 (rec_qad:qad_tr):Lift.Loop U:=lpG ⟨⟨[2,3,14,15,16],[100000,3],[]⟩,[.t (.int .i64),.ptr 3 0,.t (.slc (.st 60)),.t (.int .i64),.t (.int .i64)],[.blk 3 [.t (.int .i64)],.blk 122 [.clo 79 [.ptr 100000 0],.clo 80 [.ptr 100000 0]]]⟩ [⟨.exit 0,⟨⟨[],[100000],[]⟩,[],[.blk 3 [.t (.int .i64)]]⟩⟩] [.int .i64,.slc (.st 60),.int .i64,.int .i64,.int .i64] [[.int .i64]] (qad_l3 rec_qad)
theorem qad_ok3 (rec_qad:qad_tr) (hrec_qad:qad_rec rec_qad):LoopR kk env0 Tryz.f105.ntmps qad_b3 (qad_lp3 rec_qad):=
  loopG (qad_i3 rec_qad) (qad_t3 rec_qad) (ko (known39 rec_qad hrec_qad)) (L:=jnL) (zaab (bs:=[]) (by kernel_rfl) trivial) (by kernel_rfl) (fun _=>by kernel_rfl) (zaaa _) (fun _=>by kernel_rfl)
def qad_L (rec_qad:qad_tr):Nat→Option (Lift.Loop U):=fun n=>bif Nat.beq n zaak then some zaaj else bif Nat.beq n 3 then some (qad_lp3 rec_qad) else none
def qad_md:Mode U:=qad_rmd qad
theorem qad_step (rec_qad:qad_tr) (hrec_qad:qad_rec rec_qad):zaao (Kit.withModes kk (zaac (ms39 rec_qad))) env0 Tryz.f105.ntmps (qad_L rec_qad) (zaae Tryz.f105):=zaab (bs:=[qad_b3]) (by kernel_rfl) ⟨.inr ⟨_,by kernel_rfl,zaai.of_round (qad_ok3 rec_qad hrec_qad)⟩,trivial⟩
theorem qad_post:zaad kk env0 105 (qad_rmd qad):=
  recG qad_i qad_f (by kernel_rfl) (fun _=>by kernel_rfl) (zaaa _) fun r ih=>fnG (fn:=Tryz.f105) (ko (known39 r ih)) (by kernel_rfl) (qad_step r ih) rfl (by kernel_rfl)
def ms40:List (FuncId×Mode U):=(105,qad_md)::ms38
theorem known40:Known kk env0 (zaac ms40):=known_cons (by kernel_rfl) qad_post known38
abbrev qaj_tr:Type:=curT U (sumT U [[.int .i64]]) [.slc (.st 62),.int .i64,.int .i64]
def qaj_rmd (rec_qaj:qaj_tr):Mode U:=mdG ⟨⟨[0,1,2],[100000],[]⟩,[.agg [.clo 79 [.ptr 100000 0],.clo 80 [.ptr 100000 0]],.t (.slc (.st 62)),.t (.int .i64)],[.blk 3 [.t (.int .i64)]]⟩ [⟨100000,.slot 0,[0,0]⟩] [⟨⟨[],[100000],[]⟩,[],[.blk 3 [.t (.int .i64)]]⟩] [.slc (.st 62),.int .i64,.int .i64] [[.int .i64]] rec_qaj
abbrev qaj_rec (r:qaj_tr):Prop:=zaad kk env0 97 (qaj_rmd r)
def ms41 (rec_qaj:qaj_tr):List (FuncId×Mode U):=(97,(qaj_rmd rec_qaj))::ms40
theorem known41 (rec_qaj:qaj_tr) (hrec_qaj:qaj_rec rec_qaj):Known kk env0 (zaac (ms41 rec_qaj)):=known_cons (by kernel_rfl) hrec_qaj known40
def qaj_b2:Code:=(zaag (zaae Tryz.f97) 0)
def qaj_lp2 (rec_qaj:qaj_tr):Lift.Loop U:=lpG ⟨⟨[2,3,8,9,10],[100000,3],[]⟩,[.t (.int .i64),.ptr 3 0,.t (.slc (.st 62)),.t (.int .i64),.t (.int .i64)],[.blk 3 [.t (.int .i64)],.blk 122 [.clo 79 [.ptr 100000 0],.clo 80 [.ptr 100000 0]]]⟩ [⟨.exit 0,⟨⟨[],[100000],[]⟩,[],[.blk 3 [.t (.int .i64)]]⟩⟩] [.int .i64,.slc (.st 62),.int .i64,.int .i64,.int .i64] [[.int .i64]] (qaj_l2 rec_qaj)
theorem qaj_ok2 (rec_qaj:qaj_tr) (hrec_qaj:qaj_rec rec_qaj):LoopR kk env0 Tryz.f97.ntmps qaj_b2 (qaj_lp2 rec_qaj):=
  loopG (qaj_i2 rec_qaj) (qaj_t2 rec_qaj) (ko (known41 rec_qaj hrec_qaj)) (L:=jnL) (zaab (bs:=[]) (by kernel_rfl) trivial) (by kernel_rfl) (fun _=>by kernel_rfl) (zaaa _) (fun _=>by kernel_rfl)
def qaj_L (rec_qaj:qaj_tr):Nat→Option (Lift.Loop U):=fun n=>bif Nat.beq n zaak then some zaaj else bif Nat.beq n 2 then some (qaj_lp2 rec_qaj) else none
def qaj_md:Mode U:=qaj_rmd qaj
theorem qaj_step (rec_qaj:qaj_tr) (hrec_qaj:qaj_rec rec_qaj):zaao (Kit.withModes kk (zaac (ms41 rec_qaj))) env0 Tryz.f97.ntmps (qaj_L rec_qaj) (zaae Tryz.f97):=zaab (bs:=[qaj_b2]) (by kernel_rfl) ⟨.inr ⟨_,by kernel_rfl,zaai.of_round (qaj_ok2 rec_qaj hrec_qaj)⟩,trivial⟩
theorem qaj_post:zaad kk env0 97 (qaj_rmd qaj):=
  recG qaj_i qaj_f (by kernel_rfl) (fun _=>by kernel_rfl) (zaaa _) fun r ih=>fnG (fn:=Tryz.f97) (ko (known41 r ih)) (by kernel_rfl) (qaj_step r ih) rfl (by kernel_rfl)
def ms42:List (FuncId×Mode U):=(97,qaj_md)::ms40
theorem known42:Known kk env0 (zaac ms42):=known_cons (by kernel_rfl) qaj_post known40
def qag_b2:Code:=(zaag (zaae Tryz.f78) 0)
def qag_lp2:Lift.Loop U:=lpG ⟨⟨[2,7,8,9],[100000,2],[]⟩,[.ptr 2 0,.t (.slc (.st 51)),.t (.int .i64),.t (.int .i64)],[.blk 3 [.t (.int .i64)],.blk 122 [.clo 79 [.ptr 100000 0],.clo 80 [.ptr 100000 0]]]⟩ [⟨.exit 0,⟨⟨[],[100000],[]⟩,[],[.blk 3 [.t (.int .i64)]]⟩⟩] [.slc (.st 51),.int .i64,.int .i64,.int .i64] [[.int .i64]] qag_l2
theorem qag_ok2:LoopR kk env0 Tryz.f78.ntmps qag_b2 qag_lp2:=
  loopG qag_i2 qag_t2 (ko known42) (L:=jnL) (zaab (bs:=[]) (by kernel_rfl) trivial) (by kernel_rfl) (fun _=>by kernel_rfl) (zaaa _) (fun _=>by kernel_rfl)
def qag_L:Nat→Option (Lift.Loop U):=fun n=>bif Nat.beq n zaak then some zaaj else bif Nat.beq n 2 then some qag_lp2 else none
def qag_md:Mode U:=mdG ⟨⟨[0,1],[100000],[]⟩,[.agg [.clo 79 [.ptr 100000 0],.clo 80 [.ptr 100000 0]],.t (.st 26)],[.blk 3 [.t (.int .i64)]]⟩ [⟨100000,.slot 0,[0,0]⟩] [⟨⟨[],[100000],[]⟩,[],[.blk 3 [.t (.int .i64)]]⟩] [.st 26,.int .i64] [[.int .i64]] qag
theorem qag_post:zaad kk env0 78 qag_md:=
  fnG (fn:=Tryz.f78) (ko known42) (by kernel_rfl) (L:=qag_L) (zaab (bs:=[qag_b2]) (by kernel_rfl) ⟨.inr ⟨_,by kernel_rfl,zaai.of_round (qag_ok2)⟩,trivial⟩) (zaaa _) (by kernel_rfl)
def ms43:List (FuncId×Mode U):=(78,qag_md)::ms42
theorem known43:Known kk env0 (zaac ms43):=known_cons (by kernel_rfl) qag_post known42
def qbK_md:Mode U:=mdG ⟨⟨[0],[],[]⟩,[.t (.st 26)],[]⟩ [] [⟨⟨[0],[],[]⟩,[.t (.int .i64)],[]⟩] [.st 26] [[.int .i64]] qbK
theorem qbK_post:zaad kk env0 55 qbK_md:=
  fnG (fn:=Tryz.f55) (ko known43) (by kernel_rfl) (L:=jnL) (zaab (bs:=[]) (by kernel_rfl) trivial) (zaaa _) (by kernel_rfl)
def ms44:List (FuncId×Mode U):=(55,qbK_md)::ms43
theorem known44:Known kk env0 (zaac ms44):=known_cons (by kernel_rfl) qbK_post known43
def qbI_md:Mode U:=mdG ⟨⟨[0,1,2],[100000],[]⟩,[.t (.st 62),.t (.int .i64),.ptr 100000 0],[.blk 3 [.t (.int .i64)]]⟩ [⟨100000,.slot 2,[]⟩] [⟨⟨[],[100000],[]⟩,[],[.blk 3 [.t (.int .i64)]]⟩] [.st 62,.int .i64,.int .i64] [[.int .i64]] qbI
theorem qbI_post:zaad kk env0 81 qbI_md:=
  fnG (fn:=Tryz.f81) (ko known44) (by kernel_rfl) (L:=jnL) (zaab (bs:=[]) (by kernel_rfl) trivial) (zaaa _) (by kernel_rfl)
def ms45:List (FuncId×Mode U):=(81,qbI_md)::ms44
theorem known45:Known kk env0 (zaac ms45):=known_cons (by kernel_rfl) qbI_post known44
def qbJ_md:Mode U:=mdG ⟨⟨[0,1,2],[100000],[]⟩,[.t (.st 60),.t (.int .i64),.ptr 100000 0],[.blk 3 [.t (.int .i64)]]⟩ [⟨100000,.slot 2,[]⟩] [⟨⟨[],[100000],[]⟩,[],[.blk 3 [.t (.int .i64)]]⟩] [.st 60,.int .i64,.int .i64] [[.int .i64]] qbJ
theorem qbJ_post:zaad kk env0 82 qbJ_md:=
  fnG (fn:=Tryz.f82) (ko known45) (by kernel_rfl) (L:=jnL) (zaab (bs:=[]) (by kernel_rfl) trivial) (zaaa _) (by kernel_rfl)
def ms46:List (FuncId×Mode U):=(82,qbJ_md)::ms45
theorem known46:Known kk env0 (zaac ms46):=known_cons (by kernel_rfl) qbJ_post known45
abbrev qae_tr:Type:=curT U (sumT U [[.int .i64]]) [.st 60,.int .i64,.int .i64]
def qae_rmd (rec_qae:qae_tr):Mode U:=mdG ⟨⟨[0,1,2],[100000],[]⟩,[.agg [.clo 81 [.ptr 100000 0],.clo 82 [.ptr 100000 0]],.t (.st 60),.t (.int .i64)],[.blk 3 [.t (.int .i64)]]⟩ [⟨100000,.slot 0,[0,0]⟩] [⟨⟨[],[100000],[]⟩,[],[.blk 3 [.t (.int .i64)]]⟩] [.st 60,.int .i64,.int .i64] [[.int .i64]] rec_qae
abbrev qae_rec (r:qae_tr):Prop:=zaad kk env0 105 (qae_rmd r)
def ms47 (rec_qae:qae_tr):List (FuncId×Mode U):=(105,(qae_rmd rec_qae))::ms46
theorem known47 (rec_qae:qae_tr) (hrec_qae:qae_rec rec_qae):Known kk env0 (zaac (ms47 rec_qae)):=known_cons (by kernel_rfl) hrec_qae known46
def qae_b3:Code:=(zaag (zaae Tryz.f105) 0)
def qae_lp3 (rec_qae:qae_tr):Lift.Loop U:=lpG ⟨⟨[2,3,14,15,16],[100000,3],[]⟩,[.t (.int .i64),.ptr 3 0,.t (.slc (.st 60)),.t (.int .i64),.t (.int .i64)],[.blk 3 [.t (.int .i64)],.blk 122 [.clo 81 [.ptr 100000 0],.clo 82 [.ptr 100000 0]]]⟩ [⟨.exit 0,⟨⟨[],[100000],[]⟩,[],[.blk 3 [.t (.int .i64)]]⟩⟩] [.int .i64,.slc (.st 60),.int .i64,.int .i64,.int .i64] [[.int .i64]] (qae_l3 rec_qae)
theorem qae_ok3 (rec_qae:qae_tr) (hrec_qae:qae_rec rec_qae):LoopR kk env0 Tryz.f105.ntmps qae_b3 (qae_lp3 rec_qae):=
  loopG (qae_i3 rec_qae) (qae_t3 rec_qae) (ko (known47 rec_qae hrec_qae)) (L:=jnL) (zaab (bs:=[]) (by kernel_rfl) trivial) (by kernel_rfl) (fun _=>by kernel_rfl) (zaaa _) (fun _=>by kernel_rfl)
def qae_L (rec_qae:qae_tr):Nat→Option (Lift.Loop U):=fun n=>bif Nat.beq n zaak then some zaaj else bif Nat.beq n 3 then some (qae_lp3 rec_qae) else none
def qae_md:Mode U:=qae_rmd qae
theorem qae_step (rec_qae:qae_tr) (hrec_qae:qae_rec rec_qae):zaao (Kit.withModes kk (zaac (ms47 rec_qae))) env0 Tryz.f105.ntmps (qae_L rec_qae) (zaae Tryz.f105):=zaab (bs:=[qae_b3]) (by kernel_rfl) ⟨.inr ⟨_,by kernel_rfl,zaai.of_round (qae_ok3 rec_qae hrec_qae)⟩,trivial⟩
theorem qae_post:zaad kk env0 105 (qae_rmd qae):=
  recG qae_i qae_f (by kernel_rfl) (fun _=>by kernel_rfl) (zaaa _) fun r ih=>fnG (fn:=Tryz.f105) (ko (known47 r ih)) (by kernel_rfl) (qae_step r ih) rfl (by kernel_rfl)
def ms48:List (FuncId×Mode U):=(105,qae_md)::ms46
theorem known48:Known kk env0 (zaac ms48):=known_cons (by kernel_rfl) qae_post known46
abbrev qak_tr:Type:=curT U (sumT U [[.int .i64]]) [.slc (.st 62),.int .i64,.int .i64]
def qak_rmd (rec_qak:qak_tr):Mode U:=mdG ⟨⟨[0,1,2],[100000],[]⟩,[.agg [.clo 81 [.ptr 100000 0],.clo 82 [.ptr 100000 0]],.t (.slc (.st 62)),.t (.int .i64)],[.blk 3 [.t (.int .i64)]]⟩ [⟨100000,.slot 0,[0,0]⟩] [⟨⟨[],[100000],[]⟩,[],[.blk 3 [.t (.int .i64)]]⟩] [.slc (.st 62),.int .i64,.int .i64] [[.int .i64]] rec_qak
abbrev qak_rec (r:qak_tr):Prop:=zaad kk env0 97 (qak_rmd r)
def ms49 (rec_qak:qak_tr):List (FuncId×Mode U):=(97,(qak_rmd rec_qak))::ms48
theorem known49 (rec_qak:qak_tr) (hrec_qak:qak_rec rec_qak):Known kk env0 (zaac (ms49 rec_qak)):=known_cons (by kernel_rfl) hrec_qak known48
def qak_b2:Code:=(zaag (zaae Tryz.f97) 0)
def qak_lp2 (rec_qak:qak_tr):Lift.Loop U:=lpG ⟨⟨[2,3,8,9,10],[100000,3],[]⟩,[.t (.int .i64),.ptr 3 0,.t (.slc (.st 62)),.t (.int .i64),.t (.int .i64)],[.blk 3 [.t (.int .i64)],.blk 122 [.clo 81 [.ptr 100000 0],.clo 82 [.ptr 100000 0]]]⟩ [⟨.exit 0,⟨⟨[],[100000],[]⟩,[],[.blk 3 [.t (.int .i64)]]⟩⟩] [.int .i64,.slc (.st 62),.int .i64,.int .i64,.int .i64] [[.int .i64]] (qak_l2 rec_qak)
theorem qak_ok2 (rec_qak:qak_tr) (hrec_qak:qak_rec rec_qak):LoopR kk env0 Tryz.f97.ntmps qak_b2 (qak_lp2 rec_qak):=
  loopG (qak_i2 rec_qak) (qak_t2 rec_qak) (ko (known49 rec_qak hrec_qak)) (L:=jnL) (zaab (bs:=[]) (by kernel_rfl) trivial) (by kernel_rfl) (fun _=>by kernel_rfl) (zaaa _) (fun _=>by kernel_rfl)
def qak_L (rec_qak:qak_tr):Nat→Option (Lift.Loop U):=fun n=>bif Nat.beq n zaak then some zaaj else bif Nat.beq n 2 then some (qak_lp2 rec_qak) else none
def qak_md:Mode U:=qak_rmd qak
theorem qak_step (rec_qak:qak_tr) (hrec_qak:qak_rec rec_qak):zaao (Kit.withModes kk (zaac (ms49 rec_qak))) env0 Tryz.f97.ntmps (qak_L rec_qak) (zaae Tryz.f97):=zaab (bs:=[qak_b2]) (by kernel_rfl) ⟨.inr ⟨_,by kernel_rfl,zaai.of_round (qak_ok2 rec_qak hrec_qak)⟩,trivial⟩
theorem qak_post:zaad kk env0 97 (qak_rmd qak):=
  recG qak_i qak_f (by kernel_rfl) (fun _=>by kernel_rfl) (zaaa _) fun r ih=>fnG (fn:=Tryz.f97) (ko (known49 r ih)) (by kernel_rfl) (qak_step r ih) rfl (by kernel_rfl)
def ms50:List (FuncId×Mode U):=(97,qak_md)::ms48
theorem known50:Known kk env0 (zaac ms50):=known_cons (by kernel_rfl) qak_post known48
def qah_b2:Code:=(zaag (zaae Tryz.f78) 0)
def qah_lp2:Lift.Loop U:=lpG ⟨⟨[2,7,8,9],[100000,2],[]⟩,[.ptr 2 0,.t (.slc (.st 51)),.t (.int .i64),.t (.int .i64)],[.blk 3 [.t (.int .i64)],.blk 122 [.clo 81 [.ptr 100000 0],.clo 82 [.ptr 100000 0]]]⟩ [⟨.exit 0,⟨⟨[],[100000],[]⟩,[],[.blk 3 [.t (.int .i64)]]⟩⟩] [.slc (.st 51),.int .i64,.int .i64,.int .i64] [[.int .i64]] qah_l2
theorem qah_ok2:LoopR kk env0 Tryz.f78.ntmps qah_b2 qah_lp2:=
  loopG qah_i2 qah_t2 (ko known50) (L:=jnL) (zaab (bs:=[]) (by kernel_rfl) trivial) (by kernel_rfl) (fun _=>by kernel_rfl) (zaaa _) (fun _=>by kernel_rfl)
def qah_L:Nat→Option (Lift.Loop U):=fun n=>bif Nat.beq n zaak then some zaaj else bif Nat.beq n 2 then some qah_lp2 else none
def qah_md:Mode U:=mdG ⟨⟨[0,1],[100000],[]⟩,[.agg [.clo 81 [.ptr 100000 0],.clo 82 [.ptr 100000 0]],.t (.st 26)],[.blk 3 [.t (.int .i64)]]⟩ [⟨100000,.slot 0,[0,0]⟩] [⟨⟨[],[100000],[]⟩,[],[.blk 3 [.t (.int .i64)]]⟩] [.st 26,.int .i64] [[.int .i64]] qah
theorem qah_post:zaad kk env0 78 qah_md:=
  fnG (fn:=Tryz.f78) (ko known50) (by kernel_rfl) (L:=qah_L) (zaab (bs:=[qah_b2]) (by kernel_rfl) ⟨.inr ⟨_,by kernel_rfl,zaai.of_round (qah_ok2)⟩,trivial⟩) (zaaa _) (by kernel_rfl)
def ms51:List (FuncId×Mode U):=(78,qah_md)::ms50
theorem known51:Known kk env0 (zaac ms51):=known_cons (by kernel_rfl) qah_post known50
def qbH_md:Mode U:=mdG ⟨⟨[0],[],[]⟩,[.t (.st 26)],[]⟩ [] [⟨⟨[0],[],[]⟩,[.t (.int .i64)],[]⟩] [.st 26] [[.int .i64]] qbH
theorem qbH_post:zaad kk env0 56 qbH_md:=
  fnG (fn:=Tryz.f56) (ko known51) (by kernel_rfl) (L:=jnL) (zaab (bs:=[]) (by kernel_rfl) trivial) (zaaa _) (by kernel_rfl)
def ms52:List (FuncId×Mode U):=(56,qbH_md)::ms51
theorem known52:Known kk env0 (zaac ms52):=known_cons (by kernel_rfl) qbH_post known51
def qbN_md:Mode U:=mdG ⟨⟨[0],[],[]⟩,[.t (.st 26)],[]⟩ [] [⟨⟨[0],[],[]⟩,[.t (.int .i64)],[]⟩] [.st 26] [[.int .i64]] qbN
theorem qbN_post:zaad kk env0 27 qbN_md:=
  fnG (fn:=Tryz.f27) (ko known52) (by kernel_rfl) (L:=jnL) (zaab (bs:=[]) (by kernel_rfl) trivial) (zaaa _) (by kernel_rfl)
def ms53:List (FuncId×Mode U):=(27,qbN_md)::ms52
theorem known53:Known kk env0 (zaac ms53):=known_cons (by kernel_rfl) qbN_post known52
def qbE_md:Mode U:=mdG ⟨⟨[0],[],[]⟩,[.t (.slc .str)],[]⟩ [] [⟨⟨[0],[],[⟨.slot 0,100050,9,.str⟩]⟩,[.oslc 100050],[.row 9 .str]⟩] [.slc .str] [[.slc .str]] qbE
theorem qbE_post:zaad kk env0 30 qbE_md:=
  fnG (fn:=Tryz.f30) (ko known53) (by kernel_rfl) (L:=jnL) (zaab (bs:=[]) (by kernel_rfl) trivial) (zaaa _) (by kernel_rfl)
def ms54:List (FuncId×Mode U):=(30,qbE_md)::ms53
theorem known54:Known kk env0 (zaac ms54):=known_cons (by kernel_rfl) qbE_post known53
def qbD_md:Mode U:=mdG ⟨⟨[0],[],[⟨.slot 0,0,9,.str⟩]⟩,[.oslc 0],[.row 9 .str]⟩ [] [⟨⟨[0],[],[⟨.slot 0,100050,9,.str⟩]⟩,[.oslc 100050],[.row 9 .str]⟩] [.slc .str] [[.slc .str]] qbD
theorem qbD_post:zaad kk env0 29 qbD_md:=
  fnG (fn:=Tryz.f29) (ko known54) (by kernel_rfl) (L:=jnL) (zaab (bs:=[]) (by kernel_rfl) trivial) (zaaa _) (by kernel_rfl)
def ms55:List (FuncId×Mode U):=(29,qbD_md)::ms54
theorem known55:Known kk env0 (zaac ms55):=known_cons (by kernel_rfl) qbD_post known54
def qar_md:Mode U:=mdG ⟨⟨[0,1,2],[],[]⟩,[.t (.slc .str),.t (.int .i64),.t (.int .i64)],[]⟩ [] [⟨⟨[],[],[]⟩,[],[]⟩,⟨⟨[777777],[],[]⟩,[.ifc 75 (.t (.st 75))],[]⟩] [.slc .str,.int .i64,.int .i64] [[],[.st 75]] qar
theorem qar_post:zaad kk env0 57 qar_md:=
  fnG (fn:=Tryz.f57) (ko known55) (by kernel_rfl) (L:=jnL) (zaab (bs:=[]) (by kernel_rfl) trivial) (zaaa _) (by kernel_rfl)
def ms56:List (FuncId×Mode U):=(57,qar_md)::ms55
theorem known56:Known kk env0 (zaac ms56):=known_cons (by kernel_rfl) qar_post known55
def qaq_b11:Code:=(zaag (zaag (zaae Tryz.f31) 0) 0)
def qaq_lp11:Lift.Loop U:=lpG ⟨⟨[0,5,35,36,37,42,43,44],[100000,100001],[⟨.slot 35,35,23,(.slc .str)⟩,⟨.cell 100000 1,200001,9,.str⟩]⟩,[.ptr 100000 0,.t (.int .i64),.oslc 35,.t (.int .i64),.t (.int .i64),.t (.slc .str),.t (.int .i64),.t (.int .i64)],[.blk 81 [.ptr 100001 0,.oslc 200001],.mp .str (.st 103),.row 23 (.slc .str),.row 9 .str]⟩ [⟨.pan,⟨⟨[777777],[],[]⟩,[.ifc 75 (.t (.st 75))],[]⟩⟩,⟨.exit 2,⟨⟨[0,35,36,37],[100000,100001],[⟨.slot 35,35,23,(.slc .str)⟩,⟨.cell 100000 1,200001,9,.str⟩]⟩,[.ptr 100000 0,.oslc 35,.t (.int .i64),.t (.int .i64)],[.blk 81 [.ptr 100001 0,.oslc 200001],.mp .str (.st 103),.row 23 (.slc .str),.row 9 .str]⟩⟩] [.int .i64,.int .i64,.int .i64,.slc .str,.int .i64,.int .i64,.map .str (.st 103),.slc (.slc .str),.slc .str] [[.st 75],[.int .i64,.int .i64,.map .str (.st 103),.slc (.slc .str),.slc .str]] qaq_l11
theorem qaq_ok11:LoopR kk env0 Tryz.f31.ntmps qaq_b11 qaq_lp11:=
  loopG qaq_i11 qaq_t11 (ko known56) (L:=jnL) (zaab (bs:=[]) (by kernel_rfl) trivial) (by kernel_rfl) (fun _=>by kernel_rfl) (zaaa _) (fun _=>by kernel_rfl)
def qaq_b8:Code:=(zaag (zaae Tryz.f31) 0)
def qaq_L8:Nat→Option (Lift.Loop U):=fun n=>bif Nat.beq n zaak then some zaaj else bif Nat.beq n 11 then some qaq_lp11 else none
def qaq_lp8:Lift.Loop U:=lpG ⟨⟨[0,35,36,37],[100000,100001],[⟨.slot 35,35,23,(.slc .str)⟩,⟨.cell 100000 1,200001,9,.str⟩]⟩,[.ptr 100000 0,.oslc 35,.t (.int .i64),.t (.int .i64)],[.blk 81 [.ptr 100001 0,.oslc 200001],.mp .str (.st 103),.row 23 (.slc .str),.row 9 .str]⟩ [⟨.pan,⟨⟨[777777],[],[]⟩,[.ifc 75 (.t (.st 75))],[]⟩⟩,⟨.exit 0,⟨⟨[],[100000,100001],[⟨.cell 100000 1,200001,9,.str⟩]⟩,[],[.blk 81 [.ptr 100001 0,.oslc 200001],.mp .str (.st 103),.row 9 .str]⟩⟩] [.int .i64,.int .i64,.map .str (.st 103),.slc (.slc .str),.slc .str] [[.st 75],[.map .str (.st 103),.slc .str]] qaq_l8
theorem qaq_ok8:LoopR kk env0 Tryz.f31.ntmps qaq_b8 qaq_lp8:=
  loopG qaq_i8 qaq_t8 (ko known56) (L:=qaq_L8) (zaab (bs:=[qaq_b11]) (by kernel_rfl) ⟨.inr ⟨_,by kernel_rfl,zaai.of_round (qaq_ok11)⟩,trivial⟩) (by kernel_rfl) (fun _=>by kernel_rfl) (zaaa _) (fun _=>by kernel_rfl)
def qaq_L:Nat→Option (Lift.Loop U):=fun n=>bif Nat.beq n zaak then some zaaj else bif Nat.beq n 8 then some qaq_lp8 else none
def qaq_md:Mode U:=mdG ⟨⟨[0,1],[100000,100001],[⟨.cell 100000 1,200001,9,.str⟩]⟩,[.ptr 100000 0,.t (.st 35)],[.blk 81 [.ptr 100001 0,.oslc 200001],.mp .str (.st 103),.row 9 .str]⟩ [⟨100000,.slot 0,[]⟩,⟨100001,.cell 100000 0,[]⟩] [⟨⟨[],[100000,100001],[⟨.cell 100000 1,200001,9,.str⟩]⟩,[],[.blk 81 [.ptr 100001 0,.oslc 200001],.mp .str (.st 103),.row 9 .str]⟩,⟨⟨[777777],[],[]⟩,[.ifc 75 (.t (.st 75))],[]⟩] [.st 35,.map .str (.st 103),.slc .str] [[.map .str (.st 103),.slc .str],[.st 75]] qaq
theorem qaq_post:zaad kk env0 31 qaq_md:=
  fnG (fn:=Tryz.f31) (ko known56) (by kernel_rfl) (L:=qaq_L) (zaab (bs:=[qaq_b8]) (by kernel_rfl) ⟨.inr ⟨_,by kernel_rfl,zaai.of_round (qaq_ok8)⟩,trivial⟩) (zaaa _) (by kernel_rfl)
def ms57:List (FuncId×Mode U):=(31,qaq_md)::ms56
theorem known57:Known kk env0 (zaac ms57):=known_cons (by kernel_rfl) qaq_post known56
def qas_md:Mode U:=mdG ⟨⟨[0,1],[100000,100001],[⟨.cell 100000 1,200001,9,.str⟩]⟩,[.ptr 100000 0,.t .str],[.blk 81 [.ptr 100001 0,.oslc 200001],.mp .str (.st 103),.row 9 .str]⟩ [⟨100000,.slot 0,[]⟩,⟨100001,.cell 100000 0,[]⟩] [⟨⟨[0],[100000,100001],[⟨.cell 100000 1,200001,9,.str⟩]⟩,[.t (.int .i64)],[.blk 81 [.ptr 100001 0,.oslc 200001],.mp .str (.st 103),.row 9 .str]⟩,⟨⟨[777777],[],[]⟩,[.ifc 75 (.t (.st 75))],[]⟩] [.str,.map .str (.st 103),.slc .str] [[.int .i64,.map .str (.st 103),.slc .str],[.st 75]] qas
theorem qas_post:zaad kk env0 58 qas_md:=
  fnG (fn:=Tryz.f58) (ko known57) (by kernel_rfl) (L:=jnL) (zaab (bs:=[]) (by kernel_rfl) trivial) (zaaa _) (by kernel_rfl)
def ms58:List (FuncId×Mode U):=(58,qas_md)::ms57
theorem known58:Known kk env0 (zaac ms58):=known_cons (by kernel_rfl) qas_post known57
def qau_md:Mode U:=mdG ⟨⟨[0],[],[]⟩,[.t (.int .i64)],[]⟩ [] [⟨⟨[0],[],[]⟩,[.t (.int .i64)],[]⟩] [.int .i64] [[.int .i64]] qau
theorem qau_post:zaad kk env0 59 qau_md:=
  fnG (fn:=Tryz.f59) (ko known58) (by kernel_rfl) (L:=jnL) (zaab (bs:=[]) (by kernel_rfl) trivial) (zaaa _) (by kernel_rfl)
def ms59:List (FuncId×Mode U):=(59,qau_md)::ms58
theorem known59:Known kk env0 (zaac ms59):=known_cons (by kernel_rfl) qau_post known58
abbrev qap_tr:Type:=curT U (sumT U [[.int .i64,.int .i64,.str,.map .str (.st 103),.slc (.st 1060),.slc .str],[.st 75]]) [.st 60,.map .str (.st 103),.slc .str]
def qap_rmd (rec_qap:TExpr→List ((List UInt8)×(Thing))→List (List UInt8)→Option ((Int×Int×(List UInt8)×(List ((List UInt8)×(Thing)))×(List TExpr)×(List (List UInt8)))⊕(Refused))):Mode U:=mdG ⟨⟨[0,1],[100000,100001],[⟨.cell 100000 1,200001,9,.str⟩]⟩,[.ptr 100000 0,.t (.st 60)],[.blk 81 [.ptr 100001 0,.oslc 200001],.mp .str (.st 103),.row 9 .str]⟩ [⟨100000,.slot 0,[]⟩,⟨100001,.cell 100000 0,[]⟩] [⟨⟨[0],[100000,100001],[⟨.sub 0 3,100400,60,(.st 1060)⟩,⟨.cell 100000 1,200001,9,.str⟩]⟩,[.agg [.t (.int .i64),.t (.int .i64),.t .str,.oslc 100400]],[.blk 81 [.ptr 100001 0,.oslc 200001],.mp .str (.st 103),.row 60 (.st 1060),.row 9 .str]⟩,⟨⟨[777777],[],[]⟩,[.ifc 75 (.t (.st 75))],[]⟩] [.st 60,.map .str (.st 103),.slc .str] [[.int .i64,.int .i64,.str,.map .str (.st 103),.slc (.st 1060),.slc .str],[.st 75]] rec_qap
abbrev qap_rec (r:qap_tr):Prop:=zaad kk env0 60 (qap_rmd r)
def ms60 (rec_qap:TExpr→List ((List UInt8)×(Thing))→List (List UInt8)→Option ((Int×Int×(List UInt8)×(List ((List UInt8)×(Thing)))×(List TExpr)×(List (List UInt8)))⊕(Refused))):List (FuncId×Mode U):=(60,(qap_rmd rec_qap))::ms59
theorem known60 (rec_qap:TExpr→List ((List UInt8)×(Thing))→List (List UInt8)→Option ((Int×Int×(List UInt8)×(List ((List UInt8)×(Thing)))×(List TExpr)×(List (List UInt8)))⊕(Refused))) (hrec_qap:qap_rec rec_qap):Known kk env0 (zaac (ms60 rec_qap)):=known_cons (by kernel_rfl) hrec_qap known59
def qap_b5:Code:=(zaag (zaae Tryz.f60) 0)
def qap_L5 (rec_qap:TExpr→List ((List UInt8)×(Thing))→List (List UInt8)→Option ((Int×Int×(List UInt8)×(List ((List UInt8)×(Thing)))×(List TExpr)×(List (List UInt8)))⊕(Refused))):Nat→Option (Lift.Loop U):=fun n=>bif Nat.beq n zaak then some zaaj else bif Nat.beq n (zapi+7) then some (zar0 4) else none
def qap_lp5 (rec_qap:TExpr→List ((List UInt8)×(Thing))→List (List UInt8)→Option ((Int×Int×(List UInt8)×(List ((List UInt8)×(Thing)))×(List TExpr)×(List (List UInt8)))⊕(Refused))):Lift.Loop U:=lpG ⟨⟨[0,4,5,22,23,24],[100000,100001,4,5],[⟨.cell 100000 1,200001,9,.str⟩,⟨.cell 5 3,20253,60,(.st 1060)⟩]⟩,[.ptr 100000 0,.ptr 4 0,.ptr 5 0,.t (.slc (.st 60)),.t (.int .i64),.t (.int .i64)],[.blk 81 [.ptr 100001 0,.oslc 200001],.mp .str (.st 103),.blk 60 [.t (.int .i64),.t (.int .i64),.t .str,.nil],.blk 60 [.t (.int .i64),.t (.int .i64),.t .str,.oslc 20253],.row 9 .str,.row 60 (.st 1060)]⟩ [⟨.pan,⟨⟨[777777],[],[]⟩,[.ifc 75 (.t (.st 75))],[]⟩⟩,⟨.exit 0,⟨⟨[4,5],[100000,100001,4,5],[⟨.cell 100000 1,200001,9,.str⟩,⟨.cell 5 3,20253,60,(.st 1060)⟩]⟩,[.ptr 4 0,.ptr 5 0],[.blk 81 [.ptr 100001 0,.oslc 200001],.mp .str (.st 103),.blk 60 [.t (.int .i64),.t (.int .i64),.t .str,.nil],.blk 60 [.t (.int .i64),.t (.int .i64),.t .str,.oslc 20253],.row 9 .str,.row 60 (.st 1060)]⟩⟩] [.slc (.st 60),.int .i64,.int .i64,.map .str (.st 103),.int .i64,.int .i64,.str,.int .i64,.int .i64,.str,.slc .str,.slc (.st 1060)] [[.st 75],[.map .str (.st 103),.int .i64,.int .i64,.str,.int .i64,.int .i64,.str,.slc .str,.slc (.st 1060)]] (qap_l5 rec_qap)
theorem qap_ok5 (rec_qap:TExpr→List ((List UInt8)×(Thing))→List (List UInt8)→Option ((Int×Int×(List UInt8)×(List ((List UInt8)×(Thing)))×(List TExpr)×(List (List UInt8)))⊕(Refused))) (hrec_qap:qap_rec rec_qap):LoopR kk env0 Tryz.f60.ntmps qap_b5 (qap_lp5 rec_qap):=
  loopG (qap_i5 rec_qap) (qap_t5 rec_qap) (ko (known60 rec_qap hrec_qap)) (L:=(qap_L5 rec_qap)) (zaab (bs:=[]) (by kernel_rfl) trivial) (by kernel_rfl) (fun _=>by kernel_rfl) (zaaa _) (fun _=>by kernel_rfl)
def qap_L (rec_qap:TExpr→List ((List UInt8)×(Thing))→List (List UInt8)→Option ((Int×Int×(List UInt8)×(List ((List UInt8)×(Thing)))×(List TExpr)×(List (List UInt8)))⊕(Refused))):Nat→Option (Lift.Loop U):=fun n=>bif Nat.beq n zaak then some zaaj else bif Nat.beq n (zapi+7) then some (zar0 4) else bif Nat.beq n 5 then some (qap_lp5 rec_qap) else none
def qap_md:Mode U:=qap_rmd qap
theorem qap_step (rec_qap:TExpr→List ((List UInt8)×(Thing))→List (List UInt8)→Option ((Int×Int×(List UInt8)×(List ((List UInt8)×(Thing)))×(List TExpr)×(List (List UInt8)))⊕(Refused))) (hrec_qap:qap_rec rec_qap):zaao (Kit.withModes kk (zaac (ms60 rec_qap))) env0 Tryz.f60.ntmps (qap_L rec_qap) (zaae Tryz.f60):=zaab (bs:=[qap_b5]) (by kernel_rfl) ⟨.inr ⟨_,by kernel_rfl,zaai.of_round (qap_ok5 rec_qap hrec_qap)⟩,trivial⟩
theorem qap_post:zaad kk env0 60 (qap_rmd qap):=
  recG qap_i qap_f (by kernel_rfl) (fun _=>by kernel_rfl) (zaaa _) fun r ih=>fnG (fn:=Tryz.f60) (ko (known60 r ih)) (by kernel_rfl) (qap_step r ih) rfl (by kernel_rfl)
def ms61:List (FuncId×Mode U):=(60,qap_md)::ms59
theorem known61:Known kk env0 (zaac ms61):=known_cons (by kernel_rfl) qap_post known59
abbrev qao_tr:Type:=curT U (sumT U [[.map .str (.st 103),.slc (.st 1067),.slc .str],[.st 75]]) [.slc (.st 62),.map .str (.st 103),.slc .str]
def qao_rmd (rec_qao:List TStmt→List ((List UInt8)×(Thing))→List (List UInt8)→Option (((List ((List UInt8)×(Thing)))×(List TAct)×(List (List UInt8)))⊕(Refused))):Mode U:=mdG ⟨⟨[0,1],[100000,100001],[⟨.cell 100000 1,200001,9,.str⟩]⟩,[.ptr 100000 0,.t (.slc (.st 62))],[.blk 81 [.ptr 100001 0,.oslc 200001],.mp .str (.st 103),.row 9 .str]⟩ [⟨100000,.slot 0,[]⟩,⟨100001,.cell 100000 0,[]⟩] [⟨⟨[0],[100000,100001],[⟨.slot 0,100050,67,(.st 1067)⟩,⟨.cell 100000 1,200001,9,.str⟩]⟩,[.oslc 100050],[.blk 81 [.ptr 100001 0,.oslc 200001],.mp .str (.st 103),.row 67 (.st 1067),.row 9 .str]⟩,⟨⟨[777777],[],[]⟩,[.ifc 75 (.t (.st 75))],[]⟩] [.slc (.st 62),.map .str (.st 103),.slc .str] [[.map .str (.st 103),.slc (.st 1067),.slc .str],[.st 75]] rec_qao
abbrev qao_rec (r:qao_tr):Prop:=zaad kk env0 32 (qao_rmd r)
def ms62 (rec_qao:List TStmt→List ((List UInt8)×(Thing))→List (List UInt8)→Option (((List ((List UInt8)×(Thing)))×(List TAct)×(List (List UInt8)))⊕(Refused))):List (FuncId×Mode U):=(32,(qao_rmd rec_qao))::ms61
theorem known62 (rec_qao:List TStmt→List ((List UInt8)×(Thing))→List (List UInt8)→Option (((List ((List UInt8)×(Thing)))×(List TAct)×(List (List UInt8)))⊕(Refused))) (hrec_qao:qao_rec rec_qao):Known kk env0 (zaac (ms62 rec_qao)):=known_cons (by kernel_rfl) hrec_qao known61
def qao_b3:Code:=(zaag (zaae Tryz.f32) 0)
def qao_lp3 (rec_qao:List TStmt→List ((List UInt8)×(Thing))→List (List UInt8)→Option (((List ((List UInt8)×(Thing)))×(List TAct)×(List (List UInt8)))⊕(Refused))):Lift.Loop U:=lpG ⟨⟨[0,5,12,13,14],[100000,100001],[⟨.cell 100000 1,200001,9,.str⟩,⟨.slot 5,5,67,(.st 1067)⟩]⟩,[.ptr 100000 0,.oslc 5,.t (.slc (.st 62)),.t (.int .i64),.t (.int .i64)],[.blk 81 [.ptr 100001 0,.oslc 200001],.mp .str (.st 103),.row 9 .str,.row 67 (.st 1067)]⟩ [⟨.pan,⟨⟨[777777],[],[]⟩,[.ifc 75 (.t (.st 75))],[]⟩⟩,⟨.exit 0,⟨⟨[5],[100000,100001],[⟨.slot 5,5,67,(.st 1067)⟩,⟨.cell 100000 1,200001,9,.str⟩]⟩,[.oslc 5],[.blk 81 [.ptr 100001 0,.oslc 200001],.mp .str (.st 103),.row 67 (.st 1067),.row 9 .str]⟩⟩] [.slc (.st 62),.int .i64,.int .i64,.map .str (.st 103),.slc .str,.slc (.st 1067)] [[.st 75],[.map .str (.st 103),.slc (.st 1067),.slc .str]] (qao_l3 rec_qao)
theorem qao_ok3 (rec_qao:List TStmt→List ((List UInt8)×(Thing))→List (List UInt8)→Option (((List ((List UInt8)×(Thing)))×(List TAct)×(List (List UInt8)))⊕(Refused))) (hrec_qao:qao_rec rec_qao):LoopR kk env0 Tryz.f32.ntmps qao_b3 (qao_lp3 rec_qao):=
  loopG (qao_i3 rec_qao) (qao_t3 rec_qao) (ko (known62 rec_qao hrec_qao)) (L:=jnL) (zaab (bs:=[]) (by kernel_rfl) trivial) (by kernel_rfl) (fun _=>by kernel_rfl) (zaaa _) (fun _=>by kernel_rfl)
def qao_L (rec_qao:List TStmt→List ((List UInt8)×(Thing))→List (List UInt8)→Option (((List ((List UInt8)×(Thing)))×(List TAct)×(List (List UInt8)))⊕(Refused))):Nat→Option (Lift.Loop U):=fun n=>bif Nat.beq n zaak then some zaaj else bif Nat.beq n 3 then some (qao_lp3 rec_qao) else none
def qao_md:Mode U:=qao_rmd qao
theorem qao_step (rec_qao:List TStmt→List ((List UInt8)×(Thing))→List (List UInt8)→Option (((List ((List UInt8)×(Thing)))×(List TAct)×(List (List UInt8)))⊕(Refused))) (hrec_qao:qao_rec rec_qao):zaao (Kit.withModes kk (zaac (ms62 rec_qao))) env0 Tryz.f32.ntmps (qao_L rec_qao) (zaae Tryz.f32):=zaab (bs:=[qao_b3]) (by kernel_rfl) ⟨.inr ⟨_,by kernel_rfl,zaai.of_round (qao_ok3 rec_qao hrec_qao)⟩,trivial⟩
theorem qao_post:zaad kk env0 32 (qao_rmd qao):=
  recG qao_i qao_f (by kernel_rfl) (fun _=>by kernel_rfl) (zaaa _) fun r ih=>fnG (fn:=Tryz.f32) (ko (known62 r ih)) (by kernel_rfl) (qao_step r ih) rfl (by kernel_rfl)
def ms63:List (FuncId×Mode U):=(32,qao_md)::ms61
theorem known63:Known kk env0 (zaac ms63):=known_cons (by kernel_rfl) qao_post known61
def qal_b6:Code:=(zaag (zaae Tryz.f11) 0)
def qal_lp6:Lift.Loop U:=lpG ⟨⟨[1,2,3,4,5,24,25,26],[1,170000,170001,170002,170003],[⟨.cell 170000 0,7200000,3,(.int .i64)⟩,⟨.cell 170001 0,7200100,9,.str⟩]⟩,[.ptr 1 0,.ptr 170000 0,.ptr 170001 0,.ptr 170002 0,.ptr 170003 0,.t (.slc (.st 48)),.t (.int .i64),.t (.int .i64)],[.blk 26 [.t (.slc (.st 48)),.t (.slc .str),.t (.slc (.st 51))],.blk 32 [.oslc 7200000,.t (.int .i64),.nil],.blk 35 [.oslc 7200100,.nil,.nil,.nil],.blk 36 [.t (.int .i64)],.blk 9 [.t .str],.row 3 (.int .i64),.row 9 .str]⟩ [⟨.exit 0,⟨⟨[1,2,3,4,5],[1,170000,170001,170002,170003],[⟨.cell 170000 0,7200000,3,(.int .i64)⟩,⟨.cell 170001 0,7200100,9,.str⟩]⟩,[.ptr 1 0,.ptr 170000 0,.ptr 170001 0,.ptr 170002 0,.ptr 170003 0],[.blk 26 [.t (.slc (.st 48)),.t (.slc .str),.t (.slc (.st 51))],.blk 32 [.oslc 7200000,.t (.int .i64),.nil],.blk 35 [.oslc 7200100,.nil,.nil,.nil],.blk 36 [.t (.int .i64)],.blk 9 [.t .str],.row 3 (.int .i64),.row 9 .str]⟩⟩] [.slc (.st 48),.int .i64,.int .i64,.slc (.st 48),.slc .str,.slc (.st 51),.int .i64,.int .i64,.str,.slc (.int .i64),.slc .str] [[.slc (.st 48),.slc .str,.slc (.st 51),.int .i64,.int .i64,.str,.slc (.int .i64),.slc .str]] qal_l6
theorem qal_ok6:LoopR kk env0 Tryz.f11.ntmps qal_b6 qal_lp6:=
  loopG qal_i6 qal_t6 (ko known63) (L:=jnL) (zaab (bs:=[]) (by kernel_rfl) trivial) (by kernel_rfl) (fun _=>by kernel_rfl) (zaaa _) (fun _=>by kernel_rfl)
def qal_b14:Code:=(zaag (zaae Tryz.f11) 1)
def qal_lp14:Lift.Loop U:=lpG ⟨⟨[1,2,3,4,5,55,56,57],[1,170000,170001,170002,170003],[⟨.cell 170000 0,7200000,3,(.int .i64)⟩,⟨.cell 170001 0,7200100,9,.str⟩,⟨.cell 170001 1,7200101,9,.str⟩,⟨.cell 170001 2,7200102,9,.str⟩]⟩,[.ptr 1 0,.ptr 170000 0,.ptr 170001 0,.ptr 170002 0,.ptr 170003 0,.t (.slc (.st 51)),.t (.int .i64),.t (.int .i64)],[.blk 26 [.t (.slc (.st 48)),.t (.slc .str),.t (.slc (.st 51))],.blk 32 [.oslc 7200000,.t (.int .i64),.nil],.blk 35 [.oslc 7200100,.oslc 7200101,.oslc 7200102,.nil],.blk 36 [.t (.int .i64)],.blk 9 [.t .str],.row 3 (.int .i64),.row 9 .str,.row 9 .str,.row 9 .str]⟩ [⟨.exit 2,⟨⟨[1,2,3,4,5],[1,170000,170001,170002,170003],[⟨.cell 170000 0,7200000,3,(.int .i64)⟩,⟨.cell 170001 0,7200100,9,.str⟩,⟨.cell 170001 1,7200101,9,.str⟩,⟨.cell 170001 2,7200102,9,.str⟩]⟩,[.ptr 1 0,.ptr 170000 0,.ptr 170001 0,.ptr 170002 0,.ptr 170003 0],[.blk 26 [.t (.slc (.st 48)),.t (.slc .str),.t (.slc (.st 51))],.blk 32 [.oslc 7200000,.t (.int .i64),.nil],.blk 35 [.oslc 7200100,.oslc 7200101,.oslc 7200102,.nil],.blk 36 [.t (.int .i64)],.blk 9 [.t .str],.row 3 (.int .i64),.row 9 .str,.row 9 .str,.row 9 .str]⟩⟩] [.slc (.st 51),.int .i64,.int .i64,.slc (.st 48),.slc .str,.slc (.st 51),.int .i64,.int .i64,.str,.slc (.int .i64),.slc .str,.slc .str,.slc .str] [[.slc (.st 48),.slc .str,.slc (.st 51),.int .i64,.int .i64,.str,.slc (.int .i64),.slc .str,.slc .str,.slc .str]] qal_l14
theorem qal_ok14:LoopR kk env0 Tryz.f11.ntmps qal_b14 qal_lp14:=
  loopG qal_i14 qal_t14 (ko known63) (L:=jnL) (zaab (bs:=[]) (by kernel_rfl) trivial) (by kernel_rfl) (fun _=>by kernel_rfl) (zaaa _) (fun _=>by kernel_rfl)
def qal_b21:Code:=(zaag (zaae Tryz.f11) 2)
def qal_lp21:Lift.Loop U:=lpG ⟨⟨[2,3,4,5,11,76,77,78],[170000,170001,170002,170003,71,69],[⟨.cell 170000 0,7200000,3,(.int .i64)⟩,⟨.cell 170000 2,7200002,65,(.st 1065)⟩,⟨.cell 170001 3,7200103,23,(.own 9 .str)⟩]⟩,[.ptr 170000 0,.ptr 170001 0,.ptr 170002 0,.ptr 170003 0,.ptr 71 0,.t (.slc (.st 51)),.t (.int .i64),.t (.int .i64)],[.blk 32 [.oslc 7200000,.t (.int .i64),.oslc 7200002],.blk 35 [.t (.slc .str),.t (.slc .str),.t (.slc .str),.oslc 7200103],.blk 36 [.t (.int .i64)],.blk 9 [.t .str],.blk 81 [.ptr 69 0,.junk],.mp .str (.st 103),.row 3 (.int .i64),.row 65 (.st 1065),.row 23 (.own 9 .str)]⟩ [⟨.pan,⟨⟨[2,3,4,5,777777],[170000,170001,170002,170003],[⟨.cell 170000 0,7200000,3,(.int .i64)⟩,⟨.cell 170000 2,7200002,65,(.st 1065)⟩,⟨.cell 170001 3,7200103,23,(.own 9 .str)⟩]⟩,[.ptr 170000 0,.ptr 170001 0,.ptr 170002 0,.ptr 170003 0,.ifc 75 (.t (.st 75))],[.blk 32 [.oslc 7200000,.t (.int .i64),.oslc 7200002],.blk 35 [.t (.slc .str),.t (.slc .str),.t (.slc .str),.oslc 7200103],.blk 36 [.t (.int .i64)],.blk 9 [.t .str],.row 3 (.int .i64),.row 65 (.st 1065),.row 23 (.own 9 .str)]⟩⟩,⟨.exit 4,⟨⟨[2,3,4,5],[170000,170001,170002,170003],[⟨.cell 170000 0,7200000,3,(.int .i64)⟩,⟨.cell 170000 2,7200002,65,(.st 1065)⟩,⟨.cell 170001 3,7200103,23,(.own 9 .str)⟩]⟩,[.ptr 170000 0,.ptr 170001 0,.ptr 170002 0,.ptr 170003 0],[.blk 32 [.oslc 7200000,.t (.int .i64),.oslc 7200002],.blk 35 [.t (.slc .str),.t (.slc .str),.t (.slc .str),.oslc 7200103],.blk 36 [.t (.int .i64)],.blk 9 [.t .str],.row 3 (.int .i64),.row 65 (.st 1065),.row 23 (.own 9 .str)]⟩⟩] [.slc (.st 51),.int .i64,.int .i64,.int .i64,.slc .str,.slc .str,.slc .str,.int .i64,.str,.map .str (.st 103),.slc (.int .i64),.slc (.st 1065),.slc (.own 9 .str)] [[.st 75,.int .i64,.slc .str,.slc .str,.slc .str,.int .i64,.str,.slc (.int .i64),.slc (.st 1065),.slc (.own 9 .str)],[.int .i64,.slc .str,.slc .str,.slc .str,.int .i64,.str,.slc (.int .i64),.slc (.st 1065),.slc (.own 9 .str)]] qal_l21
theorem qal_ok21:LoopR kk env0 Tryz.f11.ntmps qal_b21 qal_lp21:=
  loopG qal_i21 qal_t21 (ko known63) (L:=jnL) (zaab (bs:=[]) (by kernel_rfl) trivial) (by kernel_rfl) (fun _=>by kernel_rfl) (zaaa _) (fun _=>by kernel_rfl)
def qal_L:Nat→Option (Lift.Loop U):=fun n=>bif Nat.beq n zaak then some zaaj else bif Nat.beq n 6 then some qal_lp6 else bif Nat.beq n 14 then some qal_lp14 else bif Nat.beq n 21 then some qal_lp21 else none
def qal_md:Mode U:=mdG ⟨⟨[0],[],[]⟩,[.t (.st 26)],[]⟩ [] [⟨⟨[0,1,2,3],[],[]⟩,[.t (.st 32),.t (.st 35),.t (.int .i64),.t .str],[]⟩] [.st 26] [[.st 32,.st 35,.int .i64,.str]] qal
theorem qal_post:zaad kk env0 11 qal_md:=
  fnGD (fn:=Tryz.f11) (ko known63) (by kernel_rfl) (L:=qal_L) (zaab (bs:=[qal_b6,qal_b14,qal_b21]) (by kernel_rfl) ⟨.inr ⟨_,by kernel_rfl,zaai.of_round (qal_ok6)⟩,.inr ⟨_,by kernel_rfl,zaai.of_round (qal_ok14)⟩,.inr ⟨_,by kernel_rfl,zaai.of_round (qal_ok21)⟩,trivial⟩) (zaaa _) (by kernel_rfl) (by kernel_rfl)
def ms64:List (FuncId×Mode U):=(11,qal_md)::ms63
theorem known64:Known kk env0 (zaac ms64):=known_cons (by kernel_rfl) qal_post known63
def qaw_b3:Code:=(zaag (zaae Tryz.f40) 0)
def qaw_lp3:Lift.Loop U:=lpG ⟨⟨[3,4,5],[],[⟨.slot 3,3,9,.str⟩]⟩,[.oslc 3,.t (.int .i64),.t (.int .i64)],[.row 9 .str]⟩ [⟨.exit 0,⟨⟨[3],[],[⟨.slot 3,3,9,.str⟩]⟩,[.oslc 3],[.row 9 .str]⟩⟩] [.int .i64,.int .i64,.slc .str] [[.slc .str]] qaw_l3
theorem qaw_ok3:LoopR kk env0 Tryz.f40.ntmps qaw_b3 qaw_lp3:=
  loopG qaw_i3 qaw_t3 (ko known64) (L:=jnL) (zaab (bs:=[]) (by kernel_rfl) trivial) (by kernel_rfl) (fun _=>by kernel_rfl) (zaaa _) (fun _=>by kernel_rfl)
def qaw_L:Nat→Option (Lift.Loop U):=fun n=>bif Nat.beq n zaak then some zaaj else bif Nat.beq n 3 then some qaw_lp3 else none
def qaw_md:Mode U:=mdG ⟨⟨[0],[],[]⟩,[.t (.int .i64)],[]⟩ [] [⟨⟨[0],[],[⟨.slot 0,100050,9,.str⟩]⟩,[.oslc 100050],[.row 9 .str]⟩] [.int .i64] [[.slc .str]] qaw
theorem qaw_post:zaad kk env0 40 qaw_md:=
  fnG (fn:=Tryz.f40) (ko known64) (by kernel_rfl) (L:=qaw_L) (zaab (bs:=[qaw_b3]) (by kernel_rfl) ⟨.inr ⟨_,by kernel_rfl,zaai.of_round (qaw_ok3)⟩,trivial⟩) (zaaa _) (by kernel_rfl)
def ms65:List (FuncId×Mode U):=(40,qaw_md)::ms64
theorem known65:Known kk env0 (zaac ms65):=known_cons (by kernel_rfl) qaw_post known64
def qan_md:Mode U:=mdG ⟨⟨[0,1],[],[]⟩,[.t (.slc .str),.t (.int .i64)],[]⟩ [] [⟨⟨[0],[],[]⟩,[.t .str],[]⟩] [.slc .str,.int .i64] [[.str]] qan
theorem qan_post:zaad kk env0 91 qan_md:=
  fnG (fn:=Tryz.f91) (ko known65) (by kernel_rfl) (L:=jnL) (zaab (bs:=[]) (by kernel_rfl) trivial) (zaaa _) (by kernel_rfl)
def ms66:List (FuncId×Mode U):=(91,qan_md)::ms65
theorem known66:Known kk env0 (zaac ms66):=known_cons (by kernel_rfl) qan_post known65
abbrev qaa_tr:Type:=curT U (sumT U [[.int .i64,.int .i64,.str,.slc (.st 1060)]]) [.st 111,.st 60]
def qaa_rmd (rec_qaa:qaa_tr):Mode U:=mdG ⟨⟨[0,1],[],[]⟩,[.t (.st 111),.t (.st 60)],[]⟩ [] [⟨⟨[0],[],[⟨.sub 0 3,100400,60,(.st 1060)⟩]⟩,[.agg [.t (.int .i64),.t (.int .i64),.t .str,.oslc 100400]],[.row 60 (.st 1060)]⟩] [.st 111,.st 60] [[.int .i64,.int .i64,.str,.slc (.st 1060)]] rec_qaa
abbrev qaa_rec (r:qaa_tr):Prop:=zaad kk env0 89 (qaa_rmd r)
def ms67 (rec_qaa:qaa_tr):List (FuncId×Mode U):=(89,(qaa_rmd rec_qaa))::ms66
theorem known67 (rec_qaa:qaa_tr) (hrec_qaa:qaa_rec rec_qaa):Known kk env0 (zaac (ms67 rec_qaa)):=known_cons (by kernel_rfl) hrec_qaa known66
def qaa_b8:Code:=(zaag (zaae Tryz.f89) 0)
def qaa_lp8 (rec_qaa:qaa_tr):Lift.Loop U:=lpG ⟨⟨[2,4,5,30,31,32],[2,4,5],[⟨.cell 5 3,20253,60,(.st 1060)⟩]⟩,[.ptr 2 0,.ptr 4 0,.ptr 5 0,.t (.slc (.st 60)),.t (.int .i64),.t (.int .i64)],[.blk 111 [.t (.slc .str),.t (.slc .str),.t (.slc .str),.t (.slc .str)],.blk 60 [.t (.int .i64),.t (.int .i64),.t .str,.nil],.blk 60 [.t (.int .i64),.t (.int .i64),.t .str,.oslc 20253],.row 60 (.st 1060)]⟩ [⟨.exit 0,⟨⟨[4,5],[4,5],[⟨.cell 5 3,20253,60,(.st 1060)⟩]⟩,[.ptr 4 0,.ptr 5 0],[.blk 60 [.t (.int .i64),.t (.int .i64),.t .str,.nil],.blk 60 [.t (.int .i64),.t (.int .i64),.t .str,.oslc 20253],.row 60 (.st 1060)]⟩⟩] [.slc (.st 60),.int .i64,.int .i64,.slc .str,.slc .str,.slc .str,.slc .str,.int .i64,.int .i64,.str,.int .i64,.int .i64,.str,.slc (.st 1060)] [[.int .i64,.int .i64,.str,.int .i64,.int .i64,.str,.slc (.st 1060)]] (qaa_l8 rec_qaa)
theorem qaa_ok8 (rec_qaa:qaa_tr) (hrec_qaa:qaa_rec rec_qaa):LoopR kk env0 Tryz.f89.ntmps qaa_b8 (qaa_lp8 rec_qaa):=
  loopG (qaa_i8 rec_qaa) (qaa_t8 rec_qaa) (ko (known67 rec_qaa hrec_qaa)) (L:=jnL) (zaab (bs:=[]) (by kernel_rfl) trivial) (by kernel_rfl) (fun _=>by kernel_rfl) (zaaa _) (fun _=>by kernel_rfl)
def qaa_L (rec_qaa:qaa_tr):Nat→Option (Lift.Loop U):=fun n=>bif Nat.beq n zaak then some zaaj else bif Nat.beq n 8 then some (qaa_lp8 rec_qaa) else none
def qaa_md:Mode U:=qaa_rmd qaa
theorem qaa_step (rec_qaa:qaa_tr) (hrec_qaa:qaa_rec rec_qaa):zaao (Kit.withModes kk (zaac (ms67 rec_qaa))) env0 Tryz.f89.ntmps (qaa_L rec_qaa) (zaae Tryz.f89):=zaab (bs:=[qaa_b8]) (by kernel_rfl) ⟨.inr ⟨_,by kernel_rfl,zaai.of_round (qaa_ok8 rec_qaa hrec_qaa)⟩,trivial⟩
theorem qaa_post:zaad kk env0 89 (qaa_rmd qaa):=
  recG qaa_i qaa_f (by kernel_rfl) (fun _=>by kernel_rfl) (zaaa _) fun r ih=>fnG (fn:=Tryz.f89) (ko (known67 r ih)) (by kernel_rfl) (qaa_step r ih) rfl (by kernel_rfl)
def ms68:List (FuncId×Mode U):=(89,qaa_md)::ms66
theorem known68:Known kk env0 (zaac ms68):=known_cons (by kernel_rfl) qaa_post known66
abbrev qab_tr:Type:=curT U (sumT U [[.slc (.st 1062)]]) [.st 111,.slc (.st 67)]
def qab_rmd (rec_qab:qab_tr):Mode U:=mdG ⟨⟨[0,1],[],[]⟩,[.t (.st 111),.t (.slc (.st 67))],[]⟩ [] [⟨⟨[0],[],[⟨.slot 0,100050,62,(.st 1062)⟩]⟩,[.oslc 100050],[.row 62 (.st 1062)]⟩] [.st 111,.slc (.st 67)] [[.slc (.st 1062)]] rec_qab
abbrev qab_rec (r:qab_tr):Prop:=zaad kk env0 65 (qab_rmd r)
def ms69 (rec_qab:qab_tr):List (FuncId×Mode U):=(65,(qab_rmd rec_qab))::ms68
theorem known69 (rec_qab:qab_tr) (hrec_qab:qab_rec rec_qab):Known kk env0 (zaac (ms69 rec_qab)):=known_cons (by kernel_rfl) hrec_qab known68
def qat_md (rec_qab:qab_tr):Mode U:=mdG ⟨⟨[0],[],[]⟩,[.t (.int .i64)],[]⟩ [] [⟨⟨[0],[],[]⟩,[.t .bool],[]⟩] [.int .i64] [[.bool]] (qat rec_qab)
theorem qat_post (rec_qab:qab_tr) (hrec_qab:qab_rec rec_qab):zaad kk env0 90 (qat_md rec_qab):=
  fnG (fn:=Tryz.f90) (ko (known69 rec_qab hrec_qab)) (by kernel_rfl) (L:=jnL) (zaab (bs:=[]) (by kernel_rfl) trivial) (zaaa _) (by kernel_rfl)
def ms70 (rec_qab:qab_tr):List (FuncId×Mode U):=(90,(qat_md rec_qab))::(ms69 rec_qab)
theorem known70 (rec_qab:qab_tr) (hrec_qab:qab_rec rec_qab):Known kk env0 (zaac (ms70 rec_qab)):=known_cons (by kernel_rfl) (qat_post rec_qab hrec_qab) (known69 rec_qab hrec_qab)
def qab_b3:Code:=(zaag (zaae Tryz.f65) 0)
def qab_lp3 (rec_qab:qab_tr):Lift.Loop U:=lpG ⟨⟨[2,5,9,10,11],[2],[⟨.slot 5,5,62,(.st 1062)⟩]⟩,[.ptr 2 0,.oslc 5,.t (.slc (.st 67)),.t (.int .i64),.t (.int .i64)],[.blk 111 [.t (.slc .str),.t (.slc .str),.t (.slc .str),.t (.slc .str)],.row 62 (.st 1062)]⟩ [⟨.exit 0,⟨⟨[5],[],[⟨.slot 5,5,62,(.st 1062)⟩]⟩,[.oslc 5],[.row 62 (.st 1062)]⟩⟩] [.slc (.st 67),.int .i64,.int .i64,.slc .str,.slc .str,.slc .str,.slc .str,.slc (.st 1062)] [[.slc (.st 1062)]] (qab_l3 rec_qab)
theorem qab_ok3 (rec_qab:qab_tr) (hrec_qab:qab_rec rec_qab):LoopR kk env0 Tryz.f65.ntmps qab_b3 (qab_lp3 rec_qab):=
  loopG (qab_i3 rec_qab) (qab_t3 rec_qab) (ko (known70 rec_qab hrec_qab)) (L:=jnL) (zaab (bs:=[]) (by kernel_rfl) trivial) (by kernel_rfl) (fun _=>by kernel_rfl) (zaaa _) (fun _=>by kernel_rfl)
def qab_L (rec_qab:qab_tr):Nat→Option (Lift.Loop U):=fun n=>bif Nat.beq n zaak then some zaaj else bif Nat.beq n 3 then some (qab_lp3 rec_qab) else none
def qab_md:Mode U:=qab_rmd qab
theorem qab_step (rec_qab:qab_tr) (hrec_qab:qab_rec rec_qab):zaao (Kit.withModes kk (zaac (ms70 rec_qab))) env0 Tryz.f65.ntmps (qab_L rec_qab) (zaae Tryz.f65):=zaab (bs:=[qab_b3]) (by kernel_rfl) ⟨.inr ⟨_,by kernel_rfl,zaai.of_round (qab_ok3 rec_qab hrec_qab)⟩,trivial⟩
theorem qab_post:zaad kk env0 65 (qab_rmd qab):=
  recG qab_i qab_f (by kernel_rfl) (fun _=>by kernel_rfl) (zaaa _) fun r ih=>fnG (fn:=Tryz.f65) (ko (known70 r ih)) (by kernel_rfl) (qab_step r ih) rfl (by kernel_rfl)
def ms71:List (FuncId×Mode U):=(65,qab_md)::ms68
theorem known71:Known kk env0 (zaac ms71):=known_cons (by kernel_rfl) qab_post known68
def qav_b3:Code:=(zaag (zaae Tryz.f41) 0)
def qav_lp3:Lift.Loop U:=lpG ⟨⟨[2,3,4,5,12,13,14],[2,3,4,5],[⟨.cell 5 0,20250,48,(.st 48)⟩]⟩,[.ptr 2 0,.ptr 3 0,.ptr 4 0,.ptr 5 0,.t (.slc (.int .i64)),.t (.int .i64),.t (.int .i64)],[.blk 32 [.t (.slc (.int .i64)),.t (.int .i64),.t (.slc (.st 65))],.blk 35 [.t (.slc .str),.t (.slc .str),.t (.slc .str),.t (.slc (.slc .str))],.blk 26 [.nil,.nil,.nil],.blk 26 [.oslc 20250,.nil,.nil],.row 48 (.st 48)]⟩ [⟨.exit 0,⟨⟨[2,3,4,5],[2,3,4,5],[⟨.cell 5 0,20250,48,(.st 48)⟩]⟩,[.ptr 2 0,.ptr 3 0,.ptr 4 0,.ptr 5 0],[.blk 32 [.t (.slc (.int .i64)),.t (.int .i64),.t (.slc (.st 65))],.blk 35 [.t (.slc .str),.t (.slc .str),.t (.slc .str),.t (.slc (.slc .str))],.blk 26 [.nil,.nil,.nil],.blk 26 [.oslc 20250,.nil,.nil],.row 48 (.st 48)]⟩⟩] [.slc (.int .i64),.int .i64,.int .i64,.slc (.int .i64),.int .i64,.slc (.st 65),.slc .str,.slc .str,.slc .str,.slc (.slc .str),.slc (.st 48)] [[.slc (.int .i64),.int .i64,.slc (.st 65),.slc .str,.slc .str,.slc .str,.slc (.slc .str),.slc (.st 48)]] qav_l3
theorem qav_ok3:LoopR kk env0 Tryz.f41.ntmps qav_b3 qav_lp3:=
  loopG qav_i3 qav_t3 (ko known71) (L:=jnL) (zaab (bs:=[]) (by kernel_rfl) trivial) (by kernel_rfl) (fun _=>by kernel_rfl) (zaaa _) (fun _=>by kernel_rfl)
def qav_b9:Code:=(zaag (zaae Tryz.f41) 1)
def qav_lp9:Lift.Loop U:=lpG ⟨⟨[3,4,5,38,39,40],[3,4,5],[⟨.cell 5 0,20250,48,(.st 48)⟩,⟨.cell 5 1,20251,9,.str⟩,⟨.cell 5 2,20252,51,(.st 1051)⟩]⟩,[.ptr 3 0,.ptr 4 0,.ptr 5 0,.t (.slc (.st 65)),.t (.int .i64),.t (.int .i64)],[.blk 35 [.t (.slc .str),.t (.slc .str),.t (.slc .str),.t (.slc (.slc .str))],.blk 26 [.nil,.nil,.nil],.blk 26 [.oslc 20250,.oslc 20251,.oslc 20252],.row 48 (.st 48),.row 9 .str,.row 51 (.st 1051)]⟩ [⟨.exit 2,⟨⟨[4,5],[4,5],[⟨.cell 5 0,20250,48,(.st 48)⟩,⟨.cell 5 1,20251,9,.str⟩,⟨.cell 5 2,20252,51,(.st 1051)⟩]⟩,[.ptr 4 0,.ptr 5 0],[.blk 26 [.nil,.nil,.nil],.blk 26 [.oslc 20250,.oslc 20251,.oslc 20252],.row 48 (.st 48),.row 9 .str,.row 51 (.st 1051)]⟩⟩] [.slc (.st 65),.int .i64,.int .i64,.slc .str,.slc .str,.slc .str,.slc (.slc .str),.slc (.st 48),.slc .str,.slc (.st 1051)] [[.slc (.st 48),.slc .str,.slc (.st 1051)]] qav_l9
theorem qav_ok9:LoopR kk env0 Tryz.f41.ntmps qav_b9 qav_lp9:=
  loopG qav_i9 qav_t9 (ko known71) (L:=jnL) (zaab (bs:=[]) (by kernel_rfl) trivial) (by kernel_rfl) (fun _=>by kernel_rfl) (zaaa _) (fun _=>by kernel_rfl)
def qav_L:Nat→Option (Lift.Loop U):=fun n=>bif Nat.beq n zaak then some zaaj else bif Nat.beq n 3 then some qav_lp3 else bif Nat.beq n 9 then some qav_lp9 else none
def qav_md:Mode U:=mdG ⟨⟨[0,1],[],[]⟩,[.t (.st 32),.t (.st 35)],[]⟩ [] [⟨⟨[0],[],[⟨.sub 0 0,100100,48,(.st 48)⟩,⟨.sub 0 1,100200,9,.str⟩,⟨.sub 0 2,100300,51,(.st 1051)⟩]⟩,[.agg [.oslc 100100,.oslc 100200,.oslc 100300]],[.row 48 (.st 48),.row 9 .str,.row 51 (.st 1051)]⟩] [.st 32,.st 35] [[.slc (.st 48),.slc .str,.slc (.st 1051)]] qav
theorem qav_post:zaad kk env0 41 qav_md:=
  fnG (fn:=Tryz.f41) (ko known71) (by kernel_rfl) (L:=qav_L) (zaab (bs:=[qav_b3,qav_b9]) (by kernel_rfl) ⟨.inr ⟨_,by kernel_rfl,zaai.of_round (qav_ok3)⟩,.inr ⟨_,by kernel_rfl,zaai.of_round (qav_ok9)⟩,trivial⟩) (zaaa _) (by kernel_rfl)
def ms72:List (FuncId×Mode U):=(41,qav_md)::ms71
theorem known72:Known kk env0 (zaac ms72):=known_cons (by kernel_rfl) qav_post known71
def qam_b5:Code:=(zaag (zaae Tryz.f16) 0)
def qam_lp5:Lift.Loop U:=lpG ⟨⟨[1,3,45,46,47],[1,3],[⟨.cell 3 0,20150,9,.str⟩,⟨.cell 3 1,20151,9,.str⟩,⟨.cell 3 2,20152,9,.str⟩,⟨.cell 3 3,20153,23,(.own 9 .str)⟩]⟩,[.ptr 1 0,.ptr 3 0,.t (.slc (.st 65)),.t (.int .i64),.t (.int .i64)],[.blk 32 [.t (.slc (.int .i64)),.t (.int .i64),.t (.slc (.st 65))],.blk 35 [.oslc 20150,.oslc 20151,.oslc 20152,.oslc 20153],.row 9 .str,.row 9 .str,.row 9 .str,.row 23 (.own 9 .str)]⟩ [⟨.ret,⟨⟨[2],[],[]⟩,[.t .bool],[]⟩⟩,⟨.exit 0,⟨⟨[1,3],[1,3],[⟨.cell 3 0,20150,9,.str⟩,⟨.cell 3 1,20151,9,.str⟩,⟨.cell 3 2,20152,9,.str⟩,⟨.cell 3 3,20153,23,(.own 9 .str)⟩]⟩,[.ptr 1 0,.ptr 3 0],[.blk 32 [.t (.slc (.int .i64)),.t (.int .i64),.t (.slc (.st 65))],.blk 35 [.oslc 20150,.oslc 20151,.oslc 20152,.oslc 20153],.row 9 .str,.row 9 .str,.row 9 .str,.row 23 (.own 9 .str)]⟩⟩] [.slc (.st 65),.int .i64,.int .i64,.slc (.int .i64),.int .i64,.slc (.st 65),.slc .str,.slc .str,.slc .str,.slc (.own 9 .str)] [[.bool],[.slc (.int .i64),.int .i64,.slc (.st 65),.slc .str,.slc .str,.slc .str,.slc (.own 9 .str)]] qam_l5
theorem qam_ok5:LoopR kk env0 Tryz.f16.ntmps qam_b5 qam_lp5:=
  loopG qam_i5 qam_t5 (ko known72) (L:=jnL) (zaab (bs:=[]) (by kernel_rfl) trivial) (by kernel_rfl) (fun _=>by kernel_rfl) (zaaa _) (fun _=>by kernel_rfl)
def qam_L:Nat→Option (Lift.Loop U):=fun n=>bif Nat.beq n zaak then some zaaj else bif Nat.beq n 5 then some qam_lp5 else none
def qam_md:Mode U:=mdG ⟨⟨[0],[],[]⟩,[.t (.st 32)],[]⟩ [] [⟨⟨[0],[],[]⟩,[.t .bool],[]⟩] [.st 32] [[.bool]] qam
theorem qam_post:zaad kk env0 16 qam_md:=
  fnG (fn:=Tryz.f16) (ko known72) (by kernel_rfl) (L:=qam_L) (zaab (bs:=[qam_b5]) (by kernel_rfl) ⟨.inr ⟨_,by kernel_rfl,zaai.of_round (qam_ok5)⟩,trivial⟩) (zaaa _) (by kernel_rfl)
def ms73:List (FuncId×Mode U):=(16,qam_md)::ms72
theorem known73:Known kk env0 (zaac ms73):=known_cons (by kernel_rfl) qam_post known72
def qaK_md:Mode U:=mdG ⟨⟨[],[],[]⟩,[],[]⟩ [] [⟨⟨[0],[],[]⟩,[.t .bool],[]⟩] [] [[.bool]] qaK
theorem qaK_post:zaad kk env0 8 qaK_md:=
  fnG (fn:=Tryz.f8) (ko known73) (by kernel_rfl) (L:=jnL) (zaab (bs:=[]) (by kernel_rfl) trivial) (zaaa _) (by kernel_rfl)
def ms74:List (FuncId×Mode U):=(8,qaK_md)::ms73
theorem known74:Known kk env0 (zaac ms74):=known_cons (by kernel_rfl) qaK_post known73
def qbc_md:Mode U:=mdG ⟨⟨[0],[],[]⟩,[.t (.int .i64)],[]⟩ [] [⟨⟨[0,1,2,3,4,5],[],[]⟩,[.t .bool,.t .bool,.t .bool,.t .bool,.t .bool,.t .bool],[]⟩] [.int .i64] [[.bool,.bool,.bool,.bool,.bool,.bool]] qbc
theorem qbc_post:zaad kk env0 50 qbc_md:=
  fnG (fn:=Tryz.f50) (ko known74) (by kernel_rfl) (L:=jnL) (zaab (bs:=[]) (by kernel_rfl) trivial) (zaaa _) (by kernel_rfl)
def ms75:List (FuncId×Mode U):=(50,qbc_md)::ms74
theorem known75:Known kk env0 (zaac ms75):=known_cons (by kernel_rfl) qbc_post known74
def qbd_md:Mode U:=mdG ⟨⟨[0],[],[]⟩,[.t (.st 60)],[]⟩ [] [⟨⟨[0],[],[]⟩,[.t .bool],[]⟩] [.st 60] [[.bool]] qbd
theorem qbd_post:zaad kk env0 85 qbd_md:=
  fnG (fn:=Tryz.f85) (ko known75) (by kernel_rfl) (L:=jnL) (zaab (bs:=[]) (by kernel_rfl) trivial) (zaaa _) (by kernel_rfl)
def ms78:List (FuncId×Mode U):=(85,qbd_md)::ms75
theorem known78:Known kk env0 (zaac ms78):=known_cons (by kernel_rfl) qbd_post known75
def qbn_md:Mode U:=mdG ⟨⟨[0],[],[]⟩,[.t (.st 60)],[]⟩ [] [⟨⟨[0],[],[]⟩,[.t .bool],[]⟩] [.st 60] [[.bool]] qbn
theorem qbn_post:zaad kk env0 67 qbn_md:=
  fnG (fn:=Tryz.f67) (ko known78) (by kernel_rfl) (L:=jnL) (zaab (bs:=[]) (by kernel_rfl) trivial) (zaaa _) (by kernel_rfl)
def ms85:List (FuncId×Mode U):=(67,qbn_md)::ms78
theorem known85:Known kk env0 (zaac ms85):=known_cons (by kernel_rfl) qbn_post known78
abbrev qba_tr:Type:=curT U (sumT U [[.int .i64]]) [.st 60]
def qba_rmd (rec_qba:qba_tr):Mode U:=mdG ⟨⟨[0],[],[]⟩,[.t (.st 60)],[]⟩ [] [⟨⟨[0],[],[]⟩,[.t (.int .i64)],[]⟩] [.st 60] [[.int .i64]] rec_qba
abbrev qba_rec (r:qba_tr):Prop:=zaad kk env0 87 (qba_rmd r)
def ms86 (rec_qba:qba_tr):List (FuncId×Mode U):=(87,(qba_rmd rec_qba))::ms85
theorem known86 (rec_qba:qba_tr) (hrec_qba:qba_rec rec_qba):Known kk env0 (zaac (ms86 rec_qba)):=known_cons (by kernel_rfl) hrec_qba known85
def qba_b3:Code:=(zaag (zaae Tryz.f87) 0)
def qba_lp3 (rec_qba:qba_tr):Lift.Loop U:=lpG ⟨⟨[1,3,4],[1],[]⟩,[.ptr 1 0,.t (.int .i64),.t (.int .i64)],[.blk 60 [.t (.int .i64),.t (.int .i64),.t .str,.t (.slc (.st 60))]]⟩ [⟨.exit 0,⟨⟨[3],[],[]⟩,[.t (.int .i64)],[]⟩⟩] [.int .i64,.int .i64,.int .i64,.int .i64,.str,.slc (.st 60)] [[.int .i64]] (qba_l3 rec_qba)
theorem qba_ok3 (rec_qba:qba_tr) (hrec_qba:qba_rec rec_qba):LoopR kk env0 Tryz.f87.ntmps qba_b3 (qba_lp3 rec_qba):=
  loopG (qba_i3 rec_qba) (qba_t3 rec_qba) (ko (known86 rec_qba hrec_qba)) (L:=jnL) (zaab (bs:=[]) (by kernel_rfl) trivial) (by kernel_rfl) (fun _=>by kernel_rfl) (zaaa _) (fun _=>by kernel_rfl)
def qba_L (rec_qba:qba_tr):Nat→Option (Lift.Loop U):=fun n=>bif Nat.beq n zaak then some zaaj else bif Nat.beq n 3 then some (qba_lp3 rec_qba) else none
def qba_md:Mode U:=qba_rmd qba
theorem qba_step (rec_qba:qba_tr) (hrec_qba:qba_rec rec_qba):zaao (Kit.withModes kk (zaac (ms86 rec_qba))) env0 Tryz.f87.ntmps (qba_L rec_qba) (zaae Tryz.f87):=zaab (bs:=[qba_b3]) (by kernel_rfl) ⟨.inr ⟨_,by kernel_rfl,zaai.of_round (qba_ok3 rec_qba hrec_qba)⟩,trivial⟩
theorem qba_post:zaad kk env0 87 (qba_rmd qba):=
  recG qba_i qba_f (by kernel_rfl) (fun _=>by kernel_rfl) (zaaa _) fun r ih=>fnG (fn:=Tryz.f87) (ko (known86 r ih)) (by kernel_rfl) (qba_step r ih) rfl (by kernel_rfl)
def ms87:List (FuncId×Mode U):=(87,qba_md)::ms85
theorem known87:Known kk env0 (zaac ms87):=known_cons (by kernel_rfl) qba_post known85
abbrev qbi_tr:Type:=curT U (sumT U [[.int .i64]]) [.slc (.st 62),.int .i64]
def qbi_rmd (rec_qbi:qbi_tr):Mode U:=mdG ⟨⟨[0,1],[],[]⟩,[.t (.slc (.st 62)),.t (.int .i64)],[]⟩ [] [⟨⟨[0],[],[]⟩,[.t (.int .i64)],[]⟩] [.slc (.st 62),.int .i64] [[.int .i64]] rec_qbi
abbrev qbi_rec (r:qbi_tr):Prop:=zaad kk env0 63 (qbi_rmd r)
def ms88 (rec_qbi:qbi_tr):List (FuncId×Mode U):=(63,(qbi_rmd rec_qbi))::ms87
theorem known88 (rec_qbi:qbi_tr) (hrec_qbi:qbi_rec rec_qbi):Known kk env0 (zaac (ms88 rec_qbi)):=known_cons (by kernel_rfl) hrec_qbi known87
def qbi_b3:Code:=(zaag (zaae Tryz.f63) 0)
def qbi_lp3 (rec_qbi:qbi_tr):Lift.Loop U:=lpG ⟨⟨[0,1,5,6],[],[]⟩,[.t (.slc (.st 62)),.t (.int .i64),.t (.int .i64),.t (.int .i64)],[]⟩ [⟨.exit 0,⟨⟨[5],[],[]⟩,[.t (.int .i64)],[]⟩⟩] [.slc (.st 62),.int .i64,.int .i64,.int .i64] [[.int .i64]] (qbi_l3 rec_qbi)
theorem qbi_ok3 (rec_qbi:qbi_tr) (hrec_qbi:qbi_rec rec_qbi):LoopR kk env0 Tryz.f63.ntmps qbi_b3 (qbi_lp3 rec_qbi):=
  loopG (qbi_i3 rec_qbi) (qbi_t3 rec_qbi) (ko (known88 rec_qbi hrec_qbi)) (L:=jnL) (zaab (bs:=[]) (by kernel_rfl) trivial) (by kernel_rfl) (fun _=>by kernel_rfl) (zaaa _) (fun _=>by kernel_rfl)
def qbi_L (rec_qbi:qbi_tr):Nat→Option (Lift.Loop U):=fun n=>bif Nat.beq n zaak then some zaaj else bif Nat.beq n 3 then some (qbi_lp3 rec_qbi) else none
def qbi_md:Mode U:=qbi_rmd qbi
theorem qbi_step (rec_qbi:qbi_tr) (hrec_qbi:qbi_rec rec_qbi):zaao (Kit.withModes kk (zaac (ms88 rec_qbi))) env0 Tryz.f63.ntmps (qbi_L rec_qbi) (zaae Tryz.f63):=zaab (bs:=[qbi_b3]) (by kernel_rfl) ⟨.inr ⟨_,by kernel_rfl,zaai.of_round (qbi_ok3 rec_qbi hrec_qbi)⟩,trivial⟩
theorem qbi_post:zaad kk env0 63 (qbi_rmd qbi):=
  recG qbi_i qbi_f (by kernel_rfl) (fun _=>by kernel_rfl) (zaaa _) fun r ih=>fnG (fn:=Tryz.f63) (ko (known88 r ih)) (by kernel_rfl) (qbi_step r ih) rfl (by kernel_rfl)
def ms89:List (FuncId×Mode U):=(63,qbi_md)::ms87
theorem known89:Known kk env0 (zaac ms89):=known_cons (by kernel_rfl) qbi_post known87
def qa8_b3:Code:=(zaag (zaae Tryz.f38) 0)
def qa8_lp3:Lift.Loop U:=lpG ⟨⟨[1,3,4],[1],[]⟩,[.ptr 1 0,.t (.int .i64),.t (.int .i64)],[.blk 26 [.t (.slc (.st 48)),.t (.slc .str),.t (.slc (.st 51))]]⟩ [⟨.exit 0,⟨⟨[3],[],[]⟩,[.t (.int .i64)],[]⟩⟩] [.int .i64,.int .i64,.slc (.st 48),.slc .str,.slc (.st 51)] [[.int .i64]] qa8_l3
theorem qa8_ok3:LoopR kk env0 Tryz.f38.ntmps qa8_b3 qa8_lp3:=
  loopG qa8_i3 qa8_t3 (ko known89) (L:=jnL) (zaab (bs:=[]) (by kernel_rfl) trivial) (by kernel_rfl) (fun _=>by kernel_rfl) (zaaa _) (fun _=>by kernel_rfl)
def qa8_L:Nat→Option (Lift.Loop U):=fun n=>bif Nat.beq n zaak then some zaaj else bif Nat.beq n 3 then some qa8_lp3 else none
def qa8_md:Mode U:=mdG ⟨⟨[0],[],[]⟩,[.t (.st 26)],[]⟩ [] [⟨⟨[0],[],[]⟩,[.t (.int .i64)],[]⟩] [.st 26] [[.int .i64]] qa8
theorem qa8_post:zaad kk env0 38 qa8_md:=
  fnG (fn:=Tryz.f38) (ko known89) (by kernel_rfl) (L:=qa8_L) (zaab (bs:=[qa8_b3]) (by kernel_rfl) ⟨.inr ⟨_,by kernel_rfl,zaai.of_round (qa8_ok3)⟩,trivial⟩) (zaaa _) (by kernel_rfl)
def ms90:List (FuncId×Mode U):=(38,qa8_md)::ms89
theorem known90:Known kk env0 (zaac ms90):=known_cons (by kernel_rfl) qa8_post known89
abbrev qa9_tr:Type:=curT U (sumT U [[.int .i64]]) [.st 60]
def qa9_rmd (rec_qa9:qa9_tr):Mode U:=mdG ⟨⟨[0],[],[]⟩,[.t (.st 60)],[]⟩ [] [⟨⟨[0],[],[]⟩,[.t (.int .i64)],[]⟩] [.st 60] [[.int .i64]] rec_qa9
abbrev qa9_rec (r:qa9_tr):Prop:=zaad kk env0 88 (qa9_rmd r)
def ms91 (rec_qa9:qa9_tr):List (FuncId×Mode U):=(88,(qa9_rmd rec_qa9))::ms90
theorem known91 (rec_qa9:qa9_tr) (hrec_qa9:qa9_rec rec_qa9):Known kk env0 (zaac (ms91 rec_qa9)):=known_cons (by kernel_rfl) hrec_qa9 known90
def qa9_b3:Code:=(zaag (zaae Tryz.f88) 0)
def qa9_lp3 (rec_qa9:qa9_tr):Lift.Loop U:=lpG ⟨⟨[1,3,4],[1],[]⟩,[.ptr 1 0,.t (.int .i64),.t (.int .i64)],[.blk 60 [.t (.int .i64),.t (.int .i64),.t .str,.t (.slc (.st 60))]]⟩ [⟨.exit 0,⟨⟨[3],[],[]⟩,[.t (.int .i64)],[]⟩⟩] [.int .i64,.int .i64,.int .i64,.int .i64,.str,.slc (.st 60)] [[.int .i64]] (qa9_l3 rec_qa9)
theorem qa9_ok3 (rec_qa9:qa9_tr) (hrec_qa9:qa9_rec rec_qa9):LoopR kk env0 Tryz.f88.ntmps qa9_b3 (qa9_lp3 rec_qa9):=
  loopG (qa9_i3 rec_qa9) (qa9_t3 rec_qa9) (ko (known91 rec_qa9 hrec_qa9)) (L:=jnL) (zaab (bs:=[]) (by kernel_rfl) trivial) (by kernel_rfl) (fun _=>by kernel_rfl) (zaaa _) (fun _=>by kernel_rfl)
def qa9_L (rec_qa9:qa9_tr):Nat→Option (Lift.Loop U):=fun n=>bif Nat.beq n zaak then some zaaj else bif Nat.beq n 3 then some (qa9_lp3 rec_qa9) else none
def qa9_md:Mode U:=qa9_rmd qa9
theorem qa9_step (rec_qa9:qa9_tr) (hrec_qa9:qa9_rec rec_qa9):zaao (Kit.withModes kk (zaac (ms91 rec_qa9))) env0 Tryz.f88.ntmps (qa9_L rec_qa9) (zaae Tryz.f88):=zaab (bs:=[qa9_b3]) (by kernel_rfl) ⟨.inr ⟨_,by kernel_rfl,zaai.of_round (qa9_ok3 rec_qa9 hrec_qa9)⟩,trivial⟩
theorem qa9_post:zaad kk env0 88 (qa9_rmd qa9):=
  recG qa9_i qa9_f (by kernel_rfl) (fun _=>by kernel_rfl) (zaaa _) fun r ih=>fnG (fn:=Tryz.f88) (ko (known91 r ih)) (by kernel_rfl) (qa9_step r ih) rfl (by kernel_rfl)
def ms92:List (FuncId×Mode U):=(88,qa9_md)::ms90
theorem known92:Known kk env0 (zaac ms92):=known_cons (by kernel_rfl) qa9_post known90
abbrev qbh_tr:Type:=curT U (sumT U [[.int .i64]]) [.slc (.st 62)]
def qbh_rmd (rec_qbh:qbh_tr):Mode U:=mdG ⟨⟨[0],[],[]⟩,[.t (.slc (.st 62))],[]⟩ [] [⟨⟨[0],[],[]⟩,[.t (.int .i64)],[]⟩] [.slc (.st 62)] [[.int .i64]] rec_qbh
abbrev qbh_rec (r:qbh_tr):Prop:=zaad kk env0 64 (qbh_rmd r)
def ms93 (rec_qbh:qbh_tr):List (FuncId×Mode U):=(64,(qbh_rmd rec_qbh))::ms92
theorem known93 (rec_qbh:qbh_tr) (hrec_qbh:qbh_rec rec_qbh):Known kk env0 (zaac (ms93 rec_qbh)):=known_cons (by kernel_rfl) hrec_qbh known92
def qbh_b3:Code:=(zaag (zaae Tryz.f64) 0)
def qbh_lp3 (rec_qbh:qbh_tr):Lift.Loop U:=lpG ⟨⟨[0,3,4],[],[]⟩,[.t (.slc (.st 62)),.t (.int .i64),.t (.int .i64)],[]⟩ [⟨.exit 0,⟨⟨[3],[],[]⟩,[.t (.int .i64)],[]⟩⟩] [.slc (.st 62),.int .i64,.int .i64] [[.int .i64]] (qbh_l3 rec_qbh)
theorem qbh_ok3 (rec_qbh:qbh_tr) (hrec_qbh:qbh_rec rec_qbh):LoopR kk env0 Tryz.f64.ntmps qbh_b3 (qbh_lp3 rec_qbh):=
  loopG (qbh_i3 rec_qbh) (qbh_t3 rec_qbh) (ko (known93 rec_qbh hrec_qbh)) (L:=jnL) (zaab (bs:=[]) (by kernel_rfl) trivial) (by kernel_rfl) (fun _=>by kernel_rfl) (zaaa _) (fun _=>by kernel_rfl)
def qbh_L (rec_qbh:qbh_tr):Nat→Option (Lift.Loop U):=fun n=>bif Nat.beq n zaak then some zaaj else bif Nat.beq n 3 then some (qbh_lp3 rec_qbh) else none
def qbh_md:Mode U:=qbh_rmd qbh
theorem qbh_step (rec_qbh:qbh_tr) (hrec_qbh:qbh_rec rec_qbh):zaao (Kit.withModes kk (zaac (ms93 rec_qbh))) env0 Tryz.f64.ntmps (qbh_L rec_qbh) (zaae Tryz.f64):=zaab (bs:=[qbh_b3]) (by kernel_rfl) ⟨.inr ⟨_,by kernel_rfl,zaai.of_round (qbh_ok3 rec_qbh hrec_qbh)⟩,trivial⟩
theorem qbh_post:zaad kk env0 64 (qbh_rmd qbh):=
  recG qbh_i qbh_f (by kernel_rfl) (fun _=>by kernel_rfl) (zaaa _) fun r ih=>fnG (fn:=Tryz.f64) (ko (known93 r ih)) (by kernel_rfl) (qbh_step r ih) rfl (by kernel_rfl)
def ms94:List (FuncId×Mode U):=(64,qbh_md)::ms92
theorem known94:Known kk env0 (zaac ms94):=known_cons (by kernel_rfl) qbh_post known92
def qa7_b3:Code:=(zaag (zaae Tryz.f39) 0)
def qa7_lp3:Lift.Loop U:=lpG ⟨⟨[1,3,4],[1],[]⟩,[.ptr 1 0,.t (.int .i64),.t (.int .i64)],[.blk 26 [.t (.slc (.st 48)),.t (.slc .str),.t (.slc (.st 51))]]⟩ [⟨.exit 0,⟨⟨[3],[],[]⟩,[.t (.int .i64)],[]⟩⟩] [.int .i64,.int .i64,.slc (.st 48),.slc .str,.slc (.st 51)] [[.int .i64]] qa7_l3
theorem qa7_ok3:LoopR kk env0 Tryz.f39.ntmps qa7_b3 qa7_lp3:=
  loopG qa7_i3 qa7_t3 (ko known94) (L:=jnL) (zaab (bs:=[]) (by kernel_rfl) trivial) (by kernel_rfl) (fun _=>by kernel_rfl) (zaaa _) (fun _=>by kernel_rfl)
def qa7_L:Nat→Option (Lift.Loop U):=fun n=>bif Nat.beq n zaak then some zaaj else bif Nat.beq n 3 then some qa7_lp3 else none
def qa7_md:Mode U:=mdG ⟨⟨[0],[],[]⟩,[.t (.st 26)],[]⟩ [] [⟨⟨[0],[],[]⟩,[.t (.int .i64)],[]⟩] [.st 26] [[.int .i64]] qa7
theorem qa7_post:zaad kk env0 39 qa7_md:=
  fnG (fn:=Tryz.f39) (ko known94) (by kernel_rfl) (L:=qa7_L) (zaab (bs:=[qa7_b3]) (by kernel_rfl) ⟨.inr ⟨_,by kernel_rfl,zaai.of_round (qa7_ok3)⟩,trivial⟩) (zaaa _) (by kernel_rfl)
def ms95:List (FuncId×Mode U):=(39,qa7_md)::ms94
theorem known95:Known kk env0 (zaac ms95):=known_cons (by kernel_rfl) qa7_post known94
def qaO_md:Mode U:=mdG ⟨⟨[0],[],[]⟩,[.t (.int .i64)],[]⟩ [] [⟨⟨[0],[],[]⟩,[.t .bool],[]⟩] [.int .i64] [[.bool]] qaO
theorem qaO_post:zaad kk env0 127 qaO_md:=
  fnG (fn:=Tryz.f127) (ko known95) (by kernel_rfl) (L:=noL) (zaab (bs:=[]) (by kernel_rfl) trivial) (zaaa _) (by kernel_rfl)
def ms102:List (FuncId×Mode U):=(127,qaO_md)::ms95
theorem known102:Known kk env0 (zaac ms102):=known_cons (by kernel_rfl) qaO_post known95
def qaR_md:Mode U:=mdG ⟨⟨[0],[],[]⟩,[.t (.int .i64)],[]⟩ [] [⟨⟨[0],[],[]⟩,[.t (.int .i64)],[]⟩] [.int .i64] [[.int .i64]] qaR
theorem qaR_post:zaad kk env0 135 qaR_md:=
  fnG (fn:=Tryz.f135) (ko known102) (by kernel_rfl) (L:=noL) (zaab (bs:=[]) (by kernel_rfl) trivial) (zaaa _) (by kernel_rfl)
def ms103:List (FuncId×Mode U):=(135,qaR_md)::ms102
theorem known103:Known kk env0 (zaac ms103):=known_cons (by kernel_rfl) qaR_post known102
def qaL_b18:Code:=(zaag (zaae Tryz.f125) 0)
def qaL_lp18:Lift.Loop U:=lpG ⟨⟨[0,1,7,8,9],[],[]⟩,[.t .str,.t (.int .i64),.t (.int .i64),.t (.int .i64),.t (.int .i64)],[]⟩ [⟨.ret,⟨⟨[4,5],[],[]⟩,[.t (.int .i64),.t (.int .i64)],[]⟩⟩,⟨.exit 1,⟨⟨[7,8],[],[]⟩,[.t (.int .i64),.t (.int .i64)],[]⟩⟩] [.str,.int .i64,.int .i64,.int .i64,.int .i64] [[.int .i64,.int .i64],[.int .i64,.int .i64]] qaL_l18
theorem qaL_ok18:LoopR kk env0 Tryz.f125.ntmps qaL_b18 qaL_lp18:=
  loopG qaL_i18 qaL_t18 (ko known103) (L:=noL) (zaab (bs:=[]) (by kernel_rfl) trivial) (by kernel_rfl) (fun _=>by kernel_rfl) (zaaa _) (fun _=>by kernel_rfl)
def qaL_L:Nat→Option (Lift.Loop U):=fun n=>bif Nat.beq n 18 then some qaL_lp18 else none
def qaL_md:Mode U:=mdG ⟨⟨[0,1],[],[]⟩,[.t .str,.t (.int .i64)],[]⟩ [] [⟨⟨[0,1],[],[]⟩,[.t (.int .i64),.t (.int .i64)],[]⟩] [.str,.int .i64] [[.int .i64,.int .i64]] qaL
theorem qaL_post:zaad kk env0 125 qaL_md:=
  fnG (fn:=Tryz.f125) (ko known103) (by kernel_rfl) (L:=qaL_L) (zaab (bs:=[qaL_b18]) (by kernel_rfl) ⟨.inr ⟨_,by kernel_rfl,zaai.of_round (qaL_ok18)⟩,trivial⟩) (zaaa _) (by kernel_rfl)
def ms104:List (FuncId×Mode U):=(125,qaL_md)::ms103
theorem known104:Known kk env0 (zaac ms104):=known_cons (by kernel_rfl) qaL_post known103
def qaS_md:Mode U:=mdG ⟨⟨[0,1,2],[],[]⟩,[.t (.st 146),.t (.int .i64),.t (.int .i64)],[]⟩ [] [⟨⟨[0],[],[]⟩,[.t (.st 146)],[]⟩] [.st 146,.int .i64,.int .i64] [[.st 146]] qaS
theorem qaS_post:zaad kk env0 126 qaS_md:=
  fnG (fn:=Tryz.f126) (ko known104) (by kernel_rfl) (L:=noL) (zaab (bs:=[]) (by kernel_rfl) trivial) (zaaa _) (by kernel_rfl)
def ms105:List (FuncId×Mode U):=(126,qaS_md)::ms104
theorem known105:Known kk env0 (zaac ms105):=known_cons (by kernel_rfl) qaS_post known104
def qaT_b3:Code:=(zaag (zaae Tryz.f106) 0)
def qaT_lp3:Lift.Loop U:=lpG ⟨⟨[0,3,4,5],[3,5],[⟨.slot 4,4,146,(.st 146)⟩]⟩,[.t .str,.ptr 3 0,.oslc 4,.ptr 5 0],[.blk 146 [.t (.int .i64),.t (.int .i64),.t (.int .i64),.t (.int .i64)],.blk 146 [.t (.int .i64),.t (.int .i64),.t (.int .i64),.t (.int .i64)],.row 146 (.st 146)]⟩ [⟨.exit 0,⟨⟨[3,4,5],[3,5],[⟨.slot 4,4,146,(.st 146)⟩]⟩,[.ptr 3 0,.oslc 4,.ptr 5 0],[.blk 146 [.t (.int .i64),.t (.int .i64),.t (.int .i64),.t (.int .i64)],.blk 146 [.t (.int .i64),.t (.int .i64),.t (.int .i64),.t (.int .i64)],.row 146 (.st 146)]⟩⟩] [.str,.int .i64,.int .i64,.int .i64,.int .i64,.int .i64,.int .i64,.int .i64,.int .i64,.slc (.st 146)] [[.int .i64,.int .i64,.int .i64,.int .i64,.int .i64,.int .i64,.int .i64,.int .i64,.slc (.st 146)]] qaT_l3
theorem qaT_ok3:LoopR kk env0 Tryz.f106.ntmps qaT_b3 qaT_lp3:=
  loopG qaT_i3 qaT_t3 (ko known105) (L:=noL) (zaab (bs:=[]) (by kernel_rfl) trivial) (by kernel_rfl) (fun _=>by kernel_rfl) (zaaa _) (fun _=>by kernel_rfl)
def qaT_L:Nat→Option (Lift.Loop U):=fun n=>bif Nat.beq n 3 then some qaT_lp3 else none
def qaT_md:Mode U:=mdG ⟨⟨[0],[],[]⟩,[.t .str],[]⟩ [] [⟨⟨[0,1],[],[⟨.slot 0,100050,146,(.st 146)⟩]⟩,[.oslc 100050,.t (.st 146)],[.row 146 (.st 146)]⟩] [.str] [[.st 146,.slc (.st 146)]] qaT
theorem qaT_post:zaad kk env0 106 qaT_md:=
  fnG (fn:=Tryz.f106) (ko known105) (by kernel_rfl) (L:=qaT_L) (zaab (bs:=[qaT_b3]) (by kernel_rfl) ⟨.inr ⟨_,by kernel_rfl,zaai.of_round (qaT_ok3)⟩,trivial⟩) (zaaa _) (by kernel_rfl)
def ms106:List (FuncId×Mode U):=(106,qaT_md)::ms105
theorem known106:Known kk env0 (zaac ms106):=known_cons (by kernel_rfl) qaT_post known105
def qaQ_md:Mode U:=mdG ⟨⟨[0],[],[]⟩,[.t .str],[]⟩ [] [⟨⟨[0,1],[],[⟨.slot 0,100050,146,(.st 146)⟩]⟩,[.oslc 100050,.t (.st 130)],[.row 146 (.st 146)]⟩] [.str] [[.st 130,.slc (.st 146)]] qaQ
theorem qaQ_post:zaad kk env0 98 qaQ_md:=
  fnG (fn:=Tryz.f98) (ko known106) (by kernel_rfl) (L:=noL) (zaab (bs:=[]) (by kernel_rfl) trivial) (zaaa _) (by kernel_rfl)
def ms107:List (FuncId×Mode U):=(98,qaQ_md)::ms106
theorem known107:Known kk env0 (zaac ms107):=known_cons (by kernel_rfl) qaQ_post known106
def qaM_md:Mode U:=mdG ⟨⟨[0],[],[]⟩,[.t (.int .i64)],[]⟩ [] [⟨⟨[0],[],[]⟩,[.t .bool],[]⟩] [.int .i64] [[.bool]] qaM
theorem qaM_post:zaad kk env0 99 qaM_md:=
  fnG (fn:=Tryz.f99) (ko known107) (by kernel_rfl) (L:=noL) (zaab (bs:=[]) (by kernel_rfl) trivial) (zaaa _) (by kernel_rfl)
def ms108:List (FuncId×Mode U):=(99,qaM_md)::ms107
theorem known108:Known kk env0 (zaac ms108):=known_cons (by kernel_rfl) qaM_post known107
def qaP_md:Mode U:=mdG ⟨⟨[0],[],[]⟩,[.t (.int .i64)],[]⟩ [] [⟨⟨[0],[],[]⟩,[.t .bool],[]⟩] [.int .i64] [[.bool]] qaP
theorem qaP_post:zaad kk env0 107 qaP_md:=
  fnG (fn:=Tryz.f107) (ko known108) (by kernel_rfl) (L:=noL) (zaab (bs:=[]) (by kernel_rfl) trivial) (zaaa _) (by kernel_rfl)
def ms109:List (FuncId×Mode U):=(107,qaP_md)::ms108
theorem known109:Known kk env0 (zaac ms109):=known_cons (by kernel_rfl) qaP_post known108
def qaN_md:Mode U:=mdG ⟨⟨[0],[],[]⟩,[.t (.int .i64)],[]⟩ [] [⟨⟨[0],[],[]⟩,[.t .bool],[]⟩] [.int .i64] [[.bool]] qaN
theorem qaN_post:zaad kk env0 108 qaN_md:=
  fnG (fn:=Tryz.f108) (ko known109) (by kernel_rfl) (L:=noL) (zaab (bs:=[]) (by kernel_rfl) trivial) (zaaa _) (by kernel_rfl)
def ms110:List (FuncId×Mode U):=(108,qaN_md)::ms109
theorem known110:Known kk env0 (zaac ms110):=known_cons (by kernel_rfl) qaN_post known109
def qa0_b2:Code:=(zaag (zaae Tryz.f109) 0)
def qa0_lp2:Lift.Loop U:=lpG ⟨⟨[0,5],[],[]⟩,[.t (.slc (.st 146)),.t (.int .i64)],[]⟩ [⟨.exit 0,⟨⟨[5],[],[]⟩,[.t (.int .i64)],[]⟩⟩] [.slc (.st 146),.int .i64] [[.int .i64]] qa0_l2
theorem qa0_ok2:LoopR kk env0 Tryz.f109.ntmps qa0_b2 qa0_lp2:=
  loopG qa0_i2 qa0_t2 (ko known110) (L:=noL) (zaab (bs:=[]) (by kernel_rfl) trivial) (by kernel_rfl) (fun _=>by kernel_rfl) (zaaa _) (fun _=>by kernel_rfl)
def qa0_L:Nat→Option (Lift.Loop U):=fun n=>bif Nat.beq n 2 then some qa0_lp2 else none
def qa0_md:Mode U:=mdG ⟨⟨[0,1],[],[]⟩,[.t (.slc (.st 146)),.t (.int .i64)],[]⟩ [] [⟨⟨[0],[],[]⟩,[.t (.int .i64)],[]⟩] [.slc (.st 146),.int .i64] [[.int .i64]] qa0
theorem qa0_post:zaad kk env0 109 qa0_md:=
  fnG (fn:=Tryz.f109) (ko known110) (by kernel_rfl) (L:=qa0_L) (zaab (bs:=[qa0_b2]) (by kernel_rfl) ⟨.inr ⟨_,by kernel_rfl,zaai.of_round (qa0_ok2)⟩,trivial⟩) (zaaa _) (by kernel_rfl)
def ms111:List (FuncId×Mode U):=(109,qa0_md)::ms110
theorem known111:Known kk env0 (zaac ms111):=known_cons (by kernel_rfl) qa0_post known110
def qaZ_md:Mode U:=mdG ⟨⟨[0,1,2,3],[],[]⟩,[.t (.slc (.st 146)),.t .str,.t (.int .i64),.t (.int .i64)],[]⟩ [] [⟨⟨[0],[],[]⟩,[.t .str],[]⟩] [.slc (.st 146),.str,.int .i64,.int .i64] [[.str]] qaZ
theorem qaZ_post:zaad kk env0 110 qaZ_md:=
  fnG (fn:=Tryz.f110) (ko known111) (by kernel_rfl) (L:=noL) (zaab (bs:=[]) (by kernel_rfl) trivial) (zaaa _) (by kernel_rfl)
def ms112:List (FuncId×Mode U):=(110,qaZ_md)::ms111
theorem known112:Known kk env0 (zaac ms112):=known_cons (by kernel_rfl) qaZ_post known111
def qaX_md:Mode U:=mdG ⟨⟨[],[],[]⟩,[],[]⟩ [] [⟨⟨[0],[],[⟨.slot 0,100050,9,.str⟩]⟩,[.oslc 100050],[.row 9 .str]⟩] [] [[.slc .str]] qaX
theorem qaX_post:zaad kk env0 111 qaX_md:=
  fnG (fn:=Tryz.f111) (ko known112) (by kernel_rfl) (L:=noL) (zaab (bs:=[]) (by kernel_rfl) trivial) (zaaa _) (by kernel_rfl)
def ms113:List (FuncId×Mode U):=(111,qaX_md)::ms112
theorem known113:Known kk env0 (zaac ms113):=known_cons (by kernel_rfl) qaX_post known112
def qaU_b2:Code:=(zaag (zaae Tryz.f66) 0)
def qaU_lp2:Lift.Loop U:=lpG ⟨⟨[0,1,5],[],[]⟩,[.t (.slc .str),.t .str,.t (.int .i64)],[]⟩ [⟨.ret,⟨⟨[4],[],[]⟩,[.t .bool],[]⟩⟩,⟨.exit 0,⟨⟨[],[],[]⟩,[],[]⟩⟩] [.slc .str,.str,.int .i64] [[.bool],[]] qaU_l2
theorem qaU_ok2:LoopR kk env0 Tryz.f66.ntmps qaU_b2 qaU_lp2:=
  loopG qaU_i2 qaU_t2 (ko known113) (L:=noL) (zaab (bs:=[]) (by kernel_rfl) trivial) (by kernel_rfl) (fun _=>by kernel_rfl) (zaaa _) (fun _=>by kernel_rfl)
def qaU_L:Nat→Option (Lift.Loop U):=fun n=>bif Nat.beq n 2 then some qaU_lp2 else none
def qaU_md:Mode U:=mdG ⟨⟨[0,1],[],[]⟩,[.t (.slc .str),.t .str],[]⟩ [] [⟨⟨[0],[],[]⟩,[.t .bool],[]⟩] [.slc .str,.str] [[.bool]] qaU
theorem qaU_post:zaad kk env0 66 qaU_md:=
  fnG (fn:=Tryz.f66) (ko known113) (by kernel_rfl) (L:=qaU_L) (zaab (bs:=[qaU_b2]) (by kernel_rfl) ⟨.inr ⟨_,by kernel_rfl,zaai.of_round (qaU_ok2)⟩,trivial⟩) (zaaa _) (by kernel_rfl)
def ms114:List (FuncId×Mode U):=(66,qaU_md)::ms113
theorem known114:Known kk env0 (zaac ms114):=known_cons (by kernel_rfl) qaU_post known113
def qaY_b5:Code:=(zaag (zaae Tryz.f112) 0)
def qaY_lp5:Lift.Loop U:=lpG ⟨⟨[0,4,5],[],[]⟩,[.t .str,.t (.int .i64),.t (.int .i64)],[]⟩ [⟨.ret,⟨⟨[2,3],[],[]⟩,[.t (.int .i64),.t .bool],[]⟩⟩,⟨.exit 0,⟨⟨[4],[],[]⟩,[.t (.int .i64)],[]⟩⟩] [.str,.int .i64,.int .i64] [[.int .i64,.bool],[.int .i64]] qaY_l5
theorem qaY_ok5:LoopR kk env0 Tryz.f112.ntmps qaY_b5 qaY_lp5:=
  loopG qaY_i5 qaY_t5 (ko known114) (L:=noL) (zaab (bs:=[]) (by kernel_rfl) trivial) (by kernel_rfl) (fun _=>by kernel_rfl) (zaaa _) (fun _=>by kernel_rfl)
def qaY_L:Nat→Option (Lift.Loop U):=fun n=>bif Nat.beq n 5 then some qaY_lp5 else none
def qaY_md:Mode U:=mdG ⟨⟨[0],[],[]⟩,[.t .str],[]⟩ [] [⟨⟨[0,1],[],[]⟩,[.t (.int .i64),.t .bool],[]⟩] [.str] [[.int .i64,.bool]] qaY
theorem qaY_post:zaad kk env0 112 qaY_md:=
  fnG (fn:=Tryz.f112) (ko known114) (by kernel_rfl) (L:=qaY_L) (zaab (bs:=[qaY_b5]) (by kernel_rfl) ⟨.inr ⟨_,by kernel_rfl,zaai.of_round (qaY_ok5)⟩,trivial⟩) (zaaa _) (by kernel_rfl)
def ms115:List (FuncId×Mode U):=(112,qaY_md)::ms114
theorem known115:Known kk env0 (zaac ms115):=known_cons (by kernel_rfl) qaY_post known114
def qa2_md:Mode U:=mdG ⟨⟨[],[],[]⟩,[],[]⟩ [] [⟨⟨[0],[],[⟨.slot 0,100050,9,.str⟩]⟩,[.oslc 100050],[.row 9 .str]⟩] [] [[.slc .str]] qa2
theorem qa2_post:zaad kk env0 128 qa2_md:=
  fnG (fn:=Tryz.f128) (ko known115) (by kernel_rfl) (L:=noL) (zaab (bs:=[]) (by kernel_rfl) trivial) (zaaa _) (by kernel_rfl)
def ms116:List (FuncId×Mode U):=(128,qa2_md)::ms115
theorem known116:Known kk env0 (zaac ms116):=known_cons (by kernel_rfl) qa2_post known115
def qa1_b3:Code:=(zaag (zaae Tryz.f113) 0)
def qa1_lp3:Lift.Loop U:=lpG ⟨⟨[0,1,5,6],[],[⟨.slot 5,5,9,.str⟩]⟩,[.t .str,.t (.int .i64),.oslc 5,.t (.int .i64)],[.row 9 .str]⟩ [⟨.ret,⟨⟨[4],[],[]⟩,[.t .str],[]⟩⟩,⟨.exit 0,⟨⟨[],[],[]⟩,[],[]⟩⟩] [.str,.int .i64,.int .i64,.slc .str] [[.str],[]] qa1_l3
theorem qa1_ok3:LoopR kk env0 Tryz.f113.ntmps qa1_b3 qa1_lp3:=
  loopG qa1_i3 qa1_t3 (ko known116) (L:=noL) (zaab (bs:=[]) (by kernel_rfl) trivial) (by kernel_rfl) (fun _=>by kernel_rfl) (zaaa _) (fun _=>by kernel_rfl)
def qa1_L:Nat→Option (Lift.Loop U):=fun n=>bif Nat.beq n 3 then some qa1_lp3 else none
def qa1_md:Mode U:=mdG ⟨⟨[0,1],[],[]⟩,[.t .str,.t (.int .i64)],[]⟩ [] [⟨⟨[0],[],[]⟩,[.t .str],[]⟩] [.str,.int .i64] [[.str]] qa1
theorem qa1_post:zaad kk env0 113 qa1_md:=
  fnG (fn:=Tryz.f113) (ko known116) (by kernel_rfl) (L:=qa1_L) (zaab (bs:=[qa1_b3]) (by kernel_rfl) ⟨.inr ⟨_,by kernel_rfl,zaai.of_round (qa1_ok3)⟩,trivial⟩) (zaaa _) (by kernel_rfl)
def ms117:List (FuncId×Mode U):=(113,qa1_md)::ms116
theorem known117:Known kk env0 (zaac ms117):=known_cons (by kernel_rfl) qa1_post known116
def qa3_md:Mode U:=mdG ⟨⟨[0,1,2],[],[]⟩,[.t (.slc (.st 146)),.t .str,.t (.int .i64)],[]⟩ [] [⟨⟨[0,1,2],[],[]⟩,[.t (.st 134),.t (.int .i64),.t (.int .i64)],[]⟩] [.slc (.st 146),.str,.int .i64] [[.st 134,.int .i64,.int .i64]] qa3
theorem qa3_post:zaad kk env0 100 qa3_md:=
  fnG (fn:=Tryz.f100) (ko known117) (by kernel_rfl) (L:=noL) (zaab (bs:=[]) (by kernel_rfl) trivial) (zaaa _) (by kernel_rfl)
def ms118:List (FuncId×Mode U):=(100,qa3_md)::ms117
theorem known118:Known kk env0 (zaac ms118):=known_cons (by kernel_rfl) qa3_post known117
def qaW_b11:Code:=(zaag (zaag (zaae Tryz.f92) 0) 0)
def qaW_lp11:Lift.Loop U:=lpG ⟨⟨[0,3,4,6,7],[3],[⟨.slot 6,6,134,(.st 134)⟩]⟩,[.t .str,.ptr 3 0,.t (.slc (.st 146)),.oslc 6,.t (.int .i64)],[.blk 130 [.t (.int .i64),.t (.int .i64),.t .str],.row 134 (.st 134)]⟩ [⟨.exit 2,⟨⟨[0,3,4,6,7],[3],[⟨.slot 6,6,134,(.st 134)⟩]⟩,[.t .str,.ptr 3 0,.t (.slc (.st 146)),.oslc 6,.t (.int .i64)],[.blk 130 [.t (.int .i64),.t (.int .i64),.t .str],.row 134 (.st 134)]⟩⟩] [.str,.slc (.st 146),.int .i64,.int .i64,.int .i64,.str,.slc (.st 134)] [[.str,.slc (.st 146),.int .i64,.int .i64,.int .i64,.str,.slc (.st 134)]] qaW_l11
theorem qaW_ok11:LoopR kk env0 Tryz.f92.ntmps qaW_b11 qaW_lp11:=
  loopG qaW_i11 qaW_t11 (ko known118) (L:=noL) (zaab (bs:=[]) (by kernel_rfl) trivial) (by kernel_rfl) (fun _=>by kernel_rfl) (zaaa _) (fun _=>by kernel_rfl)
def qaW_b6:Code:=(zaag (zaae Tryz.f92) 0)
def qaW_L6:Nat→Option (Lift.Loop U):=fun n=>bif Nat.beq n 11 then some qaW_lp11 else none
def qaW_lp6:Lift.Loop U:=lpG ⟨⟨[0,3,4,6,7],[3],[⟨.slot 6,6,134,(.st 134)⟩]⟩,[.t .str,.ptr 3 0,.t (.slc (.st 146)),.oslc 6,.t (.int .i64)],[.blk 130 [.t (.int .i64),.t (.int .i64),.t .str],.row 134 (.st 134)]⟩ [⟨.ret,⟨⟨[2,3],[3],[]⟩,[.nil,.ptr 3 0],[.blk 130 [.t (.int .i64),.t (.int .i64),.t .str]]⟩⟩,⟨.exit 0,⟨⟨[0,3,6],[3],[⟨.slot 6,6,134,(.st 134)⟩]⟩,[.t .str,.ptr 3 0,.oslc 6],[.blk 130 [.t (.int .i64),.t (.int .i64),.t .str],.row 134 (.st 134)]⟩⟩] [.str,.slc (.st 146),.int .i64,.int .i64,.int .i64,.str,.slc (.st 134)] [[.int .i64,.int .i64,.str],[.str,.int .i64,.int .i64,.str,.slc (.st 134)]] qaW_l6
theorem qaW_ok6:LoopR kk env0 Tryz.f92.ntmps qaW_b6 qaW_lp6:=
  loopG qaW_i6 qaW_t6 (ko known118) (L:=qaW_L6) (zaab (bs:=[qaW_b11]) (by kernel_rfl) ⟨.inr ⟨_,by kernel_rfl,zaai.of_round (qaW_ok11)⟩,trivial⟩) (by kernel_rfl) (fun _=>by kernel_rfl) (zaaa _) (fun _=>by kernel_rfl)
def qaW_L:Nat→Option (Lift.Loop U):=fun n=>bif Nat.beq n 6 then some qaW_lp6 else none
def qaW_md:Mode U:=mdG ⟨⟨[0],[],[]⟩,[.t .str],[]⟩ [] [⟨⟨[0,1],[],[⟨.slot 0,100050,134,(.st 134)⟩]⟩,[.oslc 100050,.t (.st 130)],[.row 134 (.st 134)]⟩] [.str] [[.st 130,.slc (.st 134)]] qaW
theorem qaW_post:zaad kk env0 92 qaW_md:=
  fnG (fn:=Tryz.f92) (ko known118) (by kernel_rfl) (L:=qaW_L) (zaab (bs:=[qaW_b6]) (by kernel_rfl) ⟨.inr ⟨_,by kernel_rfl,zaai.of_round (qaW_ok6)⟩,trivial⟩) (zaaa _) (by kernel_rfl)
def ms119:List (FuncId×Mode U):=(92,qaW_md)::ms118
theorem known119:Known kk env0 (zaac ms119):=known_cons (by kernel_rfl) qaW_post known118
def qaV_md:Mode U:=mdG ⟨⟨[0],[],[]⟩,[.t .str],[]⟩ [] [⟨⟨[0],[],[]⟩,[.t .bool],[]⟩] [.str] [[.bool]] qaV
theorem qaV_post:zaad kk env0 69 qaV_md:=
  fnG (fn:=Tryz.f69) (ko known119) (by kernel_rfl) (L:=noL) (zaab (bs:=[]) (by kernel_rfl) trivial) (zaaa _) (by kernel_rfl)
def ms120:List (FuncId×Mode U):=(69,qaV_md)::ms119
theorem known120:Known kk env0 (zaac ms120):=known_cons (by kernel_rfl) qaV_post known119
abbrev qbb_tr:Type:=curT U (sumT U [[.bool]]) [.st 60]
def qbb_rmd (rec_qbb:qbb_tr):Mode U:=mdG ⟨⟨[0],[],[]⟩,[.t (.st 60)],[]⟩ [] [⟨⟨[0],[],[]⟩,[.t .bool],[]⟩] [.st 60] [[.bool]] rec_qbb
abbrev qbb_rec (r:qbb_tr):Prop:=zaad kk env0 101 (qbb_rmd r)
def ms121 (rec_qbb:qbb_tr):List (FuncId×Mode U):=(101,(qbb_rmd rec_qbb))::ms120
theorem known121 (rec_qbb:qbb_tr) (hrec_qbb:qbb_rec rec_qbb):Known kk env0 (zaac (ms121 rec_qbb)):=known_cons (by kernel_rfl) hrec_qbb known120
def qbb_b14:Code:=(zaag (zaae Tryz.f101) 0)
def qbb_lp14 (rec_qbb:qbb_tr):Lift.Loop U:=lpG ⟨⟨[1,5],[1],[]⟩,[.ptr 1 0,.t (.int .i64)],[.blk 60 [.t (.int .i64),.t (.int .i64),.t .str,.t (.slc (.st 60))]]⟩ [⟨.ret,⟨⟨[2],[],[]⟩,[.t .bool],[]⟩⟩,⟨.exit 1,⟨⟨[],[],[]⟩,[],[]⟩⟩] [.int .i64,.int .i64,.int .i64,.str,.slc (.st 60)] [[.bool],[]] (qbb_l14 rec_qbb)
theorem qbb_ok14 (rec_qbb:qbb_tr) (hrec_qbb:qbb_rec rec_qbb):LoopR kk env0 Tryz.f101.ntmps qbb_b14 (qbb_lp14 rec_qbb):=
  loopG (qbb_i14 rec_qbb) (qbb_t14 rec_qbb) (ko (known121 rec_qbb hrec_qbb)) (L:=jnL) (zaab (bs:=[]) (by kernel_rfl) trivial) (by kernel_rfl) (fun _=>by kernel_rfl) (zaaa _) (fun _=>by kernel_rfl)
def qbb_L (rec_qbb:qbb_tr):Nat→Option (Lift.Loop U):=fun n=>bif Nat.beq n zaak then some zaaj else bif Nat.beq n 14 then some (qbb_lp14 rec_qbb) else none
def qbb_md:Mode U:=qbb_rmd qbb
theorem qbb_step (rec_qbb:qbb_tr) (hrec_qbb:qbb_rec rec_qbb):zaao (Kit.withModes kk (zaac (ms121 rec_qbb))) env0 Tryz.f101.ntmps (qbb_L rec_qbb) (zaae Tryz.f101):=zaab (bs:=[qbb_b14]) (by kernel_rfl) ⟨.inr ⟨_,by kernel_rfl,zaai.of_round (qbb_ok14 rec_qbb hrec_qbb)⟩,trivial⟩
theorem qbb_post:zaad kk env0 101 (qbb_rmd qbb):=
  recG qbb_i qbb_f (by kernel_rfl) (fun _=>by kernel_rfl) (zaaa _) fun r ih=>fnG (fn:=Tryz.f101) (ko (known121 r ih)) (by kernel_rfl) (qbb_step r ih) rfl (by kernel_rfl)
def ms122:List (FuncId×Mode U):=(101,qbb_md)::ms120
theorem known122:Known kk env0 (zaac ms122):=known_cons (by kernel_rfl) qbb_post known120
abbrev qbm_tr:Type:=curT U (sumT U [[.bool]]) [.slc (.st 62)]
def qbm_rmd (rec_qbm:qbm_tr):Mode U:=mdG ⟨⟨[0],[],[]⟩,[.t (.slc (.st 62))],[]⟩ [] [⟨⟨[0],[],[]⟩,[.t .bool],[]⟩] [.slc (.st 62)] [[.bool]] rec_qbm
abbrev qbm_rec (r:qbm_tr):Prop:=zaad kk env0 70 (qbm_rmd r)
def ms123 (rec_qbm:qbm_tr):List (FuncId×Mode U):=(70,(qbm_rmd rec_qbm))::ms122
theorem known123 (rec_qbm:qbm_tr) (hrec_qbm:qbm_rec rec_qbm):Known kk env0 (zaac (ms123 rec_qbm)):=known_cons (by kernel_rfl) hrec_qbm known122
def qbl_md (rec_qbm:qbm_tr):Mode U:=mdG ⟨⟨[0],[],[]⟩,[.t (.st 62)],[]⟩ [] [⟨⟨[0],[],[]⟩,[.t .bool],[]⟩] [.st 62] [[.bool]] (qbl rec_qbm)
theorem qbl_post (rec_qbm:qbm_tr) (hrec_qbm:qbm_rec rec_qbm):zaad kk env0 93 (qbl_md rec_qbm):=
  fnG (fn:=Tryz.f93) (ko (known123 rec_qbm hrec_qbm)) (by kernel_rfl) (L:=jnL) (zaab (bs:=[]) (by kernel_rfl) trivial) (zaaa _) (by kernel_rfl)
def ms124 (rec_qbm:qbm_tr):List (FuncId×Mode U):=(93,(qbl_md rec_qbm))::(ms123 rec_qbm)
theorem known124 (rec_qbm:qbm_tr) (hrec_qbm:qbm_rec rec_qbm):Known kk env0 (zaac (ms124 rec_qbm)):=known_cons (by kernel_rfl) (qbl_post rec_qbm hrec_qbm) (known123 rec_qbm hrec_qbm)
def qbm_b2:Code:=(zaag (zaae Tryz.f70) 0)
def qbm_lp2 (rec_qbm:qbm_tr):Lift.Loop U:=lpG ⟨⟨[0,3],[],[]⟩,[.t (.slc (.st 62)),.t (.int .i64)],[]⟩ [⟨.ret,⟨⟨[2],[],[]⟩,[.t .bool],[]⟩⟩,⟨.exit 0,⟨⟨[],[],[]⟩,[],[]⟩⟩] [.slc (.st 62),.int .i64] [[.bool],[]] (qbm_l2 rec_qbm)
theorem qbm_ok2 (rec_qbm:qbm_tr) (hrec_qbm:qbm_rec rec_qbm):LoopR kk env0 Tryz.f70.ntmps qbm_b2 (qbm_lp2 rec_qbm):=
  loopG (qbm_i2 rec_qbm) (qbm_t2 rec_qbm) (ko (known124 rec_qbm hrec_qbm)) (L:=jnL) (zaab (bs:=[]) (by kernel_rfl) trivial) (by kernel_rfl) (fun _=>by kernel_rfl) (zaaa _) (fun _=>by kernel_rfl)
def qbm_L (rec_qbm:qbm_tr):Nat→Option (Lift.Loop U):=fun n=>bif Nat.beq n zaak then some zaaj else bif Nat.beq n 2 then some (qbm_lp2 rec_qbm) else none
def qbm_md:Mode U:=qbm_rmd qbm
theorem qbm_step (rec_qbm:qbm_tr) (hrec_qbm:qbm_rec rec_qbm):zaao (Kit.withModes kk (zaac (ms124 rec_qbm))) env0 Tryz.f70.ntmps (qbm_L rec_qbm) (zaae Tryz.f70):=zaab (bs:=[qbm_b2]) (by kernel_rfl) ⟨.inr ⟨_,by kernel_rfl,zaai.of_round (qbm_ok2 rec_qbm hrec_qbm)⟩,trivial⟩
theorem qbm_post:zaad kk env0 70 (qbm_rmd qbm):=
  recG qbm_i qbm_f (by kernel_rfl) (fun _=>by kernel_rfl) (zaaa _) fun r ih=>fnG (fn:=Tryz.f70) (ko (known124 r ih)) (by kernel_rfl) (qbm_step r ih) rfl (by kernel_rfl)
def ms125:List (FuncId×Mode U):=(70,qbm_md)::ms122
theorem known125:Known kk env0 (zaac ms125):=known_cons (by kernel_rfl) qbm_post known122
def qbj_b2:Code:=(zaag (zaae Tryz.f45) 0)
def qbj_lp2:Lift.Loop U:=lpG ⟨⟨[1,3],[1],[]⟩,[.ptr 1 0,.t (.int .i64)],[.blk 26 [.t (.slc (.st 48)),.t (.slc .str),.t (.slc (.st 51))]]⟩ [⟨.ret,⟨⟨[2],[],[]⟩,[.t .bool],[]⟩⟩,⟨.exit 0,⟨⟨[1],[1],[]⟩,[.ptr 1 0],[.blk 26 [.t (.slc (.st 48)),.t (.slc .str),.t (.slc (.st 51))]]⟩⟩] [.int .i64,.slc (.st 48),.slc .str,.slc (.st 51)] [[.bool],[.slc (.st 48),.slc .str,.slc (.st 51)]] qbj_l2
theorem qbj_ok2:LoopR kk env0 Tryz.f45.ntmps qbj_b2 qbj_lp2:=
  loopG qbj_i2 qbj_t2 (ko known125) (L:=jnL) (zaab (bs:=[]) (by kernel_rfl) trivial) (by kernel_rfl) (fun _=>by kernel_rfl) (zaaa _) (fun _=>by kernel_rfl)
def qbj_b8:Code:=(zaag (zaae Tryz.f45) 1)
def qbj_lp8:Lift.Loop U:=lpG ⟨⟨[1,5],[1],[]⟩,[.ptr 1 0,.t (.int .i64)],[.blk 26 [.t (.slc (.st 48)),.t (.slc .str),.t (.slc (.st 51))]]⟩ [⟨.ret,⟨⟨[2],[],[]⟩,[.t .bool],[]⟩⟩,⟨.exit 2,⟨⟨[1],[1],[]⟩,[.ptr 1 0],[.blk 26 [.t (.slc (.st 48)),.t (.slc .str),.t (.slc (.st 51))]]⟩⟩] [.int .i64,.slc (.st 48),.slc .str,.slc (.st 51)] [[.bool],[.slc (.st 48),.slc .str,.slc (.st 51)]] qbj_l8
theorem qbj_ok8:LoopR kk env0 Tryz.f45.ntmps qbj_b8 qbj_lp8:=
  loopG qbj_i8 qbj_t8 (ko known125) (L:=jnL) (zaab (bs:=[]) (by kernel_rfl) trivial) (by kernel_rfl) (fun _=>by kernel_rfl) (zaaa _) (fun _=>by kernel_rfl)
def qbj_b14:Code:=(zaag (zaae Tryz.f45) 2)
def qbj_lp14:Lift.Loop U:=lpG ⟨⟨[1,7],[1],[]⟩,[.ptr 1 0,.t (.int .i64)],[.blk 26 [.t (.slc (.st 48)),.t (.slc .str),.t (.slc (.st 51))]]⟩ [⟨.ret,⟨⟨[2],[],[]⟩,[.t .bool],[]⟩⟩,⟨.exit 4,⟨⟨[],[],[]⟩,[],[]⟩⟩] [.int .i64,.slc (.st 48),.slc .str,.slc (.st 51)] [[.bool],[]] qbj_l14
theorem qbj_ok14:LoopR kk env0 Tryz.f45.ntmps qbj_b14 qbj_lp14:=
  loopG qbj_i14 qbj_t14 (ko known125) (L:=jnL) (zaab (bs:=[]) (by kernel_rfl) trivial) (by kernel_rfl) (fun _=>by kernel_rfl) (zaaa _) (fun _=>by kernel_rfl)
def qbj_L:Nat→Option (Lift.Loop U):=fun n=>bif Nat.beq n zaak then some zaaj else bif Nat.beq n 2 then some qbj_lp2 else bif Nat.beq n 8 then some qbj_lp8 else bif Nat.beq n 14 then some qbj_lp14 else none
def qbj_md:Mode U:=mdG ⟨⟨[0],[],[]⟩,[.t (.st 26)],[]⟩ [] [⟨⟨[0],[],[]⟩,[.t .bool],[]⟩] [.st 26] [[.bool]] qbj
theorem qbj_post:zaad kk env0 45 qbj_md:=
  fnG (fn:=Tryz.f45) (ko known125) (by kernel_rfl) (L:=qbj_L) (zaab (bs:=[qbj_b2,qbj_b8,qbj_b14]) (by kernel_rfl) ⟨.inr ⟨_,by kernel_rfl,zaai.of_round (qbj_ok2)⟩,.inr ⟨_,by kernel_rfl,zaai.of_round (qbj_ok8)⟩,.inr ⟨_,by kernel_rfl,zaai.of_round (qbj_ok14)⟩,trivial⟩) (zaaa _) (by kernel_rfl)
def ms126:List (FuncId×Mode U):=(45,qbj_md)::ms125
theorem known126:Known kk env0 (zaac ms126):=known_cons (by kernel_rfl) qbj_post known125
def qbe_md:Mode U:=mdG ⟨⟨[0],[],[]⟩,[.t (.st 26)],[]⟩ [] [⟨⟨[0],[],[]⟩,[.t (.int .i64)],[]⟩] [.st 26] [[.int .i64]] qbe
theorem qbe_post:zaad kk env0 21 qbe_md:=
  fnG (fn:=Tryz.f21) (ko known126) (by kernel_rfl) (L:=jnL) (zaab (bs:=[]) (by kernel_rfl) trivial) (zaaa _) (by kernel_rfl)
def ms127:List (FuncId×Mode U):=(21,qbe_md)::ms126
theorem known127:Known kk env0 (zaac ms127):=known_cons (by kernel_rfl) qbe_post known126
abbrev qbg_tr:Type:=curT U (sumT U [[.bool]]) [.st 60,.st 60]
def qbg_rmd (rec_qbg:qbg_tr):Mode U:=mdG ⟨⟨[0,1],[],[]⟩,[.t (.st 60),.t (.st 60)],[]⟩ [] [⟨⟨[0],[],[]⟩,[.t .bool],[]⟩] [.st 60,.st 60] [[.bool]] rec_qbg
abbrev qbg_rec (r:qbg_tr):Prop:=zaad kk env0 61 (qbg_rmd r)
def ms130 (rec_qbg:qbg_tr):List (FuncId×Mode U):=(61,(qbg_rmd rec_qbg))::ms127
theorem known130 (rec_qbg:qbg_tr) (hrec_qbg:qbg_rec rec_qbg):Known kk env0 (zaac (ms130 rec_qbg)):=known_cons (by kernel_rfl) hrec_qbg known127
def qbg_b4:Code:=(zaag (zaae Tryz.f61) 0)
def qbg_lp4 (rec_qbg:qbg_tr):Lift.Loop U:=lpG ⟨⟨[2,3,5],[2,3],[]⟩,[.ptr 2 0,.ptr 3 0,.t (.int .i64)],[.blk 60 [.t (.int .i64),.t (.int .i64),.t .str,.t (.slc (.st 60))],.blk 60 [.t (.int .i64),.t (.int .i64),.t .str,.t (.slc (.st 60))]]⟩ [⟨.ret,⟨⟨[4],[],[]⟩,[.t .bool],[]⟩⟩,⟨.exit 0,⟨⟨[],[],[]⟩,[],[]⟩⟩] [.int .i64,.int .i64,.int .i64,.str,.slc (.st 60),.int .i64,.int .i64,.str,.slc (.st 60)] [[.bool],[]] (qbg_l4 rec_qbg)
theorem qbg_ok4 (rec_qbg:qbg_tr) (hrec_qbg:qbg_rec rec_qbg):LoopR kk env0 Tryz.f61.ntmps qbg_b4 (qbg_lp4 rec_qbg):=
  loopG (qbg_i4 rec_qbg) (qbg_t4 rec_qbg) (ko (known130 rec_qbg hrec_qbg)) (L:=jnL) (zaab (bs:=[]) (by kernel_rfl) trivial) (by kernel_rfl) (fun _=>by kernel_rfl) (zaaa _) (fun _=>by kernel_rfl)
def qbg_L (rec_qbg:qbg_tr):Nat→Option (Lift.Loop U):=fun n=>bif Nat.beq n zaak then some zaaj else bif Nat.beq n 4 then some (qbg_lp4 rec_qbg) else none
def qbg_md:Mode U:=qbg_rmd qbg
theorem qbg_step (rec_qbg:qbg_tr) (hrec_qbg:qbg_rec rec_qbg):zaao (Kit.withModes kk (zaac (ms130 rec_qbg))) env0 Tryz.f61.ntmps (qbg_L rec_qbg) (zaae Tryz.f61):=zaab (bs:=[qbg_b4]) (by kernel_rfl) ⟨.inr ⟨_,by kernel_rfl,zaai.of_round (qbg_ok4 rec_qbg hrec_qbg)⟩,trivial⟩
theorem qbg_post:zaad kk env0 61 (qbg_rmd qbg):=
  recG qbg_i qbg_f (by kernel_rfl) (fun _=>by kernel_rfl) (zaaa _) fun r ih=>fnG (fn:=Tryz.f61) (ko (known130 r ih)) (by kernel_rfl) (qbg_step r ih) rfl (by kernel_rfl)
def ms131:List (FuncId×Mode U):=(61,qbg_md)::ms127
theorem known131:Known kk env0 (zaac ms131):=known_cons (by kernel_rfl) qbg_post known127
abbrev qbk_tr:Type:=curT U (sumT U [[.bool]]) [.slc (.st 62),.slc (.st 62)]
def qbk_rmd (rec_qbk:qbk_tr):Mode U:=mdG ⟨⟨[0,1],[],[]⟩,[.t (.slc (.st 62)),.t (.slc (.st 62))],[]⟩ [] [⟨⟨[0],[],[]⟩,[.t .bool],[]⟩] [.slc (.st 62),.slc (.st 62)] [[.bool]] rec_qbk
abbrev qbk_rec (r:qbk_tr):Prop:=zaad kk env0 33 (qbk_rmd r)
def ms132 (rec_qbk:qbk_tr):List (FuncId×Mode U):=(33,(qbk_rmd rec_qbk))::ms131
theorem known132 (rec_qbk:qbk_tr) (hrec_qbk:qbk_rec rec_qbk):Known kk env0 (zaac (ms132 rec_qbk)):=known_cons (by kernel_rfl) hrec_qbk known131
def qbk_b4:Code:=(zaag (zaae Tryz.f33) 0)
def qbk_lp4 (rec_qbk:qbk_tr):Lift.Loop U:=lpG ⟨⟨[0,1,5],[],[]⟩,[.t (.slc (.st 62)),.t (.slc (.st 62)),.t (.int .i64)],[]⟩ [⟨.ret,⟨⟨[4],[],[]⟩,[.t .bool],[]⟩⟩,⟨.exit 0,⟨⟨[],[],[]⟩,[],[]⟩⟩] [.slc (.st 62),.slc (.st 62),.int .i64] [[.bool],[]] (qbk_l4 rec_qbk)
theorem qbk_ok4 (rec_qbk:qbk_tr) (hrec_qbk:qbk_rec rec_qbk):LoopR kk env0 Tryz.f33.ntmps qbk_b4 (qbk_lp4 rec_qbk):=
  loopG (qbk_i4 rec_qbk) (qbk_t4 rec_qbk) (ko (known132 rec_qbk hrec_qbk)) (L:=jnL) (zaab (bs:=[]) (by kernel_rfl) trivial) (by kernel_rfl) (fun _=>by kernel_rfl) (zaaa _) (fun _=>by kernel_rfl)
def qbk_L (rec_qbk:qbk_tr):Nat→Option (Lift.Loop U):=fun n=>bif Nat.beq n zaak then some zaaj else bif Nat.beq n 4 then some (qbk_lp4 rec_qbk) else none
def qbk_md:Mode U:=qbk_rmd qbk
theorem qbk_step (rec_qbk:qbk_tr) (hrec_qbk:qbk_rec rec_qbk):zaao (Kit.withModes kk (zaac (ms132 rec_qbk))) env0 Tryz.f33.ntmps (qbk_L rec_qbk) (zaae Tryz.f33):=zaab (bs:=[qbk_b4]) (by kernel_rfl) ⟨.inr ⟨_,by kernel_rfl,zaai.of_round (qbk_ok4 rec_qbk hrec_qbk)⟩,trivial⟩
theorem qbk_post:zaad kk env0 33 (qbk_rmd qbk):=
  recG qbk_i qbk_f (by kernel_rfl) (fun _=>by kernel_rfl) (zaaa _) fun r ih=>fnG (fn:=Tryz.f33) (ko (known132 r ih)) (by kernel_rfl) (qbk_step r ih) rfl (by kernel_rfl)
def ms133:List (FuncId×Mode U):=(33,qbk_md)::ms131
theorem known133:Known kk env0 (zaac ms133):=known_cons (by kernel_rfl) qbk_post known131
def qbf_b4:Code:=(zaag (zaae Tryz.f12) 0)
def qbf_lp4:Lift.Loop U:=lpG ⟨⟨[2,3,5],[2,3],[]⟩,[.ptr 2 0,.ptr 3 0,.t (.int .i64)],[.blk 26 [.t (.slc (.st 48)),.t (.slc .str),.t (.slc (.st 51))],.blk 26 [.t (.slc (.st 48)),.t (.slc .str),.t (.slc (.st 51))]]⟩ [⟨.ret,⟨⟨[4],[],[]⟩,[.t .bool],[]⟩⟩,⟨.exit 0,⟨⟨[2,3],[2,3],[]⟩,[.ptr 2 0,.ptr 3 0],[.blk 26 [.t (.slc (.st 48)),.t (.slc .str),.t (.slc (.st 51))],.blk 26 [.t (.slc (.st 48)),.t (.slc .str),.t (.slc (.st 51))]]⟩⟩] [.int .i64,.slc (.st 48),.slc .str,.slc (.st 51),.slc (.st 48),.slc .str,.slc (.st 51)] [[.bool],[.slc (.st 48),.slc .str,.slc (.st 51),.slc (.st 48),.slc .str,.slc (.st 51)]] qbf_l4
theorem qbf_ok4:LoopR kk env0 Tryz.f12.ntmps qbf_b4 qbf_lp4:=
  loopG qbf_i4 qbf_t4 (ko known133) (L:=jnL) (zaab (bs:=[]) (by kernel_rfl) trivial) (by kernel_rfl) (fun _=>by kernel_rfl) (zaaa _) (fun _=>by kernel_rfl)
def qbf_b9:Code:=(zaag (zaae Tryz.f12) 1)
def qbf_lp9:Lift.Loop U:=lpG ⟨⟨[2,3,6],[2,3],[]⟩,[.ptr 2 0,.ptr 3 0,.t (.int .i64)],[.blk 26 [.t (.slc (.st 48)),.t (.slc .str),.t (.slc (.st 51))],.blk 26 [.t (.slc (.st 48)),.t (.slc .str),.t (.slc (.st 51))]]⟩ [⟨.ret,⟨⟨[4],[],[]⟩,[.t .bool],[]⟩⟩,⟨.exit 2,⟨⟨[2,3],[2,3],[]⟩,[.ptr 2 0,.ptr 3 0],[.blk 26 [.t (.slc (.st 48)),.t (.slc .str),.t (.slc (.st 51))],.blk 26 [.t (.slc (.st 48)),.t (.slc .str),.t (.slc (.st 51))]]⟩⟩] [.int .i64,.slc (.st 48),.slc .str,.slc (.st 51),.slc (.st 48),.slc .str,.slc (.st 51)] [[.bool],[.slc (.st 48),.slc .str,.slc (.st 51),.slc (.st 48),.slc .str,.slc (.st 51)]] qbf_l9
theorem qbf_ok9:LoopR kk env0 Tryz.f12.ntmps qbf_b9 qbf_lp9:=
  loopG qbf_i9 qbf_t9 (ko known133) (L:=jnL) (zaab (bs:=[]) (by kernel_rfl) trivial) (by kernel_rfl) (fun _=>by kernel_rfl) (zaaa _) (fun _=>by kernel_rfl)
def qbf_b14:Code:=(zaag (zaae Tryz.f12) 2)
def qbf_lp14:Lift.Loop U:=lpG ⟨⟨[2,3,7],[2,3],[]⟩,[.ptr 2 0,.ptr 3 0,.t (.int .i64)],[.blk 26 [.t (.slc (.st 48)),.t (.slc .str),.t (.slc (.st 51))],.blk 26 [.t (.slc (.st 48)),.t (.slc .str),.t (.slc (.st 51))]]⟩ [⟨.ret,⟨⟨[4],[],[]⟩,[.t .bool],[]⟩⟩,⟨.exit 4,⟨⟨[],[],[]⟩,[],[]⟩⟩] [.int .i64,.slc (.st 48),.slc .str,.slc (.st 51),.slc (.st 48),.slc .str,.slc (.st 51)] [[.bool],[]] qbf_l14
theorem qbf_ok14:LoopR kk env0 Tryz.f12.ntmps qbf_b14 qbf_lp14:=
  loopG qbf_i14 qbf_t14 (ko known133) (L:=jnL) (zaab (bs:=[]) (by kernel_rfl) trivial) (by kernel_rfl) (fun _=>by kernel_rfl) (zaaa _) (fun _=>by kernel_rfl)
def qbf_L:Nat→Option (Lift.Loop U):=fun n=>bif Nat.beq n zaak then some zaaj else bif Nat.beq n 4 then some qbf_lp4 else bif Nat.beq n 9 then some qbf_lp9 else bif Nat.beq n 14 then some qbf_lp14 else none
def qbf_md:Mode U:=mdG ⟨⟨[0,1],[],[]⟩,[.t (.st 26),.t (.st 26)],[]⟩ [] [⟨⟨[0],[],[]⟩,[.t .bool],[]⟩] [.st 26,.st 26] [[.bool]] qbf
theorem qbf_post:zaad kk env0 12 qbf_md:=
  fnG (fn:=Tryz.f12) (ko known133) (by kernel_rfl) (L:=qbf_L) (zaab (bs:=[qbf_b4,qbf_b9,qbf_b14]) (by kernel_rfl) ⟨.inr ⟨_,by kernel_rfl,zaai.of_round (qbf_ok4)⟩,.inr ⟨_,by kernel_rfl,zaai.of_round (qbf_ok9)⟩,.inr ⟨_,by kernel_rfl,zaai.of_round (qbf_ok14)⟩,trivial⟩) (zaaa _) (by kernel_rfl)
def ms134:List (FuncId×Mode U):=(12,qbf_md)::ms133
theorem known134:Known kk env0 (zaac ms134):=known_cons (by kernel_rfl) qbf_post known133
abbrev qa5_tr:Type:=curT U (sumT U [[.int .i64,.int .i64,.str,.slc (.st 1060)]]) [.st 60]
def qa5_rmd (rec_qa5:qa5_tr):Mode U:=mdG ⟨⟨[0],[],[]⟩,[.t (.st 60)],[]⟩ [] [⟨⟨[0],[],[⟨.sub 0 3,100400,60,(.st 1060)⟩]⟩,[.agg [.t (.int .i64),.t (.int .i64),.t .str,.oslc 100400]],[.row 60 (.st 1060)]⟩] [.st 60] [[.int .i64,.int .i64,.str,.slc (.st 1060)]] rec_qa5
abbrev qa5_rec (r:qa5_tr):Prop:=zaad kk env0 47 (qa5_rmd r)
def ms136 (rec_qa5:qa5_tr):List (FuncId×Mode U):=(47,(qa5_rmd rec_qa5))::ms134
theorem known136 (rec_qa5:qa5_tr) (hrec_qa5:qa5_rec rec_qa5):Known kk env0 (zaac (ms136 rec_qa5)):=known_cons (by kernel_rfl) hrec_qa5 known134
def qa5_b3:Code:=(zaag (zaae Tryz.f47) 0)
def qa5_lp3 (rec_qa5:qa5_tr):Lift.Loop U:=lpG ⟨⟨[1,2,3,4],[1,2,3],[⟨.cell 3 3,20153,60,(.st 1060)⟩]⟩,[.ptr 1 0,.ptr 2 0,.ptr 3 0,.t (.int .i64)],[.blk 60 [.t (.int .i64),.t (.int .i64),.t .str,.t (.slc (.st 60))],.blk 60 [.t (.int .i64),.t (.int .i64),.t .str,.nil],.blk 60 [.t (.int .i64),.t (.int .i64),.t .str,.oslc 20153],.row 60 (.st 1060)]⟩ [⟨.exit 0,⟨⟨[2,3],[2,3],[⟨.cell 3 3,20153,60,(.st 1060)⟩]⟩,[.ptr 2 0,.ptr 3 0],[.blk 60 [.t (.int .i64),.t (.int .i64),.t .str,.nil],.blk 60 [.t (.int .i64),.t (.int .i64),.t .str,.oslc 20153],.row 60 (.st 1060)]⟩⟩] [.int .i64,.int .i64,.int .i64,.str,.slc (.st 60),.int .i64,.int .i64,.str,.int .i64,.int .i64,.str,.slc (.st 1060)] [[.int .i64,.int .i64,.str,.int .i64,.int .i64,.str,.slc (.st 1060)]] (qa5_l3 rec_qa5)
theorem qa5_ok3 (rec_qa5:qa5_tr) (hrec_qa5:qa5_rec rec_qa5):LoopR kk env0 Tryz.f47.ntmps qa5_b3 (qa5_lp3 rec_qa5):=
  loopG (qa5_i3 rec_qa5) (qa5_t3 rec_qa5) (ko (known136 rec_qa5 hrec_qa5)) (L:=jnL) (zaab (bs:=[]) (by kernel_rfl) trivial) (by kernel_rfl) (fun _=>by kernel_rfl) (zaaa _) (fun _=>by kernel_rfl)
def qa5_L (rec_qa5:qa5_tr):Nat→Option (Lift.Loop U):=fun n=>bif Nat.beq n zaak then some zaaj else bif Nat.beq n 3 then some (qa5_lp3 rec_qa5) else none
def qa5_md:Mode U:=qa5_rmd qa5
theorem qa5_step (rec_qa5:qa5_tr) (hrec_qa5:qa5_rec rec_qa5):zaao (Kit.withModes kk (zaac (ms136 rec_qa5))) env0 Tryz.f47.ntmps (qa5_L rec_qa5) (zaae Tryz.f47):=zaab (bs:=[qa5_b3]) (by kernel_rfl) ⟨.inr ⟨_,by kernel_rfl,zaai.of_round (qa5_ok3 rec_qa5 hrec_qa5)⟩,trivial⟩
theorem qa5_post:zaad kk env0 47 (qa5_rmd qa5):=
  recG qa5_i qa5_f (by kernel_rfl) (fun _=>by kernel_rfl) (zaaa _) fun r ih=>fnG (fn:=Tryz.f47) (ko (known136 r ih)) (by kernel_rfl) (qa5_step r ih) rfl (by kernel_rfl)
def ms137:List (FuncId×Mode U):=(47,qa5_md)::ms134
theorem known137:Known kk env0 (zaac ms137):=known_cons (by kernel_rfl) qa5_post known134
abbrev qa6_tr:Type:=curT U (sumT U [[.slc (.st 1062)]]) [.slc (.st 62)]
def qa6_rmd (rec_qa6:qa6_tr):Mode U:=mdG ⟨⟨[0],[],[]⟩,[.t (.slc (.st 62))],[]⟩ [] [⟨⟨[0],[],[⟨.slot 0,100050,62,(.st 1062)⟩]⟩,[.oslc 100050],[.row 62 (.st 1062)]⟩] [.slc (.st 62)] [[.slc (.st 1062)]] rec_qa6
abbrev qa6_rec (r:qa6_tr):Prop:=zaad kk env0 24 (qa6_rmd r)
def ms138 (rec_qa6:qa6_tr):List (FuncId×Mode U):=(24,(qa6_rmd rec_qa6))::ms137
theorem known138 (rec_qa6:qa6_tr) (hrec_qa6:qa6_rec rec_qa6):Known kk env0 (zaac (ms138 rec_qa6)):=known_cons (by kernel_rfl) hrec_qa6 known137
def qa6_b3:Code:=(zaag (zaae Tryz.f24) 0)
def qa6_lp3 (rec_qa6:qa6_tr):Lift.Loop U:=lpG ⟨⟨[0,3,4],[],[⟨.slot 3,3,62,(.st 1062)⟩]⟩,[.t (.slc (.st 62)),.oslc 3,.t (.int .i64)],[.row 62 (.st 1062)]⟩ [⟨.exit 0,⟨⟨[3],[],[⟨.slot 3,3,62,(.st 1062)⟩]⟩,[.oslc 3],[.row 62 (.st 1062)]⟩⟩] [.slc (.st 62),.int .i64,.slc (.st 1062)] [[.slc (.st 1062)]] (qa6_l3 rec_qa6)
theorem qa6_ok3 (rec_qa6:qa6_tr) (hrec_qa6:qa6_rec rec_qa6):LoopR kk env0 Tryz.f24.ntmps qa6_b3 (qa6_lp3 rec_qa6):=
  loopG (qa6_i3 rec_qa6) (qa6_t3 rec_qa6) (ko (known138 rec_qa6 hrec_qa6)) (L:=jnL) (zaab (bs:=[]) (by kernel_rfl) trivial) (by kernel_rfl) (fun _=>by kernel_rfl) (zaaa _) (fun _=>by kernel_rfl)
def qa6_L (rec_qa6:qa6_tr):Nat→Option (Lift.Loop U):=fun n=>bif Nat.beq n zaak then some zaaj else bif Nat.beq n 3 then some (qa6_lp3 rec_qa6) else none
def qa6_md:Mode U:=qa6_rmd qa6
theorem qa6_step (rec_qa6:qa6_tr) (hrec_qa6:qa6_rec rec_qa6):zaao (Kit.withModes kk (zaac (ms138 rec_qa6))) env0 Tryz.f24.ntmps (qa6_L rec_qa6) (zaae Tryz.f24):=zaab (bs:=[qa6_b3]) (by kernel_rfl) ⟨.inr ⟨_,by kernel_rfl,zaai.of_round (qa6_ok3 rec_qa6 hrec_qa6)⟩,trivial⟩
theorem qa6_post:zaad kk env0 24 (qa6_rmd qa6):=
  recG qa6_i qa6_f (by kernel_rfl) (fun _=>by kernel_rfl) (zaaa _) fun r ih=>fnG (fn:=Tryz.f24) (ko (known138 r ih)) (by kernel_rfl) (qa6_step r ih) rfl (by kernel_rfl)
def ms139:List (FuncId×Mode U):=(24,qa6_md)::ms137
theorem known139:Known kk env0 (zaac ms139):=known_cons (by kernel_rfl) qa6_post known137
def qa4_b5:Code:=(zaag (zaae Tryz.f9) 0)
def qa4_lp5:Lift.Loop U:=lpG ⟨⟨[1,2,3,4],[1,2,3],[⟨.cell 3 0,20150,48,(.st 48)⟩,⟨.cell 3 1,20151,9,.str⟩,⟨.cell 3 2,20152,51,(.st 1051)⟩]⟩,[.ptr 1 0,.ptr 2 0,.ptr 3 0,.t (.int .i64)],[.blk 26 [.t (.slc (.st 48)),.t (.slc .str),.t (.slc (.st 51))],.blk 26 [.nil,.nil,.nil],.blk 26 [.oslc 20150,.oslc 20151,.oslc 20152],.row 48 (.st 48),.row 9 .str,.row 51 (.st 1051)]⟩ [⟨.exit 0,⟨⟨[2,3],[2,3],[⟨.cell 3 0,20150,48,(.st 48)⟩,⟨.cell 3 1,20151,9,.str⟩,⟨.cell 3 2,20152,51,(.st 1051)⟩]⟩,[.ptr 2 0,.ptr 3 0],[.blk 26 [.nil,.nil,.nil],.blk 26 [.oslc 20150,.oslc 20151,.oslc 20152],.row 48 (.st 48),.row 9 .str,.row 51 (.st 1051)]⟩⟩] [.int .i64,.slc (.st 48),.slc .str,.slc (.st 51),.slc (.st 48),.slc .str,.slc (.st 1051)] [[.slc (.st 48),.slc .str,.slc (.st 1051)]] qa4_l5
theorem qa4_ok5:LoopR kk env0 Tryz.f9.ntmps qa4_b5 qa4_lp5:=
  loopG qa4_i5 qa4_t5 (ko known139) (L:=jnL) (zaab (bs:=[]) (by kernel_rfl) trivial) (by kernel_rfl) (fun _=>by kernel_rfl) (zaaa _) (fun _=>by kernel_rfl)
def qa4_L:Nat→Option (Lift.Loop U):=fun n=>bif Nat.beq n zaak then some zaaj else bif Nat.beq n 5 then some qa4_lp5 else none
def qa4_md:Mode U:=mdG ⟨⟨[0],[],[]⟩,[.t (.st 26)],[]⟩ [] [⟨⟨[0],[],[⟨.sub 0 0,100100,48,(.st 48)⟩,⟨.sub 0 1,100200,9,.str⟩,⟨.sub 0 2,100300,51,(.st 1051)⟩]⟩,[.agg [.oslc 100100,.oslc 100200,.oslc 100300]],[.row 48 (.st 48),.row 9 .str,.row 51 (.st 1051)]⟩] [.st 26] [[.slc (.st 48),.slc .str,.slc (.st 1051)]] qa4
theorem qa4_post:zaad kk env0 9 qa4_md:=
  fnG (fn:=Tryz.f9) (ko known139) (by kernel_rfl) (L:=qa4_L) (zaab (bs:=[qa4_b5]) (by kernel_rfl) ⟨.inr ⟨_,by kernel_rfl,zaai.of_round (qa4_ok5)⟩,trivial⟩) (zaaa _) (by kernel_rfl)
def ms140:List (FuncId×Mode U):=(9,qa4_md)::ms139
theorem known140:Known kk env0 (zaac ms140):=known_cons (by kernel_rfl) qa4_post known139
def qbv_md:Mode U:=mdG ⟨⟨[0,1,2],[100000],[⟨.cell 100000 0,200000,9,.str⟩,⟨.cell 100000 1,200001,9,.str⟩,⟨.cell 100000 2,200002,9,.str⟩,⟨.cell 100000 3,200003,23,(.own 9 .str)⟩,⟨.cell 100000 4,200004,9,.str⟩]⟩,[.ptr 100000 0,.t (.int .i64),.t .str],[.blk 71 [.oslc 200000,.oslc 200001,.oslc 200002,.oslc 200003,.oslc 200004,.t (.int .i64),.t .str],.row 9 .str,.row 9 .str,.row 9 .str,.row 23 (.own 9 .str),.row 9 .str]⟩ [⟨100000,.slot 0,[]⟩] [⟨⟨[],[100000],[⟨.cell 100000 0,200000,9,.str⟩,⟨.cell 100000 1,200001,9,.str⟩,⟨.cell 100000 2,200002,9,.str⟩,⟨.cell 100000 3,200003,23,(.own 9 .str)⟩,⟨.cell 100000 4,200004,9,.str⟩]⟩,[],[.blk 71 [.oslc 200000,.oslc 200001,.oslc 200002,.oslc 200003,.oslc 200004,.t (.int .i64),.t .str],.row 9 .str,.row 9 .str,.row 9 .str,.row 23 (.own 9 .str),.row 9 .str]⟩] [.int .i64,.str,.int .i64,.str,.slc .str,.slc .str,.slc .str,.slc (.own 9 .str),.slc .str] [[.int .i64,.str,.slc .str,.slc .str,.slc .str,.slc (.own 9 .str),.slc .str]] qbv
theorem qbv_post:zaad kk env0 48 qbv_md:=
  fnG (fn:=Tryz.f48) (ko known140) (by kernel_rfl) (L:=jnL) (zaab (bs:=[]) (by kernel_rfl) trivial) (zaaa _) (by kernel_rfl)
def ms141:List (FuncId×Mode U):=(48,qbv_md)::ms140
theorem known141:Known kk env0 (zaac ms141):=known_cons (by kernel_rfl) qbv_post known140
def qbw_b2:Code:=(zaag (zaae Tryz.f49) 0)
def qbw_lp2:Lift.Loop U:=lpG ⟨⟨[0,1,5],[],[]⟩,[.t (.slc .str),.t .str,.t (.int .i64)],[]⟩ [⟨.ret,⟨⟨[4],[],[]⟩,[.t (.int .i64)],[]⟩⟩,⟨.exit 0,⟨⟨[],[],[]⟩,[],[]⟩⟩] [.slc .str,.str,.int .i64] [[.int .i64],[]] qbw_l2
theorem qbw_ok2:LoopR kk env0 Tryz.f49.ntmps qbw_b2 qbw_lp2:=
  loopG qbw_i2 qbw_t2 (ko known141) (L:=jnL) (zaab (bs:=[]) (by kernel_rfl) trivial) (by kernel_rfl) (fun _=>by kernel_rfl) (zaaa _) (fun _=>by kernel_rfl)
def qbw_L:Nat→Option (Lift.Loop U):=fun n=>bif Nat.beq n zaak then some zaaj else bif Nat.beq n 2 then some qbw_lp2 else none
def qbw_md:Mode U:=mdG ⟨⟨[0,1],[],[]⟩,[.t (.slc .str),.t .str],[]⟩ [] [⟨⟨[0],[],[]⟩,[.t (.int .i64)],[]⟩] [.slc .str,.str] [[.int .i64]] qbw
theorem qbw_post:zaad kk env0 49 qbw_md:=
  fnG (fn:=Tryz.f49) (ko known141) (by kernel_rfl) (L:=qbw_L) (zaab (bs:=[qbw_b2]) (by kernel_rfl) ⟨.inr ⟨_,by kernel_rfl,zaai.of_round (qbw_ok2)⟩,trivial⟩) (zaaa _) (by kernel_rfl)
def ms142:List (FuncId×Mode U):=(49,qbw_md)::ms141
theorem known142:Known kk env0 (zaac ms142):=known_cons (by kernel_rfl) qbw_post known141
def qbr_b2:Code:=(zaag (zaae Tryz.f25) 0)
def qbr_lp2:Lift.Loop U:=lpG ⟨⟨[0,3,4],[100000,3],[⟨.cell 100000 0,200000,9,.str⟩,⟨.cell 100000 1,200001,9,.str⟩,⟨.cell 100000 2,200002,9,.str⟩,⟨.cell 100000 3,200003,23,(.own 9 .str)⟩,⟨.cell 100000 4,200004,9,.str⟩]⟩,[.ptr 100000 0,.ptr 3 0,.t (.int .i64)],[.blk 71 [.oslc 200000,.oslc 200001,.oslc 200002,.oslc 200003,.oslc 200004,.t (.int .i64),.t .str],.blk 26 [.t (.slc (.st 48)),.t (.slc .str),.t (.slc (.st 51))],.row 9 .str,.row 9 .str,.row 9 .str,.row 23 (.own 9 .str),.row 9 .str]⟩ [⟨.exit 0,⟨⟨[0,3],[100000,3],[⟨.cell 100000 0,200000,9,.str⟩,⟨.cell 100000 1,200001,9,.str⟩,⟨.cell 100000 2,200002,9,.str⟩,⟨.cell 100000 3,200003,23,(.own 9 .str)⟩,⟨.cell 100000 4,200004,9,.str⟩]⟩,[.ptr 100000 0,.ptr 3 0],[.blk 71 [.oslc 200000,.oslc 200001,.oslc 200002,.oslc 200003,.oslc 200004,.t (.int .i64),.t .str],.blk 26 [.t (.slc (.st 48)),.t (.slc .str),.t (.slc (.st 51))],.row 9 .str,.row 9 .str,.row 9 .str,.row 23 (.own 9 .str),.row 9 .str]⟩⟩] [.int .i64,.int .i64,.str,.slc (.st 48),.slc .str,.slc (.st 51),.slc .str,.slc .str,.slc .str,.slc (.own 9 .str),.slc .str] [[.int .i64,.str,.slc (.st 48),.slc .str,.slc (.st 51),.slc .str,.slc .str,.slc .str,.slc (.own 9 .str),.slc .str]] qbr_l2
theorem qbr_ok2:LoopR kk env0 Tryz.f25.ntmps qbr_b2 qbr_lp2:=
  loopG qbr_i2 qbr_t2 (ko known142) (L:=jnL) (zaab (bs:=[]) (by kernel_rfl) trivial) (by kernel_rfl) (fun _=>by kernel_rfl) (zaaa _) (fun _=>by kernel_rfl)
def qbr_b7:Code:=(zaag (zaae Tryz.f25) 1)
def qbr_lp7:Lift.Loop U:=lpG ⟨⟨[0,3,5],[100000,3],[⟨.cell 100000 0,200000,9,.str⟩,⟨.cell 100000 1,200001,9,.str⟩,⟨.cell 100000 2,200002,9,.str⟩,⟨.cell 100000 3,200003,23,(.own 9 .str)⟩,⟨.cell 100000 4,200004,9,.str⟩]⟩,[.ptr 100000 0,.ptr 3 0,.t (.int .i64)],[.blk 71 [.oslc 200000,.oslc 200001,.oslc 200002,.oslc 200003,.oslc 200004,.t (.int .i64),.t .str],.blk 26 [.t (.slc (.st 48)),.t (.slc .str),.t (.slc (.st 51))],.row 9 .str,.row 9 .str,.row 9 .str,.row 23 (.own 9 .str),.row 9 .str]⟩ [⟨.exit 2,⟨⟨[0],[100000],[⟨.cell 100000 0,200000,9,.str⟩,⟨.cell 100000 1,200001,9,.str⟩,⟨.cell 100000 2,200002,9,.str⟩,⟨.cell 100000 3,200003,23,(.own 9 .str)⟩,⟨.cell 100000 4,200004,9,.str⟩]⟩,[.ptr 100000 0],[.blk 71 [.oslc 200000,.oslc 200001,.oslc 200002,.oslc 200003,.oslc 200004,.t (.int .i64),.t .str],.row 9 .str,.row 9 .str,.row 9 .str,.row 23 (.own 9 .str),.row 9 .str]⟩⟩] [.int .i64,.int .i64,.str,.slc (.st 48),.slc .str,.slc (.st 51),.slc .str,.slc .str,.slc .str,.slc (.own 9 .str),.slc .str] [[.int .i64,.str,.slc .str,.slc .str,.slc .str,.slc (.own 9 .str),.slc .str]] qbr_l7
theorem qbr_ok7:LoopR kk env0 Tryz.f25.ntmps qbr_b7 qbr_lp7:=
  loopG qbr_i7 qbr_t7 (ko known142) (L:=jnL) (zaab (bs:=[]) (by kernel_rfl) trivial) (by kernel_rfl) (fun _=>by kernel_rfl) (zaaa _) (fun _=>by kernel_rfl)
def qbr_b24:Code:=(zaag (zaae Tryz.f25) 2)
def qbr_lp24:Lift.Loop U:=lpG ⟨⟨[0,6,7],[100000],[⟨.slot 6,6,9,.str⟩,⟨.cell 100000 0,200000,9,.str⟩,⟨.cell 100000 1,200001,9,.str⟩,⟨.cell 100000 2,200002,9,.str⟩,⟨.cell 100000 3,200003,23,(.own 9 .str)⟩,⟨.cell 100000 4,200004,9,.str⟩]⟩,[.ptr 100000 0,.oslc 6,.t (.int .i64)],[.blk 71 [.oslc 200000,.oslc 200001,.oslc 200002,.oslc 200003,.oslc 200004,.t (.int .i64),.t .str],.row 9 .str,.row 9 .str,.row 9 .str,.row 9 .str,.row 23 (.own 9 .str),.row 9 .str]⟩ [⟨.exit 5,⟨⟨[],[100000],[⟨.cell 100000 0,200000,9,.str⟩,⟨.cell 100000 1,200001,9,.str⟩,⟨.cell 100000 2,200002,9,.str⟩,⟨.cell 100000 3,200003,23,(.own 9 .str)⟩,⟨.cell 100000 4,200004,9,.str⟩]⟩,[],[.blk 71 [.oslc 200000,.oslc 200001,.oslc 200002,.oslc 200003,.oslc 200004,.t (.int .i64),.t .str],.row 9 .str,.row 9 .str,.row 9 .str,.row 23 (.own 9 .str),.row 9 .str]⟩⟩] [.int .i64,.int .i64,.str,.slc .str,.slc .str,.slc .str,.slc .str,.slc (.own 9 .str),.slc .str] [[.int .i64,.str,.slc .str,.slc .str,.slc .str,.slc (.own 9 .str),.slc .str]] qbr_l24
theorem qbr_ok24:LoopR kk env0 Tryz.f25.ntmps qbr_b24 qbr_lp24:=
  loopG qbr_i24 qbr_t24 (ko known142) (L:=jnL) (zaab (bs:=[]) (by kernel_rfl) trivial) (by kernel_rfl) (fun _=>by kernel_rfl) (zaaa _) (fun _=>by kernel_rfl)
def qbr_L:Nat→Option (Lift.Loop U):=fun n=>bif Nat.beq n zaak then some zaaj else bif Nat.beq n 2 then some qbr_lp2 else bif Nat.beq n 7 then some qbr_lp7 else bif Nat.beq n 24 then some qbr_lp24 else none
def qbr_md:Mode U:=mdG ⟨⟨[0,1],[100000],[⟨.cell 100000 0,200000,9,.str⟩,⟨.cell 100000 1,200001,9,.str⟩,⟨.cell 100000 2,200002,9,.str⟩,⟨.cell 100000 3,200003,23,(.own 9 .str)⟩,⟨.cell 100000 4,200004,9,.str⟩]⟩,[.ptr 100000 0,.t (.st 26)],[.blk 71 [.oslc 200000,.oslc 200001,.oslc 200002,.oslc 200003,.oslc 200004,.t (.int .i64),.t .str],.row 9 .str,.row 9 .str,.row 9 .str,.row 23 (.own 9 .str),.row 9 .str]⟩ [⟨100000,.slot 0,[]⟩] [⟨⟨[],[100000],[⟨.cell 100000 0,200000,9,.str⟩,⟨.cell 100000 1,200001,9,.str⟩,⟨.cell 100000 2,200002,9,.str⟩,⟨.cell 100000 3,200003,23,(.own 9 .str)⟩,⟨.cell 100000 4,200004,9,.str⟩]⟩,[],[.blk 71 [.oslc 200000,.oslc 200001,.oslc 200002,.oslc 200003,.oslc 200004,.t (.int .i64),.t .str],.row 9 .str,.row 9 .str,.row 9 .str,.row 23 (.own 9 .str),.row 9 .str]⟩] [.st 26,.int .i64,.str,.slc .str,.slc .str,.slc .str,.slc (.own 9 .str),.slc .str] [[.int .i64,.str,.slc .str,.slc .str,.slc .str,.slc (.own 9 .str),.slc .str]] qbr
theorem qbr_post:zaad kk env0 25 qbr_md:=
  fnG (fn:=Tryz.f25) (ko known142) (by kernel_rfl) (L:=qbr_L) (zaab (bs:=[qbr_b2,qbr_b7,qbr_b24]) (by kernel_rfl) ⟨.inr ⟨_,by kernel_rfl,zaai.of_round (qbr_ok2)⟩,.inr ⟨_,by kernel_rfl,zaai.of_round (qbr_ok7)⟩,.inr ⟨_,by kernel_rfl,zaai.of_round (qbr_ok24)⟩,trivial⟩) (zaaa _) (by kernel_rfl)
def ms143:List (FuncId×Mode U):=(25,qbr_md)::ms142
theorem known143:Known kk env0 (zaac ms143):=known_cons (by kernel_rfl) qbr_post known142
def qbu_md:Mode U:=mdG ⟨⟨[0,1],[100000],[⟨.cell 100000 0,200000,9,.str⟩,⟨.cell 100000 1,200001,9,.str⟩,⟨.cell 100000 2,200002,9,.str⟩,⟨.cell 100000 3,200003,23,(.own 9 .str)⟩,⟨.cell 100000 4,200004,9,.str⟩]⟩,[.ptr 100000 0,.t .str],[.blk 71 [.oslc 200000,.oslc 200001,.oslc 200002,.oslc 200003,.oslc 200004,.t (.int .i64),.t .str],.row 9 .str,.row 9 .str,.row 9 .str,.row 23 (.own 9 .str),.row 9 .str]⟩ [⟨100000,.slot 0,[]⟩] [⟨⟨[0],[100000],[⟨.cell 100000 0,200000,9,.str⟩,⟨.cell 100000 1,200001,9,.str⟩,⟨.cell 100000 2,200002,9,.str⟩,⟨.cell 100000 3,200003,23,(.own 9 .str)⟩,⟨.cell 100000 4,200004,9,.str⟩]⟩,[.t .bool],[.blk 71 [.oslc 200000,.oslc 200001,.oslc 200002,.oslc 200003,.oslc 200004,.t (.int .i64),.t .str],.row 9 .str,.row 9 .str,.row 9 .str,.row 23 (.own 9 .str),.row 9 .str]⟩] [.str,.int .i64,.str,.slc .str,.slc .str,.slc .str,.slc (.own 9 .str),.slc .str] [[.bool,.int .i64,.str,.slc .str,.slc .str,.slc .str,.slc (.own 9 .str),.slc .str]] qbu
theorem qbu_post:zaad kk env0 72 qbu_md:=
  fnG (fn:=Tryz.f72) (ko known143) (by kernel_rfl) (L:=jnL) (zaab (bs:=[]) (by kernel_rfl) trivial) (zaaa _) (by kernel_rfl)
def ms144:List (FuncId×Mode U):=(72,qbu_md)::ms143
theorem known144:Known kk env0 (zaac ms144):=known_cons (by kernel_rfl) qbu_post known143
def qbt_md:Mode U:=mdG ⟨⟨[0,1],[100000],[⟨.cell 100000 0,200000,9,.str⟩,⟨.cell 100000 1,200001,9,.str⟩,⟨.cell 100000 2,200002,9,.str⟩,⟨.cell 100000 3,200003,23,(.own 9 .str)⟩,⟨.cell 100000 4,200004,9,.str⟩]⟩,[.ptr 100000 0,.t .str],[.blk 71 [.oslc 200000,.oslc 200001,.oslc 200002,.oslc 200003,.oslc 200004,.t (.int .i64),.t .str],.row 9 .str,.row 9 .str,.row 9 .str,.row 23 (.own 9 .str),.row 9 .str]⟩ [⟨100000,.slot 0,[]⟩] [⟨⟨[0],[100000],[⟨.cell 100000 0,200000,9,.str⟩,⟨.cell 100000 1,200001,9,.str⟩,⟨.cell 100000 2,200002,9,.str⟩,⟨.cell 100000 3,200003,23,(.own 9 .str)⟩,⟨.cell 100000 4,200004,9,.str⟩]⟩,[.t (.int .i64)],[.blk 71 [.oslc 200000,.oslc 200001,.oslc 200002,.oslc 200003,.oslc 200004,.t (.int .i64),.t .str],.row 9 .str,.row 9 .str,.row 9 .str,.row 23 (.own 9 .str),.row 9 .str]⟩] [.str,.int .i64,.str,.slc .str,.slc .str,.slc .str,.slc (.own 9 .str),.slc .str] [[.int .i64,.int .i64,.str,.slc .str,.slc .str,.slc .str,.slc (.own 9 .str),.slc .str]] qbt
theorem qbt_post:zaad kk env0 51 qbt_md:=
  fnG (fn:=Tryz.f51) (ko known144) (by kernel_rfl) (L:=jnL) (zaab (bs:=[]) (by kernel_rfl) trivial) (zaaa _) (by kernel_rfl)
def ms145:List (FuncId×Mode U):=(51,qbt_md)::ms144
theorem known145:Known kk env0 (zaac ms145):=known_cons (by kernel_rfl) qbt_post known144
def qbs_md:Mode U:=mdG ⟨⟨[0,1,2],[100000],[⟨.cell 100000 0,200000,9,.str⟩,⟨.cell 100000 1,200001,9,.str⟩,⟨.cell 100000 2,200002,9,.str⟩,⟨.cell 100000 3,200003,23,(.own 9 .str)⟩,⟨.cell 100000 4,200004,9,.str⟩]⟩,[.ptr 100000 0,.t (.int .i64),.t .str],[.blk 71 [.oslc 200000,.oslc 200001,.oslc 200002,.oslc 200003,.oslc 200004,.t (.int .i64),.t .str],.row 9 .str,.row 9 .str,.row 9 .str,.row 23 (.own 9 .str),.row 9 .str]⟩ [⟨100000,.slot 0,[]⟩] [⟨⟨[0],[100000],[⟨.cell 100000 0,200000,9,.str⟩,⟨.cell 100000 1,200001,9,.str⟩,⟨.cell 100000 2,200002,9,.str⟩,⟨.cell 100000 3,200003,23,(.own 9 .str)⟩,⟨.cell 100000 4,200004,9,.str⟩]⟩,[.t (.int .i64)],[.blk 71 [.oslc 200000,.oslc 200001,.oslc 200002,.oslc 200003,.oslc 200004,.t (.int .i64),.t .str],.row 9 .str,.row 9 .str,.row 9 .str,.row 23 (.own 9 .str),.row 9 .str]⟩] [.int .i64,.str,.int .i64,.str,.slc .str,.slc .str,.slc .str,.slc (.own 9 .str),.slc .str] [[.int .i64,.int .i64,.str,.slc .str,.slc .str,.slc .str,.slc (.own 9 .str),.slc .str]] qbs
theorem qbs_post:zaad kk env0 52 qbs_md:=
  fnG (fn:=Tryz.f52) (ko known145) (by kernel_rfl) (L:=jnL) (zaab (bs:=[]) (by kernel_rfl) trivial) (zaaa _) (by kernel_rfl)
def ms146:List (FuncId×Mode U):=(52,qbs_md)::ms145
theorem known146:Known kk env0 (zaac ms146):=known_cons (by kernel_rfl) qbs_post known145
abbrev qbq_tr:Type:=curT U (sumT U [[.int .i64,.int .i64,.str,.int .i64,.str,.slc (.st 1060),.slc .str,.slc .str,.slc .str,.slc (.own 9 .str),.slc .str]]) [.st 60,.int .i64,.str,.slc .str,.slc .str,.slc .str,.slc (.own 9 .str),.slc .str]
def qbq_rmd (rec_qbq:qbq_tr):Mode U:=mdG ⟨⟨[0,1],[100000],[⟨.cell 100000 0,200000,9,.str⟩,⟨.cell 100000 1,200001,9,.str⟩,⟨.cell 100000 2,200002,9,.str⟩,⟨.cell 100000 3,200003,23,(.own 9 .str)⟩,⟨.cell 100000 4,200004,9,.str⟩]⟩,[.ptr 100000 0,.t (.st 60)],[.blk 71 [.oslc 200000,.oslc 200001,.oslc 200002,.oslc 200003,.oslc 200004,.t (.int .i64),.t .str],.row 9 .str,.row 9 .str,.row 9 .str,.row 23 (.own 9 .str),.row 9 .str]⟩ [⟨100000,.slot 0,[]⟩] [⟨⟨[0],[100000],[⟨.sub 0 3,100400,60,(.st 1060)⟩,⟨.cell 100000 0,200000,9,.str⟩,⟨.cell 100000 1,200001,9,.str⟩,⟨.cell 100000 2,200002,9,.str⟩,⟨.cell 100000 3,200003,23,(.own 9 .str)⟩,⟨.cell 100000 4,200004,9,.str⟩]⟩,[.agg [.t (.int .i64),.t (.int .i64),.t .str,.oslc 100400]],[.blk 71 [.oslc 200000,.oslc 200001,.oslc 200002,.oslc 200003,.oslc 200004,.t (.int .i64),.t .str],.row 60 (.st 1060),.row 9 .str,.row 9 .str,.row 9 .str,.row 23 (.own 9 .str),.row 9 .str]⟩] [.st 60,.int .i64,.str,.slc .str,.slc .str,.slc .str,.slc (.own 9 .str),.slc .str] [[.int .i64,.int .i64,.str,.int .i64,.str,.slc (.st 1060),.slc .str,.slc .str,.slc .str,.slc (.own 9 .str),.slc .str]] rec_qbq
abbrev qbq_rec (r:qbq_tr):Prop:=zaad kk env0 53 (qbq_rmd r)
def ms147 (rec_qbq:qbq_tr):List (FuncId×Mode U):=(53,(qbq_rmd rec_qbq))::ms146
theorem known147 (rec_qbq:qbq_tr) (hrec_qbq:qbq_rec rec_qbq):Known kk env0 (zaac (ms147 rec_qbq)):=known_cons (by kernel_rfl) hrec_qbq known146
def qbq_b5:Code:=(zaag (zaae Tryz.f53) 0)
def qbq_lp5 (rec_qbq:qbq_tr):Lift.Loop U:=lpG ⟨⟨[0,3,4,5,6],[100000,3,4,5],[⟨.cell 100000 0,200000,9,.str⟩,⟨.cell 100000 1,200001,9,.str⟩,⟨.cell 100000 2,200002,9,.str⟩,⟨.cell 100000 3,200003,23,(.own 9 .str)⟩,⟨.cell 100000 4,200004,9,.str⟩,⟨.cell 5 3,20253,60,(.st 1060)⟩]⟩,[.ptr 100000 0,.ptr 3 0,.ptr 4 0,.ptr 5 0,.t (.int .i64)],[.blk 71 [.oslc 200000,.oslc 200001,.oslc 200002,.oslc 200003,.oslc 200004,.t (.int .i64),.t .str],.blk 60 [.t (.int .i64),.t (.int .i64),.t .str,.t (.slc (.st 60))],.blk 60 [.t (.int .i64),.t (.int .i64),.t .str,.nil],.blk 60 [.t (.int .i64),.t (.int .i64),.t .str,.oslc 20253],.row 9 .str,.row 9 .str,.row 9 .str,.row 23 (.own 9 .str),.row 9 .str,.row 60 (.st 1060)]⟩ [⟨.exit 0,⟨⟨[4,5],[100000,4,5],[⟨.cell 100000 0,200000,9,.str⟩,⟨.cell 100000 1,200001,9,.str⟩,⟨.cell 100000 2,200002,9,.str⟩,⟨.cell 100000 3,200003,23,(.own 9 .str)⟩,⟨.cell 100000 4,200004,9,.str⟩,⟨.cell 5 3,20253,60,(.st 1060)⟩]⟩,[.ptr 4 0,.ptr 5 0],[.blk 71 [.oslc 200000,.oslc 200001,.oslc 200002,.oslc 200003,.oslc 200004,.t (.int .i64),.t .str],.blk 60 [.t (.int .i64),.t (.int .i64),.t .str,.nil],.blk 60 [.t (.int .i64),.t (.int .i64),.t .str,.oslc 20253],.row 9 .str,.row 9 .str,.row 9 .str,.row 23 (.own 9 .str),.row 9 .str,.row 60 (.st 1060)]⟩⟩] [.int .i64,.int .i64,.str,.int .i64,.int .i64,.str,.slc (.st 60),.int .i64,.int .i64,.str,.int .i64,.int .i64,.str,.slc .str,.slc .str,.slc .str,.slc (.own 9 .str),.slc .str,.slc (.st 1060)] [[.int .i64,.str,.int .i64,.int .i64,.str,.int .i64,.int .i64,.str,.slc .str,.slc .str,.slc .str,.slc (.own 9 .str),.slc .str,.slc (.st 1060)]] (qbq_l5 rec_qbq)
theorem qbq_ok5 (rec_qbq:qbq_tr) (hrec_qbq:qbq_rec rec_qbq):LoopR kk env0 Tryz.f53.ntmps qbq_b5 (qbq_lp5 rec_qbq):=
  loopG (qbq_i5 rec_qbq) (qbq_t5 rec_qbq) (ko (known147 rec_qbq hrec_qbq)) (L:=jnL) (zaab (bs:=[]) (by kernel_rfl) trivial) (by kernel_rfl) (fun _=>by kernel_rfl) (zaaa _) (fun _=>by kernel_rfl)
def qbq_L (rec_qbq:qbq_tr):Nat→Option (Lift.Loop U):=fun n=>bif Nat.beq n zaak then some zaaj else bif Nat.beq n 5 then some (qbq_lp5 rec_qbq) else none
def qbq_md:Mode U:=qbq_rmd qbq
theorem qbq_step (rec_qbq:qbq_tr) (hrec_qbq:qbq_rec rec_qbq):zaao (Kit.withModes kk (zaac (ms147 rec_qbq))) env0 Tryz.f53.ntmps (qbq_L rec_qbq) (zaae Tryz.f53):=zaab (bs:=[qbq_b5]) (by kernel_rfl) ⟨.inr ⟨_,by kernel_rfl,zaai.of_round (qbq_ok5 rec_qbq hrec_qbq)⟩,trivial⟩
theorem qbq_post:zaad kk env0 53 (qbq_rmd qbq):=
  recG qbq_i qbq_f (by kernel_rfl) (fun _=>by kernel_rfl) (zaaa _) fun r ih=>fnG (fn:=Tryz.f53) (ko (known147 r ih)) (by kernel_rfl) (qbq_step r ih) rfl (by kernel_rfl)
def ms148:List (FuncId×Mode U):=(53,qbq_md)::ms146
theorem known148:Known kk env0 (zaac ms148):=known_cons (by kernel_rfl) qbq_post known146
abbrev qbp_tr:Type:=curT U (sumT U [[.int .i64,.str,.slc (.st 1067),.slc .str,.slc .str,.slc .str,.slc (.own 9 .str),.slc .str]]) [.slc (.st 62),.int .i64,.str,.slc .str,.slc .str,.slc .str,.slc (.own 9 .str),.slc .str]
def qbp_rmd (rec_qbp:qbp_tr):Mode U:=mdG ⟨⟨[0,1],[100000],[⟨.cell 100000 0,200000,9,.str⟩,⟨.cell 100000 1,200001,9,.str⟩,⟨.cell 100000 2,200002,9,.str⟩,⟨.cell 100000 3,200003,23,(.own 9 .str)⟩,⟨.cell 100000 4,200004,9,.str⟩]⟩,[.ptr 100000 0,.t (.slc (.st 62))],[.blk 71 [.oslc 200000,.oslc 200001,.oslc 200002,.oslc 200003,.oslc 200004,.t (.int .i64),.t .str],.row 9 .str,.row 9 .str,.row 9 .str,.row 23 (.own 9 .str),.row 9 .str]⟩ [⟨100000,.slot 0,[]⟩] [⟨⟨[0],[100000],[⟨.slot 0,100050,67,(.st 1067)⟩,⟨.cell 100000 0,200000,9,.str⟩,⟨.cell 100000 1,200001,9,.str⟩,⟨.cell 100000 2,200002,9,.str⟩,⟨.cell 100000 3,200003,23,(.own 9 .str)⟩,⟨.cell 100000 4,200004,9,.str⟩]⟩,[.oslc 100050],[.blk 71 [.oslc 200000,.oslc 200001,.oslc 200002,.oslc 200003,.oslc 200004,.t (.int .i64),.t .str],.row 67 (.st 1067),.row 9 .str,.row 9 .str,.row 9 .str,.row 23 (.own 9 .str),.row 9 .str]⟩] [.slc (.st 62),.int .i64,.str,.slc .str,.slc .str,.slc .str,.slc (.own 9 .str),.slc .str] [[.int .i64,.str,.slc (.st 1067),.slc .str,.slc .str,.slc .str,.slc (.own 9 .str),.slc .str]] rec_qbp
abbrev qbp_rec (r:qbp_tr):Prop:=zaad kk env0 26 (qbp_rmd r)
def ms149 (rec_qbp:qbp_tr):List (FuncId×Mode U):=(26,(qbp_rmd rec_qbp))::ms148
theorem known149 (rec_qbp:qbp_tr) (hrec_qbp:qbp_rec rec_qbp):Known kk env0 (zaac (ms149 rec_qbp)):=known_cons (by kernel_rfl) hrec_qbp known148
def qbp_b3:Code:=(zaag (zaae Tryz.f26) 0)
def qbp_lp3 (rec_qbp:qbp_tr):Lift.Loop U:=lpG ⟨⟨[0,1,5,6],[100000],[⟨.cell 100000 0,200000,9,.str⟩,⟨.cell 100000 1,200001,9,.str⟩,⟨.cell 100000 2,200002,9,.str⟩,⟨.cell 100000 3,200003,23,(.own 9 .str)⟩,⟨.cell 100000 4,200004,9,.str⟩,⟨.slot 5,5,67,(.st 1067)⟩]⟩,[.ptr 100000 0,.t (.slc (.st 62)),.oslc 5,.t (.int .i64)],[.blk 71 [.oslc 200000,.oslc 200001,.oslc 200002,.oslc 200003,.oslc 200004,.t (.int .i64),.t .str],.row 9 .str,.row 9 .str,.row 9 .str,.row 23 (.own 9 .str),.row 9 .str,.row 67 (.st 1067)]⟩ [⟨.exit 0,⟨⟨[5],[100000],[⟨.slot 5,5,67,(.st 1067)⟩,⟨.cell 100000 0,200000,9,.str⟩,⟨.cell 100000 1,200001,9,.str⟩,⟨.cell 100000 2,200002,9,.str⟩,⟨.cell 100000 3,200003,23,(.own 9 .str)⟩,⟨.cell 100000 4,200004,9,.str⟩]⟩,[.oslc 5],[.blk 71 [.oslc 200000,.oslc 200001,.oslc 200002,.oslc 200003,.oslc 200004,.t (.int .i64),.t .str],.row 67 (.st 1067),.row 9 .str,.row 9 .str,.row 9 .str,.row 23 (.own 9 .str),.row 9 .str]⟩⟩] [.slc (.st 62),.int .i64,.int .i64,.str,.slc .str,.slc .str,.slc .str,.slc (.own 9 .str),.slc .str,.slc (.st 1067)] [[.int .i64,.str,.slc (.st 1067),.slc .str,.slc .str,.slc .str,.slc (.own 9 .str),.slc .str]] (qbp_l3 rec_qbp)
theorem qbp_ok3 (rec_qbp:qbp_tr) (hrec_qbp:qbp_rec rec_qbp):LoopR kk env0 Tryz.f26.ntmps qbp_b3 (qbp_lp3 rec_qbp):=
  loopG (qbp_i3 rec_qbp) (qbp_t3 rec_qbp) (ko (known149 rec_qbp hrec_qbp)) (L:=jnL) (zaab (bs:=[]) (by kernel_rfl) trivial) (by kernel_rfl) (fun _=>by kernel_rfl) (zaaa _) (fun _=>by kernel_rfl)
def qbp_L (rec_qbp:qbp_tr):Nat→Option (Lift.Loop U):=fun n=>bif Nat.beq n zaak then some zaaj else bif Nat.beq n 3 then some (qbp_lp3 rec_qbp) else none
def qbp_md:Mode U:=qbp_rmd qbp
theorem qbp_step (rec_qbp:qbp_tr) (hrec_qbp:qbp_rec rec_qbp):zaao (Kit.withModes kk (zaac (ms149 rec_qbp))) env0 Tryz.f26.ntmps (qbp_L rec_qbp) (zaae Tryz.f26):=zaab (bs:=[qbp_b3]) (by kernel_rfl) ⟨.inr ⟨_,by kernel_rfl,zaai.of_round (qbp_ok3 rec_qbp hrec_qbp)⟩,trivial⟩
theorem qbp_post:zaad kk env0 26 (qbp_rmd qbp):=
  recG qbp_i qbp_f (by kernel_rfl) (fun _=>by kernel_rfl) (zaaa _) fun r ih=>fnG (fn:=Tryz.f26) (ko (known149 r ih)) (by kernel_rfl) (qbp_step r ih) rfl (by kernel_rfl)
def ms150:List (FuncId×Mode U):=(26,qbp_md)::ms148
theorem known150:Known kk env0 (zaac ms150):=known_cons (by kernel_rfl) qbp_post known148
def qbo_b8:Code:=(zaag (zaae Tryz.f10) 0)
def qbo_lp8:Lift.Loop U:=lpG ⟨⟨[1,2,3,7,8,9],[1,2,3,20,8],[⟨.cell 20 0,21000,9,.str⟩,⟨.cell 20 1,21001,9,.str⟩,⟨.cell 20 2,21002,9,.str⟩,⟨.cell 20 3,21003,23,(.own 9 .str)⟩,⟨.cell 20 4,21004,9,.str⟩,⟨.cell 8 0,20400,3,(.int .i64)⟩]⟩,[.ptr 1 0,.ptr 2 0,.ptr 3 0,.ptr 20 0,.ptr 8 0,.t (.int .i64)],[.blk 26 [.t (.slc (.st 48)),.t (.slc .str),.t (.slc (.st 51))],.blk 32 [.nil,.t (.int .i64),.nil],.blk 35 [.nil,.nil,.nil,.nil],.blk 71 [.oslc 21000,.oslc 21001,.oslc 21002,.oslc 21003,.oslc 21004,.t (.int .i64),.t .str],.blk 32 [.oslc 20400,.t (.int .i64),.nil],.row 9 .str,.row 9 .str,.row 9 .str,.row 23 (.own 9 .str),.row 9 .str,.row 3 (.int .i64)]⟩ [⟨.exit 0,⟨⟨[1,2,3,7,8],[1,2,3,20,8],[⟨.cell 20 0,21000,9,.str⟩,⟨.cell 20 1,21001,9,.str⟩,⟨.cell 20 2,21002,9,.str⟩,⟨.cell 20 3,21003,23,(.own 9 .str)⟩,⟨.cell 20 4,21004,9,.str⟩,⟨.cell 8 0,20400,3,(.int .i64)⟩]⟩,[.ptr 1 0,.ptr 2 0,.ptr 3 0,.ptr 20 0,.ptr 8 0],[.blk 26 [.t (.slc (.st 48)),.t (.slc .str),.t (.slc (.st 51))],.blk 32 [.nil,.t (.int .i64),.nil],.blk 35 [.nil,.nil,.nil,.nil],.blk 71 [.oslc 21000,.oslc 21001,.oslc 21002,.oslc 21003,.oslc 21004,.t (.int .i64),.t .str],.blk 32 [.oslc 20400,.t (.int .i64),.nil],.row 9 .str,.row 9 .str,.row 9 .str,.row 23 (.own 9 .str),.row 9 .str,.row 3 (.int .i64)]⟩⟩] [.int .i64,.slc (.st 48),.slc .str,.slc (.st 51),.int .i64,.int .i64,.str,.int .i64,.slc .str,.slc .str,.slc .str,.slc (.own 9 .str),.slc .str,.slc (.int .i64)] [[.slc (.st 48),.slc .str,.slc (.st 51),.int .i64,.int .i64,.str,.int .i64,.slc .str,.slc .str,.slc .str,.slc (.own 9 .str),.slc .str,.slc (.int .i64)]] qbo_l8
theorem qbo_ok8:LoopR kk env0 Tryz.f10.ntmps qbo_b8 qbo_lp8:=
  loopG qbo_i8 qbo_t8 (ko known150) (L:=jnL) (zaab (bs:=[]) (by kernel_rfl) trivial) (by kernel_rfl) (fun _=>by kernel_rfl) (zaaa _) (fun _=>by kernel_rfl)
def qbo_b12:Code:=(zaag (zaae Tryz.f10) 1)
def qbo_lp12:Lift.Loop U:=lpG ⟨⟨[1,2,3,7,8,10],[1,2,3,20,8],[⟨.cell 20 0,21000,9,.str⟩,⟨.cell 20 1,21001,9,.str⟩,⟨.cell 20 2,21002,9,.str⟩,⟨.cell 20 3,21003,23,(.own 9 .str)⟩,⟨.cell 8 0,20400,3,(.int .i64)⟩,⟨.cell 8 2,20402,65,(.st 1065)⟩]⟩,[.ptr 1 0,.ptr 2 0,.ptr 3 0,.ptr 20 0,.ptr 8 0,.t (.int .i64)],[.blk 26 [.t (.slc (.st 48)),.t (.slc .str),.t (.slc (.st 51))],.blk 32 [.nil,.t (.int .i64),.nil],.blk 35 [.nil,.nil,.nil,.nil],.blk 71 [.oslc 21000,.oslc 21001,.oslc 21002,.oslc 21003,.junk,.t (.int .i64),.t .str],.blk 32 [.oslc 20400,.t (.int .i64),.oslc 20402],.row 9 .str,.row 9 .str,.row 9 .str,.row 23 (.own 9 .str),.row 3 (.int .i64),.row 65 (.st 1065)]⟩ [⟨.exit 2,⟨⟨[2,3,7,8],[2,3,20,8],[⟨.cell 20 0,21000,9,.str⟩,⟨.cell 20 1,21001,9,.str⟩,⟨.cell 20 2,21002,9,.str⟩,⟨.cell 20 3,21003,23,(.own 9 .str)⟩,⟨.cell 8 0,20400,3,(.int .i64)⟩,⟨.cell 8 2,20402,65,(.st 1065)⟩]⟩,[.ptr 2 0,.ptr 3 0,.ptr 20 0,.ptr 8 0],[.blk 32 [.nil,.t (.int .i64),.nil],.blk 35 [.nil,.nil,.nil,.nil],.blk 71 [.oslc 21000,.oslc 21001,.oslc 21002,.oslc 21003,.junk,.t (.int .i64),.t .str],.blk 32 [.oslc 20400,.t (.int .i64),.oslc 20402],.row 9 .str,.row 9 .str,.row 9 .str,.row 23 (.own 9 .str),.row 3 (.int .i64),.row 65 (.st 1065)]⟩⟩] [.int .i64,.slc (.st 48),.slc .str,.slc (.st 51),.int .i64,.int .i64,.str,.int .i64,.slc .str,.slc .str,.slc .str,.slc (.own 9 .str),.slc (.int .i64),.slc (.st 1065)] [[.int .i64,.int .i64,.str,.int .i64,.slc .str,.slc .str,.slc .str,.slc (.own 9 .str),.slc (.int .i64),.slc (.st 1065)]] qbo_l12
theorem qbo_ok12:LoopR kk env0 Tryz.f10.ntmps qbo_b12 qbo_lp12:=
  loopG qbo_i12 qbo_t12 (ko known150) (L:=jnL) (zaab (bs:=[]) (by kernel_rfl) trivial) (by kernel_rfl) (fun _=>by kernel_rfl) (zaaa _) (fun _=>by kernel_rfl)
def qbo_L:Nat→Option (Lift.Loop U):=fun n=>bif Nat.beq n zaak then some zaaj else bif Nat.beq n 8 then some qbo_lp8 else bif Nat.beq n 12 then some qbo_lp12 else none
def qbo_md:Mode U:=mdG ⟨⟨[0],[],[]⟩,[.t (.st 26)],[]⟩ [] [⟨⟨[0,1,2,3],[],[⟨.sub 0 0,100100,3,(.int .i64)⟩,⟨.sub 0 2,100300,65,(.st 1065)⟩,⟨.sub 1 0,100101,9,.str⟩,⟨.sub 1 1,100201,9,.str⟩,⟨.sub 1 2,100301,9,.str⟩,⟨.sub 1 3,100401,23,(.own 9 .str)⟩]⟩,[.agg [.oslc 100100,.t (.int .i64),.oslc 100300],.agg [.oslc 100101,.oslc 100201,.oslc 100301,.oslc 100401],.t (.int .i64),.t .str],[.row 3 (.int .i64),.row 65 (.st 1065),.row 9 .str,.row 9 .str,.row 9 .str,.row 23 (.own 9 .str)]⟩] [.st 26] [[.int .i64,.int .i64,.str,.slc (.int .i64),.slc (.st 1065),.slc .str,.slc .str,.slc .str,.slc (.own 9 .str)]] qbo
theorem qbo_post:zaad kk env0 10 qbo_md:=
  fnG (fn:=Tryz.f10) (ko known150) (by kernel_rfl) (L:=qbo_L) (zaab (bs:=[qbo_b8,qbo_b12]) (by kernel_rfl) ⟨.inr ⟨_,by kernel_rfl,zaai.of_round (qbo_ok8)⟩,.inr ⟨_,by kernel_rfl,zaai.of_round (qbo_ok12)⟩,trivial⟩) (zaaa _) (by kernel_rfl)
def ms151:List (FuncId×Mode U):=(10,qbo_md)::ms150
theorem known151:Known kk env0 (zaac ms151):=known_cons (by kernel_rfl) qbo_post known150
abbrev qaI_tr:Type:=curT U (sumT U [[.bool]]) [.slc (.st 67),.slc (.st 67)]
def qaI_rmd (rec_qaI:qaI_tr):Mode U:=mdG ⟨⟨[0,1],[],[]⟩,[.t (.slc (.st 67)),.t (.slc (.st 67))],[]⟩ [] [⟨⟨[0],[],[]⟩,[.t .bool],[]⟩] [.slc (.st 67),.slc (.st 67)] [[.bool]] rec_qaI
abbrev qaI_rec (r:qaI_tr):Prop:=zaad kk env0 34 (qaI_rmd r)
def ms152 (rec_qaI:qaI_tr):List (FuncId×Mode U):=(34,(qaI_rmd rec_qaI))::ms151
theorem known152 (rec_qaI:qaI_tr) (hrec_qaI:qaI_rec rec_qaI):Known kk env0 (zaac (ms152 rec_qaI)):=known_cons (by kernel_rfl) hrec_qaI known151
def qaI_b4:Code:=(zaag (zaae Tryz.f34) 0)
def qaI_lp4 (rec_qaI:qaI_tr):Lift.Loop U:=lpG ⟨⟨[0,1,5],[],[]⟩,[.t (.slc (.st 67)),.t (.slc (.st 67)),.t (.int .i64)],[]⟩ [⟨.ret,⟨⟨[4],[],[]⟩,[.t .bool],[]⟩⟩,⟨.exit 0,⟨⟨[],[],[]⟩,[],[]⟩⟩] [.slc (.st 67),.slc (.st 67),.int .i64] [[.bool],[]] (qaI_l4 rec_qaI)
theorem qaI_ok4 (rec_qaI:qaI_tr) (hrec_qaI:qaI_rec rec_qaI):LoopR kk env0 Tryz.f34.ntmps qaI_b4 (qaI_lp4 rec_qaI):=
  loopG (qaI_i4 rec_qaI) (qaI_t4 rec_qaI) (ko (known152 rec_qaI hrec_qaI)) (L:=jnL) (zaab (bs:=[]) (by kernel_rfl) trivial) (by kernel_rfl) (fun _=>by kernel_rfl) (zaaa _) (fun _=>by kernel_rfl)
def qaI_L (rec_qaI:qaI_tr):Nat→Option (Lift.Loop U):=fun n=>bif Nat.beq n zaak then some zaaj else bif Nat.beq n 4 then some (qaI_lp4 rec_qaI) else none
def qaI_md:Mode U:=qaI_rmd qaI
theorem qaI_step (rec_qaI:qaI_tr) (hrec_qaI:qaI_rec rec_qaI):zaao (Kit.withModes kk (zaac (ms152 rec_qaI))) env0 Tryz.f34.ntmps (qaI_L rec_qaI) (zaae Tryz.f34):=zaab (bs:=[qaI_b4]) (by kernel_rfl) ⟨.inr ⟨_,by kernel_rfl,zaai.of_round (qaI_ok4 rec_qaI hrec_qaI)⟩,trivial⟩
theorem qaI_post:zaad kk env0 34 (qaI_rmd qaI):=
  recG qaI_i qaI_f (by kernel_rfl) (fun _=>by kernel_rfl) (zaaa _) fun r ih=>fnG (fn:=Tryz.f34) (ko (known152 r ih)) (by kernel_rfl) (qaI_step r ih) rfl (by kernel_rfl)
def ms153:List (FuncId×Mode U):=(34,qaI_md)::ms151
theorem known153:Known kk env0 (zaac ms153):=known_cons (by kernel_rfl) qaI_post known151
def qaG_b4:Code:=(zaag (zaae Tryz.f13) 0)
def qaG_lp4:Lift.Loop U:=lpG ⟨⟨[2,3,5],[2,3],[]⟩,[.ptr 2 0,.ptr 3 0,.t (.int .i64)],[.blk 32 [.t (.slc (.int .i64)),.t (.int .i64),.t (.slc (.st 65))],.blk 32 [.t (.slc (.int .i64)),.t (.int .i64),.t (.slc (.st 65))]]⟩ [⟨.ret,⟨⟨[4],[],[]⟩,[.t .bool],[]⟩⟩,⟨.exit 0,⟨⟨[2,3],[2,3],[]⟩,[.ptr 2 0,.ptr 3 0],[.blk 32 [.t (.slc (.int .i64)),.t (.int .i64),.t (.slc (.st 65))],.blk 32 [.t (.slc (.int .i64)),.t (.int .i64),.t (.slc (.st 65))]]⟩⟩] [.int .i64,.slc (.int .i64),.int .i64,.slc (.st 65),.slc (.int .i64),.int .i64,.slc (.st 65)] [[.bool],[.slc (.int .i64),.int .i64,.slc (.st 65),.slc (.int .i64),.int .i64,.slc (.st 65)]] qaG_l4
theorem qaG_ok4:LoopR kk env0 Tryz.f13.ntmps qaG_b4 qaG_lp4:=
  loopG qaG_i4 qaG_t4 (ko known153) (L:=jnL) (zaab (bs:=[]) (by kernel_rfl) trivial) (by kernel_rfl) (fun _=>by kernel_rfl) (zaaa _) (fun _=>by kernel_rfl)
def qaG_b9:Code:=(zaag (zaae Tryz.f13) 1)
def qaG_lp9:Lift.Loop U:=lpG ⟨⟨[2,3,6],[2,3],[]⟩,[.ptr 2 0,.ptr 3 0,.t (.int .i64)],[.blk 32 [.t (.slc (.int .i64)),.t (.int .i64),.t (.slc (.st 65))],.blk 32 [.t (.slc (.int .i64)),.t (.int .i64),.t (.slc (.st 65))]]⟩ [⟨.ret,⟨⟨[4],[],[]⟩,[.t .bool],[]⟩⟩,⟨.exit 2,⟨⟨[],[],[]⟩,[],[]⟩⟩] [.int .i64,.slc (.int .i64),.int .i64,.slc (.st 65),.slc (.int .i64),.int .i64,.slc (.st 65)] [[.bool],[]] qaG_l9
theorem qaG_ok9:LoopR kk env0 Tryz.f13.ntmps qaG_b9 qaG_lp9:=
  loopG qaG_i9 qaG_t9 (ko known153) (L:=jnL) (zaab (bs:=[]) (by kernel_rfl) trivial) (by kernel_rfl) (fun _=>by kernel_rfl) (zaaa _) (fun _=>by kernel_rfl)
def qaG_L:Nat→Option (Lift.Loop U):=fun n=>bif Nat.beq n zaak then some zaaj else bif Nat.beq n 4 then some qaG_lp4 else bif Nat.beq n 9 then some qaG_lp9 else none
def qaG_md:Mode U:=mdG ⟨⟨[0,1],[],[]⟩,[.t (.st 32),.t (.st 32)],[]⟩ [] [⟨⟨[0],[],[]⟩,[.t .bool],[]⟩] [.st 32,.st 32] [[.bool]] qaG
theorem qaG_post:zaad kk env0 13 qaG_md:=
  fnG (fn:=Tryz.f13) (ko known153) (by kernel_rfl) (L:=qaG_L) (zaab (bs:=[qaG_b4,qaG_b9]) (by kernel_rfl) ⟨.inr ⟨_,by kernel_rfl,zaai.of_round (qaG_ok4)⟩,.inr ⟨_,by kernel_rfl,zaai.of_round (qaG_ok9)⟩,trivial⟩) (zaaa _) (by kernel_rfl)
def ms154:List (FuncId×Mode U):=(13,qaG_md)::ms153
theorem known154:Known kk env0 (zaac ms154):=known_cons (by kernel_rfl) qaG_post known153
def qaJ_b4:Code:=(zaag (zaae Tryz.f35) 0)
def qaJ_lp4:Lift.Loop U:=lpG ⟨⟨[0,1,5],[],[]⟩,[.t (.slc .str),.t (.slc .str),.t (.int .i64)],[]⟩ [⟨.ret,⟨⟨[4],[],[]⟩,[.t .bool],[]⟩⟩,⟨.exit 0,⟨⟨[],[],[]⟩,[],[]⟩⟩] [.slc .str,.slc .str,.int .i64] [[.bool],[]] qaJ_l4
theorem qaJ_ok4:LoopR kk env0 Tryz.f35.ntmps qaJ_b4 qaJ_lp4:=
  loopG qaJ_i4 qaJ_t4 (ko known154) (L:=jnL) (zaab (bs:=[]) (by kernel_rfl) trivial) (by kernel_rfl) (fun _=>by kernel_rfl) (zaaa _) (fun _=>by kernel_rfl)
def qaJ_L:Nat→Option (Lift.Loop U):=fun n=>bif Nat.beq n zaak then some zaaj else bif Nat.beq n 4 then some qaJ_lp4 else none
def qaJ_md:Mode U:=mdG ⟨⟨[0,1],[],[]⟩,[.t (.slc .str),.t (.slc .str)],[]⟩ [] [⟨⟨[0],[],[]⟩,[.t .bool],[]⟩] [.slc .str,.slc .str] [[.bool]] qaJ
theorem qaJ_post:zaad kk env0 35 qaJ_md:=
  fnG (fn:=Tryz.f35) (ko known154) (by kernel_rfl) (L:=qaJ_L) (zaab (bs:=[qaJ_b4]) (by kernel_rfl) ⟨.inr ⟨_,by kernel_rfl,zaai.of_round (qaJ_ok4)⟩,trivial⟩) (zaaa _) (by kernel_rfl)
def ms155:List (FuncId×Mode U):=(35,qaJ_md)::ms154
theorem known155:Known kk env0 (zaac ms155):=known_cons (by kernel_rfl) qaJ_post known154
def qaH_b7:Code:=(zaag (zaae Tryz.f14) 0)
def qaH_lp7:Lift.Loop U:=lpG ⟨⟨[2,3,8],[2,3],[]⟩,[.ptr 2 0,.ptr 3 0,.t (.int .i64)],[.blk 35 [.t (.slc .str),.t (.slc .str),.t (.slc .str),.t (.slc (.slc .str))],.blk 35 [.t (.slc .str),.t (.slc .str),.t (.slc .str),.t (.slc (.slc .str))]]⟩ [⟨.ret,⟨⟨[4],[],[]⟩,[.t .bool],[]⟩⟩,⟨.exit 0,⟨⟨[],[],[]⟩,[],[]⟩⟩] [.int .i64,.slc .str,.slc .str,.slc .str,.slc (.slc .str),.slc .str,.slc .str,.slc .str,.slc (.slc .str)] [[.bool],[]] qaH_l7
theorem qaH_ok7:LoopR kk env0 Tryz.f14.ntmps qaH_b7 qaH_lp7:=
  loopG qaH_i7 qaH_t7 (ko known155) (L:=jnL) (zaab (bs:=[]) (by kernel_rfl) trivial) (by kernel_rfl) (fun _=>by kernel_rfl) (zaaa _) (fun _=>by kernel_rfl)
def qaH_L:Nat→Option (Lift.Loop U):=fun n=>bif Nat.beq n zaak then some zaaj else bif Nat.beq n 7 then some qaH_lp7 else none
def qaH_md:Mode U:=mdG ⟨⟨[0,1],[],[]⟩,[.t (.st 35),.t (.st 35)],[]⟩ [] [⟨⟨[0],[],[]⟩,[.t .bool],[]⟩] [.st 35,.st 35] [[.bool]] qaH
theorem qaH_post:zaad kk env0 14 qaH_md:=
  fnG (fn:=Tryz.f14) (ko known155) (by kernel_rfl) (L:=qaH_L) (zaab (bs:=[qaH_b7]) (by kernel_rfl) ⟨.inr ⟨_,by kernel_rfl,zaai.of_round (qaH_ok7)⟩,trivial⟩) (zaaa _) (by kernel_rfl)
def ms156:List (FuncId×Mode U):=(14,qaH_md)::ms155
theorem known156:Known kk env0 (zaac ms156):=known_cons (by kernel_rfl) qaH_post known155
def qaF_md:Mode U:=mdG ⟨⟨[0],[],[]⟩,[.t (.st 26)],[]⟩ [] [⟨⟨[0],[],[]⟩,[.t .bool],[]⟩] [.st 26] [[.bool]] qaF
theorem qaF_post:zaad kk env0 3 qaF_md:=
  fnG (fn:=Tryz.f3) (ko known156) (by kernel_rfl) (L:=jnL) (zaab (bs:=[]) (by kernel_rfl) trivial) (zaaa _) (by kernel_rfl)
end
end Lift.J6
