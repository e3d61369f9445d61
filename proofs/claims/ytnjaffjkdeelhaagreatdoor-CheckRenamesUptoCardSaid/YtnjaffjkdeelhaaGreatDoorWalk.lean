/-
  DERIVED. Each function of this seat computes its Lean function. Conditions: as each theorem says.
-/
import Derived.Test.YtnjaffjkdeelhaaGreatDoorDefs
set_option linter.unusedVariables false
set_option linter.unusedSimpArgs false
set_option linter.unusedSectionVars false
namespace Lift.J6
noncomputable section
open Go Go.RowKit Go.Proofs Lift Lift.Fn
theorem ko {ms:List (FuncId×Mode U)} (h:Known kk env0 (zaac ms)):KitOk (Kit.withModes kk (zaac ms)) env0:=zavv eqOk mixed h
def qbO_md:Mode U:=mdG ⟨⟨[0],[],[]⟩,[.t (.int .i32)],[]⟩ [] [⟨⟨[0],[],[]⟩,[.t (.int .i64)],[]⟩] [.int .i32] [[.int .i64]] qbO
theorem qbO_post:zaad kk env0 129 qbO_md:=
  fnG (fn:=Tryz.f129) (ko known5) (by kernel_rfl) (L:=noL) (zaab (bs:=[]) (by kernel_rfl) trivial) (zaaa _) (by kernel_rfl)
def ms6:List (FuncId×Mode U):=(129,qbO_md)::ms5
theorem known6:Known kk env0 (zaac ms6):=known_cons (by kernel_rfl) qbO_post known5
def qbt_b4:Code:=(zaag (zaae Tryz.f114) 0)
def qbt_lp4:Lift.Loop U:=lpG ⟨⟨[0,3,4,5,10],[3,5,10],[⟨.slot 4,4,146,(.st 146)⟩]⟩,[.t .str,.ptr 3 0,.oslc 4,.ptr 5 0,.ptr 10 0],[.blk 146 [.t (.int .i64),.t (.int .i64),.t (.int .i64),.t (.int .i64)],.blk 146 [.t (.int .i64),.t (.int .i64),.t (.int .i64),.t (.int .i64)],.sit,.row 146 (.st 146)]⟩ [⟨.ret,⟨⟨[2,3],[3],[⟨.slot 2,2,146,(.st 146)⟩]⟩,[.oslc 2,.ptr 3 0],[.blk 146 [.t (.int .i64),.t (.int .i64),.t (.int .i64),.t (.int .i64)],.row 146 (.st 146)]⟩⟩,⟨.exit 0,⟨⟨[3,4,5],[3,5],[⟨.slot 4,4,146,(.st 146)⟩]⟩,[.ptr 3 0,.oslc 4,.ptr 5 0],[.blk 146 [.t (.int .i64),.t (.int .i64),.t (.int .i64),.t (.int .i64)],.blk 146 [.t (.int .i64),.t (.int .i64),.t (.int .i64),.t (.int .i64)],.row 146 (.st 146)]⟩⟩] [.str,.int .i64,.int .i64,.int .i64,.int .i64,.int .i64,.int .i64,.int .i64,.int .i64,.str,.fn,.slc (.st 146)] [[.int .i64,.int .i64,.int .i64,.int .i64,.slc (.st 146)],[.int .i64,.int .i64,.int .i64,.int .i64,.int .i64,.int .i64,.int .i64,.int .i64,.slc (.st 146)]] qbt_l4
theorem qbt_ok4:LoopR kk env0 Tryz.f114.ntmps qbt_b4 qbt_lp4:=
  loopG qbt_i4 qbt_t4 (ko known6) (L:=noL) (zaab (bs:=[]) (by kernel_rfl) trivial) (by kernel_rfl) (fun _=>by kernel_rfl) (zaaa _) (fun _=>by kernel_rfl)
def qbt_L:Nat→Option (Lift.Loop U):=fun n=>bif Nat.beq n 4 then some qbt_lp4 else none
def qbt_md:Mode U:=mdG ⟨⟨[0],[],[]⟩,[.t .str],[]⟩ [] [⟨⟨[0,1],[],[⟨.slot 0,100050,146,(.st 146)⟩]⟩,[.oslc 100050,.t (.st 146)],[.row 146 (.st 146)]⟩] [.str] [[.st 146,.slc (.st 146)]] qbt
theorem qbt_post:zaad kk env0 114 qbt_md:=
  fnG (fn:=Tryz.f114) (ko known6) (by kernel_rfl) (L:=qbt_L) (zaab (bs:=[qbt_b4]) (by kernel_rfl) ⟨.inr ⟨_,by kernel_rfl,zaai.of_round (qbt_ok4)⟩,trivial⟩) (zaaa _) (by kernel_rfl)
def ms7:List (FuncId×Mode U):=(114,qbt_md)::ms6
theorem known7:Known kk env0 (zaac ms7):=known_cons (by kernel_rfl) qbt_post known6
def qbs_md:Mode U:=mdG ⟨⟨[0],[],[]⟩,[.t .str],[]⟩ [] [⟨⟨[0,1],[],[⟨.slot 0,100050,146,(.st 146)⟩]⟩,[.oslc 100050,.t (.st 130)],[.row 146 (.st 146)]⟩] [.str] [[.st 130,.slc (.st 146)]] qbs
theorem qbs_post:zaad kk env0 102 qbs_md:=
  fnG (fn:=Tryz.f102) (ko known7) (by kernel_rfl) (L:=noL) (zaab (bs:=[]) (by kernel_rfl) trivial) (zaaa _) (by kernel_rfl)
def ms8:List (FuncId×Mode U):=(102,qbs_md)::ms7
theorem known8:Known kk env0 (zaac ms8):=known_cons (by kernel_rfl) qbs_post known7
def qbp_md:Mode U:=mdG ⟨⟨[0],[],[]⟩,[.t (.int .i64)],[]⟩ [] [⟨⟨[0],[],[]⟩,[.t .bool],[]⟩] [.int .i64] [[.bool]] qbp
theorem qbp_post:zaad kk env0 115 qbp_md:=
  fnG (fn:=Tryz.f115) (ko known8) (by kernel_rfl) (L:=noL) (zaab (bs:=[]) (by kernel_rfl) trivial) (zaaa _) (by kernel_rfl)
def ms9:List (FuncId×Mode U):=(115,qbp_md)::ms8
theorem known9:Known kk env0 (zaac ms9):=known_cons (by kernel_rfl) qbp_post known8
def qaB_b3:Code:=(zaag (zaae Tryz.f103) 0)
def qaB_lp3:Lift.Loop U:=lpG ⟨⟨[0,3,7],[7],[]⟩,[.t .str,.t .bool,.ptr 7 0],[.sit]⟩ [⟨.ret,⟨⟨[2],[],[]⟩,[.t (.int .i64)],[]⟩⟩,⟨.exit 0,⟨⟨[0],[],[]⟩,[.t .str],[]⟩⟩] [.str,.bool,.str,.fn] [[.int .i64],[.str]] qaB_l3
theorem qaB_ok3:LoopR kk env0 Tryz.f103.ntmps qaB_b3 qaB_lp3:=
  loopG qaB_i3 qaB_t3 (ko known9) (L:=noL) (zaab (bs:=[]) (by kernel_rfl) trivial) (by kernel_rfl) (fun _=>by kernel_rfl) (zaaa _) (fun _=>by kernel_rfl)
def qaB_L:Nat→Option (Lift.Loop U):=fun n=>bif Nat.beq n 3 then some qaB_lp3 else none
def qaB_md:Mode U:=mdG ⟨⟨[0],[],[]⟩,[.t .str],[]⟩ [] [⟨⟨[0],[],[]⟩,[.t (.int .i64)],[]⟩] [.str] [[.int .i64]] qaB
theorem qaB_post:zaad kk env0 103 qaB_md:=
  fnG (fn:=Tryz.f103) (ko known9) (by kernel_rfl) (L:=qaB_L) (zaab (bs:=[qaB_b3]) (by kernel_rfl) ⟨.inr ⟨_,by kernel_rfl,zaai.of_round (qaB_ok3)⟩,trivial⟩) (zaaa _) (by kernel_rfl)
def ms10:List (FuncId×Mode U):=(103,qaB_md)::ms9
theorem known10:Known kk env0 (zaac ms10):=known_cons (by kernel_rfl) qaB_post known9
def qbP_md:Mode U:=mdG ⟨⟨[0],[],[]⟩,[.t (.int .i32)],[]⟩ [] [⟨⟨[0],[],[]⟩,[.t .bool],[]⟩] [.int .i32] [[.bool]] qbP
theorem qbP_post:zaad kk env0 147 qbP_md:=
  fnG (fn:=Tryz.f147) (ko known10) (by kernel_rfl) (L:=noL) (zaab (bs:=[]) (by kernel_rfl) trivial) (zaaa _) (by kernel_rfl)
def ms11:List (FuncId×Mode U):=(147,qbP_md)::ms10
theorem known11:Known kk env0 (zaac ms11):=known_cons (by kernel_rfl) qbP_post known10
def qbu_md:Mode U:=mdG ⟨⟨[0],[],[]⟩,[.t (.int .i64)],[]⟩ [] [⟨⟨[0],[],[]⟩,[.t .bool],[]⟩] [.int .i64] [[.bool]] qbu
theorem qbu_post:zaad kk env0 136 qbu_md:=
  fnG (fn:=Tryz.f136) (ko known11) (by kernel_rfl) (L:=noL) (zaab (bs:=[]) (by kernel_rfl) trivial) (zaaa _) (by kernel_rfl)
def ms12:List (FuncId×Mode U):=(136,qbu_md)::ms11
theorem known12:Known kk env0 (zaac ms12):=known_cons (by kernel_rfl) qbu_post known11
def qbr_md:Mode U:=mdG ⟨⟨[0],[],[]⟩,[.t (.int .i64)],[]⟩ [] [⟨⟨[0],[],[]⟩,[.t .bool],[]⟩] [.int .i64] [[.bool]] qbr
theorem qbr_post:zaad kk env0 131 qbr_md:=
  fnG (fn:=Tryz.f131) (ko known12) (by kernel_rfl) (L:=noL) (zaab (bs:=[]) (by kernel_rfl) trivial) (zaaa _) (by kernel_rfl)
def ms13:List (FuncId×Mode U):=(131,qbr_md)::ms12
theorem known13:Known kk env0 (zaac ms13):=known_cons (by kernel_rfl) qbr_post known12
def qbq_md:Mode U:=mdG ⟨⟨[0],[],[]⟩,[.t (.int .i64)],[]⟩ [] [⟨⟨[0],[],[]⟩,[.t .bool],[]⟩] [.int .i64] [[.bool]] qbq
theorem qbq_post:zaad kk env0 120 qbq_md:=
  fnG (fn:=Tryz.f120) (ko known13) (by kernel_rfl) (L:=noL) (zaab (bs:=[]) (by kernel_rfl) trivial) (zaaa _) (by kernel_rfl)
def ms14:List (FuncId×Mode U):=(120,qbq_md)::ms13
theorem known14:Known kk env0 (zaac ms14):=known_cons (by kernel_rfl) qbq_post known13
def qaz_md:Mode U:=mdG ⟨⟨[0],[],[]⟩,[.t (.int .i32)],[]⟩ [] [⟨⟨[0],[],[]⟩,[.t .bool],[]⟩] [.int .i32] [[.bool]] qaz
theorem qaz_post:zaad kk env0 117 qaz_md:=
  fnG (fn:=Tryz.f117) (ko known14) (by kernel_rfl) (L:=noL) (zaab (bs:=[]) (by kernel_rfl) trivial) (zaaa _) (by kernel_rfl)
def ms15:List (FuncId×Mode U):=(117,qaz_md)::ms14
theorem known15:Known kk env0 (zaac ms15):=known_cons (by kernel_rfl) qaz_post known14
def qby_b2:Code:=(zaag (zaae Tryz.f83) 0)
def qby_lp2:Lift.Loop U:=lpG ⟨⟨[0,1,7,8],[],[]⟩,[.t (.slc .str),.t .str,.t (.int .i64),.t (.int .i64)],[]⟩ [⟨.ret,⟨⟨[4],[],[]⟩,[.t (.int .i64)],[]⟩⟩,⟨.exit 0,⟨⟨[],[],[]⟩,[],[]⟩⟩] [.slc .str,.str,.int .i64,.int .i64] [[.int .i64],[]] qby_l2
theorem qby_ok2:LoopR kk env0 Tryz.f83.ntmps qby_b2 qby_lp2:=
  loopG qby_i2 qby_t2 (ko known15) (L:=noL) (zaab (bs:=[]) (by kernel_rfl) trivial) (by kernel_rfl) (fun _=>by kernel_rfl) (zaaa _) (fun _=>by kernel_rfl)
def qby_L:Nat→Option (Lift.Loop U):=fun n=>bif Nat.beq n 2 then some qby_lp2 else none
def qby_md:Mode U:=mdG ⟨⟨[0,1],[],[]⟩,[.t (.slc .str),.t .str],[]⟩ [] [⟨⟨[0],[],[]⟩,[.t (.int .i64)],[]⟩] [.slc .str,.str] [[.int .i64]] qby
theorem qby_post:zaad kk env0 83 qby_md:=
  fnG (fn:=Tryz.f83) (ko known15) (by kernel_rfl) (L:=qby_L) (zaab (bs:=[qby_b2]) (by kernel_rfl) ⟨.inr ⟨_,by kernel_rfl,zaai.of_round (qby_ok2)⟩,trivial⟩) (zaaa _) (by kernel_rfl)
def ms16:List (FuncId×Mode U):=(83,qby_md)::ms15
theorem known16:Known kk env0 (zaac ms16):=known_cons (by kernel_rfl) qby_post known15
def qbx_md:Mode U:=mdG ⟨⟨[0,1],[],[]⟩,[.t (.slc .str),.t .str],[]⟩ [] [⟨⟨[0],[],[]⟩,[.t .bool],[]⟩] [.slc .str,.str] [[.bool]] qbx
theorem qbx_post:zaad kk env0 122 qbx_md:=
  fnG (fn:=Tryz.f122) (ko known16) (by kernel_rfl) (L:=noL) (zaab (bs:=[]) (by kernel_rfl) trivial) (zaaa _) (by kernel_rfl)
def ms17:List (FuncId×Mode U):=(122,qbx_md)::ms16
theorem known17:Known kk env0 (zaac ms17):=known_cons (by kernel_rfl) qbx_post known16
def qaC_md:Mode U:=mdG ⟨⟨[0],[],[]⟩,[.t .str],[]⟩ [] [⟨⟨[0],[],[]⟩,[.t .str],[]⟩] [.str] [[.str]] qaC
theorem qaC_post:zaad kk env0 118 qaC_md:=
  fnG (fn:=Tryz.f118) (ko known17) (by kernel_rfl) (L:=noL) (zaab (bs:=[]) (by kernel_rfl) trivial) (zaaa _) (by kernel_rfl)
def ms18:List (FuncId×Mode U):=(118,qaC_md)::ms17
theorem known18:Known kk env0 (zaac ms18):=known_cons (by kernel_rfl) qaC_post known17
def qaE_b2:Code:=(zaag (zaae Tryz.f119) 0)
def qaE_lp2:Lift.Loop U:=lpG ⟨⟨[0,6],[6],[]⟩,[.t .str,.ptr 6 0],[.sit]⟩ [⟨.ret,⟨⟨[2],[],[]⟩,[.t .str],[]⟩⟩,⟨.exit 0,⟨⟨[0],[],[]⟩,[.t .str],[]⟩⟩] [.str,.str,.fn] [[.str],[.str]] qaE_l2
theorem qaE_ok2:LoopR kk env0 Tryz.f119.ntmps qaE_b2 qaE_lp2:=
  loopG qaE_i2 qaE_t2 (ko known18) (L:=noL) (zaab (bs:=[]) (by kernel_rfl) trivial) (by kernel_rfl) (fun _=>by kernel_rfl) (zaaa _) (fun _=>by kernel_rfl)
def qaE_L:Nat→Option (Lift.Loop U):=fun n=>bif Nat.beq n 2 then some qaE_lp2 else none
def qaE_md:Mode U:=mdG ⟨⟨[0],[],[]⟩,[.t .str],[]⟩ [] [⟨⟨[0],[],[]⟩,[.t .str],[]⟩] [.str] [[.str]] qaE
theorem qaE_post:zaad kk env0 119 qaE_md:=
  fnG (fn:=Tryz.f119) (ko known18) (by kernel_rfl) (L:=qaE_L) (zaab (bs:=[qaE_b2]) (by kernel_rfl) ⟨.inr ⟨_,by kernel_rfl,zaai.of_round (qaE_ok2)⟩,trivial⟩) (zaaa _) (by kernel_rfl)
def ms19:List (FuncId×Mode U):=(119,qaE_md)::ms18
theorem known19:Known kk env0 (zaac ms19):=known_cons (by kernel_rfl) qaE_post known18
def qaA_md:Mode U:=mdG ⟨⟨[0],[],[]⟩,[.t .str],[]⟩ [] [⟨⟨[0,1],[],[]⟩,[.t (.int .i64),.t .bool],[]⟩] [.str] [[.int .i64,.bool]] qaA
theorem qaA_post:zaad kk env0 121 qaA_md:=
  fnG (fn:=Tryz.f121) (ko known19) (by kernel_rfl) (L:=noL) (zaab (bs:=[]) (by kernel_rfl) trivial) (zaaa _) (by kernel_rfl)
def ms20:List (FuncId×Mode U):=(121,qaA_md)::ms19
theorem known20:Known kk env0 (zaac ms20):=known_cons (by kernel_rfl) qaA_post known19
def qay_md:Mode U:=mdG ⟨⟨[],[],[]⟩,[],[]⟩ [] [⟨⟨[0],[],[⟨.slot 0,100050,9,.str⟩]⟩,[.oslc 100050],[.row 9 .str]⟩] [] [[.slc .str]] qay
theorem qay_post:zaad kk env0 123 qay_md:=
  fnG (fn:=Tryz.f123) (ko known20) (by kernel_rfl) (L:=noL) (zaab (bs:=[]) (by kernel_rfl) trivial) (zaaa _) (by kernel_rfl)
def ms21:List (FuncId×Mode U):=(123,qay_md)::ms20
theorem known21:Known kk env0 (zaac ms21):=known_cons (by kernel_rfl) qay_post known20
def qaD_md:Mode U:=mdG ⟨⟨[0],[],[]⟩,[.t .str],[]⟩ [] [⟨⟨[0,1],[],[]⟩,[.t (.st 134),.t (.int .i64)],[]⟩] [.str] [[.st 134,.int .i64]] qaD
theorem qaD_post:zaad kk env0 104 qaD_md:=
  fnG (fn:=Tryz.f104) (ko known21) (by kernel_rfl) (L:=noL) (zaab (bs:=[]) (by kernel_rfl) trivial) (zaaa _) (by kernel_rfl)
def ms22:List (FuncId×Mode U):=(104,qaD_md)::ms21
theorem known22:Known kk env0 (zaac ms22):=known_cons (by kernel_rfl) qaD_post known21
def qax_b6:Code:=(zaag (zaae Tryz.f94) 0)
def qax_lp6:Lift.Loop U:=lpG ⟨⟨[0,3,6,7],[3],[⟨.slot 6,6,134,(.st 134)⟩]⟩,[.t .str,.ptr 3 0,.oslc 6,.t (.int .i64)],[.blk 130 [.t (.int .i64),.t (.int .i64),.t .str],.row 134 (.st 134)]⟩ [⟨.ret,⟨⟨[2,3],[3],[]⟩,[.nil,.ptr 3 0],[.blk 130 [.t (.int .i64),.t (.int .i64),.t .str]]⟩⟩,⟨.exit 0,⟨⟨[0,3,6],[3],[⟨.slot 6,6,134,(.st 134)⟩]⟩,[.t .str,.ptr 3 0,.oslc 6],[.blk 130 [.t (.int .i64),.t (.int .i64),.t .str],.row 134 (.st 134)]⟩⟩] [.str,.int .i64,.int .i64,.int .i64,.str,.slc (.st 134)] [[.int .i64,.int .i64,.str],[.str,.int .i64,.int .i64,.str,.slc (.st 134)]] qax_l6
theorem qax_ok6:LoopR kk env0 Tryz.f94.ntmps qax_b6 qax_lp6:=
  loopG qax_i6 qax_t6 (ko known22) (L:=noL) (zaab (bs:=[]) (by kernel_rfl) trivial) (by kernel_rfl) (fun _=>by kernel_rfl) (zaaa _) (fun _=>by kernel_rfl)
def qax_L:Nat→Option (Lift.Loop U):=fun n=>bif Nat.beq n 6 then some qax_lp6 else none
def qax_md:Mode U:=mdG ⟨⟨[0],[],[]⟩,[.t .str],[]⟩ [] [⟨⟨[0,1],[],[⟨.slot 0,100050,134,(.st 134)⟩]⟩,[.oslc 100050,.t (.st 130)],[.row 134 (.st 134)]⟩] [.str] [[.st 130,.slc (.st 134)]] qax
theorem qax_post:zaad kk env0 94 qax_md:=
  fnG (fn:=Tryz.f94) (ko known22) (by kernel_rfl) (L:=qax_L) (zaab (bs:=[qax_b6]) (by kernel_rfl) ⟨.inr ⟨_,by kernel_rfl,zaai.of_round (qax_ok6)⟩,trivial⟩) (zaaa _) (by kernel_rfl)
def ms23:List (FuncId×Mode U):=(94,qax_md)::ms22
theorem known23:Known kk env0 (zaac ms23):=known_cons (by kernel_rfl) qax_post known22
def qbL_md:Mode U:=mdG ⟨⟨[0],[],[]⟩,[.t .str],[]⟩ [] [⟨⟨[0],[],[]⟩,[.t .bool],[]⟩] [.str] [[.bool]] qbL
theorem qbL_post:zaad kk env0 73 qbL_md:=
  fnG (fn:=Tryz.f73) (ko known23) (by kernel_rfl) (L:=jnL) (zaab (bs:=[]) (by kernel_rfl) trivial) (zaaa _) (by kernel_rfl)
def ms24:List (FuncId×Mode U):=(73,qbL_md)::ms23
theorem known24:Known kk env0 (zaac ms24):=known_cons (by kernel_rfl) qbL_post known23
def qbM_md:Mode U:=mdG ⟨⟨[],[],[]⟩,[],[]⟩ [] [⟨⟨[0],[],[]⟩,[.t (.map (.int .i64) (.st 136))],[]⟩] [] [[.map (.int .i64) (.st 136)]] qbM
theorem qbM_post:zaad kk env0 95 qbM_md:=
  fnG (fn:=Tryz.f95) (ko known24) (by kernel_rfl) (L:=jnL) (zaab (bs:=[]) (by kernel_rfl) trivial) (zaaa _) (by kernel_rfl)
def ms25:List (FuncId×Mode U):=(95,qbM_md)::ms24
theorem known25:Known kk env0 (zaac ms25):=known_cons (by kernel_rfl) qbM_post known24
def qbK_md:Mode U:=mdG ⟨⟨[0,1],[],[]⟩,[.t .str,.t .bool],[]⟩ [] [⟨⟨[0],[],[]⟩,[.t .bool],[]⟩] [.str,.bool] [[.bool]] qbK
theorem qbK_post:zaad kk env0 96 qbK_md:=
  fnG (fn:=Tryz.f96) (ko known25) (by kernel_rfl) (L:=jnL) (zaab (bs:=[]) (by kernel_rfl) trivial) (zaaa _) (by kernel_rfl)
def ms26:List (FuncId×Mode U):=(96,qbK_md)::ms25
theorem known26:Known kk env0 (zaac ms26):=known_cons (by kernel_rfl) qbK_post known25
def qbN_md:Mode U:=mdG ⟨⟨[0],[],[]⟩,[.t (.st 62)],[]⟩ [] [⟨⟨[0],[],[]⟩,[.t .bool],[]⟩] [.st 62] [[.bool]] qbN
theorem qbN_post:zaad kk env0 75 qbN_md:=
  fnG (fn:=Tryz.f75) (ko known26) (by kernel_rfl) (L:=jnL) (zaab (bs:=[]) (by kernel_rfl) trivial) (zaaa _) (by kernel_rfl)
def ms27:List (FuncId×Mode U):=(75,qbN_md)::ms26
theorem known27:Known kk env0 (zaac ms27):=known_cons (by kernel_rfl) qbN_post known26
def qbI_md:Mode U:=mdG ⟨⟨[0,1,2],[100000],[]⟩,[.t (.st 62),.t (.int .i64),.ptr 100000 0],[.blk 4 [.t .bool]]⟩ [⟨100000,.slot 2,[]⟩] [⟨⟨[],[100000],[]⟩,[],[.blk 4 [.t .bool]]⟩] [.st 62,.int .i64,.bool] [[.bool]] qbI
theorem qbI_post:zaad kk env0 74 qbI_md:=
  fnG (fn:=Tryz.f74) (ko known27) (by kernel_rfl) (L:=jnL) (zaab (bs:=[]) (by kernel_rfl) trivial) (zaaa _) (by kernel_rfl)
def ms28:List (FuncId×Mode U):=(74,qbI_md)::ms27
theorem known28:Known kk env0 (zaac ms28):=known_cons (by kernel_rfl) qbI_post known27
def qbG_md:Mode U:=mdG ⟨⟨[0],[],[]⟩,[.t (.st 60)],[]⟩ [] [⟨⟨[0],[],[]⟩,[.t .bool],[]⟩] [.st 60] [[.bool]] qbG
theorem qbG_post:zaad kk env0 77 qbG_md:=
  fnG (fn:=Tryz.f77) (ko known28) (by kernel_rfl) (L:=jnL) (zaab (bs:=[]) (by kernel_rfl) trivial) (zaaa _) (by kernel_rfl)
def ms29:List (FuncId×Mode U):=(77,qbG_md)::ms28
theorem known29:Known kk env0 (zaac ms29):=known_cons (by kernel_rfl) qbG_post known28
def qbJ_md:Mode U:=mdG ⟨⟨[0,1,2],[100000],[]⟩,[.t (.st 60),.t (.int .i64),.ptr 100000 0],[.blk 4 [.t .bool]]⟩ [⟨100000,.slot 2,[]⟩] [⟨⟨[],[100000],[]⟩,[],[.blk 4 [.t .bool]]⟩] [.st 60,.int .i64,.bool] [[.bool]] qbJ
theorem qbJ_post:zaad kk env0 76 qbJ_md:=
  fnG (fn:=Tryz.f76) (ko known29) (by kernel_rfl) (L:=jnL) (zaab (bs:=[]) (by kernel_rfl) trivial) (zaaa _) (by kernel_rfl)
def ms30:List (FuncId×Mode U):=(76,qbJ_md)::ms29
theorem known30:Known kk env0 (zaac ms30):=known_cons (by kernel_rfl) qbJ_post known29
abbrev qac_tr:Type:=curT U (sumT U [[.bool]]) [.st 60,.int .i64,.bool]
def qac_rmd (rec_qac:qac_tr):Mode U:=mdG ⟨⟨[0,1,2],[100000],[]⟩,[.agg [.clo 74 [.ptr 100000 0],.clo 76 [.ptr 100000 0]],.t (.st 60),.t (.int .i64)],[.blk 4 [.t .bool]]⟩ [⟨100000,.slot 0,[0,0]⟩] [⟨⟨[],[100000],[]⟩,[],[.blk 4 [.t .bool]]⟩] [.st 60,.int .i64,.bool] [[.bool]] rec_qac
abbrev qac_rec (r:qac_tr):Prop:=zaad kk env0 105 (qac_rmd r)
def ms31 (rec_qac:qac_tr):List (FuncId×Mode U):=(105,(qac_rmd rec_qac))::ms30
theorem known31 (rec_qac:qac_tr) (hrec_qac:qac_rec rec_qac):Known kk env0 (zaac (ms31 rec_qac)):=known_cons (by kernel_rfl) hrec_qac known30
def qac_b3:Code:=(zaag (zaae Tryz.f105) 0)
def qac_lp3 (rec_qac:qac_tr):Lift.Loop U:=lpG ⟨⟨[2,3,14,15,16],[100000,3],[]⟩,[.t (.int .i64),.ptr 3 0,.t (.slc (.st 60)),.t (.int .i64),.t (.int .i64)],[.blk 4 [.t .bool],.blk 122 [.clo 74 [.ptr 100000 0],.clo 76 [.ptr 100000 0]]]⟩ [⟨.exit 0,⟨⟨[],[100000],[]⟩,[],[.blk 4 [.t .bool]]⟩⟩] [.int .i64,.slc (.st 60),.int .i64,.int .i64,.bool] [[.bool]] (qac_l3 rec_qac)
theorem qac_ok3 (rec_qac:qac_tr) (hrec_qac:qac_rec rec_qac):LoopR kk env0 Tryz.f105.ntmps qac_b3 (qac_lp3 rec_qac):=
  loopG (qac_i3 rec_qac) (qac_t3 rec_qac) (ko (known31 rec_qac hrec_qac)) (L:=jnL) (zaab (bs:=[]) (by kernel_rfl) trivial) (by kernel_rfl) (fun _=>by kernel_rfl) (zaaa _) (fun _=>by kernel_rfl)
def qac_L (rec_qac:qac_tr):Nat→Option (Lift.Loop U):=fun n=>bif Nat.beq n zaal then some zaaj else bif Nat.beq n 3 then some (qac_lp3 rec_qac) else none
def qac_md:Mode U:=qac_rmd qac
theorem qac_step (rec_qac:qac_tr) (hrec_qac:qac_rec rec_qac):zaap (Kit.withModes kk (zaac (ms31 rec_qac))) env0 Tryz.f105.ntmps (qac_L rec_qac) (zaae Tryz.f105):=zaab (bs:=[qac_b3]) (by kernel_rfl) ⟨.inr ⟨_,by kernel_rfl,zaai.of_round (qac_ok3 rec_qac hrec_qac)⟩,trivial⟩
theorem qac_post:zaad kk env0 105 (qac_rmd qac):=
  recG qac_i qac_f (by kernel_rfl) (fun _=>by kernel_rfl) (zaaa _) fun r ih=>fnG (fn:=Tryz.f105) (ko (known31 r ih)) (by kernel_rfl) (qac_step r ih) rfl (by kernel_rfl)
def ms32:List (FuncId×Mode U):=(105,qac_md)::ms30
theorem known32:Known kk env0 (zaac ms32):=known_cons (by kernel_rfl) qac_post known30
abbrev qai_tr:Type:=curT U (sumT U [[.bool]]) [.slc (.st 62),.int .i64,.bool]
def qai_rmd (rec_qai:qai_tr):Mode U:=mdG ⟨⟨[0,1,2],[100000],[]⟩,[.agg [.clo 74 [.ptr 100000 0],.clo 76 [.ptr 100000 0]],.t (.slc (.st 62)),.t (.int .i64)],[.blk 4 [.t .bool]]⟩ [⟨100000,.slot 0,[0,0]⟩] [⟨⟨[],[100000],[]⟩,[],[.blk 4 [.t .bool]]⟩] [.slc (.st 62),.int .i64,.bool] [[.bool]] rec_qai
abbrev qai_rec (r:qai_tr):Prop:=zaad kk env0 97 (qai_rmd r)
def ms33 (rec_qai:qai_tr):List (FuncId×Mode U):=(97,(qai_rmd rec_qai))::ms32
theorem known33 (rec_qai:qai_tr) (hrec_qai:qai_rec rec_qai):Known kk env0 (zaac (ms33 rec_qai)):=known_cons (by kernel_rfl) hrec_qai known32
def qai_b2:Code:=(zaag (zaae Tryz.f97) 0)
def qai_lp2 (rec_qai:qai_tr):Lift.Loop U:=lpG ⟨⟨[2,3,8,9,10],[100000,3],[]⟩,[.t (.int .i64),.ptr 3 0,.t (.slc (.st 62)),.t (.int .i64),.t (.int .i64)],[.blk 4 [.t .bool],.blk 122 [.clo 74 [.ptr 100000 0],.clo 76 [.ptr 100000 0]]]⟩ [⟨.exit 0,⟨⟨[],[100000],[]⟩,[],[.blk 4 [.t .bool]]⟩⟩] [.int .i64,.slc (.st 62),.int .i64,.int .i64,.bool] [[.bool]] (qai_l2 rec_qai)
theorem qai_ok2 (rec_qai:qai_tr) (hrec_qai:qai_rec rec_qai):LoopR kk env0 Tryz.f97.ntmps qai_b2 (qai_lp2 rec_qai):=
  loopG (qai_i2 rec_qai) (qai_t2 rec_qai) (ko (known33 rec_qai hrec_qai)) (L:=jnL) (zaab (bs:=[]) (by kernel_rfl) trivial) (by kernel_rfl) (fun _=>by kernel_rfl) (zaaa _) (fun _=>by kernel_rfl)
def qai_L (rec_qai:qai_tr):Nat→Option (Lift.Loop U):=fun n=>bif Nat.beq n zaal then some zaaj else bif Nat.beq n 2 then some (qai_lp2 rec_qai) else none
def qai_md:Mode U:=qai_rmd qai
theorem qai_step (rec_qai:qai_tr) (hrec_qai:qai_rec rec_qai):zaap (Kit.withModes kk (zaac (ms33 rec_qai))) env0 Tryz.f97.ntmps (qai_L rec_qai) (zaae Tryz.f97):=zaab (bs:=[qai_b2]) (by kernel_rfl) ⟨.inr ⟨_,by kernel_rfl,zaai.of_round (qai_ok2 rec_qai hrec_qai)⟩,trivial⟩
theorem qai_post:zaad kk env0 97 (qai_rmd qai):=
  recG qai_i qai_f (by kernel_rfl) (fun _=>by kernel_rfl) (zaaa _) fun r ih=>fnG (fn:=Tryz.f97) (ko (known33 r ih)) (by kernel_rfl) (qai_step r ih) rfl (by kernel_rfl)
def ms34:List (FuncId×Mode U):=(97,qai_md)::ms32
theorem known34:Known kk env0 (zaac ms34):=known_cons (by kernel_rfl) qai_post known32
def qaf_b2:Code:=(zaag (zaae Tryz.f78) 0)
def qaf_lp2:Lift.Loop U:=lpG ⟨⟨[2,7,8,9],[100000,2],[]⟩,[.ptr 2 0,.t (.slc (.st 51)),.t (.int .i64),.t (.int .i64)],[.blk 4 [.t .bool],.blk 122 [.clo 74 [.ptr 100000 0],.clo 76 [.ptr 100000 0]]]⟩ [⟨.exit 0,⟨⟨[],[100000],[]⟩,[],[.blk 4 [.t .bool]]⟩⟩] [.slc (.st 51),.int .i64,.int .i64,.bool] [[.bool]] qaf_l2
theorem qaf_ok2:LoopR kk env0 Tryz.f78.ntmps qaf_b2 qaf_lp2:=
  loopG qaf_i2 qaf_t2 (ko known34) (L:=jnL) (zaab (bs:=[]) (by kernel_rfl) trivial) (by kernel_rfl) (fun _=>by kernel_rfl) (zaaa _) (fun _=>by kernel_rfl)
def qaf_L:Nat→Option (Lift.Loop U):=fun n=>bif Nat.beq n zaal then some zaaj else bif Nat.beq n 2 then some qaf_lp2 else none
def qaf_md:Mode U:=mdG ⟨⟨[0,1],[100000],[]⟩,[.agg [.clo 74 [.ptr 100000 0],.clo 76 [.ptr 100000 0]],.t (.st 26)],[.blk 4 [.t .bool]]⟩ [⟨100000,.slot 0,[0,0]⟩] [⟨⟨[],[100000],[]⟩,[],[.blk 4 [.t .bool]]⟩] [.st 26,.bool] [[.bool]] qaf
theorem qaf_post:zaad kk env0 78 qaf_md:=
  fnG (fn:=Tryz.f78) (ko known34) (by kernel_rfl) (L:=qaf_L) (zaab (bs:=[qaf_b2]) (by kernel_rfl) ⟨.inr ⟨_,by kernel_rfl,zaai.of_round (qaf_ok2)⟩,trivial⟩) (zaaa _) (by kernel_rfl)
def ms35:List (FuncId×Mode U):=(78,qaf_md)::ms34
theorem known35:Known kk env0 (zaac ms35):=known_cons (by kernel_rfl) qaf_post known34
def qbH_b3:Code:=(zaag (zaae Tryz.f54) 0)
def qbH_lp3:Lift.Loop U:=lpG ⟨⟨[1,3,11,12,13],[1,3],[]⟩,[.ptr 1 0,.ptr 3 0,.t (.slc (.st 48)),.t (.int .i64),.t (.int .i64)],[.blk 26 [.t (.slc (.st 48)),.t (.slc .str),.t (.slc (.st 51))],.blk 4 [.t .bool]]⟩ [⟨.exit 0,⟨⟨[1,3],[1,3],[]⟩,[.ptr 1 0,.ptr 3 0],[.blk 26 [.t (.slc (.st 48)),.t (.slc .str),.t (.slc (.st 51))],.blk 4 [.t .bool]]⟩⟩] [.slc (.st 48),.int .i64,.int .i64,.slc (.st 48),.slc .str,.slc (.st 51),.bool] [[.slc (.st 48),.slc .str,.slc (.st 51),.bool]] qbH_l3
theorem qbH_ok3:LoopR kk env0 Tryz.f54.ntmps qbH_b3 qbH_lp3:=
  loopG qbH_i3 qbH_t3 (ko known35) (L:=jnL) (zaab (bs:=[]) (by kernel_rfl) trivial) (by kernel_rfl) (fun _=>by kernel_rfl) (zaaa _) (fun _=>by kernel_rfl)
def qbH_b8:Code:=(zaag (zaae Tryz.f54) 1)
def qbH_lp8:Lift.Loop U:=lpG ⟨⟨[1,3,35,36,37],[1,3],[]⟩,[.ptr 1 0,.ptr 3 0,.t (.slc .str),.t (.int .i64),.t (.int .i64)],[.blk 26 [.t (.slc (.st 48)),.t (.slc .str),.t (.slc (.st 51))],.blk 4 [.t .bool]]⟩ [⟨.exit 2,⟨⟨[1,3],[1,3],[]⟩,[.ptr 1 0,.ptr 3 0],[.blk 26 [.t (.slc (.st 48)),.t (.slc .str),.t (.slc (.st 51))],.blk 4 [.t .bool]]⟩⟩] [.slc .str,.int .i64,.int .i64,.slc (.st 48),.slc .str,.slc (.st 51),.bool] [[.slc (.st 48),.slc .str,.slc (.st 51),.bool]] qbH_l8
theorem qbH_ok8:LoopR kk env0 Tryz.f54.ntmps qbH_b8 qbH_lp8:=
  loopG qbH_i8 qbH_t8 (ko known35) (L:=jnL) (zaab (bs:=[]) (by kernel_rfl) trivial) (by kernel_rfl) (fun _=>by kernel_rfl) (zaaa _) (fun _=>by kernel_rfl)
def qbH_b13:Code:=(zaag (zaae Tryz.f54) 2)
def qbH_lp13:Lift.Loop U:=lpG ⟨⟨[1,3,48,49,50],[1,3],[]⟩,[.ptr 1 0,.ptr 3 0,.t (.slc (.st 51)),.t (.int .i64),.t (.int .i64)],[.blk 26 [.t (.slc (.st 48)),.t (.slc .str),.t (.slc (.st 51))],.blk 4 [.t .bool]]⟩ [⟨.exit 4,⟨⟨[1,3],[1,3],[]⟩,[.ptr 1 0,.ptr 3 0],[.blk 26 [.t (.slc (.st 48)),.t (.slc .str),.t (.slc (.st 51))],.blk 4 [.t .bool]]⟩⟩] [.slc (.st 51),.int .i64,.int .i64,.slc (.st 48),.slc .str,.slc (.st 51),.bool] [[.slc (.st 48),.slc .str,.slc (.st 51),.bool]] qbH_l13
theorem qbH_ok13:LoopR kk env0 Tryz.f54.ntmps qbH_b13 qbH_lp13:=
  loopG qbH_i13 qbH_t13 (ko known35) (L:=jnL) (zaab (bs:=[]) (by kernel_rfl) trivial) (by kernel_rfl) (fun _=>by kernel_rfl) (zaaa _) (fun _=>by kernel_rfl)
def qbH_L:Nat→Option (Lift.Loop U):=fun n=>bif Nat.beq n zaal then some zaaj else bif Nat.beq n 3 then some qbH_lp3 else bif Nat.beq n 8 then some qbH_lp8 else bif Nat.beq n 13 then some qbH_lp13 else none
def qbH_md:Mode U:=mdG ⟨⟨[0],[],[]⟩,[.t (.st 26)],[]⟩ [] [⟨⟨[0],[],[]⟩,[.t .bool],[]⟩] [.st 26] [[.bool]] qbH
theorem qbH_post:zaad kk env0 54 qbH_md:=
  fnG (fn:=Tryz.f54) (ko known35) (by kernel_rfl) (L:=qbH_L) (zaab (bs:=[qbH_b3,qbH_b8,qbH_b13]) (by kernel_rfl) ⟨.inr ⟨_,by kernel_rfl,zaai.of_round (qbH_ok3)⟩,.inr ⟨_,by kernel_rfl,zaai.of_round (qbH_ok8)⟩,.inr ⟨_,by kernel_rfl,zaai.of_round (qbH_ok13)⟩,trivial⟩) (zaaa _) (by kernel_rfl)
def ms36:List (FuncId×Mode U):=(54,qbH_md)::ms35
theorem known36:Known kk env0 (zaac ms36):=known_cons (by kernel_rfl) qbH_post known35
def qbD_md:Mode U:=mdG ⟨⟨[0,1,2],[100000],[]⟩,[.t (.st 62),.t (.int .i64),.ptr 100000 0],[.blk 3 [.t (.int .i64)]]⟩ [⟨100000,.slot 2,[]⟩] [⟨⟨[],[100000],[]⟩,[],[.blk 3 [.t (.int .i64)]]⟩] [.st 62,.int .i64,.int .i64] [[.int .i64]] qbD
theorem qbD_post:zaad kk env0 79 qbD_md:=
  fnG (fn:=Tryz.f79) (ko known36) (by kernel_rfl) (L:=jnL) (zaab (bs:=[]) (by kernel_rfl) trivial) (zaaa _) (by kernel_rfl)
def ms37:List (FuncId×Mode U):=(79,qbD_md)::ms36
theorem known37:Known kk env0 (zaac ms37):=known_cons (by kernel_rfl) qbD_post known36
def qbE_md:Mode U:=mdG ⟨⟨[0,1,2],[100000],[]⟩,[.t (.st 60),.t (.int .i64),.ptr 100000 0],[.blk 3 [.t (.int .i64)]]⟩ [⟨100000,.slot 2,[]⟩] [⟨⟨[],[100000],[]⟩,[],[.blk 3 [.t (.int .i64)]]⟩] [.st 60,.int .i64,.int .i64] [[.int .i64]] qbE
theorem qbE_post:zaad kk env0 80 qbE_md:=
  fnG (fn:=Tryz.f80) (ko known37) (by kernel_rfl) (L:=jnL) (zaab (bs:=[]) (by kernel_rfl) trivial) (zaaa _) (by kernel_rfl)
def ms38:List (FuncId×Mode U):=(80,qbE_md)::ms37
theorem known38:Known kk env0 (zaac ms38):=known_cons (by kernel_rfl) qbE_post known37
abbrev qad_tr:Type:=curT U (sumT U [[.int .i64]]) [.st 60,.int .i64,.int .i64]
def qad_rmd (rec_qad:qad_tr):Mode U:=mdG ⟨⟨[0,1,2],[100000],[]⟩,[.agg [.clo 79 [.ptr 100000 0],.clo 80 [.ptr 100000 0]],.t (.st 60),.t (.int .i64)],[.blk 3 [.t (.int .i64)]]⟩ [⟨100000,.slot 0,[0,0]⟩] [⟨⟨[],[100000],[]⟩,[],[.blk 3 [.t (.int .i64)]]⟩] [.st 60,.int .i64,.int .i64] [[.int .i64]] rec_qad
abbrev qad_rec (r:qad_tr):Prop:=zaad kk env0 105 (qad_rmd r)
def ms39 (rec_qad:qad_tr):List (FuncId×Mode U):=(105,(qad_rmd rec_qad))::ms38
theorem known39 (rec_qad:qad_tr) (hrec_qad:qad_rec rec_qad):Known kk env0 (zaac (ms39 rec_qad)):=known_cons (by kernel_rfl) hrec_qad known38
def qad_b3:Code:=(zaag (zaae Tryz.f105) 0)
def qad_lp3 (rec_qad:qad_tr):Lift.Loop U:=lpG ⟨⟨[2,3,14,15,16],[100000,3],[]⟩,[.t (.int .i64),.ptr 3 0,.t (.slc (.st 60)),.t (.int .i64),.t (.int .i64)],[.blk 3 [.t (.int .i64)],.blk 122 [.clo 79 [.ptr 100000 0],.clo 80 [.ptr 100000 0]]]⟩ [⟨.exit 0,⟨⟨[],[100000],[]⟩,[],[.blk 3 [.t (.int .i64)]]⟩⟩] [.int .i64,.slc (.st 60),.int .i64,.int .i64,.int .i64] [[.int .i64]] (qad_l3 rec_qad)
theorem qad_ok3 (rec_qad:qad_tr) (hrec_qad:qad_rec rec_qad):LoopR kk env0 Tryz.f105.ntmps qad_b3 (qad_lp3 rec_qad):=
  loopG (qad_i3 rec_qad) (qad_t3 rec_qad) (ko (known39 rec_qad hrec_qad)) (L:=jnL) (zaab (bs:=[]) (by kernel_rfl) trivial) (by kernel_rfl) (fun _=>by kernel_rfl) (zaaa _) (fun _=>by kernel_rfl)
def qad_L (rec_qad:qad_tr):Nat→Option (Lift.Loop U):=fun n=>bif Nat.beq n zaal then some zaaj else bif Nat.beq n 3 then some (qad_lp3 rec_qad) else none
def qad_md:Mode U:=qad_rmd qad
theorem qad_step (rec_qad:qad_tr) (hrec_qad:qad_rec rec_qad):zaap (Kit.withModes kk (zaac (ms39 rec_qad))) env0 Tryz.f105.ntmps (qad_L rec_qad) (zaae Tryz.f105):=zaab (bs:=[qad_b3]) (by kernel_rfl) ⟨.inr ⟨_,by kernel_rfl,zaai.of_round (qad_ok3 rec_qad hrec_qad)⟩,trivial⟩
theorem qad_post:zaad kk env0 105 (qad_rmd qad):=
  recG qad_i qad_f (by kernel_rfl) (fun _=>by kernel_rfl) (zaaa _) fun r ih=>fnG (fn:=Tryz.f105) (ko (known39 r ih)) (by kernel_rfl) (qad_step r ih) rfl (by kernel_rfl)
def ms40:List (FuncId×Mode U):=(105,qad_md)::ms38
theorem known40:Known kk env0 (zaac ms40):=known_cons (by kernel_rfl) qad_post known38
abbrev qaj_tr:Type:=curT U (sumT U [[.int .i64]]) [.slc (.st 62),.int .i64,.int .i64]
def qaj_rmd (rec_qaj:qaj_tr):Mode U:=mdG ⟨⟨[0,1,2],[100000],[]⟩,[.agg [.clo 79 [.ptr 100000 0],.clo 80 [.ptr 100000 0]],.t (.slc (.st 62)),.t (.int .i64)],[.blk 3 [.t (.int .i64)]]⟩ [⟨100000,.slot 0,[0,0]⟩] [⟨⟨[],[100000],[]⟩,[],[.blk 3 [.t (.int .i64)]]⟩] [.slc (.st 62),.int .i64,.int .i64] [[.int .i64]] rec_qaj
abbrev qaj_rec (r:qaj_tr):Prop:=zaad kk env0 97 (qaj_rmd r)
def ms41 (rec_qaj:qaj_tr):List (FuncId×Mode U):=(97,(qaj_rmd rec_qaj))::ms40
theorem known41 (rec_qaj:qaj_tr) (hrec_qaj:qaj_rec rec_qaj):Known kk env0 (zaac (ms41 rec_qaj)):=known_cons (by kernel_rfl) hrec_qaj known40
def qaj_b2:Code:=(zaag (zaae Tryz.f97) 0)
def qaj_lp2 (rec_qaj:qaj_tr):Lift.Loop U:=lpG ⟨⟨[2,3,8,9,10],[100000,3],[]⟩,[.t (.int .i64),.ptr 3 0,.t (.slc (.st 62)),.t (.int .i64),.t (.int .i64)],[.blk 3 [.t (.int .i64)],.blk 122 [.clo 79 [.ptr 100000 0],.clo 80 [.ptr 100000 0]]]⟩ [⟨.exit 0,⟨⟨[],[100000],[]⟩,[],[.blk 3 [.t (.int .i64)]]⟩⟩] [.int .i64,.slc (.st 62),.int .i64,.int .i64,.int .i64] [[.int .i64]] (qaj_l2 rec_qaj)
theorem qaj_ok2 (rec_qaj:qaj_tr) (hrec_qaj:qaj_rec rec_qaj):LoopR kk env0 Tryz.f97.ntmps qaj_b2 (qaj_lp2 rec_qaj):=
  loopG (qaj_i2 rec_qaj) (qaj_t2 rec_qaj) (ko (known41 rec_qaj hrec_qaj)) (L:=jnL) (zaab (bs:=[]) (by kernel_rfl) trivial) (by kernel_rfl) (fun _=>by kernel_rfl) (zaaa _) (fun _=>by kernel_rfl)
def qaj_L (rec_qaj:qaj_tr):Nat→Option (Lift.Loop U):=fun n=>bif Nat.beq n zaal then some zaaj else bif Nat.beq n 2 then some (qaj_lp2 rec_qaj) else none
def qaj_md:Mode U:=qaj_rmd qaj
theorem qaj_step (rec_qaj:qaj_tr) (hrec_qaj:qaj_rec rec_qaj):zaap (Kit.withModes kk (zaac (ms41 rec_qaj))) env0 Tryz.f97.ntmps (qaj_L rec_qaj) (zaae Tryz.f97):=zaab (bs:=[qaj_b2]) (by kernel_rfl) ⟨.inr ⟨_,by kernel_rfl,zaai.of_round (qaj_ok2 rec_qaj hrec_qaj)⟩,trivial⟩
theorem qaj_post:zaad kk env0 97 (qaj_rmd qaj):=
  recG qaj_i qaj_f (by kernel_rfl) (fun _=>by kernel_rfl) (zaaa _) fun r ih=>fnG (fn:=Tryz.f97) (ko (known41 r ih)) (by kernel_rfl) (qaj_step r ih) rfl (by kernel_rfl)
def ms42:List (FuncId×Mode U):=(97,qaj_md)::ms40
theorem known42:Known kk env0 (zaac ms42):=known_cons (by kernel_rfl) qaj_post known40
def qag_b2:Code:=(zaag (zaae Tryz.f78) 0)
def qag_lp2:Lift.Loop U:=lpG ⟨⟨[2,7,8,9],[100000,2],[]⟩,[.ptr 2 0,.t (.slc (.st 51)),.t (.int .i64),.t (.int .i64)],[.blk 3 [.t (.int .i64)],.blk 122 [.clo 79 [.ptr 100000 0],.clo 80 [.ptr 100000 0]]]⟩ [⟨.exit 0,⟨⟨[],[100000],[]⟩,[],[.blk 3 [.t (.int .i64)]]⟩⟩] [.slc (.st 51),.int .i64,.int .i64,.int .i64] [[.int .i64]] qag_l2
theorem qag_ok2:LoopR kk env0 Tryz.f78.ntmps qag_b2 qag_lp2:=
  loopG qag_i2 qag_t2 (ko known42) (L:=jnL) (zaab (bs:=[]) (by kernel_rfl) trivial) (by kernel_rfl) (fun _=>by kernel_rfl) (zaaa _) (fun _=>by kernel_rfl)
def qag_L:Nat→Option (Lift.Loop U):=fun n=>bif Nat.beq n zaal then some zaaj else bif Nat.beq n 2 then some qag_lp2 else none
def qag_md:Mode U:=mdG ⟨⟨[0,1],[100000],[]⟩,[.agg [.clo 79 [.ptr 100000 0],.clo 80 [.ptr 100000 0]],.t (.st 26)],[.blk 3 [.t (.int .i64)]]⟩ [⟨100000,.slot 0,[0,0]⟩] [⟨⟨[],[100000],[]⟩,[],[.blk 3 [.t (.int .i64)]]⟩] [.st 26,.int .i64] [[.int .i64]] qag
theorem qag_post:zaad kk env0 78 qag_md:=
  fnG (fn:=Tryz.f78) (ko known42) (by kernel_rfl) (L:=qag_L) (zaab (bs:=[qag_b2]) (by kernel_rfl) ⟨.inr ⟨_,by kernel_rfl,zaai.of_round (qag_ok2)⟩,trivial⟩) (zaaa _) (by kernel_rfl)
def ms43:List (FuncId×Mode U):=(78,qag_md)::ms42
theorem known43:Known kk env0 (zaac ms43):=known_cons (by kernel_rfl) qag_post known42
def qbC_md:Mode U:=mdG ⟨⟨[0],[],[]⟩,[.t (.st 26)],[]⟩ [] [⟨⟨[0],[],[]⟩,[.t (.int .i64)],[]⟩] [.st 26] [[.int .i64]] qbC
theorem qbC_post:zaad kk env0 55 qbC_md:=
  fnG (fn:=Tryz.f55) (ko known43) (by kernel_rfl) (L:=jnL) (zaab (bs:=[]) (by kernel_rfl) trivial) (zaaa _) (by kernel_rfl)
def ms44:List (FuncId×Mode U):=(55,qbC_md)::ms43
theorem known44:Known kk env0 (zaac ms44):=known_cons (by kernel_rfl) qbC_post known43
def qbA_md:Mode U:=mdG ⟨⟨[0,1,2],[100000],[]⟩,[.t (.st 62),.t (.int .i64),.ptr 100000 0],[.blk 3 [.t (.int .i64)]]⟩ [⟨100000,.slot 2,[]⟩] [⟨⟨[],[100000],[]⟩,[],[.blk 3 [.t (.int .i64)]]⟩] [.st 62,.int .i64,.int .i64] [[.int .i64]] qbA
theorem qbA_post:zaad kk env0 81 qbA_md:=
  fnG (fn:=Tryz.f81) (ko known44) (by kernel_rfl) (L:=jnL) (zaab (bs:=[]) (by kernel_rfl) trivial) (zaaa _) (by kernel_rfl)
def ms45:List (FuncId×Mode U):=(81,qbA_md)::ms44
theorem known45:Known kk env0 (zaac ms45):=known_cons (by kernel_rfl) qbA_post known44
def qbB_md:Mode U:=mdG ⟨⟨[0,1,2],[100000],[]⟩,[.t (.st 60),.t (.int .i64),.ptr 100000 0],[.blk 3 [.t (.int .i64)]]⟩ [⟨100000,.slot 2,[]⟩] [⟨⟨[],[100000],[]⟩,[],[.blk 3 [.t (.int .i64)]]⟩] [.st 60,.int .i64,.int .i64] [[.int .i64]] qbB
theorem qbB_post:zaad kk env0 82 qbB_md:=
  fnG (fn:=Tryz.f82) (ko known45) (by kernel_rfl) (L:=jnL) (zaab (bs:=[]) (by kernel_rfl) trivial) (zaaa _) (by kernel_rfl)
def ms46:List (FuncId×Mode U):=(82,qbB_md)::ms45
theorem known46:Known kk env0 (zaac ms46):=known_cons (by kernel_rfl) qbB_post known45
abbrev qae_tr:Type:=curT U (sumT U [[.int .i64]]) [.st 60,.int .i64,.int .i64]
def qae_rmd (rec_qae:qae_tr):Mode U:=mdG ⟨⟨[0,1,2],[100000],[]⟩,[.agg [.clo 81 [.ptr 100000 0],.clo 82 [.ptr 100000 0]],.t (.st 60),.t (.int .i64)],[.blk 3 [.t (.int .i64)]]⟩ [⟨100000,.slot 0,[0,0]⟩] [⟨⟨[],[100000],[]⟩,[],[.blk 3 [.t (.int .i64)]]⟩] [.st 60,.int .i64,.int .i64] [[.int .i64]] rec_qae
abbrev qae_rec (r:qae_tr):Prop:=zaad kk env0 105 (qae_rmd r)
def ms47 (rec_qae:qae_tr):List (FuncId×Mode U):=(105,(qae_rmd rec_qae))::ms46
theorem known47 (rec_qae:qae_tr) (hrec_qae:qae_rec rec_qae):Known kk env0 (zaac (ms47 rec_qae)):=known_cons (by kernel_rfl) hrec_qae known46
def qae_b3:Code:=(zaag (zaae Tryz.f105) 0)
def qae_lp3 (rec_qae:qae_tr):Lift.Loop U:=lpG ⟨⟨[2,3,14,15,16],[100000,3],[]⟩,[.t (.int .i64),.ptr 3 0,.t (.slc (.st 60)),.t (.int .i64),.t (.int .i64)],[.blk 3 [.t (.int .i64)],.blk 122 [.clo 81 [.ptr 100000 0],.clo 82 [.ptr 100000 0]]]⟩ [⟨.exit 0,⟨⟨[],[100000],[]⟩,[],[.blk 3 [.t (.int .i64)]]⟩⟩] [.int .i64,.slc (.st 60),.int .i64,.int .i64,.int .i64] [[.int .i64]] (qae_l3 rec_qae)
theorem qae_ok3 (rec_qae:qae_tr) (hrec_qae:qae_rec rec_qae):LoopR kk env0 Tryz.f105.ntmps qae_b3 (qae_lp3 rec_qae):=
  loopG (qae_i3 rec_qae) (qae_t3 rec_qae) (ko (known47 rec_qae hrec_qae)) (L:=jnL) (zaab (bs:=[]) (by kernel_rfl) trivial) (by kernel_rfl) (fun _=>by kernel_rfl) (zaaa _) (fun _=>by kernel_rfl)
def qae_L (rec_qae:qae_tr):Nat→Option (Lift.Loop U):=fun n=>bif Nat.beq n zaal then some zaaj else bif Nat.beq n 3 then some (qae_lp3 rec_qae) else none
def qae_md:Mode U:=qae_rmd qae
theorem qae_step (rec_qae:qae_tr) (hrec_qae:qae_rec rec_qae):zaap (Kit.withModes kk (zaac (ms47 rec_qae))) env0 Tryz.f105.ntmps (qae_L rec_qae) (zaae Tryz.f105):=zaab (bs:=[qae_b3]) (by kernel_rfl) ⟨.inr ⟨_,by kernel_rfl,zaai.of_round (qae_ok3 rec_qae hrec_qae)⟩,trivial⟩
theorem qae_post:zaad kk env0 105 (qae_rmd qae):=
  recG qae_i qae_f (by kernel_rfl) (fun _=>by kernel_rfl) (zaaa _) fun r ih=>fnG (fn:=Tryz.f105) (ko (known47 r ih)) (by kernel_rfl) (qae_step r ih) rfl (by kernel_rfl)
def ms48:List (FuncId×Mode U):=(105,qae_md)::ms46
theorem known48:Known kk env0 (zaac ms48):=known_cons (by kernel_rfl) qae_post known46
abbrev qak_tr:Type:=curT U (sumT U [[.int .i64]]) [.slc (.st 62),.int .i64,.int .i64]
def qak_rmd (rec_qak:qak_tr):Mode U:=mdG ⟨⟨[0,1,2],[100000],[]⟩,[.agg [.clo 81 [.ptr 100000 0],.clo 82 [.ptr 100000 0]],.t (.slc (.st 62)),.t (.int .i64)],[.blk 3 [.t (.int .i64)]]⟩ [⟨100000,.slot 0,[0,0]⟩] [⟨⟨[],[100000],[]⟩,[],[.blk 3 [.t (.int .i64)]]⟩] [.slc (.st 62),.int .i64,.int .i64] [[.int .i64]] rec_qak
abbrev qak_rec (r:qak_tr):Prop:=zaad kk env0 97 (qak_rmd r)
def ms49 (rec_qak:qak_tr):List (FuncId×Mode U):=(97,(qak_rmd rec_qak))::ms48
theorem known49 (rec_qak:qak_tr) (hrec_qak:qak_rec rec_qak):Known kk env0 (zaac (ms49 rec_qak)):=known_cons (by kernel_rfl) hrec_qak known48
def qak_b2:Code:=(zaag (zaae Tryz.f97) 0)
def qak_lp2 (rec_qak:qak_tr):Lift.Loop U:=lpG ⟨⟨[2,3,8,9,10],[100000,3],[]⟩,[.t (.int .i64),.ptr 3 0,.t (.slc (.st 62)),.t (.int .i64),.t (.int .i64)],[.blk 3 [.t (.int .i64)],.blk 122 [.clo 81 [.ptr 100000 0],.clo 82 [.ptr 100000 0]]]⟩ [⟨.exit 0,⟨⟨[],[100000],[]⟩,[],[.blk 3 [.t (.int .i64)]]⟩⟩] [.int .i64,.slc (.st 62),.int .i64,.int .i64,.int .i64] [[.int .i64]] (qak_l2 rec_qak)
theorem qak_ok2 (rec_qak:qak_tr) (hrec_qak:qak_rec rec_qak):LoopR kk env0 Tryz.f97.ntmps qak_b2 (qak_lp2 rec_qak):=
  loopG (qak_i2 rec_qak) (qak_t2 rec_qak) (ko (known49 rec_qak hrec_qak)) (L:=jnL) (zaab (bs:=[]) (by kernel_rfl) trivial) (by kernel_rfl) (fun _=>by kernel_rfl) (zaaa _) (fun _=>by kernel_rfl)
def qak_L (rec_qak:qak_tr):Nat→Option (Lift.Loop U):=fun n=>bif Nat.beq n zaal then some zaaj else bif Nat.beq n 2 then some (qak_lp2 rec_qak) else none
def qak_md:Mode U:=qak_rmd qak
theorem qak_step (rec_qak:qak_tr) (hrec_qak:qak_rec rec_qak):zaap (Kit.withModes kk (zaac (ms49 rec_qak))) env0 Tryz.f97.ntmps (qak_L rec_qak) (zaae Tryz.f97):=zaab (bs:=[qak_b2]) (by kernel_rfl) ⟨.inr ⟨_,by kernel_rfl,zaai.of_round (qak_ok2 rec_qak hrec_qak)⟩,trivial⟩
theorem qak_post:zaad kk env0 97 (qak_rmd qak):=
  recG qak_i qak_f (by kernel_rfl) (fun _=>by kernel_rfl) (zaaa _) fun r ih=>fnG (fn:=Tryz.f97) (ko (known49 r ih)) (by kernel_rfl) (qak_step r ih) rfl (by kernel_rfl)
def ms50:List (FuncId×Mode U):=(97,qak_md)::ms48
theorem known50:Known kk env0 (zaac ms50):=known_cons (by kernel_rfl) qak_post known48
def qah_b2:Code:=(zaag (zaae Tryz.f78) 0)
def qah_lp2:Lift.Loop U:=lpG ⟨⟨[2,7,8,9],[100000,2],[]⟩,[.ptr 2 0,.t (.slc (.st 51)),.t (.int .i64),.t (.int .i64)],[.blk 3 [.t (.int .i64)],.blk 122 [.clo 81 [.ptr 100000 0],.clo 82 [.ptr 100000 0]]]⟩ [⟨.exit 0,⟨⟨[],[100000],[]⟩,[],[.blk 3 [.t (.int .i64)]]⟩⟩] [.slc (.st 51),.int .i64,.int .i64,.int .i64] [[.int .i64]] qah_l2
theorem qah_ok2:LoopR kk env0 Tryz.f78.ntmps qah_b2 qah_lp2:=
  loopG qah_i2 qah_t2 (ko known50) (L:=jnL) (zaab (bs:=[]) (by kernel_rfl) trivial) (by kernel_rfl) (fun _=>by kernel_rfl) (zaaa _) (fun _=>by kernel_rfl)
def qah_L:Nat→Option (Lift.Loop U):=fun n=>bif Nat.beq n zaal then some zaaj else bif Nat.beq n 2 then some qah_lp2 else none
def qah_md:Mode U:=mdG ⟨⟨[0,1],[100000],[]⟩,[.agg [.clo 81 [.ptr 100000 0],.clo 82 [.ptr 100000 0]],.t (.st 26)],[.blk 3 [.t (.int .i64)]]⟩ [⟨100000,.slot 0,[0,0]⟩] [⟨⟨[],[100000],[]⟩,[],[.blk 3 [.t (.int .i64)]]⟩] [.st 26,.int .i64] [[.int .i64]] qah
theorem qah_post:zaad kk env0 78 qah_md:=
  fnG (fn:=Tryz.f78) (ko known50) (by kernel_rfl) (L:=qah_L) (zaab (bs:=[qah_b2]) (by kernel_rfl) ⟨.inr ⟨_,by kernel_rfl,zaai.of_round (qah_ok2)⟩,trivial⟩) (zaaa _) (by kernel_rfl)
def ms51:List (FuncId×Mode U):=(78,qah_md)::ms50
theorem known51:Known kk env0 (zaac ms51):=known_cons (by kernel_rfl) qah_post known50
def qbz_md:Mode U:=mdG ⟨⟨[0],[],[]⟩,[.t (.st 26)],[]⟩ [] [⟨⟨[0],[],[]⟩,[.t (.int .i64)],[]⟩] [.st 26] [[.int .i64]] qbz
theorem qbz_post:zaad kk env0 56 qbz_md:=
  fnG (fn:=Tryz.f56) (ko known51) (by kernel_rfl) (L:=jnL) (zaab (bs:=[]) (by kernel_rfl) trivial) (zaaa _) (by kernel_rfl)
def ms52:List (FuncId×Mode U):=(56,qbz_md)::ms51
theorem known52:Known kk env0 (zaac ms52):=known_cons (by kernel_rfl) qbz_post known51
def qbF_md:Mode U:=mdG ⟨⟨[0],[],[]⟩,[.t (.st 26)],[]⟩ [] [⟨⟨[0],[],[]⟩,[.t (.int .i64)],[]⟩] [.st 26] [[.int .i64]] qbF
theorem qbF_post:zaad kk env0 27 qbF_md:=
  fnG (fn:=Tryz.f27) (ko known52) (by kernel_rfl) (L:=jnL) (zaab (bs:=[]) (by kernel_rfl) trivial) (zaaa _) (by kernel_rfl)
def ms53:List (FuncId×Mode U):=(27,qbF_md)::ms52
theorem known53:Known kk env0 (zaac ms53):=known_cons (by kernel_rfl) qbF_post known52
def qbw_md:Mode U:=mdG ⟨⟨[0],[],[]⟩,[.t (.slc .str)],[]⟩ [] [⟨⟨[0],[],[⟨.slot 0,100050,9,.str⟩]⟩,[.oslc 100050],[.row 9 .str]⟩] [.slc .str] [[.slc .str]] qbw
theorem qbw_post:zaad kk env0 30 qbw_md:=
  fnG (fn:=Tryz.f30) (ko known53) (by kernel_rfl) (L:=jnL) (zaab (bs:=[]) (by kernel_rfl) trivial) (zaaa _) (by kernel_rfl)
def ms54:List (FuncId×Mode U):=(30,qbw_md)::ms53
theorem known54:Known kk env0 (zaac ms54):=known_cons (by kernel_rfl) qbw_post known53
def qbv_md:Mode U:=mdG ⟨⟨[0],[],[⟨.slot 0,0,9,.str⟩]⟩,[.oslc 0],[.row 9 .str]⟩ [] [⟨⟨[0],[],[⟨.slot 0,100050,9,.str⟩]⟩,[.oslc 100050],[.row 9 .str]⟩] [.slc .str] [[.slc .str]] qbv
theorem qbv_post:zaad kk env0 29 qbv_md:=
  fnG (fn:=Tryz.f29) (ko known54) (by kernel_rfl) (L:=jnL) (zaab (bs:=[]) (by kernel_rfl) trivial) (zaaa _) (by kernel_rfl)
def ms55:List (FuncId×Mode U):=(29,qbv_md)::ms54
theorem known55:Known kk env0 (zaac ms55):=known_cons (by kernel_rfl) qbv_post known54
def qar_md:Mode U:=mdG ⟨⟨[0,1,2],[],[]⟩,[.t (.slc .str),.t (.int .i64),.t (.int .i64)],[]⟩ [] [⟨⟨[],[],[]⟩,[],[]⟩,⟨⟨[777777],[],[]⟩,[.ifc 75 (.t (.st 75))],[]⟩] [.slc .str,.int .i64,.int .i64] [[],[.st 75]] qar
theorem qar_post:zaad kk env0 57 qar_md:=
  fnG (fn:=Tryz.f57) (ko known55) (by kernel_rfl) (L:=jnL) (zaab (bs:=[]) (by kernel_rfl) trivial) (zaaa _) (by kernel_rfl)
def ms56:List (FuncId×Mode U):=(57,qar_md)::ms55
theorem known56:Known kk env0 (zaac ms56):=known_cons (by kernel_rfl) qar_post known55
def qaq_b11:Code:=(zaag (zaag (zaae Tryz.f31) 0) 0)
def qaq_lp11:Lift.Loop U:=lpG ⟨⟨[0,5,35,36,37,42,43,44],[100000,100001],[⟨.slot 35,35,23,(.slc .str)⟩,⟨.cell 100000 1,200001,9,.str⟩]⟩,[.ptr 100000 0,.t (.int .i64),.oslc 35,.t (.int .i64),.t (.int .i64),.t (.slc .str),.t (.int .i64),.t (.int .i64)],[.blk 81 [.ptr 100001 0,.oslc 200001],.mp .str (.st 103),.row 23 (.slc .str),.row 9 .str]⟩ [⟨.pan,⟨⟨[777777],[],[]⟩,[.ifc 75 (.t (.st 75))],[]⟩⟩,⟨.exit 2,⟨⟨[0,35,36,37],[100000,100001],[⟨.slot 35,35,23,(.slc .str)⟩,⟨.cell 100000 1,200001,9,.str⟩]⟩,[.ptr 100000 0,.oslc 35,.t (.int .i64),.t (.int .i64)],[.blk 81 [.ptr 100001 0,.oslc 200001],.mp .str (.st 103),.row 23 (.slc .str),.row 9 .str]⟩⟩] [.int .i64,.int .i64,.int .i64,.slc .str,.int .i64,.int .i64,.map .str (.st 103),.slc (.slc .str),.slc .str] [[.st 75],[.int .i64,.int .i64,.map .str (.st 103),.slc (.slc .str),.slc .str]] qaq_l11
theorem qaq_ok11:LoopR kk env0 Tryz.f31.ntmps qaq_b11 qaq_lp11:=
  loopG qaq_i11 qaq_t11 (ko known56) (L:=jnL) (zaab (bs:=[]) (by kernel_rfl) trivial) (by kernel_rfl) (fun _=>by kernel_rfl) (zaaa _) (fun _=>by kernel_rfl)
def qaq_b8:Code:=(zaag (zaae Tryz.f31) 0)
def qaq_L8:Nat→Option (Lift.Loop U):=fun n=>bif Nat.beq n zaal then some zaaj else bif Nat.beq n 11 then some qaq_lp11 else none
def qaq_lp8:Lift.Loop U:=lpG ⟨⟨[0,35,36,37],[100000,100001],[⟨.slot 35,35,23,(.slc .str)⟩,⟨.cell 100000 1,200001,9,.str⟩]⟩,[.ptr 100000 0,.oslc 35,.t (.int .i64),.t (.int .i64)],[.blk 81 [.ptr 100001 0,.oslc 200001],.mp .str (.st 103),.row 23 (.slc .str),.row 9 .str]⟩ [⟨.pan,⟨⟨[777777],[],[]⟩,[.ifc 75 (.t (.st 75))],[]⟩⟩,⟨.exit 0,⟨⟨[],[100000,100001],[⟨.cell 100000 1,200001,9,.str⟩]⟩,[],[.blk 81 [.ptr 100001 0,.oslc 200001],.mp .str (.st 103),.row 9 .str]⟩⟩] [.int .i64,.int .i64,.map .str (.st 103),.slc (.slc .str),.slc .str] [[.st 75],[.map .str (.st 103),.slc .str]] qaq_l8
theorem qaq_ok8:LoopR kk env0 Tryz.f31.ntmps qaq_b8 qaq_lp8:=
  loopG qaq_i8 qaq_t8 (ko known56) (L:=qaq_L8) (zaab (bs:=[qaq_b11]) (by kernel_rfl) ⟨.inr ⟨_,by kernel_rfl,zaai.of_round (qaq_ok11)⟩,trivial⟩) (by kernel_rfl) (fun _=>by kernel_rfl) (zaaa _) (fun _=>by kernel_rfl)
def qaq_L:Nat→Option (Lift.Loop U):=fun n=>bif Nat.beq n zaal then some zaaj else bif Nat.beq n 8 then some qaq_lp8 else none
def qaq_md:Mode U:=mdG ⟨⟨[0,1],[100000,100001],[⟨.cell 100000 1,200001,9,.str⟩]⟩,[.ptr 100000 0,.t (.st 35)],[.blk 81 [.ptr 100001 0,.oslc 200001],.mp .str (.st 103),.row 9 .str]⟩ [⟨100000,.slot 0,[]⟩,⟨100001,.cell 100000 0,[]⟩] [⟨⟨[],[100000,100001],[⟨.cell 100000 1,200001,9,.str⟩]⟩,[],[.blk 81 [.ptr 100001 0,.oslc 200001],.mp .str (.st 103),.row 9 .str]⟩,⟨⟨[777777],[],[]⟩,[.ifc 75 (.t (.st 75))],[]⟩] [.st 35,.map .str (.st 103),.slc .str] [[.map .str (.st 103),.slc .str],[.st 75]] qaq
theorem qaq_post:zaad kk env0 31 qaq_md:=
  fnG (fn:=Tryz.f31) (ko known56) (by kernel_rfl) (L:=qaq_L) (zaab (bs:=[qaq_b8]) (by kernel_rfl) ⟨.inr ⟨_,by kernel_rfl,zaai.of_round (qaq_ok8)⟩,trivial⟩) (zaaa _) (by kernel_rfl)
def ms57:List (FuncId×Mode U):=(31,qaq_md)::ms56
theorem known57:Known kk env0 (zaac ms57):=known_cons (by kernel_rfl) qaq_post known56
def qas_md:Mode U:=mdG ⟨⟨[0,1],[100000,100001],[⟨.cell 100000 1,200001,9,.str⟩]⟩,[.ptr 100000 0,.t .str],[.blk 81 [.ptr 100001 0,.oslc 200001],.mp .str (.st 103),.row 9 .str]⟩ [⟨100000,.slot 0,[]⟩,⟨100001,.cell 100000 0,[]⟩] [⟨⟨[0],[100000,100001],[⟨.cell 100000 1,200001,9,.str⟩]⟩,[.t (.int .i64)],[.blk 81 [.ptr 100001 0,.oslc 200001],.mp .str (.st 103),.row 9 .str]⟩,⟨⟨[777777],[],[]⟩,[.ifc 75 (.t (.st 75))],[]⟩] [.str,.map .str (.st 103),.slc .str] [[.int .i64,.map .str (.st 103),.slc .str],[.st 75]] qas
theorem qas_post:zaad kk env0 58 qas_md:=
  fnG (fn:=Tryz.f58) (ko known57) (by kernel_rfl) (L:=jnL) (zaab (bs:=[]) (by kernel_rfl) trivial) (zaaa _) (by kernel_rfl)
def ms58:List (FuncId×Mode U):=(58,qas_md)::ms57
theorem known58:Known kk env0 (zaac ms58):=known_cons (by kernel_rfl) qas_post known57
def qau_md:Mode U:=mdG ⟨⟨[0],[],[]⟩,[.t (.int .i64)],[]⟩ [] [⟨⟨[0],[],[]⟩,[.t (.int .i64)],[]⟩] [.int .i64] [[.int .i64]] qau
theorem qau_post:zaad kk env0 59 qau_md:=
  fnG (fn:=Tryz.f59) (ko known58) (by kernel_rfl) (L:=jnL) (zaab (bs:=[]) (by kernel_rfl) trivial) (zaaa _) (by kernel_rfl)
def ms59:List (FuncId×Mode U):=(59,qau_md)::ms58
theorem known59:Known kk env0 (zaac ms59):=known_cons (by kernel_rfl) qau_post known58
abbrev qap_tr:Type:=curT U (sumT U [[.int .i64,.int .i64,.str,.map .str (.st 103),.slc (.st 1060),.slc .str],[.st 75]]) [.st 60,.map .str (.st 103),.slc .str]
def qap_rmd (rec_qap:TExpr→List ((List UInt8)×(Thing))→List (List UInt8)→Option ((Int×Int×(List UInt8)×(List ((List UInt8)×(Thing)))×(List TExpr)×(List (List UInt8)))⊕(Refused))):Mode U:=mdG ⟨⟨[0,1],[100000,100001],[⟨.cell 100000 1,200001,9,.str⟩]⟩,[.ptr 100000 0,.t (.st 60)],[.blk 81 [.ptr 100001 0,.oslc 200001],.mp .str (.st 103),.row 9 .str]⟩ [⟨100000,.slot 0,[]⟩,⟨100001,.cell 100000 0,[]⟩] [⟨⟨[0],[100000,100001],[⟨.sub 0 3,100400,60,(.st 1060)⟩,⟨.cell 100000 1,200001,9,.str⟩]⟩,[.agg [.t (.int .i64),.t (.int .i64),.t .str,.oslc 100400]],[.blk 81 [.ptr 100001 0,.oslc 200001],.mp .str (.st 103),.row 60 (.st 1060),.row 9 .str]⟩,⟨⟨[777777],[],[]⟩,[.ifc 75 (.t (.st 75))],[]⟩] [.st 60,.map .str (.st 103),.slc .str] [[.int .i64,.int .i64,.str,.map .str (.st 103),.slc (.st 1060),.slc .str],[.st 75]] rec_qap
abbrev qap_rec (r:qap_tr):Prop:=zaad kk env0 60 (qap_rmd r)
def ms60 (rec_qap:TExpr→List ((List UInt8)×(Thing))→List (List UInt8)→Option ((Int×Int×(List UInt8)×(List ((List UInt8)×(Thing)))×(List TExpr)×(List (List UInt8)))⊕(Refused))):List (FuncId×Mode U):=(60,(qap_rmd rec_qap))::ms59
theorem known60 (rec_qap:TExpr→List ((List UInt8)×(Thing))→List (List UInt8)→Option ((Int×Int×(List UInt8)×(List ((List UInt8)×(Thing)))×(List TExpr)×(List (List UInt8)))⊕(Refused))) (hrec_qap:qap_rec rec_qap):Known kk env0 (zaac (ms60 rec_qap)):=known_cons (by kernel_rfl) hrec_qap known59
def qap_b5:Code:=(zaag (zaae Tryz.f60) 0)
def qap_L5 (rec_qap:TExpr→List ((List UInt8)×(Thing))→List (List UInt8)→Option ((Int×Int×(List UInt8)×(List ((List UInt8)×(Thing)))×(List TExpr)×(List (List UInt8)))⊕(Refused))):Nat→Option (Lift.Loop U):=fun n=>bif Nat.beq n zaal then some zaaj else bif Nat.beq n (zapi+7) then some (zase 4) else none
def qap_lp5 (rec_qap:TExpr→List ((List UInt8)×(Thing))→List (List UInt8)→Option ((Int×Int×(List UInt8)×(List ((List UInt8)×(Thing)))×(List TExpr)×(List (List UInt8)))⊕(Refused))):Lift.Loop U:=lpG ⟨⟨[0,4,5,22,23,24],[100000,100001,4,5],[⟨.cell 100000 1,200001,9,.str⟩,⟨.cell 5 3,20253,60,(.st 1060)⟩]⟩,[.ptr 100000 0,.ptr 4 0,.ptr 5 0,.t (.slc (.st 60)),.t (.int .i64),.t (.int .i64)],[.blk 81 [.ptr 100001 0,.oslc 200001],.mp .str (.st 103),.blk 60 [.t (.int .i64),.t (.int .i64),.t .str,.nil],.blk 60 [.t (.int .i64),.t (.int .i64),.t .str,.oslc 20253],.row 9 .str,.row 60 (.st 1060)]⟩ [⟨.pan,⟨⟨[777777],[],[]⟩,[.ifc 75 (.t (.st 75))],[]⟩⟩,⟨.exit 0,⟨⟨[4,5],[100000,100001,4,5],[⟨.cell 100000 1,200001,9,.str⟩,⟨.cell 5 3,20253,60,(.st 1060)⟩]⟩,[.ptr 4 0,.ptr 5 0],[.blk 81 [.ptr 100001 0,.oslc 200001],.mp .str (.st 103),.blk 60 [.t (.int .i64),.t (.int .i64),.t .str,.nil],.blk 60 [.t (.int .i64),.t (.int .i64),.t .str,.oslc 20253],.row 9 .str,.row 60 (.st 1060)]⟩⟩] [.slc (.st 60),.int .i64,.int .i64,.map .str (.st 103),.int .i64,.int .i64,.str,.int .i64,.int .i64,.str,.slc .str,.slc (.st 1060)] [[.st 75],[.map .str (.st 103),.int .i64,.int .i64,.str,.int .i64,.int .i64,.str,.slc .str,.slc (.st 1060)]] (qap_l5 rec_qap)
theorem qap_ok5 (rec_qap:TExpr→List ((List UInt8)×(Thing))→List (List UInt8)→Option ((Int×Int×(List UInt8)×(List ((List UInt8)×(Thing)))×(List TExpr)×(List (List UInt8)))⊕(Refused))) (hrec_qap:qap_rec rec_qap):LoopR kk env0 Tryz.f60.ntmps qap_b5 (qap_lp5 rec_qap):=
  loopG (qap_i5 rec_qap) (qap_t5 rec_qap) (ko (known60 rec_qap hrec_qap)) (L:=(qap_L5 rec_qap)) (zaab (bs:=[]) (by kernel_rfl) trivial) (by kernel_rfl) (fun _=>by kernel_rfl) (zaaa _) (fun _=>by kernel_rfl)
def qap_L (rec_qap:TExpr→List ((List UInt8)×(Thing))→List (List UInt8)→Option ((Int×Int×(List UInt8)×(List ((List UInt8)×(Thing)))×(List TExpr)×(List (List UInt8)))⊕(Refused))):Nat→Option (Lift.Loop U):=fun n=>bif Nat.beq n zaal then some zaaj else bif Nat.beq n (zapi+7) then some (zase 4) else bif Nat.beq n 5 then some (qap_lp5 rec_qap) else none
def qap_md:Mode U:=qap_rmd qap
theorem qap_step (rec_qap:TExpr→List ((List UInt8)×(Thing))→List (List UInt8)→Option ((Int×Int×(List UInt8)×(List ((List UInt8)×(Thing)))×(List TExpr)×(List (List UInt8)))⊕(Refused))) (hrec_qap:qap_rec rec_qap):zaap (Kit.withModes kk (zaac (ms60 rec_qap))) env0 Tryz.f60.ntmps (qap_L rec_qap) (zaae Tryz.f60):=zaab (bs:=[qap_b5]) (by kernel_rfl) ⟨.inr ⟨_,by kernel_rfl,zaai.of_round (qap_ok5 rec_qap hrec_qap)⟩,trivial⟩
theorem qap_post:zaad kk env0 60 (qap_rmd qap):=
  recG qap_i qap_f (by kernel_rfl) (fun _=>by kernel_rfl) (zaaa _) fun r ih=>fnG (fn:=Tryz.f60) (ko (known60 r ih)) (by kernel_rfl) (qap_step r ih) rfl (by kernel_rfl)
def ms61:List (FuncId×Mode U):=(60,qap_md)::ms59
theorem known61:Known kk env0 (zaac ms61):=known_cons (by kernel_rfl) qap_post known59
abbrev qao_tr:Type:=curT U (sumT U [[.map .str (.st 103),.slc (.st 1067),.slc .str],[.st 75]]) [.slc (.st 62),.map .str (.st 103),.slc .str]
def qao_rmd (rec_qao:List TStmt→List ((List UInt8)×(Thing))→List (List UInt8)→Option (((List ((List UInt8)×(Thing)))×(List TAct)×(List (List UInt8)))⊕(Refused))):Mode U:=mdG ⟨⟨[0,1],[100000,100001],[⟨.cell 100000 1,200001,9,.str⟩]⟩,[.ptr 100000 0,.t (.slc (.st 62))],[.blk 81 [.ptr 100001 0,.oslc 200001],.mp .str (.st 103),.row 9 .str]⟩ [⟨100000,.slot 0,[]⟩,⟨100001,.cell 100000 0,[]⟩] [⟨⟨[0],[100000,100001],[⟨.slot 0,100050,67,(.st 1067)⟩,⟨.cell 100000 1,200001,9,.str⟩]⟩,[.oslc 100050],[.blk 81 [.ptr 100001 0,.oslc 200001],.mp .str (.st 103),.row 67 (.st 1067),.row 9 .str]⟩,⟨⟨[777777],[],[]⟩,[.ifc 75 (.t (.st 75))],[]⟩] [.slc (.st 62),.map .str (.st 103),.slc .str] [[.map .str (.st 103),.slc (.st 1067),.slc .str],[.st 75]] rec_qao
abbrev qao_rec (r:qao_tr):Prop:=zaad kk env0 32 (qao_rmd r)
def ms62 (rec_qao:List TStmt→List ((List UInt8)×(Thing))→List (List UInt8)→Option (((List ((List UInt8)×(Thing)))×(List TAct)×(List (List UInt8)))⊕(Refused))):List (FuncId×Mode U):=(32,(qao_rmd rec_qao))::ms61
theorem known62 (rec_qao:List TStmt→List ((List UInt8)×(Thing))→List (List UInt8)→Option (((List ((List UInt8)×(Thing)))×(List TAct)×(List (List UInt8)))⊕(Refused))) (hrec_qao:qao_rec rec_qao):Known kk env0 (zaac (ms62 rec_qao)):=known_cons (by kernel_rfl) hrec_qao known61
def qao_b3:Code:=(zaag (zaae Tryz.f32) 0)
def qao_lp3 (rec_qao:List TStmt→List ((List UInt8)×(Thing))→List (List UInt8)→Option (((List ((List UInt8)×(Thing)))×(List TAct)×(List (List UInt8)))⊕(Refused))):Lift.Loop U:=lpG ⟨⟨[0,5,12,13,14],[100000,100001],[⟨.cell 100000 1,200001,9,.str⟩,⟨.slot 5,5,67,(.st 1067)⟩]⟩,[.ptr 100000 0,.oslc 5,.t (.slc (.st 62)),.t (.int .i64),.t (.int .i64)],[.blk 81 [.ptr 100001 0,.oslc 200001],.mp .str (.st 103),.row 9 .str,.row 67 (.st 1067)]⟩ [⟨.pan,⟨⟨[777777],[],[]⟩,[.ifc 75 (.t (.st 75))],[]⟩⟩,⟨.exit 0,⟨⟨[5],[100000,100001],[⟨.slot 5,5,67,(.st 1067)⟩,⟨.cell 100000 1,200001,9,.str⟩]⟩,[.oslc 5],[.blk 81 [.ptr 100001 0,.oslc 200001],.mp .str (.st 103),.row 67 (.st 1067),.row 9 .str]⟩⟩] [.slc (.st 62),.int .i64,.int .i64,.map .str (.st 103),.slc .str,.slc (.st 1067)] [[.st 75],[.map .str (.st 103),.slc (.st 1067),.slc .str]] (qao_l3 rec_qao)
theorem qao_ok3 (rec_qao:List TStmt→List ((List UInt8)×(Thing))→List (List UInt8)→Option (((List ((List UInt8)×(Thing)))×(List TAct)×(List (List UInt8)))⊕(Refused))) (hrec_qao:qao_rec rec_qao):LoopR kk env0 Tryz.f32.ntmps qao_b3 (qao_lp3 rec_qao):=
  loopG (qao_i3 rec_qao) (qao_t3 rec_qao) (ko (known62 rec_qao hrec_qao)) (L:=jnL) (zaab (bs:=[]) (by kernel_rfl) trivial) (by kernel_rfl) (fun _=>by kernel_rfl) (zaaa _) (fun _=>by kernel_rfl)
def qao_L (rec_qao:List TStmt→List ((List UInt8)×(Thing))→List (List UInt8)→Option (((List ((List UInt8)×(Thing)))×(List TAct)×(List (List UInt8)))⊕(Refused))):Nat→Option (Lift.Loop U):=fun n=>bif Nat.beq n zaal then some zaaj else bif Nat.beq n 3 then some (qao_lp3 rec_qao) else none
def qao_md:Mode U:=qao_rmd qao
theorem qao_step (rec_qao:List TStmt→List ((List UInt8)×(Thing))→List (List UInt8)→Option (((List ((List UInt8)×(Thing)))×(List TAct)×(List (List UInt8)))⊕(Refused))) (hrec_qao:qao_rec rec_qao):zaap (Kit.withModes kk (zaac (ms62 rec_qao))) env0 Tryz.f32.ntmps (qao_L rec_qao) (zaae Tryz.f32):=zaab (bs:=[qao_b3]) (by kernel_rfl) ⟨.inr ⟨_,by kernel_rfl,zaai.of_round (qao_ok3 rec_qao hrec_qao)⟩,trivial⟩
theorem qao_post:zaad kk env0 32 (qao_rmd qao):=
  recG qao_i qao_f (by kernel_rfl) (fun _=>by kernel_rfl) (zaaa _) fun r ih=>fnG (fn:=Tryz.f32) (ko (known62 r ih)) (by kernel_rfl) (qao_step r ih) rfl (by kernel_rfl)
def ms63:List (FuncId×Mode U):=(32,qao_md)::ms61
theorem known63:Known kk env0 (zaac ms63):=known_cons (by kernel_rfl) qao_post known61
def qal_b6:Code:=(zaag (zaae Tryz.f11) 0)
def qal_lp6:Lift.Loop U:=lpG ⟨⟨[1,2,3,4,5,24,25,26],[1,170000,170001,170002,170003],[⟨.cell 170000 0,7200000,3,(.int .i64)⟩,⟨.cell 170001 0,7200100,9,.str⟩]⟩,[.ptr 1 0,.ptr 170000 0,.ptr 170001 0,.ptr 170002 0,.ptr 170003 0,.t (.slc (.st 48)),.t (.int .i64),.t (.int .i64)],[.blk 26 [.t (.slc (.st 48)),.t (.slc .str),.t (.slc (.st 51))],.blk 32 [.oslc 7200000,.t (.int .i64),.nil],.blk 35 [.oslc 7200100,.nil,.nil,.nil],.blk 36 [.t (.int .i64)],.blk 9 [.t .str],.row 3 (.int .i64),.row 9 .str]⟩ [⟨.exit 0,⟨⟨[1,2,3,4,5],[1,170000,170001,170002,170003],[⟨.cell 170000 0,7200000,3,(.int .i64)⟩,⟨.cell 170001 0,7200100,9,.str⟩]⟩,[.ptr 1 0,.ptr 170000 0,.ptr 170001 0,.ptr 170002 0,.ptr 170003 0],[.blk 26 [.t (.slc (.st 48)),.t (.slc .str),.t (.slc (.st 51))],.blk 32 [.oslc 7200000,.t (.int .i64),.nil],.blk 35 [.oslc 7200100,.nil,.nil,.nil],.blk 36 [.t (.int .i64)],.blk 9 [.t .str],.row 3 (.int .i64),.row 9 .str]⟩⟩] [.slc (.st 48),.int .i64,.int .i64,.slc (.st 48),.slc .str,.slc (.st 51),.int .i64,.int .i64,.str,.slc (.int .i64),.slc .str] [[.slc (.st 48),.slc .str,.slc (.st 51),.int .i64,.int .i64,.str,.slc (.int .i64),.slc .str]] qal_l6
theorem qal_ok6:LoopR kk env0 Tryz.f11.ntmps qal_b6 qal_lp6:=
  loopG qal_i6 qal_t6 (ko known63) (L:=jnL) (zaab (bs:=[]) (by kernel_rfl) trivial) (by kernel_rfl) (fun _=>by kernel_rfl) (zaaa _) (fun _=>by kernel_rfl)
def qal_b14:Code:=(zaag (zaae Tryz.f11) 1)
def qal_lp14:Lift.Loop U:=lpG ⟨⟨[1,2,3,4,5,55,56,57],[1,170000,170001,170002,170003],[⟨.cell 170000 0,7200000,3,(.int .i64)⟩,⟨.cell 170001 0,7200100,9,.str⟩,⟨.cell 170001 1,7200101,9,.str⟩,⟨.cell 170001 2,7200102,9,.str⟩]⟩,[.ptr 1 0,.ptr 170000 0,.ptr 170001 0,.ptr 170002 0,.ptr 170003 0,.t (.slc (.st 51)),.t (.int .i64),.t (.int .i64)],[.blk 26 [.t (.slc (.st 48)),.t (.slc .str),.t (.slc (.st 51))],.blk 32 [.oslc 7200000,.t (.int .i64),.nil],.blk 35 [.oslc 7200100,.oslc 7200101,.oslc 7200102,.nil],.blk 36 [.t (.int .i64)],.blk 9 [.t .str],.row 3 (.int .i64),.row 9 .str,.row 9 .str,.row 9 .str]⟩ [⟨.exit 2,⟨⟨[1,2,3,4,5],[1,170000,170001,170002,170003],[⟨.cell 170000 0,7200000,3,(.int .i64)⟩,⟨.cell 170001 0,7200100,9,.str⟩,⟨.cell 170001 1,7200101,9,.str⟩,⟨.cell 170001 2,7200102,9,.str⟩]⟩,[.ptr 1 0,.ptr 170000 0,.ptr 170001 0,.ptr 170002 0,.ptr 170003 0],[.blk 26 [.t (.slc (.st 48)),.t (.slc .str),.t (.slc (.st 51))],.blk 32 [.oslc 7200000,.t (.int .i64),.nil],.blk 35 [.oslc 7200100,.oslc 7200101,.oslc 7200102,.nil],.blk 36 [.t (.int .i64)],.blk 9 [.t .str],.row 3 (.int .i64),.row 9 .str,.row 9 .str,.row 9 .str]⟩⟩] [.slc (.st 51),.int .i64,.int .i64,.slc (.st 48),.slc .str,.slc (.st 51),.int .i64,.int .i64,.str,.slc (.int .i64),.slc .str,.slc .str,.slc .str] [[.slc (.st 48),.slc .str,.slc (.st 51),.int .i64,.int .i64,.str,.slc (.int .i64),.slc .str,.slc .str,.slc .str]] qal_l14
theorem qal_ok14:LoopR kk env0 Tryz.f11.ntmps qal_b14 qal_lp14:=
  loopG qal_i14 qal_t14 (ko known63) (L:=jnL) (zaab (bs:=[]) (by kernel_rfl) trivial) (by kernel_rfl) (fun _=>by kernel_rfl) (zaaa _) (fun _=>by kernel_rfl)
def qal_b21:Code:=(zaag (zaae Tryz.f11) 2)
def qal_lp21:Lift.Loop U:=lpG ⟨⟨[2,3,4,5,11,76,77,78],[170000,170001,170002,170003,71,69],[⟨.cell 170000 0,7200000,3,(.int .i64)⟩,⟨.cell 170000 2,7200002,65,(.st 1065)⟩,⟨.cell 170001 3,7200103,23,(.own 9 .str)⟩]⟩,[.ptr 170000 0,.ptr 170001 0,.ptr 170002 0,.ptr 170003 0,.ptr 71 0,.t (.slc (.st 51)),.t (.int .i64),.t (.int .i64)],[.blk 32 [.oslc 7200000,.t (.int .i64),.oslc 7200002],.blk 35 [.t (.slc .str),.t (.slc .str),.t (.slc .str),.oslc 7200103],.blk 36 [.t (.int .i64)],.blk 9 [.t .str],.blk 81 [.ptr 69 0,.junk],.mp .str (.st 103),.row 3 (.int .i64),.row 65 (.st 1065),.row 23 (.own 9 .str)]⟩ [⟨.pan,⟨⟨[2,3,4,5,777777],[170000,170001,170002,170003],[⟨.cell 170000 0,7200000,3,(.int .i64)⟩,⟨.cell 170000 2,7200002,65,(.st 1065)⟩,⟨.cell 170001 3,7200103,23,(.own 9 .str)⟩]⟩,[.ptr 170000 0,.ptr 170001 0,.ptr 170002 0,.ptr 170003 0,.ifc 75 (.t (.st 75))],[.blk 32 [.oslc 7200000,.t (.int .i64),.oslc 7200002],.blk 35 [.t (.slc .str),.t (.slc .str),.t (.slc .str),.oslc 7200103],.blk 36 [.t (.int .i64)],.blk 9 [.t .str],.row 3 (.int .i64),.row 65 (.st 1065),.row 23 (.own 9 .str)]⟩⟩,⟨.exit 4,⟨⟨[2,3,4,5],[170000,170001,170002,170003],[⟨.cell 170000 0,7200000,3,(.int .i64)⟩,⟨.cell 170000 2,7200002,65,(.st 1065)⟩,⟨.cell 170001 3,7200103,23,(.own 9 .str)⟩]⟩,[.ptr 170000 0,.ptr 170001 0,.ptr 170002 0,.ptr 170003 0],[.blk 32 [.oslc 7200000,.t (.int .i64),.oslc 7200002],.blk 35 [.t (.slc .str),.t (.slc .str),.t (.slc .str),.oslc 7200103],.blk 36 [.t (.int .i64)],.blk 9 [.t .str],.row 3 (.int .i64),.row 65 (.st 1065),.row 23 (.own 9 .str)]⟩⟩] [.slc (.st 51),.int .i64,.int .i64,.int .i64,.slc .str,.slc .str,.slc .str,.int .i64,.str,.map .str (.st 103),.slc (.int .i64),.slc (.st 1065),.slc (.own 9 .str)] [[.st 75,.int .i64,.slc .str,.slc .str,.slc .str,.int .i64,.str,.slc (.int .i64),.slc (.st 1065),.slc (.own 9 .str)],[.int .i64,.slc .str,.slc .str,.slc .str,.int .i64,.str,.slc (.int .i64),.slc (.st 1065),.slc (.own 9 .str)]] qal_l21
theorem qal_ok21:LoopR kk env0 Tryz.f11.ntmps qal_b21 qal_lp21:=
  loopG qal_i21 qal_t21 (ko known63) (L:=jnL) (zaab (bs:=[]) (by kernel_rfl) trivial) (by kernel_rfl) (fun _=>by kernel_rfl) (zaaa _) (fun _=>by kernel_rfl)
def qal_L:Nat→Option (Lift.Loop U):=fun n=>bif Nat.beq n zaal then some zaaj else bif Nat.beq n 6 then some qal_lp6 else bif Nat.beq n 14 then some qal_lp14 else bif Nat.beq n 21 then some qal_lp21 else none
def qal_md:Mode U:=mdG ⟨⟨[0],[],[]⟩,[.t (.st 26)],[]⟩ [] [⟨⟨[0,1,2,3],[],[]⟩,[.t (.st 32),.t (.st 35),.t (.int .i64),.t .str],[]⟩] [.st 26] [[.st 32,.st 35,.int .i64,.str]] qal
theorem qal_post:zaad kk env0 11 qal_md:=
  fnGD (fn:=Tryz.f11) (ko known63) (by kernel_rfl) (L:=qal_L) (zaab (bs:=[qal_b6,qal_b14,qal_b21]) (by kernel_rfl) ⟨.inr ⟨_,by kernel_rfl,zaai.of_round (qal_ok6)⟩,.inr ⟨_,by kernel_rfl,zaai.of_round (qal_ok14)⟩,.inr ⟨_,by kernel_rfl,zaai.of_round (qal_ok21)⟩,trivial⟩) (zaaa _) (by kernel_rfl) (by kernel_rfl)
def ms64:List (FuncId×Mode U):=(11,qal_md)::ms63
theorem known64:Known kk env0 (zaac ms64):=known_cons (by kernel_rfl) qal_post known63
def qaw_b3:Code:=(zaag (zaae Tryz.f40) 0)
def qaw_lp3:Lift.Loop U:=lpG ⟨⟨[3,4,5],[],[⟨.slot 3,3,9,.str⟩]⟩,[.oslc 3,.t (.int .i64),.t (.int .i64)],[.row 9 .str]⟩ [⟨.exit 0,⟨⟨[3],[],[⟨.slot 3,3,9,.str⟩]⟩,[.oslc 3],[.row 9 .str]⟩⟩] [.int .i64,.int .i64,.slc .str] [[.slc .str]] qaw_l3
theorem qaw_ok3:LoopR kk env0 Tryz.f40.ntmps qaw_b3 qaw_lp3:=
  loopG qaw_i3 qaw_t3 (ko known64) (L:=jnL) (zaab (bs:=[]) (by kernel_rfl) trivial) (by kernel_rfl) (fun _=>by kernel_rfl) (zaaa _) (fun _=>by kernel_rfl)
def qaw_L:Nat→Option (Lift.Loop U):=fun n=>bif Nat.beq n zaal then some zaaj else bif Nat.beq n 3 then some qaw_lp3 else none
def qaw_md:Mode U:=mdG ⟨⟨[0],[],[]⟩,[.t (.int .i64)],[]⟩ [] [⟨⟨[0],[],[⟨.slot 0,100050,9,.str⟩]⟩,[.oslc 100050],[.row 9 .str]⟩] [.int .i64] [[.slc .str]] qaw
theorem qaw_post:zaad kk env0 40 qaw_md:=
  fnG (fn:=Tryz.f40) (ko known64) (by kernel_rfl) (L:=qaw_L) (zaab (bs:=[qaw_b3]) (by kernel_rfl) ⟨.inr ⟨_,by kernel_rfl,zaai.of_round (qaw_ok3)⟩,trivial⟩) (zaaa _) (by kernel_rfl)
def ms65:List (FuncId×Mode U):=(40,qaw_md)::ms64
theorem known65:Known kk env0 (zaac ms65):=known_cons (by kernel_rfl) qaw_post known64
def qan_md:Mode U:=mdG ⟨⟨[0,1],[],[]⟩,[.t (.slc .str),.t (.int .i64)],[]⟩ [] [⟨⟨[0],[],[]⟩,[.t .str],[]⟩] [.slc .str,.int .i64] [[.str]] qan
theorem qan_post:zaad kk env0 91 qan_md:=
  fnG (fn:=Tryz.f91) (ko known65) (by kernel_rfl) (L:=jnL) (zaab (bs:=[]) (by kernel_rfl) trivial) (zaaa _) (by kernel_rfl)
def ms66:List (FuncId×Mode U):=(91,qan_md)::ms65
theorem known66:Known kk env0 (zaac ms66):=known_cons (by kernel_rfl) qan_post known65
abbrev qaa_tr:Type:=curT U (sumT U [[.int .i64,.int .i64,.str,.slc (.st 1060)]]) [.st 111,.st 60]
def qaa_rmd (rec_qaa:qaa_tr):Mode U:=mdG ⟨⟨[0,1],[],[]⟩,[.t (.st 111),.t (.st 60)],[]⟩ [] [⟨⟨[0],[],[⟨.sub 0 3,100400,60,(.st 1060)⟩]⟩,[.agg [.t (.int .i64),.t (.int .i64),.t .str,.oslc 100400]],[.row 60 (.st 1060)]⟩] [.st 111,.st 60] [[.int .i64,.int .i64,.str,.slc (.st 1060)]] rec_qaa
abbrev qaa_rec (r:qaa_tr):Prop:=zaad kk env0 89 (qaa_rmd r)
def ms67 (rec_qaa:qaa_tr):List (FuncId×Mode U):=(89,(qaa_rmd rec_qaa))::ms66
theorem known67 (rec_qaa:qaa_tr) (hrec_qaa:qaa_rec rec_qaa):Known kk env0 (zaac (ms67 rec_qaa)):=known_cons (by kernel_rfl) hrec_qaa known66
def qaa_b8:Code:=(zaag (zaae Tryz.f89) 0)
def qaa_lp8 (rec_qaa:qaa_tr):Lift.Loop U:=lpG ⟨⟨[2,4,5,30,31,32],[2,4,5],[⟨.cell 5 3,20253,60,(.st 1060)⟩]⟩,[.ptr 2 0,.ptr 4 0,.ptr 5 0,.t (.slc (.st 60)),.t (.int .i64),.t (.int .i64)],[.blk 111 [.t (.slc .str),.t (.slc .str),.t (.slc .str),.t (.slc .str)],.blk 60 [.t (.int .i64),.t (.int .i64),.t .str,.nil],.blk 60 [.t (.int .i64),.t (.int .i64),.t .str,.oslc 20253],.row 60 (.st 1060)]⟩ [⟨.exit 0,⟨⟨[4,5],[4,5],[⟨.cell 5 3,20253,60,(.st 1060)⟩]⟩,[.ptr 4 0,.ptr 5 0],[.blk 60 [.t (.int .i64),.t (.int .i64),.t .str,.nil],.blk 60 [.t (.int .i64),.t (.int .i64),.t .str,.oslc 20253],.row 60 (.st 1060)]⟩⟩] [.slc (.st 60),.int .i64,.int .i64,.slc .str,.slc .str,.slc .str,.slc .str,.int .i64,.int .i64,.str,.int .i64,.int .i64,.str,.slc (.st 1060)] [[.int .i64,.int .i64,.str,.int .i64,.int .i64,.str,.slc (.st 1060)]] (qaa_l8 rec_qaa)
theorem qaa_ok8 (rec_qaa:qaa_tr) (hrec_qaa:qaa_rec rec_qaa):LoopR kk env0 Tryz.f89.ntmps qaa_b8 (qaa_lp8 rec_qaa):=
  loopG (qaa_i8 rec_qaa) (qaa_t8 rec_qaa) (ko (known67 rec_qaa hrec_qaa)) (L:=jnL) (zaab (bs:=[]) (by kernel_rfl) trivial) (by kernel_rfl) (fun _=>by kernel_rfl) (zaaa _) (fun _=>by kernel_rfl)
def qaa_L (rec_qaa:qaa_tr):Nat→Option (Lift.Loop U):=fun n=>bif Nat.beq n zaal then some zaaj else bif Nat.beq n 8 then some (qaa_lp8 rec_qaa) else none
def qaa_md:Mode U:=qaa_rmd qaa
theorem qaa_step (rec_qaa:qaa_tr) (hrec_qaa:qaa_rec rec_qaa):zaap (Kit.withModes kk (zaac (ms67 rec_qaa))) env0 Tryz.f89.ntmps (qaa_L rec_qaa) (zaae Tryz.f89):=zaab (bs:=[qaa_b8]) (by kernel_rfl) ⟨.inr ⟨_,by kernel_rfl,zaai.of_round (qaa_ok8 rec_qaa hrec_qaa)⟩,trivial⟩
theorem qaa_post:zaad kk env0 89 (qaa_rmd qaa):=
  recG qaa_i qaa_f (by kernel_rfl) (fun _=>by kernel_rfl) (zaaa _) fun r ih=>fnG (fn:=Tryz.f89) (ko (known67 r ih)) (by kernel_rfl) (qaa_step r ih) rfl (by kernel_rfl)
def ms68:List (FuncId×Mode U):=(89,qaa_md)::ms66
theorem known68:Known kk env0 (zaac ms68):=known_cons (by kernel_rfl) qaa_post known66
abbrev qab_tr:Type:=curT U (sumT U [[.slc (.st 1062)]]) [.st 111,.slc (.st 67)]
def qab_rmd (rec_qab:qab_tr):Mode U:=mdG ⟨⟨[0,1],[],[]⟩,[.t (.st 111),.t (.slc (.st 67))],[]⟩ [] [⟨⟨[0],[],[⟨.slot 0,100050,62,(.st 1062)⟩]⟩,[.oslc 100050],[.row 62 (.st 1062)]⟩] [.st 111,.slc (.st 67)] [[.slc (.st 1062)]] rec_qab
abbrev qab_rec (r:qab_tr):Prop:=zaad kk env0 65 (qab_rmd r)
def ms69 (rec_qab:qab_tr):List (FuncId×Mode U):=(65,(qab_rmd rec_qab))::ms68
theorem known69 (rec_qab:qab_tr) (hrec_qab:qab_rec rec_qab):Known kk env0 (zaac (ms69 rec_qab)):=known_cons (by kernel_rfl) hrec_qab known68
def qat_md (rec_qab:qab_tr):Mode U:=mdG ⟨⟨[0],[],[]⟩,[.t (.int .i64)],[]⟩ [] [⟨⟨[0],[],[]⟩,[.t .bool],[]⟩] [.int .i64] [[.bool]] (qat rec_qab)
theorem qat_post (rec_qab:qab_tr) (hrec_qab:qab_rec rec_qab):zaad kk env0 90 (qat_md rec_qab):=
  fnG (fn:=Tryz.f90) (ko (known69 rec_qab hrec_qab)) (by kernel_rfl) (L:=jnL) (zaab (bs:=[]) (by kernel_rfl) trivial) (zaaa _) (by kernel_rfl)
def ms70 (rec_qab:qab_tr):List (FuncId×Mode U):=(90,(qat_md rec_qab))::(ms69 rec_qab)
theorem known70 (rec_qab:qab_tr) (hrec_qab:qab_rec rec_qab):Known kk env0 (zaac (ms70 rec_qab)):=known_cons (by kernel_rfl) (qat_post rec_qab hrec_qab) (known69 rec_qab hrec_qab)
def qab_b3:Code:=(zaag (zaae Tryz.f65) 0)
def qab_lp3 (rec_qab:qab_tr):Lift.Loop U:=lpG ⟨⟨[2,5,9,10,11],[2],[⟨.slot 5,5,62,(.st 1062)⟩]⟩,[.ptr 2 0,.oslc 5,.t (.slc (.st 67)),.t (.int .i64),.t (.int .i64)],[.blk 111 [.t (.slc .str),.t (.slc .str),.t (.slc .str),.t (.slc .str)],.row 62 (.st 1062)]⟩ [⟨.exit 0,⟨⟨[5],[],[⟨.slot 5,5,62,(.st 1062)⟩]⟩,[.oslc 5],[.row 62 (.st 1062)]⟩⟩] [.slc (.st 67),.int .i64,.int .i64,.slc .str,.slc .str,.slc .str,.slc .str,.slc (.st 1062)] [[.slc (.st 1062)]] (qab_l3 rec_qab)
theorem qab_ok3 (rec_qab:qab_tr) (hrec_qab:qab_rec rec_qab):LoopR kk env0 Tryz.f65.ntmps qab_b3 (qab_lp3 rec_qab):=
  loopG (qab_i3 rec_qab) (qab_t3 rec_qab) (ko (known70 rec_qab hrec_qab)) (L:=jnL) (zaab (bs:=[]) (by kernel_rfl) trivial) (by kernel_rfl) (fun _=>by kernel_rfl) (zaaa _) (fun _=>by kernel_rfl)
def qab_L (rec_qab:qab_tr):Nat→Option (Lift.Loop U):=fun n=>bif Nat.beq n zaal then some zaaj else bif Nat.beq n 3 then some (qab_lp3 rec_qab) else none
def qab_md:Mode U:=qab_rmd qab
theorem qab_step (rec_qab:qab_tr) (hrec_qab:qab_rec rec_qab):zaap (Kit.withModes kk (zaac (ms70 rec_qab))) env0 Tryz.f65.ntmps (qab_L rec_qab) (zaae Tryz.f65):=zaab (bs:=[qab_b3]) (by kernel_rfl) ⟨.inr ⟨_,by kernel_rfl,zaai.of_round (qab_ok3 rec_qab hrec_qab)⟩,trivial⟩
theorem qab_post:zaad kk env0 65 (qab_rmd qab):=
  recG qab_i qab_f (by kernel_rfl) (fun _=>by kernel_rfl) (zaaa _) fun r ih=>fnG (fn:=Tryz.f65) (ko (known70 r ih)) (by kernel_rfl) (qab_step r ih) rfl (by kernel_rfl)
def ms71:List (FuncId×Mode U):=(65,qab_md)::ms68
theorem known71:Known kk env0 (zaac ms71):=known_cons (by kernel_rfl) qab_post known68
def qav_b3:Code:=(zaag (zaae Tryz.f41) 0)
def qav_lp3:Lift.Loop U:=lpG ⟨⟨[2,3,4,5,12,13,14],[2,3,4,5],[⟨.cell 5 0,20250,48,(.st 48)⟩]⟩,[.ptr 2 0,.ptr 3 0,.ptr 4 0,.ptr 5 0,.t (.slc (.int .i64)),.t (.int .i64),.t (.int .i64)],[.blk 32 [.t (.slc (.int .i64)),.t (.int .i64),.t (.slc (.st 65))],.blk 35 [.t (.slc .str),.t (.slc .str),.t (.slc .str),.t (.slc (.slc .str))],.blk 26 [.nil,.nil,.nil],.blk 26 [.oslc 20250,.nil,.nil],.row 48 (.st 48)]⟩ [⟨.exit 0,⟨⟨[2,3,4,5],[2,3,4,5],[⟨.cell 5 0,20250,48,(.st 48)⟩]⟩,[.ptr 2 0,.ptr 3 0,.ptr 4 0,.ptr 5 0],[.blk 32 [.t (.slc (.int .i64)),.t (.int .i64),.t (.slc (.st 65))],.blk 35 [.t (.slc .str),.t (.slc .str),.t (.slc .str),.t (.slc (.slc .str))],.blk 26 [.nil,.nil,.nil],.blk 26 [.oslc 20250,.nil,.nil],.row 48 (.st 48)]⟩⟩] [.slc (.int .i64),.int .i64,.int .i64,.slc (.int .i64),.int .i64,.slc (.st 65),.slc .str,.slc .str,.slc .str,.slc (.slc .str),.slc (.st 48)] [[.slc (.int .i64),.int .i64,.slc (.st 65),.slc .str,.slc .str,.slc .str,.slc (.slc .str),.slc (.st 48)]] qav_l3
theorem qav_ok3:LoopR kk env0 Tryz.f41.ntmps qav_b3 qav_lp3:=
  loopG qav_i3 qav_t3 (ko known71) (L:=jnL) (zaab (bs:=[]) (by kernel_rfl) trivial) (by kernel_rfl) (fun _=>by kernel_rfl) (zaaa _) (fun _=>by kernel_rfl)
def qav_b9:Code:=(zaag (zaae Tryz.f41) 1)
def qav_lp9:Lift.Loop U:=lpG ⟨⟨[3,4,5,38,39,40],[3,4,5],[⟨.cell 5 0,20250,48,(.st 48)⟩,⟨.cell 5 1,20251,9,.str⟩,⟨.cell 5 2,20252,51,(.st 1051)⟩]⟩,[.ptr 3 0,.ptr 4 0,.ptr 5 0,.t (.slc (.st 65)),.t (.int .i64),.t (.int .i64)],[.blk 35 [.t (.slc .str),.t (.slc .str),.t (.slc .str),.t (.slc (.slc .str))],.blk 26 [.nil,.nil,.nil],.blk 26 [.oslc 20250,.oslc 20251,.oslc 20252],.row 48 (.st 48),.row 9 .str,.row 51 (.st 1051)]⟩ [⟨.exit 2,⟨⟨[4,5],[4,5],[⟨.cell 5 0,20250,48,(.st 48)⟩,⟨.cell 5 1,20251,9,.str⟩,⟨.cell 5 2,20252,51,(.st 1051)⟩]⟩,[.ptr 4 0,.ptr 5 0],[.blk 26 [.nil,.nil,.nil],.blk 26 [.oslc 20250,.oslc 20251,.oslc 20252],.row 48 (.st 48),.row 9 .str,.row 51 (.st 1051)]⟩⟩] [.slc (.st 65),.int .i64,.int .i64,.slc .str,.slc .str,.slc .str,.slc (.slc .str),.slc (.st 48),.slc .str,.slc (.st 1051)] [[.slc (.st 48),.slc .str,.slc (.st 1051)]] qav_l9
theorem qav_ok9:LoopR kk env0 Tryz.f41.ntmps qav_b9 qav_lp9:=
  loopG qav_i9 qav_t9 (ko known71) (L:=jnL) (zaab (bs:=[]) (by kernel_rfl) trivial) (by kernel_rfl) (fun _=>by kernel_rfl) (zaaa _) (fun _=>by kernel_rfl)
def qav_L:Nat→Option (Lift.Loop U):=fun n=>bif Nat.beq n zaal then some zaaj else bif Nat.beq n 3 then some qav_lp3 else bif Nat.beq n 9 then some qav_lp9 else none
def qav_md:Mode U:=mdG ⟨⟨[0,1],[],[]⟩,[.t (.st 32),.t (.st 35)],[]⟩ [] [⟨⟨[0],[],[⟨.sub 0 0,100100,48,(.st 48)⟩,⟨.sub 0 1,100200,9,.str⟩,⟨.sub 0 2,100300,51,(.st 1051)⟩]⟩,[.agg [.oslc 100100,.oslc 100200,.oslc 100300]],[.row 48 (.st 48),.row 9 .str,.row 51 (.st 1051)]⟩] [.st 32,.st 35] [[.slc (.st 48),.slc .str,.slc (.st 1051)]] qav
theorem qav_post:zaad kk env0 41 qav_md:=
  fnG (fn:=Tryz.f41) (ko known71) (by kernel_rfl) (L:=qav_L) (zaab (bs:=[qav_b3,qav_b9]) (by kernel_rfl) ⟨.inr ⟨_,by kernel_rfl,zaai.of_round (qav_ok3)⟩,.inr ⟨_,by kernel_rfl,zaai.of_round (qav_ok9)⟩,trivial⟩) (zaaa _) (by kernel_rfl)
def ms72:List (FuncId×Mode U):=(41,qav_md)::ms71
theorem known72:Known kk env0 (zaac ms72):=known_cons (by kernel_rfl) qav_post known71
def qam_b5:Code:=(zaag (zaae Tryz.f16) 0)
def qam_lp5:Lift.Loop U:=lpG ⟨⟨[1,3,45,46,47],[1,3],[⟨.cell 3 0,20150,9,.str⟩,⟨.cell 3 1,20151,9,.str⟩,⟨.cell 3 2,20152,9,.str⟩,⟨.cell 3 3,20153,23,(.own 9 .str)⟩]⟩,[.ptr 1 0,.ptr 3 0,.t (.slc (.st 65)),.t (.int .i64),.t (.int .i64)],[.blk 32 [.t (.slc (.int .i64)),.t (.int .i64),.t (.slc (.st 65))],.blk 35 [.oslc 20150,.oslc 20151,.oslc 20152,.oslc 20153],.row 9 .str,.row 9 .str,.row 9 .str,.row 23 (.own 9 .str)]⟩ [⟨.ret,⟨⟨[2],[],[]⟩,[.t .bool],[]⟩⟩,⟨.exit 0,⟨⟨[1,3],[1,3],[⟨.cell 3 0,20150,9,.str⟩,⟨.cell 3 1,20151,9,.str⟩,⟨.cell 3 2,20152,9,.str⟩,⟨.cell 3 3,20153,23,(.own 9 .str)⟩]⟩,[.ptr 1 0,.ptr 3 0],[.blk 32 [.t (.slc (.int .i64)),.t (.int .i64),.t (.slc (.st 65))],.blk 35 [.oslc 20150,.oslc 20151,.oslc 20152,.oslc 20153],.row 9 .str,.row 9 .str,.row 9 .str,.row 23 (.own 9 .str)]⟩⟩] [.slc (.st 65),.int .i64,.int .i64,.slc (.int .i64),.int .i64,.slc (.st 65),.slc .str,.slc .str,.slc .str,.slc (.own 9 .str)] [[.bool],[.slc (.int .i64),.int .i64,.slc (.st 65),.slc .str,.slc .str,.slc .str,.slc (.own 9 .str)]] qam_l5
theorem qam_ok5:LoopR kk env0 Tryz.f16.ntmps qam_b5 qam_lp5:=
  loopG qam_i5 qam_t5 (ko known72) (L:=jnL) (zaab (bs:=[]) (by kernel_rfl) trivial) (by kernel_rfl) (fun _=>by kernel_rfl) (zaaa _) (fun _=>by kernel_rfl)
def qam_L:Nat→Option (Lift.Loop U):=fun n=>bif Nat.beq n zaal then some zaaj else bif Nat.beq n 5 then some qam_lp5 else none
def qam_md:Mode U:=mdG ⟨⟨[0],[],[]⟩,[.t (.st 32)],[]⟩ [] [⟨⟨[0],[],[]⟩,[.t .bool],[]⟩] [.st 32] [[.bool]] qam
theorem qam_post:zaad kk env0 16 qam_md:=
  fnG (fn:=Tryz.f16) (ko known72) (by kernel_rfl) (L:=qam_L) (zaab (bs:=[qam_b5]) (by kernel_rfl) ⟨.inr ⟨_,by kernel_rfl,zaai.of_round (qam_ok5)⟩,trivial⟩) (zaaa _) (by kernel_rfl)
def ms73:List (FuncId×Mode U):=(16,qam_md)::ms72
theorem known73:Known kk env0 (zaac ms73):=known_cons (by kernel_rfl) qam_post known72
def qaM_md:Mode U:=mdG ⟨⟨[],[],[]⟩,[],[]⟩ [] [⟨⟨[0],[],[]⟩,[.t .bool],[]⟩] [] [[.bool]] qaM
theorem qaM_post:zaad kk env0 8 qaM_md:=
  fnG (fn:=Tryz.f8) (ko known73) (by kernel_rfl) (L:=jnL) (zaab (bs:=[]) (by kernel_rfl) trivial) (zaaa _) (by kernel_rfl)
def ms74:List (FuncId×Mode U):=(8,qaM_md)::ms73
theorem known74:Known kk env0 (zaac ms74):=known_cons (by kernel_rfl) qaM_post known73
def qbc_md:Mode U:=mdG ⟨⟨[0],[],[]⟩,[.t (.int .i64)],[]⟩ [] [⟨⟨[0,1,2,3,4,5],[],[]⟩,[.t .bool,.t .bool,.t .bool,.t .bool,.t .bool,.t .bool],[]⟩] [.int .i64] [[.bool,.bool,.bool,.bool,.bool,.bool]] qbc
theorem qbc_post:zaad kk env0 50 qbc_md:=
  fnG (fn:=Tryz.f50) (ko known74) (by kernel_rfl) (L:=jnL) (zaab (bs:=[]) (by kernel_rfl) trivial) (zaaa _) (by kernel_rfl)
def ms75:List (FuncId×Mode U):=(50,qbc_md)::ms74
theorem known75:Known kk env0 (zaac ms75):=known_cons (by kernel_rfl) qbc_post known74
def qbe_md:Mode U:=mdG ⟨⟨[0],[],[]⟩,[.t (.st 60)],[]⟩ [] [⟨⟨[0],[],[]⟩,[.t .bool],[]⟩] [.st 60] [[.bool]] qbe
theorem qbe_post:zaad kk env0 85 qbe_md:=
  fnG (fn:=Tryz.f85) (ko known75) (by kernel_rfl) (L:=jnL) (zaab (bs:=[]) (by kernel_rfl) trivial) (zaaa _) (by kernel_rfl)
def ms78:List (FuncId×Mode U):=(85,qbe_md)::ms75
theorem known78:Known kk env0 (zaac ms78):=known_cons (by kernel_rfl) qbe_post known75
def qbo_md:Mode U:=mdG ⟨⟨[0],[],[]⟩,[.t (.st 60)],[]⟩ [] [⟨⟨[0],[],[]⟩,[.t .bool],[]⟩] [.st 60] [[.bool]] qbo
theorem qbo_post:zaad kk env0 67 qbo_md:=
  fnG (fn:=Tryz.f67) (ko known78) (by kernel_rfl) (L:=jnL) (zaab (bs:=[]) (by kernel_rfl) trivial) (zaaa _) (by kernel_rfl)
def ms85:List (FuncId×Mode U):=(67,qbo_md)::ms78
theorem known85:Known kk env0 (zaac ms85):=known_cons (by kernel_rfl) qbo_post known78
abbrev qa9_tr:Type:=curT U (sumT U [[.int .i64]]) [.st 60]
def qa9_rmd (rec_qa9:qa9_tr):Mode U:=mdG ⟨⟨[0],[],[]⟩,[.t (.st 60)],[]⟩ [] [⟨⟨[0],[],[]⟩,[.t (.int .i64)],[]⟩] [.st 60] [[.int .i64]] rec_qa9
abbrev qa9_rec (r:qa9_tr):Prop:=zaad kk env0 87 (qa9_rmd r)
def ms86 (rec_qa9:qa9_tr):List (FuncId×Mode U):=(87,(qa9_rmd rec_qa9))::ms85
theorem known86 (rec_qa9:qa9_tr) (hrec_qa9:qa9_rec rec_qa9):Known kk env0 (zaac (ms86 rec_qa9)):=known_cons (by kernel_rfl) hrec_qa9 known85
def qa9_b3:Code:=(zaag (zaae Tryz.f87) 0)
def qa9_lp3 (rec_qa9:qa9_tr):Lift.Loop U:=lpG ⟨⟨[1,3,4],[1],[]⟩,[.ptr 1 0,.t (.int .i64),.t (.int .i64)],[.blk 60 [.t (.int .i64),.t (.int .i64),.t .str,.t (.slc (.st 60))]]⟩ [⟨.exit 0,⟨⟨[3],[],[]⟩,[.t (.int .i64)],[]⟩⟩] [.int .i64,.int .i64,.int .i64,.int .i64,.str,.slc (.st 60)] [[.int .i64]] (qa9_l3 rec_qa9)
theorem qa9_ok3 (rec_qa9:qa9_tr) (hrec_qa9:qa9_rec rec_qa9):LoopR kk env0 Tryz.f87.ntmps qa9_b3 (qa9_lp3 rec_qa9):=
  loopG (qa9_i3 rec_qa9) (qa9_t3 rec_qa9) (ko (known86 rec_qa9 hrec_qa9)) (L:=jnL) (zaab (bs:=[]) (by kernel_rfl) trivial) (by kernel_rfl) (fun _=>by kernel_rfl) (zaaa _) (fun _=>by kernel_rfl)
def qa9_L (rec_qa9:qa9_tr):Nat→Option (Lift.Loop U):=fun n=>bif Nat.beq n zaal then some zaaj else bif Nat.beq n 3 then some (qa9_lp3 rec_qa9) else none
def qa9_md:Mode U:=qa9_rmd qa9
theorem qa9_step (rec_qa9:qa9_tr) (hrec_qa9:qa9_rec rec_qa9):zaap (Kit.withModes kk (zaac (ms86 rec_qa9))) env0 Tryz.f87.ntmps (qa9_L rec_qa9) (zaae Tryz.f87):=zaab (bs:=[qa9_b3]) (by kernel_rfl) ⟨.inr ⟨_,by kernel_rfl,zaai.of_round (qa9_ok3 rec_qa9 hrec_qa9)⟩,trivial⟩
theorem qa9_post:zaad kk env0 87 (qa9_rmd qa9):=
  recG qa9_i qa9_f (by kernel_rfl) (fun _=>by kernel_rfl) (zaaa _) fun r ih=>fnG (fn:=Tryz.f87) (ko (known86 r ih)) (by kernel_rfl) (qa9_step r ih) rfl (by kernel_rfl)
def ms87:List (FuncId×Mode U):=(87,qa9_md)::ms85
theorem known87:Known kk env0 (zaac ms87):=known_cons (by kernel_rfl) qa9_post known85
abbrev qbi_tr:Type:=curT U (sumT U [[.int .i64]]) [.slc (.st 62),.int .i64]
def qbi_rmd (rec_qbi:qbi_tr):Mode U:=mdG ⟨⟨[0,1],[],[]⟩,[.t (.slc (.st 62)),.t (.int .i64)],[]⟩ [] [⟨⟨[0],[],[]⟩,[.t (.int .i64)],[]⟩] [.slc (.st 62),.int .i64] [[.int .i64]] rec_qbi
abbrev qbi_rec (r:qbi_tr):Prop:=zaad kk env0 63 (qbi_rmd r)
def ms88 (rec_qbi:qbi_tr):List (FuncId×Mode U):=(63,(qbi_rmd rec_qbi))::ms87
theorem known88 (rec_qbi:qbi_tr) (hrec_qbi:qbi_rec rec_qbi):Known kk env0 (zaac (ms88 rec_qbi)):=known_cons (by kernel_rfl) hrec_qbi known87
def qbi_b3:Code:=(zaag (zaae Tryz.f63) 0)
def qbi_lp3 (rec_qbi:qbi_tr):Lift.Loop U:=lpG ⟨⟨[0,1,5,6],[],[]⟩,[.t (.slc (.st 62)),.t (.int .i64),.t (.int .i64),.t (.int .i64)],[]⟩ [⟨.exit 0,⟨⟨[5],[],[]⟩,[.t (.int .i64)],[]⟩⟩] [.slc (.st 62),.int .i64,.int .i64,.int .i64] [[.int .i64]] (qbi_l3 rec_qbi)
theorem qbi_ok3 (rec_qbi:qbi_tr) (hrec_qbi:qbi_rec rec_qbi):LoopR kk env0 Tryz.f63.ntmps qbi_b3 (qbi_lp3 rec_qbi):=
  loopG (qbi_i3 rec_qbi) (qbi_t3 rec_qbi) (ko (known88 rec_qbi hrec_qbi)) (L:=jnL) (zaab (bs:=[]) (by kernel_rfl) trivial) (by kernel_rfl) (fun _=>by kernel_rfl) (zaaa _) (fun _=>by kernel_rfl)
def qbi_L (rec_qbi:qbi_tr):Nat→Option (Lift.Loop U):=fun n=>bif Nat.beq n zaal then some zaaj else bif Nat.beq n 3 then some (qbi_lp3 rec_qbi) else none
def qbi_md:Mode U:=qbi_rmd qbi
theorem qbi_step (rec_qbi:qbi_tr) (hrec_qbi:qbi_rec rec_qbi):zaap (Kit.withModes kk (zaac (ms88 rec_qbi))) env0 Tryz.f63.ntmps (qbi_L rec_qbi) (zaae Tryz.f63):=zaab (bs:=[qbi_b3]) (by kernel_rfl) ⟨.inr ⟨_,by kernel_rfl,zaai.of_round (qbi_ok3 rec_qbi hrec_qbi)⟩,trivial⟩
theorem qbi_post:zaad kk env0 63 (qbi_rmd qbi):=
  recG qbi_i qbi_f (by kernel_rfl) (fun _=>by kernel_rfl) (zaaa _) fun r ih=>fnG (fn:=Tryz.f63) (ko (known88 r ih)) (by kernel_rfl) (qbi_step r ih) rfl (by kernel_rfl)
def ms89:List (FuncId×Mode U):=(63,qbi_md)::ms87
theorem known89:Known kk env0 (zaac ms89):=known_cons (by kernel_rfl) qbi_post known87
def qa7_b3:Code:=(zaag (zaae Tryz.f38) 0)
def qa7_lp3:Lift.Loop U:=lpG ⟨⟨[1,3,4],[1],[]⟩,[.ptr 1 0,.t (.int .i64),.t (.int .i64)],[.blk 26 [.t (.slc (.st 48)),.t (.slc .str),.t (.slc (.st 51))]]⟩ [⟨.exit 0,⟨⟨[3],[],[]⟩,[.t (.int .i64)],[]⟩⟩] [.int .i64,.int .i64,.slc (.st 48),.slc .str,.slc (.st 51)] [[.int .i64]] qa7_l3
theorem qa7_ok3:LoopR kk env0 Tryz.f38.ntmps qa7_b3 qa7_lp3:=
  loopG qa7_i3 qa7_t3 (ko known89) (L:=jnL) (zaab (bs:=[]) (by kernel_rfl) trivial) (by kernel_rfl) (fun _=>by kernel_rfl) (zaaa _) (fun _=>by kernel_rfl)
def qa7_L:Nat→Option (Lift.Loop U):=fun n=>bif Nat.beq n zaal then some zaaj else bif Nat.beq n 3 then some qa7_lp3 else none
def qa7_md:Mode U:=mdG ⟨⟨[0],[],[]⟩,[.t (.st 26)],[]⟩ [] [⟨⟨[0],[],[]⟩,[.t (.int .i64)],[]⟩] [.st 26] [[.int .i64]] qa7
theorem qa7_post:zaad kk env0 38 qa7_md:=
  fnG (fn:=Tryz.f38) (ko known89) (by kernel_rfl) (L:=qa7_L) (zaab (bs:=[qa7_b3]) (by kernel_rfl) ⟨.inr ⟨_,by kernel_rfl,zaai.of_round (qa7_ok3)⟩,trivial⟩) (zaaa _) (by kernel_rfl)
def ms90:List (FuncId×Mode U):=(38,qa7_md)::ms89
theorem known90:Known kk env0 (zaac ms90):=known_cons (by kernel_rfl) qa7_post known89
abbrev qa8_tr:Type:=curT U (sumT U [[.int .i64]]) [.st 60]
def qa8_rmd (rec_qa8:qa8_tr):Mode U:=mdG ⟨⟨[0],[],[]⟩,[.t (.st 60)],[]⟩ [] [⟨⟨[0],[],[]⟩,[.t (.int .i64)],[]⟩] [.st 60] [[.int .i64]] rec_qa8
abbrev qa8_rec (r:qa8_tr):Prop:=zaad kk env0 88 (qa8_rmd r)
def ms91 (rec_qa8:qa8_tr):List (FuncId×Mode U):=(88,(qa8_rmd rec_qa8))::ms90
theorem known91 (rec_qa8:qa8_tr) (hrec_qa8:qa8_rec rec_qa8):Known kk env0 (zaac (ms91 rec_qa8)):=known_cons (by kernel_rfl) hrec_qa8 known90
def qa8_b3:Code:=(zaag (zaae Tryz.f88) 0)
def qa8_lp3 (rec_qa8:qa8_tr):Lift.Loop U:=lpG ⟨⟨[1,3,4],[1],[]⟩,[.ptr 1 0,.t (.int .i64),.t (.int .i64)],[.blk 60 [.t (.int .i64),.t (.int .i64),.t .str,.t (.slc (.st 60))]]⟩ [⟨.exit 0,⟨⟨[3],[],[]⟩,[.t (.int .i64)],[]⟩⟩] [.int .i64,.int .i64,.int .i64,.int .i64,.str,.slc (.st 60)] [[.int .i64]] (qa8_l3 rec_qa8)
theorem qa8_ok3 (rec_qa8:qa8_tr) (hrec_qa8:qa8_rec rec_qa8):LoopR kk env0 Tryz.f88.ntmps qa8_b3 (qa8_lp3 rec_qa8):=
  loopG (qa8_i3 rec_qa8) (qa8_t3 rec_qa8) (ko (known91 rec_qa8 hrec_qa8)) (L:=jnL) (zaab (bs:=[]) (by kernel_rfl) trivial) (by kernel_rfl) (fun _=>by kernel_rfl) (zaaa _) (fun _=>by kernel_rfl)
def qa8_L (rec_qa8:qa8_tr):Nat→Option (Lift.Loop U):=fun n=>bif Nat.beq n zaal then some zaaj else bif Nat.beq n 3 then some (qa8_lp3 rec_qa8) else none
def qa8_md:Mode U:=qa8_rmd qa8
theorem qa8_step (rec_qa8:qa8_tr) (hrec_qa8:qa8_rec rec_qa8):zaap (Kit.withModes kk (zaac (ms91 rec_qa8))) env0 Tryz.f88.ntmps (qa8_L rec_qa8) (zaae Tryz.f88):=zaab (bs:=[qa8_b3]) (by kernel_rfl) ⟨.inr ⟨_,by kernel_rfl,zaai.of_round (qa8_ok3 rec_qa8 hrec_qa8)⟩,trivial⟩
theorem qa8_post:zaad kk env0 88 (qa8_rmd qa8):=
  recG qa8_i qa8_f (by kernel_rfl) (fun _=>by kernel_rfl) (zaaa _) fun r ih=>fnG (fn:=Tryz.f88) (ko (known91 r ih)) (by kernel_rfl) (qa8_step r ih) rfl (by kernel_rfl)
def ms92:List (FuncId×Mode U):=(88,qa8_md)::ms90
theorem known92:Known kk env0 (zaac ms92):=known_cons (by kernel_rfl) qa8_post known90
abbrev qbh_tr:Type:=curT U (sumT U [[.int .i64]]) [.slc (.st 62)]
def qbh_rmd (rec_qbh:qbh_tr):Mode U:=mdG ⟨⟨[0],[],[]⟩,[.t (.slc (.st 62))],[]⟩ [] [⟨⟨[0],[],[]⟩,[.t (.int .i64)],[]⟩] [.slc (.st 62)] [[.int .i64]] rec_qbh
abbrev qbh_rec (r:qbh_tr):Prop:=zaad kk env0 64 (qbh_rmd r)
def ms93 (rec_qbh:qbh_tr):List (FuncId×Mode U):=(64,(qbh_rmd rec_qbh))::ms92
theorem known93 (rec_qbh:qbh_tr) (hrec_qbh:qbh_rec rec_qbh):Known kk env0 (zaac (ms93 rec_qbh)):=known_cons (by kernel_rfl) hrec_qbh known92
def qbh_b3:Code:=(zaag (zaae Tryz.f64) 0)
def qbh_lp3 (rec_qbh:qbh_tr):Lift.Loop U:=lpG ⟨⟨[0,3,4],[],[]⟩,[.t (.slc (.st 62)),.t (.int .i64),.t (.int .i64)],[]⟩ [⟨.exit 0,⟨⟨[3],[],[]⟩,[.t (.int .i64)],[]⟩⟩] [.slc (.st 62),.int .i64,.int .i64] [[.int .i64]] (qbh_l3 rec_qbh)
theorem qbh_ok3 (rec_qbh:qbh_tr) (hrec_qbh:qbh_rec rec_qbh):LoopR kk env0 Tryz.f64.ntmps qbh_b3 (qbh_lp3 rec_qbh):=
  loopG (qbh_i3 rec_qbh) (qbh_t3 rec_qbh) (ko (known93 rec_qbh hrec_qbh)) (L:=jnL) (zaab (bs:=[]) (by kernel_rfl) trivial) (by kernel_rfl) (fun _=>by kernel_rfl) (zaaa _) (fun _=>by kernel_rfl)
def qbh_L (rec_qbh:qbh_tr):Nat→Option (Lift.Loop U):=fun n=>bif Nat.beq n zaal then some zaaj else bif Nat.beq n 3 then some (qbh_lp3 rec_qbh) else none
def qbh_md:Mode U:=qbh_rmd qbh
theorem qbh_step (rec_qbh:qbh_tr) (hrec_qbh:qbh_rec rec_qbh):zaap (Kit.withModes kk (zaac (ms93 rec_qbh))) env0 Tryz.f64.ntmps (qbh_L rec_qbh) (zaae Tryz.f64):=zaab (bs:=[qbh_b3]) (by kernel_rfl) ⟨.inr ⟨_,by kernel_rfl,zaai.of_round (qbh_ok3 rec_qbh hrec_qbh)⟩,trivial⟩
theorem qbh_post:zaad kk env0 64 (qbh_rmd qbh):=
  recG qbh_i qbh_f (by kernel_rfl) (fun _=>by kernel_rfl) (zaaa _) fun r ih=>fnG (fn:=Tryz.f64) (ko (known93 r ih)) (by kernel_rfl) (qbh_step r ih) rfl (by kernel_rfl)
def ms94:List (FuncId×Mode U):=(64,qbh_md)::ms92
theorem known94:Known kk env0 (zaac ms94):=known_cons (by kernel_rfl) qbh_post known92
def qa6_b3:Code:=(zaag (zaae Tryz.f39) 0)
def qa6_lp3:Lift.Loop U:=lpG ⟨⟨[1,3,4],[1],[]⟩,[.ptr 1 0,.t (.int .i64),.t (.int .i64)],[.blk 26 [.t (.slc (.st 48)),.t (.slc .str),.t (.slc (.st 51))]]⟩ [⟨.exit 0,⟨⟨[3],[],[]⟩,[.t (.int .i64)],[]⟩⟩] [.int .i64,.int .i64,.slc (.st 48),.slc .str,.slc (.st 51)] [[.int .i64]] qa6_l3
theorem qa6_ok3:LoopR kk env0 Tryz.f39.ntmps qa6_b3 qa6_lp3:=
  loopG qa6_i3 qa6_t3 (ko known94) (L:=jnL) (zaab (bs:=[]) (by kernel_rfl) trivial) (by kernel_rfl) (fun _=>by kernel_rfl) (zaaa _) (fun _=>by kernel_rfl)
def qa6_L:Nat→Option (Lift.Loop U):=fun n=>bif Nat.beq n zaal then some zaaj else bif Nat.beq n 3 then some qa6_lp3 else none
def qa6_md:Mode U:=mdG ⟨⟨[0],[],[]⟩,[.t (.st 26)],[]⟩ [] [⟨⟨[0],[],[]⟩,[.t (.int .i64)],[]⟩] [.st 26] [[.int .i64]] qa6
theorem qa6_post:zaad kk env0 39 qa6_md:=
  fnG (fn:=Tryz.f39) (ko known94) (by kernel_rfl) (L:=qa6_L) (zaab (bs:=[qa6_b3]) (by kernel_rfl) ⟨.inr ⟨_,by kernel_rfl,zaai.of_round (qa6_ok3)⟩,trivial⟩) (zaaa _) (by kernel_rfl)
def ms95:List (FuncId×Mode U):=(39,qa6_md)::ms94
theorem known95:Known kk env0 (zaac ms95):=known_cons (by kernel_rfl) qa6_post known94
def qaQ_md:Mode U:=mdG ⟨⟨[0],[],[]⟩,[.t (.int .i64)],[]⟩ [] [⟨⟨[0],[],[]⟩,[.t .bool],[]⟩] [.int .i64] [[.bool]] qaQ
theorem qaQ_post:zaad kk env0 127 qaQ_md:=
  fnG (fn:=Tryz.f127) (ko known95) (by kernel_rfl) (L:=noL) (zaab (bs:=[]) (by kernel_rfl) trivial) (zaaa _) (by kernel_rfl)
def ms102:List (FuncId×Mode U):=(127,qaQ_md)::ms95
theorem known102:Known kk env0 (zaac ms102):=known_cons (by kernel_rfl) qaQ_post known95
def qaT_md:Mode U:=mdG ⟨⟨[0],[],[]⟩,[.t (.int .i64)],[]⟩ [] [⟨⟨[0],[],[]⟩,[.t (.int .i64)],[]⟩] [.int .i64] [[.int .i64]] qaT
theorem qaT_post:zaad kk env0 135 qaT_md:=
  fnG (fn:=Tryz.f135) (ko known102) (by kernel_rfl) (L:=noL) (zaab (bs:=[]) (by kernel_rfl) trivial) (zaaa _) (by kernel_rfl)
def ms103:List (FuncId×Mode U):=(135,qaT_md)::ms102
theorem known103:Known kk env0 (zaac ms103):=known_cons (by kernel_rfl) qaT_post known102
def qaN_b18:Code:=(zaag (zaae Tryz.f125) 0)
def qaN_lp18:Lift.Loop U:=lpG ⟨⟨[0,1,7,8,9],[],[]⟩,[.t .str,.t (.int .i64),.t (.int .i64),.t (.int .i64),.t (.int .i64)],[]⟩ [⟨.ret,⟨⟨[4,5],[],[]⟩,[.t (.int .i64),.t (.int .i64)],[]⟩⟩,⟨.exit 1,⟨⟨[7,8],[],[]⟩,[.t (.int .i64),.t (.int .i64)],[]⟩⟩] [.str,.int .i64,.int .i64,.int .i64,.int .i64] [[.int .i64,.int .i64],[.int .i64,.int .i64]] qaN_l18
theorem qaN_ok18:LoopR kk env0 Tryz.f125.ntmps qaN_b18 qaN_lp18:=
  loopG qaN_i18 qaN_t18 (ko known103) (L:=noL) (zaab (bs:=[]) (by kernel_rfl) trivial) (by kernel_rfl) (fun _=>by kernel_rfl) (zaaa _) (fun _=>by kernel_rfl)
def qaN_L:Nat→Option (Lift.Loop U):=fun n=>bif Nat.beq n 18 then some qaN_lp18 else none
def qaN_md:Mode U:=mdG ⟨⟨[0,1],[],[]⟩,[.t .str,.t (.int .i64)],[]⟩ [] [⟨⟨[0,1],[],[]⟩,[.t (.int .i64),.t (.int .i64)],[]⟩] [.str,.int .i64] [[.int .i64,.int .i64]] qaN
theorem qaN_post:zaad kk env0 125 qaN_md:=
  fnG (fn:=Tryz.f125) (ko known103) (by kernel_rfl) (L:=qaN_L) (zaab (bs:=[qaN_b18]) (by kernel_rfl) ⟨.inr ⟨_,by kernel_rfl,zaai.of_round (qaN_ok18)⟩,trivial⟩) (zaaa _) (by kernel_rfl)
def ms104:List (FuncId×Mode U):=(125,qaN_md)::ms103
theorem known104:Known kk env0 (zaac ms104):=known_cons (by kernel_rfl) qaN_post known103
def qaU_md:Mode U:=mdG ⟨⟨[0,1,2],[],[]⟩,[.t (.st 146),.t (.int .i64),.t (.int .i64)],[]⟩ [] [⟨⟨[0],[],[]⟩,[.t (.st 146)],[]⟩] [.st 146,.int .i64,.int .i64] [[.st 146]] qaU
theorem qaU_post:zaad kk env0 126 qaU_md:=
  fnG (fn:=Tryz.f126) (ko known104) (by kernel_rfl) (L:=noL) (zaab (bs:=[]) (by kernel_rfl) trivial) (zaaa _) (by kernel_rfl)
def ms105:List (FuncId×Mode U):=(126,qaU_md)::ms104
theorem known105:Known kk env0 (zaac ms105):=known_cons (by kernel_rfl) qaU_post known104
def qaV_b3:Code:=(zaag (zaae Tryz.f106) 0)
def qaV_lp3:Lift.Loop U:=lpG ⟨⟨[0,3,4,5],[3,5],[⟨.slot 4,4,146,(.st 146)⟩]⟩,[.t .str,.ptr 3 0,.oslc 4,.ptr 5 0],[.blk 146 [.t (.int .i64),.t (.int .i64),.t (.int .i64),.t (.int .i64)],.blk 146 [.t (.int .i64),.t (.int .i64),.t (.int .i64),.t (.int .i64)],.row 146 (.st 146)]⟩ [⟨.exit 0,⟨⟨[3,4,5],[3,5],[⟨.slot 4,4,146,(.st 146)⟩]⟩,[.ptr 3 0,.oslc 4,.ptr 5 0],[.blk 146 [.t (.int .i64),.t (.int .i64),.t (.int .i64),.t (.int .i64)],.blk 146 [.t (.int .i64),.t (.int .i64),.t (.int .i64),.t (.int .i64)],.row 146 (.st 146)]⟩⟩] [.str,.int .i64,.int .i64,.int .i64,.int .i64,.int .i64,.int .i64,.int .i64,.int .i64,.slc (.st 146)] [[.int .i64,.int .i64,.int .i64,.int .i64,.int .i64,.int .i64,.int .i64,.int .i64,.slc (.st 146)]] qaV_l3
theorem qaV_ok3:LoopR kk env0 Tryz.f106.ntmps qaV_b3 qaV_lp3:=
  loopG qaV_i3 qaV_t3 (ko known105) (L:=noL) (zaab (bs:=[]) (by kernel_rfl) trivial) (by kernel_rfl) (fun _=>by kernel_rfl) (zaaa _) (fun _=>by kernel_rfl)
def qaV_L:Nat→Option (Lift.Loop U):=fun n=>bif Nat.beq n 3 then some qaV_lp3 else none
def qaV_md:Mode U:=mdG ⟨⟨[0],[],[]⟩,[.t .str],[]⟩ [] [⟨⟨[0,1],[],[⟨.slot 0,100050,146,(.st 146)⟩]⟩,[.oslc 100050,.t (.st 146)],[.row 146 (.st 146)]⟩] [.str] [[.st 146,.slc (.st 146)]] qaV
theorem qaV_post:zaad kk env0 106 qaV_md:=
  fnG (fn:=Tryz.f106) (ko known105) (by kernel_rfl) (L:=qaV_L) (zaab (bs:=[qaV_b3]) (by kernel_rfl) ⟨.inr ⟨_,by kernel_rfl,zaai.of_round (qaV_ok3)⟩,trivial⟩) (zaaa _) (by kernel_rfl)
def ms106:List (FuncId×Mode U):=(106,qaV_md)::ms105
theorem known106:Known kk env0 (zaac ms106):=known_cons (by kernel_rfl) qaV_post known105
def qaS_md:Mode U:=mdG ⟨⟨[0],[],[]⟩,[.t .str],[]⟩ [] [⟨⟨[0,1],[],[⟨.slot 0,100050,146,(.st 146)⟩]⟩,[.oslc 100050,.t (.st 130)],[.row 146 (.st 146)]⟩] [.str] [[.st 130,.slc (.st 146)]] qaS
theorem qaS_post:zaad kk env0 98 qaS_md:=
  fnG (fn:=Tryz.f98) (ko known106) (by kernel_rfl) (L:=noL) (zaab (bs:=[]) (by kernel_rfl) trivial) (zaaa _) (by kernel_rfl)
def ms107:List (FuncId×Mode U):=(98,qaS_md)::ms106
theorem known107:Known kk env0 (zaac ms107):=known_cons (by kernel_rfl) qaS_post known106
def qaO_md:Mode U:=mdG ⟨⟨[0],[],[]⟩,[.t (.int .i64)],[]⟩ [] [⟨⟨[0],[],[]⟩,[.t .bool],[]⟩] [.int .i64] [[.bool]] qaO
theorem qaO_post:zaad kk env0 99 qaO_md:=
  fnG (fn:=Tryz.f99) (ko known107) (by kernel_rfl) (L:=noL) (zaab (bs:=[]) (by kernel_rfl) trivial) (zaaa _) (by kernel_rfl)
def ms108:List (FuncId×Mode U):=(99,qaO_md)::ms107
theorem known108:Known kk env0 (zaac ms108):=known_cons (by kernel_rfl) qaO_post known107
def qaR_md:Mode U:=mdG ⟨⟨[0],[],[]⟩,[.t (.int .i64)],[]⟩ [] [⟨⟨[0],[],[]⟩,[.t .bool],[]⟩] [.int .i64] [[.bool]] qaR
theorem qaR_post:zaad kk env0 107 qaR_md:=
  fnG (fn:=Tryz.f107) (ko known108) (by kernel_rfl) (L:=noL) (zaab (bs:=[]) (by kernel_rfl) trivial) (zaaa _) (by kernel_rfl)
def ms109:List (FuncId×Mode U):=(107,qaR_md)::ms108
theorem known109:Known kk env0 (zaac ms109):=known_cons (by kernel_rfl) qaR_post known108
def qaP_md:Mode U:=mdG ⟨⟨[0],[],[]⟩,[.t (.int .i64)],[]⟩ [] [⟨⟨[0],[],[]⟩,[.t .bool],[]⟩] [.int .i64] [[.bool]] qaP
theorem qaP_post:zaad kk env0 108 qaP_md:=
  fnG (fn:=Tryz.f108) (ko known109) (by kernel_rfl) (L:=noL) (zaab (bs:=[]) (by kernel_rfl) trivial) (zaaa _) (by kernel_rfl)
def ms110:List (FuncId×Mode U):=(108,qaP_md)::ms109
theorem known110:Known kk env0 (zaac ms110):=known_cons (by kernel_rfl) qaP_post known109
def qa2_b2:Code:=(zaag (zaae Tryz.f109) 0)
def qa2_lp2:Lift.Loop U:=lpG ⟨⟨[0,5],[],[]⟩,[.t (.slc (.st 146)),.t (.int .i64)],[]⟩ [⟨.exit 0,⟨⟨[5],[],[]⟩,[.t (.int .i64)],[]⟩⟩] [.slc (.st 146),.int .i64] [[.int .i64]] qa2_l2
theorem qa2_ok2:LoopR kk env0 Tryz.f109.ntmps qa2_b2 qa2_lp2:=
  loopG qa2_i2 qa2_t2 (ko known110) (L:=noL) (zaab (bs:=[]) (by kernel_rfl) trivial) (by kernel_rfl) (fun _=>by kernel_rfl) (zaaa _) (fun _=>by kernel_rfl)
def qa2_L:Nat→Option (Lift.Loop U):=fun n=>bif Nat.beq n 2 then some qa2_lp2 else none
def qa2_md:Mode U:=mdG ⟨⟨[0,1],[],[]⟩,[.t (.slc (.st 146)),.t (.int .i64)],[]⟩ [] [⟨⟨[0],[],[]⟩,[.t (.int .i64)],[]⟩] [.slc (.st 146),.int .i64] [[.int .i64]] qa2
theorem qa2_post:zaad kk env0 109 qa2_md:=
  fnG (fn:=Tryz.f109) (ko known110) (by kernel_rfl) (L:=qa2_L) (zaab (bs:=[qa2_b2]) (by kernel_rfl) ⟨.inr ⟨_,by kernel_rfl,zaai.of_round (qa2_ok2)⟩,trivial⟩) (zaaa _) (by kernel_rfl)
def ms111:List (FuncId×Mode U):=(109,qa2_md)::ms110
theorem known111:Known kk env0 (zaac ms111):=known_cons (by kernel_rfl) qa2_post known110
def qa1_md:Mode U:=mdG ⟨⟨[0,1,2,3],[],[]⟩,[.t (.slc (.st 146)),.t .str,.t (.int .i64),.t (.int .i64)],[]⟩ [] [⟨⟨[0],[],[]⟩,[.t .str],[]⟩] [.slc (.st 146),.str,.int .i64,.int .i64] [[.str]] qa1
theorem qa1_post:zaad kk env0 110 qa1_md:=
  fnG (fn:=Tryz.f110) (ko known111) (by kernel_rfl) (L:=noL) (zaab (bs:=[]) (by kernel_rfl) trivial) (zaaa _) (by kernel_rfl)
def ms112:List (FuncId×Mode U):=(110,qa1_md)::ms111
theorem known112:Known kk env0 (zaac ms112):=known_cons (by kernel_rfl) qa1_post known111
def qaZ_md:Mode U:=mdG ⟨⟨[],[],[]⟩,[],[]⟩ [] [⟨⟨[0],[],[⟨.slot 0,100050,9,.str⟩]⟩,[.oslc 100050],[.row 9 .str]⟩] [] [[.slc .str]] qaZ
theorem qaZ_post:zaad kk env0 111 qaZ_md:=
  fnG (fn:=Tryz.f111) (ko known112) (by kernel_rfl) (L:=noL) (zaab (bs:=[]) (by kernel_rfl) trivial) (zaaa _) (by kernel_rfl)
def ms113:List (FuncId×Mode U):=(111,qaZ_md)::ms112
theorem known113:Known kk env0 (zaac ms113):=known_cons (by kernel_rfl) qaZ_post known112
def qaW_b2:Code:=(zaag (zaae Tryz.f66) 0)
def qaW_lp2:Lift.Loop U:=lpG ⟨⟨[0,1,5],[],[]⟩,[.t (.slc .str),.t .str,.t (.int .i64)],[]⟩ [⟨.ret,⟨⟨[4],[],[]⟩,[.t .bool],[]⟩⟩,⟨.exit 0,⟨⟨[],[],[]⟩,[],[]⟩⟩] [.slc .str,.str,.int .i64] [[.bool],[]] qaW_l2
theorem qaW_ok2:LoopR kk env0 Tryz.f66.ntmps qaW_b2 qaW_lp2:=
  loopG qaW_i2 qaW_t2 (ko known113) (L:=noL) (zaab (bs:=[]) (by kernel_rfl) trivial) (by kernel_rfl) (fun _=>by kernel_rfl) (zaaa _) (fun _=>by kernel_rfl)
def qaW_L:Nat→Option (Lift.Loop U):=fun n=>bif Nat.beq n 2 then some qaW_lp2 else none
def qaW_md:Mode U:=mdG ⟨⟨[0,1],[],[]⟩,[.t (.slc .str),.t .str],[]⟩ [] [⟨⟨[0],[],[]⟩,[.t .bool],[]⟩] [.slc .str,.str] [[.bool]] qaW
theorem qaW_post:zaad kk env0 66 qaW_md:=
  fnG (fn:=Tryz.f66) (ko known113) (by kernel_rfl) (L:=qaW_L) (zaab (bs:=[qaW_b2]) (by kernel_rfl) ⟨.inr ⟨_,by kernel_rfl,zaai.of_round (qaW_ok2)⟩,trivial⟩) (zaaa _) (by kernel_rfl)
def ms114:List (FuncId×Mode U):=(66,qaW_md)::ms113
theorem known114:Known kk env0 (zaac ms114):=known_cons (by kernel_rfl) qaW_post known113
def qa0_b5:Code:=(zaag (zaae Tryz.f112) 0)
def qa0_lp5:Lift.Loop U:=lpG ⟨⟨[0,4,5],[],[]⟩,[.t .str,.t (.int .i64),.t (.int .i64)],[]⟩ [⟨.ret,⟨⟨[2,3],[],[]⟩,[.t (.int .i64),.t .bool],[]⟩⟩,⟨.exit 0,⟨⟨[4],[],[]⟩,[.t (.int .i64)],[]⟩⟩] [.str,.int .i64,.int .i64] [[.int .i64,.bool],[.int .i64]] qa0_l5
theorem qa0_ok5:LoopR kk env0 Tryz.f112.ntmps qa0_b5 qa0_lp5:=
  loopG qa0_i5 qa0_t5 (ko known114) (L:=noL) (zaab (bs:=[]) (by kernel_rfl) trivial) (by kernel_rfl) (fun _=>by kernel_rfl) (zaaa _) (fun _=>by kernel_rfl)
def qa0_L:Nat→Option (Lift.Loop U):=fun n=>bif Nat.beq n 5 then some qa0_lp5 else none
def qa0_md:Mode U:=mdG ⟨⟨[0],[],[]⟩,[.t .str],[]⟩ [] [⟨⟨[0,1],[],[]⟩,[.t (.int .i64),.t .bool],[]⟩] [.str] [[.int .i64,.bool]] qa0
theorem qa0_post:zaad kk env0 112 qa0_md:=
  fnG (fn:=Tryz.f112) (ko known114) (by kernel_rfl) (L:=qa0_L) (zaab (bs:=[qa0_b5]) (by kernel_rfl) ⟨.inr ⟨_,by kernel_rfl,zaai.of_round (qa0_ok5)⟩,trivial⟩) (zaaa _) (by kernel_rfl)
def ms115:List (FuncId×Mode U):=(112,qa0_md)::ms114
theorem known115:Known kk env0 (zaac ms115):=known_cons (by kernel_rfl) qa0_post known114
def qa4_md:Mode U:=mdG ⟨⟨[],[],[]⟩,[],[]⟩ [] [⟨⟨[0],[],[⟨.slot 0,100050,9,.str⟩]⟩,[.oslc 100050],[.row 9 .str]⟩] [] [[.slc .str]] qa4
theorem qa4_post:zaad kk env0 128 qa4_md:=
  fnG (fn:=Tryz.f128) (ko known115) (by kernel_rfl) (L:=noL) (zaab (bs:=[]) (by kernel_rfl) trivial) (zaaa _) (by kernel_rfl)
def ms116:List (FuncId×Mode U):=(128,qa4_md)::ms115
theorem known116:Known kk env0 (zaac ms116):=known_cons (by kernel_rfl) qa4_post known115
def qa3_b3:Code:=(zaag (zaae Tryz.f113) 0)
def qa3_lp3:Lift.Loop U:=lpG ⟨⟨[0,1,5,6],[],[⟨.slot 5,5,9,.str⟩]⟩,[.t .str,.t (.int .i64),.oslc 5,.t (.int .i64)],[.row 9 .str]⟩ [⟨.ret,⟨⟨[4],[],[]⟩,[.t .str],[]⟩⟩,⟨.exit 0,⟨⟨[],[],[]⟩,[],[]⟩⟩] [.str,.int .i64,.int .i64,.slc .str] [[.str],[]] qa3_l3
theorem qa3_ok3:LoopR kk env0 Tryz.f113.ntmps qa3_b3 qa3_lp3:=
  loopG qa3_i3 qa3_t3 (ko known116) (L:=noL) (zaab (bs:=[]) (by kernel_rfl) trivial) (by kernel_rfl) (fun _=>by kernel_rfl) (zaaa _) (fun _=>by kernel_rfl)
def qa3_L:Nat→Option (Lift.Loop U):=fun n=>bif Nat.beq n 3 then some qa3_lp3 else none
def qa3_md:Mode U:=mdG ⟨⟨[0,1],[],[]⟩,[.t .str,.t (.int .i64)],[]⟩ [] [⟨⟨[0],[],[]⟩,[.t .str],[]⟩] [.str,.int .i64] [[.str]] qa3
theorem qa3_post:zaad kk env0 113 qa3_md:=
  fnG (fn:=Tryz.f113) (ko known116) (by kernel_rfl) (L:=qa3_L) (zaab (bs:=[qa3_b3]) (by kernel_rfl) ⟨.inr ⟨_,by kernel_rfl,zaai.of_round (qa3_ok3)⟩,trivial⟩) (zaaa _) (by kernel_rfl)
def ms117:List (FuncId×Mode U):=(113,qa3_md)::ms116
theorem known117:Known kk env0 (zaac ms117):=known_cons (by kernel_rfl) qa3_post known116
def qa5_md:Mode U:=mdG ⟨⟨[0,1,2],[],[]⟩,[.t (.slc (.st 146)),.t .str,.t (.int .i64)],[]⟩ [] [⟨⟨[0,1,2],[],[]⟩,[.t (.st 134),.t (.int .i64),.t (.int .i64)],[]⟩] [.slc (.st 146),.str,.int .i64] [[.st 134,.int .i64,.int .i64]] qa5
theorem qa5_post:zaad kk env0 100 qa5_md:=
  fnG (fn:=Tryz.f100) (ko known117) (by kernel_rfl) (L:=noL) (zaab (bs:=[]) (by kernel_rfl) trivial) (zaaa _) (by kernel_rfl)
def ms118:List (FuncId×Mode U):=(100,qa5_md)::ms117
theorem known118:Known kk env0 (zaac ms118):=known_cons (by kernel_rfl) qa5_post known117
def qaY_b11:Code:=(zaag (zaag (zaae Tryz.f92) 0) 0)
def qaY_lp11:Lift.Loop U:=lpG ⟨⟨[0,3,4,6,7],[3],[⟨.slot 6,6,134,(.st 134)⟩]⟩,[.t .str,.ptr 3 0,.t (.slc (.st 146)),.oslc 6,.t (.int .i64)],[.blk 130 [.t (.int .i64),.t (.int .i64),.t .str],.row 134 (.st 134)]⟩ [⟨.exit 2,⟨⟨[0,3,4,6,7],[3],[⟨.slot 6,6,134,(.st 134)⟩]⟩,[.t .str,.ptr 3 0,.t (.slc (.st 146)),.oslc 6,.t (.int .i64)],[.blk 130 [.t (.int .i64),.t (.int .i64),.t .str],.row 134 (.st 134)]⟩⟩] [.str,.slc (.st 146),.int .i64,.int .i64,.int .i64,.str,.slc (.st 134)] [[.str,.slc (.st 146),.int .i64,.int .i64,.int .i64,.str,.slc (.st 134)]] qaY_l11
theorem qaY_ok11:LoopR kk env0 Tryz.f92.ntmps qaY_b11 qaY_lp11:=
  loopG qaY_i11 qaY_t11 (ko known118) (L:=noL) (zaab (bs:=[]) (by kernel_rfl) trivial) (by kernel_rfl) (fun _=>by kernel_rfl) (zaaa _) (fun _=>by kernel_rfl)
def qaY_b6:Code:=(zaag (zaae Tryz.f92) 0)
def qaY_L6:Nat→Option (Lift.Loop U):=fun n=>bif Nat.beq n 11 then some qaY_lp11 else none
def qaY_lp6:Lift.Loop U:=lpG ⟨⟨[0,3,4,6,7],[3],[⟨.slot 6,6,134,(.st 134)⟩]⟩,[.t .str,.ptr 3 0,.t (.slc (.st 146)),.oslc 6,.t (.int .i64)],[.blk 130 [.t (.int .i64),.t (.int .i64),.t .str],.row 134 (.st 134)]⟩ [⟨.ret,⟨⟨[2,3],[3],[]⟩,[.nil,.ptr 3 0],[.blk 130 [.t (.int .i64),.t (.int .i64),.t .str]]⟩⟩,⟨.exit 0,⟨⟨[0,3,6],[3],[⟨.slot 6,6,134,(.st 134)⟩]⟩,[.t .str,.ptr 3 0,.oslc 6],[.blk 130 [.t (.int .i64),.t (.int .i64),.t .str],.row 134 (.st 134)]⟩⟩] [.str,.slc (.st 146),.int .i64,.int .i64,.int .i64,.str,.slc (.st 134)] [[.int .i64,.int .i64,.str],[.str,.int .i64,.int .i64,.str,.slc (.st 134)]] qaY_l6
theorem qaY_ok6:LoopR kk env0 Tryz.f92.ntmps qaY_b6 qaY_lp6:=
  loopG qaY_i6 qaY_t6 (ko known118) (L:=qaY_L6) (zaab (bs:=[qaY_b11]) (by kernel_rfl) ⟨.inr ⟨_,by kernel_rfl,zaai.of_round (qaY_ok11)⟩,trivial⟩) (by kernel_rfl) (fun _=>by kernel_rfl) (zaaa _) (fun _=>by kernel_rfl)
def qaY_L:Nat→Option (Lift.Loop U):=fun n=>bif Nat.beq n 6 then some qaY_lp6 else none
def qaY_md:Mode U:=mdG ⟨⟨[0],[],[]⟩,[.t .str],[]⟩ [] [⟨⟨[0,1],[],[⟨.slot 0,100050,134,(.st 134)⟩]⟩,[.oslc 100050,.t (.st 130)],[.row 134 (.st 134)]⟩] [.str] [[.st 130,.slc (.st 134)]] qaY
theorem qaY_post:zaad kk env0 92 qaY_md:=
  fnG (fn:=Tryz.f92) (ko known118) (by kernel_rfl) (L:=qaY_L) (zaab (bs:=[qaY_b6]) (by kernel_rfl) ⟨.inr ⟨_,by kernel_rfl,zaai.of_round (qaY_ok6)⟩,trivial⟩) (zaaa _) (by kernel_rfl)
def ms119:List (FuncId×Mode U):=(92,qaY_md)::ms118
theorem known119:Known kk env0 (zaac ms119):=known_cons (by kernel_rfl) qaY_post known118
def qaX_md:Mode U:=mdG ⟨⟨[0],[],[]⟩,[.t .str],[]⟩ [] [⟨⟨[0],[],[]⟩,[.t .bool],[]⟩] [.str] [[.bool]] qaX
theorem qaX_post:zaad kk env0 69 qaX_md:=
  fnG (fn:=Tryz.f69) (ko known119) (by kernel_rfl) (L:=noL) (zaab (bs:=[]) (by kernel_rfl) trivial) (zaaa _) (by kernel_rfl)
def ms120:List (FuncId×Mode U):=(69,qaX_md)::ms119
theorem known120:Known kk env0 (zaac ms120):=known_cons (by kernel_rfl) qaX_post known119
abbrev qba_tr:Type:=curT U (sumT U [[.bool]]) [.st 60]
def qba_rmd (rec_qba:qba_tr):Mode U:=mdG ⟨⟨[0],[],[]⟩,[.t (.st 60)],[]⟩ [] [⟨⟨[0],[],[]⟩,[.t .bool],[]⟩] [.st 60] [[.bool]] rec_qba
abbrev qba_rec (r:qba_tr):Prop:=zaad kk env0 101 (qba_rmd r)
def ms121 (rec_qba:qba_tr):List (FuncId×Mode U):=(101,(qba_rmd rec_qba))::ms120
theorem known121 (rec_qba:qba_tr) (hrec_qba:qba_rec rec_qba):Known kk env0 (zaac (ms121 rec_qba)):=known_cons (by kernel_rfl) hrec_qba known120
def qba_b14:Code:=(zaag (zaae Tryz.f101) 0)
def qba_lp14 (rec_qba:qba_tr):Lift.Loop U:=lpG ⟨⟨[1,5],[1],[]⟩,[.ptr 1 0,.t (.int .i64)],[.blk 60 [.t (.int .i64),.t (.int .i64),.t .str,.t (.slc (.st 60))]]⟩ [⟨.ret,⟨⟨[2],[],[]⟩,[.t .bool],[]⟩⟩,⟨.exit 1,⟨⟨[],[],[]⟩,[],[]⟩⟩] [.int .i64,.int .i64,.int .i64,.str,.slc (.st 60)] [[.bool],[]] (qba_l14 rec_qba)
theorem qba_ok14 (rec_qba:qba_tr) (hrec_qba:qba_rec rec_qba):LoopR kk env0 Tryz.f101.ntmps qba_b14 (qba_lp14 rec_qba):=
  loopG (qba_i14 rec_qba) (qba_t14 rec_qba) (ko (known121 rec_qba hrec_qba)) (L:=jnL) (zaab (bs:=[]) (by kernel_rfl) trivial) (by kernel_rfl) (fun _=>by kernel_rfl) (zaaa _) (fun _=>by kernel_rfl)
def qba_L (rec_qba:qba_tr):Nat→Option (Lift.Loop U):=fun n=>bif Nat.beq n zaal then some zaaj else bif Nat.beq n 14 then some (qba_lp14 rec_qba) else none
def qba_md:Mode U:=qba_rmd qba
theorem qba_step (rec_qba:qba_tr) (hrec_qba:qba_rec rec_qba):zaap (Kit.withModes kk (zaac (ms121 rec_qba))) env0 Tryz.f101.ntmps (qba_L rec_qba) (zaae Tryz.f101):=zaab (bs:=[qba_b14]) (by kernel_rfl) ⟨.inr ⟨_,by kernel_rfl,zaai.of_round (qba_ok14 rec_qba hrec_qba)⟩,trivial⟩
theorem qba_post:zaad kk env0 101 (qba_rmd qba):=
  recG qba_i qba_f (by kernel_rfl) (fun _=>by kernel_rfl) (zaaa _) fun r ih=>fnG (fn:=Tryz.f101) (ko (known121 r ih)) (by kernel_rfl) (qba_step r ih) rfl (by kernel_rfl)
def ms122:List (FuncId×Mode U):=(101,qba_md)::ms120
theorem known122:Known kk env0 (zaac ms122):=known_cons (by kernel_rfl) qba_post known120
abbrev qbn_tr:Type:=curT U (sumT U [[.bool]]) [.slc (.st 62)]
def qbn_rmd (rec_qbn:qbn_tr):Mode U:=mdG ⟨⟨[0],[],[]⟩,[.t (.slc (.st 62))],[]⟩ [] [⟨⟨[0],[],[]⟩,[.t .bool],[]⟩] [.slc (.st 62)] [[.bool]] rec_qbn
abbrev qbn_rec (r:qbn_tr):Prop:=zaad kk env0 70 (qbn_rmd r)
def ms123 (rec_qbn:qbn_tr):List (FuncId×Mode U):=(70,(qbn_rmd rec_qbn))::ms122
theorem known123 (rec_qbn:qbn_tr) (hrec_qbn:qbn_rec rec_qbn):Known kk env0 (zaac (ms123 rec_qbn)):=known_cons (by kernel_rfl) hrec_qbn known122
def qbm_md (rec_qbn:qbn_tr):Mode U:=mdG ⟨⟨[0],[],[]⟩,[.t (.st 62)],[]⟩ [] [⟨⟨[0],[],[]⟩,[.t .bool],[]⟩] [.st 62] [[.bool]] (qbm rec_qbn)
theorem qbm_post (rec_qbn:qbn_tr) (hrec_qbn:qbn_rec rec_qbn):zaad kk env0 93 (qbm_md rec_qbn):=
  fnG (fn:=Tryz.f93) (ko (known123 rec_qbn hrec_qbn)) (by kernel_rfl) (L:=jnL) (zaab (bs:=[]) (by kernel_rfl) trivial) (zaaa _) (by kernel_rfl)
def ms124 (rec_qbn:qbn_tr):List (FuncId×Mode U):=(93,(qbm_md rec_qbn))::(ms123 rec_qbn)
theorem known124 (rec_qbn:qbn_tr) (hrec_qbn:qbn_rec rec_qbn):Known kk env0 (zaac (ms124 rec_qbn)):=known_cons (by kernel_rfl) (qbm_post rec_qbn hrec_qbn) (known123 rec_qbn hrec_qbn)
def qbn_b2:Code:=(zaag (zaae Tryz.f70) 0)
def qbn_lp2 (rec_qbn:qbn_tr):Lift.Loop U:=lpG ⟨⟨[0,3],[],[]⟩,[.t (.slc (.st 62)),.t (.int .i64)],[]⟩ [⟨.ret,⟨⟨[2],[],[]⟩,[.t .bool],[]⟩⟩,⟨.exit 0,⟨⟨[],[],[]⟩,[],[]⟩⟩] [.slc (.st 62),.int .i64] [[.bool],[]] (qbn_l2 rec_qbn)
theorem qbn_ok2 (rec_qbn:qbn_tr) (hrec_qbn:qbn_rec rec_qbn):LoopR kk env0 Tryz.f70.ntmps qbn_b2 (qbn_lp2 rec_qbn):=
  loopG (qbn_i2 rec_qbn) (qbn_t2 rec_qbn) (ko (known124 rec_qbn hrec_qbn)) (L:=jnL) (zaab (bs:=[]) (by kernel_rfl) trivial) (by kernel_rfl) (fun _=>by kernel_rfl) (zaaa _) (fun _=>by kernel_rfl)
def qbn_L (rec_qbn:qbn_tr):Nat→Option (Lift.Loop U):=fun n=>bif Nat.beq n zaal then some zaaj else bif Nat.beq n 2 then some (qbn_lp2 rec_qbn) else none
def qbn_md:Mode U:=qbn_rmd qbn
theorem qbn_step (rec_qbn:qbn_tr) (hrec_qbn:qbn_rec rec_qbn):zaap (Kit.withModes kk (zaac (ms124 rec_qbn))) env0 Tryz.f70.ntmps (qbn_L rec_qbn) (zaae Tryz.f70):=zaab (bs:=[qbn_b2]) (by kernel_rfl) ⟨.inr ⟨_,by kernel_rfl,zaai.of_round (qbn_ok2 rec_qbn hrec_qbn)⟩,trivial⟩
theorem qbn_post:zaad kk env0 70 (qbn_rmd qbn):=
  recG qbn_i qbn_f (by kernel_rfl) (fun _=>by kernel_rfl) (zaaa _) fun r ih=>fnG (fn:=Tryz.f70) (ko (known124 r ih)) (by kernel_rfl) (qbn_step r ih) rfl (by kernel_rfl)
def ms125:List (FuncId×Mode U):=(70,qbn_md)::ms122
theorem known125:Known kk env0 (zaac ms125):=known_cons (by kernel_rfl) qbn_post known122
def qbj_b2:Code:=(zaag (zaae Tryz.f45) 0)
def qbj_lp2:Lift.Loop U:=lpG ⟨⟨[1,3],[1],[]⟩,[.ptr 1 0,.t (.int .i64)],[.blk 26 [.t (.slc (.st 48)),.t (.slc .str),.t (.slc (.st 51))]]⟩ [⟨.ret,⟨⟨[2],[],[]⟩,[.t .bool],[]⟩⟩,⟨.exit 0,⟨⟨[1],[1],[]⟩,[.ptr 1 0],[.blk 26 [.t (.slc (.st 48)),.t (.slc .str),.t (.slc (.st 51))]]⟩⟩] [.int .i64,.slc (.st 48),.slc .str,.slc (.st 51)] [[.bool],[.slc (.st 48),.slc .str,.slc (.st 51)]] qbj_l2
theorem qbj_ok2:LoopR kk env0 Tryz.f45.ntmps qbj_b2 qbj_lp2:=
  loopG qbj_i2 qbj_t2 (ko known125) (L:=jnL) (zaab (bs:=[]) (by kernel_rfl) trivial) (by kernel_rfl) (fun _=>by kernel_rfl) (zaaa _) (fun _=>by kernel_rfl)
def qbj_b8:Code:=(zaag (zaae Tryz.f45) 1)
def qbj_lp8:Lift.Loop U:=lpG ⟨⟨[1,5],[1],[]⟩,[.ptr 1 0,.t (.int .i64)],[.blk 26 [.t (.slc (.st 48)),.t (.slc .str),.t (.slc (.st 51))]]⟩ [⟨.ret,⟨⟨[2],[],[]⟩,[.t .bool],[]⟩⟩,⟨.exit 2,⟨⟨[1],[1],[]⟩,[.ptr 1 0],[.blk 26 [.t (.slc (.st 48)),.t (.slc .str),.t (.slc (.st 51))]]⟩⟩] [.int .i64,.slc (.st 48),.slc .str,.slc (.st 51)] [[.bool],[.slc (.st 48),.slc .str,.slc (.st 51)]] qbj_l8
theorem qbj_ok8:LoopR kk env0 Tryz.f45.ntmps qbj_b8 qbj_lp8:=
  loopG qbj_i8 qbj_t8 (ko known125) (L:=jnL) (zaab (bs:=[]) (by kernel_rfl) trivial) (by kernel_rfl) (fun _=>by kernel_rfl) (zaaa _) (fun _=>by kernel_rfl)
def qbj_b14:Code:=(zaag (zaae Tryz.f45) 2)
def qbj_lp14:Lift.Loop U:=lpG ⟨⟨[1,7],[1],[]⟩,[.ptr 1 0,.t (.int .i64)],[.blk 26 [.t (.slc (.st 48)),.t (.slc .str),.t (.slc (.st 51))]]⟩ [⟨.ret,⟨⟨[2],[],[]⟩,[.t .bool],[]⟩⟩,⟨.exit 4,⟨⟨[],[],[]⟩,[],[]⟩⟩] [.int .i64,.slc (.st 48),.slc .str,.slc (.st 51)] [[.bool],[]] qbj_l14
theorem qbj_ok14:LoopR kk env0 Tryz.f45.ntmps qbj_b14 qbj_lp14:=
  loopG qbj_i14 qbj_t14 (ko known125) (L:=jnL) (zaab (bs:=[]) (by kernel_rfl) trivial) (by kernel_rfl) (fun _=>by kernel_rfl) (zaaa _) (fun _=>by kernel_rfl)
def qbj_L:Nat→Option (Lift.Loop U):=fun n=>bif Nat.beq n zaal then some zaaj else bif Nat.beq n 2 then some qbj_lp2 else bif Nat.beq n 8 then some qbj_lp8 else bif Nat.beq n 14 then some qbj_lp14 else none
def qbj_md:Mode U:=mdG ⟨⟨[0],[],[]⟩,[.t (.st 26)],[]⟩ [] [⟨⟨[0],[],[]⟩,[.t .bool],[]⟩] [.st 26] [[.bool]] qbj
theorem qbj_post:zaad kk env0 45 qbj_md:=
  fnG (fn:=Tryz.f45) (ko known125) (by kernel_rfl) (L:=qbj_L) (zaab (bs:=[qbj_b2,qbj_b8,qbj_b14]) (by kernel_rfl) ⟨.inr ⟨_,by kernel_rfl,zaai.of_round (qbj_ok2)⟩,.inr ⟨_,by kernel_rfl,zaai.of_round (qbj_ok8)⟩,.inr ⟨_,by kernel_rfl,zaai.of_round (qbj_ok14)⟩,trivial⟩) (zaaa _) (by kernel_rfl)
def ms126:List (FuncId×Mode U):=(45,qbj_md)::ms125
theorem known126:Known kk env0 (zaac ms126):=known_cons (by kernel_rfl) qbj_post known125
def qbf_md:Mode U:=mdG ⟨⟨[0],[],[]⟩,[.t (.st 26)],[]⟩ [] [⟨⟨[0],[],[]⟩,[.t (.int .i64)],[]⟩] [.st 26] [[.int .i64]] qbf
theorem qbf_post:zaad kk env0 21 qbf_md:=
  fnG (fn:=Tryz.f21) (ko known126) (by kernel_rfl) (L:=jnL) (zaab (bs:=[]) (by kernel_rfl) trivial) (zaaa _) (by kernel_rfl)
def ms127:List (FuncId×Mode U):=(21,qbf_md)::ms126
theorem known127:Known kk env0 (zaac ms127):=known_cons (by kernel_rfl) qbf_post known126
abbrev qbg_tr:Type:=curT U (sumT U [[.bool]]) [.st 60,.st 60]
def qbg_rmd (rec_qbg:qbg_tr):Mode U:=mdG ⟨⟨[0,1],[],[]⟩,[.t (.st 60),.t (.st 60)],[]⟩ [] [⟨⟨[0],[],[]⟩,[.t .bool],[]⟩] [.st 60,.st 60] [[.bool]] rec_qbg
abbrev qbg_rec (r:qbg_tr):Prop:=zaad kk env0 61 (qbg_rmd r)
def ms130 (rec_qbg:qbg_tr):List (FuncId×Mode U):=(61,(qbg_rmd rec_qbg))::ms127
theorem known130 (rec_qbg:qbg_tr) (hrec_qbg:qbg_rec rec_qbg):Known kk env0 (zaac (ms130 rec_qbg)):=known_cons (by kernel_rfl) hrec_qbg known127
def qbg_b4:Code:=(zaag (zaae Tryz.f61) 0)
def qbg_lp4 (rec_qbg:qbg_tr):Lift.Loop U:=lpG ⟨⟨[2,3,5],[2,3],[]⟩,[.ptr 2 0,.ptr 3 0,.t (.int .i64)],[.blk 60 [.t (.int .i64),.t (.int .i64),.t .str,.t (.slc (.st 60))],.blk 60 [.t (.int .i64),.t (.int .i64),.t .str,.t (.slc (.st 60))]]⟩ [⟨.ret,⟨⟨[4],[],[]⟩,[.t .bool],[]⟩⟩,⟨.exit 0,⟨⟨[],[],[]⟩,[],[]⟩⟩] [.int .i64,.int .i64,.int .i64,.str,.slc (.st 60),.int .i64,.int .i64,.str,.slc (.st 60)] [[.bool],[]] (qbg_l4 rec_qbg)
theorem qbg_ok4 (rec_qbg:qbg_tr) (hrec_qbg:qbg_rec rec_qbg):LoopR kk env0 Tryz.f61.ntmps qbg_b4 (qbg_lp4 rec_qbg):=
  loopG (qbg_i4 rec_qbg) (qbg_t4 rec_qbg) (ko (known130 rec_qbg hrec_qbg)) (L:=jnL) (zaab (bs:=[]) (by kernel_rfl) trivial) (by kernel_rfl) (fun _=>by kernel_rfl) (zaaa _) (fun _=>by kernel_rfl)
def qbg_L (rec_qbg:qbg_tr):Nat→Option (Lift.Loop U):=fun n=>bif Nat.beq n zaal then some zaaj else bif Nat.beq n 4 then some (qbg_lp4 rec_qbg) else none
def qbg_md:Mode U:=qbg_rmd qbg
theorem qbg_step (rec_qbg:qbg_tr) (hrec_qbg:qbg_rec rec_qbg):zaap (Kit.withModes kk (zaac (ms130 rec_qbg))) env0 Tryz.f61.ntmps (qbg_L rec_qbg) (zaae Tryz.f61):=zaab (bs:=[qbg_b4]) (by kernel_rfl) ⟨.inr ⟨_,by kernel_rfl,zaai.of_round (qbg_ok4 rec_qbg hrec_qbg)⟩,trivial⟩
theorem qbg_post:zaad kk env0 61 (qbg_rmd qbg):=
  recG qbg_i qbg_f (by kernel_rfl) (fun _=>by kernel_rfl) (zaaa _) fun r ih=>fnG (fn:=Tryz.f61) (ko (known130 r ih)) (by kernel_rfl) (qbg_step r ih) rfl (by kernel_rfl)
def ms131:List (FuncId×Mode U):=(61,qbg_md)::ms127
theorem known131:Known kk env0 (zaac ms131):=known_cons (by kernel_rfl) qbg_post known127
abbrev qaL_tr:Type:=curT U (sumT U [[.bool]]) [.slc (.st 67),.slc (.st 67)]
def qaL_rmd (rec_qaL:qaL_tr):Mode U:=mdG ⟨⟨[0,1],[],[]⟩,[.t (.slc (.st 67)),.t (.slc (.st 67))],[]⟩ [] [⟨⟨[0],[],[]⟩,[.t .bool],[]⟩] [.slc (.st 67),.slc (.st 67)] [[.bool]] rec_qaL
abbrev qaL_rec (r:qaL_tr):Prop:=zaad kk env0 34 (qaL_rmd r)
def ms152 (rec_qaL:qaL_tr):List (FuncId×Mode U):=(34,(qaL_rmd rec_qaL))::ms131
theorem known152 (rec_qaL:qaL_tr) (hrec_qaL:qaL_rec rec_qaL):Known kk env0 (zaac (ms152 rec_qaL)):=known_cons (by kernel_rfl) hrec_qaL known131
def qaL_b4:Code:=(zaag (zaae Tryz.f34) 0)
def qaL_lp4 (rec_qaL:qaL_tr):Lift.Loop U:=lpG ⟨⟨[0,1,5],[],[]⟩,[.t (.slc (.st 67)),.t (.slc (.st 67)),.t (.int .i64)],[]⟩ [⟨.ret,⟨⟨[4],[],[]⟩,[.t .bool],[]⟩⟩,⟨.exit 0,⟨⟨[],[],[]⟩,[],[]⟩⟩] [.slc (.st 67),.slc (.st 67),.int .i64] [[.bool],[]] (qaL_l4 rec_qaL)
theorem qaL_ok4 (rec_qaL:qaL_tr) (hrec_qaL:qaL_rec rec_qaL):LoopR kk env0 Tryz.f34.ntmps qaL_b4 (qaL_lp4 rec_qaL):=
  loopG (qaL_i4 rec_qaL) (qaL_t4 rec_qaL) (ko (known152 rec_qaL hrec_qaL)) (L:=jnL) (zaab (bs:=[]) (by kernel_rfl) trivial) (by kernel_rfl) (fun _=>by kernel_rfl) (zaaa _) (fun _=>by kernel_rfl)
def qaL_L (rec_qaL:qaL_tr):Nat→Option (Lift.Loop U):=fun n=>bif Nat.beq n zaal then some zaaj else bif Nat.beq n 4 then some (qaL_lp4 rec_qaL) else none
def qaL_md:Mode U:=qaL_rmd qaL
theorem qaL_step (rec_qaL:qaL_tr) (hrec_qaL:qaL_rec rec_qaL):zaap (Kit.withModes kk (zaac (ms152 rec_qaL))) env0 Tryz.f34.ntmps (qaL_L rec_qaL) (zaae Tryz.f34):=zaab (bs:=[qaL_b4]) (by kernel_rfl) ⟨.inr ⟨_,by kernel_rfl,zaai.of_round (qaL_ok4 rec_qaL hrec_qaL)⟩,trivial⟩
theorem qaL_post:zaad kk env0 34 (qaL_rmd qaL):=
  recG qaL_i qaL_f (by kernel_rfl) (fun _=>by kernel_rfl) (zaaa _) fun r ih=>fnG (fn:=Tryz.f34) (ko (known152 r ih)) (by kernel_rfl) (qaL_step r ih) rfl (by kernel_rfl)
def ms153:List (FuncId×Mode U):=(34,qaL_md)::ms131
theorem known153:Known kk env0 (zaac ms153):=known_cons (by kernel_rfl) qaL_post known131
def qaG_b4:Code:=(zaag (zaae Tryz.f13) 0)
def qaG_lp4:Lift.Loop U:=lpG ⟨⟨[2,3,5],[2,3],[]⟩,[.ptr 2 0,.ptr 3 0,.t (.int .i64)],[.blk 32 [.t (.slc (.int .i64)),.t (.int .i64),.t (.slc (.st 65))],.blk 32 [.t (.slc (.int .i64)),.t (.int .i64),.t (.slc (.st 65))]]⟩ [⟨.ret,⟨⟨[4],[],[]⟩,[.t .bool],[]⟩⟩,⟨.exit 0,⟨⟨[2,3],[2,3],[]⟩,[.ptr 2 0,.ptr 3 0],[.blk 32 [.t (.slc (.int .i64)),.t (.int .i64),.t (.slc (.st 65))],.blk 32 [.t (.slc (.int .i64)),.t (.int .i64),.t (.slc (.st 65))]]⟩⟩] [.int .i64,.slc (.int .i64),.int .i64,.slc (.st 65),.slc (.int .i64),.int .i64,.slc (.st 65)] [[.bool],[.slc (.int .i64),.int .i64,.slc (.st 65),.slc (.int .i64),.int .i64,.slc (.st 65)]] qaG_l4
theorem qaG_ok4:LoopR kk env0 Tryz.f13.ntmps qaG_b4 qaG_lp4:=
  loopG qaG_i4 qaG_t4 (ko known153) (L:=jnL) (zaab (bs:=[]) (by kernel_rfl) trivial) (by kernel_rfl) (fun _=>by kernel_rfl) (zaaa _) (fun _=>by kernel_rfl)
def qaG_b9:Code:=(zaag (zaae Tryz.f13) 1)
def qaG_lp9:Lift.Loop U:=lpG ⟨⟨[2,3,6],[2,3],[]⟩,[.ptr 2 0,.ptr 3 0,.t (.int .i64)],[.blk 32 [.t (.slc (.int .i64)),.t (.int .i64),.t (.slc (.st 65))],.blk 32 [.t (.slc (.int .i64)),.t (.int .i64),.t (.slc (.st 65))]]⟩ [⟨.ret,⟨⟨[4],[],[]⟩,[.t .bool],[]⟩⟩,⟨.exit 2,⟨⟨[],[],[]⟩,[],[]⟩⟩] [.int .i64,.slc (.int .i64),.int .i64,.slc (.st 65),.slc (.int .i64),.int .i64,.slc (.st 65)] [[.bool],[]] qaG_l9
theorem qaG_ok9:LoopR kk env0 Tryz.f13.ntmps qaG_b9 qaG_lp9:=
  loopG qaG_i9 qaG_t9 (ko known153) (L:=jnL) (zaab (bs:=[]) (by kernel_rfl) trivial) (by kernel_rfl) (fun _=>by kernel_rfl) (zaaa _) (fun _=>by kernel_rfl)
def qaG_L:Nat→Option (Lift.Loop U):=fun n=>bif Nat.beq n zaal then some zaaj else bif Nat.beq n 4 then some qaG_lp4 else bif Nat.beq n 9 then some qaG_lp9 else none
def qaG_md:Mode U:=mdG ⟨⟨[0,1],[],[]⟩,[.t (.st 32),.t (.st 32)],[]⟩ [] [⟨⟨[0],[],[]⟩,[.t .bool],[]⟩] [.st 32,.st 32] [[.bool]] qaG
theorem qaG_post:zaad kk env0 13 qaG_md:=
  fnG (fn:=Tryz.f13) (ko known153) (by kernel_rfl) (L:=qaG_L) (zaab (bs:=[qaG_b4,qaG_b9]) (by kernel_rfl) ⟨.inr ⟨_,by kernel_rfl,zaai.of_round (qaG_ok4)⟩,.inr ⟨_,by kernel_rfl,zaai.of_round (qaG_ok9)⟩,trivial⟩) (zaaa _) (by kernel_rfl)
def ms154:List (FuncId×Mode U):=(13,qaG_md)::ms153
theorem known154:Known kk env0 (zaac ms154):=known_cons (by kernel_rfl) qaG_post known153
def qbl_md:Mode U:=mdG ⟨⟨[0,1],[],[⟨.slot 0,0,9,.str⟩]⟩,[.oslc 0,.t .str],[.row 9 .str]⟩ [] [⟨⟨[0],[],[⟨.slot 0,100050,9,.str⟩]⟩,[.oslc 100050],[.row 9 .str]⟩] [.str,.slc .str] [[.slc .str]] qbl
theorem qbl_post:zaad kk env0 42 qbl_md:=
  fnG (fn:=Tryz.f42) (ko known154) (by kernel_rfl) (L:=jnL) (zaab (bs:=[]) (by kernel_rfl) trivial) (zaaa _) (by kernel_rfl)
def ms159:List (FuncId×Mode U):=(42,qbl_md)::ms154
theorem known159:Known kk env0 (zaac ms159):=known_cons (by kernel_rfl) qbl_post known154
abbrev qbb_tr:Type:=curT U (sumT U [[.slc .str]]) [.st 60,.slc .str]
def qbb_rmd (rec_qbb:qbb_tr):Mode U:=mdG ⟨⟨[0,1],[],[⟨.slot 0,0,9,.str⟩]⟩,[.oslc 0,.t (.st 60)],[.row 9 .str]⟩ [] [⟨⟨[0],[],[⟨.slot 0,100050,9,.str⟩]⟩,[.oslc 100050],[.row 9 .str]⟩] [.st 60,.slc .str] [[.slc .str]] rec_qbb
abbrev qbb_rec (r:qbb_tr):Prop:=zaad kk env0 68 (qbb_rmd r)
def ms160 (rec_qbb:qbb_tr):List (FuncId×Mode U):=(68,(qbb_rmd rec_qbb))::ms159
theorem known160 (rec_qbb:qbb_tr) (hrec_qbb:qbb_rec rec_qbb):Known kk env0 (zaac (ms160 rec_qbb)):=known_cons (by kernel_rfl) hrec_qbb known159
def qbb_b3:Code:=(zaag (zaae Tryz.f68) 0)
def qbb_lp3 (rec_qbb:qbb_tr):Lift.Loop U:=lpG ⟨⟨[0,3,5],[3],[⟨.slot 0,0,9,.str⟩]⟩,[.oslc 0,.ptr 3 0,.t (.int .i64)],[.blk 60 [.t (.int .i64),.t (.int .i64),.t .str,.t (.slc (.st 60))],.row 9 .str]⟩ [⟨.exit 0,⟨⟨[0],[],[⟨.slot 0,0,9,.str⟩]⟩,[.oslc 0],[.row 9 .str]⟩⟩] [.int .i64,.int .i64,.int .i64,.str,.slc (.st 60),.slc .str] [[.slc .str]] (qbb_l3 rec_qbb)
theorem qbb_ok3 (rec_qbb:qbb_tr) (hrec_qbb:qbb_rec rec_qbb):LoopR kk env0 Tryz.f68.ntmps qbb_b3 (qbb_lp3 rec_qbb):=
  loopG (qbb_i3 rec_qbb) (qbb_t3 rec_qbb) (ko (known160 rec_qbb hrec_qbb)) (L:=jnL) (zaab (bs:=[]) (by kernel_rfl) trivial) (by kernel_rfl) (fun _=>by kernel_rfl) (zaaa _) (fun _=>by kernel_rfl)
def qbb_L (rec_qbb:qbb_tr):Nat→Option (Lift.Loop U):=fun n=>bif Nat.beq n zaal then some zaaj else bif Nat.beq n 3 then some (qbb_lp3 rec_qbb) else none
def qbb_md:Mode U:=qbb_rmd qbb
theorem qbb_step (rec_qbb:qbb_tr) (hrec_qbb:qbb_rec rec_qbb):zaap (Kit.withModes kk (zaac (ms160 rec_qbb))) env0 Tryz.f68.ntmps (qbb_L rec_qbb) (zaae Tryz.f68):=zaab (bs:=[qbb_b3]) (by kernel_rfl) ⟨.inr ⟨_,by kernel_rfl,zaai.of_round (qbb_ok3 rec_qbb hrec_qbb)⟩,trivial⟩
theorem qbb_post:zaad kk env0 68 (qbb_rmd qbb):=
  recG qbb_i qbb_f (by kernel_rfl) (fun _=>by kernel_rfl) (zaaa _) fun r ih=>fnG (fn:=Tryz.f68) (ko (known160 r ih)) (by kernel_rfl) (qbb_step r ih) rfl (by kernel_rfl)
def ms161:List (FuncId×Mode U):=(68,qbb_md)::ms159
theorem known161:Known kk env0 (zaac ms161):=known_cons (by kernel_rfl) qbb_post known159
abbrev qbk_tr:Type:=curT U (sumT U [[.slc .str]]) [.slc (.st 62),.slc .str]
def qbk_rmd (rec_qbk:qbk_tr):Mode U:=mdG ⟨⟨[0,1],[],[⟨.slot 0,0,9,.str⟩]⟩,[.oslc 0,.t (.slc (.st 62))],[.row 9 .str]⟩ [] [⟨⟨[0],[],[⟨.slot 0,100050,9,.str⟩]⟩,[.oslc 100050],[.row 9 .str]⟩] [.slc (.st 62),.slc .str] [[.slc .str]] rec_qbk
abbrev qbk_rec (r:qbk_tr):Prop:=zaad kk env0 43 (qbk_rmd r)
def ms162 (rec_qbk:qbk_tr):List (FuncId×Mode U):=(43,(qbk_rmd rec_qbk))::ms161
theorem known162 (rec_qbk:qbk_tr) (hrec_qbk:qbk_rec rec_qbk):Known kk env0 (zaac (ms162 rec_qbk)):=known_cons (by kernel_rfl) hrec_qbk known161
def qbk_b2:Code:=(zaag (zaae Tryz.f43) 0)
def qbk_lp2 (rec_qbk:qbk_tr):Lift.Loop U:=lpG ⟨⟨[0,1,5],[],[⟨.slot 0,0,9,.str⟩]⟩,[.oslc 0,.t (.slc (.st 62)),.t (.int .i64)],[.row 9 .str]⟩ [⟨.exit 0,⟨⟨[0],[],[⟨.slot 0,0,9,.str⟩]⟩,[.oslc 0],[.row 9 .str]⟩⟩] [.slc (.st 62),.int .i64,.slc .str] [[.slc .str]] (qbk_l2 rec_qbk)
theorem qbk_ok2 (rec_qbk:qbk_tr) (hrec_qbk:qbk_rec rec_qbk):LoopR kk env0 Tryz.f43.ntmps qbk_b2 (qbk_lp2 rec_qbk):=
  loopG (qbk_i2 rec_qbk) (qbk_t2 rec_qbk) (ko (known162 rec_qbk hrec_qbk)) (L:=jnL) (zaab (bs:=[]) (by kernel_rfl) trivial) (by kernel_rfl) (fun _=>by kernel_rfl) (zaaa _) (fun _=>by kernel_rfl)
def qbk_L (rec_qbk:qbk_tr):Nat→Option (Lift.Loop U):=fun n=>bif Nat.beq n zaal then some zaaj else bif Nat.beq n 2 then some (qbk_lp2 rec_qbk) else none
def qbk_md:Mode U:=qbk_rmd qbk
theorem qbk_step (rec_qbk:qbk_tr) (hrec_qbk:qbk_rec rec_qbk):zaap (Kit.withModes kk (zaac (ms162 rec_qbk))) env0 Tryz.f43.ntmps (qbk_L rec_qbk) (zaae Tryz.f43):=zaab (bs:=[qbk_b2]) (by kernel_rfl) ⟨.inr ⟨_,by kernel_rfl,zaai.of_round (qbk_ok2 rec_qbk hrec_qbk)⟩,trivial⟩
theorem qbk_post:zaad kk env0 43 (qbk_rmd qbk):=
  recG qbk_i qbk_f (by kernel_rfl) (fun _=>by kernel_rfl) (zaaa _) fun r ih=>fnG (fn:=Tryz.f43) (ko (known162 r ih)) (by kernel_rfl) (qbk_step r ih) rfl (by kernel_rfl)
def ms163:List (FuncId×Mode U):=(43,qbk_md)::ms161
theorem known163:Known kk env0 (zaac ms163):=known_cons (by kernel_rfl) qbk_post known161
def qbd_b3:Code:=(zaag (zaae Tryz.f17) 0)
def qbd_lp3:Lift.Loop U:=lpG ⟨⟨[1,3,4],[1],[⟨.slot 3,3,9,.str⟩]⟩,[.ptr 1 0,.oslc 3,.t (.int .i64)],[.blk 26 [.t (.slc (.st 48)),.t (.slc .str),.t (.slc (.st 51))],.row 9 .str]⟩ [⟨.exit 0,⟨⟨[1,3],[1],[⟨.slot 3,3,9,.str⟩]⟩,[.ptr 1 0,.oslc 3],[.blk 26 [.t (.slc (.st 48)),.t (.slc .str),.t (.slc (.st 51))],.row 9 .str]⟩⟩] [.int .i64,.slc (.st 48),.slc .str,.slc (.st 51),.slc .str] [[.slc (.st 48),.slc .str,.slc (.st 51),.slc .str]] qbd_l3
theorem qbd_ok3:LoopR kk env0 Tryz.f17.ntmps qbd_b3 qbd_lp3:=
  loopG qbd_i3 qbd_t3 (ko known163) (L:=jnL) (zaab (bs:=[]) (by kernel_rfl) trivial) (by kernel_rfl) (fun _=>by kernel_rfl) (zaaa _) (fun _=>by kernel_rfl)
def qbd_b7:Code:=(zaag (zaae Tryz.f17) 1)
def qbd_lp7:Lift.Loop U:=lpG ⟨⟨[1,3,5],[1],[⟨.slot 3,3,9,.str⟩]⟩,[.ptr 1 0,.oslc 3,.t (.int .i64)],[.blk 26 [.t (.slc (.st 48)),.t (.slc .str),.t (.slc (.st 51))],.row 9 .str]⟩ [⟨.exit 2,⟨⟨[1,3],[1],[⟨.slot 3,3,9,.str⟩]⟩,[.ptr 1 0,.oslc 3],[.blk 26 [.t (.slc (.st 48)),.t (.slc .str),.t (.slc (.st 51))],.row 9 .str]⟩⟩] [.int .i64,.slc (.st 48),.slc .str,.slc (.st 51),.slc .str] [[.slc (.st 48),.slc .str,.slc (.st 51),.slc .str]] qbd_l7
theorem qbd_ok7:LoopR kk env0 Tryz.f17.ntmps qbd_b7 qbd_lp7:=
  loopG qbd_i7 qbd_t7 (ko known163) (L:=jnL) (zaab (bs:=[]) (by kernel_rfl) trivial) (by kernel_rfl) (fun _=>by kernel_rfl) (zaaa _) (fun _=>by kernel_rfl)
def qbd_b11:Code:=(zaag (zaae Tryz.f17) 2)
def qbd_lp11:Lift.Loop U:=lpG ⟨⟨[1,3,6],[1],[⟨.slot 3,3,9,.str⟩]⟩,[.ptr 1 0,.oslc 3,.t (.int .i64)],[.blk 26 [.t (.slc (.st 48)),.t (.slc .str),.t (.slc (.st 51))],.row 9 .str]⟩ [⟨.exit 4,⟨⟨[1,3],[1],[⟨.slot 3,3,9,.str⟩]⟩,[.ptr 1 0,.oslc 3],[.blk 26 [.t (.slc (.st 48)),.t (.slc .str),.t (.slc (.st 51))],.row 9 .str]⟩⟩] [.int .i64,.slc (.st 48),.slc .str,.slc (.st 51),.slc .str] [[.slc (.st 48),.slc .str,.slc (.st 51),.slc .str]] qbd_l11
theorem qbd_ok11:LoopR kk env0 Tryz.f17.ntmps qbd_b11 qbd_lp11:=
  loopG qbd_i11 qbd_t11 (ko known163) (L:=jnL) (zaab (bs:=[]) (by kernel_rfl) trivial) (by kernel_rfl) (fun _=>by kernel_rfl) (zaaa _) (fun _=>by kernel_rfl)
def qbd_b15:Code:=(zaag (zaae Tryz.f17) 3)
def qbd_lp15:Lift.Loop U:=lpG ⟨⟨[1,3,7],[1],[⟨.slot 3,3,9,.str⟩]⟩,[.ptr 1 0,.oslc 3,.t (.int .i64)],[.blk 26 [.t (.slc (.st 48)),.t (.slc .str),.t (.slc (.st 51))],.row 9 .str]⟩ [⟨.exit 6,⟨⟨[3],[],[⟨.slot 3,3,9,.str⟩]⟩,[.oslc 3],[.row 9 .str]⟩⟩] [.int .i64,.slc (.st 48),.slc .str,.slc (.st 51),.slc .str] [[.slc .str]] qbd_l15
theorem qbd_ok15:LoopR kk env0 Tryz.f17.ntmps qbd_b15 qbd_lp15:=
  loopG qbd_i15 qbd_t15 (ko known163) (L:=jnL) (zaab (bs:=[]) (by kernel_rfl) trivial) (by kernel_rfl) (fun _=>by kernel_rfl) (zaaa _) (fun _=>by kernel_rfl)
def qbd_L:Nat→Option (Lift.Loop U):=fun n=>bif Nat.beq n zaal then some zaaj else bif Nat.beq n 3 then some qbd_lp3 else bif Nat.beq n 7 then some qbd_lp7 else bif Nat.beq n 11 then some qbd_lp11 else bif Nat.beq n 15 then some qbd_lp15 else none
def qbd_md:Mode U:=mdG ⟨⟨[0],[],[]⟩,[.t (.st 26)],[]⟩ [] [⟨⟨[0],[],[⟨.slot 0,100050,9,.str⟩]⟩,[.oslc 100050],[.row 9 .str]⟩] [.st 26] [[.slc .str]] qbd
theorem qbd_post:zaad kk env0 17 qbd_md:=
  fnG (fn:=Tryz.f17) (ko known163) (by kernel_rfl) (L:=qbd_L) (zaab (bs:=[qbd_b3,qbd_b7,qbd_b11,qbd_b15]) (by kernel_rfl) ⟨.inr ⟨_,by kernel_rfl,zaai.of_round (qbd_ok3)⟩,.inr ⟨_,by kernel_rfl,zaai.of_round (qbd_ok7)⟩,.inr ⟨_,by kernel_rfl,zaai.of_round (qbd_ok11)⟩,.inr ⟨_,by kernel_rfl,zaai.of_round (qbd_ok15)⟩,trivial⟩) (zaaa _) (by kernel_rfl)
def ms164:List (FuncId×Mode U):=(17,qbd_md)::ms163
theorem known164:Known kk env0 (zaac ms164):=known_cons (by kernel_rfl) qbd_post known163
def qaH_b2:Code:=(zaag (zaae Tryz.f18) 0)
def qaH_lp2:Lift.Loop U:=lpG ⟨⟨[0,1,5],[],[]⟩,[.t (.slc .str),.t .str,.t (.int .i64)],[]⟩ [⟨.ret,⟨⟨[4],[],[]⟩,[.t (.int .i64)],[]⟩⟩,⟨.exit 0,⟨⟨[],[],[]⟩,[],[]⟩⟩] [.slc .str,.str,.int .i64] [[.int .i64],[]] qaH_l2
theorem qaH_ok2:LoopR kk env0 Tryz.f18.ntmps qaH_b2 qaH_lp2:=
  loopG qaH_i2 qaH_t2 (ko known164) (L:=jnL) (zaab (bs:=[]) (by kernel_rfl) trivial) (by kernel_rfl) (fun _=>by kernel_rfl) (zaaa _) (fun _=>by kernel_rfl)
def qaH_L:Nat→Option (Lift.Loop U):=fun n=>bif Nat.beq n zaal then some zaaj else bif Nat.beq n 2 then some qaH_lp2 else none
def qaH_md:Mode U:=mdG ⟨⟨[0,1],[],[]⟩,[.t (.slc .str),.t .str],[]⟩ [] [⟨⟨[0],[],[]⟩,[.t (.int .i64)],[]⟩] [.slc .str,.str] [[.int .i64]] qaH
theorem qaH_post:zaad kk env0 18 qaH_md:=
  fnG (fn:=Tryz.f18) (ko known164) (by kernel_rfl) (L:=qaH_L) (zaab (bs:=[qaH_b2]) (by kernel_rfl) ⟨.inr ⟨_,by kernel_rfl,zaai.of_round (qaH_ok2)⟩,trivial⟩) (zaaa _) (by kernel_rfl)
def ms165:List (FuncId×Mode U):=(18,qaH_md)::ms164
theorem known165:Known kk env0 (zaac ms165):=known_cons (by kernel_rfl) qaH_post known164
def qaI_md:Mode U:=mdG ⟨⟨[0,1,2],[],[]⟩,[.t .str,.t (.slc .str),.t (.slc .str)],[]⟩ [] [⟨⟨[0],[],[]⟩,[.t .str],[]⟩] [.str,.slc .str,.slc .str] [[.str]] qaI
theorem qaI_post:zaad kk env0 19 qaI_md:=
  fnG (fn:=Tryz.f19) (ko known165) (by kernel_rfl) (L:=jnL) (zaab (bs:=[]) (by kernel_rfl) trivial) (zaaa _) (by kernel_rfl)
def ms166:List (FuncId×Mode U):=(19,qaI_md)::ms165
theorem known166:Known kk env0 (zaac ms166):=known_cons (by kernel_rfl) qaI_post known165
abbrev qaJ_tr:Type:=curT U (sumT U [[.st 60]]) [.st 60,.slc .str,.slc .str]
def qaJ_rmd (rec_qaJ:qaJ_tr):Mode U:=mdG ⟨⟨[0,1,2],[],[]⟩,[.t (.st 60),.t (.slc .str),.t (.slc .str)],[]⟩ [] [⟨⟨[0],[],[]⟩,[.t (.st 60)],[]⟩] [.st 60,.slc .str,.slc .str] [[.st 60]] rec_qaJ
abbrev qaJ_rec (r:qaJ_tr):Prop:=zaad kk env0 44 (qaJ_rmd r)
def ms167 (rec_qaJ:qaJ_tr):List (FuncId×Mode U):=(44,(qaJ_rmd rec_qaJ))::ms166
theorem known167 (rec_qaJ:qaJ_tr) (hrec_qaJ:qaJ_rec rec_qaJ):Known kk env0 (zaac (ms167 rec_qaJ)):=known_cons (by kernel_rfl) hrec_qaJ known166
def qaJ_b4:Code:=(zaag (zaae Tryz.f44) 0)
def qaJ_lp4 (rec_qaJ:qaJ_tr):Lift.Loop U:=lpG ⟨⟨[1,2,3,6,7,8],[3,6,7],[⟨.cell 7 3,20353,60,(.st 60)⟩]⟩,[.t (.slc .str),.t (.slc .str),.ptr 3 0,.ptr 6 0,.ptr 7 0,.t (.int .i64)],[.blk 60 [.t (.int .i64),.t (.int .i64),.t .str,.t (.slc (.st 60))],.blk 60 [.t (.int .i64),.t (.int .i64),.t .str,.nil],.blk 60 [.t (.int .i64),.t (.int .i64),.t .str,.oslc 20353],.row 60 (.st 60)]⟩ [⟨.exit 0,⟨⟨[6,7],[6,7],[⟨.cell 7 3,20353,60,(.st 60)⟩]⟩,[.ptr 6 0,.ptr 7 0],[.blk 60 [.t (.int .i64),.t (.int .i64),.t .str,.nil],.blk 60 [.t (.int .i64),.t (.int .i64),.t .str,.oslc 20353],.row 60 (.st 60)]⟩⟩] [.slc .str,.slc .str,.int .i64,.int .i64,.int .i64,.str,.slc (.st 60),.int .i64,.int .i64,.str,.int .i64,.int .i64,.str,.slc (.st 60)] [[.int .i64,.int .i64,.str,.int .i64,.int .i64,.str,.slc (.st 60)]] (qaJ_l4 rec_qaJ)
theorem qaJ_ok4 (rec_qaJ:qaJ_tr) (hrec_qaJ:qaJ_rec rec_qaJ):LoopR kk env0 Tryz.f44.ntmps qaJ_b4 (qaJ_lp4 rec_qaJ):=
  loopG (qaJ_i4 rec_qaJ) (qaJ_t4 rec_qaJ) (ko (known167 rec_qaJ hrec_qaJ)) (L:=jnL) (zaab (bs:=[]) (by kernel_rfl) trivial) (by kernel_rfl) (fun _=>by kernel_rfl) (zaaa _) (fun _=>by kernel_rfl)
def qaJ_L (rec_qaJ:qaJ_tr):Nat→Option (Lift.Loop U):=fun n=>bif Nat.beq n zaal then some zaaj else bif Nat.beq n 4 then some (qaJ_lp4 rec_qaJ) else none
def qaJ_md:Mode U:=qaJ_rmd qaJ
theorem qaJ_step (rec_qaJ:qaJ_tr) (hrec_qaJ:qaJ_rec rec_qaJ):zaap (Kit.withModes kk (zaac (ms167 rec_qaJ))) env0 Tryz.f44.ntmps (qaJ_L rec_qaJ) (zaae Tryz.f44):=zaab (bs:=[qaJ_b4]) (by kernel_rfl) ⟨.inr ⟨_,by kernel_rfl,zaai.of_round (qaJ_ok4 rec_qaJ hrec_qaJ)⟩,trivial⟩
theorem qaJ_post:zaad kk env0 44 (qaJ_rmd qaJ):=
  recG qaJ_i qaJ_f (by kernel_rfl) (fun _=>by kernel_rfl) (zaaa _) fun r ih=>fnG (fn:=Tryz.f44) (ko (known167 r ih)) (by kernel_rfl) (qaJ_step r ih) rfl (by kernel_rfl)
def ms168:List (FuncId×Mode U):=(44,qaJ_md)::ms166
theorem known168:Known kk env0 (zaac ms168):=known_cons (by kernel_rfl) qaJ_post known166
abbrev qaK_tr:Type:=curT U (sumT U [[.slc (.st 62)]]) [.slc (.st 62),.slc .str,.slc .str]
def qaK_rmd (rec_qaK:qaK_tr):Mode U:=mdG ⟨⟨[0,1,2],[],[]⟩,[.t (.slc (.st 62)),.t (.slc .str),.t (.slc .str)],[]⟩ [] [⟨⟨[0],[],[]⟩,[.t (.slc (.st 62))],[]⟩] [.slc (.st 62),.slc .str,.slc .str] [[.slc (.st 62)]] rec_qaK
abbrev qaK_rec (r:qaK_tr):Prop:=zaad kk env0 20 (qaK_rmd r)
def ms169 (rec_qaK:qaK_tr):List (FuncId×Mode U):=(20,(qaK_rmd rec_qaK))::ms168
theorem known169 (rec_qaK:qaK_tr) (hrec_qaK:qaK_rec rec_qaK):Known kk env0 (zaac (ms169 rec_qaK)):=known_cons (by kernel_rfl) hrec_qaK known168
def qaK_b3:Code:=(zaag (zaae Tryz.f20) 0)
def qaK_lp3 (rec_qaK:qaK_tr):Lift.Loop U:=lpG ⟨⟨[0,1,2,7,8],[],[⟨.slot 7,7,62,(.st 62)⟩]⟩,[.t (.slc (.st 62)),.t (.slc .str),.t (.slc .str),.oslc 7,.t (.int .i64)],[.row 62 (.st 62)]⟩ [⟨.exit 0,⟨⟨[7],[],[⟨.slot 7,7,62,(.st 62)⟩]⟩,[.oslc 7],[.row 62 (.st 62)]⟩⟩] [.slc (.st 62),.slc .str,.slc .str,.int .i64,.slc (.st 62)] [[.slc (.st 62)]] (qaK_l3 rec_qaK)
theorem qaK_ok3 (rec_qaK:qaK_tr) (hrec_qaK:qaK_rec rec_qaK):LoopR kk env0 Tryz.f20.ntmps qaK_b3 (qaK_lp3 rec_qaK):=
  loopG (qaK_i3 rec_qaK) (qaK_t3 rec_qaK) (ko (known169 rec_qaK hrec_qaK)) (L:=jnL) (zaab (bs:=[]) (by kernel_rfl) trivial) (by kernel_rfl) (fun _=>by kernel_rfl) (zaaa _) (fun _=>by kernel_rfl)
def qaK_L (rec_qaK:qaK_tr):Nat→Option (Lift.Loop U):=fun n=>bif Nat.beq n zaal then some zaaj else bif Nat.beq n 3 then some (qaK_lp3 rec_qaK) else none
def qaK_md:Mode U:=qaK_rmd qaK
theorem qaK_step (rec_qaK:qaK_tr) (hrec_qaK:qaK_rec rec_qaK):zaap (Kit.withModes kk (zaac (ms169 rec_qaK))) env0 Tryz.f20.ntmps (qaK_L rec_qaK) (zaae Tryz.f20):=zaab (bs:=[qaK_b3]) (by kernel_rfl) ⟨.inr ⟨_,by kernel_rfl,zaai.of_round (qaK_ok3 rec_qaK hrec_qaK)⟩,trivial⟩
theorem qaK_post:zaad kk env0 20 (qaK_rmd qaK):=
  recG qaK_i qaK_f (by kernel_rfl) (fun _=>by kernel_rfl) (zaaa _) fun r ih=>fnG (fn:=Tryz.f20) (ko (known169 r ih)) (by kernel_rfl) (qaK_step r ih) rfl (by kernel_rfl)
def ms170:List (FuncId×Mode U):=(20,qaK_md)::ms168
theorem known170:Known kk env0 (zaac ms170):=known_cons (by kernel_rfl) qaK_post known168
def qaF_b6:Code:=(zaag (zaae Tryz.f5) 0)
def qaF_lp6:Lift.Loop U:=lpG ⟨⟨[1,2,6,7],[2],[⟨.slot 6,6,9,.str⟩]⟩,[.t (.slc .str),.ptr 2 0,.oslc 6,.t (.int .i64)],[.blk 26 [.t (.slc (.st 48)),.t (.slc .str),.t (.slc (.st 51))],.row 9 .str]⟩ [⟨.ret,⟨⟨[4],[],[]⟩,[.t .bool],[]⟩⟩,⟨.exit 0,⟨⟨[1,2,6],[2],[⟨.slot 6,6,9,.str⟩]⟩,[.t (.slc .str),.ptr 2 0,.oslc 6],[.blk 26 [.t (.slc (.st 48)),.t (.slc .str),.t (.slc (.st 51))],.row 9 .str]⟩⟩] [.slc .str,.int .i64,.slc (.st 48),.slc .str,.slc (.st 51),.slc .str] [[.bool],[.slc .str,.slc (.st 48),.slc .str,.slc (.st 51),.slc .str]] qaF_l6
theorem qaF_ok6:LoopR kk env0 Tryz.f5.ntmps qaF_b6 qaF_lp6:=
  loopG qaF_i6 qaF_t6 (ko known170) (L:=jnL) (zaab (bs:=[]) (by kernel_rfl) trivial) (by kernel_rfl) (fun _=>by kernel_rfl) (zaaa _) (fun _=>by kernel_rfl)
def qaF_b13:Code:=(zaag (zaae Tryz.f5) 1)
def qaF_lp13:Lift.Loop U:=lpG ⟨⟨[1,2,6,9,10],[2,9],[⟨.slot 6,6,9,.str⟩,⟨.cell 9 0,20450,48,(.st 48)⟩]⟩,[.t (.slc .str),.ptr 2 0,.oslc 6,.ptr 9 0,.t (.int .i64)],[.blk 26 [.t (.slc (.st 48)),.t (.slc .str),.t (.slc (.st 51))],.blk 26 [.oslc 20450,.nil,.nil],.row 9 .str,.row 48 (.st 48)]⟩ [⟨.exit 2,⟨⟨[1,2,6,9],[2,9],[⟨.slot 6,6,9,.str⟩,⟨.cell 9 0,20450,48,(.st 48)⟩]⟩,[.t (.slc .str),.ptr 2 0,.oslc 6,.ptr 9 0],[.blk 26 [.t (.slc (.st 48)),.t (.slc .str),.t (.slc (.st 51))],.blk 26 [.oslc 20450,.nil,.nil],.row 9 .str,.row 48 (.st 48)]⟩⟩] [.slc .str,.int .i64,.slc (.st 48),.slc .str,.slc (.st 51),.slc .str,.slc (.st 48)] [[.slc .str,.slc (.st 48),.slc .str,.slc (.st 51),.slc .str,.slc (.st 48)]] qaF_l13
theorem qaF_ok13:LoopR kk env0 Tryz.f5.ntmps qaF_b13 qaF_lp13:=
  loopG qaF_i13 qaF_t13 (ko known170) (L:=jnL) (zaab (bs:=[]) (by kernel_rfl) trivial) (by kernel_rfl) (fun _=>by kernel_rfl) (zaaa _) (fun _=>by kernel_rfl)
def qaF_b18:Code:=(zaag (zaae Tryz.f5) 2)
def qaF_lp18:Lift.Loop U:=lpG ⟨⟨[1,2,6,9,12],[2,9],[⟨.slot 6,6,9,.str⟩,⟨.cell 9 0,20450,48,(.st 48)⟩,⟨.cell 9 1,20451,9,.str⟩]⟩,[.t (.slc .str),.ptr 2 0,.oslc 6,.ptr 9 0,.t (.int .i64)],[.blk 26 [.t (.slc (.st 48)),.t (.slc .str),.t (.slc (.st 51))],.blk 26 [.oslc 20450,.oslc 20451,.nil],.row 9 .str,.row 48 (.st 48),.row 9 .str]⟩ [⟨.exit 4,⟨⟨[1,2,6,9],[2,9],[⟨.slot 6,6,9,.str⟩,⟨.cell 9 0,20450,48,(.st 48)⟩,⟨.cell 9 1,20451,9,.str⟩]⟩,[.t (.slc .str),.ptr 2 0,.oslc 6,.ptr 9 0],[.blk 26 [.t (.slc (.st 48)),.t (.slc .str),.t (.slc (.st 51))],.blk 26 [.oslc 20450,.oslc 20451,.nil],.row 9 .str,.row 48 (.st 48),.row 9 .str]⟩⟩] [.slc .str,.int .i64,.slc (.st 48),.slc .str,.slc (.st 51),.slc .str,.slc (.st 48),.slc .str] [[.slc .str,.slc (.st 48),.slc .str,.slc (.st 51),.slc .str,.slc (.st 48),.slc .str]] qaF_l18
theorem qaF_ok18:LoopR kk env0 Tryz.f5.ntmps qaF_b18 qaF_lp18:=
  loopG qaF_i18 qaF_t18 (ko known170) (L:=jnL) (zaab (bs:=[]) (by kernel_rfl) trivial) (by kernel_rfl) (fun _=>by kernel_rfl) (zaaa _) (fun _=>by kernel_rfl)
def qaF_b23:Code:=(zaag (zaae Tryz.f5) 3)
def qaF_lp23:Lift.Loop U:=lpG ⟨⟨[1,2,6,9,14],[2,9],[⟨.cell 9 0,20450,48,(.st 48)⟩,⟨.cell 9 1,20451,9,.str⟩,⟨.cell 9 2,20452,51,(.st 51)⟩]⟩,[.t (.slc .str),.ptr 2 0,.t (.slc .str),.ptr 9 0,.t (.int .i64)],[.blk 26 [.t (.slc (.st 48)),.t (.slc .str),.t (.slc (.st 51))],.blk 26 [.oslc 20450,.oslc 20451,.oslc 20452],.row 48 (.st 48),.row 9 .str,.row 51 (.st 51)]⟩ [⟨.exit 6,⟨⟨[1,2,6,9],[2,9],[⟨.cell 9 0,20450,48,(.st 48)⟩,⟨.cell 9 1,20451,9,.str⟩,⟨.cell 9 2,20452,51,(.st 51)⟩]⟩,[.t (.slc .str),.ptr 2 0,.t (.slc .str),.ptr 9 0],[.blk 26 [.t (.slc (.st 48)),.t (.slc .str),.t (.slc (.st 51))],.blk 26 [.oslc 20450,.oslc 20451,.oslc 20452],.row 48 (.st 48),.row 9 .str,.row 51 (.st 51)]⟩⟩] [.slc .str,.slc .str,.int .i64,.slc (.st 48),.slc .str,.slc (.st 51),.slc (.st 48),.slc .str,.slc (.st 51)] [[.slc .str,.slc .str,.slc (.st 48),.slc .str,.slc (.st 51),.slc (.st 48),.slc .str,.slc (.st 51)]] qaF_l23
theorem qaF_ok23:LoopR kk env0 Tryz.f5.ntmps qaF_b23 qaF_lp23:=
  loopG qaF_i23 qaF_t23 (ko known170) (L:=jnL) (zaab (bs:=[]) (by kernel_rfl) trivial) (by kernel_rfl) (fun _=>by kernel_rfl) (zaaa _) (fun _=>by kernel_rfl)
def qaF_L:Nat→Option (Lift.Loop U):=fun n=>bif Nat.beq n zaal then some zaaj else bif Nat.beq n 6 then some qaF_lp6 else bif Nat.beq n 13 then some qaF_lp13 else bif Nat.beq n 18 then some qaF_lp18 else bif Nat.beq n 23 then some qaF_lp23 else none
def qaF_md:Mode U:=mdG ⟨⟨[0,1],[],[]⟩,[.t (.st 26),.t (.slc .str)],[]⟩ [] [⟨⟨[0],[],[]⟩,[.t .bool],[]⟩] [.st 26,.slc .str] [[.bool]] qaF
theorem qaF_post:zaad kk env0 5 qaF_md:=
  fnG (fn:=Tryz.f5) (ko known170) (by kernel_rfl) (L:=qaF_L) (zaab (bs:=[qaF_b6,qaF_b13,qaF_b18,qaF_b23]) (by kernel_rfl) ⟨.inr ⟨_,by kernel_rfl,zaai.of_round (qaF_ok6)⟩,.inr ⟨_,by kernel_rfl,zaai.of_round (qaF_ok13)⟩,.inr ⟨_,by kernel_rfl,zaai.of_round (qaF_ok18)⟩,.inr ⟨_,by kernel_rfl,zaai.of_round (qaF_ok23)⟩,trivial⟩) (zaaa _) (by kernel_rfl)
end
end Lift.J6
