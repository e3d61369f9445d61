/-
  DERIVED. Each function of this seat computes its Lean function. Conditions: as each theorem says.
-/
import Derived.Test.YtnjaffjkdeelhaaGreatDoorDefs
set_option linter.unusedVariables false
set_option linter.unusedSimpArgs false
set_option linter.unusedSectionVars false
namespace Lift.J6
noncomputable section
open Go Go.RowKit Go.Proofs Lift Lift.Fn
theorem ko {ms:List (FuncId×Mode U)} (h:Known kk env0 (zaac ms)):KitOk (Kit.withModes kk (zaac ms)) env0:=zau8 eqOk mixed h
def qba_md:Mode U:=mdG ⟨⟨[0],[],[]⟩,[.t (.int .i32)],[]⟩ [] [⟨⟨[0],[],[]⟩,[.t (.int .i64)],[]⟩] [.int .i32] [[.int .i64]] qba
theorem qba_post:zaad kk env0 129 qba_md:=
  fnG (fn:=Tryz.f129) (ko known5) (by kernel_rfl) (L:=noL) (zaab (bs:=[]) (by kernel_rfl) trivial) (zaaa _) (by kernel_rfl)
def ms6:List (FuncId×Mode U):=(129,qba_md)::ms5
theorem known6:Known kk env0 (zaac ms6):=known_cons (by kernel_rfl) qba_post known5
def qaP_b4:Code:=(zaaj (zaag Tryz.f114) 0)
def qaP_lp4:Lift.Loop U:=lpG ⟨⟨[0,3,4,5,10],[3,5,10],[⟨.slot 4,4,146,(.st 146)⟩]⟩,[.t .str,.ptr 3 0,.oslc 4,.ptr 5 0,.ptr 10 0],[.blk 146 [.t (.int .i64),.t (.int .i64),.t (.int .i64),.t (.int .i64)],.blk 146 [.t (.int .i64),.t (.int .i64),.t (.int .i64),.t (.int .i64)],.sit,.row 146 (.st 146)]⟩ [⟨.ret,⟨⟨[2,3],[3],[⟨.slot 2,2,146,(.st 146)⟩]⟩,[.oslc 2,.ptr 3 0],[.blk 146 [.t (.int .i64),.t (.int .i64),.t (.int .i64),.t (.int .i64)],.row 146 (.st 146)]⟩⟩,⟨.exit 0,⟨⟨[3,4,5],[3,5],[⟨.slot 4,4,146,(.st 146)⟩]⟩,[.ptr 3 0,.oslc 4,.ptr 5 0],[.blk 146 [.t (.int .i64),.t (.int .i64),.t (.int .i64),.t (.int .i64)],.blk 146 [.t (.int .i64),.t (.int .i64),.t (.int .i64),.t (.int .i64)],.row 146 (.st 146)]⟩⟩] [.str,.int .i64,.int .i64,.int .i64,.int .i64,.int .i64,.int .i64,.int .i64,.int .i64,.str,.fn,.slc (.st 146)] [[.int .i64,.int .i64,.int .i64,.int .i64,.slc (.st 146)],[.int .i64,.int .i64,.int .i64,.int .i64,.int .i64,.int .i64,.int .i64,.int .i64,.slc (.st 146)]] qaP_l4
theorem qaP_ok4:LoopR kk env0 Tryz.f114.ntmps qaP_b4 qaP_lp4:=
  loopG qaP_i4 qaP_t4 (ko known6) (L:=noL) (zaab (bs:=[]) (by kernel_rfl) trivial) (by kernel_rfl) (fun _=>by kernel_rfl) (zaaa _) (fun _=>by kernel_rfl)
def qaP_L:Nat→Option (Lift.Loop U):=fun n=>bif Nat.beq n 4 then some qaP_lp4 else none
def qaP_md:Mode U:=mdG ⟨⟨[0],[],[]⟩,[.t .str],[]⟩ [] [⟨⟨[0,1],[],[⟨.slot 0,100050,146,(.st 146)⟩]⟩,[.oslc 100050,.t (.st 146)],[.row 146 (.st 146)]⟩] [.str] [[.st 146,.slc (.st 146)]] qaP
theorem qaP_post:zaad kk env0 114 qaP_md:=
  fnG (fn:=Tryz.f114) (ko known6) (by kernel_rfl) (L:=qaP_L) (zaab (bs:=[qaP_b4]) (by kernel_rfl) ⟨.inr ⟨_,by kernel_rfl,zaam.of_round (qaP_ok4)⟩,trivial⟩) (zaaa _) (by kernel_rfl)
def ms7:List (FuncId×Mode U):=(114,qaP_md)::ms6
theorem known7:Known kk env0 (zaac ms7):=known_cons (by kernel_rfl) qaP_post known6
def qaO_md:Mode U:=mdG ⟨⟨[0],[],[]⟩,[.t .str],[]⟩ [] [⟨⟨[0,1],[],[⟨.slot 0,100050,146,(.st 146)⟩]⟩,[.oslc 100050,.t (.st 130)],[.row 146 (.st 146)]⟩] [.str] [[.st 130,.slc (.st 146)]] qaO
theorem qaO_post:zaad kk env0 102 qaO_md:=
  fnG (fn:=Tryz.f102) (ko known7) (by kernel_rfl) (L:=noL) (zaab (bs:=[]) (by kernel_rfl) trivial) (zaaa _) (by kernel_rfl)
def ms8:List (FuncId×Mode U):=(102,qaO_md)::ms7
theorem known8:Known kk env0 (zaac ms8):=known_cons (by kernel_rfl) qaO_post known7
def qaL_md:Mode U:=mdG ⟨⟨[0],[],[]⟩,[.t (.int .i64)],[]⟩ [] [⟨⟨[0],[],[]⟩,[.t .bool],[]⟩] [.int .i64] [[.bool]] qaL
theorem qaL_post:zaad kk env0 115 qaL_md:=
  fnG (fn:=Tryz.f115) (ko known8) (by kernel_rfl) (L:=noL) (zaab (bs:=[]) (by kernel_rfl) trivial) (zaaa _) (by kernel_rfl)
def ms9:List (FuncId×Mode U):=(115,qaL_md)::ms8
theorem known9:Known kk env0 (zaac ms9):=known_cons (by kernel_rfl) qaL_post known8
def qaC_b3:Code:=(zaaj (zaag Tryz.f103) 0)
def qaC_lp3:Lift.Loop U:=lpG ⟨⟨[0,3,7],[7],[]⟩,[.t .str,.t .bool,.ptr 7 0],[.sit]⟩ [⟨.ret,⟨⟨[2],[],[]⟩,[.t (.int .i64)],[]⟩⟩,⟨.exit 0,⟨⟨[0],[],[]⟩,[.t .str],[]⟩⟩] [.str,.bool,.str,.fn] [[.int .i64],[.str]] qaC_l3
theorem qaC_ok3:LoopR kk env0 Tryz.f103.ntmps qaC_b3 qaC_lp3:=
  loopG qaC_i3 qaC_t3 (ko known9) (L:=noL) (zaab (bs:=[]) (by kernel_rfl) trivial) (by kernel_rfl) (fun _=>by kernel_rfl) (zaaa _) (fun _=>by kernel_rfl)
def qaC_L:Nat→Option (Lift.Loop U):=fun n=>bif Nat.beq n 3 then some qaC_lp3 else none
def qaC_md:Mode U:=mdG ⟨⟨[0],[],[]⟩,[.t .str],[]⟩ [] [⟨⟨[0],[],[]⟩,[.t (.int .i64)],[]⟩] [.str] [[.int .i64]] qaC
theorem qaC_post:zaad kk env0 103 qaC_md:=
  fnG (fn:=Tryz.f103) (ko known9) (by kernel_rfl) (L:=qaC_L) (zaab (bs:=[qaC_b3]) (by kernel_rfl) ⟨.inr ⟨_,by kernel_rfl,zaam.of_round (qaC_ok3)⟩,trivial⟩) (zaaa _) (by kernel_rfl)
def ms10:List (FuncId×Mode U):=(103,qaC_md)::ms9
theorem known10:Known kk env0 (zaac ms10):=known_cons (by kernel_rfl) qaC_post known9
def qbb_md:Mode U:=mdG ⟨⟨[0],[],[]⟩,[.t (.int .i32)],[]⟩ [] [⟨⟨[0],[],[]⟩,[.t .bool],[]⟩] [.int .i32] [[.bool]] qbb
theorem qbb_post:zaad kk env0 147 qbb_md:=
  fnG (fn:=Tryz.f147) (ko known10) (by kernel_rfl) (L:=noL) (zaab (bs:=[]) (by kernel_rfl) trivial) (zaaa _) (by kernel_rfl)
def ms11:List (FuncId×Mode U):=(147,qbb_md)::ms10
theorem known11:Known kk env0 (zaac ms11):=known_cons (by kernel_rfl) qbb_post known10
def qaQ_md:Mode U:=mdG ⟨⟨[0],[],[]⟩,[.t (.int .i64)],[]⟩ [] [⟨⟨[0],[],[]⟩,[.t .bool],[]⟩] [.int .i64] [[.bool]] qaQ
theorem qaQ_post:zaad kk env0 136 qaQ_md:=
  fnG (fn:=Tryz.f136) (ko known11) (by kernel_rfl) (L:=noL) (zaab (bs:=[]) (by kernel_rfl) trivial) (zaaa _) (by kernel_rfl)
def ms12:List (FuncId×Mode U):=(136,qaQ_md)::ms11
theorem known12:Known kk env0 (zaac ms12):=known_cons (by kernel_rfl) qaQ_post known11
def qaN_md:Mode U:=mdG ⟨⟨[0],[],[]⟩,[.t (.int .i64)],[]⟩ [] [⟨⟨[0],[],[]⟩,[.t .bool],[]⟩] [.int .i64] [[.bool]] qaN
theorem qaN_post:zaad kk env0 131 qaN_md:=
  fnG (fn:=Tryz.f131) (ko known12) (by kernel_rfl) (L:=noL) (zaab (bs:=[]) (by kernel_rfl) trivial) (zaaa _) (by kernel_rfl)
def ms13:List (FuncId×Mode U):=(131,qaN_md)::ms12
theorem known13:Known kk env0 (zaac ms13):=known_cons (by kernel_rfl) qaN_post known12
def qaM_md:Mode U:=mdG ⟨⟨[0],[],[]⟩,[.t (.int .i64)],[]⟩ [] [⟨⟨[0],[],[]⟩,[.t .bool],[]⟩] [.int .i64] [[.bool]] qaM
theorem qaM_post:zaad kk env0 120 qaM_md:=
  fnG (fn:=Tryz.f120) (ko known13) (by kernel_rfl) (L:=noL) (zaab (bs:=[]) (by kernel_rfl) trivial) (zaaa _) (by kernel_rfl)
def ms14:List (FuncId×Mode U):=(120,qaM_md)::ms13
theorem known14:Known kk env0 (zaac ms14):=known_cons (by kernel_rfl) qaM_post known13
def qaA_md:Mode U:=mdG ⟨⟨[0],[],[]⟩,[.t (.int .i32)],[]⟩ [] [⟨⟨[0],[],[]⟩,[.t .bool],[]⟩] [.int .i32] [[.bool]] qaA
theorem qaA_post:zaad kk env0 117 qaA_md:=
  fnG (fn:=Tryz.f117) (ko known14) (by kernel_rfl) (L:=noL) (zaab (bs:=[]) (by kernel_rfl) trivial) (zaaa _) (by kernel_rfl)
def ms15:List (FuncId×Mode U):=(117,qaA_md)::ms14
theorem known15:Known kk env0 (zaac ms15):=known_cons (by kernel_rfl) qaA_post known14
def qaU_b2:Code:=(zaaj (zaag Tryz.f83) 0)
def qaU_lp2:Lift.Loop U:=lpG ⟨⟨[0,1,7,8],[],[]⟩,[.t (.slc .str),.t .str,.t (.int .i64),.t (.int .i64)],[]⟩ [⟨.ret,⟨⟨[4],[],[]⟩,[.t (.int .i64)],[]⟩⟩,⟨.exit 0,⟨⟨[],[],[]⟩,[],[]⟩⟩] [.slc .str,.str,.int .i64,.int .i64] [[.int .i64],[]] qaU_l2
theorem qaU_ok2:LoopR kk env0 Tryz.f83.ntmps qaU_b2 qaU_lp2:=
  loopG qaU_i2 qaU_t2 (ko known15) (L:=noL) (zaab (bs:=[]) (by kernel_rfl) trivial) (by kernel_rfl) (fun _=>by kernel_rfl) (zaaa _) (fun _=>by kernel_rfl)
def qaU_L:Nat→Option (Lift.Loop U):=fun n=>bif Nat.beq n 2 then some qaU_lp2 else none
def qaU_md:Mode U:=mdG ⟨⟨[0,1],[],[]⟩,[.t (.slc .str),.t .str],[]⟩ [] [⟨⟨[0],[],[]⟩,[.t (.int .i64)],[]⟩] [.slc .str,.str] [[.int .i64]] qaU
theorem qaU_post:zaad kk env0 83 qaU_md:=
  fnG (fn:=Tryz.f83) (ko known15) (by kernel_rfl) (L:=qaU_L) (zaab (bs:=[qaU_b2]) (by kernel_rfl) ⟨.inr ⟨_,by kernel_rfl,zaam.of_round (qaU_ok2)⟩,trivial⟩) (zaaa _) (by kernel_rfl)
def ms16:List (FuncId×Mode U):=(83,qaU_md)::ms15
theorem known16:Known kk env0 (zaac ms16):=known_cons (by kernel_rfl) qaU_post known15
def qaT_md:Mode U:=mdG ⟨⟨[0,1],[],[]⟩,[.t (.slc .str),.t .str],[]⟩ [] [⟨⟨[0],[],[]⟩,[.t .bool],[]⟩] [.slc .str,.str] [[.bool]] qaT
theorem qaT_post:zaad kk env0 122 qaT_md:=
  fnG (fn:=Tryz.f122) (ko known16) (by kernel_rfl) (L:=noL) (zaab (bs:=[]) (by kernel_rfl) trivial) (zaaa _) (by kernel_rfl)
def ms17:List (FuncId×Mode U):=(122,qaT_md)::ms16
theorem known17:Known kk env0 (zaac ms17):=known_cons (by kernel_rfl) qaT_post known16
def qaD_md:Mode U:=mdG ⟨⟨[0],[],[]⟩,[.t .str],[]⟩ [] [⟨⟨[0],[],[]⟩,[.t .str],[]⟩] [.str] [[.str]] qaD
theorem qaD_post:zaad kk env0 118 qaD_md:=
  fnG (fn:=Tryz.f118) (ko known17) (by kernel_rfl) (L:=noL) (zaab (bs:=[]) (by kernel_rfl) trivial) (zaaa _) (by kernel_rfl)
def ms18:List (FuncId×Mode U):=(118,qaD_md)::ms17
theorem known18:Known kk env0 (zaac ms18):=known_cons (by kernel_rfl) qaD_post known17
def qaF_b2:Code:=(zaaj (zaag Tryz.f119) 0)
def qaF_lp2:Lift.Loop U:=lpG ⟨⟨[0,6],[6],[]⟩,[.t .str,.ptr 6 0],[.sit]⟩ [⟨.ret,⟨⟨[2],[],[]⟩,[.t .str],[]⟩⟩,⟨.exit 0,⟨⟨[0],[],[]⟩,[.t .str],[]⟩⟩] [.str,.str,.fn] [[.str],[.str]] qaF_l2
theorem qaF_ok2:LoopR kk env0 Tryz.f119.ntmps qaF_b2 qaF_lp2:=
  loopG qaF_i2 qaF_t2 (ko known18) (L:=noL) (zaab (bs:=[]) (by kernel_rfl) trivial) (by kernel_rfl) (fun _=>by kernel_rfl) (zaaa _) (fun _=>by kernel_rfl)
def qaF_L:Nat→Option (Lift.Loop U):=fun n=>bif Nat.beq n 2 then some qaF_lp2 else none
def qaF_md:Mode U:=mdG ⟨⟨[0],[],[]⟩,[.t .str],[]⟩ [] [⟨⟨[0],[],[]⟩,[.t .str],[]⟩] [.str] [[.str]] qaF
theorem qaF_post:zaad kk env0 119 qaF_md:=
  fnG (fn:=Tryz.f119) (ko known18) (by kernel_rfl) (L:=qaF_L) (zaab (bs:=[qaF_b2]) (by kernel_rfl) ⟨.inr ⟨_,by kernel_rfl,zaam.of_round (qaF_ok2)⟩,trivial⟩) (zaaa _) (by kernel_rfl)
def ms19:List (FuncId×Mode U):=(119,qaF_md)::ms18
theorem known19:Known kk env0 (zaac ms19):=known_cons (by kernel_rfl) qaF_post known18
def qaB_md:Mode U:=mdG ⟨⟨[0],[],[]⟩,[.t .str],[]⟩ [] [⟨⟨[0,1],[],[]⟩,[.t (.int .i64),.t .bool],[]⟩] [.str] [[.int .i64,.bool]] qaB
theorem qaB_post:zaad kk env0 121 qaB_md:=
  fnG (fn:=Tryz.f121) (ko known19) (by kernel_rfl) (L:=noL) (zaab (bs:=[]) (by kernel_rfl) trivial) (zaaa _) (by kernel_rfl)
def ms20:List (FuncId×Mode U):=(121,qaB_md)::ms19
theorem known20:Known kk env0 (zaac ms20):=known_cons (by kernel_rfl) qaB_post known19
def qaz_md:Mode U:=mdG ⟨⟨[],[],[]⟩,[],[]⟩ [] [⟨⟨[0],[],[⟨.slot 0,100050,9,.str⟩]⟩,[.oslc 100050],[.row 9 .str]⟩] [] [[.slc .str]] qaz
theorem qaz_post:zaad kk env0 123 qaz_md:=
  fnG (fn:=Tryz.f123) (ko known20) (by kernel_rfl) (L:=noL) (zaab (bs:=[]) (by kernel_rfl) trivial) (zaaa _) (by kernel_rfl)
def ms21:List (FuncId×Mode U):=(123,qaz_md)::ms20
theorem known21:Known kk env0 (zaac ms21):=known_cons (by kernel_rfl) qaz_post known20
def qaE_md:Mode U:=mdG ⟨⟨[0],[],[]⟩,[.t .str],[]⟩ [] [⟨⟨[0,1],[],[]⟩,[.t (.st 134),.t (.int .i64)],[]⟩] [.str] [[.st 134,.int .i64]] qaE
theorem qaE_post:zaad kk env0 104 qaE_md:=
  fnG (fn:=Tryz.f104) (ko known21) (by kernel_rfl) (L:=noL) (zaab (bs:=[]) (by kernel_rfl) trivial) (zaaa _) (by kernel_rfl)
def ms22:List (FuncId×Mode U):=(104,qaE_md)::ms21
theorem known22:Known kk env0 (zaac ms22):=known_cons (by kernel_rfl) qaE_post known21
def qay_b6:Code:=(zaaj (zaag Tryz.f94) 0)
def qay_lp6:Lift.Loop U:=lpG ⟨⟨[0,3,6,7],[3],[⟨.slot 6,6,134,(.st 134)⟩]⟩,[.t .str,.ptr 3 0,.oslc 6,.t (.int .i64)],[.blk 130 [.t (.int .i64),.t (.int .i64),.t .str],.row 134 (.st 134)]⟩ [⟨.ret,⟨⟨[2,3],[3],[]⟩,[.nil,.ptr 3 0],[.blk 130 [.t (.int .i64),.t (.int .i64),.t .str]]⟩⟩,⟨.exit 0,⟨⟨[0,3,6],[3],[⟨.slot 6,6,134,(.st 134)⟩]⟩,[.t .str,.ptr 3 0,.oslc 6],[.blk 130 [.t (.int .i64),.t (.int .i64),.t .str],.row 134 (.st 134)]⟩⟩] [.str,.int .i64,.int .i64,.int .i64,.str,.slc (.st 134)] [[.int .i64,.int .i64,.str],[.str,.int .i64,.int .i64,.str,.slc (.st 134)]] qay_l6
theorem qay_ok6:LoopR kk env0 Tryz.f94.ntmps qay_b6 qay_lp6:=
  loopG qay_i6 qay_t6 (ko known22) (L:=noL) (zaab (bs:=[]) (by kernel_rfl) trivial) (by kernel_rfl) (fun _=>by kernel_rfl) (zaaa _) (fun _=>by kernel_rfl)
def qay_L:Nat→Option (Lift.Loop U):=fun n=>bif Nat.beq n 6 then some qay_lp6 else none
def qay_md:Mode U:=mdG ⟨⟨[0],[],[]⟩,[.t .str],[]⟩ [] [⟨⟨[0,1],[],[⟨.slot 0,100050,134,(.st 134)⟩]⟩,[.oslc 100050,.t (.st 130)],[.row 134 (.st 134)]⟩] [.str] [[.st 130,.slc (.st 134)]] qay
theorem qay_post:zaad kk env0 94 qay_md:=
  fnG (fn:=Tryz.f94) (ko known22) (by kernel_rfl) (L:=qay_L) (zaab (bs:=[qay_b6]) (by kernel_rfl) ⟨.inr ⟨_,by kernel_rfl,zaam.of_round (qay_ok6)⟩,trivial⟩) (zaaa _) (by kernel_rfl)
def ms23:List (FuncId×Mode U):=(94,qay_md)::ms22
theorem known23:Known kk env0 (zaac ms23):=known_cons (by kernel_rfl) qay_post known22
def qa7_md:Mode U:=mdG ⟨⟨[0],[],[]⟩,[.t .str],[]⟩ [] [⟨⟨[0],[],[]⟩,[.t .bool],[]⟩] [.str] [[.bool]] qa7
theorem qa7_post:zaad kk env0 73 qa7_md:=
  fnG (fn:=Tryz.f73) (ko known23) (by kernel_rfl) (L:=jnL) (zaab (bs:=[]) (by kernel_rfl) trivial) (zaaa _) (by kernel_rfl)
def ms24:List (FuncId×Mode U):=(73,qa7_md)::ms23
theorem known24:Known kk env0 (zaac ms24):=known_cons (by kernel_rfl) qa7_post known23
def qa8_md:Mode U:=mdG ⟨⟨[],[],[]⟩,[],[]⟩ [] [⟨⟨[0],[],[]⟩,[.t (.map (.int .i64) (.st 136))],[]⟩] [] [[.map (.int .i64) (.st 136)]] qa8
theorem qa8_post:zaad kk env0 95 qa8_md:=
  fnG (fn:=Tryz.f95) (ko known24) (by kernel_rfl) (L:=jnL) (zaab (bs:=[]) (by kernel_rfl) trivial) (zaaa _) (by kernel_rfl)
def ms25:List (FuncId×Mode U):=(95,qa8_md)::ms24
theorem known25:Known kk env0 (zaac ms25):=known_cons (by kernel_rfl) qa8_post known24
def qa6_md:Mode U:=mdG ⟨⟨[0,1],[],[]⟩,[.t .str,.t .bool],[]⟩ [] [⟨⟨[0],[],[]⟩,[.t .bool],[]⟩] [.str,.bool] [[.bool]] qa6
theorem qa6_post:zaad kk env0 96 qa6_md:=
  fnG (fn:=Tryz.f96) (ko known25) (by kernel_rfl) (L:=jnL) (zaab (bs:=[]) (by kernel_rfl) trivial) (zaaa _) (by kernel_rfl)
def ms26:List (FuncId×Mode U):=(96,qa6_md)::ms25
theorem known26:Known kk env0 (zaac ms26):=known_cons (by kernel_rfl) qa6_post known25
def qa9_md:Mode U:=mdG ⟨⟨[0],[],[]⟩,[.t (.st 62)],[]⟩ [] [⟨⟨[0],[],[]⟩,[.t .bool],[]⟩] [.st 62] [[.bool]] qa9
theorem qa9_post:zaad kk env0 75 qa9_md:=
  fnG (fn:=Tryz.f75) (ko known26) (by kernel_rfl) (L:=jnL) (zaab (bs:=[]) (by kernel_rfl) trivial) (zaaa _) (by kernel_rfl)
def ms27:List (FuncId×Mode U):=(75,qa9_md)::ms26
theorem known27:Known kk env0 (zaac ms27):=known_cons (by kernel_rfl) qa9_post known26
def qa4_md:Mode U:=mdG ⟨⟨[0,1,2],[100000],[]⟩,[.t (.st 62),.t (.int .i64),.ptr 100000 0],[.blk 4 [.t .bool]]⟩ [⟨100000,.slot 2,[]⟩] [⟨⟨[],[100000],[]⟩,[],[.blk 4 [.t .bool]]⟩] [.st 62,.int .i64,.bool] [[.bool]] qa4
theorem qa4_post:zaad kk env0 74 qa4_md:=
  fnG (fn:=Tryz.f74) (ko known27) (by kernel_rfl) (L:=jnL) (zaab (bs:=[]) (by kernel_rfl) trivial) (zaaa _) (by kernel_rfl)
def ms28:List (FuncId×Mode U):=(74,qa4_md)::ms27
theorem known28:Known kk env0 (zaac ms28):=known_cons (by kernel_rfl) qa4_post known27
def qa2_md:Mode U:=mdG ⟨⟨[0],[],[]⟩,[.t (.st 60)],[]⟩ [] [⟨⟨[0],[],[]⟩,[.t .bool],[]⟩] [.st 60] [[.bool]] qa2
theorem qa2_post:zaad kk env0 77 qa2_md:=
  fnG (fn:=Tryz.f77) (ko known28) (by kernel_rfl) (L:=jnL) (zaab (bs:=[]) (by kernel_rfl) trivial) (zaaa _) (by kernel_rfl)
def ms29:List (FuncId×Mode U):=(77,qa2_md)::ms28
theorem known29:Known kk env0 (zaac ms29):=known_cons (by kernel_rfl) qa2_post known28
def qa5_md:Mode U:=mdG ⟨⟨[0,1,2],[100000],[]⟩,[.t (.st 60),.t (.int .i64),.ptr 100000 0],[.blk 4 [.t .bool]]⟩ [⟨100000,.slot 2,[]⟩] [⟨⟨[],[100000],[]⟩,[],[.blk 4 [.t .bool]]⟩] [.st 60,.int .i64,.bool] [[.bool]] qa5
theorem qa5_post:zaad kk env0 76 qa5_md:=
  fnG (fn:=Tryz.f76) (ko known29) (by kernel_rfl) (L:=jnL) (zaab (bs:=[]) (by kernel_rfl) trivial) (zaaa _) (by kernel_rfl)
def ms30:List (FuncId×Mode U):=(76,qa5_md)::ms29
theorem known30:Known kk env0 (zaac ms30):=known_cons (by kernel_rfl) qa5_post known29
abbrev qac_tr:Type:=curT U (sumT U [[.bool]]) [.st 60,.int .i64,.bool]
def qac_rmd (rec_qac:qac_tr):Mode U:=mdG ⟨⟨[0,1,2],[100000],[]⟩,[.agg [.clo 74 [.ptr 100000 0],.clo 76 [.ptr 100000 0]],.t (.st 60),.t (.int .i64)],[.blk 4 [.t .bool]]⟩ [⟨100000,.slot 0,[0,0]⟩] [⟨⟨[],[100000],[]⟩,[],[.blk 4 [.t .bool]]⟩] [.st 60,.int .i64,.bool] [[.bool]] rec_qac
abbrev qac_rec (r:qac_tr):Prop:=zaad kk env0 105 (qac_rmd r)
def ms31 (rec_qac:qac_tr):List (FuncId×Mode U):=(105,(qac_rmd rec_qac))::ms30
theorem known31 (rec_qac:qac_tr) (hrec_qac:qac_rec rec_qac):Known kk env0 (zaac (ms31 rec_qac)):=known_cons (by kernel_rfl) hrec_qac known30
def qac_b3:Code:=(zaaj (zaag Tryz.f105) 0)
def qac_lp3 (rec_qac:qac_tr):Lift.Loop U:=lpG ⟨⟨[2,3,14,15,16],[100000,3],[]⟩,[.t (.int .i64),.ptr 3 0,.t (.slc (.st 60)),.t (.int .i64),.t (.int .i64)],[.blk 4 [.t .bool],.blk 122 [.clo 74 [.ptr 100000 0],.clo 76 [.ptr 100000 0]]]⟩ [⟨.exit 0,⟨⟨[],[100000],[]⟩,[],[.blk 4 [.t .bool]]⟩⟩] [.int .i64,.slc (.st 60),.int .i64,.int .i64,.bool] [[.bool]] (qac_l3 rec_qac)
theorem qac_ok3 (rec_qac:qac_tr) (hrec_qac:qac_rec rec_qac):LoopR kk env0 Tryz.f105.ntmps qac_b3 (qac_lp3 rec_qac):=
  loopG (qac_i3 rec_qac) (qac_t3 rec_qac) (ko (known31 rec_qac hrec_qac)) (L:=jnL) (zaab (bs:=[]) (by kernel_rfl) trivial) (by kernel_rfl) (fun _=>by kernel_rfl) (zaaa _) (fun _=>by kernel_rfl)
def qac_L (rec_qac:qac_tr):Nat→Option (Lift.Loop U):=fun n=>bif Nat.beq n zaav then some zaas else bif Nat.beq n 3 then some (qac_lp3 rec_qac) else none
def qac_md:Mode U:=qac_rmd qac
theorem qac_step (rec_qac:qac_tr) (hrec_qac:qac_rec rec_qac):zaat (Kit.withModes kk (zaac (ms31 rec_qac))) env0 Tryz.f105.ntmps (qac_L rec_qac) (zaag Tryz.f105):=zaab (bs:=[qac_b3]) (by kernel_rfl) ⟨.inr ⟨_,by kernel_rfl,zaam.of_round (qac_ok3 rec_qac hrec_qac)⟩,trivial⟩
theorem qac_post:zaad kk env0 105 (qac_rmd qac):=
  recG qac_i qac_f (by kernel_rfl) (fun _=>by kernel_rfl) (zaaa _) fun r ih=>fnG (fn:=Tryz.f105) (ko (known31 r ih)) (by kernel_rfl) (qac_step r ih) rfl (by kernel_rfl)
def ms32:List (FuncId×Mode U):=(105,qac_md)::ms30
theorem known32:Known kk env0 (zaac ms32):=known_cons (by kernel_rfl) qac_post known30
abbrev qai_tr:Type:=curT U (sumT U [[.bool]]) [.slc (.st 62),.int .i64,.bool]
def qai_rmd (rec_qai:qai_tr):Mode U:=mdG ⟨⟨[0,1,2],[100000],[]⟩,[.agg [.clo 74 [.ptr 100000 0],.clo 76 [.ptr 100000 0]],.t (.slc (.st 62)),.t (.int .i64)],[.blk 4 [.t .bool]]⟩ [⟨100000,.slot 0,[0,0]⟩] [⟨⟨[],[100000],[]⟩,[],[.blk 4 [.t .bool]]⟩] [.slc (.st 62),.int .i64,.bool] [[.bool]] rec_qai
abbrev qai_rec (r:qai_tr):Prop:=zaad kk env0 97 (qai_rmd r)
def ms33 (rec_qai:qai_tr):List (FuncId×Mode U):=(97,(qai_rmd rec_qai))::ms32
theorem known33 (rec_qai:qai_tr) (hrec_qai:qai_rec rec_qai):Known kk env0 (zaac (ms33 rec_qai)):=known_cons (by kernel_rfl) hrec_qai known32
def qai_b2:Code:=(zaaj (zaag Tryz.f97) 0)
def qai_lp2 (rec_qai:qai_tr):Lift.Loop U:=lpG ⟨⟨[2,3,8,9,10],[100000,3],[]⟩,[.t (.int .i64),.ptr 3 0,.t (.slc (.st 62)),.t (.int .i64),.t (.int .i64)],[.blk 4 [.t .bool],.blk 122 [.clo 74 [.ptr 100000 0],.clo 76 [.ptr 100000 0]]]⟩ [⟨.exit 0,⟨⟨[],[100000],[]⟩,[],[.blk 4 [.t .bool]]⟩⟩] [.int .i64,.slc (.st 62),.int .i64,.int .i64,.bool] [[.bool]] (qai_l2 rec_qai)
theorem qai_ok2 (rec_qai:qai_tr) (hrec_qai:qai_rec rec_qai):LoopR kk env0 Tryz.f97.ntmps qai_b2 (qai_lp2 rec_qai):=
  loopG (qai_i2 rec_qai) (qai_t2 rec_qai) (ko (known33 rec_qai hrec_qai)) (L:=jnL) (zaab (bs:=[]) (by kernel_rfl) trivial) (by kernel_rfl) (fun _=>by kernel_rfl) (zaaa _) (fun _=>by kernel_rfl)
def qai_L (rec_qai:qai_tr):Nat→Option (Lift.Loop U):=fun n=>bif Nat.beq n zaav then some zaas else bif Nat.beq n 2 then some (qai_lp2 rec_qai) else none
def qai_md:Mode U:=qai_rmd qai
theorem qai_step (rec_qai:qai_tr) (hrec_qai:qai_rec rec_qai):zaat (Kit.withModes kk (zaac (ms33 rec_qai))) env0 Tryz.f97.ntmps (qai_L rec_qai) (zaag Tryz.f97):=zaab (bs:=[qai_b2]) (by kernel_rfl) ⟨.inr ⟨_,by kernel_rfl,zaam.of_round (qai_ok2 rec_qai hrec_qai)⟩,trivial⟩
theorem qai_post:zaad kk env0 97 (qai_rmd qai):=
  recG qai_i qai_f (by kernel_rfl) (fun _=>by kernel_rfl) (zaaa _) fun r ih=>fnG (fn:=Tryz.f97) (ko (known33 r ih)) (by kernel_rfl) (qai_step r ih) rfl (by kernel_rfl)
def ms34:List (FuncId×Mode U):=(97,qai_md)::ms32
theorem known34:Known kk env0 (zaac ms34):=known_cons (by kernel_rfl) qai_post known32
def qaf_b2:Code:=(zaaj (zaag Tryz.f78) 0)
def qaf_lp2:Lift.Loop U:=lpG ⟨⟨[2,7,8,9],[100000,2],[]⟩,[.ptr 2 0,.t (.slc (.st 51)),.t (.int .i64),.t (.int .i64)],[.blk 4 [.t .bool],.blk 122 [.clo 74 [.ptr 100000 0],.clo 76 [.ptr 100000 0]]]⟩ [⟨.exit 0,⟨⟨[],[100000],[]⟩,[],[.blk 4 [.t .bool]]⟩⟩] [.slc (.st 51),.int .i64,.int .i64,.bool] [[.bool]] qaf_l2
theorem qaf_ok2:LoopR kk env0 Tryz.f78.ntmps qaf_b2 qaf_lp2:=
  loopG qaf_i2 qaf_t2 (ko known34) (L:=jnL) (zaab (bs:=[]) (by kernel_rfl) trivial) (by kernel_rfl) (fun _=>by kernel_rfl) (zaaa _) (fun _=>by kernel_rfl)
def qaf_L:Nat→Option (Lift.Loop U):=fun n=>bif Nat.beq n zaav then some zaas else bif Nat.beq n 2 then some qaf_lp2 else none
def qaf_md:Mode U:=mdG ⟨⟨[0,1],[100000],[]⟩,[.agg [.clo 74 [.ptr 100000 0],.clo 76 [.ptr 100000 0]],.t (.st 26)],[.blk 4 [.t .bool]]⟩ [⟨100000,.slot 0,[0,0]⟩] [⟨⟨[],[100000],[]⟩,[],[.blk 4 [.t .bool]]⟩] [.st 26,.bool] [[.bool]] qaf
theorem qaf_post:zaad kk env0 78 qaf_md:=
  fnG (fn:=Tryz.f78) (ko known34) (by kernel_rfl) (L:=qaf_L) (zaab (bs:=[qaf_b2]) (by kernel_rfl) ⟨.inr ⟨_,by kernel_rfl,zaam.of_round (qaf_ok2)⟩,trivial⟩) (zaaa _) (by kernel_rfl)
def ms35:List (FuncId×Mode U):=(78,qaf_md)::ms34
theorem known35:Known kk env0 (zaac ms35):=known_cons (by kernel_rfl) qaf_post known34
def qa3_b3:Code:=(zaaj (zaag Tryz.f54) 0)
def qa3_lp3:Lift.Loop U:=lpG ⟨⟨[1,3,11,12,13],[1,3],[]⟩,[.ptr 1 0,.ptr 3 0,.t (.slc (.st 48)),.t (.int .i64),.t (.int .i64)],[.blk 26 [.t (.slc (.st 48)),.t (.slc .str),.t (.slc (.st 51))],.blk 4 [.t .bool]]⟩ [⟨.exit 0,⟨⟨[1,3],[1,3],[]⟩,[.ptr 1 0,.ptr 3 0],[.blk 26 [.t (.slc (.st 48)),.t (.slc .str),.t (.slc (.st 51))],.blk 4 [.t .bool]]⟩⟩] [.slc (.st 48),.int .i64,.int .i64,.slc (.st 48),.slc .str,.slc (.st 51),.bool] [[.slc (.st 48),.slc .str,.slc (.st 51),.bool]] qa3_l3
theorem qa3_ok3:LoopR kk env0 Tryz.f54.ntmps qa3_b3 qa3_lp3:=
  loopG qa3_i3 qa3_t3 (ko known35) (L:=jnL) (zaab (bs:=[]) (by kernel_rfl) trivial) (by kernel_rfl) (fun _=>by kernel_rfl) (zaaa _) (fun _=>by kernel_rfl)
def qa3_b8:Code:=(zaaj (zaag Tryz.f54) 1)
def qa3_lp8:Lift.Loop U:=lpG ⟨⟨[1,3,35,36,37],[1,3],[]⟩,[.ptr 1 0,.ptr 3 0,.t (.slc .str),.t (.int .i64),.t (.int .i64)],[.blk 26 [.t (.slc (.st 48)),.t (.slc .str),.t (.slc (.st 51))],.blk 4 [.t .bool]]⟩ [⟨.exit 2,⟨⟨[1,3],[1,3],[]⟩,[.ptr 1 0,.ptr 3 0],[.blk 26 [.t (.slc (.st 48)),.t (.slc .str),.t (.slc (.st 51))],.blk 4 [.t .bool]]⟩⟩] [.slc .str,.int .i64,.int .i64,.slc (.st 48),.slc .str,.slc (.st 51),.bool] [[.slc (.st 48),.slc .str,.slc (.st 51),.bool]] qa3_l8
theorem qa3_ok8:LoopR kk env0 Tryz.f54.ntmps qa3_b8 qa3_lp8:=
  loopG qa3_i8 qa3_t8 (ko known35) (L:=jnL) (zaab (bs:=[]) (by kernel_rfl) trivial) (by kernel_rfl) (fun _=>by kernel_rfl) (zaaa _) (fun _=>by kernel_rfl)
def qa3_b13:Code:=(zaaj (zaag Tryz.f54) 2)
def qa3_lp13:Lift.Loop U:=lpG ⟨⟨[1,3,48,49,50],[1,3],[]⟩,[.ptr 1 0,.ptr 3 0,.t (.slc (.st 51)),.t (.int .i64),.t (.int .i64)],[.blk 26 [.t (.slc (.st 48)),.t (.slc .str),.t (.slc (.st 51))],.blk 4 [.t .bool]]⟩ [⟨.exit 4,⟨⟨[1,3],[1,3],[]⟩,[.ptr 1 0,.ptr 3 0],[.blk 26 [.t (.slc (.st 48)),.t (.slc .str),.t (.slc (.st 51))],.blk 4 [.t .bool]]⟩⟩] [.slc (.st 51),.int .i64,.int .i64,.slc (.st 48),.slc .str,.slc (.st 51),.bool] [[.slc (.st 48),.slc .str,.slc (.st 51),.bool]] qa3_l13
theorem qa3_ok13:LoopR kk env0 Tryz.f54.ntmps qa3_b13 qa3_lp13:=
  loopG qa3_i13 qa3_t13 (ko known35) (L:=jnL) (zaab (bs:=[]) (by kernel_rfl) trivial) (by kernel_rfl) (fun _=>by kernel_rfl) (zaaa _) (fun _=>by kernel_rfl)
def qa3_L:Nat→Option (Lift.Loop U):=fun n=>bif Nat.beq n zaav then some zaas else bif Nat.beq n 3 then some qa3_lp3 else bif Nat.beq n 8 then some qa3_lp8 else bif Nat.beq n 13 then some qa3_lp13 else none
def qa3_md:Mode U:=mdG ⟨⟨[0],[],[]⟩,[.t (.st 26)],[]⟩ [] [⟨⟨[0],[],[]⟩,[.t .bool],[]⟩] [.st 26] [[.bool]] qa3
theorem qa3_post:zaad kk env0 54 qa3_md:=
  fnG (fn:=Tryz.f54) (ko known35) (by kernel_rfl) (L:=qa3_L) (zaab (bs:=[qa3_b3,qa3_b8,qa3_b13]) (by kernel_rfl) ⟨.inr ⟨_,by kernel_rfl,zaam.of_round (qa3_ok3)⟩,.inr ⟨_,by kernel_rfl,zaam.of_round (qa3_ok8)⟩,.inr ⟨_,by kernel_rfl,zaam.of_round (qa3_ok13)⟩,trivial⟩) (zaaa _) (by kernel_rfl)
def ms36:List (FuncId×Mode U):=(54,qa3_md)::ms35
theorem known36:Known kk env0 (zaac ms36):=known_cons (by kernel_rfl) qa3_post known35
def qaZ_md:Mode U:=mdG ⟨⟨[0,1,2],[100000],[]⟩,[.t (.st 62),.t (.int .i64),.ptr 100000 0],[.blk 3 [.t (.int .i64)]]⟩ [⟨100000,.slot 2,[]⟩] [⟨⟨[],[100000],[]⟩,[],[.blk 3 [.t (.int .i64)]]⟩] [.st 62,.int .i64,.int .i64] [[.int .i64]] qaZ
theorem qaZ_post:zaad kk env0 79 qaZ_md:=
  fnG (fn:=Tryz.f79) (ko known36) (by kernel_rfl) (L:=jnL) (zaab (bs:=[]) (by kernel_rfl) trivial) (zaaa _) (by kernel_rfl)
def ms37:List (FuncId×Mode U):=(79,qaZ_md)::ms36
theorem known37:Known kk env0 (zaac ms37):=known_cons (by kernel_rfl) qaZ_post known36
def qa0_md:Mode U:=mdG ⟨⟨[0,1,2],[100000],[]⟩,[.t (.st 60),.t (.int .i64),.ptr 100000 0],[.blk 3 [.t (.int .i64)]]⟩ [⟨100000,.slot 2,[]⟩] [⟨⟨[],[100000],[]⟩,[],[.blk 3 [.t (.int .i64)]]⟩] [.st 60,.int .i64,.int .i64] [[.int .i64]] qa0
theorem qa0_post:zaad kk env0 80 qa0_md:=
  fnG (fn:=Tryz.f80) (ko known37) (by kernel_rfl) (L:=jnL) (zaab (bs:=[]) (by kernel_rfl) trivial) (zaaa _) (by kernel_rfl)
def ms38:List (FuncId×Mode U):=(80,qa0_md)::ms37
theorem known38:Known kk env0 (zaac ms38):=known_cons (by kernel_rfl) qa0_post known37
abbrev qad_tr:Type:=curT U (sumT U [[.int .i64]]) [.st 60,.int .i64,.int .i64]
def qad_rmd (rec_qad:qad_tr):Mode U:=mdG ⟨⟨[0,1,2],[100000],[]⟩,[.agg [.clo 79 [.ptr 100000 0],.clo 80 [.ptr 100000 0]],.t (.st 60),.t (.int .i64)],[.blk 3 [.t (.int .i64)]]⟩ [⟨100000,.slot 0,[0,0]⟩] [⟨⟨[],[100000],[]⟩,[],[.blk 3 [.t (.int .i64)]]⟩] [.st 60,.int .i64,.int .i64] [[.int .i64]] rec_qad
abbrev qad_rec (r:qad_tr):Prop:=zaad kk env0 105 (qad_rmd r)
def ms39 (rec_qad:qad_tr):List (FuncId×Mode U):=(105,(qad_rmd rec_qad))::ms38
theorem known39 (rec_qad:qad_tr) (hrec_qad:qad_rec rec_qad):Known kk env0 (zaac (ms39 rec_qad)):=known_cons (by kernel_rfl) hrec_qad known38
def qad_b3:Code:=(zaaj (zaag Tryz.f105) 0)
def qad_lp3 (rec_qad:qad_tr):Lift.Loop U:=lpG ⟨⟨[2,3,14,15,16],[100000,3],[]⟩,[.t (.int .i64),.ptr 3 0,.t (.slc (.st 60)),.t (.int .i64),.t (.int .i64)],[.blk 3 [.t (.int .i64)],.blk 122 [.clo 79 [.ptr 100000 0],.clo 80 [.ptr 100000 0]]]⟩ [⟨.exit 0,⟨⟨[],[100000],[]⟩,[],[.blk 3 [.t (.int .i64)]]⟩⟩] [.int .i64,.slc (.st 60),.int .i64,.int .i64,.int .i64] [[.int .i64]] (qad_l3 rec_qad)
theorem qad_ok3 (rec_qad:qad_tr) (hrec_qad:qad_rec rec_qad):LoopR kk env0 Tryz.f105.ntmps qad_b3 (qad_lp3 rec_qad):=
  loopG (qad_i3 rec_qad) (qad_t3 rec_qad) (ko (known39 rec_qad hrec_qad)) (L:=jnL) (zaab (bs:=[]) (by kernel_rfl) trivial) (by kernel_rfl) (fun _=>by kernel_rfl) (zaaa _) (fun _=>by kernel_rfl)
def qad_L (rec_qad:qad_tr):Nat→Option (Lift.Loop U):=fun n=>bif Nat.beq n zaav then some zaas else bif Nat.beq n 3 then some (qad_lp3 rec_qad) else none
def qad_md:Mode U:=qad_rmd qad
theorem qad_step (rec_qad:qad_tr) (hrec_qad:qad_rec rec_qad):zaat (Kit.withModes kk (zaac (ms39 rec_qad))) env0 Tryz.f105.ntmps (qad_L rec_qad) (zaag Tryz.f105):=zaab (bs:=[qad_b3]) (by kernel_rfl) ⟨.inr ⟨_,by kernel_rfl,zaam.of_round (qad_ok3 rec_qad hrec_qad)⟩,trivial⟩
theorem qad_post:zaad kk env0 105 (qad_rmd qad):=
  recG qad_i qad_f (by kernel_rfl) (fun _=>by kernel_rfl) (zaaa _) fun r ih=>fnG (fn:=Tryz.f105) (ko (known39 r ih)) (by kernel_rfl) (qad_step r ih) rfl (by kernel_rfl)
def ms40:List (FuncId×Mode U):=(105,qad_md)::ms38
theorem known40:Known kk env0 (zaac ms40):=known_cons (by kernel_rfl) qad_post known38
abbrev qaj_tr:Type:=curT U (sumT U [[.int .i64]]) [.slc (.st 62),.int .i64,.int .i64]
def qaj_rmd (rec_qaj:qaj_tr):Mode U:=mdG ⟨⟨[0,1,2],[100000],[]⟩,[.agg [.clo 79 [.ptr 100000 0],.clo 80 [.ptr 100000 0]],.t (.slc (.st 62)),.t (.int .i64)],[.blk 3 [.t (.int .i64)]]⟩ [⟨100000,.slot 0,[0,0]⟩] [⟨⟨[],[100000],[]⟩,[],[.blk 3 [.t (.int .i64)]]⟩] [.slc (.st 62),.int .i64,.int .i64] [[.int .i64]] rec_qaj
abbrev qaj_rec (r:qaj_tr):Prop:=zaad kk env0 97 (qaj_rmd r)
def ms41 (rec_qaj:qaj_tr):List (FuncId×Mode U):=(97,(qaj_rmd rec_qaj))::ms40
theorem known41 (rec_qaj:qaj_tr) (hrec_qaj:qaj_rec rec_qaj):Known kk env0 (zaac (ms41 rec_qaj)):=known_cons (by kernel_rfl) hrec_qaj known40
def qaj_b2:Code:=(zaaj (zaag Tryz.f97) 0)
def qaj_lp2 (rec_qaj:qaj_tr):Lift.Loop U:=lpG ⟨⟨[2,3,8,9,10],[100000,3],[]⟩,[.t (.int .i64),.ptr 3 0,.t (.slc (.st 62)),.t (.int .i64),.t (.int .i64)],[.blk 3 [.t (.int .i64)],.blk 122 [.clo 79 [.ptr 100000 0],.clo 80 [.ptr 100000 0]]]⟩ [⟨.exit 0,⟨⟨[],[100000],[]⟩,[],[.blk 3 [.t (.int .i64)]]⟩⟩] [.int .i64,.slc (.st 62),.int .i64,.int .i64,.int .i64] [[.int .i64]] (qaj_l2 rec_qaj)
theorem qaj_ok2 (rec_qaj:qaj_tr) (hrec_qaj:qaj_rec rec_qaj):LoopR kk env0 Tryz.f97.ntmps qaj_b2 (qaj_lp2 rec_qaj):=
  loopG (qaj_i2 rec_qaj) (qaj_t2 rec_qaj) (ko (known41 rec_qaj hrec_qaj)) (L:=jnL) (zaab (bs:=[]) (by kernel_rfl) trivial) (by kernel_rfl) (fun _=>by kernel_rfl) (zaaa _) (fun _=>by kernel_rfl)
def qaj_L (rec_qaj:qaj_tr):Nat→Option (Lift.Loop U):=fun n=>bif Nat.beq n zaav then some zaas else bif Nat.beq n 2 then some (qaj_lp2 rec_qaj) else none
def qaj_md:Mode U:=qaj_rmd qaj
theorem qaj_step (rec_qaj:qaj_tr) (hrec_qaj:qaj_rec rec_qaj):zaat (Kit.withModes kk (zaac (ms41 rec_qaj))) env0 Tryz.f97.ntmps (qaj_L rec_qaj) (zaag Tryz.f97):=zaab (bs:=[qaj_b2]) (by kernel_rfl) ⟨.inr ⟨_,by kernel_rfl,zaam.of_round (qaj_ok2 rec_qaj hrec_qaj)⟩,trivial⟩
theorem qaj_post:zaad kk env0 97 (qaj_rmd qaj):=
  recG qaj_i qaj_f (by kernel_rfl) (fun _=>by kernel_rfl) (zaaa _) fun r ih=>fnG (fn:=Tryz.f97) (ko (known41 r ih)) (by kernel_rfl) (qaj_step r ih) rfl (by kernel_rfl)
def ms42:List (FuncId×Mode U):=(97,qaj_md)::ms40
theorem known42:Known kk env0 (zaac ms42):=known_cons (by kernel_rfl) qaj_post known40
def qag_b2:Code:=(zaaj (zaag Tryz.f78) 0)
def qag_lp2:Lift.Loop U:=lpG ⟨⟨[2,7,8,9],[100000,2],[]⟩,[.ptr 2 0,.t (.slc (.st 51)),.t (.int .i64),.t (.int .i64)],[.blk 3 [.t (.int .i64)],.blk 122 [.clo 79 [.ptr 100000 0],.clo 80 [.ptr 100000 0]]]⟩ [⟨.exit 0,⟨⟨[],[100000],[]⟩,[],[.blk 3 [.t (.int .i64)]]⟩⟩] [.slc (.st 51),.int .i64,.int .i64,.int .i64] [[.int .i64]] qag_l2
theorem qag_ok2:LoopR kk env0 Tryz.f78.ntmps qag_b2 qag_lp2:=
  loopG qag_i2 qag_t2 (ko known42) (L:=jnL) (zaab (bs:=[]) (by kernel_rfl) trivial) (by kernel_rfl) (fun _=>by kernel_rfl) (zaaa _) (fun _=>by kernel_rfl)
def qag_L:Nat→Option (Lift.Loop U):=fun n=>bif Nat.beq n zaav then some zaas else bif Nat.beq n 2 then some qag_lp2 else none
def qag_md:Mode U:=mdG ⟨⟨[0,1],[100000],[]⟩,[.agg [.clo 79 [.ptr 100000 0],.clo 80 [.ptr 100000 0]],.t (.st 26)],[.blk 3 [.t (.int .i64)]]⟩ [⟨100000,.slot 0,[0,0]⟩] [⟨⟨[],[100000],[]⟩,[],[.blk 3 [.t (.int .i64)]]⟩] [.st 26,.int .i64] [[.int .i64]] qag
theorem qag_post:zaad kk env0 78 qag_md:=
  fnG (fn:=Tryz.f78) (ko known42) (by kernel_rfl) (L:=qag_L) (zaab (bs:=[qag_b2]) (by kernel_rfl) ⟨.inr ⟨_,by kernel_rfl,zaam.of_round (qag_ok2)⟩,trivial⟩) (zaaa _) (by kernel_rfl)
def ms43:List (FuncId×Mode U):=(78,qag_md)::ms42
theorem known43:Known kk env0 (zaac ms43):=known_cons (by kernel_rfl) qag_post known42
def qaY_md:Mode U:=mdG ⟨⟨[0],[],[]⟩,[.t (.st 26)],[]⟩ [] [⟨⟨[0],[],[]⟩,[.t (.int .i64)],[]⟩] [.st 26] [[.int .i64]] qaY
theorem qaY_post:zaad kk env0 55 qaY_md:=
  fnG (fn:=Tryz.f55) (ko known43) (by kernel_rfl) (L:=jnL) (zaab (bs:=[]) (by kernel_rfl) trivial) (zaaa _) (by kernel_rfl)
def ms44:List (FuncId×Mode U):=(55,qaY_md)::ms43
theorem known44:Known kk env0 (zaac ms44):=known_cons (by kernel_rfl) qaY_post known43
def qaW_md:Mode U:=mdG ⟨⟨[0,1,2],[100000],[]⟩,[.t (.st 62),.t (.int .i64),.ptr 100000 0],[.blk 3 [.t (.int .i64)]]⟩ [⟨100000,.slot 2,[]⟩] [⟨⟨[],[100000],[]⟩,[],[.blk 3 [.t (.int .i64)]]⟩] [.st 62,.int .i64,.int .i64] [[.int .i64]] qaW
theorem qaW_post:zaad kk env0 81 qaW_md:=
  fnG (fn:=Tryz.f81) (ko known44) (by kernel_rfl) (L:=jnL) (zaab (bs:=[]) (by kernel_rfl) trivial) (zaaa _) (by kernel_rfl)
def ms45:List (FuncId×Mode U):=(81,qaW_md)::ms44
theorem known45:Known kk env0 (zaac ms45):=known_cons (by kernel_rfl) qaW_post known44
def qaX_md:Mode U:=mdG ⟨⟨[0,1,2],[100000],[]⟩,[.t (.st 60),.t (.int .i64),.ptr 100000 0],[.blk 3 [.t (.int .i64)]]⟩ [⟨100000,.slot 2,[]⟩] [⟨⟨[],[100000],[]⟩,[],[.blk 3 [.t (.int .i64)]]⟩] [.st 60,.int .i64,.int .i64] [[.int .i64]] qaX
theorem qaX_post:zaad kk env0 82 qaX_md:=
  fnG (fn:=Tryz.f82) (ko known45) (by kernel_rfl) (L:=jnL) (zaab (bs:=[]) (by kernel_rfl) trivial) (zaaa _) (by kernel_rfl)
def ms46:List (FuncId×Mode U):=(82,qaX_md)::ms45
theorem known46:Known kk env0 (zaac ms46):=known_cons (by kernel_rfl) qaX_post known45
abbrev qae_tr:Type:=curT U (sumT U [[.int .i64]]) [.st 60,.int .i64,.int .i64]
def qae_rmd (rec_qae:qae_tr):Mode U:=mdG ⟨⟨[0,1,2],[100000],[]⟩,[.agg [.clo 81 [.ptr 100000 0],.clo 82 [.ptr 100000 0]],.t (.st 60),.t (.int .i64)],[.blk 3 [.t (.int .i64)]]⟩ [⟨100000,.slot 0,[0,0]⟩] [⟨⟨[],[100000],[]⟩,[],[.blk 3 [.t (.int .i64)]]⟩] [.st 60,.int .i64,.int .i64] [[.int .i64]] rec_qae
abbrev qae_rec (r:qae_tr):Prop:=zaad kk env0 105 (qae_rmd r)
def ms47 (rec_qae:qae_tr):List (FuncId×Mode U):=(105,(qae_rmd rec_qae))::ms46
theorem known47 (rec_qae:qae_tr) (hrec_qae:qae_rec rec_qae):Known kk env0 (zaac (ms47 rec_qae)):=known_cons (by kernel_rfl) hrec_qae known46
def qae_b3:Code:=(zaaj (zaag Tryz.f105) 0)
def qae_lp3 (rec_qae:qae_tr):Lift.Loop U:=lpG ⟨⟨[2,3,14,15,16],[100000,3],[]⟩,[.t (.int .i64),.ptr 3 0,.t (.slc (.st 60)),.t (.int .i64),.t (.int .i64)],[.blk 3 [.t (.int .i64)],.blk 122 [.clo 81 [.ptr 100000 0],.clo 82 [.ptr 100000 0]]]⟩ [⟨.exit 0,⟨⟨[],[100000],[]⟩,[],[.blk 3 [.t (.int .i64)]]⟩⟩] [.int .i64,.slc (.st 60),.int .i64,.int .i64,.int .i64] [[.int .i64]] (qae_l3 rec_qae)
theorem qae_ok3 (rec_qae:qae_tr) (hrec_qae:qae_rec rec_qae):LoopR kk env0 Tryz.f105.ntmps qae_b3 (qae_lp3 rec_qae):=
  loopG (qae_i3 rec_qae) (qae_t3 rec_qae) (ko (known47 rec_qae hrec_qae)) (L:=jnL) (zaab (bs:=[]) (by kernel_rfl) trivial) (by kernel_rfl) (fun _=>by kernel_rfl) (zaaa _) (fun _=>by kernel_rfl)
def qae_L (rec_qae:qae_tr):Nat→Option (Lift.Loop U):=fun n=>bif Nat.beq n zaav then some zaas else bif Nat.beq n 3 then some (qae_lp3 rec_qae) else none
def qae_md:Mode U:=qae_rmd qae
theorem qae_step (rec_qae:qae_tr) (hrec_qae:qae_rec rec_qae):zaat (Kit.withModes kk (zaac (ms47 rec_qae))) env0 Tryz.f105.ntmps (qae_L rec_qae) (zaag Tryz.f105):=zaab (bs:=[qae_b3]) (by kernel_rfl) ⟨.inr ⟨_,by kernel_rfl,zaam.of_round (qae_ok3 rec_qae hrec_qae)⟩,trivial⟩
theorem qae_post:zaad kk env0 105 (qae_rmd qae):=
  recG qae_i qae_f (by kernel_rfl) (fun _=>by kernel_rfl) (zaaa _) fun r ih=>fnG (fn:=Tryz.f105) (ko (known47 r ih)) (by kernel_rfl) (qae_step r ih) rfl (by kernel_rfl)
def ms48:List (FuncId×Mode U):=(105,qae_md)::ms46
theorem known48:Known kk env0 (zaac ms48):=known_cons (by kernel_rfl) qae_post known46
abbrev qak_tr:Type:=curT U (sumT U [[.int .i64]]) [.slc (.st 62),.int .i64,.int .i64]
def qak_rmd (rec_qak:qak_tr):Mode U:=mdG ⟨⟨[0,1,2],[100000],[]⟩,[.agg [.clo 81 [.ptr 100000 0],.clo 82 [.ptr 100000 0]],.t (.slc (.st 62)),.t (.int .i64)],[.blk 3 [.t (.int .i64)]]⟩ [⟨100000,.slot 0,[0,0]⟩] [⟨⟨[],[100000],[]⟩,[],[.blk 3 [.t (.int .i64)]]⟩] [.slc (.st 62),.int .i64,.int .i64] [[.int .i64]] rec_qak
abbrev qak_rec (r:qak_tr):Prop:=zaad kk env0 97 (qak_rmd r)
def ms49 (rec_qak:qak_tr):List (FuncId×Mode U):=(97,(qak_rmd rec_qak))::ms48
theorem known49 (rec_qak:qak_tr) (hrec_qak:qak_rec rec_qak):Known kk env0 (zaac (ms49 rec_qak)):=known_cons (by kernel_rfl) hrec_qak known48
def qak_b2:Code:=(zaaj (zaag Tryz.f97) 0)
def qak_lp2 (rec_qak:qak_tr):Lift.Loop U:=lpG ⟨⟨[2,3,8,9,10],[100000,3],[]⟩,[.t (.int .i64),.ptr 3 0,.t (.slc (.st 62)),.t (.int .i64),.t (.int .i64)],[.blk 3 [.t (.int .i64)],.blk 122 [.clo 81 [.ptr 100000 0],.clo 82 [.ptr 100000 0]]]⟩ [⟨.exit 0,⟨⟨[],[100000],[]⟩,[],[.blk 3 [.t (.int .i64)]]⟩⟩] [.int .i64,.slc (.st 62),.int .i64,.int .i64,.int .i64] [[.int .i64]] (qak_l2 rec_qak)
theorem qak_ok2 (rec_qak:qak_tr) (hrec_qak:qak_rec rec_qak):LoopR kk env0 Tryz.f97.ntmps qak_b2 (qak_lp2 rec_qak):=
  loopG (qak_i2 rec_qak) (qak_t2 rec_qak) (ko (known49 rec_qak hrec_qak)) (L:=jnL) (zaab (bs:=[]) (by kernel_rfl) trivial) (by kernel_rfl) (fun _=>by kernel_rfl) (zaaa _) (fun _=>by kernel_rfl)
def qak_L (rec_qak:qak_tr):Nat→Option (Lift.Loop U):=fun n=>bif Nat.beq n zaav then some zaas else bif Nat.beq n 2 then some (qak_lp2 rec_qak) else none
def qak_md:Mode U:=qak_rmd qak
theorem qak_step (rec_qak:qak_tr) (hrec_qak:qak_rec rec_qak):zaat (Kit.withModes kk (zaac (ms49 rec_qak))) env0 Tryz.f97.ntmps (qak_L rec_qak) (zaag Tryz.f97):=zaab (bs:=[qak_b2]) (by kernel_rfl) ⟨.inr ⟨_,by kernel_rfl,zaam.of_round (qak_ok2 rec_qak hrec_qak)⟩,trivial⟩
theorem qak_post:zaad kk env0 97 (qak_rmd qak):=
  recG qak_i qak_f (by kernel_rfl) (fun _=>by kernel_rfl) (zaaa _) fun r ih=>fnG (fn:=Tryz.f97) (ko (known49 r ih)) (by kernel_rfl) (qak_step r ih) rfl (by kernel_rfl)
def ms50:List (FuncId×Mode U):=(97,qak_md)::ms48
theorem known50:Known kk env0 (zaac ms50):=known_cons (by kernel_rfl) qak_post known48
def qah_b2:Code:=(zaaj (zaag Tryz.f78) 0)
def qah_lp2:Lift.Loop U:=lpG ⟨⟨[2,7,8,9],[100000,2],[]⟩,[.ptr 2 0,.t (.slc (.st 51)),.t (.int .i64),.t (.int .i64)],[.blk 3 [.t (.int .i64)],.blk 122 [.clo 81 [.ptr 100000 0],.clo 82 [.ptr 100000 0]]]⟩ [⟨.exit 0,⟨⟨[],[100000],[]⟩,[],[.blk 3 [.t (.int .i64)]]⟩⟩] [.slc (.st 51),.int .i64,.int .i64,.int .i64] [[.int .i64]] qah_l2
theorem qah_ok2:LoopR kk env0 Tryz.f78.ntmps qah_b2 qah_lp2:=
  loopG qah_i2 qah_t2 (ko known50) (L:=jnL) (zaab (bs:=[]) (by kernel_rfl) trivial) (by kernel_rfl) (fun _=>by kernel_rfl) (zaaa _) (fun _=>by kernel_rfl)
def qah_L:Nat→Option (Lift.Loop U):=fun n=>bif Nat.beq n zaav then some zaas else bif Nat.beq n 2 then some qah_lp2 else none
def qah_md:Mode U:=mdG ⟨⟨[0,1],[100000],[]⟩,[.agg [.clo 81 [.ptr 100000 0],.clo 82 [.ptr 100000 0]],.t (.st 26)],[.blk 3 [.t (.int .i64)]]⟩ [⟨100000,.slot 0,[0,0]⟩] [⟨⟨[],[100000],[]⟩,[],[.blk 3 [.t (.int .i64)]]⟩] [.st 26,.int .i64] [[.int .i64]] qah
theorem qah_post:zaad kk env0 78 qah_md:=
  fnG (fn:=Tryz.f78) (ko known50) (by kernel_rfl) (L:=qah_L) (zaab (bs:=[qah_b2]) (by kernel_rfl) ⟨.inr ⟨_,by kernel_rfl,zaam.of_round (qah_ok2)⟩,trivial⟩) (zaaa _) (by kernel_rfl)
def ms51:List (FuncId×Mode U):=(78,qah_md)::ms50
theorem known51:Known kk env0 (zaac ms51):=known_cons (by kernel_rfl) qah_post known50
def qaV_md:Mode U:=mdG ⟨⟨[0],[],[]⟩,[.t (.st 26)],[]⟩ [] [⟨⟨[0],[],[]⟩,[.t (.int .i64)],[]⟩] [.st 26] [[.int .i64]] qaV
theorem qaV_post:zaad kk env0 56 qaV_md:=
  fnG (fn:=Tryz.f56) (ko known51) (by kernel_rfl) (L:=jnL) (zaab (bs:=[]) (by kernel_rfl) trivial) (zaaa _) (by kernel_rfl)
def ms52:List (FuncId×Mode U):=(56,qaV_md)::ms51
theorem known52:Known kk env0 (zaac ms52):=known_cons (by kernel_rfl) qaV_post known51
def qa1_md:Mode U:=mdG ⟨⟨[0],[],[]⟩,[.t (.st 26)],[]⟩ [] [⟨⟨[0],[],[]⟩,[.t (.int .i64)],[]⟩] [.st 26] [[.int .i64]] qa1
theorem qa1_post:zaad kk env0 27 qa1_md:=
  fnG (fn:=Tryz.f27) (ko known52) (by kernel_rfl) (L:=jnL) (zaab (bs:=[]) (by kernel_rfl) trivial) (zaaa _) (by kernel_rfl)
def ms53:List (FuncId×Mode U):=(27,qa1_md)::ms52
theorem known53:Known kk env0 (zaac ms53):=known_cons (by kernel_rfl) qa1_post known52
def qaS_md:Mode U:=mdG ⟨⟨[0],[],[]⟩,[.t (.slc .str)],[]⟩ [] [⟨⟨[0],[],[⟨.slot 0,100050,9,.str⟩]⟩,[.oslc 100050],[.row 9 .str]⟩] [.slc .str] [[.slc .str]] qaS
theorem qaS_post:zaad kk env0 30 qaS_md:=
  fnG (fn:=Tryz.f30) (ko known53) (by kernel_rfl) (L:=jnL) (zaab (bs:=[]) (by kernel_rfl) trivial) (zaaa _) (by kernel_rfl)
def ms54:List (FuncId×Mode U):=(30,qaS_md)::ms53
theorem known54:Known kk env0 (zaac ms54):=known_cons (by kernel_rfl) qaS_post known53
def qaR_md:Mode U:=mdG ⟨⟨[0],[],[⟨.slot 0,0,9,.str⟩]⟩,[.oslc 0],[.row 9 .str]⟩ [] [⟨⟨[0],[],[⟨.slot 0,100050,9,.str⟩]⟩,[.oslc 100050],[.row 9 .str]⟩] [.slc .str] [[.slc .str]] qaR
theorem qaR_post:zaad kk env0 29 qaR_md:=
  fnG (fn:=Tryz.f29) (ko known54) (by kernel_rfl) (L:=jnL) (zaab (bs:=[]) (by kernel_rfl) trivial) (zaaa _) (by kernel_rfl)
def ms55:List (FuncId×Mode U):=(29,qaR_md)::ms54
theorem known55:Known kk env0 (zaac ms55):=known_cons (by kernel_rfl) qaR_post known54
def qas_md:Mode U:=mdG ⟨⟨[0,1,2],[],[]⟩,[.t (.slc .str),.t (.int .i64),.t (.int .i64)],[]⟩ [] [⟨⟨[],[],[]⟩,[],[]⟩,⟨⟨[777777],[],[]⟩,[.ifc 75 (.t (.st 75))],[]⟩] [.slc .str,.int .i64,.int .i64] [[],[.st 75]] qas
theorem qas_post:zaad kk env0 57 qas_md:=
  fnG (fn:=Tryz.f57) (ko known55) (by kernel_rfl) (L:=jnL) (zaab (bs:=[]) (by kernel_rfl) trivial) (zaaa _) (by kernel_rfl)
def ms56:List (FuncId×Mode U):=(57,qas_md)::ms55
theorem known56:Known kk env0 (zaac ms56):=known_cons (by kernel_rfl) qas_post known55
def qar_b11:Code:=(zaaj (zaaj (zaag Tryz.f31) 0) 0)
def qar_lp11:Lift.Loop U:=lpG ⟨⟨[0,5,35,36,37,42,43,44],[100000,100001],[⟨.slot 35,35,23,(.slc .str)⟩,⟨.cell 100000 1,200001,9,.str⟩]⟩,[.ptr 100000 0,.t (.int .i64),.oslc 35,.t (.int .i64),.t (.int .i64),.t (.slc .str),.t (.int .i64),.t (.int .i64)],[.blk 81 [.ptr 100001 0,.oslc 200001],.mp .str (.st 103),.row 23 (.slc .str),.row 9 .str]⟩ [⟨.pan,⟨⟨[777777],[],[]⟩,[.ifc 75 (.t (.st 75))],[]⟩⟩,⟨.exit 2,⟨⟨[0,35,36,37],[100000,100001],[⟨.slot 35,35,23,(.slc .str)⟩,⟨.cell 100000 1,200001,9,.str⟩]⟩,[.ptr 100000 0,.oslc 35,.t (.int .i64),.t (.int .i64)],[.blk 81 [.ptr 100001 0,.oslc 200001],.mp .str (.st 103),.row 23 (.slc .str),.row 9 .str]⟩⟩] [.int .i64,.int .i64,.int .i64,.slc .str,.int .i64,.int .i64,.map .str (.st 103),.slc (.slc .str),.slc .str] [[.st 75],[.int .i64,.int .i64,.map .str (.st 103),.slc (.slc .str),.slc .str]] qar_l11
theorem qar_ok11:LoopR kk env0 Tryz.f31.ntmps qar_b11 qar_lp11:=
  loopG qar_i11 qar_t11 (ko known56) (L:=jnL) (zaab (bs:=[]) (by kernel_rfl) trivial) (by kernel_rfl) (fun _=>by kernel_rfl) (zaaa _) (fun _=>by kernel_rfl)
def qar_b8:Code:=(zaaj (zaag Tryz.f31) 0)
def qar_L8:Nat→Option (Lift.Loop U):=fun n=>bif Nat.beq n zaav then some zaas else bif Nat.beq n 11 then some qar_lp11 else none
def qar_lp8:Lift.Loop U:=lpG ⟨⟨[0,35,36,37],[100000,100001],[⟨.slot 35,35,23,(.slc .str)⟩,⟨.cell 100000 1,200001,9,.str⟩]⟩,[.ptr 100000 0,.oslc 35,.t (.int .i64),.t (.int .i64)],[.blk 81 [.ptr 100001 0,.oslc 200001],.mp .str (.st 103),.row 23 (.slc .str),.row 9 .str]⟩ [⟨.pan,⟨⟨[777777],[],[]⟩,[.ifc 75 (.t (.st 75))],[]⟩⟩,⟨.exit 0,⟨⟨[],[100000,100001],[⟨.cell 100000 1,200001,9,.str⟩]⟩,[],[.blk 81 [.ptr 100001 0,.oslc 200001],.mp .str (.st 103),.row 9 .str]⟩⟩] [.int .i64,.int .i64,.map .str (.st 103),.slc (.slc .str),.slc .str] [[.st 75],[.map .str (.st 103),.slc .str]] qar_l8
theorem qar_ok8:LoopR kk env0 Tryz.f31.ntmps qar_b8 qar_lp8:=
  loopG qar_i8 qar_t8 (ko known56) (L:=qar_L8) (zaab (bs:=[qar_b11]) (by kernel_rfl) ⟨.inr ⟨_,by kernel_rfl,zaam.of_round (qar_ok11)⟩,trivial⟩) (by kernel_rfl) (fun _=>by kernel_rfl) (zaaa _) (fun _=>by kernel_rfl)
def qar_L:Nat→Option (Lift.Loop U):=fun n=>bif Nat.beq n zaav then some zaas else bif Nat.beq n 8 then some qar_lp8 else none
def qar_md:Mode U:=mdG ⟨⟨[0,1],[100000,100001],[⟨.cell 100000 1,200001,9,.str⟩]⟩,[.ptr 100000 0,.t (.st 35)],[.blk 81 [.ptr 100001 0,.oslc 200001],.mp .str (.st 103),.row 9 .str]⟩ [⟨100000,.slot 0,[]⟩,⟨100001,.cell 100000 0,[]⟩] [⟨⟨[],[100000,100001],[⟨.cell 100000 1,200001,9,.str⟩]⟩,[],[.blk 81 [.ptr 100001 0,.oslc 200001],.mp .str (.st 103),.row 9 .str]⟩,⟨⟨[777777],[],[]⟩,[.ifc 75 (.t (.st 75))],[]⟩] [.st 35,.map .str (.st 103),.slc .str] [[.map .str (.st 103),.slc .str],[.st 75]] qar
theorem qar_post:zaad kk env0 31 qar_md:=
  fnG (fn:=Tryz.f31) (ko known56) (by kernel_rfl) (L:=qar_L) (zaab (bs:=[qar_b8]) (by kernel_rfl) ⟨.inr ⟨_,by kernel_rfl,zaam.of_round (qar_ok8)⟩,trivial⟩) (zaaa _) (by kernel_rfl)
def ms57:List (FuncId×Mode U):=(31,qar_md)::ms56
theorem known57:Known kk env0 (zaac ms57):=known_cons (by kernel_rfl) qar_post known56
def qat_md:Mode U:=mdG ⟨⟨[0,1],[100000,100001],[⟨.cell 100000 1,200001,9,.str⟩]⟩,[.ptr 100000 0,.t .str],[.blk 81 [.ptr 100001 0,.oslc 200001],.mp .str (.st 103),.row 9 .str]⟩ [⟨100000,.slot 0,[]⟩,⟨100001,.cell 100000 0,[]⟩] [⟨⟨[0],[100000,100001],[⟨.cell 100000 1,200001,9,.str⟩]⟩,[.t (.int .i64)],[.blk 81 [.ptr 100001 0,.oslc 200001],.mp .str (.st 103),.row 9 .str]⟩,⟨⟨[777777],[],[]⟩,[.ifc 75 (.t (.st 75))],[]⟩] [.str,.map .str (.st 103),.slc .str] [[.int .i64,.map .str (.st 103),.slc .str],[.st 75]] qat
theorem qat_post:zaad kk env0 58 qat_md:=
  fnG (fn:=Tryz.f58) (ko known57) (by kernel_rfl) (L:=jnL) (zaab (bs:=[]) (by kernel_rfl) trivial) (zaaa _) (by kernel_rfl)
def ms58:List (FuncId×Mode U):=(58,qat_md)::ms57
theorem known58:Known kk env0 (zaac ms58):=known_cons (by kernel_rfl) qat_post known57
def qav_md:Mode U:=mdG ⟨⟨[0],[],[]⟩,[.t (.int .i64)],[]⟩ [] [⟨⟨[0],[],[]⟩,[.t (.int .i64)],[]⟩] [.int .i64] [[.int .i64]] qav
theorem qav_post:zaad kk env0 59 qav_md:=
  fnG (fn:=Tryz.f59) (ko known58) (by kernel_rfl) (L:=jnL) (zaab (bs:=[]) (by kernel_rfl) trivial) (zaaa _) (by kernel_rfl)
def ms59:List (FuncId×Mode U):=(59,qav_md)::ms58
theorem known59:Known kk env0 (zaac ms59):=known_cons (by kernel_rfl) qav_post known58
abbrev qaq_tr:Type:=curT U (sumT U [[.int .i64,.int .i64,.str,.map .str (.st 103),.slc (.st 1060),.slc .str],[.st 75]]) [.st 60,.map .str (.st 103),.slc .str]
def qaq_rmd (rec_qaq:TExpr→List ((List UInt8)×(Thing))→List (List UInt8)→Option ((Int×Int×(List UInt8)×(List ((List UInt8)×(Thing)))×(List TExpr)×(List (List UInt8)))⊕(Refused))):Mode U:=mdG ⟨⟨[0,1],[100000,100001],[⟨.cell 100000 1,200001,9,.str⟩]⟩,[.ptr 100000 0,.t (.st 60)],[.blk 81 [.ptr 100001 0,.oslc 200001],.mp .str (.st 103),.row 9 .str]⟩ [⟨100000,.slot 0,[]⟩,⟨100001,.cell 100000 0,[]⟩] [⟨⟨[0],[100000,100001],[⟨.sub 0 3,100400,60,(.st 1060)⟩,⟨.cell 100000 1,200001,9,.str⟩]⟩,[.agg [.t (.int .i64),.t (.int .i64),.t .str,.oslc 100400]],[.blk 81 [.ptr 100001 0,.oslc 200001],.mp .str (.st 103),.row 60 (.st 1060),.row 9 .str]⟩,⟨⟨[777777],[],[]⟩,[.ifc 75 (.t (.st 75))],[]⟩] [.st 60,.map .str (.st 103),.slc .str] [[.int .i64,.int .i64,.str,.map .str (.st 103),.slc (.st 1060),.slc .str],[.st 75]] rec_qaq
abbrev qaq_rec (r:qaq_tr):Prop:=zaad kk env0 60 (qaq_rmd r)
def ms60 (rec_qaq:TExpr→List ((List UInt8)×(Thing))→List (List UInt8)→Option ((Int×Int×(List UInt8)×(List ((List UInt8)×(Thing)))×(List TExpr)×(List (List UInt8)))⊕(Refused))):List (FuncId×Mode U):=(60,(qaq_rmd rec_qaq))::ms59
theorem known60 (rec_qaq:TExpr→List ((List UInt8)×(Thing))→List (List UInt8)→Option ((Int×Int×(List UInt8)×(List ((List UInt8)×(Thing)))×(List TExpr)×(List (List UInt8)))⊕(Refused))) (hrec_qaq:qaq_rec rec_qaq):Known kk env0 (zaac (ms60 rec_qaq)):=known_cons (by kernel_rfl) hrec_qaq known59
def qaq_b5:Code:=(zaaj (zaag Tryz.f60) 0)
def qaq_L5 (rec_qaq:TExpr→List ((List UInt8)×(Thing))→List (List UInt8)→Option ((Int×Int×(List UInt8)×(List ((List UInt8)×(Thing)))×(List TExpr)×(List (List UInt8)))⊕(Refused))):Nat→Option (Lift.Loop U):=fun n=>bif Nat.beq n zaav then some zaas else bif Nat.beq n (zapq+7) then some (zarx 4) else none
def qaq_lp5 (rec_qaq:TExpr→List ((List UInt8)×(Thing))→List (List UInt8)→Option ((Int×Int×(List UInt8)×(List ((List UInt8)×(Thing)))×(List TExpr)×(List (List UInt8)))⊕(Refused))):Lift.Loop U:=lpG ⟨⟨[0,4,5,22,23,24],[100000,100001,4,5],[⟨.cell 100000 1,200001,9,.str⟩,⟨.cell 5 3,20253,60,(.st 1060)⟩]⟩,[.ptr 100000 0,.ptr 4 0,.ptr 5 0,.t (.slc (.st 60)),.t (.int .i64),.t (.int .i64)],[.blk 81 [.ptr 100001 0,.oslc 200001],.mp .str (.st 103),.blk 60 [.t (.int .i64),.t (.int .i64),.t .str,.nil],.blk 60 [.t (.int .i64),.t (.int .i64),.t .str,.oslc 20253],.row 9 .str,.row 60 (.st 1060)]⟩ [⟨.pan,⟨⟨[777777],[],[]⟩,[.ifc 75 (.t (.st 75))],[]⟩⟩,⟨.exit 0,⟨⟨[4,5],[100000,100001,4,5],[⟨.cell 100000 1,200001,9,.str⟩,⟨.cell 5 3,20253,60,(.st 1060)⟩]⟩,[.ptr 4 0,.ptr 5 0],[.blk 81 [.ptr 100001 0,.oslc 200001],.mp .str (.st 103),.blk 60 [.t (.int .i64),.t (.int .i64),.t .str,.nil],.blk 60 [.t (.int .i64),.t (.int .i64),.t .str,.oslc 20253],.row 9 .str,.row 60 (.st 1060)]⟩⟩] [.slc (.st 60),.int .i64,.int .i64,.map .str (.st 103),.int .i64,.int .i64,.str,.int .i64,.int .i64,.str,.slc .str,.slc (.st 1060)] [[.st 75],[.map .str (.st 103),.int .i64,.int .i64,.str,.int .i64,.int .i64,.str,.slc .str,.slc (.st 1060)]] (qaq_l5 rec_qaq)
theorem qaq_ok5 (rec_qaq:TExpr→List ((List UInt8)×(Thing))→List (List UInt8)→Option ((Int×Int×(List UInt8)×(List ((List UInt8)×(Thing)))×(List TExpr)×(List (List UInt8)))⊕(Refused))) (hrec_qaq:qaq_rec rec_qaq):LoopR kk env0 Tryz.f60.ntmps qaq_b5 (qaq_lp5 rec_qaq):=
  loopG (qaq_i5 rec_qaq) (qaq_t5 rec_qaq) (ko (known60 rec_qaq hrec_qaq)) (L:=(qaq_L5 rec_qaq)) (zaab (bs:=[]) (by kernel_rfl) trivial) (by kernel_rfl) (fun _=>by kernel_rfl) (zaaa _) (fun _=>by kernel_rfl)
def qaq_L (rec_qaq:TExpr→List ((List UInt8)×(Thing))→List (List UInt8)→Option ((Int×Int×(List UInt8)×(List ((List UInt8)×(Thing)))×(List TExpr)×(List (List UInt8)))⊕(Refused))):Nat→Option (Lift.Loop U):=fun n=>bif Nat.beq n zaav then some zaas else bif Nat.beq n (zapq+7) then some (zarx 4) else bif Nat.beq n 5 then some (qaq_lp5 rec_qaq) else none
def qaq_md:Mode U:=qaq_rmd qaq
theorem qaq_step (rec_qaq:TExpr→List ((List UInt8)×(Thing))→List (List UInt8)→Option ((Int×Int×(List UInt8)×(List ((List UInt8)×(Thing)))×(List TExpr)×(List (List UInt8)))⊕(Refused))) (hrec_qaq:qaq_rec rec_qaq):zaat (Kit.withModes kk (zaac (ms60 rec_qaq))) env0 Tryz.f60.ntmps (qaq_L rec_qaq) (zaag Tryz.f60):=zaab (bs:=[qaq_b5]) (by kernel_rfl) ⟨.inr ⟨_,by kernel_rfl,zaam.of_round (qaq_ok5 rec_qaq hrec_qaq)⟩,trivial⟩
theorem qaq_post:zaad kk env0 60 (qaq_rmd qaq):=
  recG qaq_i qaq_f (by kernel_rfl) (fun _=>by kernel_rfl) (zaaa _) fun r ih=>fnG (fn:=Tryz.f60) (ko (known60 r ih)) (by kernel_rfl) (qaq_step r ih) rfl (by kernel_rfl)
def ms61:List (FuncId×Mode U):=(60,qaq_md)::ms59
theorem known61:Known kk env0 (zaac ms61):=known_cons (by kernel_rfl) qaq_post known59
abbrev qap_tr:Type:=curT U (sumT U [[.map .str (.st 103),.slc (.st 1067),.slc .str],[.st 75]]) [.slc (.st 62),.map .str (.st 103),.slc .str]
def qap_rmd (rec_qap:List TStmt→List ((List UInt8)×(Thing))→List (List UInt8)→Option (((List ((List UInt8)×(Thing)))×(List TAct)×(List (List UInt8)))⊕(Refused))):Mode U:=mdG ⟨⟨[0,1],[100000,100001],[⟨.cell 100000 1,200001,9,.str⟩]⟩,[.ptr 100000 0,.t (.slc (.st 62))],[.blk 81 [.ptr 100001 0,.oslc 200001],.mp .str (.st 103),.row 9 .str]⟩ [⟨100000,.slot 0,[]⟩,⟨100001,.cell 100000 0,[]⟩] [⟨⟨[0],[100000,100001],[⟨.slot 0,100050,67,(.st 1067)⟩,⟨.cell 100000 1,200001,9,.str⟩]⟩,[.oslc 100050],[.blk 81 [.ptr 100001 0,.oslc 200001],.mp .str (.st 103),.row 67 (.st 1067),.row 9 .str]⟩,⟨⟨[777777],[],[]⟩,[.ifc 75 (.t (.st 75))],[]⟩] [.slc (.st 62),.map .str (.st 103),.slc .str] [[.map .str (.st 103),.slc (.st 1067),.slc .str],[.st 75]] rec_qap
abbrev qap_rec (r:qap_tr):Prop:=zaad kk env0 32 (qap_rmd r)
def ms62 (rec_qap:List TStmt→List ((List UInt8)×(Thing))→List (List UInt8)→Option (((List ((List UInt8)×(Thing)))×(List TAct)×(List (List UInt8)))⊕(Refused))):List (FuncId×Mode U):=(32,(qap_rmd rec_qap))::ms61
theorem known62 (rec_qap:List TStmt→List ((List UInt8)×(Thing))→List (List UInt8)→Option (((List ((List UInt8)×(Thing)))×(List TAct)×(List (List UInt8)))⊕(Refused))) (hrec_qap:qap_rec rec_qap):Known kk env0 (zaac (ms62 rec_qap)):=known_cons (by kernel_rfl) hrec_qap known61
def qap_b3:Code:=(zaaj (zaag Tryz.f32) 0)
def qap_lp3 (rec_qap:List TStmt→List ((List UInt8)×(Thing))→List (List UInt8)→Option (((List ((List UInt8)×(Thing)))×(List TAct)×(List (List UInt8)))⊕(Refused))):Lift.Loop U:=lpG ⟨⟨[0,5,12,13,14],[100000,100001],[⟨.cell 100000 1,200001,9,.str⟩,⟨.slot 5,5,67,(.st 1067)⟩]⟩,[.ptr 100000 0,.oslc 5,.t (.slc (.st 62)),.t (.int .i64),.t (.int .i64)],[.blk 81 [.ptr 100001 0,.oslc 200001],.mp .str (.st 103),.row 9 .str,.row 67 (.st 1067)]⟩ [⟨.pan,⟨⟨[777777],[],[]⟩,[.ifc 75 (.t (.st 75))],[]⟩⟩,⟨.exit 0,⟨⟨[5],[100000,100001],[⟨.slot 5,5,67,(.st 1067)⟩,⟨.cell 100000 1,200001,9,.str⟩]⟩,[.oslc 5],[.blk 81 [.ptr 100001 0,.oslc 200001],.mp .str (.st 103),.row 67 (.st 1067),.row 9 .str]⟩⟩] [.slc (.st 62),.int .i64,.int .i64,.map .str (.st 103),.slc .str,.slc (.st 1067)] [[.st 75],[.map .str (.st 103),.slc (.st 1067),.slc .str]] (qap_l3 rec_qap)
theorem qap_ok3 (rec_qap:List TStmt→List ((List UInt8)×(Thing))→List (List UInt8)→Option (((List ((List UInt8)×(Thing)))×(List TAct)×(List (List UInt8)))⊕(Refused))) (hrec_qap:qap_rec rec_qap):LoopR kk env0 Tryz.f32.ntmps qap_b3 (qap_lp3 rec_qap):=
  loopG (qap_i3 rec_qap) (qap_t3 rec_qap) (ko (known62 rec_qap hrec_qap)) (L:=jnL) (zaab (bs:=[]) (by kernel_rfl) trivial) (by kernel_rfl) (fun _=>by kernel_rfl) (zaaa _) (fun _=>by kernel_rfl)
def qap_L (rec_qap:List TStmt→List ((List UInt8)×(Thing))→List (List UInt8)→Option (((List ((List UInt8)×(Thing)))×(List TAct)×(List (List UInt8)))⊕(Refused))):Nat→Option (Lift.Loop U):=fun n=>bif Nat.beq n zaav then some zaas else bif Nat.beq n 3 then some (qap_lp3 rec_qap) else none
def qap_md:Mode U:=qap_rmd qap
theorem qap_step (rec_qap:List TStmt→List ((List UInt8)×(Thing))→List (List UInt8)→Option (((List ((List UInt8)×(Thing)))×(List TAct)×(List (List UInt8)))⊕(Refused))) (hrec_qap:qap_rec rec_qap):zaat (Kit.withModes kk (zaac (ms62 rec_qap))) env0 Tryz.f32.ntmps (qap_L rec_qap) (zaag Tryz.f32):=zaab (bs:=[qap_b3]) (by kernel_rfl) ⟨.inr ⟨_,by kernel_rfl,zaam.of_round (qap_ok3 rec_qap hrec_qap)⟩,trivial⟩
theorem qap_post:zaad kk env0 32 (qap_rmd qap):=
  recG qap_i qap_f (by kernel_rfl) (fun _=>by kernel_rfl) (zaaa _) fun r ih=>fnG (fn:=Tryz.f32) (ko (known62 r ih)) (by kernel_rfl) (qap_step r ih) rfl (by kernel_rfl)
def ms63:List (FuncId×Mode U):=(32,qap_md)::ms61
theorem known63:Known kk env0 (zaac ms63):=known_cons (by kernel_rfl) qap_post known61
def qam_b6:Code:=(zaaj (zaag Tryz.f11) 0)
def qam_lp6:Lift.Loop U:=lpG ⟨⟨[1,2,3,4,5,24,25,26],[1,170000,170001,170002,170003],[⟨.cell 170000 0,7200000,3,(.int .i64)⟩,⟨.cell 170001 0,7200100,9,.str⟩]⟩,[.ptr 1 0,.ptr 170000 0,.ptr 170001 0,.ptr 170002 0,.ptr 170003 0,.t (.slc (.st 48)),.t (.int .i64),.t (.int .i64)],[.blk 26 [.t (.slc (.st 48)),.t (.slc .str),.t (.slc (.st 51))],.blk 32 [.oslc 7200000,.t (.int .i64),.nil],.blk 35 [.oslc 7200100,.nil,.nil,.nil],.blk 36 [.t (.int .i64)],.blk 9 [.t .str],.row 3 (.int .i64),.row 9 .str]⟩ [⟨.exit 0,⟨⟨[1,2,3,4,5],[1,170000,170001,170002,170003],[⟨.cell 170000 0,7200000,3,(.int .i64)⟩,⟨.cell 170001 0,7200100,9,.str⟩]⟩,[.ptr 1 0,.ptr 170000 0,.ptr 170001 0,.ptr 170002 0,.ptr 170003 0],[.blk 26 [.t (.slc (.st 48)),.t (.slc .str),.t (.slc (.st 51))],.blk 32 [.oslc 7200000,.t (.int .i64),.nil],.blk 35 [.oslc 7200100,.nil,.nil,.nil],.blk 36 [.t (.int .i64)],.blk 9 [.t .str],.row 3 (.int .i64),.row 9 .str]⟩⟩] [.slc (.st 48),.int .i64,.int .i64,.slc (.st 48),.slc .str,.slc (.st 51),.int .i64,.int .i64,.str,.slc (.int .i64),.slc .str] [[.slc (.st 48),.slc .str,.slc (.st 51),.int .i64,.int .i64,.str,.slc (.int .i64),.slc .str]] qam_l6
theorem qam_ok6:LoopR kk env0 Tryz.f11.ntmps qam_b6 qam_lp6:=
  loopG qam_i6 qam_t6 (ko known63) (L:=jnL) (zaab (bs:=[]) (by kernel_rfl) trivial) (by kernel_rfl) (fun _=>by kernel_rfl) (zaaa _) (fun _=>by kernel_rfl)
def qam_b14:Code:=(zaaj (zaag Tryz.f11) 1)
def qam_lp14:Lift.Loop U:=lpG ⟨⟨[1,2,3,4,5,55,56,57],[1,170000,170001,170002,170003],[⟨.cell 170000 0,7200000,3,(.int .i64)⟩,⟨.cell 170001 0,7200100,9,.str⟩,⟨.cell 170001 1,7200101,9,.str⟩,⟨.cell 170001 2,7200102,9,.str⟩]⟩,[.ptr 1 0,.ptr 170000 0,.ptr 170001 0,.ptr 170002 0,.ptr 170003 0,.t (.slc (.st 51)),.t (.int .i64),.t (.int .i64)],[.blk 26 [.t (.slc (.st 48)),.t (.slc .str),.t (.slc (.st 51))],.blk 32 [.oslc 7200000,.t (.int .i64),.nil],.blk 35 [.oslc 7200100,.oslc 7200101,.oslc 7200102,.nil],.blk 36 [.t (.int .i64)],.blk 9 [.t .str],.row 3 (.int .i64),.row 9 .str,.row 9 .str,.row 9 .str]⟩ [⟨.exit 2,⟨⟨[1,2,3,4,5],[1,170000,170001,170002,170003],[⟨.cell 170000 0,7200000,3,(.int .i64)⟩,⟨.cell 170001 0,7200100,9,.str⟩,⟨.cell 170001 1,7200101,9,.str⟩,⟨.cell 170001 2,7200102,9,.str⟩]⟩,[.ptr 1 0,.ptr 170000 0,.ptr 170001 0,.ptr 170002 0,.ptr 170003 0],[.blk 26 [.t (.slc (.st 48)),.t (.slc .str),.t (.slc (.st 51))],.blk 32 [.oslc 7200000,.t (.int .i64),.nil],.blk 35 [.oslc 7200100,.oslc 7200101,.oslc 7200102,.nil],.blk 36 [.t (.int .i64)],.blk 9 [.t .str],.row 3 (.int .i64),.row 9 .str,.row 9 .str,.row 9 .str]⟩⟩] [.slc (.st 51),.int .i64,.int .i64,.slc (.st 48),.slc .str,.slc (.st 51),.int .i64,.int .i64,.str,.slc (.int .i64),.slc .str,.slc .str,.slc .str] [[.slc (.st 48),.slc .str,.slc (.st 51),.int .i64,.int .i64,.str,.slc (.int .i64),.slc .str,.slc .str,.slc .str]] qam_l14
theorem qam_ok14:LoopR kk env0 Tryz.f11.ntmps qam_b14 qam_lp14:=
  loopG qam_i14 qam_t14 (ko known63) (L:=jnL) (zaab (bs:=[]) (by kernel_rfl) trivial) (by kernel_rfl) (fun _=>by kernel_rfl) (zaaa _) (fun _=>by kernel_rfl)
def qam_b21:Code:=(zaaj (zaag Tryz.f11) 2)
def qam_lp21:Lift.Loop U:=lpG ⟨⟨[2,3,4,5,11,76,77,78],[170000,170001,170002,170003,71,69],[⟨.cell 170000 0,7200000,3,(.int .i64)⟩,⟨.cell 170000 2,7200002,65,(.st 1065)⟩,⟨.cell 170001 3,7200103,23,(.own 9 .str)⟩]⟩,[.ptr 170000 0,.ptr 170001 0,.ptr 170002 0,.ptr 170003 0,.ptr 71 0,.t (.slc (.st 51)),.t (.int .i64),.t (.int .i64)],[.blk 32 [.oslc 7200000,.t (.int .i64),.oslc 7200002],.blk 35 [.t (.slc .str),.t (.slc .str),.t (.slc .str),.oslc 7200103],.blk 36 [.t (.int .i64)],.blk 9 [.t .str],.blk 81 [.ptr 69 0,.junk],.mp .str (.st 103),.row 3 (.int .i64),.row 65 (.st 1065),.row 23 (.own 9 .str)]⟩ [⟨.pan,⟨⟨[2,3,4,5,777777],[170000,170001,170002,170003],[⟨.cell 170000 0,7200000,3,(.int .i64)⟩,⟨.cell 170000 2,7200002,65,(.st 1065)⟩,⟨.cell 170001 3,7200103,23,(.own 9 .str)⟩]⟩,[.ptr 170000 0,.ptr 170001 0,.ptr 170002 0,.ptr 170003 0,.ifc 75 (.t (.st 75))],[.blk 32 [.oslc 7200000,.t (.int .i64),.oslc 7200002],.blk 35 [.t (.slc .str),.t (.slc .str),.t (.slc .str),.oslc 7200103],.blk 36 [.t (.int .i64)],.blk 9 [.t .str],.row 3 (.int .i64),.row 65 (.st 1065),.row 23 (.own 9 .str)]⟩⟩,⟨.exit 4,⟨⟨[2,3,4,5],[170000,170001,170002,170003],[⟨.cell 170000 0,7200000,3,(.int .i64)⟩,⟨.cell 170000 2,7200002,65,(.st 1065)⟩,⟨.cell 170001 3,7200103,23,(.own 9 .str)⟩]⟩,[.ptr 170000 0,.ptr 170001 0,.ptr 170002 0,.ptr 170003 0],[.blk 32 [.oslc 7200000,.t (.int .i64),.oslc 7200002],.blk 35 [.t (.slc .str),.t (.slc .str),.t (.slc .str),.oslc 7200103],.blk 36 [.t (.int .i64)],.blk 9 [.t .str],.row 3 (.int .i64),.row 65 (.st 1065),.row 23 (.own 9 .str)]⟩⟩] [.slc (.st 51),.int .i64,.int .i64,.int .i64,.slc .str,.slc .str,.slc .str,.int .i64,.str,.map .str (.st 103),.slc (.int .i64),.slc (.st 1065),.slc (.own 9 .str)] [[.st 75,.int .i64,.slc .str,.slc .str,.slc .str,.int .i64,.str,.slc (.int .i64),.slc (.st 1065),.slc (.own 9 .str)],[.int .i64,.slc .str,.slc .str,.slc .str,.int .i64,.str,.slc (.int .i64),.slc (.st 1065),.slc (.own 9 .str)]] qam_l21
theorem qam_ok21:LoopR kk env0 Tryz.f11.ntmps qam_b21 qam_lp21:=
  loopG qam_i21 qam_t21 (ko known63) (L:=jnL) (zaab (bs:=[]) (by kernel_rfl) trivial) (by kernel_rfl) (fun _=>by kernel_rfl) (zaaa _) (fun _=>by kernel_rfl)
def qam_L:Nat→Option (Lift.Loop U):=fun n=>bif Nat.beq n zaav then some zaas else bif Nat.beq n 6 then some qam_lp6 else bif Nat.beq n 14 then some qam_lp14 else bif Nat.beq n 21 then some qam_lp21 else none
def qam_md:Mode U:=mdG ⟨⟨[0],[],[]⟩,[.t (.st 26)],[]⟩ [] [⟨⟨[0,1,2,3],[],[]⟩,[.t (.st 32),.t (.st 35),.t (.int .i64),.t .str],[]⟩] [.st 26] [[.st 32,.st 35,.int .i64,.str]] qam
theorem qam_post:zaad kk env0 11 qam_md:=
  fnGD (fn:=Tryz.f11) (ko known63) (by kernel_rfl) (L:=qam_L) (zaab (bs:=[qam_b6,qam_b14,qam_b21]) (by kernel_rfl) ⟨.inr ⟨_,by kernel_rfl,zaam.of_round (qam_ok6)⟩,.inr ⟨_,by kernel_rfl,zaam.of_round (qam_ok14)⟩,.inr ⟨_,by kernel_rfl,zaam.of_round (qam_ok21)⟩,trivial⟩) (zaaa _) (by kernel_rfl) (by kernel_rfl)
def ms64:List (FuncId×Mode U):=(11,qam_md)::ms63
theorem known64:Known kk env0 (zaac ms64):=known_cons (by kernel_rfl) qam_post known63
def qax_b3:Code:=(zaaj (zaag Tryz.f40) 0)
def qax_lp3:Lift.Loop U:=lpG ⟨⟨[3,4,5],[],[⟨.slot 3,3,9,.str⟩]⟩,[.oslc 3,.t (.int .i64),.t (.int .i64)],[.row 9 .str]⟩ [⟨.exit 0,⟨⟨[3],[],[⟨.slot 3,3,9,.str⟩]⟩,[.oslc 3],[.row 9 .str]⟩⟩] [.int .i64,.int .i64,.slc .str] [[.slc .str]] qax_l3
theorem qax_ok3:LoopR kk env0 Tryz.f40.ntmps qax_b3 qax_lp3:=
  loopG qax_i3 qax_t3 (ko known64) (L:=jnL) (zaab (bs:=[]) (by kernel_rfl) trivial) (by kernel_rfl) (fun _=>by kernel_rfl) (zaaa _) (fun _=>by kernel_rfl)
def qax_L:Nat→Option (Lift.Loop U):=fun n=>bif Nat.beq n zaav then some zaas else bif Nat.beq n 3 then some qax_lp3 else none
def qax_md:Mode U:=mdG ⟨⟨[0],[],[]⟩,[.t (.int .i64)],[]⟩ [] [⟨⟨[0],[],[⟨.slot 0,100050,9,.str⟩]⟩,[.oslc 100050],[.row 9 .str]⟩] [.int .i64] [[.slc .str]] qax
theorem qax_post:zaad kk env0 40 qax_md:=
  fnG (fn:=Tryz.f40) (ko known64) (by kernel_rfl) (L:=qax_L) (zaab (bs:=[qax_b3]) (by kernel_rfl) ⟨.inr ⟨_,by kernel_rfl,zaam.of_round (qax_ok3)⟩,trivial⟩) (zaaa _) (by kernel_rfl)
def ms65:List (FuncId×Mode U):=(40,qax_md)::ms64
theorem known65:Known kk env0 (zaac ms65):=known_cons (by kernel_rfl) qax_post known64
def qao_md:Mode U:=mdG ⟨⟨[0,1],[],[]⟩,[.t (.slc .str),.t (.int .i64)],[]⟩ [] [⟨⟨[0],[],[]⟩,[.t .str],[]⟩] [.slc .str,.int .i64] [[.str]] qao
theorem qao_post:zaad kk env0 91 qao_md:=
  fnG (fn:=Tryz.f91) (ko known65) (by kernel_rfl) (L:=jnL) (zaab (bs:=[]) (by kernel_rfl) trivial) (zaaa _) (by kernel_rfl)
def ms66:List (FuncId×Mode U):=(91,qao_md)::ms65
theorem known66:Known kk env0 (zaac ms66):=known_cons (by kernel_rfl) qao_post known65
abbrev qaa_tr:Type:=curT U (sumT U [[.int .i64,.int .i64,.str,.slc (.st 1060)]]) [.st 111,.st 60]
def qaa_rmd (rec_qaa:qaa_tr):Mode U:=mdG ⟨⟨[0,1],[],[]⟩,[.t (.st 111),.t (.st 60)],[]⟩ [] [⟨⟨[0],[],[⟨.sub 0 3,100400,60,(.st 1060)⟩]⟩,[.agg [.t (.int .i64),.t (.int .i64),.t .str,.oslc 100400]],[.row 60 (.st 1060)]⟩] [.st 111,.st 60] [[.int .i64,.int .i64,.str,.slc (.st 1060)]] rec_qaa
abbrev qaa_rec (r:qaa_tr):Prop:=zaad kk env0 89 (qaa_rmd r)
def ms67 (rec_qaa:qaa_tr):List (FuncId×Mode U):=(89,(qaa_rmd rec_qaa))::ms66
theorem known67 (rec_qaa:qaa_tr) (hrec_qaa:qaa_rec rec_qaa):Known kk env0 (zaac (ms67 rec_qaa)):=known_cons (by kernel_rfl) hrec_qaa known66
def qaa_b8:Code:=(zaaj (zaag Tryz.f89) 0)
def qaa_lp8 (rec_qaa:qaa_tr):Lift.Loop U:=lpG ⟨⟨[2,4,5,30,31,32],[2,4,5],[⟨.cell 5 3,20253,60,(.st 1060)⟩]⟩,[.ptr 2 0,.ptr 4 0,.ptr 5 0,.t (.slc (.st 60)),.t (.int .i64),.t (.int .i64)],[.blk 111 [.t (.slc .str),.t (.slc .str),.t (.slc .str),.t (.slc .str)],.blk 60 [.t (.int .i64),.t (.int .i64),.t .str,.nil],.blk 60 [.t (.int .i64),.t (.int .i64),.t .str,.oslc 20253],.row 60 (.st 1060)]⟩ [⟨.exit 0,⟨⟨[4,5],[4,5],[⟨.cell 5 3,20253,60,(.st 1060)⟩]⟩,[.ptr 4 0,.ptr 5 0],[.blk 60 [.t (.int .i64),.t (.int .i64),.t .str,.nil],.blk 60 [.t (.int .i64),.t (.int .i64),.t .str,.oslc 20253],.row 60 (.st 1060)]⟩⟩] [.slc (.st 60),.int .i64,.int .i64,.slc .str,.slc .str,.slc .str,.slc .str,.int .i64,.int .i64,.str,.int .i64,.int .i64,.str,.slc (.st 1060)] [[.int .i64,.int .i64,.str,.int .i64,.int .i64,.str,.slc (.st 1060)]] (qaa_l8 rec_qaa)
theorem qaa_ok8 (rec_qaa:qaa_tr) (hrec_qaa:qaa_rec rec_qaa):LoopR kk env0 Tryz.f89.ntmps qaa_b8 (qaa_lp8 rec_qaa):=
  loopG (qaa_i8 rec_qaa) (qaa_t8 rec_qaa) (ko (known67 rec_qaa hrec_qaa)) (L:=jnL) (zaab (bs:=[]) (by kernel_rfl) trivial) (by kernel_rfl) (fun _=>by kernel_rfl) (zaaa _) (fun _=>by kernel_rfl)
def qaa_L (rec_qaa:qaa_tr):Nat→Option (Lift.Loop U):=fun n=>bif Nat.beq n zaav then some zaas else bif Nat.beq n 8 then some (qaa_lp8 rec_qaa) else none
def qaa_md:Mode U:=qaa_rmd qaa
theorem qaa_step (rec_qaa:qaa_tr) (hrec_qaa:qaa_rec rec_qaa):zaat (Kit.withModes kk (zaac (ms67 rec_qaa))) env0 Tryz.f89.ntmps (qaa_L rec_qaa) (zaag Tryz.f89):=zaab (bs:=[qaa_b8]) (by kernel_rfl) ⟨.inr ⟨_,by kernel_rfl,zaam.of_round (qaa_ok8 rec_qaa hrec_qaa)⟩,trivial⟩
theorem qaa_post:zaad kk env0 89 (qaa_rmd qaa):=
  recG qaa_i qaa_f (by kernel_rfl) (fun _=>by kernel_rfl) (zaaa _) fun r ih=>fnG (fn:=Tryz.f89) (ko (known67 r ih)) (by kernel_rfl) (qaa_step r ih) rfl (by kernel_rfl)
def ms68:List (FuncId×Mode U):=(89,qaa_md)::ms66
theorem known68:Known kk env0 (zaac ms68):=known_cons (by kernel_rfl) qaa_post known66
abbrev qab_tr:Type:=curT U (sumT U [[.slc (.st 1062)]]) [.st 111,.slc (.st 67)]
def qab_rmd (rec_qab:qab_tr):Mode U:=mdG ⟨⟨[0,1],[],[]⟩,[.t (.st 111),.t (.slc (.st 67))],[]⟩ [] [⟨⟨[0],[],[⟨.slot 0,100050,62,(.st 1062)⟩]⟩,[.oslc 100050],[.row 62 (.st 1062)]⟩] [.st 111,.slc (.st 67)] [[.slc (.st 1062)]] rec_qab
abbrev qab_rec (r:qab_tr):Prop:=zaad kk env0 65 (qab_rmd r)
def ms69 (rec_qab:qab_tr):List (FuncId×Mode U):=(65,(qab_rmd rec_qab))::ms68
theorem known69 (rec_qab:qab_tr) (hrec_qab:qab_rec rec_qab):Known kk env0 (zaac (ms69 rec_qab)):=known_cons (by kernel_rfl) hrec_qab known68
def qau_md (rec_qab:qab_tr):Mode U:=mdG ⟨⟨[0],[],[]⟩,[.t (.int .i64)],[]⟩ [] [⟨⟨[0],[],[]⟩,[.t .bool],[]⟩] [.int .i64] [[.bool]] (qau rec_qab)
theorem qau_post (rec_qab:qab_tr) (hrec_qab:qab_rec rec_qab):zaad kk env0 90 (qau_md rec_qab):=
  fnG (fn:=Tryz.f90) (ko (known69 rec_qab hrec_qab)) (by kernel_rfl) (L:=jnL) (zaab (bs:=[]) (by kernel_rfl) trivial) (zaaa _) (by kernel_rfl)
def ms70 (rec_qab:qab_tr):List (FuncId×Mode U):=(90,(qau_md rec_qab))::(ms69 rec_qab)
theorem known70 (rec_qab:qab_tr) (hrec_qab:qab_rec rec_qab):Known kk env0 (zaac (ms70 rec_qab)):=known_cons (by kernel_rfl) (qau_post rec_qab hrec_qab) (known69 rec_qab hrec_qab)
def qab_b3:Code:=(zaaj (zaag Tryz.f65) 0)
def qab_lp3 (rec_qab:qab_tr):Lift.Loop U:=lpG ⟨⟨[2,5,9,10,11],[2],[⟨.slot 5,5,62,(.st 1062)⟩]⟩,[.ptr 2 0,.oslc 5,.t (.slc (.st 67)),.t (.int .i64),.t (.int .i64)],[.blk 111 [.t (.slc .str),.t (.slc .str),.t (.slc .str),.t (.slc .str)],.row 62 (.st 1062)]⟩ [⟨.exit 0,⟨⟨[5],[],[⟨.slot 5,5,62,(.st 1062)⟩]⟩,[.oslc 5],[.row 62 (.st 1062)]⟩⟩] [.slc (.st 67),.int .i64,.int .i64,.slc .str,.slc .str,.slc .str,.slc .str,.slc (.st 1062)] [[.slc (.st 1062)]] (qab_l3 rec_qab)
theorem qab_ok3 (rec_qab:qab_tr) (hrec_qab:qab_rec rec_qab):LoopR kk env0 Tryz.f65.ntmps qab_b3 (qab_lp3 rec_qab):=
  loopG (qab_i3 rec_qab) (qab_t3 rec_qab) (ko (known70 rec_qab hrec_qab)) (L:=jnL) (zaab (bs:=[]) (by kernel_rfl) trivial) (by kernel_rfl) (fun _=>by kernel_rfl) (zaaa _) (fun _=>by kernel_rfl)
def qab_L (rec_qab:qab_tr):Nat→Option (Lift.Loop U):=fun n=>bif Nat.beq n zaav then some zaas else bif Nat.beq n 3 then some (qab_lp3 rec_qab) else none
def qab_md:Mode U:=qab_rmd qab
theorem qab_step (rec_qab:qab_tr) (hrec_qab:qab_rec rec_qab):zaat (Kit.withModes kk (zaac (ms70 rec_qab))) env0 Tryz.f65.ntmps (qab_L rec_qab) (zaag Tryz.f65):=zaab (bs:=[qab_b3]) (by kernel_rfl) ⟨.inr ⟨_,by kernel_rfl,zaam.of_round (qab_ok3 rec_qab hrec_qab)⟩,trivial⟩
theorem qab_post:zaad kk env0 65 (qab_rmd qab):=
  recG qab_i qab_f (by kernel_rfl) (fun _=>by kernel_rfl) (zaaa _) fun r ih=>fnG (fn:=Tryz.f65) (ko (known70 r ih)) (by kernel_rfl) (qab_step r ih) rfl (by kernel_rfl)
def ms71:List (FuncId×Mode U):=(65,qab_md)::ms68
theorem known71:Known kk env0 (zaac ms71):=known_cons (by kernel_rfl) qab_post known68
def qaw_b3:Code:=(zaaj (zaag Tryz.f41) 0)
def qaw_lp3:Lift.Loop U:=lpG ⟨⟨[2,3,4,5,12,13,14],[2,3,4,5],[⟨.cell 5 0,20250,48,(.st 48)⟩]⟩,[.ptr 2 0,.ptr 3 0,.ptr 4 0,.ptr 5 0,.t (.slc (.int .i64)),.t (.int .i64),.t (.int .i64)],[.blk 32 [.t (.slc (.int .i64)),.t (.int .i64),.t (.slc (.st 65))],.blk 35 [.t (.slc .str),.t (.slc .str),.t (.slc .str),.t (.slc (.slc .str))],.blk 26 [.nil,.nil,.nil],.blk 26 [.oslc 20250,.nil,.nil],.row 48 (.st 48)]⟩ [⟨.exit 0,⟨⟨[2,3,4,5],[2,3,4,5],[⟨.cell 5 0,20250,48,(.st 48)⟩]⟩,[.ptr 2 0,.ptr 3 0,.ptr 4 0,.ptr 5 0],[.blk 32 [.t (.slc (.int .i64)),.t (.int .i64),.t (.slc (.st 65))],.blk 35 [.t (.slc .str),.t (.slc .str),.t (.slc .str),.t (.slc (.slc .str))],.blk 26 [.nil,.nil,.nil],.blk 26 [.oslc 20250,.nil,.nil],.row 48 (.st 48)]⟩⟩] [.slc (.int .i64),.int .i64,.int .i64,.slc (.int .i64),.int .i64,.slc (.st 65),.slc .str,.slc .str,.slc .str,.slc (.slc .str),.slc (.st 48)] [[.slc (.int .i64),.int .i64,.slc (.st 65),.slc .str,.slc .str,.slc .str,.slc (.slc .str),.slc (.st 48)]] qaw_l3
theorem qaw_ok3:LoopR kk env0 Tryz.f41.ntmps qaw_b3 qaw_lp3:=
  loopG qaw_i3 qaw_t3 (ko known71) (L:=jnL) (zaab (bs:=[]) (by kernel_rfl) trivial) (by kernel_rfl) (fun _=>by kernel_rfl) (zaaa _) (fun _=>by kernel_rfl)
def qaw_b9:Code:=(zaaj (zaag Tryz.f41) 1)
def qaw_lp9:Lift.Loop U:=lpG ⟨⟨[3,4,5,38,39,40],[3,4,5],[⟨.cell 5 0,20250,48,(.st 48)⟩,⟨.cell 5 1,20251,9,.str⟩,⟨.cell 5 2,20252,51,(.st 1051)⟩]⟩,[.ptr 3 0,.ptr 4 0,.ptr 5 0,.t (.slc (.st 65)),.t (.int .i64),.t (.int .i64)],[.blk 35 [.t (.slc .str),.t (.slc .str),.t (.slc .str),.t (.slc (.slc .str))],.blk 26 [.nil,.nil,.nil],.blk 26 [.oslc 20250,.oslc 20251,.oslc 20252],.row 48 (.st 48),.row 9 .str,.row 51 (.st 1051)]⟩ [⟨.exit 2,⟨⟨[4,5],[4,5],[⟨.cell 5 0,20250,48,(.st 48)⟩,⟨.cell 5 1,20251,9,.str⟩,⟨.cell 5 2,20252,51,(.st 1051)⟩]⟩,[.ptr 4 0,.ptr 5 0],[.blk 26 [.nil,.nil,.nil],.blk 26 [.oslc 20250,.oslc 20251,.oslc 20252],.row 48 (.st 48),.row 9 .str,.row 51 (.st 1051)]⟩⟩] [.slc (.st 65),.int .i64,.int .i64,.slc .str,.slc .str,.slc .str,.slc (.slc .str),.slc (.st 48),.slc .str,.slc (.st 1051)] [[.slc (.st 48),.slc .str,.slc (.st 1051)]] qaw_l9
theorem qaw_ok9:LoopR kk env0 Tryz.f41.ntmps qaw_b9 qaw_lp9:=
  loopG qaw_i9 qaw_t9 (ko known71) (L:=jnL) (zaab (bs:=[]) (by kernel_rfl) trivial) (by kernel_rfl) (fun _=>by kernel_rfl) (zaaa _) (fun _=>by kernel_rfl)
def qaw_L:Nat→Option (Lift.Loop U):=fun n=>bif Nat.beq n zaav then some zaas else bif Nat.beq n 3 then some qaw_lp3 else bif Nat.beq n 9 then some qaw_lp9 else none
def qaw_md:Mode U:=mdG ⟨⟨[0,1],[],[]⟩,[.t (.st 32),.t (.st 35)],[]⟩ [] [⟨⟨[0],[],[⟨.sub 0 0,100100,48,(.st 48)⟩,⟨.sub 0 1,100200,9,.str⟩,⟨.sub 0 2,100300,51,(.st 1051)⟩]⟩,[.agg [.oslc 100100,.oslc 100200,.oslc 100300]],[.row 48 (.st 48),.row 9 .str,.row 51 (.st 1051)]⟩] [.st 32,.st 35] [[.slc (.st 48),.slc .str,.slc (.st 1051)]] qaw
theorem qaw_post:zaad kk env0 41 qaw_md:=
  fnG (fn:=Tryz.f41) (ko known71) (by kernel_rfl) (L:=qaw_L) (zaab (bs:=[qaw_b3,qaw_b9]) (by kernel_rfl) ⟨.inr ⟨_,by kernel_rfl,zaam.of_round (qaw_ok3)⟩,.inr ⟨_,by kernel_rfl,zaam.of_round (qaw_ok9)⟩,trivial⟩) (zaaa _) (by kernel_rfl)
def ms72:List (FuncId×Mode U):=(41,qaw_md)::ms71
theorem known72:Known kk env0 (zaac ms72):=known_cons (by kernel_rfl) qaw_post known71
def qan_b5:Code:=(zaaj (zaag Tryz.f16) 0)
def qan_lp5:Lift.Loop U:=lpG ⟨⟨[1,3,45,46,47],[1,3],[⟨.cell 3 0,20150,9,.str⟩,⟨.cell 3 1,20151,9,.str⟩,⟨.cell 3 2,20152,9,.str⟩,⟨.cell 3 3,20153,23,(.own 9 .str)⟩]⟩,[.ptr 1 0,.ptr 3 0,.t (.slc (.st 65)),.t (.int .i64),.t (.int .i64)],[.blk 32 [.t (.slc (.int .i64)),.t (.int .i64),.t (.slc (.st 65))],.blk 35 [.oslc 20150,.oslc 20151,.oslc 20152,.oslc 20153],.row 9 .str,.row 9 .str,.row 9 .str,.row 23 (.own 9 .str)]⟩ [⟨.ret,⟨⟨[2],[],[]⟩,[.t .bool],[]⟩⟩,⟨.exit 0,⟨⟨[1,3],[1,3],[⟨.cell 3 0,20150,9,.str⟩,⟨.cell 3 1,20151,9,.str⟩,⟨.cell 3 2,20152,9,.str⟩,⟨.cell 3 3,20153,23,(.own 9 .str)⟩]⟩,[.ptr 1 0,.ptr 3 0],[.blk 32 [.t (.slc (.int .i64)),.t (.int .i64),.t (.slc (.st 65))],.blk 35 [.oslc 20150,.oslc 20151,.oslc 20152,.oslc 20153],.row 9 .str,.row 9 .str,.row 9 .str,.row 23 (.own 9 .str)]⟩⟩] [.slc (.st 65),.int .i64,.int .i64,.slc (.int .i64),.int .i64,.slc (.st 65),.slc .str,.slc .str,.slc .str,.slc (.own 9 .str)] [[.bool],[.slc (.int .i64),.int .i64,.slc (.st 65),.slc .str,.slc .str,.slc .str,.slc (.own 9 .str)]] qan_l5
theorem qan_ok5:LoopR kk env0 Tryz.f16.ntmps qan_b5 qan_lp5:=
  loopG qan_i5 qan_t5 (ko known72) (L:=jnL) (zaab (bs:=[]) (by kernel_rfl) trivial) (by kernel_rfl) (fun _=>by kernel_rfl) (zaaa _) (fun _=>by kernel_rfl)
def qan_L:Nat→Option (Lift.Loop U):=fun n=>bif Nat.beq n zaav then some zaas else bif Nat.beq n 5 then some qan_lp5 else none
def qan_md:Mode U:=mdG ⟨⟨[0],[],[]⟩,[.t (.st 32)],[]⟩ [] [⟨⟨[0],[],[]⟩,[.t .bool],[]⟩] [.st 32] [[.bool]] qan
theorem qan_post:zaad kk env0 16 qan_md:=
  fnG (fn:=Tryz.f16) (ko known72) (by kernel_rfl) (L:=qan_L) (zaab (bs:=[qan_b5]) (by kernel_rfl) ⟨.inr ⟨_,by kernel_rfl,zaam.of_round (qan_ok5)⟩,trivial⟩) (zaaa _) (by kernel_rfl)
def ms73:List (FuncId×Mode U):=(16,qan_md)::ms72
theorem known73:Known kk env0 (zaac ms73):=known_cons (by kernel_rfl) qan_post known72
def qaH_md:Mode U:=mdG ⟨⟨[],[],[]⟩,[],[]⟩ [] [⟨⟨[0],[],[]⟩,[.t .bool],[]⟩] [] [[.bool]] qaH
theorem qaH_post:zaad kk env0 8 qaH_md:=
  fnG (fn:=Tryz.f8) (ko known73) (by kernel_rfl) (L:=jnL) (zaab (bs:=[]) (by kernel_rfl) trivial) (zaaa _) (by kernel_rfl)
def ms74:List (FuncId×Mode U):=(8,qaH_md)::ms73
theorem known74:Known kk env0 (zaac ms74):=known_cons (by kernel_rfl) qaH_post known73
def qal_b4:Code:=(zaaj (zaag Tryz.f23) 0)
def qal_lp4:Lift.Loop U:=lpG ⟨⟨[2,3,4,50,51,52],[2,3,4],[]⟩,[.ptr 2 0,.ptr 3 0,.ptr 4 0,.t (.slc (.st 65)),.t (.int .i64),.t (.int .i64)],[.blk 32 [.t (.slc (.int .i64)),.t (.int .i64),.t (.slc (.st 65))],.blk 35 [.t (.slc .str),.t (.slc .str),.t (.slc .str),.t (.slc (.slc .str))],.blk 26 [.nil,.nil,.nil]]⟩ [⟨.ret,⟨⟨[4,5],[4],[]⟩,[.ptr 4 0,.t (.int .i64)],[.blk 26 [.nil,.nil,.nil]]⟩⟩,⟨.exit 0,⟨⟨[2,3,4],[2,3,4],[]⟩,[.ptr 2 0,.ptr 3 0,.ptr 4 0],[.blk 32 [.t (.slc (.int .i64)),.t (.int .i64),.t (.slc (.st 65))],.blk 35 [.t (.slc .str),.t (.slc .str),.t (.slc .str),.t (.slc (.slc .str))],.blk 26 [.nil,.nil,.nil]]⟩⟩] [.slc (.st 65),.int .i64,.int .i64,.slc (.int .i64),.int .i64,.slc (.st 65),.slc .str,.slc .str,.slc .str,.slc (.slc .str)] [[.int .i64],[.slc (.int .i64),.int .i64,.slc (.st 65),.slc .str,.slc .str,.slc .str,.slc (.slc .str)]] qal_l4
theorem qal_ok4:LoopR kk env0 Tryz.f23.ntmps qal_b4 qal_lp4:=
  loopG qal_i4 qal_t4 (ko known74) (L:=jnL) (zaab (bs:=[]) (by kernel_rfl) trivial) (by kernel_rfl) (fun _=>by kernel_rfl) (zaaa _) (fun _=>by kernel_rfl)
def qal_L:Nat→Option (Lift.Loop U):=fun n=>bif Nat.beq n zaav then some zaas else bif Nat.beq n 4 then some qal_lp4 else none
def qal_md:Mode U:=mdG ⟨⟨[0,1],[],[]⟩,[.t (.st 32),.t (.st 35)],[]⟩ [] [⟨⟨[0,1],[],[⟨.sub 0 0,100100,48,(.st 48)⟩,⟨.sub 0 1,100200,9,.str⟩,⟨.sub 0 2,100300,51,(.st 1051)⟩]⟩,[.agg [.oslc 100100,.oslc 100200,.oslc 100300],.t (.int .i64)],[.row 48 (.st 48),.row 9 .str,.row 51 (.st 1051)]⟩] [.st 32,.st 35] [[.int .i64,.slc (.st 48),.slc .str,.slc (.st 1051)]] qal
theorem qal_post:zaad kk env0 23 qal_md:=
  fnG (fn:=Tryz.f23) (ko known74) (by kernel_rfl) (L:=qal_L) (zaab (bs:=[qal_b4]) (by kernel_rfl) ⟨.inr ⟨_,by kernel_rfl,zaam.of_round (qal_ok4)⟩,trivial⟩) (zaaa _) (by kernel_rfl)
def ms129:List (FuncId×Mode U):=(23,qal_md)::ms74
theorem known129:Known kk env0 (zaac ms129):=known_cons (by kernel_rfl) qal_post known74
abbrev qaJ_tr:Type:=curT U (sumT U [[.bool]]) [.st 60,.st 60]
def qaJ_rmd (rec_qaJ:qaJ_tr):Mode U:=mdG ⟨⟨[0,1],[],[]⟩,[.t (.st 60),.t (.st 60)],[]⟩ [] [⟨⟨[0],[],[]⟩,[.t .bool],[]⟩] [.st 60,.st 60] [[.bool]] rec_qaJ
abbrev qaJ_rec (r:qaJ_tr):Prop:=zaad kk env0 61 (qaJ_rmd r)
def ms130 (rec_qaJ:qaJ_tr):List (FuncId×Mode U):=(61,(qaJ_rmd rec_qaJ))::ms129
theorem known130 (rec_qaJ:qaJ_tr) (hrec_qaJ:qaJ_rec rec_qaJ):Known kk env0 (zaac (ms130 rec_qaJ)):=known_cons (by kernel_rfl) hrec_qaJ known129
def qaJ_b4:Code:=(zaaj (zaag Tryz.f61) 0)
def qaJ_lp4 (rec_qaJ:qaJ_tr):Lift.Loop U:=lpG ⟨⟨[2,3,5],[2,3],[]⟩,[.ptr 2 0,.ptr 3 0,.t (.int .i64)],[.blk 60 [.t (.int .i64),.t (.int .i64),.t .str,.t (.slc (.st 60))],.blk 60 [.t (.int .i64),.t (.int .i64),.t .str,.t (.slc (.st 60))]]⟩ [⟨.ret,⟨⟨[4],[],[]⟩,[.t .bool],[]⟩⟩,⟨.exit 0,⟨⟨[],[],[]⟩,[],[]⟩⟩] [.int .i64,.int .i64,.int .i64,.str,.slc (.st 60),.int .i64,.int .i64,.str,.slc (.st 60)] [[.bool],[]] (qaJ_l4 rec_qaJ)
theorem qaJ_ok4 (rec_qaJ:qaJ_tr) (hrec_qaJ:qaJ_rec rec_qaJ):LoopR kk env0 Tryz.f61.ntmps qaJ_b4 (qaJ_lp4 rec_qaJ):=
  loopG (qaJ_i4 rec_qaJ) (qaJ_t4 rec_qaJ) (ko (known130 rec_qaJ hrec_qaJ)) (L:=jnL) (zaab (bs:=[]) (by kernel_rfl) trivial) (by kernel_rfl) (fun _=>by kernel_rfl) (zaaa _) (fun _=>by kernel_rfl)
def qaJ_L (rec_qaJ:qaJ_tr):Nat→Option (Lift.Loop U):=fun n=>bif Nat.beq n zaav then some zaas else bif Nat.beq n 4 then some (qaJ_lp4 rec_qaJ) else none
def qaJ_md:Mode U:=qaJ_rmd qaJ
theorem qaJ_step (rec_qaJ:qaJ_tr) (hrec_qaJ:qaJ_rec rec_qaJ):zaat (Kit.withModes kk (zaac (ms130 rec_qaJ))) env0 Tryz.f61.ntmps (qaJ_L rec_qaJ) (zaag Tryz.f61):=zaab (bs:=[qaJ_b4]) (by kernel_rfl) ⟨.inr ⟨_,by kernel_rfl,zaam.of_round (qaJ_ok4 rec_qaJ hrec_qaJ)⟩,trivial⟩
theorem qaJ_post:zaad kk env0 61 (qaJ_rmd qaJ):=
  recG qaJ_i qaJ_f (by kernel_rfl) (fun _=>by kernel_rfl) (zaaa _) fun r ih=>fnG (fn:=Tryz.f61) (ko (known130 r ih)) (by kernel_rfl) (qaJ_step r ih) rfl (by kernel_rfl)
def ms131:List (FuncId×Mode U):=(61,qaJ_md)::ms129
theorem known131:Known kk env0 (zaac ms131):=known_cons (by kernel_rfl) qaJ_post known129
abbrev qaK_tr:Type:=curT U (sumT U [[.bool]]) [.slc (.st 62),.slc (.st 62)]
def qaK_rmd (rec_qaK:qaK_tr):Mode U:=mdG ⟨⟨[0,1],[],[]⟩,[.t (.slc (.st 62)),.t (.slc (.st 62))],[]⟩ [] [⟨⟨[0],[],[]⟩,[.t .bool],[]⟩] [.slc (.st 62),.slc (.st 62)] [[.bool]] rec_qaK
abbrev qaK_rec (r:qaK_tr):Prop:=zaad kk env0 33 (qaK_rmd r)
def ms132 (rec_qaK:qaK_tr):List (FuncId×Mode U):=(33,(qaK_rmd rec_qaK))::ms131
theorem known132 (rec_qaK:qaK_tr) (hrec_qaK:qaK_rec rec_qaK):Known kk env0 (zaac (ms132 rec_qaK)):=known_cons (by kernel_rfl) hrec_qaK known131
def qaK_b4:Code:=(zaaj (zaag Tryz.f33) 0)
def qaK_lp4 (rec_qaK:qaK_tr):Lift.Loop U:=lpG ⟨⟨[0,1,5],[],[]⟩,[.t (.slc (.st 62)),.t (.slc (.st 62)),.t (.int .i64)],[]⟩ [⟨.ret,⟨⟨[4],[],[]⟩,[.t .bool],[]⟩⟩,⟨.exit 0,⟨⟨[],[],[]⟩,[],[]⟩⟩] [.slc (.st 62),.slc (.st 62),.int .i64] [[.bool],[]] (qaK_l4 rec_qaK)
theorem qaK_ok4 (rec_qaK:qaK_tr) (hrec_qaK:qaK_rec rec_qaK):LoopR kk env0 Tryz.f33.ntmps qaK_b4 (qaK_lp4 rec_qaK):=
  loopG (qaK_i4 rec_qaK) (qaK_t4 rec_qaK) (ko (known132 rec_qaK hrec_qaK)) (L:=jnL) (zaab (bs:=[]) (by kernel_rfl) trivial) (by kernel_rfl) (fun _=>by kernel_rfl) (zaaa _) (fun _=>by kernel_rfl)
def qaK_L (rec_qaK:qaK_tr):Nat→Option (Lift.Loop U):=fun n=>bif Nat.beq n zaav then some zaas else bif Nat.beq n 4 then some (qaK_lp4 rec_qaK) else none
def qaK_md:Mode U:=qaK_rmd qaK
theorem qaK_step (rec_qaK:qaK_tr) (hrec_qaK:qaK_rec rec_qaK):zaat (Kit.withModes kk (zaac (ms132 rec_qaK))) env0 Tryz.f33.ntmps (qaK_L rec_qaK) (zaag Tryz.f33):=zaab (bs:=[qaK_b4]) (by kernel_rfl) ⟨.inr ⟨_,by kernel_rfl,zaam.of_round (qaK_ok4 rec_qaK hrec_qaK)⟩,trivial⟩
theorem qaK_post:zaad kk env0 33 (qaK_rmd qaK):=
  recG qaK_i qaK_f (by kernel_rfl) (fun _=>by kernel_rfl) (zaaa _) fun r ih=>fnG (fn:=Tryz.f33) (ko (known132 r ih)) (by kernel_rfl) (qaK_step r ih) rfl (by kernel_rfl)
def ms133:List (FuncId×Mode U):=(33,qaK_md)::ms131
theorem known133:Known kk env0 (zaac ms133):=known_cons (by kernel_rfl) qaK_post known131
def qaI_b4:Code:=(zaaj (zaag Tryz.f12) 0)
def qaI_lp4:Lift.Loop U:=lpG ⟨⟨[2,3,5],[2,3],[]⟩,[.ptr 2 0,.ptr 3 0,.t (.int .i64)],[.blk 26 [.t (.slc (.st 48)),.t (.slc .str),.t (.slc (.st 51))],.blk 26 [.t (.slc (.st 48)),.t (.slc .str),.t (.slc (.st 51))]]⟩ [⟨.ret,⟨⟨[4],[],[]⟩,[.t .bool],[]⟩⟩,⟨.exit 0,⟨⟨[2,3],[2,3],[]⟩,[.ptr 2 0,.ptr 3 0],[.blk 26 [.t (.slc (.st 48)),.t (.slc .str),.t (.slc (.st 51))],.blk 26 [.t (.slc (.st 48)),.t (.slc .str),.t (.slc (.st 51))]]⟩⟩] [.int .i64,.slc (.st 48),.slc .str,.slc (.st 51),.slc (.st 48),.slc .str,.slc (.st 51)] [[.bool],[.slc (.st 48),.slc .str,.slc (.st 51),.slc (.st 48),.slc .str,.slc (.st 51)]] qaI_l4
theorem qaI_ok4:LoopR kk env0 Tryz.f12.ntmps qaI_b4 qaI_lp4:=
  loopG qaI_i4 qaI_t4 (ko known133) (L:=jnL) (zaab (bs:=[]) (by kernel_rfl) trivial) (by kernel_rfl) (fun _=>by kernel_rfl) (zaaa _) (fun _=>by kernel_rfl)
def qaI_b9:Code:=(zaaj (zaag Tryz.f12) 1)
def qaI_lp9:Lift.Loop U:=lpG ⟨⟨[2,3,6],[2,3],[]⟩,[.ptr 2 0,.ptr 3 0,.t (.int .i64)],[.blk 26 [.t (.slc (.st 48)),.t (.slc .str),.t (.slc (.st 51))],.blk 26 [.t (.slc (.st 48)),.t (.slc .str),.t (.slc (.st 51))]]⟩ [⟨.ret,⟨⟨[4],[],[]⟩,[.t .bool],[]⟩⟩,⟨.exit 2,⟨⟨[2,3],[2,3],[]⟩,[.ptr 2 0,.ptr 3 0],[.blk 26 [.t (.slc (.st 48)),.t (.slc .str),.t (.slc (.st 51))],.blk 26 [.t (.slc (.st 48)),.t (.slc .str),.t (.slc (.st 51))]]⟩⟩] [.int .i64,.slc (.st 48),.slc .str,.slc (.st 51),.slc (.st 48),.slc .str,.slc (.st 51)] [[.bool],[.slc (.st 48),.slc .str,.slc (.st 51),.slc (.st 48),.slc .str,.slc (.st 51)]] qaI_l9
theorem qaI_ok9:LoopR kk env0 Tryz.f12.ntmps qaI_b9 qaI_lp9:=
  loopG qaI_i9 qaI_t9 (ko known133) (L:=jnL) (zaab (bs:=[]) (by kernel_rfl) trivial) (by kernel_rfl) (fun _=>by kernel_rfl) (zaaa _) (fun _=>by kernel_rfl)
def qaI_b14:Code:=(zaaj (zaag Tryz.f12) 2)
def qaI_lp14:Lift.Loop U:=lpG ⟨⟨[2,3,7],[2,3],[]⟩,[.ptr 2 0,.ptr 3 0,.t (.int .i64)],[.blk 26 [.t (.slc (.st 48)),.t (.slc .str),.t (.slc (.st 51))],.blk 26 [.t (.slc (.st 48)),.t (.slc .str),.t (.slc (.st 51))]]⟩ [⟨.ret,⟨⟨[4],[],[]⟩,[.t .bool],[]⟩⟩,⟨.exit 4,⟨⟨[],[],[]⟩,[],[]⟩⟩] [.int .i64,.slc (.st 48),.slc .str,.slc (.st 51),.slc (.st 48),.slc .str,.slc (.st 51)] [[.bool],[]] qaI_l14
theorem qaI_ok14:LoopR kk env0 Tryz.f12.ntmps qaI_b14 qaI_lp14:=
  loopG qaI_i14 qaI_t14 (ko known133) (L:=jnL) (zaab (bs:=[]) (by kernel_rfl) trivial) (by kernel_rfl) (fun _=>by kernel_rfl) (zaaa _) (fun _=>by kernel_rfl)
def qaI_L:Nat→Option (Lift.Loop U):=fun n=>bif Nat.beq n zaav then some zaas else bif Nat.beq n 4 then some qaI_lp4 else bif Nat.beq n 9 then some qaI_lp9 else bif Nat.beq n 14 then some qaI_lp14 else none
def qaI_md:Mode U:=mdG ⟨⟨[0,1],[],[]⟩,[.t (.st 26),.t (.st 26)],[]⟩ [] [⟨⟨[0],[],[]⟩,[.t .bool],[]⟩] [.st 26,.st 26] [[.bool]] qaI
theorem qaI_post:zaad kk env0 12 qaI_md:=
  fnG (fn:=Tryz.f12) (ko known133) (by kernel_rfl) (L:=qaI_L) (zaab (bs:=[qaI_b4,qaI_b9,qaI_b14]) (by kernel_rfl) ⟨.inr ⟨_,by kernel_rfl,zaam.of_round (qaI_ok4)⟩,.inr ⟨_,by kernel_rfl,zaam.of_round (qaI_ok9)⟩,.inr ⟨_,by kernel_rfl,zaam.of_round (qaI_ok14)⟩,trivial⟩) (zaaa _) (by kernel_rfl)
def ms134:List (FuncId×Mode U):=(12,qaI_md)::ms133
theorem known134:Known kk env0 (zaac ms134):=known_cons (by kernel_rfl) qaI_post known133
def qaG_md:Mode U:=mdG ⟨⟨[0],[],[]⟩,[.t (.st 26)],[]⟩ [] [⟨⟨[0],[],[]⟩,[.t .bool],[]⟩] [.st 26] [[.bool]] qaG
theorem qaG_post:zaad kk env0 7 qaG_md:=
  fnG (fn:=Tryz.f7) (ko known134) (by kernel_rfl) (L:=jnL) (zaab (bs:=[]) (by kernel_rfl) trivial) (zaaa _) (by kernel_rfl)
end
end Lift.J6
