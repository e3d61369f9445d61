/-
  DERIVED. Each function of this seat computes its Lean function. Conditions: as each theorem says.
-/
import Derived.Test.YthbhphfmnlchoaaGreatDoorDefs
set_option linter.unusedVariables false
set_option linter.unusedSimpArgs false
set_option linter.unusedSectionVars false
namespace Lift.T3
noncomputable section
open Go Go.RowKit Go.Proofs Lift Lift.Fn
theorem ko {ms:List (FuncId×Mode U)} (h:Known kk env0 (zaac ms)):KitOk (Kit.withModes kk (zaac ms)) env0:=zas0 eqOk mixed h
def qbp_md:Mode U:=mdG ⟨⟨[0],[],[]⟩,[.t (.int .i32)],[]⟩ [] [⟨⟨[0],[],[]⟩,[.t (.int .i64)],[]⟩] [.int .i32] [[.int .i64]] qbp
theorem qbp_post:zaad kk env0 117 qbp_md:=
  fnG (fn:=Tryz.f117) (ko known5) (by kernel_rfl) (L:=noL) (zaab (bs:=[]) (by kernel_rfl) trivial) (zaaa _) (by kernel_rfl)
def ms6:List (FuncId×Mode U):=(117,qbp_md)::ms5
theorem known6:Known kk env0 (zaac ms6):=known_cons (by kernel_rfl) qbp_post known5
def qaD_b4:Code:=(zaak (zaag Tryz.f102) 0)
def qaD_lp4:Lift.Loop U:=lpG ⟨⟨[0,3,4,5,10],[3,5,10],[⟨.slot 4,4,108,(.st 108)⟩]⟩,[.t .str,.ptr 3 0,.oslc 4,.ptr 5 0,.ptr 10 0],[.blk 108 [.t (.int .i64),.t (.int .i64),.t (.int .i64),.t (.int .i64)],.blk 108 [.t (.int .i64),.t (.int .i64),.t (.int .i64),.t (.int .i64)],.sit,.row 108 (.st 108)]⟩ [⟨.ret,⟨⟨[2,3],[3],[⟨.slot 2,2,108,(.st 108)⟩]⟩,[.oslc 2,.ptr 3 0],[.blk 108 [.t (.int .i64),.t (.int .i64),.t (.int .i64),.t (.int .i64)],.row 108 (.st 108)]⟩⟩,⟨.exit 0,⟨⟨[3,4,5],[3,5],[⟨.slot 4,4,108,(.st 108)⟩]⟩,[.ptr 3 0,.oslc 4,.ptr 5 0],[.blk 108 [.t (.int .i64),.t (.int .i64),.t (.int .i64),.t (.int .i64)],.blk 108 [.t (.int .i64),.t (.int .i64),.t (.int .i64),.t (.int .i64)],.row 108 (.st 108)]⟩⟩] [.str,.int .i64,.int .i64,.int .i64,.int .i64,.int .i64,.int .i64,.int .i64,.int .i64,.str,.fn,.slc (.st 108)] [[.int .i64,.int .i64,.int .i64,.int .i64,.slc (.st 108)],[.int .i64,.int .i64,.int .i64,.int .i64,.int .i64,.int .i64,.int .i64,.int .i64,.slc (.st 108)]] qaD_l4
theorem qaD_ok4:LoopR kk env0 Tryz.f102.ntmps qaD_b4 qaD_lp4:=
  loopG qaD_i4 qaD_t4 (ko known6) (L:=noL) (zaab (bs:=[]) (by kernel_rfl) trivial) (by kernel_rfl) (fun _=>by kernel_rfl) (zaaa _) (fun _=>by kernel_rfl)
def qaD_L:Nat→Option (Lift.Loop U):=fun n=>bif Nat.beq n 4 then some qaD_lp4 else none
def qaD_md:Mode U:=mdG ⟨⟨[0],[],[]⟩,[.t .str],[]⟩ [] [⟨⟨[0,1],[],[⟨.slot 0,100050,108,(.st 108)⟩]⟩,[.oslc 100050,.t (.st 108)],[.row 108 (.st 108)]⟩] [.str] [[.st 108,.slc (.st 108)]] qaD
theorem qaD_post:zaad kk env0 102 qaD_md:=
  fnG (fn:=Tryz.f102) (ko known6) (by kernel_rfl) (L:=qaD_L) (zaab (bs:=[qaD_b4]) (by kernel_rfl) ⟨.inr ⟨_,by kernel_rfl,zaal.of_round (qaD_ok4)⟩,trivial⟩) (zaaa _) (by kernel_rfl)
def ms7:List (FuncId×Mode U):=(102,qaD_md)::ms6
theorem known7:Known kk env0 (zaac ms7):=known_cons (by kernel_rfl) qaD_post known6
def qaC_md:Mode U:=mdG ⟨⟨[0],[],[]⟩,[.t .str],[]⟩ [] [⟨⟨[0,1],[],[⟨.slot 0,100050,108,(.st 108)⟩]⟩,[.oslc 100050,.t (.st 90)],[.row 108 (.st 108)]⟩] [.str] [[.st 90,.slc (.st 108)]] qaC
theorem qaC_post:zaad kk env0 90 qaC_md:=
  fnG (fn:=Tryz.f90) (ko known7) (by kernel_rfl) (L:=noL) (zaab (bs:=[]) (by kernel_rfl) trivial) (zaaa _) (by kernel_rfl)
def ms8:List (FuncId×Mode U):=(90,qaC_md)::ms7
theorem known8:Known kk env0 (zaac ms8):=known_cons (by kernel_rfl) qaC_post known7
def qaz_md:Mode U:=mdG ⟨⟨[0],[],[]⟩,[.t (.int .i64)],[]⟩ [] [⟨⟨[0],[],[]⟩,[.t .bool],[]⟩] [.int .i64] [[.bool]] qaz
theorem qaz_post:zaad kk env0 103 qaz_md:=
  fnG (fn:=Tryz.f103) (ko known8) (by kernel_rfl) (L:=noL) (zaab (bs:=[]) (by kernel_rfl) trivial) (zaaa _) (by kernel_rfl)
def ms9:List (FuncId×Mode U):=(103,qaz_md)::ms8
theorem known9:Known kk env0 (zaac ms9):=known_cons (by kernel_rfl) qaz_post known8
def qaq_b3:Code:=(zaak (zaag Tryz.f91) 0)
def qaq_lp3:Lift.Loop U:=lpG ⟨⟨[0,3,7],[7],[]⟩,[.t .str,.t .bool,.ptr 7 0],[.sit]⟩ [⟨.ret,⟨⟨[2],[],[]⟩,[.t (.int .i64)],[]⟩⟩,⟨.exit 0,⟨⟨[0],[],[]⟩,[.t .str],[]⟩⟩] [.str,.bool,.str,.fn] [[.int .i64],[.str]] qaq_l3
theorem qaq_ok3:LoopR kk env0 Tryz.f91.ntmps qaq_b3 qaq_lp3:=
  loopG qaq_i3 qaq_t3 (ko known9) (L:=noL) (zaab (bs:=[]) (by kernel_rfl) trivial) (by kernel_rfl) (fun _=>by kernel_rfl) (zaaa _) (fun _=>by kernel_rfl)
def qaq_L:Nat→Option (Lift.Loop U):=fun n=>bif Nat.beq n 3 then some qaq_lp3 else none
def qaq_md:Mode U:=mdG ⟨⟨[0],[],[]⟩,[.t .str],[]⟩ [] [⟨⟨[0],[],[]⟩,[.t (.int .i64)],[]⟩] [.str] [[.int .i64]] qaq
theorem qaq_post:zaad kk env0 91 qaq_md:=
  fnG (fn:=Tryz.f91) (ko known9) (by kernel_rfl) (L:=qaq_L) (zaab (bs:=[qaq_b3]) (by kernel_rfl) ⟨.inr ⟨_,by kernel_rfl,zaal.of_round (qaq_ok3)⟩,trivial⟩) (zaaa _) (by kernel_rfl)
def ms10:List (FuncId×Mode U):=(91,qaq_md)::ms9
theorem known10:Known kk env0 (zaac ms10):=known_cons (by kernel_rfl) qaq_post known9
def qbq_md:Mode U:=mdG ⟨⟨[0],[],[]⟩,[.t (.int .i32)],[]⟩ [] [⟨⟨[0],[],[]⟩,[.t .bool],[]⟩] [.int .i32] [[.bool]] qbq
theorem qbq_post:zaad kk env0 136 qbq_md:=
  fnG (fn:=Tryz.f136) (ko known10) (by kernel_rfl) (L:=noL) (zaab (bs:=[]) (by kernel_rfl) trivial) (zaaa _) (by kernel_rfl)
def ms11:List (FuncId×Mode U):=(136,qbq_md)::ms10
theorem known11:Known kk env0 (zaac ms11):=known_cons (by kernel_rfl) qbq_post known10
def qaE_md:Mode U:=mdG ⟨⟨[0],[],[]⟩,[.t (.int .i64)],[]⟩ [] [⟨⟨[0],[],[]⟩,[.t .bool],[]⟩] [.int .i64] [[.bool]] qaE
theorem qaE_post:zaad kk env0 125 qaE_md:=
  fnG (fn:=Tryz.f125) (ko known11) (by kernel_rfl) (L:=noL) (zaab (bs:=[]) (by kernel_rfl) trivial) (zaaa _) (by kernel_rfl)
def ms12:List (FuncId×Mode U):=(125,qaE_md)::ms11
theorem known12:Known kk env0 (zaac ms12):=known_cons (by kernel_rfl) qaE_post known11
def qaB_md:Mode U:=mdG ⟨⟨[0],[],[]⟩,[.t (.int .i64)],[]⟩ [] [⟨⟨[0],[],[]⟩,[.t .bool],[]⟩] [.int .i64] [[.bool]] qaB
theorem qaB_post:zaad kk env0 119 qaB_md:=
  fnG (fn:=Tryz.f119) (ko known12) (by kernel_rfl) (L:=noL) (zaab (bs:=[]) (by kernel_rfl) trivial) (zaaa _) (by kernel_rfl)
def ms13:List (FuncId×Mode U):=(119,qaB_md)::ms12
theorem known13:Known kk env0 (zaac ms13):=known_cons (by kernel_rfl) qaB_post known12
def qaA_md:Mode U:=mdG ⟨⟨[0],[],[]⟩,[.t (.int .i64)],[]⟩ [] [⟨⟨[0],[],[]⟩,[.t .bool],[]⟩] [.int .i64] [[.bool]] qaA
theorem qaA_post:zaad kk env0 108 qaA_md:=
  fnG (fn:=Tryz.f108) (ko known13) (by kernel_rfl) (L:=noL) (zaab (bs:=[]) (by kernel_rfl) trivial) (zaaa _) (by kernel_rfl)
def ms14:List (FuncId×Mode U):=(108,qaA_md)::ms13
theorem known14:Known kk env0 (zaac ms14):=known_cons (by kernel_rfl) qaA_post known13
def qao_md:Mode U:=mdG ⟨⟨[0],[],[]⟩,[.t (.int .i32)],[]⟩ [] [⟨⟨[0],[],[]⟩,[.t .bool],[]⟩] [.int .i32] [[.bool]] qao
theorem qao_post:zaad kk env0 105 qao_md:=
  fnG (fn:=Tryz.f105) (ko known14) (by kernel_rfl) (L:=noL) (zaab (bs:=[]) (by kernel_rfl) trivial) (zaaa _) (by kernel_rfl)
def ms15:List (FuncId×Mode U):=(105,qao_md)::ms14
theorem known15:Known kk env0 (zaac ms15):=known_cons (by kernel_rfl) qao_post known14
def qaQ_b2:Code:=(zaak (zaag Tryz.f123) 0)
def qaQ_lp2:Lift.Loop U:=lpG ⟨⟨[0,1,7,8],[],[]⟩,[.t (.slc .str),.t .str,.t (.int .i64),.t (.int .i64)],[]⟩ [⟨.ret,⟨⟨[4],[],[]⟩,[.t (.int .i64)],[]⟩⟩,⟨.exit 0,⟨⟨[],[],[]⟩,[],[]⟩⟩] [.slc .str,.str,.int .i64,.int .i64] [[.int .i64],[]] qaQ_l2
theorem qaQ_ok2:LoopR kk env0 Tryz.f123.ntmps qaQ_b2 qaQ_lp2:=
  loopG qaQ_i2 qaQ_t2 (ko known15) (L:=noL) (zaab (bs:=[]) (by kernel_rfl) trivial) (by kernel_rfl) (fun _=>by kernel_rfl) (zaaa _) (fun _=>by kernel_rfl)
def qaQ_L:Nat→Option (Lift.Loop U):=fun n=>bif Nat.beq n 2 then some qaQ_lp2 else none
def qaQ_md:Mode U:=mdG ⟨⟨[0,1],[],[]⟩,[.t (.slc .str),.t .str],[]⟩ [] [⟨⟨[0],[],[]⟩,[.t (.int .i64)],[]⟩] [.slc .str,.str] [[.int .i64]] qaQ
theorem qaQ_post:zaad kk env0 123 qaQ_md:=
  fnG (fn:=Tryz.f123) (ko known15) (by kernel_rfl) (L:=qaQ_L) (zaab (bs:=[qaQ_b2]) (by kernel_rfl) ⟨.inr ⟨_,by kernel_rfl,zaal.of_round (qaQ_ok2)⟩,trivial⟩) (zaaa _) (by kernel_rfl)
def ms16:List (FuncId×Mode U):=(123,qaQ_md)::ms15
theorem known16:Known kk env0 (zaac ms16):=known_cons (by kernel_rfl) qaQ_post known15
def qaK_md:Mode U:=mdG ⟨⟨[0,1],[],[]⟩,[.t (.slc .str),.t .str],[]⟩ [] [⟨⟨[0],[],[]⟩,[.t .bool],[]⟩] [.slc .str,.str] [[.bool]] qaK
theorem qaK_post:zaad kk env0 110 qaK_md:=
  fnG (fn:=Tryz.f110) (ko known16) (by kernel_rfl) (L:=noL) (zaab (bs:=[]) (by kernel_rfl) trivial) (zaaa _) (by kernel_rfl)
def ms17:List (FuncId×Mode U):=(110,qaK_md)::ms16
theorem known17:Known kk env0 (zaac ms17):=known_cons (by kernel_rfl) qaK_post known16
def qar_md:Mode U:=mdG ⟨⟨[0],[],[]⟩,[.t .str],[]⟩ [] [⟨⟨[0],[],[]⟩,[.t .str],[]⟩] [.str] [[.str]] qar
theorem qar_post:zaad kk env0 106 qar_md:=
  fnG (fn:=Tryz.f106) (ko known17) (by kernel_rfl) (L:=noL) (zaab (bs:=[]) (by kernel_rfl) trivial) (zaaa _) (by kernel_rfl)
def ms18:List (FuncId×Mode U):=(106,qar_md)::ms17
theorem known18:Known kk env0 (zaac ms18):=known_cons (by kernel_rfl) qar_post known17
def qat_b2:Code:=(zaak (zaag Tryz.f107) 0)
def qat_lp2:Lift.Loop U:=lpG ⟨⟨[0,6],[6],[]⟩,[.t .str,.ptr 6 0],[.sit]⟩ [⟨.ret,⟨⟨[2],[],[]⟩,[.t .str],[]⟩⟩,⟨.exit 0,⟨⟨[0],[],[]⟩,[.t .str],[]⟩⟩] [.str,.str,.fn] [[.str],[.str]] qat_l2
theorem qat_ok2:LoopR kk env0 Tryz.f107.ntmps qat_b2 qat_lp2:=
  loopG qat_i2 qat_t2 (ko known18) (L:=noL) (zaab (bs:=[]) (by kernel_rfl) trivial) (by kernel_rfl) (fun _=>by kernel_rfl) (zaaa _) (fun _=>by kernel_rfl)
def qat_L:Nat→Option (Lift.Loop U):=fun n=>bif Nat.beq n 2 then some qat_lp2 else none
def qat_md:Mode U:=mdG ⟨⟨[0],[],[]⟩,[.t .str],[]⟩ [] [⟨⟨[0],[],[]⟩,[.t .str],[]⟩] [.str] [[.str]] qat
theorem qat_post:zaad kk env0 107 qat_md:=
  fnG (fn:=Tryz.f107) (ko known18) (by kernel_rfl) (L:=qat_L) (zaab (bs:=[qat_b2]) (by kernel_rfl) ⟨.inr ⟨_,by kernel_rfl,zaal.of_round (qat_ok2)⟩,trivial⟩) (zaaa _) (by kernel_rfl)
def ms19:List (FuncId×Mode U):=(107,qat_md)::ms18
theorem known19:Known kk env0 (zaac ms19):=known_cons (by kernel_rfl) qat_post known18
def qap_md:Mode U:=mdG ⟨⟨[0],[],[]⟩,[.t .str],[]⟩ [] [⟨⟨[0,1],[],[]⟩,[.t (.int .i64),.t .bool],[]⟩] [.str] [[.int .i64,.bool]] qap
theorem qap_post:zaad kk env0 109 qap_md:=
  fnG (fn:=Tryz.f109) (ko known19) (by kernel_rfl) (L:=noL) (zaab (bs:=[]) (by kernel_rfl) trivial) (zaaa _) (by kernel_rfl)
def ms20:List (FuncId×Mode U):=(109,qap_md)::ms19
theorem known20:Known kk env0 (zaac ms20):=known_cons (by kernel_rfl) qap_post known19
def qan_md:Mode U:=mdG ⟨⟨[],[],[]⟩,[],[]⟩ [] [⟨⟨[0],[],[⟨.slot 0,100050,9,.str⟩]⟩,[.oslc 100050],[.row 9 .str]⟩] [] [[.slc .str]] qan
theorem qan_post:zaad kk env0 111 qan_md:=
  fnG (fn:=Tryz.f111) (ko known20) (by kernel_rfl) (L:=noL) (zaab (bs:=[]) (by kernel_rfl) trivial) (zaaa _) (by kernel_rfl)
def ms21:List (FuncId×Mode U):=(111,qan_md)::ms20
theorem known21:Known kk env0 (zaac ms21):=known_cons (by kernel_rfl) qan_post known20
def qas_md:Mode U:=mdG ⟨⟨[0],[],[]⟩,[.t .str],[]⟩ [] [⟨⟨[0,1],[],[]⟩,[.t (.st 94),.t (.int .i64)],[]⟩] [.str] [[.st 94,.int .i64]] qas
theorem qas_post:zaad kk env0 92 qas_md:=
  fnG (fn:=Tryz.f92) (ko known21) (by kernel_rfl) (L:=noL) (zaab (bs:=[]) (by kernel_rfl) trivial) (zaaa _) (by kernel_rfl)
def ms22:List (FuncId×Mode U):=(92,qas_md)::ms21
theorem known22:Known kk env0 (zaac ms22):=known_cons (by kernel_rfl) qas_post known21
def qam_b6:Code:=(zaak (zaag Tryz.f78) 0)
def qam_lp6:Lift.Loop U:=lpG ⟨⟨[0,3,6,7],[3],[⟨.slot 6,6,94,(.st 94)⟩]⟩,[.t .str,.ptr 3 0,.oslc 6,.t (.int .i64)],[.blk 90 [.t (.int .i64),.t (.int .i64),.t .str],.row 94 (.st 94)]⟩ [⟨.ret,⟨⟨[2,3],[3],[]⟩,[.nil,.ptr 3 0],[.blk 90 [.t (.int .i64),.t (.int .i64),.t .str]]⟩⟩,⟨.exit 0,⟨⟨[0,3,6],[3],[⟨.slot 6,6,94,(.st 94)⟩]⟩,[.t .str,.ptr 3 0,.oslc 6],[.blk 90 [.t (.int .i64),.t (.int .i64),.t .str],.row 94 (.st 94)]⟩⟩] [.str,.int .i64,.int .i64,.int .i64,.str,.slc (.st 94)] [[.int .i64,.int .i64,.str],[.str,.int .i64,.int .i64,.str,.slc (.st 94)]] qam_l6
theorem qam_ok6:LoopR kk env0 Tryz.f78.ntmps qam_b6 qam_lp6:=
  loopG qam_i6 qam_t6 (ko known22) (L:=noL) (zaab (bs:=[]) (by kernel_rfl) trivial) (by kernel_rfl) (fun _=>by kernel_rfl) (zaaa _) (fun _=>by kernel_rfl)
def qam_L:Nat→Option (Lift.Loop U):=fun n=>bif Nat.beq n 6 then some qam_lp6 else none
def qam_md:Mode U:=mdG ⟨⟨[0],[],[]⟩,[.t .str],[]⟩ [] [⟨⟨[0,1],[],[⟨.slot 0,100050,94,(.st 94)⟩]⟩,[.oslc 100050,.t (.st 90)],[.row 94 (.st 94)]⟩] [.str] [[.st 90,.slc (.st 94)]] qam
theorem qam_post:zaad kk env0 78 qam_md:=
  fnG (fn:=Tryz.f78) (ko known22) (by kernel_rfl) (L:=qam_L) (zaab (bs:=[qam_b6]) (by kernel_rfl) ⟨.inr ⟨_,by kernel_rfl,zaal.of_round (qam_ok6)⟩,trivial⟩) (zaaa _) (by kernel_rfl)
def ms23:List (FuncId×Mode U):=(78,qam_md)::ms22
theorem known23:Known kk env0 (zaac ms23):=known_cons (by kernel_rfl) qam_post known22
def qbf_md:Mode U:=mdG ⟨⟨[0],[],[]⟩,[.t .str],[]⟩ [] [⟨⟨[0],[],[]⟩,[.t .bool],[]⟩] [.str] [[.bool]] qbf
theorem qbf_post:zaad kk env0 58 qbf_md:=
  fnG (fn:=Tryz.f58) (ko known23) (by kernel_rfl) (L:=jnL) (zaab (bs:=[]) (by kernel_rfl) trivial) (zaaa _) (by kernel_rfl)
def ms24:List (FuncId×Mode U):=(58,qbf_md)::ms23
theorem known24:Known kk env0 (zaac ms24):=known_cons (by kernel_rfl) qbf_post known23
def qbn_md:Mode U:=mdG ⟨⟨[],[],[]⟩,[],[]⟩ [] [⟨⟨[0],[],[]⟩,[.t (.map (.int .i64) (.st 96))],[]⟩] [] [[.map (.int .i64) (.st 96)]] qbn
theorem qbn_post:zaad kk env0 79 qbn_md:=
  fnG (fn:=Tryz.f79) (ko known24) (by kernel_rfl) (L:=jnL) (zaab (bs:=[]) (by kernel_rfl) trivial) (zaaa _) (by kernel_rfl)
def ms25:List (FuncId×Mode U):=(79,qbn_md)::ms24
theorem known25:Known kk env0 (zaac ms25):=known_cons (by kernel_rfl) qbn_post known24
def qbe_md:Mode U:=mdG ⟨⟨[0,1],[],[]⟩,[.t .str,.t .bool],[]⟩ [] [⟨⟨[0],[],[]⟩,[.t .bool],[]⟩] [.str,.bool] [[.bool]] qbe
theorem qbe_post:zaad kk env0 80 qbe_md:=
  fnG (fn:=Tryz.f80) (ko known25) (by kernel_rfl) (L:=jnL) (zaab (bs:=[]) (by kernel_rfl) trivial) (zaaa _) (by kernel_rfl)
def ms26:List (FuncId×Mode U):=(80,qbe_md)::ms25
theorem known26:Known kk env0 (zaac ms26):=known_cons (by kernel_rfl) qbe_post known25
def qbo_md:Mode U:=mdG ⟨⟨[0],[],[]⟩,[.t (.st 43)],[]⟩ [] [⟨⟨[0],[],[]⟩,[.t .bool],[]⟩] [.st 43] [[.bool]] qbo
theorem qbo_post:zaad kk env0 60 qbo_md:=
  fnG (fn:=Tryz.f60) (ko known26) (by kernel_rfl) (L:=jnL) (zaab (bs:=[]) (by kernel_rfl) trivial) (zaaa _) (by kernel_rfl)
def ms27:List (FuncId×Mode U):=(60,qbo_md)::ms26
theorem known27:Known kk env0 (zaac ms27):=known_cons (by kernel_rfl) qbo_post known26
def qbc_md:Mode U:=mdG ⟨⟨[0,1,2],[100000],[]⟩,[.t (.st 43),.t (.int .i64),.ptr 100000 0],[.blk 4 [.t .bool]]⟩ [⟨100000,.slot 2,[]⟩] [⟨⟨[],[100000],[]⟩,[],[.blk 4 [.t .bool]]⟩] [.st 43,.int .i64,.bool] [[.bool]] qbc
theorem qbc_post:zaad kk env0 59 qbc_md:=
  fnG (fn:=Tryz.f59) (ko known27) (by kernel_rfl) (L:=jnL) (zaab (bs:=[]) (by kernel_rfl) trivial) (zaaa _) (by kernel_rfl)
def ms28:List (FuncId×Mode U):=(59,qbc_md)::ms27
theorem known28:Known kk env0 (zaac ms28):=known_cons (by kernel_rfl) qbc_post known27
def qba_md:Mode U:=mdG ⟨⟨[0],[],[]⟩,[.t (.st 41)],[]⟩ [] [⟨⟨[0],[],[]⟩,[.t .bool],[]⟩] [.st 41] [[.bool]] qba
theorem qba_post:zaad kk env0 62 qba_md:=
  fnG (fn:=Tryz.f62) (ko known28) (by kernel_rfl) (L:=jnL) (zaab (bs:=[]) (by kernel_rfl) trivial) (zaaa _) (by kernel_rfl)
def ms29:List (FuncId×Mode U):=(62,qba_md)::ms28
theorem known29:Known kk env0 (zaac ms29):=known_cons (by kernel_rfl) qba_post known28
def qbd_md:Mode U:=mdG ⟨⟨[0,1,2],[100000],[]⟩,[.t (.st 41),.t (.int .i64),.ptr 100000 0],[.blk 4 [.t .bool]]⟩ [⟨100000,.slot 2,[]⟩] [⟨⟨[],[100000],[]⟩,[],[.blk 4 [.t .bool]]⟩] [.st 41,.int .i64,.bool] [[.bool]] qbd
theorem qbd_post:zaad kk env0 61 qbd_md:=
  fnG (fn:=Tryz.f61) (ko known29) (by kernel_rfl) (L:=jnL) (zaab (bs:=[]) (by kernel_rfl) trivial) (zaaa _) (by kernel_rfl)
def ms30:List (FuncId×Mode U):=(61,qbd_md)::ms29
theorem known30:Known kk env0 (zaac ms30):=known_cons (by kernel_rfl) qbd_post known29
abbrev qaa_tr:Type:=curT U (sumT U [[.bool]]) [.st 41,.int .i64,.bool]
def qaa_rmd (rec_qaa:qaa_tr):Mode U:=mdG ⟨⟨[0,1,2],[100000],[]⟩,[.agg [.clo 59 [.ptr 100000 0],.clo 61 [.ptr 100000 0]],.t (.st 41),.t (.int .i64)],[.blk 4 [.t .bool]]⟩ [⟨100000,.slot 0,[0,0]⟩] [⟨⟨[],[100000],[]⟩,[],[.blk 4 [.t .bool]]⟩] [.st 41,.int .i64,.bool] [[.bool]] rec_qaa
abbrev qaa_rec (r:qaa_tr):Prop:=zaad kk env0 81 (qaa_rmd r)
def ms31 (rec_qaa:qaa_tr):List (FuncId×Mode U):=(81,(qaa_rmd rec_qaa))::ms30
theorem known31 (rec_qaa:qaa_tr) (hrec_qaa:qaa_rec rec_qaa):Known kk env0 (zaac (ms31 rec_qaa)):=known_cons (by kernel_rfl) hrec_qaa known30
def qaa_b3:Code:=(zaak (zaag Tryz.f81) 0)
def qaa_lp3 (rec_qaa:qaa_tr):Lift.Loop U:=lpG ⟨⟨[2,3,14,15,16],[100000,3],[]⟩,[.t (.int .i64),.ptr 3 0,.t (.slc (.st 41)),.t (.int .i64),.t (.int .i64)],[.blk 4 [.t .bool],.blk 52 [.clo 59 [.ptr 100000 0],.clo 61 [.ptr 100000 0]]]⟩ [⟨.exit 0,⟨⟨[],[100000],[]⟩,[],[.blk 4 [.t .bool]]⟩⟩] [.int .i64,.slc (.st 41),.int .i64,.int .i64,.bool] [[.bool]] (qaa_l3 rec_qaa)
theorem qaa_ok3 (rec_qaa:qaa_tr) (hrec_qaa:qaa_rec rec_qaa):LoopR kk env0 Tryz.f81.ntmps qaa_b3 (qaa_lp3 rec_qaa):=
  loopG (qaa_i3 rec_qaa) (qaa_t3 rec_qaa) (ko (known31 rec_qaa hrec_qaa)) (L:=jnL) (zaab (bs:=[]) (by kernel_rfl) trivial) (by kernel_rfl) (fun _=>by kernel_rfl) (zaaa _) (fun _=>by kernel_rfl)
def qaa_L (rec_qaa:qaa_tr):Nat→Option (Lift.Loop U):=fun n=>bif Nat.beq n zaap then some zaao else bif Nat.beq n 3 then some (qaa_lp3 rec_qaa) else none
def qaa_md:Mode U:=qaa_rmd qaa
theorem qaa_step (rec_qaa:qaa_tr) (hrec_qaa:qaa_rec rec_qaa):zaa0 (Kit.withModes kk (zaac (ms31 rec_qaa))) env0 Tryz.f81.ntmps (qaa_L rec_qaa) (zaag Tryz.f81):=zaab (bs:=[qaa_b3]) (by kernel_rfl) ⟨.inr ⟨_,by kernel_rfl,zaal.of_round (qaa_ok3 rec_qaa hrec_qaa)⟩,trivial⟩
theorem qaa_post:zaad kk env0 81 (qaa_rmd qaa):=
  recG qaa_i qaa_f (by kernel_rfl) (fun _=>by kernel_rfl) (zaaa _) fun r ih=>fnG (fn:=Tryz.f81) (ko (known31 r ih)) (by kernel_rfl) (qaa_step r ih) rfl (by kernel_rfl)
def ms32:List (FuncId×Mode U):=(81,qaa_md)::ms30
theorem known32:Known kk env0 (zaac ms32):=known_cons (by kernel_rfl) qaa_post known30
abbrev qai_tr:Type:=curT U (sumT U [[.bool]]) [.slc (.st 43),.int .i64,.bool]
def qai_rmd (rec_qai:qai_tr):Mode U:=mdG ⟨⟨[0,1,2],[100000],[]⟩,[.agg [.clo 59 [.ptr 100000 0],.clo 61 [.ptr 100000 0]],.t (.slc (.st 43)),.t (.int .i64)],[.blk 4 [.t .bool]]⟩ [⟨100000,.slot 0,[0,0]⟩] [⟨⟨[],[100000],[]⟩,[],[.blk 4 [.t .bool]]⟩] [.slc (.st 43),.int .i64,.bool] [[.bool]] rec_qai
abbrev qai_rec (r:qai_tr):Prop:=zaad kk env0 64 (qai_rmd r)
def ms33 (rec_qai:qai_tr):List (FuncId×Mode U):=(64,(qai_rmd rec_qai))::ms32
theorem known33 (rec_qai:qai_tr) (hrec_qai:qai_rec rec_qai):Known kk env0 (zaac (ms33 rec_qai)):=known_cons (by kernel_rfl) hrec_qai known32
def qai_b2:Code:=(zaak (zaag Tryz.f64) 0)
def qai_lp2 (rec_qai:qai_tr):Lift.Loop U:=lpG ⟨⟨[2,3,8,9,10],[100000,3],[]⟩,[.t (.int .i64),.ptr 3 0,.t (.slc (.st 43)),.t (.int .i64),.t (.int .i64)],[.blk 4 [.t .bool],.blk 52 [.clo 59 [.ptr 100000 0],.clo 61 [.ptr 100000 0]]]⟩ [⟨.exit 0,⟨⟨[],[100000],[]⟩,[],[.blk 4 [.t .bool]]⟩⟩] [.int .i64,.slc (.st 43),.int .i64,.int .i64,.bool] [[.bool]] (qai_l2 rec_qai)
theorem qai_ok2 (rec_qai:qai_tr) (hrec_qai:qai_rec rec_qai):LoopR kk env0 Tryz.f64.ntmps qai_b2 (qai_lp2 rec_qai):=
  loopG (qai_i2 rec_qai) (qai_t2 rec_qai) (ko (known33 rec_qai hrec_qai)) (L:=jnL) (zaab (bs:=[]) (by kernel_rfl) trivial) (by kernel_rfl) (fun _=>by kernel_rfl) (zaaa _) (fun _=>by kernel_rfl)
def qai_L (rec_qai:qai_tr):Nat→Option (Lift.Loop U):=fun n=>bif Nat.beq n zaap then some zaao else bif Nat.beq n 2 then some (qai_lp2 rec_qai) else none
def qai_md:Mode U:=qai_rmd qai
theorem qai_step (rec_qai:qai_tr) (hrec_qai:qai_rec rec_qai):zaa0 (Kit.withModes kk (zaac (ms33 rec_qai))) env0 Tryz.f64.ntmps (qai_L rec_qai) (zaag Tryz.f64):=zaab (bs:=[qai_b2]) (by kernel_rfl) ⟨.inr ⟨_,by kernel_rfl,zaal.of_round (qai_ok2 rec_qai hrec_qai)⟩,trivial⟩
theorem qai_post:zaad kk env0 64 (qai_rmd qai):=
  recG qai_i qai_f (by kernel_rfl) (fun _=>by kernel_rfl) (zaaa _) fun r ih=>fnG (fn:=Tryz.f64) (ko (known33 r ih)) (by kernel_rfl) (qai_step r ih) rfl (by kernel_rfl)
def ms34:List (FuncId×Mode U):=(64,qai_md)::ms32
theorem known34:Known kk env0 (zaac ms34):=known_cons (by kernel_rfl) qai_post known32
def qae_b2:Code:=(zaak (zaag Tryz.f29) 0)
def qae_lp2:Lift.Loop U:=lpG ⟨⟨[2,7,8,9],[100000,2],[]⟩,[.ptr 2 0,.t (.slc (.st 38)),.t (.int .i64),.t (.int .i64)],[.blk 4 [.t .bool],.blk 52 [.clo 59 [.ptr 100000 0],.clo 61 [.ptr 100000 0]]]⟩ [⟨.exit 0,⟨⟨[],[100000],[]⟩,[],[.blk 4 [.t .bool]]⟩⟩] [.slc (.st 38),.int .i64,.int .i64,.bool] [[.bool]] qae_l2
theorem qae_ok2:LoopR kk env0 Tryz.f29.ntmps qae_b2 qae_lp2:=
  loopG qae_i2 qae_t2 (ko known34) (L:=jnL) (zaab (bs:=[]) (by kernel_rfl) trivial) (by kernel_rfl) (fun _=>by kernel_rfl) (zaaa _) (fun _=>by kernel_rfl)
def qae_L:Nat→Option (Lift.Loop U):=fun n=>bif Nat.beq n zaap then some zaao else bif Nat.beq n 2 then some qae_lp2 else none
def qae_md:Mode U:=mdG ⟨⟨[0,1],[100000],[]⟩,[.agg [.clo 59 [.ptr 100000 0],.clo 61 [.ptr 100000 0]],.t (.st 26)],[.blk 4 [.t .bool]]⟩ [⟨100000,.slot 0,[0,0]⟩] [⟨⟨[],[100000],[]⟩,[],[.blk 4 [.t .bool]]⟩] [.st 26,.bool] [[.bool]] qae
theorem qae_post:zaad kk env0 29 qae_md:=
  fnG (fn:=Tryz.f29) (ko known34) (by kernel_rfl) (L:=qae_L) (zaab (bs:=[qae_b2]) (by kernel_rfl) ⟨.inr ⟨_,by kernel_rfl,zaal.of_round (qae_ok2)⟩,trivial⟩) (zaaa _) (by kernel_rfl)
def ms35:List (FuncId×Mode U):=(29,qae_md)::ms34
theorem known35:Known kk env0 (zaac ms35):=known_cons (by kernel_rfl) qae_post known34
def qbb_b3:Code:=(zaak (zaag Tryz.f25) 0)
def qbb_lp3:Lift.Loop U:=lpG ⟨⟨[1,3,11,12,13],[1,3],[]⟩,[.ptr 1 0,.ptr 3 0,.t (.slc (.st 46)),.t (.int .i64),.t (.int .i64)],[.blk 26 [.t (.slc (.st 46)),.t (.slc .str),.t (.slc (.st 38))],.blk 4 [.t .bool]]⟩ [⟨.exit 0,⟨⟨[1,3],[1,3],[]⟩,[.ptr 1 0,.ptr 3 0],[.blk 26 [.t (.slc (.st 46)),.t (.slc .str),.t (.slc (.st 38))],.blk 4 [.t .bool]]⟩⟩] [.slc (.st 46),.int .i64,.int .i64,.slc (.st 46),.slc .str,.slc (.st 38),.bool] [[.slc (.st 46),.slc .str,.slc (.st 38),.bool]] qbb_l3
theorem qbb_ok3:LoopR kk env0 Tryz.f25.ntmps qbb_b3 qbb_lp3:=
  loopG qbb_i3 qbb_t3 (ko known35) (L:=jnL) (zaab (bs:=[]) (by kernel_rfl) trivial) (by kernel_rfl) (fun _=>by kernel_rfl) (zaaa _) (fun _=>by kernel_rfl)
def qbb_b8:Code:=(zaak (zaag Tryz.f25) 1)
def qbb_lp8:Lift.Loop U:=lpG ⟨⟨[1,3,35,36,37],[1,3],[]⟩,[.ptr 1 0,.ptr 3 0,.t (.slc .str),.t (.int .i64),.t (.int .i64)],[.blk 26 [.t (.slc (.st 46)),.t (.slc .str),.t (.slc (.st 38))],.blk 4 [.t .bool]]⟩ [⟨.exit 2,⟨⟨[1,3],[1,3],[]⟩,[.ptr 1 0,.ptr 3 0],[.blk 26 [.t (.slc (.st 46)),.t (.slc .str),.t (.slc (.st 38))],.blk 4 [.t .bool]]⟩⟩] [.slc .str,.int .i64,.int .i64,.slc (.st 46),.slc .str,.slc (.st 38),.bool] [[.slc (.st 46),.slc .str,.slc (.st 38),.bool]] qbb_l8
theorem qbb_ok8:LoopR kk env0 Tryz.f25.ntmps qbb_b8 qbb_lp8:=
  loopG qbb_i8 qbb_t8 (ko known35) (L:=jnL) (zaab (bs:=[]) (by kernel_rfl) trivial) (by kernel_rfl) (fun _=>by kernel_rfl) (zaaa _) (fun _=>by kernel_rfl)
def qbb_b13:Code:=(zaak (zaag Tryz.f25) 2)
def qbb_lp13:Lift.Loop U:=lpG ⟨⟨[1,3,48,49,50],[1,3],[]⟩,[.ptr 1 0,.ptr 3 0,.t (.slc (.st 38)),.t (.int .i64),.t (.int .i64)],[.blk 26 [.t (.slc (.st 46)),.t (.slc .str),.t (.slc (.st 38))],.blk 4 [.t .bool]]⟩ [⟨.exit 4,⟨⟨[1,3],[1,3],[]⟩,[.ptr 1 0,.ptr 3 0],[.blk 26 [.t (.slc (.st 46)),.t (.slc .str),.t (.slc (.st 38))],.blk 4 [.t .bool]]⟩⟩] [.slc (.st 38),.int .i64,.int .i64,.slc (.st 46),.slc .str,.slc (.st 38),.bool] [[.slc (.st 46),.slc .str,.slc (.st 38),.bool]] qbb_l13
theorem qbb_ok13:LoopR kk env0 Tryz.f25.ntmps qbb_b13 qbb_lp13:=
  loopG qbb_i13 qbb_t13 (ko known35) (L:=jnL) (zaab (bs:=[]) (by kernel_rfl) trivial) (by kernel_rfl) (fun _=>by kernel_rfl) (zaaa _) (fun _=>by kernel_rfl)
def qbb_L:Nat→Option (Lift.Loop U):=fun n=>bif Nat.beq n zaap then some zaao else bif Nat.beq n 3 then some qbb_lp3 else bif Nat.beq n 8 then some qbb_lp8 else bif Nat.beq n 13 then some qbb_lp13 else none
def qbb_md:Mode U:=mdG ⟨⟨[0],[],[]⟩,[.t (.st 26)],[]⟩ [] [⟨⟨[0],[],[]⟩,[.t .bool],[]⟩] [.st 26] [[.bool]] qbb
theorem qbb_post:zaad kk env0 25 qbb_md:=
  fnG (fn:=Tryz.f25) (ko known35) (by kernel_rfl) (L:=qbb_L) (zaab (bs:=[qbb_b3,qbb_b8,qbb_b13]) (by kernel_rfl) ⟨.inr ⟨_,by kernel_rfl,zaal.of_round (qbb_ok3)⟩,.inr ⟨_,by kernel_rfl,zaal.of_round (qbb_ok8)⟩,.inr ⟨_,by kernel_rfl,zaal.of_round (qbb_ok13)⟩,trivial⟩) (zaaa _) (by kernel_rfl)
def ms36:List (FuncId×Mode U):=(25,qbb_md)::ms35
theorem known36:Known kk env0 (zaac ms36):=known_cons (by kernel_rfl) qbb_post known35
def qaZ_md:Mode U:=mdG ⟨⟨[0,1,2],[100000],[]⟩,[.t (.st 43),.t (.int .i64),.ptr 100000 0],[.blk 3 [.t (.int .i64)]]⟩ [⟨100000,.slot 2,[]⟩] [⟨⟨[],[100000],[]⟩,[],[.blk 3 [.t (.int .i64)]]⟩] [.st 43,.int .i64,.int .i64] [[.int .i64]] qaZ
theorem qaZ_post:zaad kk env0 30 qaZ_md:=
  fnG (fn:=Tryz.f30) (ko known36) (by kernel_rfl) (L:=jnL) (zaab (bs:=[]) (by kernel_rfl) trivial) (zaaa _) (by kernel_rfl)
def ms37:List (FuncId×Mode U):=(30,qaZ_md)::ms36
theorem known37:Known kk env0 (zaac ms37):=known_cons (by kernel_rfl) qaZ_post known36
def qa0_md:Mode U:=mdG ⟨⟨[0,1,2],[100000],[]⟩,[.t (.st 41),.t (.int .i64),.ptr 100000 0],[.blk 3 [.t (.int .i64)]]⟩ [⟨100000,.slot 2,[]⟩] [⟨⟨[],[100000],[]⟩,[],[.blk 3 [.t (.int .i64)]]⟩] [.st 41,.int .i64,.int .i64] [[.int .i64]] qa0
theorem qa0_post:zaad kk env0 31 qa0_md:=
  fnG (fn:=Tryz.f31) (ko known37) (by kernel_rfl) (L:=jnL) (zaab (bs:=[]) (by kernel_rfl) trivial) (zaaa _) (by kernel_rfl)
def ms38:List (FuncId×Mode U):=(31,qa0_md)::ms37
theorem known38:Known kk env0 (zaac ms38):=known_cons (by kernel_rfl) qa0_post known37
abbrev qab_tr:Type:=curT U (sumT U [[.int .i64]]) [.st 41,.int .i64,.int .i64]
def qab_rmd (rec_qab:qab_tr):Mode U:=mdG ⟨⟨[0,1,2],[100000],[]⟩,[.agg [.clo 30 [.ptr 100000 0],.clo 31 [.ptr 100000 0]],.t (.st 41),.t (.int .i64)],[.blk 3 [.t (.int .i64)]]⟩ [⟨100000,.slot 0,[0,0]⟩] [⟨⟨[],[100000],[]⟩,[],[.blk 3 [.t (.int .i64)]]⟩] [.st 41,.int .i64,.int .i64] [[.int .i64]] rec_qab
abbrev qab_rec (r:qab_tr):Prop:=zaad kk env0 81 (qab_rmd r)
def ms39 (rec_qab:qab_tr):List (FuncId×Mode U):=(81,(qab_rmd rec_qab))::ms38
theorem known39 (rec_qab:qab_tr) (hrec_qab:qab_rec rec_qab):Known kk env0 (zaac (ms39 rec_qab)):=known_cons (by kernel_rfl) hrec_qab known38
def qab_b3:Code:=(zaak (zaag Tryz.f81) 0)
def qab_lp3 (rec_qab:qab_tr):Lift.Loop U:=lpG ⟨⟨[2,3,14,15,16],[100000,3],[]⟩,[.t (.int .i64),.ptr 3 0,.t (.slc (.st 41)),.t (.int .i64),.t (.int .i64)],[.blk 3 [.t (.int .i64)],.blk 52 [.clo 30 [.ptr 100000 0],.clo 31 [.ptr 100000 0]]]⟩ [⟨.exit 0,⟨⟨[],[100000],[]⟩,[],[.blk 3 [.t (.int .i64)]]⟩⟩] [.int .i64,.slc (.st 41),.int .i64,.int .i64,.int .i64] [[.int .i64]] (qab_l3 rec_qab)
theorem qab_ok3 (rec_qab:qab_tr) (hrec_qab:qab_rec rec_qab):LoopR kk env0 Tryz.f81.ntmps qab_b3 (qab_lp3 rec_qab):=
  loopG (qab_i3 rec_qab) (qab_t3 rec_qab) (ko (known39 rec_qab hrec_qab)) (L:=jnL) (zaab (bs:=[]) (by kernel_rfl) trivial) (by kernel_rfl) (fun _=>by kernel_rfl) (zaaa _) (fun _=>by kernel_rfl)
def qab_L (rec_qab:qab_tr):Nat→Option (Lift.Loop U):=fun n=>bif Nat.beq n zaap then some zaao else bif Nat.beq n 3 then some (qab_lp3 rec_qab) else none
def qab_md:Mode U:=qab_rmd qab
theorem qab_step (rec_qab:qab_tr) (hrec_qab:qab_rec rec_qab):zaa0 (Kit.withModes kk (zaac (ms39 rec_qab))) env0 Tryz.f81.ntmps (qab_L rec_qab) (zaag Tryz.f81):=zaab (bs:=[qab_b3]) (by kernel_rfl) ⟨.inr ⟨_,by kernel_rfl,zaal.of_round (qab_ok3 rec_qab hrec_qab)⟩,trivial⟩
theorem qab_post:zaad kk env0 81 (qab_rmd qab):=
  recG qab_i qab_f (by kernel_rfl) (fun _=>by kernel_rfl) (zaaa _) fun r ih=>fnG (fn:=Tryz.f81) (ko (known39 r ih)) (by kernel_rfl) (qab_step r ih) rfl (by kernel_rfl)
def ms40:List (FuncId×Mode U):=(81,qab_md)::ms38
theorem known40:Known kk env0 (zaac ms40):=known_cons (by kernel_rfl) qab_post known38
abbrev qaj_tr:Type:=curT U (sumT U [[.int .i64]]) [.slc (.st 43),.int .i64,.int .i64]
def qaj_rmd (rec_qaj:qaj_tr):Mode U:=mdG ⟨⟨[0,1,2],[100000],[]⟩,[.agg [.clo 30 [.ptr 100000 0],.clo 31 [.ptr 100000 0]],.t (.slc (.st 43)),.t (.int .i64)],[.blk 3 [.t (.int .i64)]]⟩ [⟨100000,.slot 0,[0,0]⟩] [⟨⟨[],[100000],[]⟩,[],[.blk 3 [.t (.int .i64)]]⟩] [.slc (.st 43),.int .i64,.int .i64] [[.int .i64]] rec_qaj
abbrev qaj_rec (r:qaj_tr):Prop:=zaad kk env0 64 (qaj_rmd r)
def ms41 (rec_qaj:qaj_tr):List (FuncId×Mode U):=(64,(qaj_rmd rec_qaj))::ms40
theorem known41 (rec_qaj:qaj_tr) (hrec_qaj:qaj_rec rec_qaj):Known kk env0 (zaac (ms41 rec_qaj)):=known_cons (by kernel_rfl) hrec_qaj known40
def qaj_b2:Code:=(zaak (zaag Tryz.f64) 0)
def qaj_lp2 (rec_qaj:qaj_tr):Lift.Loop U:=lpG ⟨⟨[2,3,8,9,10],[100000,3],[]⟩,[.t (.int .i64),.ptr 3 0,.t (.slc (.st 43)),.t (.int .i64),.t (.int .i64)],[.blk 3 [.t (.int .i64)],.blk 52 [.clo 30 [.ptr 100000 0],.clo 31 [.ptr 100000 0]]]⟩ [⟨.exit 0,⟨⟨[],[100000],[]⟩,[],[.blk 3 [.t (.int .i64)]]⟩⟩] [.int .i64,.slc (.st 43),.int .i64,.int .i64,.int .i64] [[.int .i64]] (qaj_l2 rec_qaj)
theorem qaj_ok2 (rec_qaj:qaj_tr) (hrec_qaj:qaj_rec rec_qaj):LoopR kk env0 Tryz.f64.ntmps qaj_b2 (qaj_lp2 rec_qaj):=
  loopG (qaj_i2 rec_qaj) (qaj_t2 rec_qaj) (ko (known41 rec_qaj hrec_qaj)) (L:=jnL) (zaab (bs:=[]) (by kernel_rfl) trivial) (by kernel_rfl) (fun _=>by kernel_rfl) (zaaa _) (fun _=>by kernel_rfl)
def qaj_L (rec_qaj:qaj_tr):Nat→Option (Lift.Loop U):=fun n=>bif Nat.beq n zaap then some zaao else bif Nat.beq n 2 then some (qaj_lp2 rec_qaj) else none
def qaj_md:Mode U:=qaj_rmd qaj
theorem qaj_step (rec_qaj:qaj_tr) (hrec_qaj:qaj_rec rec_qaj):zaa0 (Kit.withModes kk (zaac (ms41 rec_qaj))) env0 Tryz.f64.ntmps (qaj_L rec_qaj) (zaag Tryz.f64):=zaab (bs:=[qaj_b2]) (by kernel_rfl) ⟨.inr ⟨_,by kernel_rfl,zaal.of_round (qaj_ok2 rec_qaj hrec_qaj)⟩,trivial⟩
theorem qaj_post:zaad kk env0 64 (qaj_rmd qaj):=
  recG qaj_i qaj_f (by kernel_rfl) (fun _=>by kernel_rfl) (zaaa _) fun r ih=>fnG (fn:=Tryz.f64) (ko (known41 r ih)) (by kernel_rfl) (qaj_step r ih) rfl (by kernel_rfl)
def ms42:List (FuncId×Mode U):=(64,qaj_md)::ms40
theorem known42:Known kk env0 (zaac ms42):=known_cons (by kernel_rfl) qaj_post known40
def qaf_b2:Code:=(zaak (zaag Tryz.f29) 0)
def qaf_lp2:Lift.Loop U:=lpG ⟨⟨[2,7,8,9],[100000,2],[]⟩,[.ptr 2 0,.t (.slc (.st 38)),.t (.int .i64),.t (.int .i64)],[.blk 3 [.t (.int .i64)],.blk 52 [.clo 30 [.ptr 100000 0],.clo 31 [.ptr 100000 0]]]⟩ [⟨.exit 0,⟨⟨[],[100000],[]⟩,[],[.blk 3 [.t (.int .i64)]]⟩⟩] [.slc (.st 38),.int .i64,.int .i64,.int .i64] [[.int .i64]] qaf_l2
theorem qaf_ok2:LoopR kk env0 Tryz.f29.ntmps qaf_b2 qaf_lp2:=
  loopG qaf_i2 qaf_t2 (ko known42) (L:=jnL) (zaab (bs:=[]) (by kernel_rfl) trivial) (by kernel_rfl) (fun _=>by kernel_rfl) (zaaa _) (fun _=>by kernel_rfl)
def qaf_L:Nat→Option (Lift.Loop U):=fun n=>bif Nat.beq n zaap then some zaao else bif Nat.beq n 2 then some qaf_lp2 else none
def qaf_md:Mode U:=mdG ⟨⟨[0,1],[100000],[]⟩,[.agg [.clo 30 [.ptr 100000 0],.clo 31 [.ptr 100000 0]],.t (.st 26)],[.blk 3 [.t (.int .i64)]]⟩ [⟨100000,.slot 0,[0,0]⟩] [⟨⟨[],[100000],[]⟩,[],[.blk 3 [.t (.int .i64)]]⟩] [.st 26,.int .i64] [[.int .i64]] qaf
theorem qaf_post:zaad kk env0 29 qaf_md:=
  fnG (fn:=Tryz.f29) (ko known42) (by kernel_rfl) (L:=qaf_L) (zaab (bs:=[qaf_b2]) (by kernel_rfl) ⟨.inr ⟨_,by kernel_rfl,zaal.of_round (qaf_ok2)⟩,trivial⟩) (zaaa _) (by kernel_rfl)
def ms43:List (FuncId×Mode U):=(29,qaf_md)::ms42
theorem known43:Known kk env0 (zaac ms43):=known_cons (by kernel_rfl) qaf_post known42
def qaY_md:Mode U:=mdG ⟨⟨[0],[],[]⟩,[.t (.st 26)],[]⟩ [] [⟨⟨[0],[],[]⟩,[.t (.int .i64)],[]⟩] [.st 26] [[.int .i64]] qaY
theorem qaY_post:zaad kk env0 15 qaY_md:=
  fnG (fn:=Tryz.f15) (ko known43) (by kernel_rfl) (L:=jnL) (zaab (bs:=[]) (by kernel_rfl) trivial) (zaaa _) (by kernel_rfl)
def ms44:List (FuncId×Mode U):=(15,qaY_md)::ms43
theorem known44:Known kk env0 (zaac ms44):=known_cons (by kernel_rfl) qaY_post known43
def qaW_md:Mode U:=mdG ⟨⟨[0,1,2],[100000],[]⟩,[.t (.st 43),.t (.int .i64),.ptr 100000 0],[.blk 3 [.t (.int .i64)]]⟩ [⟨100000,.slot 2,[]⟩] [⟨⟨[],[100000],[]⟩,[],[.blk 3 [.t (.int .i64)]]⟩] [.st 43,.int .i64,.int .i64] [[.int .i64]] qaW
theorem qaW_post:zaad kk env0 27 qaW_md:=
  fnG (fn:=Tryz.f27) (ko known44) (by kernel_rfl) (L:=jnL) (zaab (bs:=[]) (by kernel_rfl) trivial) (zaaa _) (by kernel_rfl)
def ms45:List (FuncId×Mode U):=(27,qaW_md)::ms44
theorem known45:Known kk env0 (zaac ms45):=known_cons (by kernel_rfl) qaW_post known44
def qaX_md:Mode U:=mdG ⟨⟨[0,1,2],[100000],[]⟩,[.t (.st 41),.t (.int .i64),.ptr 100000 0],[.blk 3 [.t (.int .i64)]]⟩ [⟨100000,.slot 2,[]⟩] [⟨⟨[],[100000],[]⟩,[],[.blk 3 [.t (.int .i64)]]⟩] [.st 41,.int .i64,.int .i64] [[.int .i64]] qaX
theorem qaX_post:zaad kk env0 28 qaX_md:=
  fnG (fn:=Tryz.f28) (ko known45) (by kernel_rfl) (L:=jnL) (zaab (bs:=[]) (by kernel_rfl) trivial) (zaaa _) (by kernel_rfl)
def ms46:List (FuncId×Mode U):=(28,qaX_md)::ms45
theorem known46:Known kk env0 (zaac ms46):=known_cons (by kernel_rfl) qaX_post known45
abbrev qac_tr:Type:=curT U (sumT U [[.int .i64]]) [.st 41,.int .i64,.int .i64]
def qac_rmd (rec_qac:qac_tr):Mode U:=mdG ⟨⟨[0,1,2],[100000],[]⟩,[.agg [.clo 27 [.ptr 100000 0],.clo 28 [.ptr 100000 0]],.t (.st 41),.t (.int .i64)],[.blk 3 [.t (.int .i64)]]⟩ [⟨100000,.slot 0,[0,0]⟩] [⟨⟨[],[100000],[]⟩,[],[.blk 3 [.t (.int .i64)]]⟩] [.st 41,.int .i64,.int .i64] [[.int .i64]] rec_qac
abbrev qac_rec (r:qac_tr):Prop:=zaad kk env0 81 (qac_rmd r)
def ms47 (rec_qac:qac_tr):List (FuncId×Mode U):=(81,(qac_rmd rec_qac))::ms46
theorem known47 (rec_qac:qac_tr) (hrec_qac:qac_rec rec_qac):Known kk env0 (zaac (ms47 rec_qac)):=known_cons (by kernel_rfl) hrec_qac known46
def qac_b3:Code:=(zaak (zaag Tryz.f81) 0)
def qac_lp3 (rec_qac:qac_tr):Lift.Loop U:=lpG ⟨⟨[2,3,14,15,16],[100000,3],[]⟩,[.t (.int .i64),.ptr 3 0,.t (.slc (.st 41)),.t (.int .i64),.t (.int .i64)],[.blk 3 [.t (.int .i64)],.blk 52 [.clo 27 [.ptr 100000 0],.clo 28 [.ptr 100000 0]]]⟩ [⟨.exit 0,⟨⟨[],[100000],[]⟩,[],[.blk 3 [.t (.int .i64)]]⟩⟩] [.int .i64,.slc (.st 41),.int .i64,.int .i64,.int .i64] [[.int .i64]] (qac_l3 rec_qac)
theorem qac_ok3 (rec_qac:qac_tr) (hrec_qac:qac_rec rec_qac):LoopR kk env0 Tryz.f81.ntmps qac_b3 (qac_lp3 rec_qac):=
  loopG (qac_i3 rec_qac) (qac_t3 rec_qac) (ko (known47 rec_qac hrec_qac)) (L:=jnL) (zaab (bs:=[]) (by kernel_rfl) trivial) (by kernel_rfl) (fun _=>by kernel_rfl) (zaaa _) (fun _=>by kernel_rfl)
def qac_L (rec_qac:qac_tr):Nat→Option (Lift.Loop U):=fun n=>bif Nat.beq n zaap then some zaao else bif Nat.beq n 3 then some (qac_lp3 rec_qac) else none
def qac_md:Mode U:=qac_rmd qac
theorem qac_step (rec_qac:qac_tr) (hrec_qac:qac_rec rec_qac):zaa0 (Kit.withModes kk (zaac (ms47 rec_qac))) env0 Tryz.f81.ntmps (qac_L rec_qac) (zaag Tryz.f81):=zaab (bs:=[qac_b3]) (by kernel_rfl) ⟨.inr ⟨_,by kernel_rfl,zaal.of_round (qac_ok3 rec_qac hrec_qac)⟩,trivial⟩
theorem qac_post:zaad kk env0 81 (qac_rmd qac):=
  recG qac_i qac_f (by kernel_rfl) (fun _=>by kernel_rfl) (zaaa _) fun r ih=>fnG (fn:=Tryz.f81) (ko (known47 r ih)) (by kernel_rfl) (qac_step r ih) rfl (by kernel_rfl)
def ms48:List (FuncId×Mode U):=(81,qac_md)::ms46
theorem known48:Known kk env0 (zaac ms48):=known_cons (by kernel_rfl) qac_post known46
abbrev qak_tr:Type:=curT U (sumT U [[.int .i64]]) [.slc (.st 43),.int .i64,.int .i64]
def qak_rmd (rec_qak:qak_tr):Mode U:=mdG ⟨⟨[0,1,2],[100000],[]⟩,[.agg [.clo 27 [.ptr 100000 0],.clo 28 [.ptr 100000 0]],.t (.slc (.st 43)),.t (.int .i64)],[.blk 3 [.t (.int .i64)]]⟩ [⟨100000,.slot 0,[0,0]⟩] [⟨⟨[],[100000],[]⟩,[],[.blk 3 [.t (.int .i64)]]⟩] [.slc (.st 43),.int .i64,.int .i64] [[.int .i64]] rec_qak
abbrev qak_rec (r:qak_tr):Prop:=zaad kk env0 64 (qak_rmd r)
def ms49 (rec_qak:qak_tr):List (FuncId×Mode U):=(64,(qak_rmd rec_qak))::ms48
theorem known49 (rec_qak:qak_tr) (hrec_qak:qak_rec rec_qak):Known kk env0 (zaac (ms49 rec_qak)):=known_cons (by kernel_rfl) hrec_qak known48
def qak_b2:Code:=(zaak (zaag Tryz.f64) 0)
def qak_lp2 (rec_qak:qak_tr):Lift.Loop U:=lpG ⟨⟨[2,3,8,9,10],[100000,3],[]⟩,[.t (.int .i64),.ptr 3 0,.t (.slc (.st 43)),.t (.int .i64),.t (.int .i64)],[.blk 3 [.t (.int .i64)],.blk 52 [.clo 27 [.ptr 100000 0],.clo 28 [.ptr 100000 0]]]⟩ [⟨.exit 0,⟨⟨[],[100000],[]⟩,[],[.blk 3 [.t (.int .i64)]]⟩⟩] [.int .i64,.slc (.st 43),.int .i64,.int .i64,.int .i64] [[.int .i64]] (qak_l2 rec_qak)
theorem qak_ok2 (rec_qak:qak_tr) (hrec_qak:qak_rec rec_qak):LoopR kk env0 Tryz.f64.ntmps qak_b2 (qak_lp2 rec_qak):=
  loopG (qak_i2 rec_qak) (qak_t2 rec_qak) (ko (known49 rec_qak hrec_qak)) (L:=jnL) (zaab (bs:=[]) (by kernel_rfl) trivial) (by kernel_rfl) (fun _=>by kernel_rfl) (zaaa _) (fun _=>by kernel_rfl)
def qak_L (rec_qak:qak_tr):Nat→Option (Lift.Loop U):=fun n=>bif Nat.beq n zaap then some zaao else bif Nat.beq n 2 then some (qak_lp2 rec_qak) else none
def qak_md:Mode U:=qak_rmd qak
theorem qak_step (rec_qak:qak_tr) (hrec_qak:qak_rec rec_qak):zaa0 (Kit.withModes kk (zaac (ms49 rec_qak))) env0 Tryz.f64.ntmps (qak_L rec_qak) (zaag Tryz.f64):=zaab (bs:=[qak_b2]) (by kernel_rfl) ⟨.inr ⟨_,by kernel_rfl,zaal.of_round (qak_ok2 rec_qak hrec_qak)⟩,trivial⟩
theorem qak_post:zaad kk env0 64 (qak_rmd qak):=
  recG qak_i qak_f (by kernel_rfl) (fun _=>by kernel_rfl) (zaaa _) fun r ih=>fnG (fn:=Tryz.f64) (ko (known49 r ih)) (by kernel_rfl) (qak_step r ih) rfl (by kernel_rfl)
def ms50:List (FuncId×Mode U):=(64,qak_md)::ms48
theorem known50:Known kk env0 (zaac ms50):=known_cons (by kernel_rfl) qak_post known48
def qag_b2:Code:=(zaak (zaag Tryz.f29) 0)
def qag_lp2:Lift.Loop U:=lpG ⟨⟨[2,7,8,9],[100000,2],[]⟩,[.ptr 2 0,.t (.slc (.st 38)),.t (.int .i64),.t (.int .i64)],[.blk 3 [.t (.int .i64)],.blk 52 [.clo 27 [.ptr 100000 0],.clo 28 [.ptr 100000 0]]]⟩ [⟨.exit 0,⟨⟨[],[100000],[]⟩,[],[.blk 3 [.t (.int .i64)]]⟩⟩] [.slc (.st 38),.int .i64,.int .i64,.int .i64] [[.int .i64]] qag_l2
theorem qag_ok2:LoopR kk env0 Tryz.f29.ntmps qag_b2 qag_lp2:=
  loopG qag_i2 qag_t2 (ko known50) (L:=jnL) (zaab (bs:=[]) (by kernel_rfl) trivial) (by kernel_rfl) (fun _=>by kernel_rfl) (zaaa _) (fun _=>by kernel_rfl)
def qag_L:Nat→Option (Lift.Loop U):=fun n=>bif Nat.beq n zaap then some zaao else bif Nat.beq n 2 then some qag_lp2 else none
def qag_md:Mode U:=mdG ⟨⟨[0,1],[100000],[]⟩,[.agg [.clo 27 [.ptr 100000 0],.clo 28 [.ptr 100000 0]],.t (.st 26)],[.blk 3 [.t (.int .i64)]]⟩ [⟨100000,.slot 0,[0,0]⟩] [⟨⟨[],[100000],[]⟩,[],[.blk 3 [.t (.int .i64)]]⟩] [.st 26,.int .i64] [[.int .i64]] qag
theorem qag_post:zaad kk env0 29 qag_md:=
  fnG (fn:=Tryz.f29) (ko known50) (by kernel_rfl) (L:=qag_L) (zaab (bs:=[qag_b2]) (by kernel_rfl) ⟨.inr ⟨_,by kernel_rfl,zaal.of_round (qag_ok2)⟩,trivial⟩) (zaaa _) (by kernel_rfl)
def ms51:List (FuncId×Mode U):=(29,qag_md)::ms50
theorem known51:Known kk env0 (zaac ms51):=known_cons (by kernel_rfl) qag_post known50
def qaV_md:Mode U:=mdG ⟨⟨[0],[],[]⟩,[.t (.st 26)],[]⟩ [] [⟨⟨[0],[],[]⟩,[.t (.int .i64)],[]⟩] [.st 26] [[.int .i64]] qaV
theorem qaV_post:zaad kk env0 14 qaV_md:=
  fnG (fn:=Tryz.f14) (ko known51) (by kernel_rfl) (L:=jnL) (zaab (bs:=[]) (by kernel_rfl) trivial) (zaaa _) (by kernel_rfl)
def ms52:List (FuncId×Mode U):=(14,qaV_md)::ms51
theorem known52:Known kk env0 (zaac ms52):=known_cons (by kernel_rfl) qaV_post known51
def qa5_md:Mode U:=mdG ⟨⟨[0],[],[]⟩,[.t (.st 26)],[]⟩ [] [⟨⟨[0],[],[]⟩,[.t (.int .i64)],[]⟩] [.st 26] [[.int .i64]] qa5
theorem qa5_post:zaad kk env0 12 qa5_md:=
  fnG (fn:=Tryz.f12) (ko known52) (by kernel_rfl) (L:=jnL) (zaab (bs:=[]) (by kernel_rfl) trivial) (zaaa _) (by kernel_rfl)
def ms53:List (FuncId×Mode U):=(12,qa5_md)::ms52
theorem known53:Known kk env0 (zaac ms53):=known_cons (by kernel_rfl) qa5_post known52
def qa2_md:Mode U:=mdG ⟨⟨[0,1,2],[100000,100001,100002],[⟨.cell 100002 0,200200,9,.str⟩]⟩,[.t .str,.ptr 100000 0,.ptr 100002 0],[.blk 72 [.ptr 100001 0],.mp .str (.int .i64),.blk 23 [.oslc 200200],.row 9 .str]⟩ [⟨100000,.slot 1,[]⟩,⟨100001,.cell 100000 0,[]⟩,⟨100002,.slot 2,[]⟩] [⟨⟨[],[100000,100001,100002],[⟨.cell 100002 0,200200,9,.str⟩]⟩,[],[.blk 72 [.ptr 100001 0],.mp .str (.int .i64),.blk 23 [.oslc 200200],.row 9 .str]⟩] [.str,.map .str (.int .i64),.slc .str] [[.map .str (.int .i64),.slc .str]] qa2
theorem qa2_post:zaad kk env0 51 qa2_md:=
  fnG (fn:=Tryz.f51) (ko known53) (by kernel_rfl) (L:=jnL) (zaab (bs:=[]) (by kernel_rfl) trivial) (zaaa _) (by kernel_rfl)
def ms54:List (FuncId×Mode U):=(51,qa2_md)::ms53
theorem known54:Known kk env0 (zaac ms54):=known_cons (by kernel_rfl) qa2_post known53
def qa3_md:Mode U:=mdG ⟨⟨[0,1,2],[100000,100001,100002,100003],[⟨.cell 100003 0,200300,9,.str⟩]⟩,[.t (.st 43),.t (.int .i64),.ptr 100000 0],[.blk 74 [.clo 51 [.ptr 100001 0,.ptr 100003 0]],.blk 72 [.ptr 100002 0],.mp .str (.int .i64),.blk 23 [.oslc 200300],.row 9 .str]⟩ [⟨100000,.slot 2,[]⟩,⟨100001,.cell 100000 0,[0]⟩,⟨100002,.cell 100001 0,[]⟩,⟨100003,.cell 100000 0,[1]⟩] [⟨⟨[],[100000,100001,100002,100003],[⟨.cell 100003 0,200300,9,.str⟩]⟩,[],[.blk 74 [.clo 51 [.ptr 100001 0,.ptr 100003 0]],.blk 72 [.ptr 100002 0],.mp .str (.int .i64),.blk 23 [.oslc 200300],.row 9 .str]⟩] [.st 43,.int .i64,.map .str (.int .i64),.slc .str] [[.map .str (.int .i64),.slc .str]] qa3
theorem qa3_post:zaad kk env0 52 qa3_md:=
  fnG (fn:=Tryz.f52) (ko known54) (by kernel_rfl) (L:=jnL) (zaab (bs:=[]) (by kernel_rfl) trivial) (zaaa _) (by kernel_rfl)
def ms55:List (FuncId×Mode U):=(52,qa3_md)::ms54
theorem known55:Known kk env0 (zaac ms55):=known_cons (by kernel_rfl) qa3_post known54
def qa4_md:Mode U:=mdG ⟨⟨[0,1,2],[100000,100001,100002,100003],[⟨.cell 100003 0,200300,9,.str⟩]⟩,[.t (.st 41),.t (.int .i64),.ptr 100000 0],[.blk 74 [.clo 51 [.ptr 100001 0,.ptr 100003 0]],.blk 72 [.ptr 100002 0],.mp .str (.int .i64),.blk 23 [.oslc 200300],.row 9 .str]⟩ [⟨100000,.slot 2,[]⟩,⟨100001,.cell 100000 0,[0]⟩,⟨100002,.cell 100001 0,[]⟩,⟨100003,.cell 100000 0,[1]⟩] [⟨⟨[],[100000,100001,100002,100003],[⟨.cell 100003 0,200300,9,.str⟩]⟩,[],[.blk 74 [.clo 51 [.ptr 100001 0,.ptr 100003 0]],.blk 72 [.ptr 100002 0],.mp .str (.int .i64),.blk 23 [.oslc 200300],.row 9 .str]⟩] [.st 41,.int .i64,.map .str (.int .i64),.slc .str] [[.map .str (.int .i64),.slc .str]] qa4
theorem qa4_post:zaad kk env0 53 qa4_md:=
  fnG (fn:=Tryz.f53) (ko known55) (by kernel_rfl) (L:=jnL) (zaab (bs:=[]) (by kernel_rfl) trivial) (zaaa _) (by kernel_rfl)
def ms56:List (FuncId×Mode U):=(53,qa4_md)::ms55
theorem known56:Known kk env0 (zaac ms56):=known_cons (by kernel_rfl) qa4_post known55
abbrev qad_tr:Type:=curT U (sumT U [[.map .str (.int .i64),.slc .str]]) [.st 41,.int .i64,.map .str (.int .i64),.slc .str]
def qad_rmd (rec_qad:qad_tr):Mode U:=mdG ⟨⟨[0,1,2],[100000,100001,100002,100003],[⟨.cell 100003 0,200300,9,.str⟩]⟩,[.agg [.clo 52 [.ptr 100000 0],.clo 53 [.ptr 100000 0]],.t (.st 41),.t (.int .i64)],[.blk 74 [.clo 51 [.ptr 100001 0,.ptr 100003 0]],.blk 72 [.ptr 100002 0],.mp .str (.int .i64),.blk 23 [.oslc 200300],.row 9 .str]⟩ [⟨100000,.slot 0,[0,0]⟩,⟨100001,.cell 100000 0,[0]⟩,⟨100002,.cell 100001 0,[]⟩,⟨100003,.cell 100000 0,[1]⟩] [⟨⟨[],[100000,100001,100002,100003],[⟨.cell 100003 0,200300,9,.str⟩]⟩,[],[.blk 74 [.clo 51 [.ptr 100001 0,.ptr 100003 0]],.blk 72 [.ptr 100002 0],.mp .str (.int .i64),.blk 23 [.oslc 200300],.row 9 .str]⟩] [.st 41,.int .i64,.map .str (.int .i64),.slc .str] [[.map .str (.int .i64),.slc .str]] rec_qad
abbrev qad_rec (r:qad_tr):Prop:=zaad kk env0 81 (qad_rmd r)
def ms57 (rec_qad:qad_tr):List (FuncId×Mode U):=(81,(qad_rmd rec_qad))::ms56
theorem known57 (rec_qad:qad_tr) (hrec_qad:qad_rec rec_qad):Known kk env0 (zaac (ms57 rec_qad)):=known_cons (by kernel_rfl) hrec_qad known56
def qad_b3:Code:=(zaak (zaag Tryz.f81) 0)
def qad_lp3 (rec_qad:qad_tr):Lift.Loop U:=lpG ⟨⟨[2,3,14,15,16],[100000,100001,100002,100003,3],[⟨.cell 100003 0,200300,9,.str⟩]⟩,[.t (.int .i64),.ptr 3 0,.t (.slc (.st 41)),.t (.int .i64),.t (.int .i64)],[.blk 74 [.clo 51 [.ptr 100001 0,.ptr 100003 0]],.blk 72 [.ptr 100002 0],.mp .str (.int .i64),.blk 23 [.oslc 200300],.blk 52 [.clo 52 [.ptr 100000 0],.clo 53 [.ptr 100000 0]],.row 9 .str]⟩ [⟨.exit 0,⟨⟨[],[100000,100001,100002,100003],[⟨.cell 100003 0,200300,9,.str⟩]⟩,[],[.blk 74 [.clo 51 [.ptr 100001 0,.ptr 100003 0]],.blk 72 [.ptr 100002 0],.mp .str (.int .i64),.blk 23 [.oslc 200300],.row 9 .str]⟩⟩] [.int .i64,.slc (.st 41),.int .i64,.int .i64,.map .str (.int .i64),.slc .str] [[.map .str (.int .i64),.slc .str]] (qad_l3 rec_qad)
theorem qad_ok3 (rec_qad:qad_tr) (hrec_qad:qad_rec rec_qad):LoopR kk env0 Tryz.f81.ntmps qad_b3 (qad_lp3 rec_qad):=
  loopG (qad_i3 rec_qad) (qad_t3 rec_qad) (ko (known57 rec_qad hrec_qad)) (L:=jnL) (zaab (bs:=[]) (by kernel_rfl) trivial) (by kernel_rfl) (fun _=>by kernel_rfl) (zaaa _) (fun _=>by kernel_rfl)
def qad_L (rec_qad:qad_tr):Nat→Option (Lift.Loop U):=fun n=>bif Nat.beq n zaap then some zaao else bif Nat.beq n 3 then some (qad_lp3 rec_qad) else none
def qad_md:Mode U:=qad_rmd qad
theorem qad_step (rec_qad:qad_tr) (hrec_qad:qad_rec rec_qad):zaa0 (Kit.withModes kk (zaac (ms57 rec_qad))) env0 Tryz.f81.ntmps (qad_L rec_qad) (zaag Tryz.f81):=zaab (bs:=[qad_b3]) (by kernel_rfl) ⟨.inr ⟨_,by kernel_rfl,zaal.of_round (qad_ok3 rec_qad hrec_qad)⟩,trivial⟩
theorem qad_post:zaad kk env0 81 (qad_rmd qad):=
  recG qad_i qad_f (by kernel_rfl) (fun _=>by kernel_rfl) (zaaa _) fun r ih=>fnG (fn:=Tryz.f81) (ko (known57 r ih)) (by kernel_rfl) (qad_step r ih) rfl (by kernel_rfl)
def ms58:List (FuncId×Mode U):=(81,qad_md)::ms56
theorem known58:Known kk env0 (zaac ms58):=known_cons (by kernel_rfl) qad_post known56
abbrev qal_tr:Type:=curT U (sumT U [[.map .str (.int .i64),.slc .str]]) [.slc (.st 43),.int .i64,.map .str (.int .i64),.slc .str]
def qal_rmd (rec_qal:qal_tr):Mode U:=mdG ⟨⟨[0,1,2],[100000,100001,100002,100003],[⟨.cell 100003 0,200300,9,.str⟩]⟩,[.agg [.clo 52 [.ptr 100000 0],.clo 53 [.ptr 100000 0]],.t (.slc (.st 43)),.t (.int .i64)],[.blk 74 [.clo 51 [.ptr 100001 0,.ptr 100003 0]],.blk 72 [.ptr 100002 0],.mp .str (.int .i64),.blk 23 [.oslc 200300],.row 9 .str]⟩ [⟨100000,.slot 0,[0,0]⟩,⟨100001,.cell 100000 0,[0]⟩,⟨100002,.cell 100001 0,[]⟩,⟨100003,.cell 100000 0,[1]⟩] [⟨⟨[],[100000,100001,100002,100003],[⟨.cell 100003 0,200300,9,.str⟩]⟩,[],[.blk 74 [.clo 51 [.ptr 100001 0,.ptr 100003 0]],.blk 72 [.ptr 100002 0],.mp .str (.int .i64),.blk 23 [.oslc 200300],.row 9 .str]⟩] [.slc (.st 43),.int .i64,.map .str (.int .i64),.slc .str] [[.map .str (.int .i64),.slc .str]] rec_qal
abbrev qal_rec (r:qal_tr):Prop:=zaad kk env0 64 (qal_rmd r)
def ms59 (rec_qal:qal_tr):List (FuncId×Mode U):=(64,(qal_rmd rec_qal))::ms58
theorem known59 (rec_qal:qal_tr) (hrec_qal:qal_rec rec_qal):Known kk env0 (zaac (ms59 rec_qal)):=known_cons (by kernel_rfl) hrec_qal known58
def qal_b2:Code:=(zaak (zaag Tryz.f64) 0)
def qal_lp2 (rec_qal:qal_tr):Lift.Loop U:=lpG ⟨⟨[2,3,8,9,10],[100000,100001,100002,100003,3],[⟨.cell 100003 0,200300,9,.str⟩]⟩,[.t (.int .i64),.ptr 3 0,.t (.slc (.st 43)),.t (.int .i64),.t (.int .i64)],[.blk 74 [.clo 51 [.ptr 100001 0,.ptr 100003 0]],.blk 72 [.ptr 100002 0],.mp .str (.int .i64),.blk 23 [.oslc 200300],.blk 52 [.clo 52 [.ptr 100000 0],.clo 53 [.ptr 100000 0]],.row 9 .str]⟩ [⟨.exit 0,⟨⟨[],[100000,100001,100002,100003],[⟨.cell 100003 0,200300,9,.str⟩]⟩,[],[.blk 74 [.clo 51 [.ptr 100001 0,.ptr 100003 0]],.blk 72 [.ptr 100002 0],.mp .str (.int .i64),.blk 23 [.oslc 200300],.row 9 .str]⟩⟩] [.int .i64,.slc (.st 43),.int .i64,.int .i64,.map .str (.int .i64),.slc .str] [[.map .str (.int .i64),.slc .str]] (qal_l2 rec_qal)
theorem qal_ok2 (rec_qal:qal_tr) (hrec_qal:qal_rec rec_qal):LoopR kk env0 Tryz.f64.ntmps qal_b2 (qal_lp2 rec_qal):=
  loopG (qal_i2 rec_qal) (qal_t2 rec_qal) (ko (known59 rec_qal hrec_qal)) (L:=jnL) (zaab (bs:=[]) (by kernel_rfl) trivial) (by kernel_rfl) (fun _=>by kernel_rfl) (zaaa _) (fun _=>by kernel_rfl)
def qal_L (rec_qal:qal_tr):Nat→Option (Lift.Loop U):=fun n=>bif Nat.beq n zaap then some zaao else bif Nat.beq n 2 then some (qal_lp2 rec_qal) else none
def qal_md:Mode U:=qal_rmd qal
theorem qal_step (rec_qal:qal_tr) (hrec_qal:qal_rec rec_qal):zaa0 (Kit.withModes kk (zaac (ms59 rec_qal))) env0 Tryz.f64.ntmps (qal_L rec_qal) (zaag Tryz.f64):=zaab (bs:=[qal_b2]) (by kernel_rfl) ⟨.inr ⟨_,by kernel_rfl,zaal.of_round (qal_ok2 rec_qal hrec_qal)⟩,trivial⟩
theorem qal_post:zaad kk env0 64 (qal_rmd qal):=
  recG qal_i qal_f (by kernel_rfl) (fun _=>by kernel_rfl) (zaaa _) fun r ih=>fnG (fn:=Tryz.f64) (ko (known59 r ih)) (by kernel_rfl) (qal_step r ih) rfl (by kernel_rfl)
def ms60:List (FuncId×Mode U):=(64,qal_md)::ms58
theorem known60:Known kk env0 (zaac ms60):=known_cons (by kernel_rfl) qal_post known58
def qah_b2:Code:=(zaak (zaag Tryz.f29) 0)
def qah_lp2:Lift.Loop U:=lpG ⟨⟨[2,7,8,9],[100000,100001,100002,100003,2],[⟨.cell 100003 0,200300,9,.str⟩]⟩,[.ptr 2 0,.t (.slc (.st 38)),.t (.int .i64),.t (.int .i64)],[.blk 74 [.clo 51 [.ptr 100001 0,.ptr 100003 0]],.blk 72 [.ptr 100002 0],.mp .str (.int .i64),.blk 23 [.oslc 200300],.blk 52 [.clo 52 [.ptr 100000 0],.clo 53 [.ptr 100000 0]],.row 9 .str]⟩ [⟨.exit 0,⟨⟨[],[100000,100001,100002,100003],[⟨.cell 100003 0,200300,9,.str⟩]⟩,[],[.blk 74 [.clo 51 [.ptr 100001 0,.ptr 100003 0]],.blk 72 [.ptr 100002 0],.mp .str (.int .i64),.blk 23 [.oslc 200300],.row 9 .str]⟩⟩] [.slc (.st 38),.int .i64,.int .i64,.map .str (.int .i64),.slc .str] [[.map .str (.int .i64),.slc .str]] qah_l2
theorem qah_ok2:LoopR kk env0 Tryz.f29.ntmps qah_b2 qah_lp2:=
  loopG qah_i2 qah_t2 (ko known60) (L:=jnL) (zaab (bs:=[]) (by kernel_rfl) trivial) (by kernel_rfl) (fun _=>by kernel_rfl) (zaaa _) (fun _=>by kernel_rfl)
def qah_L:Nat→Option (Lift.Loop U):=fun n=>bif Nat.beq n zaap then some zaao else bif Nat.beq n 2 then some qah_lp2 else none
def qah_md:Mode U:=mdG ⟨⟨[0,1],[100000,100001,100002,100003],[⟨.cell 100003 0,200300,9,.str⟩]⟩,[.agg [.clo 52 [.ptr 100000 0],.clo 53 [.ptr 100000 0]],.t (.st 26)],[.blk 74 [.clo 51 [.ptr 100001 0,.ptr 100003 0]],.blk 72 [.ptr 100002 0],.mp .str (.int .i64),.blk 23 [.oslc 200300],.row 9 .str]⟩ [⟨100000,.slot 0,[0,0]⟩,⟨100001,.cell 100000 0,[0]⟩,⟨100002,.cell 100001 0,[]⟩,⟨100003,.cell 100000 0,[1]⟩] [⟨⟨[],[100000,100001,100002,100003],[⟨.cell 100003 0,200300,9,.str⟩]⟩,[],[.blk 74 [.clo 51 [.ptr 100001 0,.ptr 100003 0]],.blk 72 [.ptr 100002 0],.mp .str (.int .i64),.blk 23 [.oslc 200300],.row 9 .str]⟩] [.st 26,.map .str (.int .i64),.slc .str] [[.map .str (.int .i64),.slc .str]] qah
theorem qah_post:zaad kk env0 29 qah_md:=
  fnG (fn:=Tryz.f29) (ko known60) (by kernel_rfl) (L:=qah_L) (zaab (bs:=[qah_b2]) (by kernel_rfl) ⟨.inr ⟨_,by kernel_rfl,zaal.of_round (qah_ok2)⟩,trivial⟩) (zaaa _) (by kernel_rfl)
def ms61:List (FuncId×Mode U):=(29,qah_md)::ms60
theorem known61:Known kk env0 (zaac ms61):=known_cons (by kernel_rfl) qah_post known60
def qaJ_md:Mode U:=mdG ⟨⟨[0],[],[⟨.slot 0,0,9,.str⟩]⟩,[.oslc 0],[.row 9 .str]⟩ [] [⟨⟨[0],[],[⟨.slot 0,100050,9,.str⟩]⟩,[.oslc 100050],[.row 9 .str]⟩] [.slc .str] [[.slc .str]] qaJ
theorem qaJ_post:zaad kk env0 54 qaJ_md:=
  fnG (fn:=Tryz.f54) (ko known61) (by kernel_rfl) (L:=jnL) (zaab (bs:=[]) (by kernel_rfl) trivial) (zaaa _) (by kernel_rfl)
def ms62:List (FuncId×Mode U):=(54,qaJ_md)::ms61
theorem known62:Known kk env0 (zaac ms62):=known_cons (by kernel_rfl) qaJ_post known61
def qa1_b5:Code:=(zaak (zaag Tryz.f22) 0)
def qa1_lp5:Lift.Loop U:=lpG ⟨⟨[1,3,5,16,17,18],[1,3,5,4,12],[⟨.cell 3 0,20150,9,.str⟩]⟩,[.ptr 1 0,.ptr 3 0,.ptr 5 0,.t (.slc (.st 46)),.t (.int .i64),.t (.int .i64)],[.blk 26 [.t (.slc (.st 46)),.t (.slc .str),.t (.slc (.st 38))],.blk 23 [.oslc 20150],.blk 74 [.clo 51 [.ptr 4 0,.ptr 3 0]],.blk 72 [.ptr 12 0],.mp .str (.int .i64),.row 9 .str]⟩ [⟨.exit 0,⟨⟨[1,3,5],[1,3,5,4,12],[⟨.cell 3 0,20150,9,.str⟩]⟩,[.ptr 1 0,.ptr 3 0,.ptr 5 0],[.blk 26 [.t (.slc (.st 46)),.t (.slc .str),.t (.slc (.st 38))],.blk 23 [.oslc 20150],.blk 74 [.clo 51 [.ptr 4 0,.ptr 3 0]],.blk 72 [.ptr 12 0],.mp .str (.int .i64),.row 9 .str]⟩⟩] [.slc (.st 46),.int .i64,.int .i64,.slc (.st 46),.slc .str,.slc (.st 38),.map .str (.int .i64),.slc .str] [[.slc (.st 46),.slc .str,.slc (.st 38),.map .str (.int .i64),.slc .str]] qa1_l5
theorem qa1_ok5:LoopR kk env0 Tryz.f22.ntmps qa1_b5 qa1_lp5:=
  loopG qa1_i5 qa1_t5 (ko known62) (L:=jnL) (zaab (bs:=[]) (by kernel_rfl) trivial) (by kernel_rfl) (fun _=>by kernel_rfl) (zaaa _) (fun _=>by kernel_rfl)
def qa1_b10:Code:=(zaak (zaag Tryz.f22) 1)
def qa1_lp10:Lift.Loop U:=lpG ⟨⟨[1,3,5,28,29,30],[1,3,5,4,12],[⟨.cell 3 0,20150,9,.str⟩]⟩,[.ptr 1 0,.ptr 3 0,.ptr 5 0,.t (.slc .str),.t (.int .i64),.t (.int .i64)],[.blk 26 [.t (.slc (.st 46)),.t (.slc .str),.t (.slc (.st 38))],.blk 23 [.oslc 20150],.blk 74 [.clo 51 [.ptr 4 0,.ptr 3 0]],.blk 72 [.ptr 12 0],.mp .str (.int .i64),.row 9 .str]⟩ [⟨.exit 2,⟨⟨[1,3,5],[1,3,5,4,12],[⟨.cell 3 0,20150,9,.str⟩]⟩,[.ptr 1 0,.ptr 3 0,.ptr 5 0],[.blk 26 [.t (.slc (.st 46)),.t (.slc .str),.t (.slc (.st 38))],.blk 23 [.oslc 20150],.blk 74 [.clo 51 [.ptr 4 0,.ptr 3 0]],.blk 72 [.ptr 12 0],.mp .str (.int .i64),.row 9 .str]⟩⟩] [.slc .str,.int .i64,.int .i64,.slc (.st 46),.slc .str,.slc (.st 38),.map .str (.int .i64),.slc .str] [[.slc (.st 46),.slc .str,.slc (.st 38),.map .str (.int .i64),.slc .str]] qa1_l10
theorem qa1_ok10:LoopR kk env0 Tryz.f22.ntmps qa1_b10 qa1_lp10:=
  loopG qa1_i10 qa1_t10 (ko known62) (L:=jnL) (zaab (bs:=[]) (by kernel_rfl) trivial) (by kernel_rfl) (fun _=>by kernel_rfl) (zaaa _) (fun _=>by kernel_rfl)
def qa1_b15:Code:=(zaak (zaag Tryz.f22) 2)
def qa1_lp15:Lift.Loop U:=lpG ⟨⟨[1,3,5,39,40,41],[1,3,5,4,12],[⟨.cell 3 0,20150,9,.str⟩]⟩,[.ptr 1 0,.ptr 3 0,.ptr 5 0,.t (.slc (.st 38)),.t (.int .i64),.t (.int .i64)],[.blk 26 [.t (.slc (.st 46)),.t (.slc .str),.t (.slc (.st 38))],.blk 23 [.oslc 20150],.blk 74 [.clo 51 [.ptr 4 0,.ptr 3 0]],.blk 72 [.ptr 12 0],.mp .str (.int .i64),.row 9 .str]⟩ [⟨.exit 4,⟨⟨[1,3,5],[1,3,5,4,12],[⟨.cell 3 0,20150,9,.str⟩]⟩,[.ptr 1 0,.ptr 3 0,.ptr 5 0],[.blk 26 [.t (.slc (.st 46)),.t (.slc .str),.t (.slc (.st 38))],.blk 23 [.oslc 20150],.blk 74 [.clo 51 [.ptr 4 0,.ptr 3 0]],.blk 72 [.ptr 12 0],.mp .str (.int .i64),.row 9 .str]⟩⟩] [.slc (.st 38),.int .i64,.int .i64,.slc (.st 46),.slc .str,.slc (.st 38),.map .str (.int .i64),.slc .str] [[.slc (.st 46),.slc .str,.slc (.st 38),.map .str (.int .i64),.slc .str]] qa1_l15
theorem qa1_ok15:LoopR kk env0 Tryz.f22.ntmps qa1_b15 qa1_lp15:=
  loopG qa1_i15 qa1_t15 (ko known62) (L:=jnL) (zaab (bs:=[]) (by kernel_rfl) trivial) (by kernel_rfl) (fun _=>by kernel_rfl) (zaaa _) (fun _=>by kernel_rfl)
def qa1_L:Nat→Option (Lift.Loop U):=fun n=>bif Nat.beq n zaap then some zaao else bif Nat.beq n 5 then some qa1_lp5 else bif Nat.beq n 10 then some qa1_lp10 else bif Nat.beq n 15 then some qa1_lp15 else none
def qa1_md:Mode U:=mdG ⟨⟨[0],[],[]⟩,[.t (.st 26)],[]⟩ [] [⟨⟨[0],[],[⟨.slot 0,100050,9,.str⟩]⟩,[.oslc 100050],[.row 9 .str]⟩] [.st 26] [[.slc .str]] qa1
theorem qa1_post:zaad kk env0 22 qa1_md:=
  fnG (fn:=Tryz.f22) (ko known62) (by kernel_rfl) (L:=qa1_L) (zaab (bs:=[qa1_b5,qa1_b10,qa1_b15]) (by kernel_rfl) ⟨.inr ⟨_,by kernel_rfl,zaal.of_round (qa1_ok5)⟩,.inr ⟨_,by kernel_rfl,zaal.of_round (qa1_ok10)⟩,.inr ⟨_,by kernel_rfl,zaal.of_round (qa1_ok15)⟩,trivial⟩) (zaaa _) (by kernel_rfl)
def ms63:List (FuncId×Mode U):=(22,qa1_md)::ms62
theorem known63:Known kk env0 (zaac ms63):=known_cons (by kernel_rfl) qa1_post known62
def qaS_md:Mode U:=mdG ⟨⟨[0],[],[]⟩,[.t (.st 46)],[]⟩ [] [⟨⟨[0],[],[]⟩,[.t (.st 46)],[]⟩] [.st 46] [[.st 46]] qaS
theorem qaS_post:zaad kk env0 41 qaS_md:=
  fnG (fn:=Tryz.f41) (ko known63) (by kernel_rfl) (L:=jnL) (zaab (bs:=[]) (by kernel_rfl) trivial) (zaaa _) (by kernel_rfl)
def ms64:List (FuncId×Mode U):=(41,qaS_md)::ms63
theorem known64:Known kk env0 (zaac ms64):=known_cons (by kernel_rfl) qaS_post known63
def qaF_md:Mode U:=mdG ⟨⟨[0],[],[⟨.slot 0,0,46,(.st 46)⟩]⟩,[.oslc 0],[.row 46 (.st 46)]⟩ [] [⟨⟨[0],[],[⟨.slot 0,100050,46,(.st 46)⟩]⟩,[.oslc 100050],[.row 46 (.st 46)]⟩] [.slc (.st 46)] [[.slc (.st 46)]] qaF
theorem qaF_post:zaad kk env0 69 qaF_md:=
  fnG (fn:=Tryz.f69) (ko known64) (by kernel_rfl) (L:=jnL) (zaab (bs:=[]) (by kernel_rfl) trivial) (zaaa _) (by kernel_rfl)
def ms65:List (FuncId×Mode U):=(69,qaF_md)::ms64
theorem known65:Known kk env0 (zaac ms65):=known_cons (by kernel_rfl) qaF_post known64
def qbg_b3:Code:=(zaak (zaag Tryz.f40) 0)
def qbg_lp3:Lift.Loop U:=lpG ⟨⟨[1,5,8,9,10],[],[⟨.slot 5,5,46,(.st 46)⟩]⟩,[.fnc 41,.oslc 5,.t (.slc (.st 46)),.t (.int .i64),.t (.int .i64)],[.row 46 (.st 46)]⟩ [⟨.exit 0,⟨⟨[5],[],[⟨.slot 5,5,46,(.st 46)⟩]⟩,[.oslc 5],[.row 46 (.st 46)]⟩⟩] [.slc (.st 46),.int .i64,.int .i64,.slc (.st 46)] [[.slc (.st 46)]] qbg_l3
theorem qbg_ok3:LoopR kk env0 Tryz.f40.ntmps qbg_b3 qbg_lp3:=
  loopG qbg_i3 qbg_t3 (ko known65) (L:=jnL) (zaab (bs:=[]) (by kernel_rfl) trivial) (by kernel_rfl) (fun _=>by kernel_rfl) (zaaa _) (fun _=>by kernel_rfl)
def qbg_L:Nat→Option (Lift.Loop U):=fun n=>bif Nat.beq n zaap then some zaao else bif Nat.beq n 3 then some qbg_lp3 else none
def qbg_md:Mode U:=mdG ⟨⟨[0,1],[],[]⟩,[.t (.slc (.st 46)),.fnc 41],[]⟩ [] [⟨⟨[0],[],[⟨.slot 0,100050,46,(.st 46)⟩]⟩,[.oslc 100050],[.row 46 (.st 46)]⟩] [.slc (.st 46)] [[.slc (.st 46)]] qbg
theorem qbg_post:zaad kk env0 40 qbg_md:=
  fnG (fn:=Tryz.f40) (ko known65) (by kernel_rfl) (L:=qbg_L) (zaab (bs:=[qbg_b3]) (by kernel_rfl) ⟨.inr ⟨_,by kernel_rfl,zaal.of_round (qbg_ok3)⟩,trivial⟩) (zaaa _) (by kernel_rfl)
def ms66:List (FuncId×Mode U):=(40,qbg_md)::ms65
theorem known66:Known kk env0 (zaac ms66):=known_cons (by kernel_rfl) qbg_post known65
def qaT_md:Mode U:=mdG ⟨⟨[0],[],[]⟩,[.t .str],[]⟩ [] [⟨⟨[0],[],[]⟩,[.t .str],[]⟩] [.str] [[.str]] qaT
theorem qaT_post:zaad kk env0 43 qaT_md:=
  fnG (fn:=Tryz.f43) (ko known66) (by kernel_rfl) (L:=jnL) (zaab (bs:=[]) (by kernel_rfl) trivial) (zaaa _) (by kernel_rfl)
def ms67:List (FuncId×Mode U):=(43,qaT_md)::ms66
theorem known67:Known kk env0 (zaac ms67):=known_cons (by kernel_rfl) qaT_post known66
def qbk_b3:Code:=(zaak (zaag Tryz.f42) 0)
def qbk_lp3:Lift.Loop U:=lpG ⟨⟨[1,5,8,9,10],[],[⟨.slot 5,5,9,.str⟩]⟩,[.fnc 43,.oslc 5,.t (.slc .str),.t (.int .i64),.t (.int .i64)],[.row 9 .str]⟩ [⟨.exit 0,⟨⟨[5],[],[⟨.slot 5,5,9,.str⟩]⟩,[.oslc 5],[.row 9 .str]⟩⟩] [.slc .str,.int .i64,.int .i64,.slc .str] [[.slc .str]] qbk_l3
theorem qbk_ok3:LoopR kk env0 Tryz.f42.ntmps qbk_b3 qbk_lp3:=
  loopG qbk_i3 qbk_t3 (ko known67) (L:=jnL) (zaab (bs:=[]) (by kernel_rfl) trivial) (by kernel_rfl) (fun _=>by kernel_rfl) (zaaa _) (fun _=>by kernel_rfl)
def qbk_L:Nat→Option (Lift.Loop U):=fun n=>bif Nat.beq n zaap then some zaao else bif Nat.beq n 3 then some qbk_lp3 else none
def qbk_md:Mode U:=mdG ⟨⟨[0,1],[],[]⟩,[.t (.slc .str),.fnc 43],[]⟩ [] [⟨⟨[0],[],[⟨.slot 0,100050,9,.str⟩]⟩,[.oslc 100050],[.row 9 .str]⟩] [.slc .str] [[.slc .str]] qbk
theorem qbk_post:zaad kk env0 42 qbk_md:=
  fnG (fn:=Tryz.f42) (ko known67) (by kernel_rfl) (L:=qbk_L) (zaab (bs:=[qbk_b3]) (by kernel_rfl) ⟨.inr ⟨_,by kernel_rfl,zaal.of_round (qbk_ok3)⟩,trivial⟩) (zaaa _) (by kernel_rfl)
def ms68:List (FuncId×Mode U):=(42,qbk_md)::ms67
theorem known68:Known kk env0 (zaac ms68):=known_cons (by kernel_rfl) qbk_post known67
abbrev qa8_tr:Type:=curT U (sumT U [[.int .i64,.int .i64,.str,.slc (.st 1041)]]) [.st 41]
def qa8_rmd (rec_qa8:qa8_tr):Mode U:=mdG ⟨⟨[0],[],[]⟩,[.t (.st 41)],[]⟩ [] [⟨⟨[0],[],[⟨.sub 0 3,100400,41,(.st 1041)⟩]⟩,[.agg [.t (.int .i64),.t (.int .i64),.t .str,.oslc 100400]],[.row 41 (.st 1041)]⟩] [.st 41] [[.int .i64,.int .i64,.str,.slc (.st 1041)]] rec_qa8
abbrev qa8_rec (r:qa8_tr):Prop:=zaad kk env0 72 (qa8_rmd r)
def ms69 (rec_qa8:qa8_tr):List (FuncId×Mode U):=(72,(qa8_rmd rec_qa8))::ms68
theorem known69 (rec_qa8:qa8_tr) (hrec_qa8:qa8_rec rec_qa8):Known kk env0 (zaac (ms69 rec_qa8)):=known_cons (by kernel_rfl) hrec_qa8 known68
def qaG_md (rec_qa8:qa8_tr):Mode U:=mdG ⟨⟨[0],[],[⟨.slot 0,0,41,(.st 1041)⟩]⟩,[.oslc 0],[.row 41 (.st 1041)]⟩ [] [⟨⟨[0],[],[⟨.slot 0,100050,41,(.st 1041)⟩]⟩,[.oslc 100050],[.row 41 (.st 1041)]⟩] [.slc (.st 1041)] [[.slc (.st 1041)]] (qaG rec_qa8)
theorem qaG_post (rec_qa8:qa8_tr) (hrec_qa8:qa8_rec rec_qa8):zaad kk env0 93 (qaG_md rec_qa8):=
  fnG (fn:=Tryz.f93) (ko (known69 rec_qa8 hrec_qa8)) (by kernel_rfl) (L:=jnL) (zaab (bs:=[]) (by kernel_rfl) trivial) (zaaa _) (by kernel_rfl)
def ms70 (rec_qa8:qa8_tr):List (FuncId×Mode U):=(93,(qaG_md rec_qa8))::(ms69 rec_qa8)
theorem known70 (rec_qa8:qa8_tr) (hrec_qa8:qa8_rec rec_qa8):Known kk env0 (zaac (ms70 rec_qa8)):=known_cons (by kernel_rfl) (qaG_post rec_qa8 hrec_qa8) (known69 rec_qa8 hrec_qa8)
def qbh_b3:Code:=(zaak (zaag Tryz.f83) 0)
def qbh_lp3 (rec_qa8:qa8_tr):Lift.Loop U:=lpG ⟨⟨[1,5,8,9,10],[],[⟨.slot 5,5,41,(.st 1041)⟩]⟩,[.fnc 72,.oslc 5,.t (.slc (.st 41)),.t (.int .i64),.t (.int .i64)],[.row 41 (.st 1041)]⟩ [⟨.exit 0,⟨⟨[5],[],[⟨.slot 5,5,41,(.st 1041)⟩]⟩,[.oslc 5],[.row 41 (.st 1041)]⟩⟩] [.slc (.st 41),.int .i64,.int .i64,.slc (.st 1041)] [[.slc (.st 1041)]] (qbh_l3 rec_qa8)
theorem qbh_ok3 (rec_qa8:qa8_tr) (hrec_qa8:qa8_rec rec_qa8):LoopR kk env0 Tryz.f83.ntmps qbh_b3 (qbh_lp3 rec_qa8):=
  loopG (qbh_i3 rec_qa8) (qbh_t3 rec_qa8) (ko (known70 rec_qa8 hrec_qa8)) (L:=jnL) (zaab (bs:=[]) (by kernel_rfl) trivial) (by kernel_rfl) (fun _=>by kernel_rfl) (zaaa _) (fun _=>by kernel_rfl)
def qbh_L (rec_qa8:qa8_tr):Nat→Option (Lift.Loop U):=fun n=>bif Nat.beq n zaap then some zaao else bif Nat.beq n 3 then some (qbh_lp3 rec_qa8) else none
def qbh_md (rec_qa8:qa8_tr):Mode U:=mdG ⟨⟨[0,1],[],[]⟩,[.t (.slc (.st 41)),.fnc 72],[]⟩ [] [⟨⟨[0],[],[⟨.slot 0,100050,41,(.st 1041)⟩]⟩,[.oslc 100050],[.row 41 (.st 1041)]⟩] [.slc (.st 41)] [[.slc (.st 1041)]] (qbh rec_qa8)
theorem qbh_post (rec_qa8:qa8_tr) (hrec_qa8:qa8_rec rec_qa8):zaad kk env0 83 (qbh_md rec_qa8):=
  fnG (fn:=Tryz.f83) (ko (known70 rec_qa8 hrec_qa8)) (by kernel_rfl) (L:=(qbh_L rec_qa8)) (zaab (bs:=[qbh_b3]) (by kernel_rfl) ⟨.inr ⟨_,by kernel_rfl,zaal.of_round (qbh_ok3 rec_qa8 hrec_qa8)⟩,trivial⟩) (zaaa _) (by kernel_rfl)
def ms71 (rec_qa8:qa8_tr):List (FuncId×Mode U):=(83,(qbh_md rec_qa8))::(ms70 rec_qa8)
theorem known71 (rec_qa8:qa8_tr) (hrec_qa8:qa8_rec rec_qa8):Known kk env0 (zaac (ms71 rec_qa8)):=known_cons (by kernel_rfl) (qbh_post rec_qa8 hrec_qa8) (known70 rec_qa8 hrec_qa8)
def qa8_md:Mode U:=qa8_rmd qa8
theorem qa8_step (rec_qa8:qa8_tr) (hrec_qa8:qa8_rec rec_qa8):zaa0 (Kit.withModes kk (zaac (ms71 rec_qa8))) env0 Tryz.f72.ntmps jnL (zaag Tryz.f72):=zaab (bs:=[]) (by kernel_rfl) trivial
theorem qa8_post:zaad kk env0 72 (qa8_rmd qa8):=
  recG qa8_i qa8_f (by kernel_rfl) (fun _=>by kernel_rfl) (zaaa _) fun r ih=>fnG (fn:=Tryz.f72) (ko (known71 r ih)) (by kernel_rfl) (qa8_step r ih) rfl (by kernel_rfl)
def ms72:List (FuncId×Mode U):=(72,qa8_md)::ms68
theorem known72:Known kk env0 (zaac ms72):=known_cons (by kernel_rfl) qa8_post known68
abbrev qbi_tr:Type:=curT U (sumT U [[.slc (.st 1043)]]) [.slc (.st 43)]
def qbi_rmd (rec_qbi:qbi_tr):Mode U:=mdG ⟨⟨[0,1],[],[]⟩,[.t (.slc (.st 43)),.fnc 47],[]⟩ [] [⟨⟨[0],[],[⟨.slot 0,100050,43,(.st 1043)⟩]⟩,[.oslc 100050],[.row 43 (.st 1043)]⟩] [.slc (.st 43)] [[.slc (.st 1043)]] rec_qbi
abbrev qbi_rec (r:qbi_tr):Prop:=zaad kk env0 46 (qbi_rmd r)
def ms73 (rec_qbi:qbi_tr):List (FuncId×Mode U):=(46,(qbi_rmd rec_qbi))::ms72
theorem known73 (rec_qbi:qbi_tr) (hrec_qbi:qbi_rec rec_qbi):Known kk env0 (zaac (ms73 rec_qbi)):=known_cons (by kernel_rfl) hrec_qbi known72
def qa9_md (rec_qbi:qbi_tr):Mode U:=mdG ⟨⟨[0],[],[]⟩,[.t (.st 43)],[]⟩ [] [⟨⟨[0],[],[⟨.sub 0 6,100700,41,(.st 1041)⟩,⟨.sub 0 8,100900,43,(.st 1043)⟩,⟨.sub 0 9,101000,43,(.st 1043)⟩]⟩,[.agg [.t (.int .i64),.t .str,.t .str,.t (.int .i64),.t (.int .i64),.t .str,.oslc 100700,.t (.int .i64),.oslc 100900,.oslc 101000]],[.row 41 (.st 1041),.row 43 (.st 1043),.row 43 (.st 1043)]⟩] [.st 43] [[.int .i64,.str,.str,.int .i64,.int .i64,.str,.int .i64,.slc (.st 1041),.slc (.st 1043),.slc (.st 1043)]] (qa9 rec_qbi)
theorem qa9_post (rec_qbi:qbi_tr) (hrec_qbi:qbi_rec rec_qbi):zaad kk env0 47 (qa9_md rec_qbi):=
  fnG (fn:=Tryz.f47) (ko (known73 rec_qbi hrec_qbi)) (by kernel_rfl) (L:=jnL) (zaab (bs:=[]) (by kernel_rfl) trivial) (zaaa _) (by kernel_rfl)
def ms74 (rec_qbi:qbi_tr):List (FuncId×Mode U):=(47,(qa9_md rec_qbi))::(ms73 rec_qbi)
theorem known74 (rec_qbi:qbi_tr) (hrec_qbi:qbi_rec rec_qbi):Known kk env0 (zaac (ms74 rec_qbi)):=known_cons (by kernel_rfl) (qa9_post rec_qbi hrec_qbi) (known73 rec_qbi hrec_qbi)
def qaH_md (rec_qbi:qbi_tr):Mode U:=mdG ⟨⟨[0],[],[⟨.slot 0,0,43,(.st 1043)⟩]⟩,[.oslc 0],[.row 43 (.st 1043)]⟩ [] [⟨⟨[0],[],[⟨.slot 0,100050,43,(.st 1043)⟩]⟩,[.oslc 100050],[.row 43 (.st 1043)]⟩] [.slc (.st 1043)] [[.slc (.st 1043)]] (qaH rec_qbi)
theorem qaH_post (rec_qbi:qbi_tr) (hrec_qbi:qbi_rec rec_qbi):zaad kk env0 71 (qaH_md rec_qbi):=
  fnG (fn:=Tryz.f71) (ko (known74 rec_qbi hrec_qbi)) (by kernel_rfl) (L:=jnL) (zaab (bs:=[]) (by kernel_rfl) trivial) (zaaa _) (by kernel_rfl)
def ms75 (rec_qbi:qbi_tr):List (FuncId×Mode U):=(71,(qaH_md rec_qbi))::(ms74 rec_qbi)
theorem known75 (rec_qbi:qbi_tr) (hrec_qbi:qbi_rec rec_qbi):Known kk env0 (zaac (ms75 rec_qbi)):=known_cons (by kernel_rfl) (qaH_post rec_qbi hrec_qbi) (known74 rec_qbi hrec_qbi)
def qbi_b3:Code:=(zaak (zaag Tryz.f46) 0)
def qbi_lp3 (rec_qbi:qbi_tr):Lift.Loop U:=lpG ⟨⟨[1,5,8,9,10],[],[⟨.slot 5,5,43,(.st 1043)⟩]⟩,[.fnc 47,.oslc 5,.t (.slc (.st 43)),.t (.int .i64),.t (.int .i64)],[.row 43 (.st 1043)]⟩ [⟨.exit 0,⟨⟨[5],[],[⟨.slot 5,5,43,(.st 1043)⟩]⟩,[.oslc 5],[.row 43 (.st 1043)]⟩⟩] [.slc (.st 43),.int .i64,.int .i64,.slc (.st 1043)] [[.slc (.st 1043)]] (qbi_l3 rec_qbi)
theorem qbi_ok3 (rec_qbi:qbi_tr) (hrec_qbi:qbi_rec rec_qbi):LoopR kk env0 Tryz.f46.ntmps qbi_b3 (qbi_lp3 rec_qbi):=
  loopG (qbi_i3 rec_qbi) (qbi_t3 rec_qbi) (ko (known75 rec_qbi hrec_qbi)) (L:=jnL) (zaab (bs:=[]) (by kernel_rfl) trivial) (by kernel_rfl) (fun _=>by kernel_rfl) (zaaa _) (fun _=>by kernel_rfl)
def qbi_L (rec_qbi:qbi_tr):Nat→Option (Lift.Loop U):=fun n=>bif Nat.beq n zaap then some zaao else bif Nat.beq n 3 then some (qbi_lp3 rec_qbi) else none
def qbi_md:Mode U:=qbi_rmd qbi
theorem qbi_step (rec_qbi:qbi_tr) (hrec_qbi:qbi_rec rec_qbi):zaa0 (Kit.withModes kk (zaac (ms75 rec_qbi))) env0 Tryz.f46.ntmps (qbi_L rec_qbi) (zaag Tryz.f46):=zaab (bs:=[qbi_b3]) (by kernel_rfl) ⟨.inr ⟨_,by kernel_rfl,zaal.of_round (qbi_ok3 rec_qbi hrec_qbi)⟩,trivial⟩
theorem qbi_post:zaad kk env0 46 (qbi_rmd qbi):=
  recG qbi_i qbi_f (by kernel_rfl) (fun _=>by kernel_rfl) (zaaa _) fun r ih=>fnG (fn:=Tryz.f46) (ko (known75 r ih)) (by kernel_rfl) (qbi_step r ih) rfl (by kernel_rfl)
def ms76:List (FuncId×Mode U):=(46,qbi_md)::ms72
theorem known76:Known kk env0 (zaac ms76):=known_cons (by kernel_rfl) qbi_post known72
def qaU_md:Mode U:=mdG ⟨⟨[0],[],[]⟩,[.t (.st 38)],[]⟩ [] [⟨⟨[0],[],[⟨.sub 0 1,100200,43,(.st 1043)⟩]⟩,[.agg [.t .str,.oslc 100200]],[.row 43 (.st 1043)]⟩] [.st 38] [[.str,.slc (.st 1043)]] qaU
theorem qaU_post:zaad kk env0 45 qaU_md:=
  fnG (fn:=Tryz.f45) (ko known76) (by kernel_rfl) (L:=jnL) (zaab (bs:=[]) (by kernel_rfl) trivial) (zaaa _) (by kernel_rfl)
def ms77:List (FuncId×Mode U):=(45,qaU_md)::ms76
theorem known77:Known kk env0 (zaac ms77):=known_cons (by kernel_rfl) qaU_post known76
def qaI_md:Mode U:=mdG ⟨⟨[0],[],[⟨.slot 0,0,38,(.st 1038)⟩]⟩,[.oslc 0],[.row 38 (.st 1038)]⟩ [] [⟨⟨[0],[],[⟨.slot 0,100050,38,(.st 1038)⟩]⟩,[.oslc 100050],[.row 38 (.st 1038)]⟩] [.slc (.st 1038)] [[.slc (.st 1038)]] qaI
theorem qaI_post:zaad kk env0 70 qaI_md:=
  fnG (fn:=Tryz.f70) (ko known77) (by kernel_rfl) (L:=jnL) (zaab (bs:=[]) (by kernel_rfl) trivial) (zaaa _) (by kernel_rfl)
def ms78:List (FuncId×Mode U):=(70,qaI_md)::ms77
theorem known78:Known kk env0 (zaac ms78):=known_cons (by kernel_rfl) qaI_post known77
def qbj_b3:Code:=(zaak (zaag Tryz.f44) 0)
def qbj_lp3:Lift.Loop U:=lpG ⟨⟨[1,5,8,9,10],[],[⟨.slot 5,5,38,(.st 1038)⟩]⟩,[.fnc 45,.oslc 5,.t (.slc (.st 38)),.t (.int .i64),.t (.int .i64)],[.row 38 (.st 1038)]⟩ [⟨.exit 0,⟨⟨[5],[],[⟨.slot 5,5,38,(.st 1038)⟩]⟩,[.oslc 5],[.row 38 (.st 1038)]⟩⟩] [.slc (.st 38),.int .i64,.int .i64,.slc (.st 1038)] [[.slc (.st 1038)]] qbj_l3
theorem qbj_ok3:LoopR kk env0 Tryz.f44.ntmps qbj_b3 qbj_lp3:=
  loopG qbj_i3 qbj_t3 (ko known78) (L:=jnL) (zaab (bs:=[]) (by kernel_rfl) trivial) (by kernel_rfl) (fun _=>by kernel_rfl) (zaaa _) (fun _=>by kernel_rfl)
def qbj_L:Nat→Option (Lift.Loop U):=fun n=>bif Nat.beq n zaap then some zaao else bif Nat.beq n 3 then some qbj_lp3 else none
def qbj_md:Mode U:=mdG ⟨⟨[0,1],[],[]⟩,[.t (.slc (.st 38)),.fnc 45],[]⟩ [] [⟨⟨[0],[],[⟨.slot 0,100050,38,(.st 1038)⟩]⟩,[.oslc 100050],[.row 38 (.st 1038)]⟩] [.slc (.st 38)] [[.slc (.st 1038)]] qbj
theorem qbj_post:zaad kk env0 44 qbj_md:=
  fnG (fn:=Tryz.f44) (ko known78) (by kernel_rfl) (L:=qbj_L) (zaab (bs:=[qbj_b3]) (by kernel_rfl) ⟨.inr ⟨_,by kernel_rfl,zaal.of_round (qbj_ok3)⟩,trivial⟩) (zaaa _) (by kernel_rfl)
def ms79:List (FuncId×Mode U):=(44,qbj_md)::ms78
theorem known79:Known kk env0 (zaac ms79):=known_cons (by kernel_rfl) qbj_post known78
def qaR_md:Mode U:=mdG ⟨⟨[0],[],[]⟩,[.t (.st 26)],[]⟩ [] [⟨⟨[0],[],[⟨.sub 0 0,100100,46,(.st 46)⟩,⟨.sub 0 1,100200,9,.str⟩,⟨.sub 0 2,100300,38,(.st 1038)⟩]⟩,[.agg [.oslc 100100,.oslc 100200,.oslc 100300]],[.row 46 (.st 46),.row 9 .str,.row 38 (.st 1038)]⟩] [.st 26] [[.slc (.st 46),.slc .str,.slc (.st 1038)]] qaR
theorem qaR_post:zaad kk env0 19 qaR_md:=
  fnG (fn:=Tryz.f19) (ko known79) (by kernel_rfl) (L:=jnL) (zaab (bs:=[]) (by kernel_rfl) trivial) (zaaa _) (by kernel_rfl)
def ms80:List (FuncId×Mode U):=(19,qaR_md)::ms79
theorem known80:Known kk env0 (zaac ms80):=known_cons (by kernel_rfl) qaR_post known79
def qaO_b4:Code:=(zaak (zaag Tryz.f34) 0)
def qaO_lp4:Lift.Loop U:=lpG ⟨⟨[0,1,12,13],[],[]⟩,[.t (.slc (.st 46)),.t (.slc (.st 46)),.t (.int .i64),.t (.int .i64)],[]⟩ [⟨.ret,⟨⟨[4],[],[]⟩,[.t .bool],[]⟩⟩,⟨.exit 0,⟨⟨[],[],[]⟩,[],[]⟩⟩] [.slc (.st 46),.slc (.st 46),.int .i64,.int .i64] [[.bool],[]] qaO_l4
theorem qaO_ok4:LoopR kk env0 Tryz.f34.ntmps qaO_b4 qaO_lp4:=
  loopG qaO_i4 qaO_t4 (ko known80) (L:=jnL) (zaab (bs:=[]) (by kernel_rfl) trivial) (by kernel_rfl) (fun _=>by kernel_rfl) (zaaa _) (fun _=>by kernel_rfl)
def qaO_L:Nat→Option (Lift.Loop U):=fun n=>bif Nat.beq n zaap then some zaao else bif Nat.beq n 4 then some qaO_lp4 else none
def qaO_md:Mode U:=mdG ⟨⟨[0,1],[],[]⟩,[.t (.slc (.st 46)),.t (.slc (.st 46))],[]⟩ [] [⟨⟨[0],[],[]⟩,[.t .bool],[]⟩] [.slc (.st 46),.slc (.st 46)] [[.bool]] qaO
theorem qaO_post:zaad kk env0 34 qaO_md:=
  fnG (fn:=Tryz.f34) (ko known80) (by kernel_rfl) (L:=qaO_L) (zaab (bs:=[qaO_b4]) (by kernel_rfl) ⟨.inr ⟨_,by kernel_rfl,zaal.of_round (qaO_ok4)⟩,trivial⟩) (zaaa _) (by kernel_rfl)
def ms81:List (FuncId×Mode U):=(34,qaO_md)::ms80
theorem known81:Known kk env0 (zaac ms81):=known_cons (by kernel_rfl) qaO_post known80
def qaP_b4:Code:=(zaak (zaag Tryz.f35) 0)
def qaP_lp4:Lift.Loop U:=lpG ⟨⟨[0,1,12,13],[],[]⟩,[.t (.slc .str),.t (.slc .str),.t (.int .i64),.t (.int .i64)],[]⟩ [⟨.ret,⟨⟨[4],[],[]⟩,[.t .bool],[]⟩⟩,⟨.exit 0,⟨⟨[],[],[]⟩,[],[]⟩⟩] [.slc .str,.slc .str,.int .i64,.int .i64] [[.bool],[]] qaP_l4
theorem qaP_ok4:LoopR kk env0 Tryz.f35.ntmps qaP_b4 qaP_lp4:=
  loopG qaP_i4 qaP_t4 (ko known81) (L:=jnL) (zaab (bs:=[]) (by kernel_rfl) trivial) (by kernel_rfl) (fun _=>by kernel_rfl) (zaaa _) (fun _=>by kernel_rfl)
def qaP_L:Nat→Option (Lift.Loop U):=fun n=>bif Nat.beq n zaap then some zaao else bif Nat.beq n 4 then some qaP_lp4 else none
def qaP_md:Mode U:=mdG ⟨⟨[0,1],[],[]⟩,[.t (.slc .str),.t (.slc .str)],[]⟩ [] [⟨⟨[0],[],[]⟩,[.t .bool],[]⟩] [.slc .str,.slc .str] [[.bool]] qaP
theorem qaP_post:zaad kk env0 35 qaP_md:=
  fnG (fn:=Tryz.f35) (ko known81) (by kernel_rfl) (L:=qaP_L) (zaab (bs:=[qaP_b4]) (by kernel_rfl) ⟨.inr ⟨_,by kernel_rfl,zaal.of_round (qaP_ok4)⟩,trivial⟩) (zaaa _) (by kernel_rfl)
def ms82:List (FuncId×Mode U):=(35,qaP_md)::ms81
theorem known82:Known kk env0 (zaac ms82):=known_cons (by kernel_rfl) qaP_post known81
abbrev qbl_tr:Type:=curT U (sumT U [[.bool]]) [.st 41,.st 41]
def qbl_rmd (rec_qbl:qbl_tr):Mode U:=mdG ⟨⟨[0,1],[],[]⟩,[.t (.st 41),.t (.st 41)],[]⟩ [] [⟨⟨[0],[],[]⟩,[.t .bool],[]⟩] [.st 41,.st 41] [[.bool]] rec_qbl
abbrev qbl_rec (r:qbl_tr):Prop:=zaad kk env0 68 (qbl_rmd r)
def ms83 (rec_qbl:qbl_tr):List (FuncId×Mode U):=(68,(qbl_rmd rec_qbl))::ms82
theorem known83 (rec_qbl:qbl_tr) (hrec_qbl:qbl_rec rec_qbl):Known kk env0 (zaac (ms83 rec_qbl)):=known_cons (by kernel_rfl) hrec_qbl known82
def qaL_b4:Code:=(zaak (zaag Tryz.f82) 0)
def qaL_lp4 (rec_qbl:qbl_tr):Lift.Loop U:=lpG ⟨⟨[1,2,15,16,17],[],[]⟩,[.t (.slc (.st 41)),.fnc 68,.t (.slc (.st 41)),.t (.int .i64),.t (.int .i64)],[]⟩ [⟨.ret,⟨⟨[6],[],[]⟩,[.t .bool],[]⟩⟩,⟨.exit 0,⟨⟨[],[],[]⟩,[],[]⟩⟩] [.slc (.st 41),.slc (.st 41),.int .i64,.int .i64] [[.bool],[]] (qaL_l4 rec_qbl)
theorem qaL_ok4 (rec_qbl:qbl_tr) (hrec_qbl:qbl_rec rec_qbl):LoopR kk env0 Tryz.f82.ntmps qaL_b4 (qaL_lp4 rec_qbl):=
  loopG (qaL_i4 rec_qbl) (qaL_t4 rec_qbl) (ko (known83 rec_qbl hrec_qbl)) (L:=jnL) (zaab (bs:=[]) (by kernel_rfl) trivial) (by kernel_rfl) (fun _=>by kernel_rfl) (zaaa _) (fun _=>by kernel_rfl)
def qaL_L (rec_qbl:qbl_tr):Nat→Option (Lift.Loop U):=fun n=>bif Nat.beq n zaap then some zaao else bif Nat.beq n 4 then some (qaL_lp4 rec_qbl) else none
def qaL_md (rec_qbl:qbl_tr):Mode U:=mdG ⟨⟨[0,1,2],[],[]⟩,[.t (.slc (.st 41)),.t (.slc (.st 41)),.fnc 68],[]⟩ [] [⟨⟨[0],[],[]⟩,[.t .bool],[]⟩] [.slc (.st 41),.slc (.st 41)] [[.bool]] (qaL rec_qbl)
theorem qaL_post (rec_qbl:qbl_tr) (hrec_qbl:qbl_rec rec_qbl):zaad kk env0 82 (qaL_md rec_qbl):=
  fnG (fn:=Tryz.f82) (ko (known83 rec_qbl hrec_qbl)) (by kernel_rfl) (L:=(qaL_L rec_qbl)) (zaab (bs:=[qaL_b4]) (by kernel_rfl) ⟨.inr ⟨_,by kernel_rfl,zaal.of_round (qaL_ok4 rec_qbl hrec_qbl)⟩,trivial⟩) (zaaa _) (by kernel_rfl)
def ms84 (rec_qbl:qbl_tr):List (FuncId×Mode U):=(82,(qaL_md rec_qbl))::(ms83 rec_qbl)
theorem known84 (rec_qbl:qbl_tr) (hrec_qbl:qbl_rec rec_qbl):Known kk env0 (zaac (ms84 rec_qbl)):=known_cons (by kernel_rfl) (qaL_post rec_qbl hrec_qbl) (known83 rec_qbl hrec_qbl)
def qbl_md:Mode U:=qbl_rmd qbl
theorem qbl_step (rec_qbl:qbl_tr) (hrec_qbl:qbl_rec rec_qbl):zaa0 (Kit.withModes kk (zaac (ms84 rec_qbl))) env0 Tryz.f68.ntmps jnL (zaag Tryz.f68):=zaab (bs:=[]) (by kernel_rfl) trivial
theorem qbl_post:zaad kk env0 68 (qbl_rmd qbl):=
  recG qbl_i qbl_f (by kernel_rfl) (fun _=>by kernel_rfl) (zaaa _) fun r ih=>fnG (fn:=Tryz.f68) (ko (known84 r ih)) (by kernel_rfl) (qbl_step r ih) rfl (by kernel_rfl)
def ms85:List (FuncId×Mode U):=(68,qbl_md)::ms82
theorem known85:Known kk env0 (zaac ms85):=known_cons (by kernel_rfl) qbl_post known82
abbrev qaM_tr:Type:=curT U (sumT U [[.bool]]) [.slc (.st 43),.slc (.st 43)]
def qaM_rmd (rec_qaM:qaM_tr):Mode U:=mdG ⟨⟨[0,1,2],[],[]⟩,[.t (.slc (.st 43)),.t (.slc (.st 43)),.fnc 39],[]⟩ [] [⟨⟨[0],[],[]⟩,[.t .bool],[]⟩] [.slc (.st 43),.slc (.st 43)] [[.bool]] rec_qaM
abbrev qaM_rec (r:qaM_tr):Prop:=zaad kk env0 38 (qaM_rmd r)
def ms86 (rec_qaM:qaM_tr):List (FuncId×Mode U):=(38,(qaM_rmd rec_qaM))::ms85
theorem known86 (rec_qaM:qaM_tr) (hrec_qaM:qaM_rec rec_qaM):Known kk env0 (zaac (ms86 rec_qaM)):=known_cons (by kernel_rfl) hrec_qaM known85
def qbm_md (rec_qaM:qaM_tr):Mode U:=mdG ⟨⟨[0,1],[],[]⟩,[.t (.st 43),.t (.st 43)],[]⟩ [] [⟨⟨[0],[],[]⟩,[.t .bool],[]⟩] [.st 43,.st 43] [[.bool]] (qbm rec_qaM)
theorem qbm_post (rec_qaM:qaM_tr) (hrec_qaM:qaM_rec rec_qaM):zaad kk env0 39 (qbm_md rec_qaM):=
  fnG (fn:=Tryz.f39) (ko (known86 rec_qaM hrec_qaM)) (by kernel_rfl) (L:=jnL) (zaab (bs:=[]) (by kernel_rfl) trivial) (zaaa _) (by kernel_rfl)
def ms87 (rec_qaM:qaM_tr):List (FuncId×Mode U):=(39,(qbm_md rec_qaM))::(ms86 rec_qaM)
theorem known87 (rec_qaM:qaM_tr) (hrec_qaM:qaM_rec rec_qaM):Known kk env0 (zaac (ms87 rec_qaM)):=known_cons (by kernel_rfl) (qbm_post rec_qaM hrec_qaM) (known86 rec_qaM hrec_qaM)
def qaM_b4:Code:=(zaak (zaag Tryz.f38) 0)
def qaM_lp4 (rec_qaM:qaM_tr):Lift.Loop U:=lpG ⟨⟨[1,2,15,16,17],[],[]⟩,[.t (.slc (.st 43)),.fnc 39,.t (.slc (.st 43)),.t (.int .i64),.t (.int .i64)],[]⟩ [⟨.ret,⟨⟨[6],[],[]⟩,[.t .bool],[]⟩⟩,⟨.exit 0,⟨⟨[],[],[]⟩,[],[]⟩⟩] [.slc (.st 43),.slc (.st 43),.int .i64,.int .i64] [[.bool],[]] (qaM_l4 rec_qaM)
theorem qaM_ok4 (rec_qaM:qaM_tr) (hrec_qaM:qaM_rec rec_qaM):LoopR kk env0 Tryz.f38.ntmps qaM_b4 (qaM_lp4 rec_qaM):=
  loopG (qaM_i4 rec_qaM) (qaM_t4 rec_qaM) (ko (known87 rec_qaM hrec_qaM)) (L:=jnL) (zaab (bs:=[]) (by kernel_rfl) trivial) (by kernel_rfl) (fun _=>by kernel_rfl) (zaaa _) (fun _=>by kernel_rfl)
def qaM_L (rec_qaM:qaM_tr):Nat→Option (Lift.Loop U):=fun n=>bif Nat.beq n zaap then some zaao else bif Nat.beq n 4 then some (qaM_lp4 rec_qaM) else none
def qaM_md:Mode U:=qaM_rmd qaM
theorem qaM_step (rec_qaM:qaM_tr) (hrec_qaM:qaM_rec rec_qaM):zaa0 (Kit.withModes kk (zaac (ms87 rec_qaM))) env0 Tryz.f38.ntmps (qaM_L rec_qaM) (zaag Tryz.f38):=zaab (bs:=[qaM_b4]) (by kernel_rfl) ⟨.inr ⟨_,by kernel_rfl,zaal.of_round (qaM_ok4 rec_qaM hrec_qaM)⟩,trivial⟩
theorem qaM_post:zaad kk env0 38 (qaM_rmd qaM):=
  recG qaM_i qaM_f (by kernel_rfl) (fun _=>by kernel_rfl) (zaaa _) fun r ih=>fnG (fn:=Tryz.f38) (ko (known87 r ih)) (by kernel_rfl) (qaM_step r ih) rfl (by kernel_rfl)
def ms88:List (FuncId×Mode U):=(38,qaM_md)::ms85
theorem known88:Known kk env0 (zaac ms88):=known_cons (by kernel_rfl) qaM_post known85
def qa7_md:Mode U:=mdG ⟨⟨[0,1],[],[]⟩,[.t (.st 38),.t (.st 38)],[]⟩ [] [⟨⟨[0],[],[]⟩,[.t .bool],[]⟩] [.st 38,.st 38] [[.bool]] qa7
theorem qa7_post:zaad kk env0 37 qa7_md:=
  fnG (fn:=Tryz.f37) (ko known88) (by kernel_rfl) (L:=jnL) (zaab (bs:=[]) (by kernel_rfl) trivial) (zaaa _) (by kernel_rfl)
def ms89:List (FuncId×Mode U):=(37,qa7_md)::ms88
theorem known89:Known kk env0 (zaac ms89):=known_cons (by kernel_rfl) qa7_post known88
def qaN_b4:Code:=(zaak (zaag Tryz.f36) 0)
def qaN_lp4:Lift.Loop U:=lpG ⟨⟨[1,2,15,16,17],[],[]⟩,[.t (.slc (.st 38)),.fnc 37,.t (.slc (.st 38)),.t (.int .i64),.t (.int .i64)],[]⟩ [⟨.ret,⟨⟨[6],[],[]⟩,[.t .bool],[]⟩⟩,⟨.exit 0,⟨⟨[],[],[]⟩,[],[]⟩⟩] [.slc (.st 38),.slc (.st 38),.int .i64,.int .i64] [[.bool],[]] qaN_l4
theorem qaN_ok4:LoopR kk env0 Tryz.f36.ntmps qaN_b4 qaN_lp4:=
  loopG qaN_i4 qaN_t4 (ko known89) (L:=jnL) (zaab (bs:=[]) (by kernel_rfl) trivial) (by kernel_rfl) (fun _=>by kernel_rfl) (zaaa _) (fun _=>by kernel_rfl)
def qaN_L:Nat→Option (Lift.Loop U):=fun n=>bif Nat.beq n zaap then some zaao else bif Nat.beq n 4 then some qaN_lp4 else none
def qaN_md:Mode U:=mdG ⟨⟨[0,1,2],[],[]⟩,[.t (.slc (.st 38)),.t (.slc (.st 38)),.fnc 37],[]⟩ [] [⟨⟨[0],[],[]⟩,[.t .bool],[]⟩] [.slc (.st 38),.slc (.st 38)] [[.bool]] qaN
theorem qaN_post:zaad kk env0 36 qaN_md:=
  fnG (fn:=Tryz.f36) (ko known89) (by kernel_rfl) (L:=qaN_L) (zaab (bs:=[qaN_b4]) (by kernel_rfl) ⟨.inr ⟨_,by kernel_rfl,zaal.of_round (qaN_ok4)⟩,trivial⟩) (zaaa _) (by kernel_rfl)
def ms90:List (FuncId×Mode U):=(36,qaN_md)::ms89
theorem known90:Known kk env0 (zaac ms90):=known_cons (by kernel_rfl) qaN_post known89
def qa6_md:Mode U:=mdG ⟨⟨[0,1],[],[]⟩,[.t (.st 26),.t (.st 26)],[]⟩ [] [⟨⟨[0],[],[]⟩,[.t .bool],[]⟩] [.st 26,.st 26] [[.bool]] qa6
theorem qa6_post:zaad kk env0 18 qa6_md:=
  fnG (fn:=Tryz.f18) (ko known90) (by kernel_rfl) (L:=jnL) (zaab (bs:=[]) (by kernel_rfl) trivial) (zaaa _) (by kernel_rfl)
def ms91:List (FuncId×Mode U):=(18,qa6_md)::ms90
theorem known91:Known kk env0 (zaac ms91):=known_cons (by kernel_rfl) qa6_post known90
def qav_md:Mode U:=mdG ⟨⟨[],[],[]⟩,[],[]⟩ [] [⟨⟨[0],[],[]⟩,[.t .bool],[]⟩] [] [[.bool]] qav
theorem qav_post:zaad kk env0 9 qav_md:=
  fnG (fn:=Tryz.f9) (ko known91) (by kernel_rfl) (L:=jnL) (zaab (bs:=[]) (by kernel_rfl) trivial) (zaaa _) (by kernel_rfl)
def ms92:List (FuncId×Mode U):=(9,qav_md)::ms91
theorem known92:Known kk env0 (zaac ms92):=known_cons (by kernel_rfl) qav_post known91
abbrev qax_tr:Type:=curT U (sumT U [[.st 41]]) [.st 41]
def qax_rmd (rec_qax:qax_tr):Mode U:=mdG ⟨⟨[0],[],[]⟩,[.t (.st 41)],[]⟩ [] [⟨⟨[0],[],[]⟩,[.t (.st 41)],[]⟩] [.st 41] [[.st 41]] rec_qax
abbrev qax_rec (r:qax_tr):Prop:=zaad kk env0 55 (qax_rmd r)
def ms93 (rec_qax:qax_tr):List (FuncId×Mode U):=(55,(qax_rmd rec_qax))::ms92
theorem known93 (rec_qax:qax_tr) (hrec_qax:qax_rec rec_qax):Known kk env0 (zaac (ms93 rec_qax)):=known_cons (by kernel_rfl) hrec_qax known92
def qax_b3:Code:=(zaak (zaag Tryz.f55) 0)
def qax_lp3 (rec_qax:qax_tr):Lift.Loop U:=lpG ⟨⟨[1,2,3,4],[1,2,3],[⟨.cell 3 3,20153,41,(.st 41)⟩]⟩,[.ptr 1 0,.ptr 2 0,.ptr 3 0,.t (.int .i64)],[.blk 41 [.t (.int .i64),.t (.int .i64),.t .str,.t (.slc (.st 41))],.blk 41 [.t (.int .i64),.t (.int .i64),.t .str,.nil],.blk 41 [.t (.int .i64),.t (.int .i64),.t .str,.oslc 20153],.row 41 (.st 41)]⟩ [⟨.exit 0,⟨⟨[2,3],[2,3],[⟨.cell 3 3,20153,41,(.st 41)⟩]⟩,[.ptr 2 0,.ptr 3 0],[.blk 41 [.t (.int .i64),.t (.int .i64),.t .str,.nil],.blk 41 [.t (.int .i64),.t (.int .i64),.t .str,.oslc 20153],.row 41 (.st 41)]⟩⟩] [.int .i64,.int .i64,.int .i64,.str,.slc (.st 41),.int .i64,.int .i64,.str,.int .i64,.int .i64,.str,.slc (.st 41)] [[.int .i64,.int .i64,.str,.int .i64,.int .i64,.str,.slc (.st 41)]] (qax_l3 rec_qax)
theorem qax_ok3 (rec_qax:qax_tr) (hrec_qax:qax_rec rec_qax):LoopR kk env0 Tryz.f55.ntmps qax_b3 (qax_lp3 rec_qax):=
  loopG (qax_i3 rec_qax) (qax_t3 rec_qax) (ko (known93 rec_qax hrec_qax)) (L:=jnL) (zaab (bs:=[]) (by kernel_rfl) trivial) (by kernel_rfl) (fun _=>by kernel_rfl) (zaaa _) (fun _=>by kernel_rfl)
def qax_L (rec_qax:qax_tr):Nat→Option (Lift.Loop U):=fun n=>bif Nat.beq n zaap then some zaao else bif Nat.beq n 3 then some (qax_lp3 rec_qax) else none
def qax_md:Mode U:=qax_rmd qax
theorem qax_step (rec_qax:qax_tr) (hrec_qax:qax_rec rec_qax):zaa0 (Kit.withModes kk (zaac (ms93 rec_qax))) env0 Tryz.f55.ntmps (qax_L rec_qax) (zaag Tryz.f55):=zaab (bs:=[qax_b3]) (by kernel_rfl) ⟨.inr ⟨_,by kernel_rfl,zaal.of_round (qax_ok3 rec_qax hrec_qax)⟩,trivial⟩
theorem qax_post:zaad kk env0 55 (qax_rmd qax):=
  recG qax_i qax_f (by kernel_rfl) (fun _=>by kernel_rfl) (zaaa _) fun r ih=>fnG (fn:=Tryz.f55) (ko (known93 r ih)) (by kernel_rfl) (qax_step r ih) rfl (by kernel_rfl)
def ms94:List (FuncId×Mode U):=(55,qax_md)::ms92
theorem known94:Known kk env0 (zaac ms94):=known_cons (by kernel_rfl) qax_post known92
abbrev qay_tr:Type:=curT U (sumT U [[.slc (.st 43)]]) [.slc (.st 43)]
def qay_rmd (rec_qay:qay_tr):Mode U:=mdG ⟨⟨[0],[],[]⟩,[.t (.slc (.st 43))],[]⟩ [] [⟨⟨[0],[],[⟨.slot 0,100050,43,(.st 43)⟩]⟩,[.oslc 100050],[.row 43 (.st 43)]⟩] [.slc (.st 43)] [[.slc (.st 43)]] rec_qay
abbrev qay_rec (r:qay_tr):Prop:=zaad kk env0 23 (qay_rmd r)
def ms95 (rec_qay:qay_tr):List (FuncId×Mode U):=(23,(qay_rmd rec_qay))::ms94
theorem known95 (rec_qay:qay_tr) (hrec_qay:qay_rec rec_qay):Known kk env0 (zaac (ms95 rec_qay)):=known_cons (by kernel_rfl) hrec_qay known94
def qay_b3:Code:=(zaak (zaag Tryz.f23) 0)
def qay_lp3 (rec_qay:qay_tr):Lift.Loop U:=lpG ⟨⟨[0,3,4],[],[⟨.slot 3,3,43,(.st 43)⟩]⟩,[.t (.slc (.st 43)),.oslc 3,.t (.int .i64)],[.row 43 (.st 43)]⟩ [⟨.exit 0,⟨⟨[3],[],[⟨.slot 3,3,43,(.st 43)⟩]⟩,[.oslc 3],[.row 43 (.st 43)]⟩⟩] [.slc (.st 43),.int .i64,.slc (.st 43)] [[.slc (.st 43)]] (qay_l3 rec_qay)
theorem qay_ok3 (rec_qay:qay_tr) (hrec_qay:qay_rec rec_qay):LoopR kk env0 Tryz.f23.ntmps qay_b3 (qay_lp3 rec_qay):=
  loopG (qay_i3 rec_qay) (qay_t3 rec_qay) (ko (known95 rec_qay hrec_qay)) (L:=jnL) (zaab (bs:=[]) (by kernel_rfl) trivial) (by kernel_rfl) (fun _=>by kernel_rfl) (zaaa _) (fun _=>by kernel_rfl)
def qay_L (rec_qay:qay_tr):Nat→Option (Lift.Loop U):=fun n=>bif Nat.beq n zaap then some zaao else bif Nat.beq n 3 then some (qay_lp3 rec_qay) else none
def qay_md:Mode U:=qay_rmd qay
theorem qay_step (rec_qay:qay_tr) (hrec_qay:qay_rec rec_qay):zaa0 (Kit.withModes kk (zaac (ms95 rec_qay))) env0 Tryz.f23.ntmps (qay_L rec_qay) (zaag Tryz.f23):=zaab (bs:=[qay_b3]) (by kernel_rfl) ⟨.inr ⟨_,by kernel_rfl,zaal.of_round (qay_ok3 rec_qay hrec_qay)⟩,trivial⟩
theorem qay_post:zaad kk env0 23 (qay_rmd qay):=
  recG qay_i qay_f (by kernel_rfl) (fun _=>by kernel_rfl) (zaaa _) fun r ih=>fnG (fn:=Tryz.f23) (ko (known95 r ih)) (by kernel_rfl) (qay_step r ih) rfl (by kernel_rfl)
def ms96:List (FuncId×Mode U):=(23,qay_md)::ms94
theorem known96:Known kk env0 (zaac ms96):=known_cons (by kernel_rfl) qay_post known94
def qaw_b5:Code:=(zaak (zaag Tryz.f10) 0)
def qaw_lp5:Lift.Loop U:=lpG ⟨⟨[1,2,3,4],[1,2,3],[⟨.cell 3 0,20150,46,(.st 46)⟩,⟨.cell 3 1,20151,9,.str⟩,⟨.cell 3 2,20152,38,(.st 2038)⟩]⟩,[.ptr 1 0,.ptr 2 0,.ptr 3 0,.t (.int .i64)],[.blk 26 [.t (.slc (.st 46)),.t (.slc .str),.t (.slc (.st 38))],.blk 26 [.nil,.nil,.nil],.blk 26 [.oslc 20150,.oslc 20151,.oslc 20152],.row 46 (.st 46),.row 9 .str,.row 38 (.st 2038)]⟩ [⟨.exit 0,⟨⟨[2,3],[2,3],[⟨.cell 3 0,20150,46,(.st 46)⟩,⟨.cell 3 1,20151,9,.str⟩,⟨.cell 3 2,20152,38,(.st 2038)⟩]⟩,[.ptr 2 0,.ptr 3 0],[.blk 26 [.nil,.nil,.nil],.blk 26 [.oslc 20150,.oslc 20151,.oslc 20152],.row 46 (.st 46),.row 9 .str,.row 38 (.st 2038)]⟩⟩] [.int .i64,.slc (.st 46),.slc .str,.slc (.st 38),.slc (.st 46),.slc .str,.slc (.st 2038)] [[.slc (.st 46),.slc .str,.slc (.st 2038)]] qaw_l5
theorem qaw_ok5:LoopR kk env0 Tryz.f10.ntmps qaw_b5 qaw_lp5:=
  loopG qaw_i5 qaw_t5 (ko known96) (L:=jnL) (zaab (bs:=[]) (by kernel_rfl) trivial) (by kernel_rfl) (fun _=>by kernel_rfl) (zaaa _) (fun _=>by kernel_rfl)
def qaw_L:Nat→Option (Lift.Loop U):=fun n=>bif Nat.beq n zaap then some zaao else bif Nat.beq n 5 then some qaw_lp5 else none
def qaw_md:Mode U:=mdG ⟨⟨[0],[],[]⟩,[.t (.st 26)],[]⟩ [] [⟨⟨[0],[],[⟨.sub 0 0,100100,46,(.st 46)⟩,⟨.sub 0 1,100200,9,.str⟩,⟨.sub 0 2,100300,38,(.st 2038)⟩]⟩,[.agg [.oslc 100100,.oslc 100200,.oslc 100300]],[.row 46 (.st 46),.row 9 .str,.row 38 (.st 2038)]⟩] [.st 26] [[.slc (.st 46),.slc .str,.slc (.st 2038)]] qaw
theorem qaw_post:zaad kk env0 10 qaw_md:=
  fnG (fn:=Tryz.f10) (ko known96) (by kernel_rfl) (L:=qaw_L) (zaab (bs:=[qaw_b5]) (by kernel_rfl) ⟨.inr ⟨_,by kernel_rfl,zaal.of_round (qaw_ok5)⟩,trivial⟩) (zaaa _) (by kernel_rfl)
def ms97:List (FuncId×Mode U):=(10,qaw_md)::ms96
theorem known97:Known kk env0 (zaac ms97):=known_cons (by kernel_rfl) qaw_post known96
def qau_b14:Code:=(zaak (zaag Tryz.f8) 0)
def qau_lp14:Lift.Loop U:=lpG ⟨⟨[9,10,11,12,13,14],[9],[⟨.cell 9 0,20450,46,(.st 46)⟩,⟨.cell 9 1,20451,9,.str⟩,⟨.cell 9 2,20452,38,(.st 2038)⟩,⟨.slot 13,13,43,(.st 43)⟩]⟩,[.ptr 9 0,.eptr 20452 0,.t (.int .i64),.t (.int .i64),.oslc 13,.t (.int .i64)],[.blk 26 [.oslc 20450,.oslc 20451,.oslc 20452],.row 46 (.st 46),.row 9 .str,.row 38 (.st 2038),.row 43 (.st 43)]⟩ [⟨.exit 0,⟨⟨[9,10,12,13],[9],[⟨.slot 13,13,43,(.st 43)⟩,⟨.cell 9 0,20450,46,(.st 46)⟩,⟨.cell 9 1,20451,9,.str⟩,⟨.cell 9 2,20452,38,(.st 2038)⟩]⟩,[.ptr 9 0,.eptr 20452 0,.t (.int .i64),.oslc 13],[.blk 26 [.oslc 20450,.oslc 20451,.oslc 20452],.row 43 (.st 43),.row 46 (.st 46),.row 9 .str,.row 38 (.st 2038)]⟩⟩] [.fn,.int .i64,.int .i64,.int .i64,.slc (.st 46),.slc .str,.slc (.st 2038),.slc (.st 43)] [[.fn,.int .i64,.slc (.st 43),.slc (.st 46),.slc .str,.slc (.st 2038)]] qau_l14
theorem qau_ok14:LoopR kk env0 Tryz.f8.ntmps qau_b14 qau_lp14:=
  loopG qau_i14 qau_t14 (ko known97) (L:=jnL) (zaab (bs:=[]) (by kernel_rfl) trivial) (by kernel_rfl) (fun _=>by kernel_rfl) (zaaa _) (fun _=>by kernel_rfl)
def qau_L:Nat→Option (Lift.Loop U):=fun n=>bif Nat.beq n zaap then some zaao else bif Nat.beq n 14 then some qau_lp14 else none
def qau_md:Mode U:=mdG ⟨⟨[0,1,2],[],[]⟩,[.t (.st 26),.t (.int .i64),.t (.int .i64)],[]⟩ [] [⟨⟨[0],[],[]⟩,[.t .bool],[]⟩] [.st 26,.int .i64,.int .i64] [[.bool]] qau
theorem qau_post:zaad kk env0 8 qau_md:=
  fnG (fn:=Tryz.f8) (ko known97) (by kernel_rfl) (L:=qau_L) (zaab (bs:=[qau_b14]) (by kernel_rfl) ⟨.inr ⟨_,by kernel_rfl,zaal.of_round (qau_ok14)⟩,trivial⟩) (zaaa _) (by kernel_rfl)
end
end Lift.T3
