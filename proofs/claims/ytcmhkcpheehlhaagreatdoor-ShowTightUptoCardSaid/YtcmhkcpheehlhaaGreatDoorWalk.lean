/-
  DERIVED. Each function of this seat computes its Lean function. Conditions: as each theorem says.
-/
import Derived.Test.YtcmhkcpheehlhaaGreatDoorDefs
set_option linter.unusedVariables false
set_option linter.unusedSimpArgs false
set_option linter.unusedSectionVars false
namespace Lift.Q4
noncomputable section
open Go Go.RowKit Go.Proofs Lift Lift.Fn
theorem ko {ms:List (FuncId×Mode U)} (h:Known kk env0 (zaac ms)):KitOk (Kit.withModes kk (zaac ms)) env0:=zaxt eqOk mixed h
def qbk_md:Mode U:=mdG ⟨⟨[0],[],[]⟩,[.t (.int .i32)],[]⟩ [] [⟨⟨[0],[],[]⟩,[.t (.int .i64)],[]⟩] [.int .i32] [[.int .i64]] qbk
theorem qbk_post:zaad kk env0 117 qbk_md:=
  fnG (fn:=Tryz.f117) (ko known10) (by kernel_rfl) (L:=noL) (zaab (bs:=[]) (by kernel_rfl) trivial) (zaaa _) (by kernel_rfl)
def ms11:List (FuncId×Mode U):=(117,qbk_md)::ms10
theorem known11:Known kk env0 (zaac ms11):=known_cons (by kernel_rfl) qbk_post known10
def qaR_b4:Code:=(zaas (zaah Tryz.f68) 0)
def qaR_lp4:Lift.Loop U:=lpG ⟨⟨[0,3,4,5,10],[3,5,10],[⟨.slot 4,4,77,(.st 77)⟩]⟩,[.t .str,.ptr 3 0,.oslc 4,.ptr 5 0,.ptr 10 0],[.blk 77 [.t (.int .i64),.t (.int .i64),.t (.int .i64),.t (.int .i64)],.blk 77 [.t (.int .i64),.t (.int .i64),.t (.int .i64),.t (.int .i64)],.sit,.row 77 (.st 77)]⟩ [⟨.ret,⟨⟨[2,3],[3],[⟨.slot 2,2,77,(.st 77)⟩]⟩,[.oslc 2,.ptr 3 0],[.blk 77 [.t (.int .i64),.t (.int .i64),.t (.int .i64),.t (.int .i64)],.row 77 (.st 77)]⟩⟩,⟨.exit 0,⟨⟨[3,4,5],[3,5],[⟨.slot 4,4,77,(.st 77)⟩]⟩,[.ptr 3 0,.oslc 4,.ptr 5 0],[.blk 77 [.t (.int .i64),.t (.int .i64),.t (.int .i64),.t (.int .i64)],.blk 77 [.t (.int .i64),.t (.int .i64),.t (.int .i64),.t (.int .i64)],.row 77 (.st 77)]⟩⟩] [.str,.int .i64,.int .i64,.int .i64,.int .i64,.int .i64,.int .i64,.int .i64,.int .i64,.str,.fn,.slc (.st 77)] [[.int .i64,.int .i64,.int .i64,.int .i64,.slc (.st 77)],[.int .i64,.int .i64,.int .i64,.int .i64,.int .i64,.int .i64,.int .i64,.int .i64,.slc (.st 77)]] qaR_l4
theorem qaR_ok4:LoopR kk env0 Tryz.f68.ntmps qaR_b4 qaR_lp4:=
  loopG qaR_i4 qaR_t4 (ko known11) (L:=noL) (zaab (bs:=[]) (by kernel_rfl) trivial) (by kernel_rfl) (fun _=>by kernel_rfl) (zaaa _) (fun _=>by kernel_rfl)
def qaR_L:Nat→Option (Lift.Loop U):=fun n=>bif Nat.beq n 4 then some qaR_lp4 else none
def qaR_md:Mode U:=mdG ⟨⟨[0],[],[]⟩,[.t .str],[]⟩ [] [⟨⟨[0,1],[],[⟨.slot 0,100050,77,(.st 77)⟩]⟩,[.oslc 100050,.t (.st 77)],[.row 77 (.st 77)]⟩] [.str] [[.st 77,.slc (.st 77)]] qaR
theorem qaR_post:zaad kk env0 68 qaR_md:=
  fnG (fn:=Tryz.f68) (ko known11) (by kernel_rfl) (L:=qaR_L) (zaab (bs:=[qaR_b4]) (by kernel_rfl) ⟨.inr ⟨_,by kernel_rfl,zaat.of_round (qaR_ok4)⟩,trivial⟩) (zaaa _) (by kernel_rfl)
def ms12:List (FuncId×Mode U):=(68,qaR_md)::ms11
theorem known12:Known kk env0 (zaac ms12):=known_cons (by kernel_rfl) qaR_post known11
def qaQ_md:Mode U:=mdG ⟨⟨[0],[],[]⟩,[.t .str],[]⟩ [] [⟨⟨[0,1],[],[⟨.slot 0,100050,77,(.st 77)⟩]⟩,[.oslc 100050,.t (.st 30)],[.row 77 (.st 77)]⟩] [.str] [[.st 30,.slc (.st 77)]] qaQ
theorem qaQ_post:zaad kk env0 29 qaQ_md:=
  fnG (fn:=Tryz.f29) (ko known12) (by kernel_rfl) (L:=noL) (zaab (bs:=[]) (by kernel_rfl) trivial) (zaaa _) (by kernel_rfl)
def ms13:List (FuncId×Mode U):=(29,qaQ_md)::ms12
theorem known13:Known kk env0 (zaac ms13):=known_cons (by kernel_rfl) qaQ_post known12
def qaN_md:Mode U:=mdG ⟨⟨[0],[],[]⟩,[.t (.int .i64)],[]⟩ [] [⟨⟨[0],[],[]⟩,[.t .bool],[]⟩] [.int .i64] [[.bool]] qaN
theorem qaN_post:zaad kk env0 69 qaN_md:=
  fnG (fn:=Tryz.f69) (ko known13) (by kernel_rfl) (L:=noL) (zaab (bs:=[]) (by kernel_rfl) trivial) (zaaa _) (by kernel_rfl)
def ms14:List (FuncId×Mode U):=(69,qaN_md)::ms13
theorem known14:Known kk env0 (zaac ms14):=known_cons (by kernel_rfl) qaN_post known13
def qan_b3:Code:=(zaas (zaah Tryz.f30) 0)
def qan_lp3:Lift.Loop U:=lpG ⟨⟨[0,3,7],[7],[]⟩,[.t .str,.t .bool,.ptr 7 0],[.sit]⟩ [⟨.ret,⟨⟨[2],[],[]⟩,[.t (.int .i64)],[]⟩⟩,⟨.exit 0,⟨⟨[0],[],[]⟩,[.t .str],[]⟩⟩] [.str,.bool,.str,.fn] [[.int .i64],[.str]] qan_l3
theorem qan_ok3:LoopR kk env0 Tryz.f30.ntmps qan_b3 qan_lp3:=
  loopG qan_i3 qan_t3 (ko known14) (L:=noL) (zaab (bs:=[]) (by kernel_rfl) trivial) (by kernel_rfl) (fun _=>by kernel_rfl) (zaaa _) (fun _=>by kernel_rfl)
def qan_L:Nat→Option (Lift.Loop U):=fun n=>bif Nat.beq n 3 then some qan_lp3 else none
def qan_md:Mode U:=mdG ⟨⟨[0],[],[]⟩,[.t .str],[]⟩ [] [⟨⟨[0],[],[]⟩,[.t (.int .i64)],[]⟩] [.str] [[.int .i64]] qan
theorem qan_post:zaad kk env0 30 qan_md:=
  fnG (fn:=Tryz.f30) (ko known14) (by kernel_rfl) (L:=qan_L) (zaab (bs:=[qan_b3]) (by kernel_rfl) ⟨.inr ⟨_,by kernel_rfl,zaat.of_round (qan_ok3)⟩,trivial⟩) (zaaa _) (by kernel_rfl)
def ms15:List (FuncId×Mode U):=(30,qan_md)::ms14
theorem known15:Known kk env0 (zaac ms15):=known_cons (by kernel_rfl) qan_post known14
def qbl_md:Mode U:=mdG ⟨⟨[0],[],[]⟩,[.t (.int .i32)],[]⟩ [] [⟨⟨[0],[],[]⟩,[.t .bool],[]⟩] [.int .i32] [[.bool]] qbl
theorem qbl_post:zaad kk env0 177 qbl_md:=
  fnG (fn:=Tryz.f177) (ko known15) (by kernel_rfl) (L:=noL) (zaab (bs:=[]) (by kernel_rfl) trivial) (zaaa _) (by kernel_rfl)
def ms16:List (FuncId×Mode U):=(177,qbl_md)::ms15
theorem known16:Known kk env0 (zaac ms16):=known_cons (by kernel_rfl) qbl_post known15
def qaS_md:Mode U:=mdG ⟨⟨[0],[],[]⟩,[.t (.int .i64)],[]⟩ [] [⟨⟨[0],[],[]⟩,[.t .bool],[]⟩] [.int .i64] [[.bool]] qaS
theorem qaS_post:zaad kk env0 149 qaS_md:=
  fnG (fn:=Tryz.f149) (ko known16) (by kernel_rfl) (L:=noL) (zaab (bs:=[]) (by kernel_rfl) trivial) (zaaa _) (by kernel_rfl)
def ms17:List (FuncId×Mode U):=(149,qaS_md)::ms16
theorem known17:Known kk env0 (zaac ms17):=known_cons (by kernel_rfl) qaS_post known16
def qaP_md:Mode U:=mdG ⟨⟨[0],[],[]⟩,[.t (.int .i64)],[]⟩ [] [⟨⟨[0],[],[]⟩,[.t .bool],[]⟩] [.int .i64] [[.bool]] qaP
theorem qaP_post:zaad kk env0 119 qaP_md:=
  fnG (fn:=Tryz.f119) (ko known17) (by kernel_rfl) (L:=noL) (zaab (bs:=[]) (by kernel_rfl) trivial) (zaaa _) (by kernel_rfl)
def ms18:List (FuncId×Mode U):=(119,qaP_md)::ms17
theorem known18:Known kk env0 (zaac ms18):=known_cons (by kernel_rfl) qaP_post known17
def qaO_md:Mode U:=mdG ⟨⟨[0],[],[]⟩,[.t (.int .i64)],[]⟩ [] [⟨⟨[0],[],[]⟩,[.t .bool],[]⟩] [.int .i64] [[.bool]] qaO
theorem qaO_post:zaad kk env0 74 qaO_md:=
  fnG (fn:=Tryz.f74) (ko known18) (by kernel_rfl) (L:=noL) (zaab (bs:=[]) (by kernel_rfl) trivial) (zaaa _) (by kernel_rfl)
def ms19:List (FuncId×Mode U):=(74,qaO_md)::ms18
theorem known19:Known kk env0 (zaac ms19):=known_cons (by kernel_rfl) qaO_post known18
def qal_md:Mode U:=mdG ⟨⟨[0],[],[]⟩,[.t (.int .i32)],[]⟩ [] [⟨⟨[0],[],[]⟩,[.t .bool],[]⟩] [.int .i32] [[.bool]] qal
theorem qal_post:zaad kk env0 71 qal_md:=
  fnG (fn:=Tryz.f71) (ko known19) (by kernel_rfl) (L:=noL) (zaab (bs:=[]) (by kernel_rfl) trivial) (zaaa _) (by kernel_rfl)
def ms20:List (FuncId×Mode U):=(71,qal_md)::ms19
theorem known20:Known kk env0 (zaac ms20):=known_cons (by kernel_rfl) qal_post known19
def qa1_b2:Code:=(zaas (zaah Tryz.f123) 0)
def qa1_lp2:Lift.Loop U:=lpG ⟨⟨[0,1,7,8],[],[]⟩,[.t (.slc .str),.t .str,.t (.int .i64),.t (.int .i64)],[]⟩ [⟨.ret,⟨⟨[4],[],[]⟩,[.t (.int .i64)],[]⟩⟩,⟨.exit 0,⟨⟨[],[],[]⟩,[],[]⟩⟩] [.slc .str,.str,.int .i64,.int .i64] [[.int .i64],[]] qa1_l2
theorem qa1_ok2:LoopR kk env0 Tryz.f123.ntmps qa1_b2 qa1_lp2:=
  loopG qa1_i2 qa1_t2 (ko known20) (L:=noL) (zaab (bs:=[]) (by kernel_rfl) trivial) (by kernel_rfl) (fun _=>by kernel_rfl) (zaaa _) (fun _=>by kernel_rfl)
def qa1_L:Nat→Option (Lift.Loop U):=fun n=>bif Nat.beq n 2 then some qa1_lp2 else none
def qa1_md:Mode U:=mdG ⟨⟨[0,1],[],[]⟩,[.t (.slc .str),.t .str],[]⟩ [] [⟨⟨[0],[],[]⟩,[.t (.int .i64)],[]⟩] [.slc .str,.str] [[.int .i64]] qa1
theorem qa1_post:zaad kk env0 123 qa1_md:=
  fnG (fn:=Tryz.f123) (ko known20) (by kernel_rfl) (L:=qa1_L) (zaab (bs:=[qa1_b2]) (by kernel_rfl) ⟨.inr ⟨_,by kernel_rfl,zaat.of_round (qa1_ok2)⟩,trivial⟩) (zaaa _) (by kernel_rfl)
def ms21:List (FuncId×Mode U):=(123,qa1_md)::ms20
theorem known21:Known kk env0 (zaac ms21):=known_cons (by kernel_rfl) qa1_post known20
def qa0_md:Mode U:=mdG ⟨⟨[0,1],[],[]⟩,[.t (.slc .str),.t .str],[]⟩ [] [⟨⟨[0],[],[]⟩,[.t .bool],[]⟩] [.slc .str,.str] [[.bool]] qa0
theorem qa0_post:zaad kk env0 76 qa0_md:=
  fnG (fn:=Tryz.f76) (ko known21) (by kernel_rfl) (L:=noL) (zaab (bs:=[]) (by kernel_rfl) trivial) (zaaa _) (by kernel_rfl)
def ms22:List (FuncId×Mode U):=(76,qa0_md)::ms21
theorem known22:Known kk env0 (zaac ms22):=known_cons (by kernel_rfl) qa0_post known21
def qao_md:Mode U:=mdG ⟨⟨[0],[],[]⟩,[.t .str],[]⟩ [] [⟨⟨[0],[],[]⟩,[.t .str],[]⟩] [.str] [[.str]] qao
theorem qao_post:zaad kk env0 72 qao_md:=
  fnG (fn:=Tryz.f72) (ko known22) (by kernel_rfl) (L:=noL) (zaab (bs:=[]) (by kernel_rfl) trivial) (zaaa _) (by kernel_rfl)
def ms23:List (FuncId×Mode U):=(72,qao_md)::ms22
theorem known23:Known kk env0 (zaac ms23):=known_cons (by kernel_rfl) qao_post known22
def qaq_b2:Code:=(zaas (zaah Tryz.f73) 0)
def qaq_lp2:Lift.Loop U:=lpG ⟨⟨[0,6],[6],[]⟩,[.t .str,.ptr 6 0],[.sit]⟩ [⟨.ret,⟨⟨[2],[],[]⟩,[.t .str],[]⟩⟩,⟨.exit 0,⟨⟨[0],[],[]⟩,[.t .str],[]⟩⟩] [.str,.str,.fn] [[.str],[.str]] qaq_l2
theorem qaq_ok2:LoopR kk env0 Tryz.f73.ntmps qaq_b2 qaq_lp2:=
  loopG qaq_i2 qaq_t2 (ko known23) (L:=noL) (zaab (bs:=[]) (by kernel_rfl) trivial) (by kernel_rfl) (fun _=>by kernel_rfl) (zaaa _) (fun _=>by kernel_rfl)
def qaq_L:Nat→Option (Lift.Loop U):=fun n=>bif Nat.beq n 2 then some qaq_lp2 else none
def qaq_md:Mode U:=mdG ⟨⟨[0],[],[]⟩,[.t .str],[]⟩ [] [⟨⟨[0],[],[]⟩,[.t .str],[]⟩] [.str] [[.str]] qaq
theorem qaq_post:zaad kk env0 73 qaq_md:=
  fnG (fn:=Tryz.f73) (ko known23) (by kernel_rfl) (L:=qaq_L) (zaab (bs:=[qaq_b2]) (by kernel_rfl) ⟨.inr ⟨_,by kernel_rfl,zaat.of_round (qaq_ok2)⟩,trivial⟩) (zaaa _) (by kernel_rfl)
def ms24:List (FuncId×Mode U):=(73,qaq_md)::ms23
theorem known24:Known kk env0 (zaac ms24):=known_cons (by kernel_rfl) qaq_post known23
def qam_md:Mode U:=mdG ⟨⟨[0],[],[]⟩,[.t .str],[]⟩ [] [⟨⟨[0,1],[],[]⟩,[.t (.int .i64),.t .bool],[]⟩] [.str] [[.int .i64,.bool]] qam
theorem qam_post:zaad kk env0 75 qam_md:=
  fnG (fn:=Tryz.f75) (ko known24) (by kernel_rfl) (L:=noL) (zaab (bs:=[]) (by kernel_rfl) trivial) (zaaa _) (by kernel_rfl)
def ms25:List (FuncId×Mode U):=(75,qam_md)::ms24
theorem known25:Known kk env0 (zaac ms25):=known_cons (by kernel_rfl) qam_post known24
def qak_md:Mode U:=mdG ⟨⟨[],[],[]⟩,[],[]⟩ [] [⟨⟨[0],[],[⟨.slot 0,100050,9,.str⟩]⟩,[.oslc 100050],[.row 9 .str]⟩] [] [[.slc .str]] qak
theorem qak_post:zaad kk env0 77 qak_md:=
  fnG (fn:=Tryz.f77) (ko known25) (by kernel_rfl) (L:=noL) (zaab (bs:=[]) (by kernel_rfl) trivial) (zaaa _) (by kernel_rfl)
def ms26:List (FuncId×Mode U):=(77,qak_md)::ms25
theorem known26:Known kk env0 (zaac ms26):=known_cons (by kernel_rfl) qak_post known25
def qap_md:Mode U:=mdG ⟨⟨[0],[],[]⟩,[.t .str],[]⟩ [] [⟨⟨[0,1],[],[]⟩,[.t (.st 37),.t (.int .i64)],[]⟩] [.str] [[.st 37,.int .i64]] qap
theorem qap_post:zaad kk env0 31 qap_md:=
  fnG (fn:=Tryz.f31) (ko known26) (by kernel_rfl) (L:=noL) (zaab (bs:=[]) (by kernel_rfl) trivial) (zaaa _) (by kernel_rfl)
def ms27:List (FuncId×Mode U):=(31,qap_md)::ms26
theorem known27:Known kk env0 (zaac ms27):=known_cons (by kernel_rfl) qap_post known26
def qaj_b6:Code:=(zaas (zaah Tryz.f13) 0)
def qaj_lp6:Lift.Loop U:=lpG ⟨⟨[0,3,6,7],[3],[⟨.slot 6,6,37,(.st 37)⟩]⟩,[.t .str,.ptr 3 0,.oslc 6,.t (.int .i64)],[.blk 30 [.t (.int .i64),.t (.int .i64),.t .str],.row 37 (.st 37)]⟩ [⟨.ret,⟨⟨[2,3],[3],[]⟩,[.nil,.ptr 3 0],[.blk 30 [.t (.int .i64),.t (.int .i64),.t .str]]⟩⟩,⟨.exit 0,⟨⟨[0,3,6],[3],[⟨.slot 6,6,37,(.st 37)⟩]⟩,[.t .str,.ptr 3 0,.oslc 6],[.blk 30 [.t (.int .i64),.t (.int .i64),.t .str],.row 37 (.st 37)]⟩⟩] [.str,.int .i64,.int .i64,.int .i64,.str,.slc (.st 37)] [[.int .i64,.int .i64,.str],[.str,.int .i64,.int .i64,.str,.slc (.st 37)]] qaj_l6
theorem qaj_ok6:LoopR kk env0 Tryz.f13.ntmps qaj_b6 qaj_lp6:=
  loopG qaj_i6 qaj_t6 (ko known27) (L:=noL) (zaab (bs:=[]) (by kernel_rfl) trivial) (by kernel_rfl) (fun _=>by kernel_rfl) (zaaa _) (fun _=>by kernel_rfl)
def qaj_L:Nat→Option (Lift.Loop U):=fun n=>bif Nat.beq n 6 then some qaj_lp6 else none
def qaj_md:Mode U:=mdG ⟨⟨[0],[],[]⟩,[.t .str],[]⟩ [] [⟨⟨[0,1],[],[]⟩,[.t (.slc (.st 37)),.t (.st 30)],[]⟩] [.str] [[.slc (.st 37),.st 30]] qaj
theorem qaj_post:zaad kk env0 13 qaj_md:=
  fnG (fn:=Tryz.f13) (ko known27) (by kernel_rfl) (L:=qaj_L) (zaab (bs:=[qaj_b6]) (by kernel_rfl) ⟨.inr ⟨_,by kernel_rfl,zaat.of_round (qaj_ok6)⟩,trivial⟩) (zaaa _) (by kernel_rfl)
def ms28:List (FuncId×Mode U):=(13,qaj_md)::ms27
theorem known28:Known kk env0 (zaac ms28):=known_cons (by kernel_rfl) qaj_post known27
def qax_md:Mode U:=mdG ⟨⟨[0],[100000],[]⟩,[.ptr 100000 0],[.blk 67 [.t (.slc (.st 37))]]⟩ [⟨100000,.slot 0,[]⟩] [⟨⟨[0],[100000],[]⟩,[.t (.st 37)],[.blk 67 [.t (.slc (.st 37))]]⟩] [.slc (.st 37)] [[.st 37,.slc (.st 37)]] qax
theorem qax_post:zaad kk env0 60 qax_md:=
  fnG (fn:=Tryz.f60) (ko known28) (by kernel_rfl) (L:=jnL) (zaab (bs:=[]) (by kernel_rfl) trivial) (zaaa _) (by kernel_rfl)
def ms29:List (FuncId×Mode U):=(60,qax_md)::ms28
theorem known29:Known kk env0 (zaac ms29):=known_cons (by kernel_rfl) qax_post known28
def qav_md:Mode U:=mdG ⟨⟨[0,1],[100000],[]⟩,[.ptr 100000 0,.t .str],[.blk 67 [.t (.slc (.st 37))]]⟩ [⟨100000,.slot 0,[]⟩] [⟨⟨[0],[100000],[]⟩,[.t .bool],[.blk 67 [.t (.slc (.st 37))]]⟩] [.str,.slc (.st 37)] [[.bool,.slc (.st 37)]] qav
theorem qav_post:zaad kk env0 113 qav_md:=
  fnG (fn:=Tryz.f113) (ko known29) (by kernel_rfl) (L:=jnL) (zaab (bs:=[]) (by kernel_rfl) trivial) (zaaa _) (by kernel_rfl)
def ms30:List (FuncId×Mode U):=(113,qav_md)::ms29
theorem known30:Known kk env0 (zaac ms30):=known_cons (by kernel_rfl) qav_post known29
def qaD_md:Mode U:=mdG ⟨⟨[0],[100000],[]⟩,[.ptr 100000 0],[.blk 67 [.t (.slc (.st 37))]]⟩ [⟨100000,.slot 0,[]⟩] [⟨⟨[0],[100000],[]⟩,[.t (.st 37)],[.blk 67 [.t (.slc (.st 37))]]⟩] [.slc (.st 37)] [[.st 37,.slc (.st 37)]] qaD
theorem qaD_post:zaad kk env0 114 qaD_md:=
  fnG (fn:=Tryz.f114) (ko known30) (by kernel_rfl) (L:=jnL) (zaab (bs:=[]) (by kernel_rfl) trivial) (zaaa _) (by kernel_rfl)
def ms31:List (FuncId×Mode U):=(114,qaD_md)::ms30
theorem known31:Known kk env0 (zaac ms31):=known_cons (by kernel_rfl) qaD_post known30
def qaE_md:Mode U:=mdG ⟨⟨[0,1],[100000],[]⟩,[.ptr 100000 0,.t .str],[.blk 67 [.t (.slc (.st 37))]]⟩ [⟨100000,.slot 0,[]⟩] [⟨⟨[0],[100000],[]⟩,[.t .bool],[.blk 67 [.t (.slc (.st 37))]]⟩] [.str,.slc (.st 37)] [[.bool,.slc (.st 37)]] qaE
theorem qaE_post:zaad kk env0 61 qaE_md:=
  fnG (fn:=Tryz.f61) (ko known31) (by kernel_rfl) (L:=jnL) (zaab (bs:=[]) (by kernel_rfl) trivial) (zaaa _) (by kernel_rfl)
def ms32:List (FuncId×Mode U):=(61,qaE_md)::ms31
theorem known32:Known kk env0 (zaac ms32):=known_cons (by kernel_rfl) qaE_post known31
def qaB_md:Mode U:=mdG ⟨⟨[0],[100000],[]⟩,[.ptr 100000 0],[.blk 67 [.t (.slc (.st 37))]]⟩ [⟨100000,.slot 0,[]⟩] [⟨⟨[777777],[],[]⟩,[.ifc 64 (.t (.st 64))],[]⟩] [.slc (.st 37)] [[.st 64]] qaB
theorem qaB_post:zaad kk env0 115 qaB_md:=
  fnG (fn:=Tryz.f115) (ko known32) (by kernel_rfl) (L:=jnL) (zaab (bs:=[]) (by kernel_rfl) trivial) (zaaa _) (by kernel_rfl)
def ms33:List (FuncId×Mode U):=(115,qaB_md)::ms32
theorem known33:Known kk env0 (zaac ms33):=known_cons (by kernel_rfl) qaB_post known32
def qay_md:Mode U:=mdG ⟨⟨[0,1],[100000],[]⟩,[.ptr 100000 0,.t (.int .i64)],[.blk 67 [.t (.slc (.st 37))]]⟩ [⟨100000,.slot 0,[]⟩] [⟨⟨[0],[100000],[]⟩,[.t (.st 37)],[.blk 67 [.t (.slc (.st 37))]]⟩,⟨⟨[777777],[],[]⟩,[.ifc 64 (.t (.st 64))],[]⟩] [.int .i64,.slc (.st 37)] [[.st 37,.slc (.st 37)],[.st 64]] qay
theorem qay_post:zaad kk env0 63 qay_md:=
  fnG (fn:=Tryz.f63) (ko known33) (by kernel_rfl) (L:=jnL) (zaab (bs:=[]) (by kernel_rfl) trivial) (zaaa _) (by kernel_rfl)
def ms34:List (FuncId×Mode U):=(63,qay_md)::ms33
theorem known34:Known kk env0 (zaac ms34):=known_cons (by kernel_rfl) qay_post known33
def qaw_md:Mode U:=mdG ⟨⟨[0],[100000],[]⟩,[.ptr 100000 0],[.blk 67 [.t (.slc (.st 37))]]⟩ [⟨100000,.slot 0,[]⟩] [⟨⟨[0],[100000],[]⟩,[.t .str],[.blk 67 [.t (.slc (.st 37))]]⟩,⟨⟨[777777],[],[]⟩,[.ifc 64 (.t (.st 64))],[]⟩] [.slc (.st 37)] [[.str,.slc (.st 37)],[.st 64]] qaw
theorem qaw_post:zaad kk env0 62 qaw_md:=
  fnG (fn:=Tryz.f62) (ko known34) (by kernel_rfl) (L:=jnL) (zaab (bs:=[]) (by kernel_rfl) trivial) (zaaa _) (by kernel_rfl)
def ms35:List (FuncId×Mode U):=(62,qaw_md)::ms34
theorem known35:Known kk env0 (zaac ms35):=known_cons (by kernel_rfl) qaw_post known34
def qaG_md:Mode U:=mdG ⟨⟨[0,1],[100000],[]⟩,[.ptr 100000 0,.t .str],[.blk 67 [.t (.slc (.st 37))]]⟩ [⟨100000,.slot 0,[]⟩] [⟨⟨[],[100000],[]⟩,[],[.blk 67 [.t (.slc (.st 37))]]⟩,⟨⟨[777777],[],[]⟩,[.ifc 64 (.t (.st 64))],[]⟩] [.str,.slc (.st 37)] [[.slc (.st 37)],[.st 64]] qaG
theorem qaG_post:zaad kk env0 64 qaG_md:=
  fnG (fn:=Tryz.f64) (ko known35) (by kernel_rfl) (L:=jnL) (zaab (bs:=[]) (by kernel_rfl) trivial) (zaaa _) (by kernel_rfl)
def ms36:List (FuncId×Mode U):=(64,qaG_md)::ms35
theorem known36:Known kk env0 (zaac ms36):=known_cons (by kernel_rfl) qaG_post known35
def qas_md:Mode U:=mdG ⟨⟨[],[],[]⟩,[],[]⟩ [] [⟨⟨[0],[],[⟨.slot 0,100050,196,(.map .str (.int .i64))⟩]⟩,[.oslc 100050],[.row 196 (.map .str (.int .i64))]⟩] [] [[.slc (.map .str (.int .i64))]] qas
theorem qas_post:zaad kk env0 175 qas_md:=
  fnG (fn:=Tryz.f175) (ko known36) (by kernel_rfl) (L:=jnL) (zaab (bs:=[]) (by kernel_rfl) trivial) (zaaa _) (by kernel_rfl)
def ms37:List (FuncId×Mode U):=(175,qas_md)::ms36
theorem known37:Known kk env0 (zaac ms37):=known_cons (by kernel_rfl) qas_post known36
abbrev qaF_tr:Type:=curT U (sumT U [[.int .i64,.int .i64,.str,.slc (.st 37),.slc (.st 1050)],[.st 64]]) [.slc (.st 37)]
def qaF_rmd (rec_qaF:qaF_tr):Mode U:=mdG ⟨⟨[0],[100000],[]⟩,[.ptr 100000 0],[.blk 67 [.t (.slc (.st 37))]]⟩ [⟨100000,.slot 0,[]⟩] [⟨⟨[0],[100000],[⟨.sub 0 3,100400,50,(.st 1050)⟩]⟩,[.agg [.t (.int .i64),.t (.int .i64),.t .str,.oslc 100400]],[.blk 67 [.t (.slc (.st 37))],.row 50 (.st 1050)]⟩,⟨⟨[777777],[],[]⟩,[.ifc 64 (.t (.st 64))],[]⟩] [.slc (.st 37)] [[.int .i64,.int .i64,.str,.slc (.st 37),.slc (.st 1050)],[.st 64]] rec_qaF
abbrev qaF_rec (r:qaF_tr):Prop:=zaad kk env0 176 (qaF_rmd r)
def ms38 (rec_qaF:qaF_tr):List (FuncId×Mode U):=(176,(qaF_rmd rec_qaF))::ms37
theorem known38 (rec_qaF:qaF_tr) (hrec_qaF:qaF_rec rec_qaF):Known kk env0 (zaac (ms38 rec_qaF)):=known_cons (by kernel_rfl) hrec_qaF known37
abbrev qau_tr:Type:=curT U (sumT U [[.int .i64,.int .i64,.str,.slc (.st 37),.slc (.st 1050)],[.st 64]]) [.int .i64,.slc (.st 37)]
def qau_rmd (rec_qau:qau_tr):Mode U:=mdG ⟨⟨[0,1],[100000],[]⟩,[.ptr 100000 0,.t (.int .i64)],[.blk 67 [.t (.slc (.st 37))]]⟩ [⟨100000,.slot 0,[]⟩] [⟨⟨[0],[100000],[⟨.sub 0 3,100400,50,(.st 1050)⟩]⟩,[.agg [.t (.int .i64),.t (.int .i64),.t .str,.oslc 100400]],[.blk 67 [.t (.slc (.st 37))],.row 50 (.st 1050)]⟩,⟨⟨[777777],[],[]⟩,[.ifc 64 (.t (.st 64))],[]⟩] [.int .i64,.slc (.st 37)] [[.int .i64,.int .i64,.str,.slc (.st 37),.slc (.st 1050)],[.st 64]] rec_qau
abbrev qau_rec (r:qau_tr):Prop:=zaad kk env0 148 (qau_rmd r)
def ms39 (rec_qaF:qaF_tr) (rec_qau:qau_tr):List (FuncId×Mode U):=(148,(qau_rmd rec_qau))::(ms38 rec_qaF)
theorem known39 (rec_qaF:qaF_tr) (hrec_qaF:qaF_rec rec_qaF) (rec_qau:qau_tr) (hrec_qau:qau_rec rec_qau):Known kk env0 (zaac (ms39 rec_qaF rec_qau)):=known_cons (by kernel_rfl) hrec_qau (known38 rec_qaF hrec_qaF)
def qaF_md (rec_qau:qau_tr):Mode U:=qaF_rmd (qaF rec_qau)
theorem qaF_step (rec_qaF:qaF_tr) (hrec_qaF:qaF_rec rec_qaF) (rec_qau:qau_tr) (hrec_qau:qau_rec rec_qau):zaax (Kit.withModes kk (zaac (ms39 rec_qaF rec_qau))) env0 Tryz.f176.ntmps jnL (zaah Tryz.f176):=zaab (bs:=[]) (by kernel_rfl) trivial
theorem qaF_post (rec_qau:qau_tr) (hrec_qau:qau_rec rec_qau):zaad kk env0 176 (qaF_rmd (qaF rec_qau)):=
  recG (qaF_i rec_qau) (fun r=>qaF_f r rec_qau) (by kernel_rfl) (fun _=>by kernel_rfl) (zaaa _) fun r ih=>fnG (fn:=Tryz.f176) (ko (known39 r ih rec_qau hrec_qau)) (by kernel_rfl) (qaF_step r ih rec_qau hrec_qau) rfl (by kernel_rfl)
def ms40 (rec_qau:qau_tr):List (FuncId×Mode U):=(148,(qau_rmd rec_qau))::ms37
theorem known40 (rec_qau:qau_tr) (hrec_qau:qau_rec rec_qau):Known kk env0 (zaac (ms40 rec_qau)):=known_cons (by kernel_rfl) hrec_qau known37
def ms41 (rec_qau:qau_tr):List (FuncId×Mode U):=(176,(qaF_md rec_qau))::(ms40 rec_qau)
theorem known41 (rec_qau:qau_tr) (hrec_qau:qau_rec rec_qau):Known kk env0 (zaac (ms41 rec_qau)):=known_cons (by kernel_rfl) (qaF_post rec_qau hrec_qau) (known40 rec_qau hrec_qau)
def qau_b5:Code:=(zaas (zaah Tryz.f148) 0)
def qau_L5 (rec_qau:qau_tr):Nat→Option (Lift.Loop U):=fun n=>bif Nat.beq n zaa2 then some zaa0 else bif Nat.beq n (zahz+9) then some (zak8 5) else none
def qau_lp5 (rec_qau:qau_tr):Lift.Loop U:=lpG ⟨⟨[0,1,4,5,6],[100000,4,6],[⟨.slot 5,5,196,(.map .str (.int .i64))⟩,⟨.cell 6 3,20303,50,(.st 1050)⟩]⟩,[.ptr 100000 0,.t (.int .i64),.ptr 4 0,.oslc 5,.ptr 6 0],[.blk 67 [.t (.slc (.st 37))],.blk 50 [.t (.int .i64),.t (.int .i64),.t .str,.nil],.blk 50 [.t (.int .i64),.t (.int .i64),.t .str,.oslc 20303],.row 196 (.map .str (.int .i64)),.row 50 (.st 1050)]⟩ [⟨.exit 0,⟨⟨[4,6],[100000,4,6],[⟨.cell 6 3,20303,50,(.st 1050)⟩]⟩,[.ptr 4 0,.ptr 6 0],[.blk 67 [.t (.slc (.st 37))],.blk 50 [.t (.int .i64),.t (.int .i64),.t .str,.nil],.blk 50 [.t (.int .i64),.t (.int .i64),.t .str,.oslc 20303],.row 50 (.st 1050)]⟩⟩,⟨.pan,⟨⟨[777777],[],[]⟩,[.ifc 64 (.t (.st 64))],[]⟩⟩] [.int .i64,.slc (.st 37),.int .i64,.int .i64,.str,.int .i64,.int .i64,.str,.slc (.map .str (.int .i64)),.slc (.st 1050)] [[.slc (.st 37),.int .i64,.int .i64,.str,.int .i64,.int .i64,.str,.slc (.st 1050)],[.st 64]] (qau_l5 rec_qau)
theorem qau_ok5 (rec_qau:qau_tr) (hrec_qau:qau_rec rec_qau):LoopR kk env0 Tryz.f148.ntmps qau_b5 (qau_lp5 rec_qau):=
  loopG (qau_i5 rec_qau) (qau_t5 rec_qau) (ko (known41 rec_qau hrec_qau)) (L:=(qau_L5 rec_qau)) (zaab (bs:=[]) (by kernel_rfl) trivial) (by kernel_rfl) (fun _=>by kernel_rfl) (zaaa _) (fun _=>by kernel_rfl)
def qau_L (rec_qau:qau_tr):Nat→Option (Lift.Loop U):=fun n=>bif Nat.beq n zaa2 then some zaa0 else bif Nat.beq n (zahz+9) then some (zak8 5) else bif Nat.beq n 5 then some (qau_lp5 rec_qau) else none
def qau_md:Mode U:=qau_rmd qau
theorem qau_step (rec_qau:qau_tr) (hrec_qau:qau_rec rec_qau):zaax (Kit.withModes kk (zaac (ms41 rec_qau))) env0 Tryz.f148.ntmps (qau_L rec_qau) (zaah Tryz.f148):=zaab (bs:=[qau_b5]) (by kernel_rfl) ⟨.inr ⟨_,by kernel_rfl,zaat.of_round (qau_ok5 rec_qau hrec_qau)⟩,trivial⟩
theorem qau_post:zaad kk env0 148 (qau_rmd qau):=
  recG qau_i qau_f (by kernel_rfl) (fun _=>by kernel_rfl) (zaaa _) fun r ih=>fnG (fn:=Tryz.f148) (ko (known41 r ih)) (by kernel_rfl) (qau_step r ih) rfl (by kernel_rfl)
def ms42:List (FuncId×Mode U):=(148,qau_md)::ms37
theorem known42:Known kk env0 (zaac ms42):=known_cons (by kernel_rfl) qau_post known37
def qaz_md:Mode U:=mdG ⟨⟨[0],[100000],[]⟩,[.ptr 100000 0],[.blk 67 [.t (.slc (.st 37))]]⟩ [⟨100000,.slot 0,[]⟩] [⟨⟨[0],[100000],[]⟩,[.t (.st 52)],[.blk 67 [.t (.slc (.st 37))]]⟩,⟨⟨[777777],[],[]⟩,[.ifc 64 (.t (.st 64))],[]⟩] [.slc (.st 37)] [[.st 52,.slc (.st 37)],[.st 64]] qaz
theorem qaz_post:zaad kk env0 147 qaz_md:=
  fnG (fn:=Tryz.f147) (ko known42) (by kernel_rfl) (L:=jnL) (zaab (bs:=[]) (by kernel_rfl) trivial) (zaaa _) (by kernel_rfl)
def ms43:List (FuncId×Mode U):=(147,qaz_md)::ms42
theorem known43:Known kk env0 (zaac ms43):=known_cons (by kernel_rfl) qaz_post known42
abbrev qat_tr:Type:=curT U (sumT U [[.slc (.st 52),.slc (.st 37)],[.st 64]]) [.slc (.st 37)]
def qat_rmd (rec_qat:qat_tr):Mode U:=mdG ⟨⟨[0],[100000],[]⟩,[.ptr 100000 0],[.blk 67 [.t (.slc (.st 37))]]⟩ [⟨100000,.slot 0,[]⟩] [⟨⟨[0],[100000],[]⟩,[.t (.slc (.st 52))],[.blk 67 [.t (.slc (.st 37))]]⟩,⟨⟨[777777],[],[]⟩,[.ifc 64 (.t (.st 64))],[]⟩] [.slc (.st 37)] [[.slc (.st 52),.slc (.st 37)],[.st 64]] rec_qat
abbrev qat_rec (r:qat_tr):Prop:=zaad kk env0 65 (qat_rmd r)
def ms44 (rec_qat:qat_tr):List (FuncId×Mode U):=(65,(qat_rmd rec_qat))::ms43
theorem known44 (rec_qat:qat_tr) (hrec_qat:qat_rec rec_qat):Known kk env0 (zaac (ms44 rec_qat)):=known_cons (by kernel_rfl) hrec_qat known43
def qaC_b4:Code:=(zaas (zaah Tryz.f116) 0)
def qaC_lp4 (rec_qat:qat_tr):Lift.Loop U:=lpG ⟨⟨[0,2,16,17,18],[100000,2],[⟨.slot 16,16,9,.str⟩]⟩,[.ptr 100000 0,.ptr 2 0,.oslc 16,.t (.int .i64),.t (.int .i64)],[.blk 67 [.t (.slc (.st 37))],.blk 52 [.t (.int .i64),.t .str,.t .str,.t (.int .i64),.t (.int .i64),.t .str,.nil,.t (.int .i64),.nil,.nil],.row 9 .str]⟩ [⟨.ret,⟨⟨[2],[100000,2],[]⟩,[.ptr 2 0],[.blk 67 [.t (.slc (.st 37))],.blk 52 [.t (.int .i64),.t .str,.t .str,.t (.int .i64),.t (.int .i64),.t .str,.t (.slc (.st 50)),.t (.int .i64),.t (.slc (.st 52)),.t (.slc (.st 52))]]⟩⟩,⟨.pan,⟨⟨[777777],[],[]⟩,[.ifc 64 (.t (.st 64))],[]⟩⟩,⟨.exit 0,⟨⟨[0,2],[100000,2],[]⟩,[.ptr 100000 0,.ptr 2 0],[.blk 67 [.t (.slc (.st 37))],.blk 52 [.t (.int .i64),.t .str,.t .str,.t (.int .i64),.t (.int .i64),.t .str,.nil,.t (.int .i64),.nil,.nil]]⟩⟩] [.int .i64,.int .i64,.slc (.st 37),.int .i64,.str,.str,.int .i64,.int .i64,.str,.int .i64,.slc .str] [[.slc (.st 37),.int .i64,.str,.str,.int .i64,.int .i64,.str,.slc (.st 50),.int .i64,.slc (.st 52),.slc (.st 52)],[.st 64],[.slc (.st 37),.int .i64,.str,.str,.int .i64,.int .i64,.str,.int .i64]] (qaC_l4 rec_qat)
theorem qaC_ok4 (rec_qat:qat_tr) (hrec_qat:qat_rec rec_qat):LoopR kk env0 Tryz.f116.ntmps qaC_b4 (qaC_lp4 rec_qat):=
  loopG (qaC_i4 rec_qat) (qaC_t4 rec_qat) (ko (known44 rec_qat hrec_qat)) (L:=jnL) (zaab (bs:=[]) (by kernel_rfl) trivial) (by kernel_rfl) (fun _=>by kernel_rfl) (zaaa _) (fun _=>by kernel_rfl)
def qaC_L (rec_qat:qat_tr):Nat→Option (Lift.Loop U):=fun n=>bif Nat.beq n zaa2 then some zaa0 else bif Nat.beq n 4 then some (qaC_lp4 rec_qat) else none
def qaC_md (rec_qat:qat_tr):Mode U:=mdG ⟨⟨[0],[100000],[]⟩,[.ptr 100000 0],[.blk 67 [.t (.slc (.st 37))]]⟩ [⟨100000,.slot 0,[]⟩] [⟨⟨[0],[100000],[]⟩,[.t (.st 52)],[.blk 67 [.t (.slc (.st 37))]]⟩,⟨⟨[777777],[],[]⟩,[.ifc 64 (.t (.st 64))],[]⟩] [.slc (.st 37)] [[.st 52,.slc (.st 37)],[.st 64]] (qaC rec_qat)
theorem qaC_post (rec_qat:qat_tr) (hrec_qat:qat_rec rec_qat):zaad kk env0 116 (qaC_md rec_qat):=
  fnG (fn:=Tryz.f116) (ko (known44 rec_qat hrec_qat)) (by kernel_rfl) (L:=(qaC_L rec_qat)) (zaab (bs:=[qaC_b4]) (by kernel_rfl) ⟨.inr ⟨_,by kernel_rfl,zaat.of_round (qaC_ok4 rec_qat hrec_qat)⟩,trivial⟩) (zaaa _) (by kernel_rfl)
def ms45 (rec_qat:qat_tr):List (FuncId×Mode U):=(116,(qaC_md rec_qat))::(ms44 rec_qat)
theorem known45 (rec_qat:qat_tr) (hrec_qat:qat_rec rec_qat):Known kk env0 (zaac (ms45 rec_qat)):=known_cons (by kernel_rfl) (qaC_post rec_qat hrec_qat) (known44 rec_qat hrec_qat)
def qat_b3:Code:=(zaas (zaah Tryz.f65) 0)
def qat_lp3 (rec_qat:qat_tr):Lift.Loop U:=lpG ⟨⟨[0,3],[100000],[⟨.slot 3,3,52,(.st 52)⟩]⟩,[.ptr 100000 0,.oslc 3],[.blk 67 [.t (.slc (.st 37))],.row 52 (.st 52)]⟩ [⟨.pan,⟨⟨[777777],[],[]⟩,[.ifc 64 (.t (.st 64))],[]⟩⟩,⟨.exit 0,⟨⟨[3],[100000],[⟨.slot 3,3,52,(.st 52)⟩]⟩,[.oslc 3],[.blk 67 [.t (.slc (.st 37))],.row 52 (.st 52)]⟩⟩] [.slc (.st 37),.slc (.st 52)] [[.st 64],[.slc (.st 37),.slc (.st 52)]] (qat_l3 rec_qat)
theorem qat_ok3 (rec_qat:qat_tr) (hrec_qat:qat_rec rec_qat):LoopR kk env0 Tryz.f65.ntmps qat_b3 (qat_lp3 rec_qat):=
  loopG (qat_i3 rec_qat) (qat_t3 rec_qat) (ko (known45 rec_qat hrec_qat)) (L:=jnL) (zaab (bs:=[]) (by kernel_rfl) trivial) (by kernel_rfl) (fun _=>by kernel_rfl) (zaaa _) (fun _=>by kernel_rfl)
def qat_L (rec_qat:qat_tr):Nat→Option (Lift.Loop U):=fun n=>bif Nat.beq n zaa2 then some zaa0 else bif Nat.beq n 3 then some (qat_lp3 rec_qat) else none
def qat_md:Mode U:=qat_rmd qat
theorem qat_step (rec_qat:qat_tr) (hrec_qat:qat_rec rec_qat):zaax (Kit.withModes kk (zaac (ms45 rec_qat))) env0 Tryz.f65.ntmps (qat_L rec_qat) (zaah Tryz.f65):=zaab (bs:=[qat_b3]) (by kernel_rfl) ⟨.inr ⟨_,by kernel_rfl,zaat.of_round (qat_ok3 rec_qat hrec_qat)⟩,trivial⟩
theorem qat_post:zaad kk env0 65 (qat_rmd qat):=
  recG qat_i qat_f (by kernel_rfl) (fun _=>by kernel_rfl) (zaaa _) fun r ih=>fnG (fn:=Tryz.f65) (ko (known45 r ih)) (by kernel_rfl) (qat_step r ih) rfl (by kernel_rfl)
def ms46:List (FuncId×Mode U):=(65,qat_md)::ms43
theorem known46:Known kk env0 (zaac ms46):=known_cons (by kernel_rfl) qat_post known43
def qaA_b2:Code:=(zaas (zaah Tryz.f27) 0)
def qaA_L2:Nat→Option (Lift.Loop U):=fun n=>bif Nat.beq n zaa2 then some zaa0 else bif Nat.beq n (zahz+17) then some (zak8 3) else none
def qaA_lp2:Lift.Loop U:=lpG ⟨⟨[0,2,3],[100000,2,3],[⟨.cell 3 0,20150,62,(.st 62)⟩,⟨.cell 3 1,20151,9,.str⟩,⟨.cell 3 2,20152,46,(.st 46)⟩]⟩,[.ptr 100000 0,.ptr 2 0,.ptr 3 0],[.blk 67 [.t (.slc (.st 37))],.blk 27 [.nil,.nil,.nil],.blk 27 [.oslc 20150,.oslc 20151,.oslc 20152],.row 62 (.st 62),.row 9 .str,.row 46 (.st 46)]⟩ [⟨.pan,⟨⟨[777777],[],[]⟩,[.ifc 64 (.t (.st 64))],[]⟩⟩,⟨.exit 0,⟨⟨[2,3],[100000,2,3],[⟨.cell 3 0,20150,62,(.st 62)⟩,⟨.cell 3 1,20151,9,.str⟩,⟨.cell 3 2,20152,46,(.st 46)⟩]⟩,[.ptr 2 0,.ptr 3 0],[.blk 67 [.t (.slc (.st 37))],.blk 27 [.nil,.nil,.nil],.blk 27 [.oslc 20150,.oslc 20151,.oslc 20152],.row 62 (.st 62),.row 9 .str,.row 46 (.st 46)]⟩⟩] [.slc (.st 37),.slc (.st 62),.slc .str,.slc (.st 46)] [[.st 64],[.slc (.st 37),.slc (.st 62),.slc .str,.slc (.st 46)]] qaA_l2
theorem qaA_ok2:LoopR kk env0 Tryz.f27.ntmps qaA_b2 qaA_lp2:=
  loopG qaA_i2 qaA_t2 (ko known46) (L:=qaA_L2) (zaab (bs:=[]) (by kernel_rfl) trivial) (by kernel_rfl) (fun _=>by kernel_rfl) (zaaa _) (fun _=>by kernel_rfl)
def qaA_L:Nat→Option (Lift.Loop U):=fun n=>bif Nat.beq n zaa2 then some zaa0 else bif Nat.beq n (zahz+17) then some (zak8 3) else bif Nat.beq n 2 then some qaA_lp2 else none
def qaA_md:Mode U:=mdG ⟨⟨[0],[100000],[]⟩,[.ptr 100000 0],[.blk 67 [.t (.slc (.st 37))]]⟩ [⟨100000,.slot 0,[]⟩] [⟨⟨[0],[100000],[⟨.sub 0 0,100100,62,(.st 62)⟩,⟨.sub 0 1,100200,9,.str⟩,⟨.sub 0 2,100300,46,(.st 46)⟩]⟩,[.agg [.oslc 100100,.oslc 100200,.oslc 100300]],[.blk 67 [.t (.slc (.st 37))],.row 62 (.st 62),.row 9 .str,.row 46 (.st 46)]⟩,⟨⟨[777777],[],[]⟩,[.ifc 64 (.t (.st 64))],[]⟩] [.slc (.st 37)] [[.slc (.st 37),.slc (.st 62),.slc .str,.slc (.st 46)],[.st 64]] qaA
theorem qaA_post:zaad kk env0 27 qaA_md:=
  fnG (fn:=Tryz.f27) (ko known46) (by kernel_rfl) (L:=qaA_L) (zaab (bs:=[qaA_b2]) (by kernel_rfl) ⟨.inr ⟨_,by kernel_rfl,zaat.of_round (qaA_ok2)⟩,trivial⟩) (zaaa _) (by kernel_rfl)
def ms47:List (FuncId×Mode U):=(27,qaA_md)::ms46
theorem known47:Known kk env0 (zaac ms47):=known_cons (by kernel_rfl) qaA_post known46
def qa9_md:Mode U:=mdG ⟨⟨[0,1,2],[100000],[]⟩,[.t (.st 52),.t (.int .i64),.ptr 100000 0],[.blk 3 [.t (.int .i64)]]⟩ [⟨100000,.slot 2,[]⟩] [⟨⟨[],[100000],[]⟩,[],[.blk 3 [.t (.int .i64)]]⟩] [.st 52,.int .i64,.int .i64] [[.int .i64]] qa9
theorem qa9_post:zaad kk env0 66 qa9_md:=
  fnG (fn:=Tryz.f66) (ko known47) (by kernel_rfl) (L:=jnL) (zaab (bs:=[]) (by kernel_rfl) trivial) (zaaa _) (by kernel_rfl)
def ms48:List (FuncId×Mode U):=(66,qa9_md)::ms47
theorem known48:Known kk env0 (zaac ms48):=known_cons (by kernel_rfl) qa9_post known47
def qba_md:Mode U:=mdG ⟨⟨[0,1,2],[100000],[]⟩,[.t (.st 50),.t (.int .i64),.ptr 100000 0],[.blk 3 [.t (.int .i64)]]⟩ [⟨100000,.slot 2,[]⟩] [⟨⟨[],[100000],[]⟩,[],[.blk 3 [.t (.int .i64)]]⟩] [.st 50,.int .i64,.int .i64] [[.int .i64]] qba
theorem qba_post:zaad kk env0 67 qba_md:=
  fnG (fn:=Tryz.f67) (ko known48) (by kernel_rfl) (L:=jnL) (zaab (bs:=[]) (by kernel_rfl) trivial) (zaaa _) (by kernel_rfl)
def ms49:List (FuncId×Mode U):=(67,qba_md)::ms48
theorem known49:Known kk env0 (zaac ms49):=known_cons (by kernel_rfl) qba_post known48
abbrev qaa_tr:Type:=curT U (sumT U [[.int .i64]]) [.st 50,.int .i64,.int .i64]
def qaa_rmd (rec_qaa:qaa_tr):Mode U:=mdG ⟨⟨[0,1,2],[100000],[]⟩,[.agg [.clo 66 [.ptr 100000 0],.clo 67 [.ptr 100000 0]],.t (.st 50),.t (.int .i64)],[.blk 3 [.t (.int .i64)]]⟩ [⟨100000,.slot 0,[0,0]⟩] [⟨⟨[],[100000],[]⟩,[],[.blk 3 [.t (.int .i64)]]⟩] [.st 50,.int .i64,.int .i64] [[.int .i64]] rec_qaa
abbrev qaa_rec (r:qaa_tr):Prop:=zaad kk env0 129 (qaa_rmd r)
def ms50 (rec_qaa:qaa_tr):List (FuncId×Mode U):=(129,(qaa_rmd rec_qaa))::ms49
theorem known50 (rec_qaa:qaa_tr) (hrec_qaa:qaa_rec rec_qaa):Known kk env0 (zaac (ms50 rec_qaa)):=known_cons (by kernel_rfl) hrec_qaa known49
def qaa_b3:Code:=(zaas (zaah Tryz.f129) 0)
def qaa_lp3 (rec_qaa:qaa_tr):Lift.Loop U:=lpG ⟨⟨[2,3,14,15,16],[100000,3],[]⟩,[.t (.int .i64),.ptr 3 0,.t (.slc (.st 50)),.t (.int .i64),.t (.int .i64)],[.blk 3 [.t (.int .i64)],.blk 89 [.clo 66 [.ptr 100000 0],.clo 67 [.ptr 100000 0]]]⟩ [⟨.exit 0,⟨⟨[],[100000],[]⟩,[],[.blk 3 [.t (.int .i64)]]⟩⟩] [.int .i64,.slc (.st 50),.int .i64,.int .i64,.int .i64] [[.int .i64]] (qaa_l3 rec_qaa)
theorem qaa_ok3 (rec_qaa:qaa_tr) (hrec_qaa:qaa_rec rec_qaa):LoopR kk env0 Tryz.f129.ntmps qaa_b3 (qaa_lp3 rec_qaa):=
  loopG (qaa_i3 rec_qaa) (qaa_t3 rec_qaa) (ko (known50 rec_qaa hrec_qaa)) (L:=jnL) (zaab (bs:=[]) (by kernel_rfl) trivial) (by kernel_rfl) (fun _=>by kernel_rfl) (zaaa _) (fun _=>by kernel_rfl)
def qaa_L (rec_qaa:qaa_tr):Nat→Option (Lift.Loop U):=fun n=>bif Nat.beq n zaa2 then some zaa0 else bif Nat.beq n 3 then some (qaa_lp3 rec_qaa) else none
def qaa_md:Mode U:=qaa_rmd qaa
theorem qaa_step (rec_qaa:qaa_tr) (hrec_qaa:qaa_rec rec_qaa):zaax (Kit.withModes kk (zaac (ms50 rec_qaa))) env0 Tryz.f129.ntmps (qaa_L rec_qaa) (zaah Tryz.f129):=zaab (bs:=[qaa_b3]) (by kernel_rfl) ⟨.inr ⟨_,by kernel_rfl,zaat.of_round (qaa_ok3 rec_qaa hrec_qaa)⟩,trivial⟩
theorem qaa_post:zaad kk env0 129 (qaa_rmd qaa):=
  recG qaa_i qaa_f (by kernel_rfl) (fun _=>by kernel_rfl) (zaaa _) fun r ih=>fnG (fn:=Tryz.f129) (ko (known50 r ih)) (by kernel_rfl) (qaa_step r ih) rfl (by kernel_rfl)
def ms51:List (FuncId×Mode U):=(129,qaa_md)::ms49
theorem known51:Known kk env0 (zaac ms51):=known_cons (by kernel_rfl) qaa_post known49
abbrev qag_tr:Type:=curT U (sumT U [[.int .i64]]) [.slc (.st 52),.int .i64,.int .i64]
def qag_rmd (rec_qag:qag_tr):Mode U:=mdG ⟨⟨[0,1,2],[100000],[]⟩,[.agg [.clo 66 [.ptr 100000 0],.clo 67 [.ptr 100000 0]],.t (.slc (.st 52)),.t (.int .i64)],[.blk 3 [.t (.int .i64)]]⟩ [⟨100000,.slot 0,[0,0]⟩] [⟨⟨[],[100000],[]⟩,[],[.blk 3 [.t (.int .i64)]]⟩] [.slc (.st 52),.int .i64,.int .i64] [[.int .i64]] rec_qag
abbrev qag_rec (r:qag_tr):Prop:=zaad kk env0 89 (qag_rmd r)
def ms52 (rec_qag:qag_tr):List (FuncId×Mode U):=(89,(qag_rmd rec_qag))::ms51
theorem known52 (rec_qag:qag_tr) (hrec_qag:qag_rec rec_qag):Known kk env0 (zaac (ms52 rec_qag)):=known_cons (by kernel_rfl) hrec_qag known51
def qag_b2:Code:=(zaas (zaah Tryz.f89) 0)
def qag_lp2 (rec_qag:qag_tr):Lift.Loop U:=lpG ⟨⟨[2,3,8,9,10],[100000,3],[]⟩,[.t (.int .i64),.ptr 3 0,.t (.slc (.st 52)),.t (.int .i64),.t (.int .i64)],[.blk 3 [.t (.int .i64)],.blk 89 [.clo 66 [.ptr 100000 0],.clo 67 [.ptr 100000 0]]]⟩ [⟨.exit 0,⟨⟨[],[100000],[]⟩,[],[.blk 3 [.t (.int .i64)]]⟩⟩] [.int .i64,.slc (.st 52),.int .i64,.int .i64,.int .i64] [[.int .i64]] (qag_l2 rec_qag)
theorem qag_ok2 (rec_qag:qag_tr) (hrec_qag:qag_rec rec_qag):LoopR kk env0 Tryz.f89.ntmps qag_b2 (qag_lp2 rec_qag):=
  loopG (qag_i2 rec_qag) (qag_t2 rec_qag) (ko (known52 rec_qag hrec_qag)) (L:=jnL) (zaab (bs:=[]) (by kernel_rfl) trivial) (by kernel_rfl) (fun _=>by kernel_rfl) (zaaa _) (fun _=>by kernel_rfl)
def qag_L (rec_qag:qag_tr):Nat→Option (Lift.Loop U):=fun n=>bif Nat.beq n zaa2 then some zaa0 else bif Nat.beq n 2 then some (qag_lp2 rec_qag) else none
def qag_md:Mode U:=qag_rmd qag
theorem qag_step (rec_qag:qag_tr) (hrec_qag:qag_rec rec_qag):zaax (Kit.withModes kk (zaac (ms52 rec_qag))) env0 Tryz.f89.ntmps (qag_L rec_qag) (zaah Tryz.f89):=zaab (bs:=[qag_b2]) (by kernel_rfl) ⟨.inr ⟨_,by kernel_rfl,zaat.of_round (qag_ok2 rec_qag hrec_qag)⟩,trivial⟩
theorem qag_post:zaad kk env0 89 (qag_rmd qag):=
  recG qag_i qag_f (by kernel_rfl) (fun _=>by kernel_rfl) (zaaa _) fun r ih=>fnG (fn:=Tryz.f89) (ko (known52 r ih)) (by kernel_rfl) (qag_step r ih) rfl (by kernel_rfl)
def ms53:List (FuncId×Mode U):=(89,qag_md)::ms51
theorem known53:Known kk env0 (zaac ms53):=known_cons (by kernel_rfl) qag_post known51
def qad_b2:Code:=(zaas (zaah Tryz.f43) 0)
def qad_lp2:Lift.Loop U:=lpG ⟨⟨[2,7,8,9],[100000,2],[]⟩,[.ptr 2 0,.t (.slc (.st 46)),.t (.int .i64),.t (.int .i64)],[.blk 3 [.t (.int .i64)],.blk 89 [.clo 66 [.ptr 100000 0],.clo 67 [.ptr 100000 0]]]⟩ [⟨.exit 0,⟨⟨[],[100000],[]⟩,[],[.blk 3 [.t (.int .i64)]]⟩⟩] [.slc (.st 46),.int .i64,.int .i64,.int .i64] [[.int .i64]] qad_l2
theorem qad_ok2:LoopR kk env0 Tryz.f43.ntmps qad_b2 qad_lp2:=
  loopG qad_i2 qad_t2 (ko known53) (L:=jnL) (zaab (bs:=[]) (by kernel_rfl) trivial) (by kernel_rfl) (fun _=>by kernel_rfl) (zaaa _) (fun _=>by kernel_rfl)
def qad_L:Nat→Option (Lift.Loop U):=fun n=>bif Nat.beq n zaa2 then some zaa0 else bif Nat.beq n 2 then some qad_lp2 else none
def qad_md:Mode U:=mdG ⟨⟨[0,1],[100000],[]⟩,[.agg [.clo 66 [.ptr 100000 0],.clo 67 [.ptr 100000 0]],.t (.st 27)],[.blk 3 [.t (.int .i64)]]⟩ [⟨100000,.slot 0,[0,0]⟩] [⟨⟨[],[100000],[]⟩,[],[.blk 3 [.t (.int .i64)]]⟩] [.st 27,.int .i64] [[.int .i64]] qad
theorem qad_post:zaad kk env0 43 qad_md:=
  fnG (fn:=Tryz.f43) (ko known53) (by kernel_rfl) (L:=qad_L) (zaab (bs:=[qad_b2]) (by kernel_rfl) ⟨.inr ⟨_,by kernel_rfl,zaat.of_round (qad_ok2)⟩,trivial⟩) (zaaa _) (by kernel_rfl)
def ms54:List (FuncId×Mode U):=(43,qad_md)::ms53
theorem known54:Known kk env0 (zaac ms54):=known_cons (by kernel_rfl) qad_post known53
def qa8_md:Mode U:=mdG ⟨⟨[0],[],[]⟩,[.t (.st 27)],[]⟩ [] [⟨⟨[0],[],[]⟩,[.t (.int .i64)],[]⟩] [.st 27] [[.int .i64]] qa8
theorem qa8_post:zaad kk env0 28 qa8_md:=
  fnG (fn:=Tryz.f28) (ko known54) (by kernel_rfl) (L:=jnL) (zaab (bs:=[]) (by kernel_rfl) trivial) (zaaa _) (by kernel_rfl)
def ms55:List (FuncId×Mode U):=(28,qa8_md)::ms54
theorem known55:Known kk env0 (zaac ms55):=known_cons (by kernel_rfl) qa8_post known54
def qa6_md:Mode U:=mdG ⟨⟨[0,1,2],[100000],[]⟩,[.t (.st 52),.t (.int .i64),.ptr 100000 0],[.blk 3 [.t (.int .i64)]]⟩ [⟨100000,.slot 2,[]⟩] [⟨⟨[],[100000],[]⟩,[],[.blk 3 [.t (.int .i64)]]⟩] [.st 52,.int .i64,.int .i64] [[.int .i64]] qa6
theorem qa6_post:zaad kk env0 41 qa6_md:=
  fnG (fn:=Tryz.f41) (ko known55) (by kernel_rfl) (L:=jnL) (zaab (bs:=[]) (by kernel_rfl) trivial) (zaaa _) (by kernel_rfl)
def ms56:List (FuncId×Mode U):=(41,qa6_md)::ms55
theorem known56:Known kk env0 (zaac ms56):=known_cons (by kernel_rfl) qa6_post known55
def qa7_md:Mode U:=mdG ⟨⟨[0,1,2],[100000],[]⟩,[.t (.st 50),.t (.int .i64),.ptr 100000 0],[.blk 3 [.t (.int .i64)]]⟩ [⟨100000,.slot 2,[]⟩] [⟨⟨[],[100000],[]⟩,[],[.blk 3 [.t (.int .i64)]]⟩] [.st 50,.int .i64,.int .i64] [[.int .i64]] qa7
theorem qa7_post:zaad kk env0 42 qa7_md:=
  fnG (fn:=Tryz.f42) (ko known56) (by kernel_rfl) (L:=jnL) (zaab (bs:=[]) (by kernel_rfl) trivial) (zaaa _) (by kernel_rfl)
def ms57:List (FuncId×Mode U):=(42,qa7_md)::ms56
theorem known57:Known kk env0 (zaac ms57):=known_cons (by kernel_rfl) qa7_post known56
abbrev qab_tr:Type:=curT U (sumT U [[.int .i64]]) [.st 50,.int .i64,.int .i64]
def qab_rmd (rec_qab:qab_tr):Mode U:=mdG ⟨⟨[0,1,2],[100000],[]⟩,[.agg [.clo 41 [.ptr 100000 0],.clo 42 [.ptr 100000 0]],.t (.st 50),.t (.int .i64)],[.blk 3 [.t (.int .i64)]]⟩ [⟨100000,.slot 0,[0,0]⟩] [⟨⟨[],[100000],[]⟩,[],[.blk 3 [.t (.int .i64)]]⟩] [.st 50,.int .i64,.int .i64] [[.int .i64]] rec_qab
abbrev qab_rec (r:qab_tr):Prop:=zaad kk env0 129 (qab_rmd r)
def ms58 (rec_qab:qab_tr):List (FuncId×Mode U):=(129,(qab_rmd rec_qab))::ms57
theorem known58 (rec_qab:qab_tr) (hrec_qab:qab_rec rec_qab):Known kk env0 (zaac (ms58 rec_qab)):=known_cons (by kernel_rfl) hrec_qab known57
def qab_b3:Code:=(zaas (zaah Tryz.f129) 0)
def qab_lp3 (rec_qab:qab_tr):Lift.Loop U:=lpG ⟨⟨[2,3,14,15,16],[100000,3],[]⟩,[.t (.int .i64),.ptr 3 0,.t (.slc (.st 50)),.t (.int .i64),.t (.int .i64)],[.blk 3 [.t (.int .i64)],.blk 89 [.clo 41 [.ptr 100000 0],.clo 42 [.ptr 100000 0]]]⟩ [⟨.exit 0,⟨⟨[],[100000],[]⟩,[],[.blk 3 [.t (.int .i64)]]⟩⟩] [.int .i64,.slc (.st 50),.int .i64,.int .i64,.int .i64] [[.int .i64]] (qab_l3 rec_qab)
theorem qab_ok3 (rec_qab:qab_tr) (hrec_qab:qab_rec rec_qab):LoopR kk env0 Tryz.f129.ntmps qab_b3 (qab_lp3 rec_qab):=
  loopG (qab_i3 rec_qab) (qab_t3 rec_qab) (ko (known58 rec_qab hrec_qab)) (L:=jnL) (zaab (bs:=[]) (by kernel_rfl) trivial) (by kernel_rfl) (fun _=>by kernel_rfl) (zaaa _) (fun _=>by kernel_rfl)
def qab_L (rec_qab:qab_tr):Nat→Option (Lift.Loop U):=fun n=>bif Nat.beq n zaa2 then some zaa0 else bif Nat.beq n 3 then some (qab_lp3 rec_qab) else none
def qab_md:Mode U:=qab_rmd qab
theorem qab_step (rec_qab:qab_tr) (hrec_qab:qab_rec rec_qab):zaax (Kit.withModes kk (zaac (ms58 rec_qab))) env0 Tryz.f129.ntmps (qab_L rec_qab) (zaah Tryz.f129):=zaab (bs:=[qab_b3]) (by kernel_rfl) ⟨.inr ⟨_,by kernel_rfl,zaat.of_round (qab_ok3 rec_qab hrec_qab)⟩,trivial⟩
theorem qab_post:zaad kk env0 129 (qab_rmd qab):=
  recG qab_i qab_f (by kernel_rfl) (fun _=>by kernel_rfl) (zaaa _) fun r ih=>fnG (fn:=Tryz.f129) (ko (known58 r ih)) (by kernel_rfl) (qab_step r ih) rfl (by kernel_rfl)
def ms59:List (FuncId×Mode U):=(129,qab_md)::ms57
theorem known59:Known kk env0 (zaac ms59):=known_cons (by kernel_rfl) qab_post known57
abbrev qah_tr:Type:=curT U (sumT U [[.int .i64]]) [.slc (.st 52),.int .i64,.int .i64]
def qah_rmd (rec_qah:qah_tr):Mode U:=mdG ⟨⟨[0,1,2],[100000],[]⟩,[.agg [.clo 41 [.ptr 100000 0],.clo 42 [.ptr 100000 0]],.t (.slc (.st 52)),.t (.int .i64)],[.blk 3 [.t (.int .i64)]]⟩ [⟨100000,.slot 0,[0,0]⟩] [⟨⟨[],[100000],[]⟩,[],[.blk 3 [.t (.int .i64)]]⟩] [.slc (.st 52),.int .i64,.int .i64] [[.int .i64]] rec_qah
abbrev qah_rec (r:qah_tr):Prop:=zaad kk env0 89 (qah_rmd r)
def ms60 (rec_qah:qah_tr):List (FuncId×Mode U):=(89,(qah_rmd rec_qah))::ms59
theorem known60 (rec_qah:qah_tr) (hrec_qah:qah_rec rec_qah):Known kk env0 (zaac (ms60 rec_qah)):=known_cons (by kernel_rfl) hrec_qah known59
def qah_b2:Code:=(zaas (zaah Tryz.f89) 0)
def qah_lp2 (rec_qah:qah_tr):Lift.Loop U:=lpG ⟨⟨[2,3,8,9,10],[100000,3],[]⟩,[.t (.int .i64),.ptr 3 0,.t (.slc (.st 52)),.t (.int .i64),.t (.int .i64)],[.blk 3 [.t (.int .i64)],.blk 89 [.clo 41 [.ptr 100000 0],.clo 42 [.ptr 100000 0]]]⟩ [⟨.exit 0,⟨⟨[],[100000],[]⟩,[],[.blk 3 [.t (.int .i64)]]⟩⟩] [.int .i64,.slc (.st 52),.int .i64,.int .i64,.int .i64] [[.int .i64]] (qah_l2 rec_qah)
theorem qah_ok2 (rec_qah:qah_tr) (hrec_qah:qah_rec rec_qah):LoopR kk env0 Tryz.f89.ntmps qah_b2 (qah_lp2 rec_qah):=
  loopG (qah_i2 rec_qah) (qah_t2 rec_qah) (ko (known60 rec_qah hrec_qah)) (L:=jnL) (zaab (bs:=[]) (by kernel_rfl) trivial) (by kernel_rfl) (fun _=>by kernel_rfl) (zaaa _) (fun _=>by kernel_rfl)
def qah_L (rec_qah:qah_tr):Nat→Option (Lift.Loop U):=fun n=>bif Nat.beq n zaa2 then some zaa0 else bif Nat.beq n 2 then some (qah_lp2 rec_qah) else none
def qah_md:Mode U:=qah_rmd qah
theorem qah_step (rec_qah:qah_tr) (hrec_qah:qah_rec rec_qah):zaax (Kit.withModes kk (zaac (ms60 rec_qah))) env0 Tryz.f89.ntmps (qah_L rec_qah) (zaah Tryz.f89):=zaab (bs:=[qah_b2]) (by kernel_rfl) ⟨.inr ⟨_,by kernel_rfl,zaat.of_round (qah_ok2 rec_qah hrec_qah)⟩,trivial⟩
theorem qah_post:zaad kk env0 89 (qah_rmd qah):=
  recG qah_i qah_f (by kernel_rfl) (fun _=>by kernel_rfl) (zaaa _) fun r ih=>fnG (fn:=Tryz.f89) (ko (known60 r ih)) (by kernel_rfl) (qah_step r ih) rfl (by kernel_rfl)
def ms61:List (FuncId×Mode U):=(89,qah_md)::ms59
theorem known61:Known kk env0 (zaac ms61):=known_cons (by kernel_rfl) qah_post known59
def qae_b2:Code:=(zaas (zaah Tryz.f43) 0)
def qae_lp2:Lift.Loop U:=lpG ⟨⟨[2,7,8,9],[100000,2],[]⟩,[.ptr 2 0,.t (.slc (.st 46)),.t (.int .i64),.t (.int .i64)],[.blk 3 [.t (.int .i64)],.blk 89 [.clo 41 [.ptr 100000 0],.clo 42 [.ptr 100000 0]]]⟩ [⟨.exit 0,⟨⟨[],[100000],[]⟩,[],[.blk 3 [.t (.int .i64)]]⟩⟩] [.slc (.st 46),.int .i64,.int .i64,.int .i64] [[.int .i64]] qae_l2
theorem qae_ok2:LoopR kk env0 Tryz.f43.ntmps qae_b2 qae_lp2:=
  loopG qae_i2 qae_t2 (ko known61) (L:=jnL) (zaab (bs:=[]) (by kernel_rfl) trivial) (by kernel_rfl) (fun _=>by kernel_rfl) (zaaa _) (fun _=>by kernel_rfl)
def qae_L:Nat→Option (Lift.Loop U):=fun n=>bif Nat.beq n zaa2 then some zaa0 else bif Nat.beq n 2 then some qae_lp2 else none
def qae_md:Mode U:=mdG ⟨⟨[0,1],[100000],[]⟩,[.agg [.clo 41 [.ptr 100000 0],.clo 42 [.ptr 100000 0]],.t (.st 27)],[.blk 3 [.t (.int .i64)]]⟩ [⟨100000,.slot 0,[0,0]⟩] [⟨⟨[],[100000],[]⟩,[],[.blk 3 [.t (.int .i64)]]⟩] [.st 27,.int .i64] [[.int .i64]] qae
theorem qae_post:zaad kk env0 43 qae_md:=
  fnG (fn:=Tryz.f43) (ko known61) (by kernel_rfl) (L:=qae_L) (zaab (bs:=[qae_b2]) (by kernel_rfl) ⟨.inr ⟨_,by kernel_rfl,zaat.of_round (qae_ok2)⟩,trivial⟩) (zaaa _) (by kernel_rfl)
def ms62:List (FuncId×Mode U):=(43,qae_md)::ms61
theorem known62:Known kk env0 (zaac ms62):=known_cons (by kernel_rfl) qae_post known61
def qa5_md:Mode U:=mdG ⟨⟨[0],[],[]⟩,[.t (.st 27)],[]⟩ [] [⟨⟨[0],[],[]⟩,[.t (.int .i64)],[]⟩] [.st 27] [[.int .i64]] qa5
theorem qa5_post:zaad kk env0 16 qa5_md:=
  fnG (fn:=Tryz.f16) (ko known62) (by kernel_rfl) (L:=jnL) (zaab (bs:=[]) (by kernel_rfl) trivial) (zaaa _) (by kernel_rfl)
def ms63:List (FuncId×Mode U):=(16,qa5_md)::ms62
theorem known63:Known kk env0 (zaac ms63):=known_cons (by kernel_rfl) qa5_post known62
def qar_md:Mode U:=mdG ⟨⟨[0],[],[]⟩,[.t .str],[]⟩ [] [⟨⟨[0,1],[],[⟨.sub 0 0,100100,62,(.st 62)⟩,⟨.sub 0 1,100200,9,.str⟩,⟨.sub 0 2,100300,46,(.st 46)⟩]⟩,[.agg [.oslc 100100,.oslc 100200,.oslc 100300],.t (.st 30)],[.row 62 (.st 62),.row 9 .str,.row 46 (.st 46)]⟩] [.str] [[.st 30,.slc (.st 62),.slc .str,.slc (.st 46)]] qar
theorem qar_post:zaad kk env0 12 qar_md:=
  fnGD (fn:=Tryz.f12) (ko known63) (by kernel_rfl) (L:=jnL) (zaab (bs:=[]) (by kernel_rfl) trivial) (zaaa _) (by kernel_rfl) (by kernel_rfl)
def ms64:List (FuncId×Mode U):=(12,qar_md)::ms63
theorem known64:Known kk env0 (zaac ms64):=known_cons (by kernel_rfl) qar_post known63
def qbh_md:Mode U:=mdG ⟨⟨[0],[],[]⟩,[.t .str],[]⟩ [] [⟨⟨[0],[],[]⟩,[.t .bool],[]⟩] [.str] [[.bool]] qbh
theorem qbh_post:zaad kk env0 90 qbh_md:=
  fnG (fn:=Tryz.f90) (ko known64) (by kernel_rfl) (L:=jnL) (zaab (bs:=[]) (by kernel_rfl) trivial) (zaaa _) (by kernel_rfl)
def ms78:List (FuncId×Mode U):=(90,qbh_md)::ms64
theorem known78:Known kk env0 (zaac ms78):=known_cons (by kernel_rfl) qbh_post known64
def qbi_md:Mode U:=mdG ⟨⟨[],[],[]⟩,[],[]⟩ [] [⟨⟨[0],[],[]⟩,[.t (.map (.int .i64) (.st 154))],[]⟩] [] [[.map (.int .i64) (.st 154)]] qbi
theorem qbi_post:zaad kk env0 130 qbi_md:=
  fnG (fn:=Tryz.f130) (ko known78) (by kernel_rfl) (L:=jnL) (zaab (bs:=[]) (by kernel_rfl) trivial) (zaaa _) (by kernel_rfl)
def ms79:List (FuncId×Mode U):=(130,qbi_md)::ms78
theorem known79:Known kk env0 (zaac ms79):=known_cons (by kernel_rfl) qbi_post known78
def qbg_md:Mode U:=mdG ⟨⟨[0,1],[],[]⟩,[.t .str,.t .bool],[]⟩ [] [⟨⟨[0],[],[]⟩,[.t .bool],[]⟩] [.str,.bool] [[.bool]] qbg
theorem qbg_post:zaad kk env0 131 qbg_md:=
  fnG (fn:=Tryz.f131) (ko known79) (by kernel_rfl) (L:=jnL) (zaab (bs:=[]) (by kernel_rfl) trivial) (zaaa _) (by kernel_rfl)
def ms80:List (FuncId×Mode U):=(131,qbg_md)::ms79
theorem known80:Known kk env0 (zaac ms80):=known_cons (by kernel_rfl) qbg_post known79
def qbj_md:Mode U:=mdG ⟨⟨[0],[],[]⟩,[.t (.st 52)],[]⟩ [] [⟨⟨[0],[],[]⟩,[.t .bool],[]⟩] [.st 52] [[.bool]] qbj
theorem qbj_post:zaad kk env0 92 qbj_md:=
  fnG (fn:=Tryz.f92) (ko known80) (by kernel_rfl) (L:=jnL) (zaab (bs:=[]) (by kernel_rfl) trivial) (zaaa _) (by kernel_rfl)
def ms81:List (FuncId×Mode U):=(92,qbj_md)::ms80
theorem known81:Known kk env0 (zaac ms81):=known_cons (by kernel_rfl) qbj_post known80
def qbe_md:Mode U:=mdG ⟨⟨[0,1,2],[100000],[]⟩,[.t (.st 52),.t (.int .i64),.ptr 100000 0],[.blk 4 [.t .bool]]⟩ [⟨100000,.slot 2,[]⟩] [⟨⟨[],[100000],[]⟩,[],[.blk 4 [.t .bool]]⟩] [.st 52,.int .i64,.bool] [[.bool]] qbe
theorem qbe_post:zaad kk env0 91 qbe_md:=
  fnG (fn:=Tryz.f91) (ko known81) (by kernel_rfl) (L:=jnL) (zaab (bs:=[]) (by kernel_rfl) trivial) (zaaa _) (by kernel_rfl)
def ms82:List (FuncId×Mode U):=(91,qbe_md)::ms81
theorem known82:Known kk env0 (zaac ms82):=known_cons (by kernel_rfl) qbe_post known81
def qbc_md:Mode U:=mdG ⟨⟨[0],[],[]⟩,[.t (.st 50)],[]⟩ [] [⟨⟨[0],[],[]⟩,[.t .bool],[]⟩] [.st 50] [[.bool]] qbc
theorem qbc_post:zaad kk env0 94 qbc_md:=
  fnG (fn:=Tryz.f94) (ko known82) (by kernel_rfl) (L:=jnL) (zaab (bs:=[]) (by kernel_rfl) trivial) (zaaa _) (by kernel_rfl)
def ms83:List (FuncId×Mode U):=(94,qbc_md)::ms82
theorem known83:Known kk env0 (zaac ms83):=known_cons (by kernel_rfl) qbc_post known82
def qbf_md:Mode U:=mdG ⟨⟨[0,1,2],[100000],[]⟩,[.t (.st 50),.t (.int .i64),.ptr 100000 0],[.blk 4 [.t .bool]]⟩ [⟨100000,.slot 2,[]⟩] [⟨⟨[],[100000],[]⟩,[],[.blk 4 [.t .bool]]⟩] [.st 50,.int .i64,.bool] [[.bool]] qbf
theorem qbf_post:zaad kk env0 93 qbf_md:=
  fnG (fn:=Tryz.f93) (ko known83) (by kernel_rfl) (L:=jnL) (zaab (bs:=[]) (by kernel_rfl) trivial) (zaaa _) (by kernel_rfl)
def ms84:List (FuncId×Mode U):=(93,qbf_md)::ms83
theorem known84:Known kk env0 (zaac ms84):=known_cons (by kernel_rfl) qbf_post known83
abbrev qac_tr:Type:=curT U (sumT U [[.bool]]) [.st 50,.int .i64,.bool]
def qac_rmd (rec_qac:qac_tr):Mode U:=mdG ⟨⟨[0,1,2],[100000],[]⟩,[.agg [.clo 91 [.ptr 100000 0],.clo 93 [.ptr 100000 0]],.t (.st 50),.t (.int .i64)],[.blk 4 [.t .bool]]⟩ [⟨100000,.slot 0,[0,0]⟩] [⟨⟨[],[100000],[]⟩,[],[.blk 4 [.t .bool]]⟩] [.st 50,.int .i64,.bool] [[.bool]] rec_qac
abbrev qac_rec (r:qac_tr):Prop:=zaad kk env0 129 (qac_rmd r)
def ms85 (rec_qac:qac_tr):List (FuncId×Mode U):=(129,(qac_rmd rec_qac))::ms84
theorem known85 (rec_qac:qac_tr) (hrec_qac:qac_rec rec_qac):Known kk env0 (zaac (ms85 rec_qac)):=known_cons (by kernel_rfl) hrec_qac known84
def qac_b3:Code:=(zaas (zaah Tryz.f129) 0)
def qac_lp3 (rec_qac:qac_tr):Lift.Loop U:=lpG ⟨⟨[2,3,14,15,16],[100000,3],[]⟩,[.t (.int .i64),.ptr 3 0,.t (.slc (.st 50)),.t (.int .i64),.t (.int .i64)],[.blk 4 [.t .bool],.blk 89 [.clo 91 [.ptr 100000 0],.clo 93 [.ptr 100000 0]]]⟩ [⟨.exit 0,⟨⟨[],[100000],[]⟩,[],[.blk 4 [.t .bool]]⟩⟩] [.int .i64,.slc (.st 50),.int .i64,.int .i64,.bool] [[.bool]] (qac_l3 rec_qac)
theorem qac_ok3 (rec_qac:qac_tr) (hrec_qac:qac_rec rec_qac):LoopR kk env0 Tryz.f129.ntmps qac_b3 (qac_lp3 rec_qac):=
  loopG (qac_i3 rec_qac) (qac_t3 rec_qac) (ko (known85 rec_qac hrec_qac)) (L:=jnL) (zaab (bs:=[]) (by kernel_rfl) trivial) (by kernel_rfl) (fun _=>by kernel_rfl) (zaaa _) (fun _=>by kernel_rfl)
def qac_L (rec_qac:qac_tr):Nat→Option (Lift.Loop U):=fun n=>bif Nat.beq n zaa2 then some zaa0 else bif Nat.beq n 3 then some (qac_lp3 rec_qac) else none
def qac_md:Mode U:=qac_rmd qac
theorem qac_step (rec_qac:qac_tr) (hrec_qac:qac_rec rec_qac):zaax (Kit.withModes kk (zaac (ms85 rec_qac))) env0 Tryz.f129.ntmps (qac_L rec_qac) (zaah Tryz.f129):=zaab (bs:=[qac_b3]) (by kernel_rfl) ⟨.inr ⟨_,by kernel_rfl,zaat.of_round (qac_ok3 rec_qac hrec_qac)⟩,trivial⟩
theorem qac_post:zaad kk env0 129 (qac_rmd qac):=
  recG qac_i qac_f (by kernel_rfl) (fun _=>by kernel_rfl) (zaaa _) fun r ih=>fnG (fn:=Tryz.f129) (ko (known85 r ih)) (by kernel_rfl) (qac_step r ih) rfl (by kernel_rfl)
def ms86:List (FuncId×Mode U):=(129,qac_md)::ms84
theorem known86:Known kk env0 (zaac ms86):=known_cons (by kernel_rfl) qac_post known84
abbrev qai_tr:Type:=curT U (sumT U [[.bool]]) [.slc (.st 52),.int .i64,.bool]
def qai_rmd (rec_qai:qai_tr):Mode U:=mdG ⟨⟨[0,1,2],[100000],[]⟩,[.agg [.clo 91 [.ptr 100000 0],.clo 93 [.ptr 100000 0]],.t (.slc (.st 52)),.t (.int .i64)],[.blk 4 [.t .bool]]⟩ [⟨100000,.slot 0,[0,0]⟩] [⟨⟨[],[100000],[]⟩,[],[.blk 4 [.t .bool]]⟩] [.slc (.st 52),.int .i64,.bool] [[.bool]] rec_qai
abbrev qai_rec (r:qai_tr):Prop:=zaad kk env0 89 (qai_rmd r)
def ms87 (rec_qai:qai_tr):List (FuncId×Mode U):=(89,(qai_rmd rec_qai))::ms86
theorem known87 (rec_qai:qai_tr) (hrec_qai:qai_rec rec_qai):Known kk env0 (zaac (ms87 rec_qai)):=known_cons (by kernel_rfl) hrec_qai known86
def qai_b2:Code:=(zaas (zaah Tryz.f89) 0)
def qai_lp2 (rec_qai:qai_tr):Lift.Loop U:=lpG ⟨⟨[2,3,8,9,10],[100000,3],[]⟩,[.t (.int .i64),.ptr 3 0,.t (.slc (.st 52)),.t (.int .i64),.t (.int .i64)],[.blk 4 [.t .bool],.blk 89 [.clo 91 [.ptr 100000 0],.clo 93 [.ptr 100000 0]]]⟩ [⟨.exit 0,⟨⟨[],[100000],[]⟩,[],[.blk 4 [.t .bool]]⟩⟩] [.int .i64,.slc (.st 52),.int .i64,.int .i64,.bool] [[.bool]] (qai_l2 rec_qai)
theorem qai_ok2 (rec_qai:qai_tr) (hrec_qai:qai_rec rec_qai):LoopR kk env0 Tryz.f89.ntmps qai_b2 (qai_lp2 rec_qai):=
  loopG (qai_i2 rec_qai) (qai_t2 rec_qai) (ko (known87 rec_qai hrec_qai)) (L:=jnL) (zaab (bs:=[]) (by kernel_rfl) trivial) (by kernel_rfl) (fun _=>by kernel_rfl) (zaaa _) (fun _=>by kernel_rfl)
def qai_L (rec_qai:qai_tr):Nat→Option (Lift.Loop U):=fun n=>bif Nat.beq n zaa2 then some zaa0 else bif Nat.beq n 2 then some (qai_lp2 rec_qai) else none
def qai_md:Mode U:=qai_rmd qai
theorem qai_step (rec_qai:qai_tr) (hrec_qai:qai_rec rec_qai):zaax (Kit.withModes kk (zaac (ms87 rec_qai))) env0 Tryz.f89.ntmps (qai_L rec_qai) (zaah Tryz.f89):=zaab (bs:=[qai_b2]) (by kernel_rfl) ⟨.inr ⟨_,by kernel_rfl,zaat.of_round (qai_ok2 rec_qai hrec_qai)⟩,trivial⟩
theorem qai_post:zaad kk env0 89 (qai_rmd qai):=
  recG qai_i qai_f (by kernel_rfl) (fun _=>by kernel_rfl) (zaaa _) fun r ih=>fnG (fn:=Tryz.f89) (ko (known87 r ih)) (by kernel_rfl) (qai_step r ih) rfl (by kernel_rfl)
def ms88:List (FuncId×Mode U):=(89,qai_md)::ms86
theorem known88:Known kk env0 (zaac ms88):=known_cons (by kernel_rfl) qai_post known86
def qaf_b2:Code:=(zaas (zaah Tryz.f43) 0)
def qaf_lp2:Lift.Loop U:=lpG ⟨⟨[2,7,8,9],[100000,2],[]⟩,[.ptr 2 0,.t (.slc (.st 46)),.t (.int .i64),.t (.int .i64)],[.blk 4 [.t .bool],.blk 89 [.clo 91 [.ptr 100000 0],.clo 93 [.ptr 100000 0]]]⟩ [⟨.exit 0,⟨⟨[],[100000],[]⟩,[],[.blk 4 [.t .bool]]⟩⟩] [.slc (.st 46),.int .i64,.int .i64,.bool] [[.bool]] qaf_l2
theorem qaf_ok2:LoopR kk env0 Tryz.f43.ntmps qaf_b2 qaf_lp2:=
  loopG qaf_i2 qaf_t2 (ko known88) (L:=jnL) (zaab (bs:=[]) (by kernel_rfl) trivial) (by kernel_rfl) (fun _=>by kernel_rfl) (zaaa _) (fun _=>by kernel_rfl)
def qaf_L:Nat→Option (Lift.Loop U):=fun n=>bif Nat.beq n zaa2 then some zaa0 else bif Nat.beq n 2 then some qaf_lp2 else none
def qaf_md:Mode U:=mdG ⟨⟨[0,1],[100000],[]⟩,[.agg [.clo 91 [.ptr 100000 0],.clo 93 [.ptr 100000 0]],.t (.st 27)],[.blk 4 [.t .bool]]⟩ [⟨100000,.slot 0,[0,0]⟩] [⟨⟨[],[100000],[]⟩,[],[.blk 4 [.t .bool]]⟩] [.st 27,.bool] [[.bool]] qaf
theorem qaf_post:zaad kk env0 43 qaf_md:=
  fnG (fn:=Tryz.f43) (ko known88) (by kernel_rfl) (L:=qaf_L) (zaab (bs:=[qaf_b2]) (by kernel_rfl) ⟨.inr ⟨_,by kernel_rfl,zaat.of_round (qaf_ok2)⟩,trivial⟩) (zaaa _) (by kernel_rfl)
def ms89:List (FuncId×Mode U):=(43,qaf_md)::ms88
theorem known89:Known kk env0 (zaac ms89):=known_cons (by kernel_rfl) qaf_post known88
def qbd_b3:Code:=(zaas (zaah Tryz.f44) 0)
def qbd_lp3:Lift.Loop U:=lpG ⟨⟨[1,3,11,12,13],[1,3],[]⟩,[.ptr 1 0,.ptr 3 0,.t (.slc (.st 62)),.t (.int .i64),.t (.int .i64)],[.blk 27 [.t (.slc (.st 62)),.t (.slc .str),.t (.slc (.st 46))],.blk 4 [.t .bool]]⟩ [⟨.exit 0,⟨⟨[1,3],[1,3],[]⟩,[.ptr 1 0,.ptr 3 0],[.blk 27 [.t (.slc (.st 62)),.t (.slc .str),.t (.slc (.st 46))],.blk 4 [.t .bool]]⟩⟩] [.slc (.st 62),.int .i64,.int .i64,.slc (.st 62),.slc .str,.slc (.st 46),.bool] [[.slc (.st 62),.slc .str,.slc (.st 46),.bool]] qbd_l3
theorem qbd_ok3:LoopR kk env0 Tryz.f44.ntmps qbd_b3 qbd_lp3:=
  loopG qbd_i3 qbd_t3 (ko known89) (L:=jnL) (zaab (bs:=[]) (by kernel_rfl) trivial) (by kernel_rfl) (fun _=>by kernel_rfl) (zaaa _) (fun _=>by kernel_rfl)
def qbd_b8:Code:=(zaas (zaah Tryz.f44) 1)
def qbd_lp8:Lift.Loop U:=lpG ⟨⟨[1,3,35,36,37],[1,3],[]⟩,[.ptr 1 0,.ptr 3 0,.t (.slc .str),.t (.int .i64),.t (.int .i64)],[.blk 27 [.t (.slc (.st 62)),.t (.slc .str),.t (.slc (.st 46))],.blk 4 [.t .bool]]⟩ [⟨.exit 2,⟨⟨[1,3],[1,3],[]⟩,[.ptr 1 0,.ptr 3 0],[.blk 27 [.t (.slc (.st 62)),.t (.slc .str),.t (.slc (.st 46))],.blk 4 [.t .bool]]⟩⟩] [.slc .str,.int .i64,.int .i64,.slc (.st 62),.slc .str,.slc (.st 46),.bool] [[.slc (.st 62),.slc .str,.slc (.st 46),.bool]] qbd_l8
theorem qbd_ok8:LoopR kk env0 Tryz.f44.ntmps qbd_b8 qbd_lp8:=
  loopG qbd_i8 qbd_t8 (ko known89) (L:=jnL) (zaab (bs:=[]) (by kernel_rfl) trivial) (by kernel_rfl) (fun _=>by kernel_rfl) (zaaa _) (fun _=>by kernel_rfl)
def qbd_b13:Code:=(zaas (zaah Tryz.f44) 2)
def qbd_lp13:Lift.Loop U:=lpG ⟨⟨[1,3,48,49,50],[1,3],[]⟩,[.ptr 1 0,.ptr 3 0,.t (.slc (.st 46)),.t (.int .i64),.t (.int .i64)],[.blk 27 [.t (.slc (.st 62)),.t (.slc .str),.t (.slc (.st 46))],.blk 4 [.t .bool]]⟩ [⟨.exit 4,⟨⟨[1,3],[1,3],[]⟩,[.ptr 1 0,.ptr 3 0],[.blk 27 [.t (.slc (.st 62)),.t (.slc .str),.t (.slc (.st 46))],.blk 4 [.t .bool]]⟩⟩] [.slc (.st 46),.int .i64,.int .i64,.slc (.st 62),.slc .str,.slc (.st 46),.bool] [[.slc (.st 62),.slc .str,.slc (.st 46),.bool]] qbd_l13
theorem qbd_ok13:LoopR kk env0 Tryz.f44.ntmps qbd_b13 qbd_lp13:=
  loopG qbd_i13 qbd_t13 (ko known89) (L:=jnL) (zaab (bs:=[]) (by kernel_rfl) trivial) (by kernel_rfl) (fun _=>by kernel_rfl) (zaaa _) (fun _=>by kernel_rfl)
def qbd_L:Nat→Option (Lift.Loop U):=fun n=>bif Nat.beq n zaa2 then some zaa0 else bif Nat.beq n 3 then some qbd_lp3 else bif Nat.beq n 8 then some qbd_lp8 else bif Nat.beq n 13 then some qbd_lp13 else none
def qbd_md:Mode U:=mdG ⟨⟨[0],[],[]⟩,[.t (.st 27)],[]⟩ [] [⟨⟨[0],[],[]⟩,[.t .bool],[]⟩] [.st 27] [[.bool]] qbd
theorem qbd_post:zaad kk env0 44 qbd_md:=
  fnG (fn:=Tryz.f44) (ko known89) (by kernel_rfl) (L:=qbd_L) (zaab (bs:=[qbd_b3,qbd_b8,qbd_b13]) (by kernel_rfl) ⟨.inr ⟨_,by kernel_rfl,zaat.of_round (qbd_ok3)⟩,.inr ⟨_,by kernel_rfl,zaat.of_round (qbd_ok8)⟩,.inr ⟨_,by kernel_rfl,zaat.of_round (qbd_ok13)⟩,trivial⟩) (zaaa _) (by kernel_rfl)
def ms90:List (FuncId×Mode U):=(44,qbd_md)::ms89
theorem known90:Known kk env0 (zaac ms90):=known_cons (by kernel_rfl) qbd_post known89
def qbb_md:Mode U:=mdG ⟨⟨[0],[],[]⟩,[.t (.st 27)],[]⟩ [] [⟨⟨[0],[],[]⟩,[.t (.int .i64)],[]⟩] [.st 27] [[.int .i64]] qbb
theorem qbb_post:zaad kk env0 17 qbb_md:=
  fnG (fn:=Tryz.f17) (ko known90) (by kernel_rfl) (L:=jnL) (zaab (bs:=[]) (by kernel_rfl) trivial) (zaaa _) (by kernel_rfl)
def ms91:List (FuncId×Mode U):=(17,qbb_md)::ms90
theorem known91:Known kk env0 (zaac ms91):=known_cons (by kernel_rfl) qbb_post known90
def qaU_b3:Code:=(zaas (zaah Tryz.f54) 0)
def qaU_lp3:Lift.Loop U:=lpG ⟨⟨[1,13,14,15],[4],[⟨.slot 13,13,9,.str⟩]⟩,[.ptr 4 0,.oslc 13,.t (.int .i64),.t (.int .i64)],[.mp (.int .i64) (.st 138),.row 9 .str]⟩ [⟨.exit 0,⟨⟨[1],[4],[]⟩,[.ptr 4 0],[.mp (.int .i64) (.st 138)]⟩⟩] [.int .i64,.int .i64,.map (.int .i64) (.st 138),.slc .str] [[.map (.int .i64) (.st 138)]] qaU_l3
theorem qaU_ok3:LoopR kk env0 Tryz.f54.ntmps qaU_b3 qaU_lp3:=
  loopG qaU_i3 qaU_t3 (ko known91) (L:=jnL) (zaab (bs:=[]) (by kernel_rfl) trivial) (by kernel_rfl) (fun _=>by kernel_rfl) (zaaa _) (fun _=>by kernel_rfl)
def qaU_L:Nat→Option (Lift.Loop U):=fun n=>bif Nat.beq n zaa2 then some zaa0 else bif Nat.beq n 3 then some qaU_lp3 else none
def qaU_md:Mode U:=mdG ⟨⟨[],[],[]⟩,[],[]⟩ [] [⟨⟨[0],[],[]⟩,[.t (.map (.int .i64) (.st 138))],[]⟩] [] [[.map (.int .i64) (.st 138)]] qaU
theorem qaU_post:zaad kk env0 54 qaU_md:=
  fnG (fn:=Tryz.f54) (ko known91) (by kernel_rfl) (L:=qaU_L) (zaab (bs:=[qaU_b3]) (by kernel_rfl) ⟨.inr ⟨_,by kernel_rfl,zaat.of_round (qaU_ok3)⟩,trivial⟩) (zaaa _) (by kernel_rfl)
def ms92:List (FuncId×Mode U):=(54,qaU_md)::ms91
theorem known92:Known kk env0 (zaac ms92):=known_cons (by kernel_rfl) qaU_post known91
def qa4_md:Mode U:=mdG ⟨⟨[0,1],[100000],[⟨.cell 100000 1,200001,5,(.int .u8)⟩]⟩,[.ptr 100000 0,.t .str],[.blk 106 [.selfp 100000,.oslc 200001,.t (.map (.int .i64) (.st 138))],.row 5 (.int .u8)]⟩ [⟨100000,.slot 0,[]⟩] [⟨⟨[0,1],[100000],[⟨.cell 100000 1,200001,5,(.int .u8)⟩]⟩,[.t (.int .i64),.t .err],[.blk 106 [.selfp 100000,.oslc 200001,.t (.map (.int .i64) (.st 138))],.row 5 (.int .u8)]⟩] [.str,.map (.int .i64) (.st 138),.slc (.int .u8)] [[.int .i64,.err,.map (.int .i64) (.st 138),.slc (.int .u8)]] qa4
theorem qa4_post:zaad kk env0 108 qa4_md:=
  fnG (fn:=Tryz.f108) (ko known92) (by kernel_rfl) (L:=noL) (zaab (bs:=[]) (by kernel_rfl) trivial) (zaaa _) (by kernel_rfl)
def ms93:List (FuncId×Mode U):=(108,qa4_md)::ms92
theorem known93:Known kk env0 (zaac ms93):=known_cons (by kernel_rfl) qa4_post known92
def qaX_md:Mode U:=mdG ⟨⟨[0,1,2],[100000],[⟨.cell 100000 1,200001,5,(.int .u8)⟩]⟩,[.ptr 100000 0,.t (.int .i64),.t (.slc .str)],[.blk 106 [.selfp 100000,.oslc 200001,.t (.map (.int .i64) (.st 138))],.row 5 (.int .u8)]⟩ [⟨100000,.slot 0,[]⟩] [⟨⟨[],[100000],[⟨.cell 100000 1,200001,5,(.int .u8)⟩]⟩,[],[.blk 106 [.selfp 100000,.oslc 200001,.t (.map (.int .i64) (.st 138))],.row 5 (.int .u8)]⟩] [.int .i64,.slc .str,.map (.int .i64) (.st 138),.slc (.int .u8)] [[.map (.int .i64) (.st 138),.slc (.int .u8)]] qaX
theorem qaX_post:zaad kk env0 55 qaX_md:=
  fnG (fn:=Tryz.f55) (ko known93) (by kernel_rfl) (L:=jnL) (zaab (bs:=[]) (by kernel_rfl) trivial) (zaaa _) (by kernel_rfl)
def ms94:List (FuncId×Mode U):=(55,qaX_md)::ms93
theorem known94:Known kk env0 (zaac ms94):=known_cons (by kernel_rfl) qaX_post known93
abbrev qaW_tr:Type:=curT U (sumT U [[.map (.int .i64) (.st 138),.slc (.int .u8)]]) [.st 50,.int .i64,.map (.int .i64) (.st 138),.slc (.int .u8)]
def qaW_rmd (rec_qaW:qaW_tr):Mode U:=mdG ⟨⟨[0,1,2],[100000],[⟨.cell 100000 1,200001,5,(.int .u8)⟩]⟩,[.ptr 100000 0,.t (.st 50),.t (.int .i64)],[.blk 106 [.selfp 100000,.oslc 200001,.t (.map (.int .i64) (.st 138))],.row 5 (.int .u8)]⟩ [⟨100000,.slot 0,[]⟩] [⟨⟨[],[100000],[⟨.cell 100000 1,200001,5,(.int .u8)⟩]⟩,[],[.blk 106 [.selfp 100000,.oslc 200001,.t (.map (.int .i64) (.st 138))],.row 5 (.int .u8)]⟩] [.st 50,.int .i64,.map (.int .i64) (.st 138),.slc (.int .u8)] [[.map (.int .i64) (.st 138),.slc (.int .u8)]] rec_qaW
abbrev qaW_rec (r:qaW_tr):Prop:=zaad kk env0 174 (qaW_rmd r)
def ms95 (rec_qaW:qaW_tr):List (FuncId×Mode U):=(174,(qaW_rmd rec_qaW))::ms94
theorem known95 (rec_qaW:qaW_tr) (hrec_qaW:qaW_rec rec_qaW):Known kk env0 (zaac (ms95 rec_qaW)):=known_cons (by kernel_rfl) hrec_qaW known94
def qa3_md (rec_qaW:qaW_tr):Mode U:=mdG ⟨⟨[0,1],[100000],[⟨.cell 100000 1,200001,5,(.int .u8)⟩]⟩,[.ptr 100000 0,.t (.int .u8)],[.blk 106 [.selfp 100000,.oslc 200001,.t (.map (.int .i64) (.st 138))],.row 5 (.int .u8)]⟩ [⟨100000,.slot 0,[]⟩] [⟨⟨[0],[100000],[⟨.cell 100000 1,200001,5,(.int .u8)⟩]⟩,[.t .err],[.blk 106 [.selfp 100000,.oslc 200001,.t (.map (.int .i64) (.st 138))],.row 5 (.int .u8)]⟩] [.int .u8,.map (.int .i64) (.st 138),.slc (.int .u8)] [[.err,.map (.int .i64) (.st 138),.slc (.int .u8)]] (qa3 rec_qaW)
theorem qa3_post (rec_qaW:qaW_tr) (hrec_qaW:qaW_rec rec_qaW):zaad kk env0 198 (qa3_md rec_qaW):=
  fnG (fn:=Tryz.f198) (ko (known95 rec_qaW hrec_qaW)) (by kernel_rfl) (L:=noL) (zaab (bs:=[]) (by kernel_rfl) trivial) (zaaa _) (by kernel_rfl)
def ms96 (rec_qaW:qaW_tr):List (FuncId×Mode U):=(198,(qa3_md rec_qaW))::(ms95 rec_qaW)
theorem known96 (rec_qaW:qaW_tr) (hrec_qaW:qaW_rec rec_qaW):Known kk env0 (zaac (ms96 rec_qaW)):=known_cons (by kernel_rfl) (qa3_post rec_qaW hrec_qaW) (known95 rec_qaW hrec_qaW)
def qaW_L (rec_qaW:qaW_tr):Nat→Option (Lift.Loop U):=fun n=>bif Nat.beq n zaa2 then some zaa0 else bif Nat.beq n (zahz+15) then some (zayl 4 5) else none
def qaW_md:Mode U:=qaW_rmd qaW
theorem qaW_step (rec_qaW:qaW_tr) (hrec_qaW:qaW_rec rec_qaW):zaax (Kit.withModes kk (zaac (ms96 rec_qaW))) env0 Tryz.f174.ntmps (qaW_L rec_qaW) (zaah Tryz.f174):=zaab (bs:=[]) (by kernel_rfl) trivial
theorem qaW_post:zaad kk env0 174 (qaW_rmd qaW):=
  recG qaW_i qaW_f (by kernel_rfl) (fun _=>by kernel_rfl) (zaaa _) fun r ih=>fnGD (fn:=Tryz.f174) (ko (known96 r ih)) (by kernel_rfl) (qaW_step r ih) rfl (by kernel_rfl) (by kernel_rfl)
def ms97:List (FuncId×Mode U):=(174,qaW_md)::ms94
theorem known97:Known kk env0 (zaac ms97):=known_cons (by kernel_rfl) qaW_post known94
def qaZ_md:Mode U:=mdG ⟨⟨[0,1],[100000],[⟨.cell 100000 1,200001,5,(.int .u8)⟩]⟩,[.ptr 100000 0,.t (.st 50)],[.blk 106 [.selfp 100000,.oslc 200001,.t (.map (.int .i64) (.st 138))],.row 5 (.int .u8)]⟩ [⟨100000,.slot 0,[]⟩] [⟨⟨[0],[100000],[⟨.cell 100000 1,200001,5,(.int .u8)⟩]⟩,[.t .str],[.blk 106 [.selfp 100000,.oslc 200001,.t (.map (.int .i64) (.st 138))],.row 5 (.int .u8)]⟩] [.st 50,.map (.int .i64) (.st 138),.slc (.int .u8)] [[.str,.map (.int .i64) (.st 138),.slc (.int .u8)]] qaZ
theorem qaZ_post:zaad kk env0 146 qaZ_md:=
  fnG (fn:=Tryz.f146) (ko known97) (by kernel_rfl) (L:=jnL) (zaab (bs:=[]) (by kernel_rfl) trivial) (zaaa _) (by kernel_rfl)
def ms98:List (FuncId×Mode U):=(146,qaZ_md)::ms97
theorem known98:Known kk env0 (zaac ms98):=known_cons (by kernel_rfl) qaZ_post known97
abbrev qaV_tr:Type:=curT U (sumT U [[.map (.int .i64) (.st 138),.slc (.int .u8)]]) [.slc (.st 52),.int .i64,.map (.int .i64) (.st 138),.slc (.int .u8)]
def qaV_rmd (rec_qaV:qaV_tr):Mode U:=mdG ⟨⟨[0,1,2],[100000],[⟨.cell 100000 1,200001,5,(.int .u8)⟩]⟩,[.ptr 100000 0,.t (.slc (.st 52)),.t (.int .i64)],[.blk 106 [.selfp 100000,.oslc 200001,.t (.map (.int .i64) (.st 138))],.row 5 (.int .u8)]⟩ [⟨100000,.slot 0,[]⟩] [⟨⟨[],[100000],[⟨.cell 100000 1,200001,5,(.int .u8)⟩]⟩,[],[.blk 106 [.selfp 100000,.oslc 200001,.t (.map (.int .i64) (.st 138))],.row 5 (.int .u8)]⟩] [.slc (.st 52),.int .i64,.map (.int .i64) (.st 138),.slc (.int .u8)] [[.map (.int .i64) (.st 138),.slc (.int .u8)]] rec_qaV
abbrev qaV_rec (r:qaV_tr):Prop:=zaad kk env0 57 (qaV_rmd r)
def ms99 (rec_qaV:qaV_tr):List (FuncId×Mode U):=(57,(qaV_rmd rec_qaV))::ms98
theorem known99 (rec_qaV:qaV_tr) (hrec_qaV:qaV_rec rec_qaV):Known kk env0 (zaac (ms99 rec_qaV)):=known_cons (by kernel_rfl) hrec_qaV known98
def qaY_md (rec_qaV:qaV_tr):Mode U:=mdG ⟨⟨[0,1,2],[100000],[⟨.cell 100000 1,200001,5,(.int .u8)⟩]⟩,[.ptr 100000 0,.t (.st 52),.t (.int .i64)],[.blk 106 [.selfp 100000,.oslc 200001,.t (.map (.int .i64) (.st 138))],.row 5 (.int .u8)]⟩ [⟨100000,.slot 0,[]⟩] [⟨⟨[],[100000],[⟨.cell 100000 1,200001,5,(.int .u8)⟩]⟩,[],[.blk 106 [.selfp 100000,.oslc 200001,.t (.map (.int .i64) (.st 138))],.row 5 (.int .u8)]⟩] [.st 52,.int .i64,.map (.int .i64) (.st 138),.slc (.int .u8)] [[.map (.int .i64) (.st 138),.slc (.int .u8)]] (qaY rec_qaV)
theorem qaY_post (rec_qaV:qaV_tr) (hrec_qaV:qaV_rec rec_qaV):zaad kk env0 112 (qaY_md rec_qaV):=
  fnG (fn:=Tryz.f112) (ko (known99 rec_qaV hrec_qaV)) (by kernel_rfl) (L:=jnL) (zaab (bs:=[]) (by kernel_rfl) trivial) (zaaa _) (by kernel_rfl)
def ms100 (rec_qaV:qaV_tr):List (FuncId×Mode U):=(112,(qaY_md rec_qaV))::(ms99 rec_qaV)
theorem known100 (rec_qaV:qaV_tr) (hrec_qaV:qaV_rec rec_qaV):Known kk env0 (zaac (ms100 rec_qaV)):=known_cons (by kernel_rfl) (qaY_post rec_qaV hrec_qaV) (known99 rec_qaV hrec_qaV)
def qaV_b1:Code:=(zaas (zaah Tryz.f57) 0)
def qaV_lp1 (rec_qaV:qaV_tr):Lift.Loop U:=lpG ⟨⟨[0,2,8,9,10],[100000],[⟨.cell 100000 1,200001,5,(.int .u8)⟩]⟩,[.ptr 100000 0,.t (.int .i64),.t (.slc (.st 52)),.t (.int .i64),.t (.int .i64)],[.blk 106 [.selfp 100000,.oslc 200001,.t (.map (.int .i64) (.st 138))],.row 5 (.int .u8)]⟩ [⟨.exit 0,⟨⟨[],[100000],[⟨.cell 100000 1,200001,5,(.int .u8)⟩]⟩,[],[.blk 106 [.selfp 100000,.oslc 200001,.t (.map (.int .i64) (.st 138))],.row 5 (.int .u8)]⟩⟩] [.int .i64,.slc (.st 52),.int .i64,.int .i64,.map (.int .i64) (.st 138),.slc (.int .u8)] [[.map (.int .i64) (.st 138),.slc (.int .u8)]] (qaV_l1 rec_qaV)
theorem qaV_ok1 (rec_qaV:qaV_tr) (hrec_qaV:qaV_rec rec_qaV):LoopR kk env0 Tryz.f57.ntmps qaV_b1 (qaV_lp1 rec_qaV):=
  loopG (qaV_i1 rec_qaV) (qaV_t1 rec_qaV) (ko (known100 rec_qaV hrec_qaV)) (L:=jnL) (zaab (bs:=[]) (by kernel_rfl) trivial) (by kernel_rfl) (fun _=>by kernel_rfl) (zaaa _) (fun _=>by kernel_rfl)
def qaV_L (rec_qaV:qaV_tr):Nat→Option (Lift.Loop U):=fun n=>bif Nat.beq n zaa2 then some zaa0 else bif Nat.beq n 1 then some (qaV_lp1 rec_qaV) else none
def qaV_md:Mode U:=qaV_rmd qaV
theorem qaV_step (rec_qaV:qaV_tr) (hrec_qaV:qaV_rec rec_qaV):zaax (Kit.withModes kk (zaac (ms100 rec_qaV))) env0 Tryz.f57.ntmps (qaV_L rec_qaV) (zaah Tryz.f57):=zaab (bs:=[qaV_b1]) (by kernel_rfl) ⟨.inr ⟨_,by kernel_rfl,zaat.of_round (qaV_ok1 rec_qaV hrec_qaV)⟩,trivial⟩
theorem qaV_post:zaad kk env0 57 (qaV_rmd qaV):=
  recG qaV_i qaV_f (by kernel_rfl) (fun _=>by kernel_rfl) (zaaa _) fun r ih=>fnG (fn:=Tryz.f57) (ko (known100 r ih)) (by kernel_rfl) (qaV_step r ih) rfl (by kernel_rfl)
def ms101:List (FuncId×Mode U):=(57,qaV_md)::ms98
theorem known101:Known kk env0 (zaac ms101):=known_cons (by kernel_rfl) qaV_post known98
def qa2_md:Mode U:=mdG ⟨⟨[0],[100000],[⟨.cell 100000 1,200001,5,(.int .u8)⟩]⟩,[.ptr 100000 0],[.blk 106 [.selfp 100000,.oslc 200001,.t (.map (.int .i64) (.st 138))],.row 5 (.int .u8)]⟩ [⟨100000,.slot 0,[]⟩] [⟨⟨[0],[100000],[⟨.cell 100000 1,200001,5,(.int .u8)⟩]⟩,[.t (.int .i64)],[.blk 106 [.selfp 100000,.oslc 200001,.t (.map (.int .i64) (.st 138))],.row 5 (.int .u8)]⟩] [.map (.int .i64) (.st 138),.slc (.int .u8)] [[.int .i64,.map (.int .i64) (.st 138),.slc (.int .u8)]] qa2
theorem qa2_post:zaad kk env0 58 qa2_md:=
  fnG (fn:=Tryz.f58) (ko known101) (by kernel_rfl) (L:=noL) (zaab (bs:=[]) (by kernel_rfl) trivial) (zaaa _) (by kernel_rfl)
def ms102:List (FuncId×Mode U):=(58,qa2_md)::ms101
theorem known102:Known kk env0 (zaac ms102):=known_cons (by kernel_rfl) qa2_post known101
def qaT_b8:Code:=(zaas (zaah Tryz.f24) 0)
def qaT_lp8:Lift.Loop U:=lpG ⟨⟨[1,5,33,34,35],[1,31],[⟨.cell 31 1,21551,5,(.int .u8)⟩]⟩,[.ptr 1 0,.ptr 31 0,.t (.slc (.st 62)),.t (.int .i64),.t (.int .i64)],[.blk 27 [.t (.slc (.st 62)),.t (.slc .str),.t (.slc (.st 46))],.blk 106 [.selfp 31,.oslc 21551,.t (.map (.int .i64) (.st 138))],.row 5 (.int .u8)]⟩ [⟨.exit 0,⟨⟨[1,5],[1,31],[⟨.cell 31 1,21551,5,(.int .u8)⟩]⟩,[.ptr 1 0,.ptr 31 0],[.blk 27 [.t (.slc (.st 62)),.t (.slc .str),.t (.slc (.st 46))],.blk 106 [.selfp 31,.oslc 21551,.t (.map (.int .i64) (.st 138))],.row 5 (.int .u8)]⟩⟩] [.slc (.st 62),.int .i64,.int .i64,.slc (.st 62),.slc .str,.slc (.st 46),.map (.int .i64) (.st 138),.slc (.int .u8)] [[.slc (.st 62),.slc .str,.slc (.st 46),.map (.int .i64) (.st 138),.slc (.int .u8)]] qaT_l8
theorem qaT_ok8:LoopR kk env0 Tryz.f24.ntmps qaT_b8 qaT_lp8:=
  loopG qaT_i8 qaT_t8 (ko known102) (L:=jnL) (zaab (bs:=[]) (by kernel_rfl) trivial) (by kernel_rfl) (fun _=>by kernel_rfl) (zaaa _) (fun _=>by kernel_rfl)
def qaT_b13:Code:=(zaas (zaah Tryz.f24) 1)
def qaT_lp13:Lift.Loop U:=lpG ⟨⟨[1,5,49,50,51],[1,31],[⟨.cell 31 1,21551,5,(.int .u8)⟩]⟩,[.ptr 1 0,.ptr 31 0,.t (.slc .str),.t (.int .i64),.t (.int .i64)],[.blk 27 [.t (.slc (.st 62)),.t (.slc .str),.t (.slc (.st 46))],.blk 106 [.selfp 31,.oslc 21551,.t (.map (.int .i64) (.st 138))],.row 5 (.int .u8)]⟩ [⟨.exit 2,⟨⟨[1,5],[1,31],[⟨.cell 31 1,21551,5,(.int .u8)⟩]⟩,[.ptr 1 0,.ptr 31 0],[.blk 27 [.t (.slc (.st 62)),.t (.slc .str),.t (.slc (.st 46))],.blk 106 [.selfp 31,.oslc 21551,.t (.map (.int .i64) (.st 138))],.row 5 (.int .u8)]⟩⟩] [.slc .str,.int .i64,.int .i64,.slc (.st 62),.slc .str,.slc (.st 46),.map (.int .i64) (.st 138),.slc (.int .u8)] [[.slc (.st 62),.slc .str,.slc (.st 46),.map (.int .i64) (.st 138),.slc (.int .u8)]] qaT_l13
theorem qaT_ok13:LoopR kk env0 Tryz.f24.ntmps qaT_b13 qaT_lp13:=
  loopG qaT_i13 qaT_t13 (ko known102) (L:=jnL) (zaab (bs:=[]) (by kernel_rfl) trivial) (by kernel_rfl) (fun _=>by kernel_rfl) (zaaa _) (fun _=>by kernel_rfl)
def qaT_b18:Code:=(zaas (zaah Tryz.f24) 2)
def qaT_lp18:Lift.Loop U:=lpG ⟨⟨[5,61,62,63],[31],[⟨.cell 31 1,21551,5,(.int .u8)⟩]⟩,[.ptr 31 0,.t (.slc (.st 46)),.t (.int .i64),.t (.int .i64)],[.blk 106 [.selfp 31,.oslc 21551,.t (.map (.int .i64) (.st 138))],.row 5 (.int .u8)]⟩ [⟨.exit 4,⟨⟨[5],[31],[⟨.cell 31 1,21551,5,(.int .u8)⟩]⟩,[.ptr 31 0],[.blk 106 [.selfp 31,.oslc 21551,.t (.map (.int .i64) (.st 138))],.row 5 (.int .u8)]⟩⟩] [.slc (.st 46),.int .i64,.int .i64,.map (.int .i64) (.st 138),.slc (.int .u8)] [[.map (.int .i64) (.st 138),.slc (.int .u8)]] qaT_l18
theorem qaT_ok18:LoopR kk env0 Tryz.f24.ntmps qaT_b18 qaT_lp18:=
  loopG qaT_i18 qaT_t18 (ko known102) (L:=jnL) (zaab (bs:=[]) (by kernel_rfl) trivial) (by kernel_rfl) (fun _=>by kernel_rfl) (zaaa _) (fun _=>by kernel_rfl)
def qaT_L:Nat→Option (Lift.Loop U):=fun n=>bif Nat.beq n zaa2 then some zaa0 else bif Nat.beq n 8 then some qaT_lp8 else bif Nat.beq n 13 then some qaT_lp13 else bif Nat.beq n 18 then some qaT_lp18 else none
def qaT_md:Mode U:=mdG ⟨⟨[0],[],[]⟩,[.t (.st 27)],[]⟩ [] [⟨⟨[0,1],[],[]⟩,[.t .str,.t (.int .i64)],[]⟩] [.st 27] [[.str,.int .i64]] qaT
theorem qaT_post:zaad kk env0 24 qaT_md:=
  fnG (fn:=Tryz.f24) (ko known102) (by kernel_rfl) (L:=qaT_L) (zaab (bs:=[qaT_b8,qaT_b13,qaT_b18]) (by kernel_rfl) ⟨.inr ⟨_,by kernel_rfl,zaat.of_round (qaT_ok8)⟩,.inr ⟨_,by kernel_rfl,zaat.of_round (qaT_ok13)⟩,.inr ⟨_,by kernel_rfl,zaat.of_round (qaT_ok18)⟩,trivial⟩) (zaaa _) (by kernel_rfl)
def ms103:List (FuncId×Mode U):=(24,qaT_md)::ms102
theorem known103:Known kk env0 (zaac ms103):=known_cons (by kernel_rfl) qaT_post known102
def qaJ_md:Mode U:=mdG ⟨⟨[],[],[]⟩,[],[]⟩ [] [⟨⟨[0],[],[]⟩,[.t .bool],[]⟩] [] [[.bool]] qaJ
theorem qaJ_post:zaad kk env0 22 qaJ_md:=
  fnG (fn:=Tryz.f22) (ko known103) (by kernel_rfl) (L:=jnL) (zaab (bs:=[]) (by kernel_rfl) trivial) (zaaa _) (by kernel_rfl)
def ms104:List (FuncId×Mode U):=(22,qaJ_md)::ms103
theorem known104:Known kk env0 (zaac ms104):=known_cons (by kernel_rfl) qaJ_post known103
abbrev qaL_tr:Type:=curT U (sumT U [[.bool]]) [.st 50,.st 50]
def qaL_rmd (rec_qaL:qaL_tr):Mode U:=mdG ⟨⟨[0,1],[],[]⟩,[.t (.st 50),.t (.st 50)],[]⟩ [] [⟨⟨[0],[],[]⟩,[.t .bool],[]⟩] [.st 50,.st 50] [[.bool]] rec_qaL
abbrev qaL_rec (r:qaL_tr):Prop:=zaad kk env0 96 (qaL_rmd r)
def ms159 (rec_qaL:qaL_tr):List (FuncId×Mode U):=(96,(qaL_rmd rec_qaL))::ms104
theorem known159 (rec_qaL:qaL_tr) (hrec_qaL:qaL_rec rec_qaL):Known kk env0 (zaac (ms159 rec_qaL)):=known_cons (by kernel_rfl) hrec_qaL known104
def qaL_b4:Code:=(zaas (zaah Tryz.f96) 0)
def qaL_lp4 (rec_qaL:qaL_tr):Lift.Loop U:=lpG ⟨⟨[2,3,5],[2,3],[]⟩,[.ptr 2 0,.ptr 3 0,.t (.int .i64)],[.blk 50 [.t (.int .i64),.t (.int .i64),.t .str,.t (.slc (.st 50))],.blk 50 [.t (.int .i64),.t (.int .i64),.t .str,.t (.slc (.st 50))]]⟩ [⟨.ret,⟨⟨[4],[],[]⟩,[.t .bool],[]⟩⟩,⟨.exit 0,⟨⟨[],[],[]⟩,[],[]⟩⟩] [.int .i64,.int .i64,.int .i64,.str,.slc (.st 50),.int .i64,.int .i64,.str,.slc (.st 50)] [[.bool],[]] (qaL_l4 rec_qaL)
theorem qaL_ok4 (rec_qaL:qaL_tr) (hrec_qaL:qaL_rec rec_qaL):LoopR kk env0 Tryz.f96.ntmps qaL_b4 (qaL_lp4 rec_qaL):=
  loopG (qaL_i4 rec_qaL) (qaL_t4 rec_qaL) (ko (known159 rec_qaL hrec_qaL)) (L:=jnL) (zaab (bs:=[]) (by kernel_rfl) trivial) (by kernel_rfl) (fun _=>by kernel_rfl) (zaaa _) (fun _=>by kernel_rfl)
def qaL_L (rec_qaL:qaL_tr):Nat→Option (Lift.Loop U):=fun n=>bif Nat.beq n zaa2 then some zaa0 else bif Nat.beq n 4 then some (qaL_lp4 rec_qaL) else none
def qaL_md:Mode U:=qaL_rmd qaL
theorem qaL_step (rec_qaL:qaL_tr) (hrec_qaL:qaL_rec rec_qaL):zaax (Kit.withModes kk (zaac (ms159 rec_qaL))) env0 Tryz.f96.ntmps (qaL_L rec_qaL) (zaah Tryz.f96):=zaab (bs:=[qaL_b4]) (by kernel_rfl) ⟨.inr ⟨_,by kernel_rfl,zaat.of_round (qaL_ok4 rec_qaL hrec_qaL)⟩,trivial⟩
theorem qaL_post:zaad kk env0 96 (qaL_rmd qaL):=
  recG qaL_i qaL_f (by kernel_rfl) (fun _=>by kernel_rfl) (zaaa _) fun r ih=>fnG (fn:=Tryz.f96) (ko (known159 r ih)) (by kernel_rfl) (qaL_step r ih) rfl (by kernel_rfl)
def ms160:List (FuncId×Mode U):=(96,qaL_md)::ms104
theorem known160:Known kk env0 (zaac ms160):=known_cons (by kernel_rfl) qaL_post known104
abbrev qaM_tr:Type:=curT U (sumT U [[.bool]]) [.slc (.st 52),.slc (.st 52)]
def qaM_rmd (rec_qaM:qaM_tr):Mode U:=mdG ⟨⟨[0,1],[],[]⟩,[.t (.slc (.st 52)),.t (.slc (.st 52))],[]⟩ [] [⟨⟨[0],[],[]⟩,[.t .bool],[]⟩] [.slc (.st 52),.slc (.st 52)] [[.bool]] rec_qaM
abbrev qaM_rec (r:qaM_tr):Prop:=zaad kk env0 47 (qaM_rmd r)
def ms161 (rec_qaM:qaM_tr):List (FuncId×Mode U):=(47,(qaM_rmd rec_qaM))::ms160
theorem known161 (rec_qaM:qaM_tr) (hrec_qaM:qaM_rec rec_qaM):Known kk env0 (zaac (ms161 rec_qaM)):=known_cons (by kernel_rfl) hrec_qaM known160
def qaM_b4:Code:=(zaas (zaah Tryz.f47) 0)
def qaM_lp4 (rec_qaM:qaM_tr):Lift.Loop U:=lpG ⟨⟨[0,1,5],[],[]⟩,[.t (.slc (.st 52)),.t (.slc (.st 52)),.t (.int .i64)],[]⟩ [⟨.ret,⟨⟨[4],[],[]⟩,[.t .bool],[]⟩⟩,⟨.exit 0,⟨⟨[],[],[]⟩,[],[]⟩⟩] [.slc (.st 52),.slc (.st 52),.int .i64] [[.bool],[]] (qaM_l4 rec_qaM)
theorem qaM_ok4 (rec_qaM:qaM_tr) (hrec_qaM:qaM_rec rec_qaM):LoopR kk env0 Tryz.f47.ntmps qaM_b4 (qaM_lp4 rec_qaM):=
  loopG (qaM_i4 rec_qaM) (qaM_t4 rec_qaM) (ko (known161 rec_qaM hrec_qaM)) (L:=jnL) (zaab (bs:=[]) (by kernel_rfl) trivial) (by kernel_rfl) (fun _=>by kernel_rfl) (zaaa _) (fun _=>by kernel_rfl)
def qaM_L (rec_qaM:qaM_tr):Nat→Option (Lift.Loop U):=fun n=>bif Nat.beq n zaa2 then some zaa0 else bif Nat.beq n 4 then some (qaM_lp4 rec_qaM) else none
def qaM_md:Mode U:=qaM_rmd qaM
theorem qaM_step (rec_qaM:qaM_tr) (hrec_qaM:qaM_rec rec_qaM):zaax (Kit.withModes kk (zaac (ms161 rec_qaM))) env0 Tryz.f47.ntmps (qaM_L rec_qaM) (zaah Tryz.f47):=zaab (bs:=[qaM_b4]) (by kernel_rfl) ⟨.inr ⟨_,by kernel_rfl,zaat.of_round (qaM_ok4 rec_qaM hrec_qaM)⟩,trivial⟩
theorem qaM_post:zaad kk env0 47 (qaM_rmd qaM):=
  recG qaM_i qaM_f (by kernel_rfl) (fun _=>by kernel_rfl) (zaaa _) fun r ih=>fnG (fn:=Tryz.f47) (ko (known161 r ih)) (by kernel_rfl) (qaM_step r ih) rfl (by kernel_rfl)
def ms162:List (FuncId×Mode U):=(47,qaM_md)::ms160
theorem known162:Known kk env0 (zaac ms162):=known_cons (by kernel_rfl) qaM_post known160
def qaK_b4:Code:=(zaas (zaah Tryz.f20) 0)
def qaK_lp4:Lift.Loop U:=lpG ⟨⟨[2,3,5],[2,3],[]⟩,[.ptr 2 0,.ptr 3 0,.t (.int .i64)],[.blk 27 [.t (.slc (.st 62)),.t (.slc .str),.t (.slc (.st 46))],.blk 27 [.t (.slc (.st 62)),.t (.slc .str),.t (.slc (.st 46))]]⟩ [⟨.ret,⟨⟨[4],[],[]⟩,[.t .bool],[]⟩⟩,⟨.exit 0,⟨⟨[2,3],[2,3],[]⟩,[.ptr 2 0,.ptr 3 0],[.blk 27 [.t (.slc (.st 62)),.t (.slc .str),.t (.slc (.st 46))],.blk 27 [.t (.slc (.st 62)),.t (.slc .str),.t (.slc (.st 46))]]⟩⟩] [.int .i64,.slc (.st 62),.slc .str,.slc (.st 46),.slc (.st 62),.slc .str,.slc (.st 46)] [[.bool],[.slc (.st 62),.slc .str,.slc (.st 46),.slc (.st 62),.slc .str,.slc (.st 46)]] qaK_l4
theorem qaK_ok4:LoopR kk env0 Tryz.f20.ntmps qaK_b4 qaK_lp4:=
  loopG qaK_i4 qaK_t4 (ko known162) (L:=jnL) (zaab (bs:=[]) (by kernel_rfl) trivial) (by kernel_rfl) (fun _=>by kernel_rfl) (zaaa _) (fun _=>by kernel_rfl)
def qaK_b9:Code:=(zaas (zaah Tryz.f20) 1)
def qaK_lp9:Lift.Loop U:=lpG ⟨⟨[2,3,6],[2,3],[]⟩,[.ptr 2 0,.ptr 3 0,.t (.int .i64)],[.blk 27 [.t (.slc (.st 62)),.t (.slc .str),.t (.slc (.st 46))],.blk 27 [.t (.slc (.st 62)),.t (.slc .str),.t (.slc (.st 46))]]⟩ [⟨.ret,⟨⟨[4],[],[]⟩,[.t .bool],[]⟩⟩,⟨.exit 2,⟨⟨[2,3],[2,3],[]⟩,[.ptr 2 0,.ptr 3 0],[.blk 27 [.t (.slc (.st 62)),.t (.slc .str),.t (.slc (.st 46))],.blk 27 [.t (.slc (.st 62)),.t (.slc .str),.t (.slc (.st 46))]]⟩⟩] [.int .i64,.slc (.st 62),.slc .str,.slc (.st 46),.slc (.st 62),.slc .str,.slc (.st 46)] [[.bool],[.slc (.st 62),.slc .str,.slc (.st 46),.slc (.st 62),.slc .str,.slc (.st 46)]] qaK_l9
theorem qaK_ok9:LoopR kk env0 Tryz.f20.ntmps qaK_b9 qaK_lp9:=
  loopG qaK_i9 qaK_t9 (ko known162) (L:=jnL) (zaab (bs:=[]) (by kernel_rfl) trivial) (by kernel_rfl) (fun _=>by kernel_rfl) (zaaa _) (fun _=>by kernel_rfl)
def qaK_b14:Code:=(zaas (zaah Tryz.f20) 2)
def qaK_lp14:Lift.Loop U:=lpG ⟨⟨[2,3,7],[2,3],[]⟩,[.ptr 2 0,.ptr 3 0,.t (.int .i64)],[.blk 27 [.t (.slc (.st 62)),.t (.slc .str),.t (.slc (.st 46))],.blk 27 [.t (.slc (.st 62)),.t (.slc .str),.t (.slc (.st 46))]]⟩ [⟨.ret,⟨⟨[4],[],[]⟩,[.t .bool],[]⟩⟩,⟨.exit 4,⟨⟨[],[],[]⟩,[],[]⟩⟩] [.int .i64,.slc (.st 62),.slc .str,.slc (.st 46),.slc (.st 62),.slc .str,.slc (.st 46)] [[.bool],[]] qaK_l14
theorem qaK_ok14:LoopR kk env0 Tryz.f20.ntmps qaK_b14 qaK_lp14:=
  loopG qaK_i14 qaK_t14 (ko known162) (L:=jnL) (zaab (bs:=[]) (by kernel_rfl) trivial) (by kernel_rfl) (fun _=>by kernel_rfl) (zaaa _) (fun _=>by kernel_rfl)
def qaK_L:Nat→Option (Lift.Loop U):=fun n=>bif Nat.beq n zaa2 then some zaa0 else bif Nat.beq n 4 then some qaK_lp4 else bif Nat.beq n 9 then some qaK_lp9 else bif Nat.beq n 14 then some qaK_lp14 else none
def qaK_md:Mode U:=mdG ⟨⟨[0,1],[],[]⟩,[.t (.st 27),.t (.st 27)],[]⟩ [] [⟨⟨[0],[],[]⟩,[.t .bool],[]⟩] [.st 27,.st 27] [[.bool]] qaK
theorem qaK_post:zaad kk env0 20 qaK_md:=
  fnG (fn:=Tryz.f20) (ko known162) (by kernel_rfl) (L:=qaK_L) (zaab (bs:=[qaK_b4,qaK_b9,qaK_b14]) (by kernel_rfl) ⟨.inr ⟨_,by kernel_rfl,zaat.of_round (qaK_ok4)⟩,.inr ⟨_,by kernel_rfl,zaat.of_round (qaK_ok9)⟩,.inr ⟨_,by kernel_rfl,zaat.of_round (qaK_ok14)⟩,trivial⟩) (zaaa _) (by kernel_rfl)
def ms163:List (FuncId×Mode U):=(20,qaK_md)::ms162
theorem known163:Known kk env0 (zaac ms163):=known_cons (by kernel_rfl) qaK_post known162
def qaI_b3:Code:=(zaas (zaah Tryz.f25) 0)
def qaI_lp3:Lift.Loop U:=lpG ⟨⟨[0,5,6],[],[]⟩,[.t .str,.t (.int .i64),.t (.int .i64)],[]⟩ [⟨.ret,⟨⟨[4],[],[]⟩,[.t (.int .i64)],[]⟩⟩,⟨.exit 0,⟨⟨[],[],[]⟩,[],[]⟩⟩] [.str,.int .i64,.int .i64] [[.int .i64],[]] qaI_l3
theorem qaI_ok3:LoopR kk env0 Tryz.f25.ntmps qaI_b3 qaI_lp3:=
  loopG qaI_i3 qaI_t3 (ko known163) (L:=jnL) (zaab (bs:=[]) (by kernel_rfl) trivial) (by kernel_rfl) (fun _=>by kernel_rfl) (zaaa _) (fun _=>by kernel_rfl)
def qaI_L:Nat→Option (Lift.Loop U):=fun n=>bif Nat.beq n zaa2 then some zaa0 else bif Nat.beq n 3 then some qaI_lp3 else none
def qaI_md:Mode U:=mdG ⟨⟨[0,1],[],[]⟩,[.t .str,.t (.int .i64)],[]⟩ [] [⟨⟨[0],[],[]⟩,[.t (.int .i64)],[]⟩] [.str,.int .i64] [[.int .i64]] qaI
theorem qaI_post:zaad kk env0 25 qaI_md:=
  fnG (fn:=Tryz.f25) (ko known163) (by kernel_rfl) (L:=qaI_L) (zaab (bs:=[qaI_b3]) (by kernel_rfl) ⟨.inr ⟨_,by kernel_rfl,zaat.of_round (qaI_ok3)⟩,trivial⟩) (zaaa _) (by kernel_rfl)
def ms167:List (FuncId×Mode U):=(25,qaI_md)::ms163
theorem known167:Known kk env0 (zaac ms167):=known_cons (by kernel_rfl) qaI_post known163
def qaH_b7:Code:=(zaas (zaah Tryz.f10) 0)
def qaH_lp7:Lift.Loop U:=lpG ⟨⟨[1,2,6,8,9],[2],[⟨.slot 8,8,3,(.int .i64)⟩]⟩,[.t (.int .i64),.ptr 2 0,.t .str,.oslc 8,.t (.int .i64)],[.blk 27 [.t (.slc (.st 62)),.t (.slc .str),.t (.slc (.st 46))],.row 3 (.int .i64)]⟩ [⟨.exit 0,⟨⟨[1,2,6,8],[2],[⟨.slot 8,8,3,(.int .i64)⟩]⟩,[.t (.int .i64),.ptr 2 0,.t .str,.oslc 8],[.blk 27 [.t (.slc (.st 62)),.t (.slc .str),.t (.slc (.st 46))],.row 3 (.int .i64)]⟩⟩] [.int .i64,.str,.int .i64,.slc (.st 62),.slc .str,.slc (.st 46),.slc (.int .i64)] [[.int .i64,.str,.slc (.st 62),.slc .str,.slc (.st 46),.slc (.int .i64)]] qaH_l7
theorem qaH_ok7:LoopR kk env0 Tryz.f10.ntmps qaH_b7 qaH_lp7:=
  loopG qaH_i7 qaH_t7 (ko known167) (L:=jnL) (zaab (bs:=[]) (by kernel_rfl) trivial) (by kernel_rfl) (fun _=>by kernel_rfl) (zaaa _) (fun _=>by kernel_rfl)
def qaH_L:Nat→Option (Lift.Loop U):=fun n=>bif Nat.beq n zaa2 then some zaa0 else bif Nat.beq n 7 then some qaH_lp7 else none
def qaH_md:Mode U:=mdG ⟨⟨[0,1],[],[]⟩,[.t (.st 27),.t (.int .i64)],[]⟩ [] [⟨⟨[0],[],[]⟩,[.t .bool],[]⟩] [.st 27,.int .i64] [[.bool]] qaH
theorem qaH_post:zaad kk env0 10 qaH_md:=
  fnG (fn:=Tryz.f10) (ko known167) (by kernel_rfl) (L:=qaH_L) (zaab (bs:=[qaH_b7]) (by kernel_rfl) ⟨.inr ⟨_,by kernel_rfl,zaat.of_round (qaH_ok7)⟩,trivial⟩) (zaaa _) (by kernel_rfl)
end
end Lift.Q4
