/-
  DERIVED. Each function of this seat computes its Lean function. Conditions: as each theorem says.
-/
import Derived.Test.YtcmhkcpheehlhaaGreatDoorDefs
set_option linter.unusedVariables false
set_option linter.unusedSimpArgs false
set_option linter.unusedSectionVars false
namespace Lift.Q4
noncomputable section
open Go Go.RowKit Go.Proofs Lift Lift.Fn
theorem ko {ms:List (FuncId×Mode U)} (h:Known kk env0 (zaac ms)):KitOk (Kit.withModes kk (zaac ms)) env0:=zaxd eqOk mixed h
def qbL_md:Mode U:=mdG ⟨⟨[0],[],[]⟩,[.t (.int .i32)],[]⟩ [] [⟨⟨[0],[],[]⟩,[.t (.int .i64)],[]⟩] [.int .i32] [[.int .i64]] qbL
theorem qbL_post:zaad kk env0 117 qbL_md:=
  fnG (fn:=Tryz.f117) (ko known10) (by kernel_rfl) (L:=noL) (zaab (bs:=[]) (by kernel_rfl) trivial) (zaaa _) (by kernel_rfl)
def ms11:List (FuncId×Mode U):=(117,qbL_md)::ms10
theorem known11:Known kk env0 (zaac ms11):=known_cons (by kernel_rfl) qbL_post known10
def qbi_b4:Code:=(zaai (zaag Tryz.f68) 0)
def qbi_lp4:Lift.Loop U:=lpG ⟨⟨[0,3,4,5,10],[3,5,10],[⟨.slot 4,4,77,(.st 77)⟩]⟩,[.t .str,.ptr 3 0,.oslc 4,.ptr 5 0,.ptr 10 0],[.blk 77 [.t (.int .i64),.t (.int .i64),.t (.int .i64),.t (.int .i64)],.blk 77 [.t (.int .i64),.t (.int .i64),.t (.int .i64),.t (.int .i64)],.sit,.row 77 (.st 77)]⟩ [⟨.ret,⟨⟨[2,3],[3],[⟨.slot 2,2,77,(.st 77)⟩]⟩,[.oslc 2,.ptr 3 0],[.blk 77 [.t (.int .i64),.t (.int .i64),.t (.int .i64),.t (.int .i64)],.row 77 (.st 77)]⟩⟩,⟨.exit 0,⟨⟨[3,4,5],[3,5],[⟨.slot 4,4,77,(.st 77)⟩]⟩,[.ptr 3 0,.oslc 4,.ptr 5 0],[.blk 77 [.t (.int .i64),.t (.int .i64),.t (.int .i64),.t (.int .i64)],.blk 77 [.t (.int .i64),.t (.int .i64),.t (.int .i64),.t (.int .i64)],.row 77 (.st 77)]⟩⟩] [.str,.int .i64,.int .i64,.int .i64,.int .i64,.int .i64,.int .i64,.int .i64,.int .i64,.str,.fn,.slc (.st 77)] [[.int .i64,.int .i64,.int .i64,.int .i64,.slc (.st 77)],[.int .i64,.int .i64,.int .i64,.int .i64,.int .i64,.int .i64,.int .i64,.int .i64,.slc (.st 77)]] qbi_l4
theorem qbi_ok4:LoopR kk env0 Tryz.f68.ntmps qbi_b4 qbi_lp4:=
  loopG qbi_i4 qbi_t4 (ko known11) (L:=noL) (zaab (bs:=[]) (by kernel_rfl) trivial) (by kernel_rfl) (fun _=>by kernel_rfl) (zaaa _) (fun _=>by kernel_rfl)
def qbi_L:Nat→Option (Lift.Loop U):=fun n=>bif Nat.beq n 4 then some qbi_lp4 else none
def qbi_md:Mode U:=mdG ⟨⟨[0],[],[]⟩,[.t .str],[]⟩ [] [⟨⟨[0,1],[],[⟨.slot 0,100050,77,(.st 77)⟩]⟩,[.oslc 100050,.t (.st 77)],[.row 77 (.st 77)]⟩] [.str] [[.st 77,.slc (.st 77)]] qbi
theorem qbi_post:zaad kk env0 68 qbi_md:=
  fnG (fn:=Tryz.f68) (ko known11) (by kernel_rfl) (L:=qbi_L) (zaab (bs:=[qbi_b4]) (by kernel_rfl) ⟨.inr ⟨_,by kernel_rfl,zaak.of_round (qbi_ok4)⟩,trivial⟩) (zaaa _) (by kernel_rfl)
def ms12:List (FuncId×Mode U):=(68,qbi_md)::ms11
theorem known12:Known kk env0 (zaac ms12):=known_cons (by kernel_rfl) qbi_post known11
def qbh_md:Mode U:=mdG ⟨⟨[0],[],[]⟩,[.t .str],[]⟩ [] [⟨⟨[0,1],[],[⟨.slot 0,100050,77,(.st 77)⟩]⟩,[.oslc 100050,.t (.st 30)],[.row 77 (.st 77)]⟩] [.str] [[.st 30,.slc (.st 77)]] qbh
theorem qbh_post:zaad kk env0 29 qbh_md:=
  fnG (fn:=Tryz.f29) (ko known12) (by kernel_rfl) (L:=noL) (zaab (bs:=[]) (by kernel_rfl) trivial) (zaaa _) (by kernel_rfl)
def ms13:List (FuncId×Mode U):=(29,qbh_md)::ms12
theorem known13:Known kk env0 (zaac ms13):=known_cons (by kernel_rfl) qbh_post known12
def qbe_md:Mode U:=mdG ⟨⟨[0],[],[]⟩,[.t (.int .i64)],[]⟩ [] [⟨⟨[0],[],[]⟩,[.t .bool],[]⟩] [.int .i64] [[.bool]] qbe
theorem qbe_post:zaad kk env0 69 qbe_md:=
  fnG (fn:=Tryz.f69) (ko known13) (by kernel_rfl) (L:=noL) (zaab (bs:=[]) (by kernel_rfl) trivial) (zaaa _) (by kernel_rfl)
def ms14:List (FuncId×Mode U):=(69,qbe_md)::ms13
theorem known14:Known kk env0 (zaac ms14):=known_cons (by kernel_rfl) qbe_post known13
def qan_b3:Code:=(zaai (zaag Tryz.f30) 0)
def qan_lp3:Lift.Loop U:=lpG ⟨⟨[0,3,7],[7],[]⟩,[.t .str,.t .bool,.ptr 7 0],[.sit]⟩ [⟨.ret,⟨⟨[2],[],[]⟩,[.t (.int .i64)],[]⟩⟩,⟨.exit 0,⟨⟨[0],[],[]⟩,[.t .str],[]⟩⟩] [.str,.bool,.str,.fn] [[.int .i64],[.str]] qan_l3
theorem qan_ok3:LoopR kk env0 Tryz.f30.ntmps qan_b3 qan_lp3:=
  loopG qan_i3 qan_t3 (ko known14) (L:=noL) (zaab (bs:=[]) (by kernel_rfl) trivial) (by kernel_rfl) (fun _=>by kernel_rfl) (zaaa _) (fun _=>by kernel_rfl)
def qan_L:Nat→Option (Lift.Loop U):=fun n=>bif Nat.beq n 3 then some qan_lp3 else none
def qan_md:Mode U:=mdG ⟨⟨[0],[],[]⟩,[.t .str],[]⟩ [] [⟨⟨[0],[],[]⟩,[.t (.int .i64)],[]⟩] [.str] [[.int .i64]] qan
theorem qan_post:zaad kk env0 30 qan_md:=
  fnG (fn:=Tryz.f30) (ko known14) (by kernel_rfl) (L:=qan_L) (zaab (bs:=[qan_b3]) (by kernel_rfl) ⟨.inr ⟨_,by kernel_rfl,zaak.of_round (qan_ok3)⟩,trivial⟩) (zaaa _) (by kernel_rfl)
def ms15:List (FuncId×Mode U):=(30,qan_md)::ms14
theorem known15:Known kk env0 (zaac ms15):=known_cons (by kernel_rfl) qan_post known14
def qbM_md:Mode U:=mdG ⟨⟨[0],[],[]⟩,[.t (.int .i32)],[]⟩ [] [⟨⟨[0],[],[]⟩,[.t .bool],[]⟩] [.int .i32] [[.bool]] qbM
theorem qbM_post:zaad kk env0 177 qbM_md:=
  fnG (fn:=Tryz.f177) (ko known15) (by kernel_rfl) (L:=noL) (zaab (bs:=[]) (by kernel_rfl) trivial) (zaaa _) (by kernel_rfl)
def ms16:List (FuncId×Mode U):=(177,qbM_md)::ms15
theorem known16:Known kk env0 (zaac ms16):=known_cons (by kernel_rfl) qbM_post known15
def qbj_md:Mode U:=mdG ⟨⟨[0],[],[]⟩,[.t (.int .i64)],[]⟩ [] [⟨⟨[0],[],[]⟩,[.t .bool],[]⟩] [.int .i64] [[.bool]] qbj
theorem qbj_post:zaad kk env0 149 qbj_md:=
  fnG (fn:=Tryz.f149) (ko known16) (by kernel_rfl) (L:=noL) (zaab (bs:=[]) (by kernel_rfl) trivial) (zaaa _) (by kernel_rfl)
def ms17:List (FuncId×Mode U):=(149,qbj_md)::ms16
theorem known17:Known kk env0 (zaac ms17):=known_cons (by kernel_rfl) qbj_post known16
def qbg_md:Mode U:=mdG ⟨⟨[0],[],[]⟩,[.t (.int .i64)],[]⟩ [] [⟨⟨[0],[],[]⟩,[.t .bool],[]⟩] [.int .i64] [[.bool]] qbg
theorem qbg_post:zaad kk env0 119 qbg_md:=
  fnG (fn:=Tryz.f119) (ko known17) (by kernel_rfl) (L:=noL) (zaab (bs:=[]) (by kernel_rfl) trivial) (zaaa _) (by kernel_rfl)
def ms18:List (FuncId×Mode U):=(119,qbg_md)::ms17
theorem known18:Known kk env0 (zaac ms18):=known_cons (by kernel_rfl) qbg_post known17
def qbf_md:Mode U:=mdG ⟨⟨[0],[],[]⟩,[.t (.int .i64)],[]⟩ [] [⟨⟨[0],[],[]⟩,[.t .bool],[]⟩] [.int .i64] [[.bool]] qbf
theorem qbf_post:zaad kk env0 74 qbf_md:=
  fnG (fn:=Tryz.f74) (ko known18) (by kernel_rfl) (L:=noL) (zaab (bs:=[]) (by kernel_rfl) trivial) (zaaa _) (by kernel_rfl)
def ms19:List (FuncId×Mode U):=(74,qbf_md)::ms18
theorem known19:Known kk env0 (zaac ms19):=known_cons (by kernel_rfl) qbf_post known18
def qal_md:Mode U:=mdG ⟨⟨[0],[],[]⟩,[.t (.int .i32)],[]⟩ [] [⟨⟨[0],[],[]⟩,[.t .bool],[]⟩] [.int .i32] [[.bool]] qal
theorem qal_post:zaad kk env0 71 qal_md:=
  fnG (fn:=Tryz.f71) (ko known19) (by kernel_rfl) (L:=noL) (zaab (bs:=[]) (by kernel_rfl) trivial) (zaaa _) (by kernel_rfl)
def ms20:List (FuncId×Mode U):=(71,qal_md)::ms19
theorem known20:Known kk env0 (zaac ms20):=known_cons (by kernel_rfl) qal_post known19
def qbs_b2:Code:=(zaai (zaag Tryz.f123) 0)
def qbs_lp2:Lift.Loop U:=lpG ⟨⟨[0,1,7,8],[],[]⟩,[.t (.slc .str),.t .str,.t (.int .i64),.t (.int .i64)],[]⟩ [⟨.ret,⟨⟨[4],[],[]⟩,[.t (.int .i64)],[]⟩⟩,⟨.exit 0,⟨⟨[],[],[]⟩,[],[]⟩⟩] [.slc .str,.str,.int .i64,.int .i64] [[.int .i64],[]] qbs_l2
theorem qbs_ok2:LoopR kk env0 Tryz.f123.ntmps qbs_b2 qbs_lp2:=
  loopG qbs_i2 qbs_t2 (ko known20) (L:=noL) (zaab (bs:=[]) (by kernel_rfl) trivial) (by kernel_rfl) (fun _=>by kernel_rfl) (zaaa _) (fun _=>by kernel_rfl)
def qbs_L:Nat→Option (Lift.Loop U):=fun n=>bif Nat.beq n 2 then some qbs_lp2 else none
def qbs_md:Mode U:=mdG ⟨⟨[0,1],[],[]⟩,[.t (.slc .str),.t .str],[]⟩ [] [⟨⟨[0],[],[]⟩,[.t (.int .i64)],[]⟩] [.slc .str,.str] [[.int .i64]] qbs
theorem qbs_post:zaad kk env0 123 qbs_md:=
  fnG (fn:=Tryz.f123) (ko known20) (by kernel_rfl) (L:=qbs_L) (zaab (bs:=[qbs_b2]) (by kernel_rfl) ⟨.inr ⟨_,by kernel_rfl,zaak.of_round (qbs_ok2)⟩,trivial⟩) (zaaa _) (by kernel_rfl)
def ms21:List (FuncId×Mode U):=(123,qbs_md)::ms20
theorem known21:Known kk env0 (zaac ms21):=known_cons (by kernel_rfl) qbs_post known20
def qbr_md:Mode U:=mdG ⟨⟨[0,1],[],[]⟩,[.t (.slc .str),.t .str],[]⟩ [] [⟨⟨[0],[],[]⟩,[.t .bool],[]⟩] [.slc .str,.str] [[.bool]] qbr
theorem qbr_post:zaad kk env0 76 qbr_md:=
  fnG (fn:=Tryz.f76) (ko known21) (by kernel_rfl) (L:=noL) (zaab (bs:=[]) (by kernel_rfl) trivial) (zaaa _) (by kernel_rfl)
def ms22:List (FuncId×Mode U):=(76,qbr_md)::ms21
theorem known22:Known kk env0 (zaac ms22):=known_cons (by kernel_rfl) qbr_post known21
def qao_md:Mode U:=mdG ⟨⟨[0],[],[]⟩,[.t .str],[]⟩ [] [⟨⟨[0],[],[]⟩,[.t .str],[]⟩] [.str] [[.str]] qao
theorem qao_post:zaad kk env0 72 qao_md:=
  fnG (fn:=Tryz.f72) (ko known22) (by kernel_rfl) (L:=noL) (zaab (bs:=[]) (by kernel_rfl) trivial) (zaaa _) (by kernel_rfl)
def ms23:List (FuncId×Mode U):=(72,qao_md)::ms22
theorem known23:Known kk env0 (zaac ms23):=known_cons (by kernel_rfl) qao_post known22
def qaq_b2:Code:=(zaai (zaag Tryz.f73) 0)
def qaq_lp2:Lift.Loop U:=lpG ⟨⟨[0,6],[6],[]⟩,[.t .str,.ptr 6 0],[.sit]⟩ [⟨.ret,⟨⟨[2],[],[]⟩,[.t .str],[]⟩⟩,⟨.exit 0,⟨⟨[0],[],[]⟩,[.t .str],[]⟩⟩] [.str,.str,.fn] [[.str],[.str]] qaq_l2
theorem qaq_ok2:LoopR kk env0 Tryz.f73.ntmps qaq_b2 qaq_lp2:=
  loopG qaq_i2 qaq_t2 (ko known23) (L:=noL) (zaab (bs:=[]) (by kernel_rfl) trivial) (by kernel_rfl) (fun _=>by kernel_rfl) (zaaa _) (fun _=>by kernel_rfl)
def qaq_L:Nat→Option (Lift.Loop U):=fun n=>bif Nat.beq n 2 then some qaq_lp2 else none
def qaq_md:Mode U:=mdG ⟨⟨[0],[],[]⟩,[.t .str],[]⟩ [] [⟨⟨[0],[],[]⟩,[.t .str],[]⟩] [.str] [[.str]] qaq
theorem qaq_post:zaad kk env0 73 qaq_md:=
  fnG (fn:=Tryz.f73) (ko known23) (by kernel_rfl) (L:=qaq_L) (zaab (bs:=[qaq_b2]) (by kernel_rfl) ⟨.inr ⟨_,by kernel_rfl,zaak.of_round (qaq_ok2)⟩,trivial⟩) (zaaa _) (by kernel_rfl)
def ms24:List (FuncId×Mode U):=(73,qaq_md)::ms23
theorem known24:Known kk env0 (zaac ms24):=known_cons (by kernel_rfl) qaq_post known23
def qam_md:Mode U:=mdG ⟨⟨[0],[],[]⟩,[.t .str],[]⟩ [] [⟨⟨[0,1],[],[]⟩,[.t (.int .i64),.t .bool],[]⟩] [.str] [[.int .i64,.bool]] qam
theorem qam_post:zaad kk env0 75 qam_md:=
  fnG (fn:=Tryz.f75) (ko known24) (by kernel_rfl) (L:=noL) (zaab (bs:=[]) (by kernel_rfl) trivial) (zaaa _) (by kernel_rfl)
def ms25:List (FuncId×Mode U):=(75,qam_md)::ms24
theorem known25:Known kk env0 (zaac ms25):=known_cons (by kernel_rfl) qam_post known24
def qak_md:Mode U:=mdG ⟨⟨[],[],[]⟩,[],[]⟩ [] [⟨⟨[0],[],[⟨.slot 0,100050,9,.str⟩]⟩,[.oslc 100050],[.row 9 .str]⟩] [] [[.slc .str]] qak
theorem qak_post:zaad kk env0 77 qak_md:=
  fnG (fn:=Tryz.f77) (ko known25) (by kernel_rfl) (L:=noL) (zaab (bs:=[]) (by kernel_rfl) trivial) (zaaa _) (by kernel_rfl)
def ms26:List (FuncId×Mode U):=(77,qak_md)::ms25
theorem known26:Known kk env0 (zaac ms26):=known_cons (by kernel_rfl) qak_post known25
def qap_md:Mode U:=mdG ⟨⟨[0],[],[]⟩,[.t .str],[]⟩ [] [⟨⟨[0,1],[],[]⟩,[.t (.st 37),.t (.int .i64)],[]⟩] [.str] [[.st 37,.int .i64]] qap
theorem qap_post:zaad kk env0 31 qap_md:=
  fnG (fn:=Tryz.f31) (ko known26) (by kernel_rfl) (L:=noL) (zaab (bs:=[]) (by kernel_rfl) trivial) (zaaa _) (by kernel_rfl)
def ms27:List (FuncId×Mode U):=(31,qap_md)::ms26
theorem known27:Known kk env0 (zaac ms27):=known_cons (by kernel_rfl) qap_post known26
def qaj_b6:Code:=(zaai (zaag Tryz.f13) 0)
def qaj_lp6:Lift.Loop U:=lpG ⟨⟨[0,3,6,7],[3],[⟨.slot 6,6,37,(.st 37)⟩]⟩,[.t .str,.ptr 3 0,.oslc 6,.t (.int .i64)],[.blk 30 [.t (.int .i64),.t (.int .i64),.t .str],.row 37 (.st 37)]⟩ [⟨.ret,⟨⟨[2,3],[3],[]⟩,[.nil,.ptr 3 0],[.blk 30 [.t (.int .i64),.t (.int .i64),.t .str]]⟩⟩,⟨.exit 0,⟨⟨[0,3,6],[3],[⟨.slot 6,6,37,(.st 37)⟩]⟩,[.t .str,.ptr 3 0,.oslc 6],[.blk 30 [.t (.int .i64),.t (.int .i64),.t .str],.row 37 (.st 37)]⟩⟩] [.str,.int .i64,.int .i64,.int .i64,.str,.slc (.st 37)] [[.int .i64,.int .i64,.str],[.str,.int .i64,.int .i64,.str,.slc (.st 37)]] qaj_l6
theorem qaj_ok6:LoopR kk env0 Tryz.f13.ntmps qaj_b6 qaj_lp6:=
  loopG qaj_i6 qaj_t6 (ko known27) (L:=noL) (zaab (bs:=[]) (by kernel_rfl) trivial) (by kernel_rfl) (fun _=>by kernel_rfl) (zaaa _) (fun _=>by kernel_rfl)
def qaj_L:Nat→Option (Lift.Loop U):=fun n=>bif Nat.beq n 6 then some qaj_lp6 else none
def qaj_md:Mode U:=mdG ⟨⟨[0],[],[]⟩,[.t .str],[]⟩ [] [⟨⟨[0,1],[],[]⟩,[.t (.slc (.st 37)),.t (.st 30)],[]⟩] [.str] [[.slc (.st 37),.st 30]] qaj
theorem qaj_post:zaad kk env0 13 qaj_md:=
  fnG (fn:=Tryz.f13) (ko known27) (by kernel_rfl) (L:=qaj_L) (zaab (bs:=[qaj_b6]) (by kernel_rfl) ⟨.inr ⟨_,by kernel_rfl,zaak.of_round (qaj_ok6)⟩,trivial⟩) (zaaa _) (by kernel_rfl)
def ms28:List (FuncId×Mode U):=(13,qaj_md)::ms27
theorem known28:Known kk env0 (zaac ms28):=known_cons (by kernel_rfl) qaj_post known27
def qbA_md:Mode U:=mdG ⟨⟨[0,1,2],[100000],[]⟩,[.t (.st 52),.t (.int .i64),.ptr 100000 0],[.blk 3 [.t (.int .i64)]]⟩ [⟨100000,.slot 2,[]⟩] [⟨⟨[],[100000],[]⟩,[],[.blk 3 [.t (.int .i64)]]⟩] [.st 52,.int .i64,.int .i64] [[.int .i64]] qbA
theorem qbA_post:zaad kk env0 66 qbA_md:=
  fnG (fn:=Tryz.f66) (ko known28) (by kernel_rfl) (L:=jnL) (zaab (bs:=[]) (by kernel_rfl) trivial) (zaaa _) (by kernel_rfl)
def ms48:List (FuncId×Mode U):=(66,qbA_md)::ms28
theorem known48:Known kk env0 (zaac ms48):=known_cons (by kernel_rfl) qbA_post known28
def qbB_md:Mode U:=mdG ⟨⟨[0,1,2],[100000],[]⟩,[.t (.st 50),.t (.int .i64),.ptr 100000 0],[.blk 3 [.t (.int .i64)]]⟩ [⟨100000,.slot 2,[]⟩] [⟨⟨[],[100000],[]⟩,[],[.blk 3 [.t (.int .i64)]]⟩] [.st 50,.int .i64,.int .i64] [[.int .i64]] qbB
theorem qbB_post:zaad kk env0 67 qbB_md:=
  fnG (fn:=Tryz.f67) (ko known48) (by kernel_rfl) (L:=jnL) (zaab (bs:=[]) (by kernel_rfl) trivial) (zaaa _) (by kernel_rfl)
def ms49:List (FuncId×Mode U):=(67,qbB_md)::ms48
theorem known49:Known kk env0 (zaac ms49):=known_cons (by kernel_rfl) qbB_post known48
abbrev qaa_tr:Type:=curT U (sumT U [[.int .i64]]) [.st 50,.int .i64,.int .i64]
def qaa_rmd (rec_qaa:qaa_tr):Mode U:=mdG ⟨⟨[0,1,2],[100000],[]⟩,[.agg [.clo 66 [.ptr 100000 0],.clo 67 [.ptr 100000 0]],.t (.st 50),.t (.int .i64)],[.blk 3 [.t (.int .i64)]]⟩ [⟨100000,.slot 0,[0,0]⟩] [⟨⟨[],[100000],[]⟩,[],[.blk 3 [.t (.int .i64)]]⟩] [.st 50,.int .i64,.int .i64] [[.int .i64]] rec_qaa
abbrev qaa_rec (r:qaa_tr):Prop:=zaad kk env0 129 (qaa_rmd r)
def ms50 (rec_qaa:qaa_tr):List (FuncId×Mode U):=(129,(qaa_rmd rec_qaa))::ms49
theorem known50 (rec_qaa:qaa_tr) (hrec_qaa:qaa_rec rec_qaa):Known kk env0 (zaac (ms50 rec_qaa)):=known_cons (by kernel_rfl) hrec_qaa known49
def qaa_b3:Code:=(zaai (zaag Tryz.f129) 0)
def qaa_lp3 (rec_qaa:qaa_tr):Lift.Loop U:=lpG ⟨⟨[2,3,14,15,16],[100000,3],[]⟩,[.t (.int .i64),.ptr 3 0,.t (.slc (.st 50)),.t (.int .i64),.t (.int .i64)],[.blk 3 [.t (.int .i64)],.blk 89 [.clo 66 [.ptr 100000 0],.clo 67 [.ptr 100000 0]]]⟩ [⟨.exit 0,⟨⟨[],[100000],[]⟩,[],[.blk 3 [.t (.int .i64)]]⟩⟩] [.int .i64,.slc (.st 50),.int .i64,.int .i64,.int .i64] [[.int .i64]] (qaa_l3 rec_qaa)
theorem qaa_ok3 (rec_qaa:qaa_tr) (hrec_qaa:qaa_rec rec_qaa):LoopR kk env0 Tryz.f129.ntmps qaa_b3 (qaa_lp3 rec_qaa):=
  loopG (qaa_i3 rec_qaa) (qaa_t3 rec_qaa) (ko (known50 rec_qaa hrec_qaa)) (L:=jnL) (zaab (bs:=[]) (by kernel_rfl) trivial) (by kernel_rfl) (fun _=>by kernel_rfl) (zaaa _) (fun _=>by kernel_rfl)
def qaa_L (rec_qaa:qaa_tr):Nat→Option (Lift.Loop U):=fun n=>bif Nat.beq n zaar then some zaan else bif Nat.beq n 3 then some (qaa_lp3 rec_qaa) else none
def qaa_md:Mode U:=qaa_rmd qaa
theorem qaa_step (rec_qaa:qaa_tr) (hrec_qaa:qaa_rec rec_qaa):zaap (Kit.withModes kk (zaac (ms50 rec_qaa))) env0 Tryz.f129.ntmps (qaa_L rec_qaa) (zaag Tryz.f129):=zaab (bs:=[qaa_b3]) (by kernel_rfl) ⟨.inr ⟨_,by kernel_rfl,zaak.of_round (qaa_ok3 rec_qaa hrec_qaa)⟩,trivial⟩
theorem qaa_post:zaad kk env0 129 (qaa_rmd qaa):=
  recG qaa_i qaa_f (by kernel_rfl) (fun _=>by kernel_rfl) (zaaa _) fun r ih=>fnG (fn:=Tryz.f129) (ko (known50 r ih)) (by kernel_rfl) (qaa_step r ih) rfl (by kernel_rfl)
def ms51:List (FuncId×Mode U):=(129,qaa_md)::ms49
theorem known51:Known kk env0 (zaac ms51):=known_cons (by kernel_rfl) qaa_post known49
abbrev qag_tr:Type:=curT U (sumT U [[.int .i64]]) [.slc (.st 52),.int .i64,.int .i64]
def qag_rmd (rec_qag:qag_tr):Mode U:=mdG ⟨⟨[0,1,2],[100000],[]⟩,[.agg [.clo 66 [.ptr 100000 0],.clo 67 [.ptr 100000 0]],.t (.slc (.st 52)),.t (.int .i64)],[.blk 3 [.t (.int .i64)]]⟩ [⟨100000,.slot 0,[0,0]⟩] [⟨⟨[],[100000],[]⟩,[],[.blk 3 [.t (.int .i64)]]⟩] [.slc (.st 52),.int .i64,.int .i64] [[.int .i64]] rec_qag
abbrev qag_rec (r:qag_tr):Prop:=zaad kk env0 89 (qag_rmd r)
def ms52 (rec_qag:qag_tr):List (FuncId×Mode U):=(89,(qag_rmd rec_qag))::ms51
theorem known52 (rec_qag:qag_tr) (hrec_qag:qag_rec rec_qag):Known kk env0 (zaac (ms52 rec_qag)):=known_cons (by kernel_rfl) hrec_qag known51
def qag_b2:Code:=(zaai (zaag Tryz.f89) 0)
def qag_lp2 (rec_qag:qag_tr):Lift.Loop U:=lpG ⟨⟨[2,3,8,9,10],[100000,3],[]⟩,[.t (.int .i64),.ptr 3 0,.t (.slc (.st 52)),.t (.int .i64),.t (.int .i64)],[.blk 3 [.t (.int .i64)],.blk 89 [.clo 66 [.ptr 100000 0],.clo 67 [.ptr 100000 0]]]⟩ [⟨.exit 0,⟨⟨[],[100000],[]⟩,[],[.blk 3 [.t (.int .i64)]]⟩⟩] [.int .i64,.slc (.st 52),.int .i64,.int .i64,.int .i64] [[.int .i64]] (qag_l2 rec_qag)
theorem qag_ok2 (rec_qag:qag_tr) (hrec_qag:qag_rec rec_qag):LoopR kk env0 Tryz.f89.ntmps qag_b2 (qag_lp2 rec_qag):=
  loopG (qag_i2 rec_qag) (qag_t2 rec_qag) (ko (known52 rec_qag hrec_qag)) (L:=jnL) (zaab (bs:=[]) (by kernel_rfl) trivial) (by kernel_rfl) (fun _=>by kernel_rfl) (zaaa _) (fun _=>by kernel_rfl)
def qag_L (rec_qag:qag_tr):Nat→Option (Lift.Loop U):=fun n=>bif Nat.beq n zaar then some zaan else bif Nat.beq n 2 then some (qag_lp2 rec_qag) else none
def qag_md:Mode U:=qag_rmd qag
theorem qag_step (rec_qag:qag_tr) (hrec_qag:qag_rec rec_qag):zaap (Kit.withModes kk (zaac (ms52 rec_qag))) env0 Tryz.f89.ntmps (qag_L rec_qag) (zaag Tryz.f89):=zaab (bs:=[qag_b2]) (by kernel_rfl) ⟨.inr ⟨_,by kernel_rfl,zaak.of_round (qag_ok2 rec_qag hrec_qag)⟩,trivial⟩
theorem qag_post:zaad kk env0 89 (qag_rmd qag):=
  recG qag_i qag_f (by kernel_rfl) (fun _=>by kernel_rfl) (zaaa _) fun r ih=>fnG (fn:=Tryz.f89) (ko (known52 r ih)) (by kernel_rfl) (qag_step r ih) rfl (by kernel_rfl)
def ms53:List (FuncId×Mode U):=(89,qag_md)::ms51
theorem known53:Known kk env0 (zaac ms53):=known_cons (by kernel_rfl) qag_post known51
def qad_b2:Code:=(zaai (zaag Tryz.f43) 0)
def qad_lp2:Lift.Loop U:=lpG ⟨⟨[2,7,8,9],[100000,2],[]⟩,[.ptr 2 0,.t (.slc (.st 46)),.t (.int .i64),.t (.int .i64)],[.blk 3 [.t (.int .i64)],.blk 89 [.clo 66 [.ptr 100000 0],.clo 67 [.ptr 100000 0]]]⟩ [⟨.exit 0,⟨⟨[],[100000],[]⟩,[],[.blk 3 [.t (.int .i64)]]⟩⟩] [.slc (.st 46),.int .i64,.int .i64,.int .i64] [[.int .i64]] qad_l2
theorem qad_ok2:LoopR kk env0 Tryz.f43.ntmps qad_b2 qad_lp2:=
  loopG qad_i2 qad_t2 (ko known53) (L:=jnL) (zaab (bs:=[]) (by kernel_rfl) trivial) (by kernel_rfl) (fun _=>by kernel_rfl) (zaaa _) (fun _=>by kernel_rfl)
def qad_L:Nat→Option (Lift.Loop U):=fun n=>bif Nat.beq n zaar then some zaan else bif Nat.beq n 2 then some qad_lp2 else none
def qad_md:Mode U:=mdG ⟨⟨[0,1],[100000],[]⟩,[.agg [.clo 66 [.ptr 100000 0],.clo 67 [.ptr 100000 0]],.t (.st 27)],[.blk 3 [.t (.int .i64)]]⟩ [⟨100000,.slot 0,[0,0]⟩] [⟨⟨[],[100000],[]⟩,[],[.blk 3 [.t (.int .i64)]]⟩] [.st 27,.int .i64] [[.int .i64]] qad
theorem qad_post:zaad kk env0 43 qad_md:=
  fnG (fn:=Tryz.f43) (ko known53) (by kernel_rfl) (L:=qad_L) (zaab (bs:=[qad_b2]) (by kernel_rfl) ⟨.inr ⟨_,by kernel_rfl,zaak.of_round (qad_ok2)⟩,trivial⟩) (zaaa _) (by kernel_rfl)
def ms54:List (FuncId×Mode U):=(43,qad_md)::ms53
theorem known54:Known kk env0 (zaac ms54):=known_cons (by kernel_rfl) qad_post known53
def qbz_md:Mode U:=mdG ⟨⟨[0],[],[]⟩,[.t (.st 27)],[]⟩ [] [⟨⟨[0],[],[]⟩,[.t (.int .i64)],[]⟩] [.st 27] [[.int .i64]] qbz
theorem qbz_post:zaad kk env0 28 qbz_md:=
  fnG (fn:=Tryz.f28) (ko known54) (by kernel_rfl) (L:=jnL) (zaab (bs:=[]) (by kernel_rfl) trivial) (zaaa _) (by kernel_rfl)
def ms55:List (FuncId×Mode U):=(28,qbz_md)::ms54
theorem known55:Known kk env0 (zaac ms55):=known_cons (by kernel_rfl) qbz_post known54
def qbx_md:Mode U:=mdG ⟨⟨[0,1,2],[100000],[]⟩,[.t (.st 52),.t (.int .i64),.ptr 100000 0],[.blk 3 [.t (.int .i64)]]⟩ [⟨100000,.slot 2,[]⟩] [⟨⟨[],[100000],[]⟩,[],[.blk 3 [.t (.int .i64)]]⟩] [.st 52,.int .i64,.int .i64] [[.int .i64]] qbx
theorem qbx_post:zaad kk env0 41 qbx_md:=
  fnG (fn:=Tryz.f41) (ko known55) (by kernel_rfl) (L:=jnL) (zaab (bs:=[]) (by kernel_rfl) trivial) (zaaa _) (by kernel_rfl)
def ms56:List (FuncId×Mode U):=(41,qbx_md)::ms55
theorem known56:Known kk env0 (zaac ms56):=known_cons (by kernel_rfl) qbx_post known55
def qby_md:Mode U:=mdG ⟨⟨[0,1,2],[100000],[]⟩,[.t (.st 50),.t (.int .i64),.ptr 100000 0],[.blk 3 [.t (.int .i64)]]⟩ [⟨100000,.slot 2,[]⟩] [⟨⟨[],[100000],[]⟩,[],[.blk 3 [.t (.int .i64)]]⟩] [.st 50,.int .i64,.int .i64] [[.int .i64]] qby
theorem qby_post:zaad kk env0 42 qby_md:=
  fnG (fn:=Tryz.f42) (ko known56) (by kernel_rfl) (L:=jnL) (zaab (bs:=[]) (by kernel_rfl) trivial) (zaaa _) (by kernel_rfl)
def ms57:List (FuncId×Mode U):=(42,qby_md)::ms56
theorem known57:Known kk env0 (zaac ms57):=known_cons (by kernel_rfl) qby_post known56
abbrev qab_tr:Type:=curT U (sumT U [[.int .i64]]) [.st 50,.int .i64,.int .i64]
def qab_rmd (rec_qab:qab_tr):Mode U:=mdG ⟨⟨[0,1,2],[100000],[]⟩,[.agg [.clo 41 [.ptr 100000 0],.clo 42 [.ptr 100000 0]],.t (.st 50),.t (.int .i64)],[.blk 3 [.t (.int .i64)]]⟩ [⟨100000,.slot 0,[0,0]⟩] [⟨⟨[],[100000],[]⟩,[],[.blk 3 [.t (.int .i64)]]⟩] [.st 50,.int .i64,.int .i64] [[.int .i64]] rec_qab
abbrev qab_rec (r:qab_tr):Prop:=zaad kk env0 129 (qab_rmd r)
def ms58 (rec_qab:qab_tr):List (FuncId×Mode U):=(129,(qab_rmd rec_qab))::ms57
theorem known58 (rec_qab:qab_tr) (hrec_qab:qab_rec rec_qab):Known kk env0 (zaac (ms58 rec_qab)):=known_cons (by kernel_rfl) hrec_qab known57
def qab_b3:Code:=(zaai (zaag Tryz.f129) 0)
def qab_lp3 (rec_qab:qab_tr):Lift.Loop U:=lpG ⟨⟨[2,3,14,15,16],[100000,3],[]⟩,[.t (.int .i64),.ptr 3 0,.t (.slc (.st 50)),.t (.int .i64),.t (.int .i64)],[.blk 3 [.t (.int .i64)],.blk 89 [.clo 41 [.ptr 100000 0],.clo 42 [.ptr 100000 0]]]⟩ [⟨.exit 0,⟨⟨[],[100000],[]⟩,[],[.blk 3 [.t (.int .i64)]]⟩⟩] [.int .i64,.slc (.st 50),.int .i64,.int .i64,.int .i64] [[.int .i64]] (qab_l3 rec_qab)
theorem qab_ok3 (rec_qab:qab_tr) (hrec_qab:qab_rec rec_qab):LoopR kk env0 Tryz.f129.ntmps qab_b3 (qab_lp3 rec_qab):=
  loopG (qab_i3 rec_qab) (qab_t3 rec_qab) (ko (known58 rec_qab hrec_qab)) (L:=jnL) (zaab (bs:=[]) (by kernel_rfl) trivial) (by kernel_rfl) (fun _=>by kernel_rfl) (zaaa _) (fun _=>by kernel_rfl)
def qab_L (rec_qab:qab_tr):Nat→Option (Lift.Loop U):=fun n=>bif Nat.beq n zaar then some zaan else bif Nat.beq n 3 then some (qab_lp3 rec_qab) else none
def qab_md:Mode U:=qab_rmd qab
theorem qab_step (rec_qab:qab_tr) (hrec_qab:qab_rec rec_qab):zaap (Kit.withModes kk (zaac (ms58 rec_qab))) env0 Tryz.f129.ntmps (qab_L rec_qab) (zaag Tryz.f129):=zaab (bs:=[qab_b3]) (by kernel_rfl) ⟨.inr ⟨_,by kernel_rfl,zaak.of_round (qab_ok3 rec_qab hrec_qab)⟩,trivial⟩
theorem qab_post:zaad kk env0 129 (qab_rmd qab):=
  recG qab_i qab_f (by kernel_rfl) (fun _=>by kernel_rfl) (zaaa _) fun r ih=>fnG (fn:=Tryz.f129) (ko (known58 r ih)) (by kernel_rfl) (qab_step r ih) rfl (by kernel_rfl)
def ms59:List (FuncId×Mode U):=(129,qab_md)::ms57
theorem known59:Known kk env0 (zaac ms59):=known_cons (by kernel_rfl) qab_post known57
abbrev qah_tr:Type:=curT U (sumT U [[.int .i64]]) [.slc (.st 52),.int .i64,.int .i64]
def qah_rmd (rec_qah:qah_tr):Mode U:=mdG ⟨⟨[0,1,2],[100000],[]⟩,[.agg [.clo 41 [.ptr 100000 0],.clo 42 [.ptr 100000 0]],.t (.slc (.st 52)),.t (.int .i64)],[.blk 3 [.t (.int .i64)]]⟩ [⟨100000,.slot 0,[0,0]⟩] [⟨⟨[],[100000],[]⟩,[],[.blk 3 [.t (.int .i64)]]⟩] [.slc (.st 52),.int .i64,.int .i64] [[.int .i64]] rec_qah
abbrev qah_rec (r:qah_tr):Prop:=zaad kk env0 89 (qah_rmd r)
def ms60 (rec_qah:qah_tr):List (FuncId×Mode U):=(89,(qah_rmd rec_qah))::ms59
theorem known60 (rec_qah:qah_tr) (hrec_qah:qah_rec rec_qah):Known kk env0 (zaac (ms60 rec_qah)):=known_cons (by kernel_rfl) hrec_qah known59
def qah_b2:Code:=(zaai (zaag Tryz.f89) 0)
def qah_lp2 (rec_qah:qah_tr):Lift.Loop U:=lpG ⟨⟨[2,3,8,9,10],[100000,3],[]⟩,[.t (.int .i64),.ptr 3 0,.t (.slc (.st 52)),.t (.int .i64),.t (.int .i64)],[.blk 3 [.t (.int .i64)],.blk 89 [.clo 41 [.ptr 100000 0],.clo 42 [.ptr 100000 0]]]⟩ [⟨.exit 0,⟨⟨[],[100000],[]⟩,[],[.blk 3 [.t (.int .i64)]]⟩⟩] [.int .i64,.slc (.st 52),.int .i64,.int .i64,.int .i64] [[.int .i64]] (qah_l2 rec_qah)
theorem qah_ok2 (rec_qah:qah_tr) (hrec_qah:qah_rec rec_qah):LoopR kk env0 Tryz.f89.ntmps qah_b2 (qah_lp2 rec_qah):=
  loopG (qah_i2 rec_qah) (qah_t2 rec_qah) (ko (known60 rec_qah hrec_qah)) (L:=jnL) (zaab (bs:=[]) (by kernel_rfl) trivial) (by kernel_rfl) (fun _=>by kernel_rfl) (zaaa _) (fun _=>by kernel_rfl)
def qah_L (rec_qah:qah_tr):Nat→Option (Lift.Loop U):=fun n=>bif Nat.beq n zaar then some zaan else bif Nat.beq n 2 then some (qah_lp2 rec_qah) else none
def qah_md:Mode U:=qah_rmd qah
theorem qah_step (rec_qah:qah_tr) (hrec_qah:qah_rec rec_qah):zaap (Kit.withModes kk (zaac (ms60 rec_qah))) env0 Tryz.f89.ntmps (qah_L rec_qah) (zaag Tryz.f89):=zaab (bs:=[qah_b2]) (by kernel_rfl) ⟨.inr ⟨_,by kernel_rfl,zaak.of_round (qah_ok2 rec_qah hrec_qah)⟩,trivial⟩
theorem qah_post:zaad kk env0 89 (qah_rmd qah):=
  recG qah_i qah_f (by kernel_rfl) (fun _=>by kernel_rfl) (zaaa _) fun r ih=>fnG (fn:=Tryz.f89) (ko (known60 r ih)) (by kernel_rfl) (qah_step r ih) rfl (by kernel_rfl)
def ms61:List (FuncId×Mode U):=(89,qah_md)::ms59
theorem known61:Known kk env0 (zaac ms61):=known_cons (by kernel_rfl) qah_post known59
def qae_b2:Code:=(zaai (zaag Tryz.f43) 0)
def qae_lp2:Lift.Loop U:=lpG ⟨⟨[2,7,8,9],[100000,2],[]⟩,[.ptr 2 0,.t (.slc (.st 46)),.t (.int .i64),.t (.int .i64)],[.blk 3 [.t (.int .i64)],.blk 89 [.clo 41 [.ptr 100000 0],.clo 42 [.ptr 100000 0]]]⟩ [⟨.exit 0,⟨⟨[],[100000],[]⟩,[],[.blk 3 [.t (.int .i64)]]⟩⟩] [.slc (.st 46),.int .i64,.int .i64,.int .i64] [[.int .i64]] qae_l2
theorem qae_ok2:LoopR kk env0 Tryz.f43.ntmps qae_b2 qae_lp2:=
  loopG qae_i2 qae_t2 (ko known61) (L:=jnL) (zaab (bs:=[]) (by kernel_rfl) trivial) (by kernel_rfl) (fun _=>by kernel_rfl) (zaaa _) (fun _=>by kernel_rfl)
def qae_L:Nat→Option (Lift.Loop U):=fun n=>bif Nat.beq n zaar then some zaan else bif Nat.beq n 2 then some qae_lp2 else none
def qae_md:Mode U:=mdG ⟨⟨[0,1],[100000],[]⟩,[.agg [.clo 41 [.ptr 100000 0],.clo 42 [.ptr 100000 0]],.t (.st 27)],[.blk 3 [.t (.int .i64)]]⟩ [⟨100000,.slot 0,[0,0]⟩] [⟨⟨[],[100000],[]⟩,[],[.blk 3 [.t (.int .i64)]]⟩] [.st 27,.int .i64] [[.int .i64]] qae
theorem qae_post:zaad kk env0 43 qae_md:=
  fnG (fn:=Tryz.f43) (ko known61) (by kernel_rfl) (L:=qae_L) (zaab (bs:=[qae_b2]) (by kernel_rfl) ⟨.inr ⟨_,by kernel_rfl,zaak.of_round (qae_ok2)⟩,trivial⟩) (zaaa _) (by kernel_rfl)
def ms62:List (FuncId×Mode U):=(43,qae_md)::ms61
theorem known62:Known kk env0 (zaac ms62):=known_cons (by kernel_rfl) qae_post known61
def qbw_md:Mode U:=mdG ⟨⟨[0],[],[]⟩,[.t (.st 27)],[]⟩ [] [⟨⟨[0],[],[]⟩,[.t (.int .i64)],[]⟩] [.st 27] [[.int .i64]] qbw
theorem qbw_post:zaad kk env0 16 qbw_md:=
  fnG (fn:=Tryz.f16) (ko known62) (by kernel_rfl) (L:=jnL) (zaab (bs:=[]) (by kernel_rfl) trivial) (zaaa _) (by kernel_rfl)
def ms63:List (FuncId×Mode U):=(16,qbw_md)::ms62
theorem known63:Known kk env0 (zaac ms63):=known_cons (by kernel_rfl) qbw_post known62
def qbI_md:Mode U:=mdG ⟨⟨[0],[],[]⟩,[.t .str],[]⟩ [] [⟨⟨[0],[],[]⟩,[.t .bool],[]⟩] [.str] [[.bool]] qbI
theorem qbI_post:zaad kk env0 90 qbI_md:=
  fnG (fn:=Tryz.f90) (ko known63) (by kernel_rfl) (L:=jnL) (zaab (bs:=[]) (by kernel_rfl) trivial) (zaaa _) (by kernel_rfl)
def ms78:List (FuncId×Mode U):=(90,qbI_md)::ms63
theorem known78:Known kk env0 (zaac ms78):=known_cons (by kernel_rfl) qbI_post known63
def qbJ_md:Mode U:=mdG ⟨⟨[],[],[]⟩,[],[]⟩ [] [⟨⟨[0],[],[]⟩,[.t (.map (.int .i64) (.st 154))],[]⟩] [] [[.map (.int .i64) (.st 154)]] qbJ
theorem qbJ_post:zaad kk env0 130 qbJ_md:=
  fnG (fn:=Tryz.f130) (ko known78) (by kernel_rfl) (L:=jnL) (zaab (bs:=[]) (by kernel_rfl) trivial) (zaaa _) (by kernel_rfl)
def ms79:List (FuncId×Mode U):=(130,qbJ_md)::ms78
theorem known79:Known kk env0 (zaac ms79):=known_cons (by kernel_rfl) qbJ_post known78
def qbH_md:Mode U:=mdG ⟨⟨[0,1],[],[]⟩,[.t .str,.t .bool],[]⟩ [] [⟨⟨[0],[],[]⟩,[.t .bool],[]⟩] [.str,.bool] [[.bool]] qbH
theorem qbH_post:zaad kk env0 131 qbH_md:=
  fnG (fn:=Tryz.f131) (ko known79) (by kernel_rfl) (L:=jnL) (zaab (bs:=[]) (by kernel_rfl) trivial) (zaaa _) (by kernel_rfl)
def ms80:List (FuncId×Mode U):=(131,qbH_md)::ms79
theorem known80:Known kk env0 (zaac ms80):=known_cons (by kernel_rfl) qbH_post known79
def qbK_md:Mode U:=mdG ⟨⟨[0],[],[]⟩,[.t (.st 52)],[]⟩ [] [⟨⟨[0],[],[]⟩,[.t .bool],[]⟩] [.st 52] [[.bool]] qbK
theorem qbK_post:zaad kk env0 92 qbK_md:=
  fnG (fn:=Tryz.f92) (ko known80) (by kernel_rfl) (L:=jnL) (zaab (bs:=[]) (by kernel_rfl) trivial) (zaaa _) (by kernel_rfl)
def ms81:List (FuncId×Mode U):=(92,qbK_md)::ms80
theorem known81:Known kk env0 (zaac ms81):=known_cons (by kernel_rfl) qbK_post known80
def qbF_md:Mode U:=mdG ⟨⟨[0,1,2],[100000],[]⟩,[.t (.st 52),.t (.int .i64),.ptr 100000 0],[.blk 4 [.t .bool]]⟩ [⟨100000,.slot 2,[]⟩] [⟨⟨[],[100000],[]⟩,[],[.blk 4 [.t .bool]]⟩] [.st 52,.int .i64,.bool] [[.bool]] qbF
theorem qbF_post:zaad kk env0 91 qbF_md:=
  fnG (fn:=Tryz.f91) (ko known81) (by kernel_rfl) (L:=jnL) (zaab (bs:=[]) (by kernel_rfl) trivial) (zaaa _) (by kernel_rfl)
def ms82:List (FuncId×Mode U):=(91,qbF_md)::ms81
theorem known82:Known kk env0 (zaac ms82):=known_cons (by kernel_rfl) qbF_post known81
def qbD_md:Mode U:=mdG ⟨⟨[0],[],[]⟩,[.t (.st 50)],[]⟩ [] [⟨⟨[0],[],[]⟩,[.t .bool],[]⟩] [.st 50] [[.bool]] qbD
theorem qbD_post:zaad kk env0 94 qbD_md:=
  fnG (fn:=Tryz.f94) (ko known82) (by kernel_rfl) (L:=jnL) (zaab (bs:=[]) (by kernel_rfl) trivial) (zaaa _) (by kernel_rfl)
def ms83:List (FuncId×Mode U):=(94,qbD_md)::ms82
theorem known83:Known kk env0 (zaac ms83):=known_cons (by kernel_rfl) qbD_post known82
def qbG_md:Mode U:=mdG ⟨⟨[0,1,2],[100000],[]⟩,[.t (.st 50),.t (.int .i64),.ptr 100000 0],[.blk 4 [.t .bool]]⟩ [⟨100000,.slot 2,[]⟩] [⟨⟨[],[100000],[]⟩,[],[.blk 4 [.t .bool]]⟩] [.st 50,.int .i64,.bool] [[.bool]] qbG
theorem qbG_post:zaad kk env0 93 qbG_md:=
  fnG (fn:=Tryz.f93) (ko known83) (by kernel_rfl) (L:=jnL) (zaab (bs:=[]) (by kernel_rfl) trivial) (zaaa _) (by kernel_rfl)
def ms84:List (FuncId×Mode U):=(93,qbG_md)::ms83
theorem known84:Known kk env0 (zaac ms84):=known_cons (by kernel_rfl) qbG_post known83
abbrev qac_tr:Type:=curT U (sumT U [[.bool]]) [.st 50,.int .i64,.bool]
def qac_rmd (rec_qac:qac_tr):Mode U:=mdG ⟨⟨[0,1,2],[100000],[]⟩,[.agg [.clo 91 [.ptr 100000 0],.clo 93 [.ptr 100000 0]],.t (.st 50),.t (.int .i64)],[.blk 4 [.t .bool]]⟩ [⟨100000,.slot 0,[0,0]⟩] [⟨⟨[],[100000],[]⟩,[],[.blk 4 [.t .bool]]⟩] [.st 50,.int .i64,.bool] [[.bool]] rec_qac
abbrev qac_rec (r:qac_tr):Prop:=zaad kk env0 129 (qac_rmd r)
def ms85 (rec_qac:qac_tr):List (FuncId×Mode U):=(129,(qac_rmd rec_qac))::ms84
theorem known85 (rec_qac:qac_tr) (hrec_qac:qac_rec rec_qac):Known kk env0 (zaac (ms85 rec_qac)):=known_cons (by kernel_rfl) hrec_qac known84
def qac_b3:Code:=(zaai (zaag Tryz.f129) 0)
def qac_lp3 (rec_qac:qac_tr):Lift.Loop U:=lpG ⟨⟨[2,3,14,15,16],[100000,3],[]⟩,[.t (.int .i64),.ptr 3 0,.t (.slc (.st 50)),.t (.int .i64),.t (.int .i64)],[.blk 4 [.t .bool],.blk 89 [.clo 91 [.ptr 100000 0],.clo 93 [.ptr 100000 0]]]⟩ [⟨.exit 0,⟨⟨[],[100000],[]⟩,[],[.blk 4 [.t .bool]]⟩⟩] [.int .i64,.slc (.st 50),.int .i64,.int .i64,.bool] [[.bool]] (qac_l3 rec_qac)
theorem qac_ok3 (rec_qac:qac_tr) (hrec_qac:qac_rec rec_qac):LoopR kk env0 Tryz.f129.ntmps qac_b3 (qac_lp3 rec_qac):=
  loopG (qac_i3 rec_qac) (qac_t3 rec_qac) (ko (known85 rec_qac hrec_qac)) (L:=jnL) (zaab (bs:=[]) (by kernel_rfl) trivial) (by kernel_rfl) (fun _=>by kernel_rfl) (zaaa _) (fun _=>by kernel_rfl)
def qac_L (rec_qac:qac_tr):Nat→Option (Lift.Loop U):=fun n=>bif Nat.beq n zaar then some zaan else bif Nat.beq n 3 then some (qac_lp3 rec_qac) else none
def qac_md:Mode U:=qac_rmd qac
theorem qac_step (rec_qac:qac_tr) (hrec_qac:qac_rec rec_qac):zaap (Kit.withModes kk (zaac (ms85 rec_qac))) env0 Tryz.f129.ntmps (qac_L rec_qac) (zaag Tryz.f129):=zaab (bs:=[qac_b3]) (by kernel_rfl) ⟨.inr ⟨_,by kernel_rfl,zaak.of_round (qac_ok3 rec_qac hrec_qac)⟩,trivial⟩
theorem qac_post:zaad kk env0 129 (qac_rmd qac):=
  recG qac_i qac_f (by kernel_rfl) (fun _=>by kernel_rfl) (zaaa _) fun r ih=>fnG (fn:=Tryz.f129) (ko (known85 r ih)) (by kernel_rfl) (qac_step r ih) rfl (by kernel_rfl)
def ms86:List (FuncId×Mode U):=(129,qac_md)::ms84
theorem known86:Known kk env0 (zaac ms86):=known_cons (by kernel_rfl) qac_post known84
abbrev qai_tr:Type:=curT U (sumT U [[.bool]]) [.slc (.st 52),.int .i64,.bool]
def qai_rmd (rec_qai:qai_tr):Mode U:=mdG ⟨⟨[0,1,2],[100000],[]⟩,[.agg [.clo 91 [.ptr 100000 0],.clo 93 [.ptr 100000 0]],.t (.slc (.st 52)),.t (.int .i64)],[.blk 4 [.t .bool]]⟩ [⟨100000,.slot 0,[0,0]⟩] [⟨⟨[],[100000],[]⟩,[],[.blk 4 [.t .bool]]⟩] [.slc (.st 52),.int .i64,.bool] [[.bool]] rec_qai
abbrev qai_rec (r:qai_tr):Prop:=zaad kk env0 89 (qai_rmd r)
def ms87 (rec_qai:qai_tr):List (FuncId×Mode U):=(89,(qai_rmd rec_qai))::ms86
theorem known87 (rec_qai:qai_tr) (hrec_qai:qai_rec rec_qai):Known kk env0 (zaac (ms87 rec_qai)):=known_cons (by kernel_rfl) hrec_qai known86
def qai_b2:Code:=(zaai (zaag Tryz.f89) 0)
def qai_lp2 (rec_qai:qai_tr):Lift.Loop U:=lpG ⟨⟨[2,3,8,9,10],[100000,3],[]⟩,[.t (.int .i64),.ptr 3 0,.t (.slc (.st 52)),.t (.int .i64),.t (.int .i64)],[.blk 4 [.t .bool],.blk 89 [.clo 91 [.ptr 100000 0],.clo 93 [.ptr 100000 0]]]⟩ [⟨.exit 0,⟨⟨[],[100000],[]⟩,[],[.blk 4 [.t .bool]]⟩⟩] [.int .i64,.slc (.st 52),.int .i64,.int .i64,.bool] [[.bool]] (qai_l2 rec_qai)
theorem qai_ok2 (rec_qai:qai_tr) (hrec_qai:qai_rec rec_qai):LoopR kk env0 Tryz.f89.ntmps qai_b2 (qai_lp2 rec_qai):=
  loopG (qai_i2 rec_qai) (qai_t2 rec_qai) (ko (known87 rec_qai hrec_qai)) (L:=jnL) (zaab (bs:=[]) (by kernel_rfl) trivial) (by kernel_rfl) (fun _=>by kernel_rfl) (zaaa _) (fun _=>by kernel_rfl)
def qai_L (rec_qai:qai_tr):Nat→Option (Lift.Loop U):=fun n=>bif Nat.beq n zaar then some zaan else bif Nat.beq n 2 then some (qai_lp2 rec_qai) else none
def qai_md:Mode U:=qai_rmd qai
theorem qai_step (rec_qai:qai_tr) (hrec_qai:qai_rec rec_qai):zaap (Kit.withModes kk (zaac (ms87 rec_qai))) env0 Tryz.f89.ntmps (qai_L rec_qai) (zaag Tryz.f89):=zaab (bs:=[qai_b2]) (by kernel_rfl) ⟨.inr ⟨_,by kernel_rfl,zaak.of_round (qai_ok2 rec_qai hrec_qai)⟩,trivial⟩
theorem qai_post:zaad kk env0 89 (qai_rmd qai):=
  recG qai_i qai_f (by kernel_rfl) (fun _=>by kernel_rfl) (zaaa _) fun r ih=>fnG (fn:=Tryz.f89) (ko (known87 r ih)) (by kernel_rfl) (qai_step r ih) rfl (by kernel_rfl)
def ms88:List (FuncId×Mode U):=(89,qai_md)::ms86
theorem known88:Known kk env0 (zaac ms88):=known_cons (by kernel_rfl) qai_post known86
def qaf_b2:Code:=(zaai (zaag Tryz.f43) 0)
def qaf_lp2:Lift.Loop U:=lpG ⟨⟨[2,7,8,9],[100000,2],[]⟩,[.ptr 2 0,.t (.slc (.st 46)),.t (.int .i64),.t (.int .i64)],[.blk 4 [.t .bool],.blk 89 [.clo 91 [.ptr 100000 0],.clo 93 [.ptr 100000 0]]]⟩ [⟨.exit 0,⟨⟨[],[100000],[]⟩,[],[.blk 4 [.t .bool]]⟩⟩] [.slc (.st 46),.int .i64,.int .i64,.bool] [[.bool]] qaf_l2
theorem qaf_ok2:LoopR kk env0 Tryz.f43.ntmps qaf_b2 qaf_lp2:=
  loopG qaf_i2 qaf_t2 (ko known88) (L:=jnL) (zaab (bs:=[]) (by kernel_rfl) trivial) (by kernel_rfl) (fun _=>by kernel_rfl) (zaaa _) (fun _=>by kernel_rfl)
def qaf_L:Nat→Option (Lift.Loop U):=fun n=>bif Nat.beq n zaar then some zaan else bif Nat.beq n 2 then some qaf_lp2 else none
def qaf_md:Mode U:=mdG ⟨⟨[0,1],[100000],[]⟩,[.agg [.clo 91 [.ptr 100000 0],.clo 93 [.ptr 100000 0]],.t (.st 27)],[.blk 4 [.t .bool]]⟩ [⟨100000,.slot 0,[0,0]⟩] [⟨⟨[],[100000],[]⟩,[],[.blk 4 [.t .bool]]⟩] [.st 27,.bool] [[.bool]] qaf
theorem qaf_post:zaad kk env0 43 qaf_md:=
  fnG (fn:=Tryz.f43) (ko known88) (by kernel_rfl) (L:=qaf_L) (zaab (bs:=[qaf_b2]) (by kernel_rfl) ⟨.inr ⟨_,by kernel_rfl,zaak.of_round (qaf_ok2)⟩,trivial⟩) (zaaa _) (by kernel_rfl)
def ms89:List (FuncId×Mode U):=(43,qaf_md)::ms88
theorem known89:Known kk env0 (zaac ms89):=known_cons (by kernel_rfl) qaf_post known88
def qbE_b3:Code:=(zaai (zaag Tryz.f44) 0)
def qbE_lp3:Lift.Loop U:=lpG ⟨⟨[1,3,11,12,13],[1,3],[]⟩,[.ptr 1 0,.ptr 3 0,.t (.slc (.st 62)),.t (.int .i64),.t (.int .i64)],[.blk 27 [.t (.slc (.st 62)),.t (.slc .str),.t (.slc (.st 46))],.blk 4 [.t .bool]]⟩ [⟨.exit 0,⟨⟨[1,3],[1,3],[]⟩,[.ptr 1 0,.ptr 3 0],[.blk 27 [.t (.slc (.st 62)),.t (.slc .str),.t (.slc (.st 46))],.blk 4 [.t .bool]]⟩⟩] [.slc (.st 62),.int .i64,.int .i64,.slc (.st 62),.slc .str,.slc (.st 46),.bool] [[.slc (.st 62),.slc .str,.slc (.st 46),.bool]] qbE_l3
theorem qbE_ok3:LoopR kk env0 Tryz.f44.ntmps qbE_b3 qbE_lp3:=
  loopG qbE_i3 qbE_t3 (ko known89) (L:=jnL) (zaab (bs:=[]) (by kernel_rfl) trivial) (by kernel_rfl) (fun _=>by kernel_rfl) (zaaa _) (fun _=>by kernel_rfl)
def qbE_b8:Code:=(zaai (zaag Tryz.f44) 1)
def qbE_lp8:Lift.Loop U:=lpG ⟨⟨[1,3,35,36,37],[1,3],[]⟩,[.ptr 1 0,.ptr 3 0,.t (.slc .str),.t (.int .i64),.t (.int .i64)],[.blk 27 [.t (.slc (.st 62)),.t (.slc .str),.t (.slc (.st 46))],.blk 4 [.t .bool]]⟩ [⟨.exit 2,⟨⟨[1,3],[1,3],[]⟩,[.ptr 1 0,.ptr 3 0],[.blk 27 [.t (.slc (.st 62)),.t (.slc .str),.t (.slc (.st 46))],.blk 4 [.t .bool]]⟩⟩] [.slc .str,.int .i64,.int .i64,.slc (.st 62),.slc .str,.slc (.st 46),.bool] [[.slc (.st 62),.slc .str,.slc (.st 46),.bool]] qbE_l8
theorem qbE_ok8:LoopR kk env0 Tryz.f44.ntmps qbE_b8 qbE_lp8:=
  loopG qbE_i8 qbE_t8 (ko known89) (L:=jnL) (zaab (bs:=[]) (by kernel_rfl) trivial) (by kernel_rfl) (fun _=>by kernel_rfl) (zaaa _) (fun _=>by kernel_rfl)
def qbE_b13:Code:=(zaai (zaag Tryz.f44) 2)
def qbE_lp13:Lift.Loop U:=lpG ⟨⟨[1,3,48,49,50],[1,3],[]⟩,[.ptr 1 0,.ptr 3 0,.t (.slc (.st 46)),.t (.int .i64),.t (.int .i64)],[.blk 27 [.t (.slc (.st 62)),.t (.slc .str),.t (.slc (.st 46))],.blk 4 [.t .bool]]⟩ [⟨.exit 4,⟨⟨[1,3],[1,3],[]⟩,[.ptr 1 0,.ptr 3 0],[.blk 27 [.t (.slc (.st 62)),.t (.slc .str),.t (.slc (.st 46))],.blk 4 [.t .bool]]⟩⟩] [.slc (.st 46),.int .i64,.int .i64,.slc (.st 62),.slc .str,.slc (.st 46),.bool] [[.slc (.st 62),.slc .str,.slc (.st 46),.bool]] qbE_l13
theorem qbE_ok13:LoopR kk env0 Tryz.f44.ntmps qbE_b13 qbE_lp13:=
  loopG qbE_i13 qbE_t13 (ko known89) (L:=jnL) (zaab (bs:=[]) (by kernel_rfl) trivial) (by kernel_rfl) (fun _=>by kernel_rfl) (zaaa _) (fun _=>by kernel_rfl)
def qbE_L:Nat→Option (Lift.Loop U):=fun n=>bif Nat.beq n zaar then some zaan else bif Nat.beq n 3 then some qbE_lp3 else bif Nat.beq n 8 then some qbE_lp8 else bif Nat.beq n 13 then some qbE_lp13 else none
def qbE_md:Mode U:=mdG ⟨⟨[0],[],[]⟩,[.t (.st 27)],[]⟩ [] [⟨⟨[0],[],[]⟩,[.t .bool],[]⟩] [.st 27] [[.bool]] qbE
theorem qbE_post:zaad kk env0 44 qbE_md:=
  fnG (fn:=Tryz.f44) (ko known89) (by kernel_rfl) (L:=qbE_L) (zaab (bs:=[qbE_b3,qbE_b8,qbE_b13]) (by kernel_rfl) ⟨.inr ⟨_,by kernel_rfl,zaak.of_round (qbE_ok3)⟩,.inr ⟨_,by kernel_rfl,zaak.of_round (qbE_ok8)⟩,.inr ⟨_,by kernel_rfl,zaak.of_round (qbE_ok13)⟩,trivial⟩) (zaaa _) (by kernel_rfl)
def ms90:List (FuncId×Mode U):=(44,qbE_md)::ms89
theorem known90:Known kk env0 (zaac ms90):=known_cons (by kernel_rfl) qbE_post known89
def qbC_md:Mode U:=mdG ⟨⟨[0],[],[]⟩,[.t (.st 27)],[]⟩ [] [⟨⟨[0],[],[]⟩,[.t (.int .i64)],[]⟩] [.st 27] [[.int .i64]] qbC
theorem qbC_post:zaad kk env0 17 qbC_md:=
  fnG (fn:=Tryz.f17) (ko known90) (by kernel_rfl) (L:=jnL) (zaab (bs:=[]) (by kernel_rfl) trivial) (zaaa _) (by kernel_rfl)
def ms91:List (FuncId×Mode U):=(17,qbC_md)::ms90
theorem known91:Known kk env0 (zaac ms91):=known_cons (by kernel_rfl) qbC_post known90
def qbl_b3:Code:=(zaai (zaag Tryz.f54) 0)
def qbl_lp3:Lift.Loop U:=lpG ⟨⟨[1,13,14,15],[4],[⟨.slot 13,13,9,.str⟩]⟩,[.ptr 4 0,.oslc 13,.t (.int .i64),.t (.int .i64)],[.mp (.int .i64) (.st 138),.row 9 .str]⟩ [⟨.exit 0,⟨⟨[1],[4],[]⟩,[.ptr 4 0],[.mp (.int .i64) (.st 138)]⟩⟩] [.int .i64,.int .i64,.map (.int .i64) (.st 138),.slc .str] [[.map (.int .i64) (.st 138)]] qbl_l3
theorem qbl_ok3:LoopR kk env0 Tryz.f54.ntmps qbl_b3 qbl_lp3:=
  loopG qbl_i3 qbl_t3 (ko known91) (L:=jnL) (zaab (bs:=[]) (by kernel_rfl) trivial) (by kernel_rfl) (fun _=>by kernel_rfl) (zaaa _) (fun _=>by kernel_rfl)
def qbl_L:Nat→Option (Lift.Loop U):=fun n=>bif Nat.beq n zaar then some zaan else bif Nat.beq n 3 then some qbl_lp3 else none
def qbl_md:Mode U:=mdG ⟨⟨[],[],[]⟩,[],[]⟩ [] [⟨⟨[0],[],[]⟩,[.t (.map (.int .i64) (.st 138))],[]⟩] [] [[.map (.int .i64) (.st 138)]] qbl
theorem qbl_post:zaad kk env0 54 qbl_md:=
  fnG (fn:=Tryz.f54) (ko known91) (by kernel_rfl) (L:=qbl_L) (zaab (bs:=[qbl_b3]) (by kernel_rfl) ⟨.inr ⟨_,by kernel_rfl,zaak.of_round (qbl_ok3)⟩,trivial⟩) (zaaa _) (by kernel_rfl)
def ms92:List (FuncId×Mode U):=(54,qbl_md)::ms91
theorem known92:Known kk env0 (zaac ms92):=known_cons (by kernel_rfl) qbl_post known91
def qbv_md:Mode U:=mdG ⟨⟨[0,1],[100000],[⟨.cell 100000 1,200001,5,(.int .u8)⟩]⟩,[.ptr 100000 0,.t .str],[.blk 106 [.selfp 100000,.oslc 200001,.t (.map (.int .i64) (.st 138))],.row 5 (.int .u8)]⟩ [⟨100000,.slot 0,[]⟩] [⟨⟨[0,1],[100000],[⟨.cell 100000 1,200001,5,(.int .u8)⟩]⟩,[.t (.int .i64),.t .err],[.blk 106 [.selfp 100000,.oslc 200001,.t (.map (.int .i64) (.st 138))],.row 5 (.int .u8)]⟩] [.str,.map (.int .i64) (.st 138),.slc (.int .u8)] [[.int .i64,.err,.map (.int .i64) (.st 138),.slc (.int .u8)]] qbv
theorem qbv_post:zaad kk env0 108 qbv_md:=
  fnG (fn:=Tryz.f108) (ko known92) (by kernel_rfl) (L:=noL) (zaab (bs:=[]) (by kernel_rfl) trivial) (zaaa _) (by kernel_rfl)
def ms93:List (FuncId×Mode U):=(108,qbv_md)::ms92
theorem known93:Known kk env0 (zaac ms93):=known_cons (by kernel_rfl) qbv_post known92
def qbo_md:Mode U:=mdG ⟨⟨[0,1,2],[100000],[⟨.cell 100000 1,200001,5,(.int .u8)⟩]⟩,[.ptr 100000 0,.t (.int .i64),.t (.slc .str)],[.blk 106 [.selfp 100000,.oslc 200001,.t (.map (.int .i64) (.st 138))],.row 5 (.int .u8)]⟩ [⟨100000,.slot 0,[]⟩] [⟨⟨[],[100000],[⟨.cell 100000 1,200001,5,(.int .u8)⟩]⟩,[],[.blk 106 [.selfp 100000,.oslc 200001,.t (.map (.int .i64) (.st 138))],.row 5 (.int .u8)]⟩] [.int .i64,.slc .str,.map (.int .i64) (.st 138),.slc (.int .u8)] [[.map (.int .i64) (.st 138),.slc (.int .u8)]] qbo
theorem qbo_post:zaad kk env0 55 qbo_md:=
  fnG (fn:=Tryz.f55) (ko known93) (by kernel_rfl) (L:=jnL) (zaab (bs:=[]) (by kernel_rfl) trivial) (zaaa _) (by kernel_rfl)
def ms94:List (FuncId×Mode U):=(55,qbo_md)::ms93
theorem known94:Known kk env0 (zaac ms94):=known_cons (by kernel_rfl) qbo_post known93
abbrev qbn_tr:Type:=curT U (sumT U [[.map (.int .i64) (.st 138),.slc (.int .u8)]]) [.st 50,.int .i64,.map (.int .i64) (.st 138),.slc (.int .u8)]
def qbn_rmd (rec_qbn:qbn_tr):Mode U:=mdG ⟨⟨[0,1,2],[100000],[⟨.cell 100000 1,200001,5,(.int .u8)⟩]⟩,[.ptr 100000 0,.t (.st 50),.t (.int .i64)],[.blk 106 [.selfp 100000,.oslc 200001,.t (.map (.int .i64) (.st 138))],.row 5 (.int .u8)]⟩ [⟨100000,.slot 0,[]⟩] [⟨⟨[],[100000],[⟨.cell 100000 1,200001,5,(.int .u8)⟩]⟩,[],[.blk 106 [.selfp 100000,.oslc 200001,.t (.map (.int .i64) (.st 138))],.row 5 (.int .u8)]⟩] [.st 50,.int .i64,.map (.int .i64) (.st 138),.slc (.int .u8)] [[.map (.int .i64) (.st 138),.slc (.int .u8)]] rec_qbn
abbrev qbn_rec (r:qbn_tr):Prop:=zaad kk env0 174 (qbn_rmd r)
def ms95 (rec_qbn:qbn_tr):List (FuncId×Mode U):=(174,(qbn_rmd rec_qbn))::ms94
theorem known95 (rec_qbn:qbn_tr) (hrec_qbn:qbn_rec rec_qbn):Known kk env0 (zaac (ms95 rec_qbn)):=known_cons (by kernel_rfl) hrec_qbn known94
def qbu_md (rec_qbn:qbn_tr):Mode U:=mdG ⟨⟨[0,1],[100000],[⟨.cell 100000 1,200001,5,(.int .u8)⟩]⟩,[.ptr 100000 0,.t (.int .u8)],[.blk 106 [.selfp 100000,.oslc 200001,.t (.map (.int .i64) (.st 138))],.row 5 (.int .u8)]⟩ [⟨100000,.slot 0,[]⟩] [⟨⟨[0],[100000],[⟨.cell 100000 1,200001,5,(.int .u8)⟩]⟩,[.t .err],[.blk 106 [.selfp 100000,.oslc 200001,.t (.map (.int .i64) (.st 138))],.row 5 (.int .u8)]⟩] [.int .u8,.map (.int .i64) (.st 138),.slc (.int .u8)] [[.err,.map (.int .i64) (.st 138),.slc (.int .u8)]] (qbu rec_qbn)
theorem qbu_post (rec_qbn:qbn_tr) (hrec_qbn:qbn_rec rec_qbn):zaad kk env0 198 (qbu_md rec_qbn):=
  fnG (fn:=Tryz.f198) (ko (known95 rec_qbn hrec_qbn)) (by kernel_rfl) (L:=noL) (zaab (bs:=[]) (by kernel_rfl) trivial) (zaaa _) (by kernel_rfl)
def ms96 (rec_qbn:qbn_tr):List (FuncId×Mode U):=(198,(qbu_md rec_qbn))::(ms95 rec_qbn)
theorem known96 (rec_qbn:qbn_tr) (hrec_qbn:qbn_rec rec_qbn):Known kk env0 (zaac (ms96 rec_qbn)):=known_cons (by kernel_rfl) (qbu_post rec_qbn hrec_qbn) (known95 rec_qbn hrec_qbn)
def qbn_L (rec_qbn:qbn_tr):Nat→Option (Lift.Loop U):=fun n=>bif Nat.beq n zaar then some zaan else bif Nat.beq n (zape+15) then some (zayv 4 5) else none
def qbn_md:Mode U:=qbn_rmd qbn
theorem qbn_step (rec_qbn:qbn_tr) (hrec_qbn:qbn_rec rec_qbn):zaap (Kit.withModes kk (zaac (ms96 rec_qbn))) env0 Tryz.f174.ntmps (qbn_L rec_qbn) (zaag Tryz.f174):=zaab (bs:=[]) (by kernel_rfl) trivial
theorem qbn_post:zaad kk env0 174 (qbn_rmd qbn):=
  recG qbn_i qbn_f (by kernel_rfl) (fun _=>by kernel_rfl) (zaaa _) fun r ih=>fnGD (fn:=Tryz.f174) (ko (known96 r ih)) (by kernel_rfl) (qbn_step r ih) rfl (by kernel_rfl) (by kernel_rfl)
def ms97:List (FuncId×Mode U):=(174,qbn_md)::ms94
theorem known97:Known kk env0 (zaac ms97):=known_cons (by kernel_rfl) qbn_post known94
def qbq_md:Mode U:=mdG ⟨⟨[0,1],[100000],[⟨.cell 100000 1,200001,5,(.int .u8)⟩]⟩,[.ptr 100000 0,.t (.st 50)],[.blk 106 [.selfp 100000,.oslc 200001,.t (.map (.int .i64) (.st 138))],.row 5 (.int .u8)]⟩ [⟨100000,.slot 0,[]⟩] [⟨⟨[0],[100000],[⟨.cell 100000 1,200001,5,(.int .u8)⟩]⟩,[.t .str],[.blk 106 [.selfp 100000,.oslc 200001,.t (.map (.int .i64) (.st 138))],.row 5 (.int .u8)]⟩] [.st 50,.map (.int .i64) (.st 138),.slc (.int .u8)] [[.str,.map (.int .i64) (.st 138),.slc (.int .u8)]] qbq
theorem qbq_post:zaad kk env0 146 qbq_md:=
  fnG (fn:=Tryz.f146) (ko known97) (by kernel_rfl) (L:=jnL) (zaab (bs:=[]) (by kernel_rfl) trivial) (zaaa _) (by kernel_rfl)
def ms98:List (FuncId×Mode U):=(146,qbq_md)::ms97
theorem known98:Known kk env0 (zaac ms98):=known_cons (by kernel_rfl) qbq_post known97
abbrev qbm_tr:Type:=curT U (sumT U [[.map (.int .i64) (.st 138),.slc (.int .u8)]]) [.slc (.st 52),.int .i64,.map (.int .i64) (.st 138),.slc (.int .u8)]
def qbm_rmd (rec_qbm:qbm_tr):Mode U:=mdG ⟨⟨[0,1,2],[100000],[⟨.cell 100000 1,200001,5,(.int .u8)⟩]⟩,[.ptr 100000 0,.t (.slc (.st 52)),.t (.int .i64)],[.blk 106 [.selfp 100000,.oslc 200001,.t (.map (.int .i64) (.st 138))],.row 5 (.int .u8)]⟩ [⟨100000,.slot 0,[]⟩] [⟨⟨[],[100000],[⟨.cell 100000 1,200001,5,(.int .u8)⟩]⟩,[],[.blk 106 [.selfp 100000,.oslc 200001,.t (.map (.int .i64) (.st 138))],.row 5 (.int .u8)]⟩] [.slc (.st 52),.int .i64,.map (.int .i64) (.st 138),.slc (.int .u8)] [[.map (.int .i64) (.st 138),.slc (.int .u8)]] rec_qbm
abbrev qbm_rec (r:qbm_tr):Prop:=zaad kk env0 57 (qbm_rmd r)
def ms99 (rec_qbm:qbm_tr):List (FuncId×Mode U):=(57,(qbm_rmd rec_qbm))::ms98
theorem known99 (rec_qbm:qbm_tr) (hrec_qbm:qbm_rec rec_qbm):Known kk env0 (zaac (ms99 rec_qbm)):=known_cons (by kernel_rfl) hrec_qbm known98
def qbp_md (rec_qbm:qbm_tr):Mode U:=mdG ⟨⟨[0,1,2],[100000],[⟨.cell 100000 1,200001,5,(.int .u8)⟩]⟩,[.ptr 100000 0,.t (.st 52),.t (.int .i64)],[.blk 106 [.selfp 100000,.oslc 200001,.t (.map (.int .i64) (.st 138))],.row 5 (.int .u8)]⟩ [⟨100000,.slot 0,[]⟩] [⟨⟨[],[100000],[⟨.cell 100000 1,200001,5,(.int .u8)⟩]⟩,[],[.blk 106 [.selfp 100000,.oslc 200001,.t (.map (.int .i64) (.st 138))],.row 5 (.int .u8)]⟩] [.st 52,.int .i64,.map (.int .i64) (.st 138),.slc (.int .u8)] [[.map (.int .i64) (.st 138),.slc (.int .u8)]] (qbp rec_qbm)
theorem qbp_post (rec_qbm:qbm_tr) (hrec_qbm:qbm_rec rec_qbm):zaad kk env0 112 (qbp_md rec_qbm):=
  fnG (fn:=Tryz.f112) (ko (known99 rec_qbm hrec_qbm)) (by kernel_rfl) (L:=jnL) (zaab (bs:=[]) (by kernel_rfl) trivial) (zaaa _) (by kernel_rfl)
def ms100 (rec_qbm:qbm_tr):List (FuncId×Mode U):=(112,(qbp_md rec_qbm))::(ms99 rec_qbm)
theorem known100 (rec_qbm:qbm_tr) (hrec_qbm:qbm_rec rec_qbm):Known kk env0 (zaac (ms100 rec_qbm)):=known_cons (by kernel_rfl) (qbp_post rec_qbm hrec_qbm) (known99 rec_qbm hrec_qbm)
def qbm_b1:Code:=(zaai (zaag Tryz.f57) 0)
def qbm_lp1 (rec_qbm:qbm_tr):Lift.Loop U:=lpG ⟨⟨[0,2,8,9,10],[100000],[⟨.cell 100000 1,200001,5,(.int .u8)⟩]⟩,[.ptr 100000 0,.t (.int .i64),.t (.slc (.st 52)),.t (.int .i64),.t (.int .i64)],[.blk 106 [.selfp 100000,.oslc 200001,.t (.map (.int .i64) (.st 138))],.row 5 (.int .u8)]⟩ [⟨.exit 0,⟨⟨[],[100000],[⟨.cell 100000 1,200001,5,(.int .u8)⟩]⟩,[],[.blk 106 [.selfp 100000,.oslc 200001,.t (.map (.int .i64) (.st 138))],.row 5 (.int .u8)]⟩⟩] [.int .i64,.slc (.st 52),.int .i64,.int .i64,.map (.int .i64) (.st 138),.slc (.int .u8)] [[.map (.int .i64) (.st 138),.slc (.int .u8)]] (qbm_l1 rec_qbm)
theorem qbm_ok1 (rec_qbm:qbm_tr) (hrec_qbm:qbm_rec rec_qbm):LoopR kk env0 Tryz.f57.ntmps qbm_b1 (qbm_lp1 rec_qbm):=
  loopG (qbm_i1 rec_qbm) (qbm_t1 rec_qbm) (ko (known100 rec_qbm hrec_qbm)) (L:=jnL) (zaab (bs:=[]) (by kernel_rfl) trivial) (by kernel_rfl) (fun _=>by kernel_rfl) (zaaa _) (fun _=>by kernel_rfl)
def qbm_L (rec_qbm:qbm_tr):Nat→Option (Lift.Loop U):=fun n=>bif Nat.beq n zaar then some zaan else bif Nat.beq n 1 then some (qbm_lp1 rec_qbm) else none
def qbm_md:Mode U:=qbm_rmd qbm
theorem qbm_step (rec_qbm:qbm_tr) (hrec_qbm:qbm_rec rec_qbm):zaap (Kit.withModes kk (zaac (ms100 rec_qbm))) env0 Tryz.f57.ntmps (qbm_L rec_qbm) (zaag Tryz.f57):=zaab (bs:=[qbm_b1]) (by kernel_rfl) ⟨.inr ⟨_,by kernel_rfl,zaak.of_round (qbm_ok1 rec_qbm hrec_qbm)⟩,trivial⟩
theorem qbm_post:zaad kk env0 57 (qbm_rmd qbm):=
  recG qbm_i qbm_f (by kernel_rfl) (fun _=>by kernel_rfl) (zaaa _) fun r ih=>fnG (fn:=Tryz.f57) (ko (known100 r ih)) (by kernel_rfl) (qbm_step r ih) rfl (by kernel_rfl)
def ms101:List (FuncId×Mode U):=(57,qbm_md)::ms98
theorem known101:Known kk env0 (zaac ms101):=known_cons (by kernel_rfl) qbm_post known98
def qbt_md:Mode U:=mdG ⟨⟨[0],[100000],[⟨.cell 100000 1,200001,5,(.int .u8)⟩]⟩,[.ptr 100000 0],[.blk 106 [.selfp 100000,.oslc 200001,.t (.map (.int .i64) (.st 138))],.row 5 (.int .u8)]⟩ [⟨100000,.slot 0,[]⟩] [⟨⟨[0],[100000],[⟨.cell 100000 1,200001,5,(.int .u8)⟩]⟩,[.t (.int .i64)],[.blk 106 [.selfp 100000,.oslc 200001,.t (.map (.int .i64) (.st 138))],.row 5 (.int .u8)]⟩] [.map (.int .i64) (.st 138),.slc (.int .u8)] [[.int .i64,.map (.int .i64) (.st 138),.slc (.int .u8)]] qbt
theorem qbt_post:zaad kk env0 58 qbt_md:=
  fnG (fn:=Tryz.f58) (ko known101) (by kernel_rfl) (L:=noL) (zaab (bs:=[]) (by kernel_rfl) trivial) (zaaa _) (by kernel_rfl)
def ms102:List (FuncId×Mode U):=(58,qbt_md)::ms101
theorem known102:Known kk env0 (zaac ms102):=known_cons (by kernel_rfl) qbt_post known101
def qbk_b8:Code:=(zaai (zaag Tryz.f24) 0)
def qbk_lp8:Lift.Loop U:=lpG ⟨⟨[1,5,33,34,35],[1,31],[⟨.cell 31 1,21551,5,(.int .u8)⟩]⟩,[.ptr 1 0,.ptr 31 0,.t (.slc (.st 62)),.t (.int .i64),.t (.int .i64)],[.blk 27 [.t (.slc (.st 62)),.t (.slc .str),.t (.slc (.st 46))],.blk 106 [.selfp 31,.oslc 21551,.t (.map (.int .i64) (.st 138))],.row 5 (.int .u8)]⟩ [⟨.exit 0,⟨⟨[1,5],[1,31],[⟨.cell 31 1,21551,5,(.int .u8)⟩]⟩,[.ptr 1 0,.ptr 31 0],[.blk 27 [.t (.slc (.st 62)),.t (.slc .str),.t (.slc (.st 46))],.blk 106 [.selfp 31,.oslc 21551,.t (.map (.int .i64) (.st 138))],.row 5 (.int .u8)]⟩⟩] [.slc (.st 62),.int .i64,.int .i64,.slc (.st 62),.slc .str,.slc (.st 46),.map (.int .i64) (.st 138),.slc (.int .u8)] [[.slc (.st 62),.slc .str,.slc (.st 46),.map (.int .i64) (.st 138),.slc (.int .u8)]] qbk_l8
theorem qbk_ok8:LoopR kk env0 Tryz.f24.ntmps qbk_b8 qbk_lp8:=
  loopG qbk_i8 qbk_t8 (ko known102) (L:=jnL) (zaab (bs:=[]) (by kernel_rfl) trivial) (by kernel_rfl) (fun _=>by kernel_rfl) (zaaa _) (fun _=>by kernel_rfl)
def qbk_b13:Code:=(zaai (zaag Tryz.f24) 1)
def qbk_lp13:Lift.Loop U:=lpG ⟨⟨[1,5,49,50,51],[1,31],[⟨.cell 31 1,21551,5,(.int .u8)⟩]⟩,[.ptr 1 0,.ptr 31 0,.t (.slc .str),.t (.int .i64),.t (.int .i64)],[.blk 27 [.t (.slc (.st 62)),.t (.slc .str),.t (.slc (.st 46))],.blk 106 [.selfp 31,.oslc 21551,.t (.map (.int .i64) (.st 138))],.row 5 (.int .u8)]⟩ [⟨.exit 2,⟨⟨[1,5],[1,31],[⟨.cell 31 1,21551,5,(.int .u8)⟩]⟩,[.ptr 1 0,.ptr 31 0],[.blk 27 [.t (.slc (.st 62)),.t (.slc .str),.t (.slc (.st 46))],.blk 106 [.selfp 31,.oslc 21551,.t (.map (.int .i64) (.st 138))],.row 5 (.int .u8)]⟩⟩] [.slc .str,.int .i64,.int .i64,.slc (.st 62),.slc .str,.slc (.st 46),.map (.int .i64) (.st 138),.slc (.int .u8)] [[.slc (.st 62),.slc .str,.slc (.st 46),.map (.int .i64) (.st 138),.slc (.int .u8)]] qbk_l13
theorem qbk_ok13:LoopR kk env0 Tryz.f24.ntmps qbk_b13 qbk_lp13:=
  loopG qbk_i13 qbk_t13 (ko known102) (L:=jnL) (zaab (bs:=[]) (by kernel_rfl) trivial) (by kernel_rfl) (fun _=>by kernel_rfl) (zaaa _) (fun _=>by kernel_rfl)
def qbk_b18:Code:=(zaai (zaag Tryz.f24) 2)
def qbk_lp18:Lift.Loop U:=lpG ⟨⟨[5,61,62,63],[31],[⟨.cell 31 1,21551,5,(.int .u8)⟩]⟩,[.ptr 31 0,.t (.slc (.st 46)),.t (.int .i64),.t (.int .i64)],[.blk 106 [.selfp 31,.oslc 21551,.t (.map (.int .i64) (.st 138))],.row 5 (.int .u8)]⟩ [⟨.exit 4,⟨⟨[5],[31],[⟨.cell 31 1,21551,5,(.int .u8)⟩]⟩,[.ptr 31 0],[.blk 106 [.selfp 31,.oslc 21551,.t (.map (.int .i64) (.st 138))],.row 5 (.int .u8)]⟩⟩] [.slc (.st 46),.int .i64,.int .i64,.map (.int .i64) (.st 138),.slc (.int .u8)] [[.map (.int .i64) (.st 138),.slc (.int .u8)]] qbk_l18
theorem qbk_ok18:LoopR kk env0 Tryz.f24.ntmps qbk_b18 qbk_lp18:=
  loopG qbk_i18 qbk_t18 (ko known102) (L:=jnL) (zaab (bs:=[]) (by kernel_rfl) trivial) (by kernel_rfl) (fun _=>by kernel_rfl) (zaaa _) (fun _=>by kernel_rfl)
def qbk_L:Nat→Option (Lift.Loop U):=fun n=>bif Nat.beq n zaar then some zaan else bif Nat.beq n 8 then some qbk_lp8 else bif Nat.beq n 13 then some qbk_lp13 else bif Nat.beq n 18 then some qbk_lp18 else none
def qbk_md:Mode U:=mdG ⟨⟨[0],[],[]⟩,[.t (.st 27)],[]⟩ [] [⟨⟨[0,1],[],[]⟩,[.t .str,.t (.int .i64)],[]⟩] [.st 27] [[.str,.int .i64]] qbk
theorem qbk_post:zaad kk env0 24 qbk_md:=
  fnG (fn:=Tryz.f24) (ko known102) (by kernel_rfl) (L:=qbk_L) (zaab (bs:=[qbk_b8,qbk_b13,qbk_b18]) (by kernel_rfl) ⟨.inr ⟨_,by kernel_rfl,zaak.of_round (qbk_ok8)⟩,.inr ⟨_,by kernel_rfl,zaak.of_round (qbk_ok13)⟩,.inr ⟨_,by kernel_rfl,zaak.of_round (qbk_ok18)⟩,trivial⟩) (zaaa _) (by kernel_rfl)
def ms103:List (FuncId×Mode U):=(24,qbk_md)::ms102
theorem known103:Known kk env0 (zaac ms103):=known_cons (by kernel_rfl) qbk_post known102
def qas_md:Mode U:=mdG ⟨⟨[],[],[]⟩,[],[]⟩ [] [⟨⟨[0],[],[]⟩,[.t .bool],[]⟩] [] [[.bool]] qas
theorem qas_post:zaad kk env0 22 qas_md:=
  fnG (fn:=Tryz.f22) (ko known103) (by kernel_rfl) (L:=jnL) (zaab (bs:=[]) (by kernel_rfl) trivial) (zaaa _) (by kernel_rfl)
def ms104:List (FuncId×Mode U):=(22,qas_md)::ms103
theorem known104:Known kk env0 (zaac ms104):=known_cons (by kernel_rfl) qas_post known103
abbrev qaN_tr:Type:=curT U (sumT U [[.int .i64,.int .i64,.str,.slc (.st 1050)]]) [.st 50]
def qaN_rmd (rec_qaN:qaN_tr):Mode U:=mdG ⟨⟨[0],[],[]⟩,[.t (.st 50)],[]⟩ [] [⟨⟨[0],[],[⟨.sub 0 3,100400,50,(.st 1050)⟩]⟩,[.agg [.t (.int .i64),.t (.int .i64),.t .str,.oslc 100400]],[.row 50 (.st 1050)]⟩] [.st 50] [[.int .i64,.int .i64,.str,.slc (.st 1050)]] rec_qaN
abbrev qaN_rec (r:qaN_tr):Prop:=zaad kk env0 95 (qaN_rmd r)
def ms105 (rec_qaN:qaN_tr):List (FuncId×Mode U):=(95,(qaN_rmd rec_qaN))::ms104
theorem known105 (rec_qaN:qaN_tr) (hrec_qaN:qaN_rec rec_qaN):Known kk env0 (zaac (ms105 rec_qaN)):=known_cons (by kernel_rfl) hrec_qaN known104
def qaN_b3:Code:=(zaai (zaag Tryz.f95) 0)
def qaN_lp3 (rec_qaN:qaN_tr):Lift.Loop U:=lpG ⟨⟨[1,2,3,4],[1,2,3],[⟨.cell 3 3,20153,50,(.st 1050)⟩]⟩,[.ptr 1 0,.ptr 2 0,.ptr 3 0,.t (.int .i64)],[.blk 50 [.t (.int .i64),.t (.int .i64),.t .str,.t (.slc (.st 50))],.blk 50 [.t (.int .i64),.t (.int .i64),.t .str,.nil],.blk 50 [.t (.int .i64),.t (.int .i64),.t .str,.oslc 20153],.row 50 (.st 1050)]⟩ [⟨.exit 0,⟨⟨[2,3],[2,3],[⟨.cell 3 3,20153,50,(.st 1050)⟩]⟩,[.ptr 2 0,.ptr 3 0],[.blk 50 [.t (.int .i64),.t (.int .i64),.t .str,.nil],.blk 50 [.t (.int .i64),.t (.int .i64),.t .str,.oslc 20153],.row 50 (.st 1050)]⟩⟩] [.int .i64,.int .i64,.int .i64,.str,.slc (.st 50),.int .i64,.int .i64,.str,.int .i64,.int .i64,.str,.slc (.st 1050)] [[.int .i64,.int .i64,.str,.int .i64,.int .i64,.str,.slc (.st 1050)]] (qaN_l3 rec_qaN)
theorem qaN_ok3 (rec_qaN:qaN_tr) (hrec_qaN:qaN_rec rec_qaN):LoopR kk env0 Tryz.f95.ntmps qaN_b3 (qaN_lp3 rec_qaN):=
  loopG (qaN_i3 rec_qaN) (qaN_t3 rec_qaN) (ko (known105 rec_qaN hrec_qaN)) (L:=jnL) (zaab (bs:=[]) (by kernel_rfl) trivial) (by kernel_rfl) (fun _=>by kernel_rfl) (zaaa _) (fun _=>by kernel_rfl)
def qaN_L (rec_qaN:qaN_tr):Nat→Option (Lift.Loop U):=fun n=>bif Nat.beq n zaar then some zaan else bif Nat.beq n 3 then some (qaN_lp3 rec_qaN) else none
def qaN_md:Mode U:=qaN_rmd qaN
theorem qaN_step (rec_qaN:qaN_tr) (hrec_qaN:qaN_rec rec_qaN):zaap (Kit.withModes kk (zaac (ms105 rec_qaN))) env0 Tryz.f95.ntmps (qaN_L rec_qaN) (zaag Tryz.f95):=zaab (bs:=[qaN_b3]) (by kernel_rfl) ⟨.inr ⟨_,by kernel_rfl,zaak.of_round (qaN_ok3 rec_qaN hrec_qaN)⟩,trivial⟩
theorem qaN_post:zaad kk env0 95 (qaN_rmd qaN):=
  recG qaN_i qaN_f (by kernel_rfl) (fun _=>by kernel_rfl) (zaaa _) fun r ih=>fnG (fn:=Tryz.f95) (ko (known105 r ih)) (by kernel_rfl) (qaN_step r ih) rfl (by kernel_rfl)
def ms106:List (FuncId×Mode U):=(95,qaN_md)::ms104
theorem known106:Known kk env0 (zaac ms106):=known_cons (by kernel_rfl) qaN_post known104
abbrev qaO_tr:Type:=curT U (sumT U [[.slc (.st 1052)]]) [.slc (.st 52)]
def qaO_rmd (rec_qaO:qaO_tr):Mode U:=mdG ⟨⟨[0],[],[]⟩,[.t (.slc (.st 52))],[]⟩ [] [⟨⟨[0],[],[⟨.slot 0,100050,52,(.st 1052)⟩]⟩,[.oslc 100050],[.row 52 (.st 1052)]⟩] [.slc (.st 52)] [[.slc (.st 1052)]] rec_qaO
abbrev qaO_rec (r:qaO_tr):Prop:=zaad kk env0 45 (qaO_rmd r)
def ms107 (rec_qaO:qaO_tr):List (FuncId×Mode U):=(45,(qaO_rmd rec_qaO))::ms106
theorem known107 (rec_qaO:qaO_tr) (hrec_qaO:qaO_rec rec_qaO):Known kk env0 (zaac (ms107 rec_qaO)):=known_cons (by kernel_rfl) hrec_qaO known106
def qaO_b3:Code:=(zaai (zaag Tryz.f45) 0)
def qaO_lp3 (rec_qaO:qaO_tr):Lift.Loop U:=lpG ⟨⟨[0,3,4],[],[⟨.slot 3,3,52,(.st 1052)⟩]⟩,[.t (.slc (.st 52)),.oslc 3,.t (.int .i64)],[.row 52 (.st 1052)]⟩ [⟨.exit 0,⟨⟨[3],[],[⟨.slot 3,3,52,(.st 1052)⟩]⟩,[.oslc 3],[.row 52 (.st 1052)]⟩⟩] [.slc (.st 52),.int .i64,.slc (.st 1052)] [[.slc (.st 1052)]] (qaO_l3 rec_qaO)
theorem qaO_ok3 (rec_qaO:qaO_tr) (hrec_qaO:qaO_rec rec_qaO):LoopR kk env0 Tryz.f45.ntmps qaO_b3 (qaO_lp3 rec_qaO):=
  loopG (qaO_i3 rec_qaO) (qaO_t3 rec_qaO) (ko (known107 rec_qaO hrec_qaO)) (L:=jnL) (zaab (bs:=[]) (by kernel_rfl) trivial) (by kernel_rfl) (fun _=>by kernel_rfl) (zaaa _) (fun _=>by kernel_rfl)
def qaO_L (rec_qaO:qaO_tr):Nat→Option (Lift.Loop U):=fun n=>bif Nat.beq n zaar then some zaan else bif Nat.beq n 3 then some (qaO_lp3 rec_qaO) else none
def qaO_md:Mode U:=qaO_rmd qaO
theorem qaO_step (rec_qaO:qaO_tr) (hrec_qaO:qaO_rec rec_qaO):zaap (Kit.withModes kk (zaac (ms107 rec_qaO))) env0 Tryz.f45.ntmps (qaO_L rec_qaO) (zaag Tryz.f45):=zaab (bs:=[qaO_b3]) (by kernel_rfl) ⟨.inr ⟨_,by kernel_rfl,zaak.of_round (qaO_ok3 rec_qaO hrec_qaO)⟩,trivial⟩
theorem qaO_post:zaad kk env0 45 (qaO_rmd qaO):=
  recG qaO_i qaO_f (by kernel_rfl) (fun _=>by kernel_rfl) (zaaa _) fun r ih=>fnG (fn:=Tryz.f45) (ko (known107 r ih)) (by kernel_rfl) (qaO_step r ih) rfl (by kernel_rfl)
def ms108:List (FuncId×Mode U):=(45,qaO_md)::ms106
theorem known108:Known kk env0 (zaac ms108):=known_cons (by kernel_rfl) qaO_post known106
def qaM_b5:Code:=(zaai (zaag Tryz.f18) 0)
def qaM_lp5:Lift.Loop U:=lpG ⟨⟨[1,2,3,4],[1,2,3],[⟨.cell 3 0,20150,62,(.st 62)⟩,⟨.cell 3 1,20151,9,.str⟩,⟨.cell 3 2,20152,46,(.st 1046)⟩]⟩,[.ptr 1 0,.ptr 2 0,.ptr 3 0,.t (.int .i64)],[.blk 27 [.t (.slc (.st 62)),.t (.slc .str),.t (.slc (.st 46))],.blk 27 [.nil,.nil,.nil],.blk 27 [.oslc 20150,.oslc 20151,.oslc 20152],.row 62 (.st 62),.row 9 .str,.row 46 (.st 1046)]⟩ [⟨.exit 0,⟨⟨[2,3],[2,3],[⟨.cell 3 0,20150,62,(.st 62)⟩,⟨.cell 3 1,20151,9,.str⟩,⟨.cell 3 2,20152,46,(.st 1046)⟩]⟩,[.ptr 2 0,.ptr 3 0],[.blk 27 [.nil,.nil,.nil],.blk 27 [.oslc 20150,.oslc 20151,.oslc 20152],.row 62 (.st 62),.row 9 .str,.row 46 (.st 1046)]⟩⟩] [.int .i64,.slc (.st 62),.slc .str,.slc (.st 46),.slc (.st 62),.slc .str,.slc (.st 1046)] [[.slc (.st 62),.slc .str,.slc (.st 1046)]] qaM_l5
theorem qaM_ok5:LoopR kk env0 Tryz.f18.ntmps qaM_b5 qaM_lp5:=
  loopG qaM_i5 qaM_t5 (ko known108) (L:=jnL) (zaab (bs:=[]) (by kernel_rfl) trivial) (by kernel_rfl) (fun _=>by kernel_rfl) (zaaa _) (fun _=>by kernel_rfl)
def qaM_L:Nat→Option (Lift.Loop U):=fun n=>bif Nat.beq n zaar then some zaan else bif Nat.beq n 5 then some qaM_lp5 else none
def qaM_md:Mode U:=mdG ⟨⟨[0],[],[]⟩,[.t (.st 27)],[]⟩ [] [⟨⟨[0],[],[⟨.sub 0 0,100100,62,(.st 62)⟩,⟨.sub 0 1,100200,9,.str⟩,⟨.sub 0 2,100300,46,(.st 1046)⟩]⟩,[.agg [.oslc 100100,.oslc 100200,.oslc 100300]],[.row 62 (.st 62),.row 9 .str,.row 46 (.st 1046)]⟩] [.st 27] [[.slc (.st 62),.slc .str,.slc (.st 1046)]] qaM
theorem qaM_post:zaad kk env0 18 qaM_md:=
  fnG (fn:=Tryz.f18) (ko known108) (by kernel_rfl) (L:=qaM_L) (zaab (bs:=[qaM_b5]) (by kernel_rfl) ⟨.inr ⟨_,by kernel_rfl,zaak.of_round (qaM_ok5)⟩,trivial⟩) (zaaa _) (by kernel_rfl)
def ms109:List (FuncId×Mode U):=(18,qaM_md)::ms108
theorem known109:Known kk env0 (zaac ms109):=known_cons (by kernel_rfl) qaM_post known108
def qaw_md:Mode U:=mdG ⟨⟨[0],[],[]⟩,[.t (.int .i64)],[]⟩ [] [⟨⟨[0],[],[]⟩,[.t .bool],[]⟩] [.int .i64] [[.bool]] qaw
theorem qaw_post:zaad kk env0 126 qaw_md:=
  fnG (fn:=Tryz.f126) (ko known109) (by kernel_rfl) (L:=noL) (zaab (bs:=[]) (by kernel_rfl) trivial) (zaaa _) (by kernel_rfl)
def ms110:List (FuncId×Mode U):=(126,qaw_md)::ms109
theorem known110:Known kk env0 (zaac ms110):=known_cons (by kernel_rfl) qaw_post known109
def qaz_md:Mode U:=mdG ⟨⟨[0],[],[]⟩,[.t (.int .i64)],[]⟩ [] [⟨⟨[0],[],[]⟩,[.t (.int .i64)],[]⟩] [.int .i64] [[.int .i64]] qaz
theorem qaz_post:zaad kk env0 160 qaz_md:=
  fnG (fn:=Tryz.f160) (ko known110) (by kernel_rfl) (L:=noL) (zaab (bs:=[]) (by kernel_rfl) trivial) (zaaa _) (by kernel_rfl)
def ms111:List (FuncId×Mode U):=(160,qaz_md)::ms110
theorem known111:Known kk env0 (zaac ms111):=known_cons (by kernel_rfl) qaz_post known110
def qat_b18:Code:=(zaai (zaag Tryz.f124) 0)
def qat_lp18:Lift.Loop U:=lpG ⟨⟨[0,1,7,8,9],[],[]⟩,[.t .str,.t (.int .i64),.t (.int .i64),.t (.int .i64),.t (.int .i64)],[]⟩ [⟨.ret,⟨⟨[4,5],[],[]⟩,[.t (.int .i64),.t (.int .i64)],[]⟩⟩,⟨.exit 1,⟨⟨[7,8],[],[]⟩,[.t (.int .i64),.t (.int .i64)],[]⟩⟩] [.str,.int .i64,.int .i64,.int .i64,.int .i64] [[.int .i64,.int .i64],[.int .i64,.int .i64]] qat_l18
theorem qat_ok18:LoopR kk env0 Tryz.f124.ntmps qat_b18 qat_lp18:=
  loopG qat_i18 qat_t18 (ko known111) (L:=noL) (zaab (bs:=[]) (by kernel_rfl) trivial) (by kernel_rfl) (fun _=>by kernel_rfl) (zaaa _) (fun _=>by kernel_rfl)
def qat_L:Nat→Option (Lift.Loop U):=fun n=>bif Nat.beq n 18 then some qat_lp18 else none
def qat_md:Mode U:=mdG ⟨⟨[0,1],[],[]⟩,[.t .str,.t (.int .i64)],[]⟩ [] [⟨⟨[0,1],[],[]⟩,[.t (.int .i64),.t (.int .i64)],[]⟩] [.str,.int .i64] [[.int .i64,.int .i64]] qat
theorem qat_post:zaad kk env0 124 qat_md:=
  fnG (fn:=Tryz.f124) (ko known111) (by kernel_rfl) (L:=qat_L) (zaab (bs:=[qat_b18]) (by kernel_rfl) ⟨.inr ⟨_,by kernel_rfl,zaak.of_round (qat_ok18)⟩,trivial⟩) (zaaa _) (by kernel_rfl)
def ms112:List (FuncId×Mode U):=(124,qat_md)::ms111
theorem known112:Known kk env0 (zaac ms112):=known_cons (by kernel_rfl) qat_post known111
def qaA_md:Mode U:=mdG ⟨⟨[0,1,2],[],[]⟩,[.t (.st 77),.t (.int .i64),.t (.int .i64)],[]⟩ [] [⟨⟨[0],[],[]⟩,[.t (.st 77)],[]⟩] [.st 77,.int .i64,.int .i64] [[.st 77]] qaA
theorem qaA_post:zaad kk env0 125 qaA_md:=
  fnG (fn:=Tryz.f125) (ko known112) (by kernel_rfl) (L:=noL) (zaab (bs:=[]) (by kernel_rfl) trivial) (zaaa _) (by kernel_rfl)
def ms113:List (FuncId×Mode U):=(125,qaA_md)::ms112
theorem known113:Known kk env0 (zaac ms113):=known_cons (by kernel_rfl) qaA_post known112
def qaB_b3:Code:=(zaai (zaag Tryz.f79) 0)
def qaB_lp3:Lift.Loop U:=lpG ⟨⟨[0,3,4,5],[3,5],[⟨.slot 4,4,77,(.st 77)⟩]⟩,[.t .str,.ptr 3 0,.oslc 4,.ptr 5 0],[.blk 77 [.t (.int .i64),.t (.int .i64),.t (.int .i64),.t (.int .i64)],.blk 77 [.t (.int .i64),.t (.int .i64),.t (.int .i64),.t (.int .i64)],.row 77 (.st 77)]⟩ [⟨.exit 0,⟨⟨[3,4,5],[3,5],[⟨.slot 4,4,77,(.st 77)⟩]⟩,[.ptr 3 0,.oslc 4,.ptr 5 0],[.blk 77 [.t (.int .i64),.t (.int .i64),.t (.int .i64),.t (.int .i64)],.blk 77 [.t (.int .i64),.t (.int .i64),.t (.int .i64),.t (.int .i64)],.row 77 (.st 77)]⟩⟩] [.str,.int .i64,.int .i64,.int .i64,.int .i64,.int .i64,.int .i64,.int .i64,.int .i64,.slc (.st 77)] [[.int .i64,.int .i64,.int .i64,.int .i64,.int .i64,.int .i64,.int .i64,.int .i64,.slc (.st 77)]] qaB_l3
theorem qaB_ok3:LoopR kk env0 Tryz.f79.ntmps qaB_b3 qaB_lp3:=
  loopG qaB_i3 qaB_t3 (ko known113) (L:=noL) (zaab (bs:=[]) (by kernel_rfl) trivial) (by kernel_rfl) (fun _=>by kernel_rfl) (zaaa _) (fun _=>by kernel_rfl)
def qaB_L:Nat→Option (Lift.Loop U):=fun n=>bif Nat.beq n 3 then some qaB_lp3 else none
def qaB_md:Mode U:=mdG ⟨⟨[0],[],[]⟩,[.t .str],[]⟩ [] [⟨⟨[0,1],[],[⟨.slot 0,100050,77,(.st 77)⟩]⟩,[.oslc 100050,.t (.st 77)],[.row 77 (.st 77)]⟩] [.str] [[.st 77,.slc (.st 77)]] qaB
theorem qaB_post:zaad kk env0 79 qaB_md:=
  fnG (fn:=Tryz.f79) (ko known113) (by kernel_rfl) (L:=qaB_L) (zaab (bs:=[qaB_b3]) (by kernel_rfl) ⟨.inr ⟨_,by kernel_rfl,zaak.of_round (qaB_ok3)⟩,trivial⟩) (zaaa _) (by kernel_rfl)
def ms114:List (FuncId×Mode U):=(79,qaB_md)::ms113
theorem known114:Known kk env0 (zaac ms114):=known_cons (by kernel_rfl) qaB_post known113
def qay_md:Mode U:=mdG ⟨⟨[0],[],[]⟩,[.t .str],[]⟩ [] [⟨⟨[0,1],[],[⟨.slot 0,100050,77,(.st 77)⟩]⟩,[.oslc 100050,.t (.st 30)],[.row 77 (.st 77)]⟩] [.str] [[.st 30,.slc (.st 77)]] qay
theorem qay_post:zaad kk env0 32 qay_md:=
  fnG (fn:=Tryz.f32) (ko known114) (by kernel_rfl) (L:=noL) (zaab (bs:=[]) (by kernel_rfl) trivial) (zaaa _) (by kernel_rfl)
def ms115:List (FuncId×Mode U):=(32,qay_md)::ms114
theorem known115:Known kk env0 (zaac ms115):=known_cons (by kernel_rfl) qay_post known114
def qau_md:Mode U:=mdG ⟨⟨[0],[],[]⟩,[.t (.int .i64)],[]⟩ [] [⟨⟨[0],[],[]⟩,[.t .bool],[]⟩] [.int .i64] [[.bool]] qau
theorem qau_post:zaad kk env0 33 qau_md:=
  fnG (fn:=Tryz.f33) (ko known115) (by kernel_rfl) (L:=noL) (zaab (bs:=[]) (by kernel_rfl) trivial) (zaaa _) (by kernel_rfl)
def ms116:List (FuncId×Mode U):=(33,qau_md)::ms115
theorem known116:Known kk env0 (zaac ms116):=known_cons (by kernel_rfl) qau_post known115
def qax_md:Mode U:=mdG ⟨⟨[0],[],[]⟩,[.t (.int .i64)],[]⟩ [] [⟨⟨[0],[],[]⟩,[.t .bool],[]⟩] [.int .i64] [[.bool]] qax
theorem qax_post:zaad kk env0 80 qax_md:=
  fnG (fn:=Tryz.f80) (ko known116) (by kernel_rfl) (L:=noL) (zaab (bs:=[]) (by kernel_rfl) trivial) (zaaa _) (by kernel_rfl)
def ms117:List (FuncId×Mode U):=(80,qax_md)::ms116
theorem known117:Known kk env0 (zaac ms117):=known_cons (by kernel_rfl) qax_post known116
def qav_md:Mode U:=mdG ⟨⟨[0],[],[]⟩,[.t (.int .i64)],[]⟩ [] [⟨⟨[0],[],[]⟩,[.t .bool],[]⟩] [.int .i64] [[.bool]] qav
theorem qav_post:zaad kk env0 81 qav_md:=
  fnG (fn:=Tryz.f81) (ko known117) (by kernel_rfl) (L:=noL) (zaab (bs:=[]) (by kernel_rfl) trivial) (zaaa _) (by kernel_rfl)
def ms118:List (FuncId×Mode U):=(81,qav_md)::ms117
theorem known118:Known kk env0 (zaac ms118):=known_cons (by kernel_rfl) qav_post known117
def qaI_b2:Code:=(zaai (zaag Tryz.f82) 0)
def qaI_lp2:Lift.Loop U:=lpG ⟨⟨[0,5],[],[]⟩,[.t (.slc (.st 77)),.t (.int .i64)],[]⟩ [⟨.exit 0,⟨⟨[5],[],[]⟩,[.t (.int .i64)],[]⟩⟩] [.slc (.st 77),.int .i64] [[.int .i64]] qaI_l2
theorem qaI_ok2:LoopR kk env0 Tryz.f82.ntmps qaI_b2 qaI_lp2:=
  loopG qaI_i2 qaI_t2 (ko known118) (L:=noL) (zaab (bs:=[]) (by kernel_rfl) trivial) (by kernel_rfl) (fun _=>by kernel_rfl) (zaaa _) (fun _=>by kernel_rfl)
def qaI_L:Nat→Option (Lift.Loop U):=fun n=>bif Nat.beq n 2 then some qaI_lp2 else none
def qaI_md:Mode U:=mdG ⟨⟨[0,1],[],[]⟩,[.t (.slc (.st 77)),.t (.int .i64)],[]⟩ [] [⟨⟨[0],[],[]⟩,[.t (.int .i64)],[]⟩] [.slc (.st 77),.int .i64] [[.int .i64]] qaI
theorem qaI_post:zaad kk env0 82 qaI_md:=
  fnG (fn:=Tryz.f82) (ko known118) (by kernel_rfl) (L:=qaI_L) (zaab (bs:=[qaI_b2]) (by kernel_rfl) ⟨.inr ⟨_,by kernel_rfl,zaak.of_round (qaI_ok2)⟩,trivial⟩) (zaaa _) (by kernel_rfl)
def ms119:List (FuncId×Mode U):=(82,qaI_md)::ms118
theorem known119:Known kk env0 (zaac ms119):=known_cons (by kernel_rfl) qaI_post known118
def qaH_md:Mode U:=mdG ⟨⟨[0,1,2,3],[],[]⟩,[.t (.slc (.st 77)),.t .str,.t (.int .i64),.t (.int .i64)],[]⟩ [] [⟨⟨[0],[],[]⟩,[.t .str],[]⟩] [.slc (.st 77),.str,.int .i64,.int .i64] [[.str]] qaH
theorem qaH_post:zaad kk env0 83 qaH_md:=
  fnG (fn:=Tryz.f83) (ko known119) (by kernel_rfl) (L:=noL) (zaab (bs:=[]) (by kernel_rfl) trivial) (zaaa _) (by kernel_rfl)
def ms120:List (FuncId×Mode U):=(83,qaH_md)::ms119
theorem known120:Known kk env0 (zaac ms120):=known_cons (by kernel_rfl) qaH_post known119
def qaF_md:Mode U:=mdG ⟨⟨[],[],[]⟩,[],[]⟩ [] [⟨⟨[0],[],[⟨.slot 0,100050,9,.str⟩]⟩,[.oslc 100050],[.row 9 .str]⟩] [] [[.slc .str]] qaF
theorem qaF_post:zaad kk env0 85 qaF_md:=
  fnG (fn:=Tryz.f85) (ko known120) (by kernel_rfl) (L:=noL) (zaab (bs:=[]) (by kernel_rfl) trivial) (zaaa _) (by kernel_rfl)
def ms121:List (FuncId×Mode U):=(85,qaF_md)::ms120
theorem known121:Known kk env0 (zaac ms121):=known_cons (by kernel_rfl) qaF_post known120
def qaC_b2:Code:=(zaai (zaag Tryz.f84) 0)
def qaC_lp2:Lift.Loop U:=lpG ⟨⟨[0,1,5],[],[]⟩,[.t (.slc .str),.t .str,.t (.int .i64)],[]⟩ [⟨.ret,⟨⟨[4],[],[]⟩,[.t .bool],[]⟩⟩,⟨.exit 0,⟨⟨[],[],[]⟩,[],[]⟩⟩] [.slc .str,.str,.int .i64] [[.bool],[]] qaC_l2
theorem qaC_ok2:LoopR kk env0 Tryz.f84.ntmps qaC_b2 qaC_lp2:=
  loopG qaC_i2 qaC_t2 (ko known121) (L:=noL) (zaab (bs:=[]) (by kernel_rfl) trivial) (by kernel_rfl) (fun _=>by kernel_rfl) (zaaa _) (fun _=>by kernel_rfl)
def qaC_L:Nat→Option (Lift.Loop U):=fun n=>bif Nat.beq n 2 then some qaC_lp2 else none
def qaC_md:Mode U:=mdG ⟨⟨[0,1],[],[]⟩,[.t (.slc .str),.t .str],[]⟩ [] [⟨⟨[0],[],[]⟩,[.t .bool],[]⟩] [.slc .str,.str] [[.bool]] qaC
theorem qaC_post:zaad kk env0 84 qaC_md:=
  fnG (fn:=Tryz.f84) (ko known121) (by kernel_rfl) (L:=qaC_L) (zaab (bs:=[qaC_b2]) (by kernel_rfl) ⟨.inr ⟨_,by kernel_rfl,zaak.of_round (qaC_ok2)⟩,trivial⟩) (zaaa _) (by kernel_rfl)
def ms122:List (FuncId×Mode U):=(84,qaC_md)::ms121
theorem known122:Known kk env0 (zaac ms122):=known_cons (by kernel_rfl) qaC_post known121
def qaG_b5:Code:=(zaai (zaag Tryz.f86) 0)
def qaG_lp5:Lift.Loop U:=lpG ⟨⟨[0,4,5],[],[]⟩,[.t .str,.t (.int .i64),.t (.int .i64)],[]⟩ [⟨.ret,⟨⟨[2,3],[],[]⟩,[.t (.int .i64),.t .bool],[]⟩⟩,⟨.exit 0,⟨⟨[4],[],[]⟩,[.t (.int .i64)],[]⟩⟩] [.str,.int .i64,.int .i64] [[.int .i64,.bool],[.int .i64]] qaG_l5
theorem qaG_ok5:LoopR kk env0 Tryz.f86.ntmps qaG_b5 qaG_lp5:=
  loopG qaG_i5 qaG_t5 (ko known122) (L:=noL) (zaab (bs:=[]) (by kernel_rfl) trivial) (by kernel_rfl) (fun _=>by kernel_rfl) (zaaa _) (fun _=>by kernel_rfl)
def qaG_L:Nat→Option (Lift.Loop U):=fun n=>bif Nat.beq n 5 then some qaG_lp5 else none
def qaG_md:Mode U:=mdG ⟨⟨[0],[],[]⟩,[.t .str],[]⟩ [] [⟨⟨[0,1],[],[]⟩,[.t (.int .i64),.t .bool],[]⟩] [.str] [[.int .i64,.bool]] qaG
theorem qaG_post:zaad kk env0 86 qaG_md:=
  fnG (fn:=Tryz.f86) (ko known122) (by kernel_rfl) (L:=qaG_L) (zaab (bs:=[qaG_b5]) (by kernel_rfl) ⟨.inr ⟨_,by kernel_rfl,zaak.of_round (qaG_ok5)⟩,trivial⟩) (zaaa _) (by kernel_rfl)
def ms123:List (FuncId×Mode U):=(86,qaG_md)::ms122
theorem known123:Known kk env0 (zaac ms123):=known_cons (by kernel_rfl) qaG_post known122
def qaK_md:Mode U:=mdG ⟨⟨[],[],[]⟩,[],[]⟩ [] [⟨⟨[0],[],[⟨.slot 0,100050,9,.str⟩]⟩,[.oslc 100050],[.row 9 .str]⟩] [] [[.slc .str]] qaK
theorem qaK_post:zaad kk env0 127 qaK_md:=
  fnG (fn:=Tryz.f127) (ko known123) (by kernel_rfl) (L:=noL) (zaab (bs:=[]) (by kernel_rfl) trivial) (zaaa _) (by kernel_rfl)
def ms124:List (FuncId×Mode U):=(127,qaK_md)::ms123
theorem known124:Known kk env0 (zaac ms124):=known_cons (by kernel_rfl) qaK_post known123
def qaJ_b3:Code:=(zaai (zaag Tryz.f87) 0)
def qaJ_lp3:Lift.Loop U:=lpG ⟨⟨[0,1,5,6],[],[⟨.slot 5,5,9,.str⟩]⟩,[.t .str,.t (.int .i64),.oslc 5,.t (.int .i64)],[.row 9 .str]⟩ [⟨.ret,⟨⟨[4],[],[]⟩,[.t .str],[]⟩⟩,⟨.exit 0,⟨⟨[],[],[]⟩,[],[]⟩⟩] [.str,.int .i64,.int .i64,.slc .str] [[.str],[]] qaJ_l3
theorem qaJ_ok3:LoopR kk env0 Tryz.f87.ntmps qaJ_b3 qaJ_lp3:=
  loopG qaJ_i3 qaJ_t3 (ko known124) (L:=noL) (zaab (bs:=[]) (by kernel_rfl) trivial) (by kernel_rfl) (fun _=>by kernel_rfl) (zaaa _) (fun _=>by kernel_rfl)
def qaJ_L:Nat→Option (Lift.Loop U):=fun n=>bif Nat.beq n 3 then some qaJ_lp3 else none
def qaJ_md:Mode U:=mdG ⟨⟨[0,1],[],[]⟩,[.t .str,.t (.int .i64)],[]⟩ [] [⟨⟨[0],[],[]⟩,[.t .str],[]⟩] [.str,.int .i64] [[.str]] qaJ
theorem qaJ_post:zaad kk env0 87 qaJ_md:=
  fnG (fn:=Tryz.f87) (ko known124) (by kernel_rfl) (L:=qaJ_L) (zaab (bs:=[qaJ_b3]) (by kernel_rfl) ⟨.inr ⟨_,by kernel_rfl,zaak.of_round (qaJ_ok3)⟩,trivial⟩) (zaaa _) (by kernel_rfl)
def ms125:List (FuncId×Mode U):=(87,qaJ_md)::ms124
theorem known125:Known kk env0 (zaac ms125):=known_cons (by kernel_rfl) qaJ_post known124
def qaL_md:Mode U:=mdG ⟨⟨[0,1,2],[],[]⟩,[.t (.slc (.st 77)),.t .str,.t (.int .i64)],[]⟩ [] [⟨⟨[0,1,2],[],[]⟩,[.t (.st 37),.t (.int .i64),.t (.int .i64)],[]⟩] [.slc (.st 77),.str,.int .i64] [[.st 37,.int .i64,.int .i64]] qaL
theorem qaL_post:zaad kk env0 34 qaL_md:=
  fnG (fn:=Tryz.f34) (ko known125) (by kernel_rfl) (L:=noL) (zaab (bs:=[]) (by kernel_rfl) trivial) (zaaa _) (by kernel_rfl)
def ms126:List (FuncId×Mode U):=(34,qaL_md)::ms125
theorem known126:Known kk env0 (zaac ms126):=known_cons (by kernel_rfl) qaL_post known125
def qaE_b11:Code:=(zaai (zaai (zaag Tryz.f14) 0) 0)
def qaE_lp11:Lift.Loop U:=lpG ⟨⟨[0,3,4,6,7],[3],[⟨.slot 6,6,37,(.st 37)⟩]⟩,[.t .str,.ptr 3 0,.t (.slc (.st 77)),.oslc 6,.t (.int .i64)],[.blk 30 [.t (.int .i64),.t (.int .i64),.t .str],.row 37 (.st 37)]⟩ [⟨.exit 2,⟨⟨[0,3,4,6,7],[3],[⟨.slot 6,6,37,(.st 37)⟩]⟩,[.t .str,.ptr 3 0,.t (.slc (.st 77)),.oslc 6,.t (.int .i64)],[.blk 30 [.t (.int .i64),.t (.int .i64),.t .str],.row 37 (.st 37)]⟩⟩] [.str,.slc (.st 77),.int .i64,.int .i64,.int .i64,.str,.slc (.st 37)] [[.str,.slc (.st 77),.int .i64,.int .i64,.int .i64,.str,.slc (.st 37)]] qaE_l11
theorem qaE_ok11:LoopR kk env0 Tryz.f14.ntmps qaE_b11 qaE_lp11:=
  loopG qaE_i11 qaE_t11 (ko known126) (L:=noL) (zaab (bs:=[]) (by kernel_rfl) trivial) (by kernel_rfl) (fun _=>by kernel_rfl) (zaaa _) (fun _=>by kernel_rfl)
def qaE_b6:Code:=(zaai (zaag Tryz.f14) 0)
def qaE_L6:Nat→Option (Lift.Loop U):=fun n=>bif Nat.beq n 11 then some qaE_lp11 else none
def qaE_lp6:Lift.Loop U:=lpG ⟨⟨[0,3,4,6,7],[3],[⟨.slot 6,6,37,(.st 37)⟩]⟩,[.t .str,.ptr 3 0,.t (.slc (.st 77)),.oslc 6,.t (.int .i64)],[.blk 30 [.t (.int .i64),.t (.int .i64),.t .str],.row 37 (.st 37)]⟩ [⟨.ret,⟨⟨[2,3],[3],[]⟩,[.nil,.ptr 3 0],[.blk 30 [.t (.int .i64),.t (.int .i64),.t .str]]⟩⟩,⟨.exit 0,⟨⟨[0,3,6],[3],[⟨.slot 6,6,37,(.st 37)⟩]⟩,[.t .str,.ptr 3 0,.oslc 6],[.blk 30 [.t (.int .i64),.t (.int .i64),.t .str],.row 37 (.st 37)]⟩⟩] [.str,.slc (.st 77),.int .i64,.int .i64,.int .i64,.str,.slc (.st 37)] [[.int .i64,.int .i64,.str],[.str,.int .i64,.int .i64,.str,.slc (.st 37)]] qaE_l6
theorem qaE_ok6:LoopR kk env0 Tryz.f14.ntmps qaE_b6 qaE_lp6:=
  loopG qaE_i6 qaE_t6 (ko known126) (L:=qaE_L6) (zaab (bs:=[qaE_b11]) (by kernel_rfl) ⟨.inr ⟨_,by kernel_rfl,zaak.of_round (qaE_ok11)⟩,trivial⟩) (by kernel_rfl) (fun _=>by kernel_rfl) (zaaa _) (fun _=>by kernel_rfl)
def qaE_L:Nat→Option (Lift.Loop U):=fun n=>bif Nat.beq n 6 then some qaE_lp6 else none
def qaE_md:Mode U:=mdG ⟨⟨[0],[],[]⟩,[.t .str],[]⟩ [] [⟨⟨[0,1],[],[⟨.slot 0,100050,37,(.st 37)⟩]⟩,[.oslc 100050,.t (.st 30)],[.row 37 (.st 37)]⟩] [.str] [[.st 30,.slc (.st 37)]] qaE
theorem qaE_post:zaad kk env0 14 qaE_md:=
  fnG (fn:=Tryz.f14) (ko known126) (by kernel_rfl) (L:=qaE_L) (zaab (bs:=[qaE_b6]) (by kernel_rfl) ⟨.inr ⟨_,by kernel_rfl,zaak.of_round (qaE_ok6)⟩,trivial⟩) (zaaa _) (by kernel_rfl)
def ms127:List (FuncId×Mode U):=(14,qaE_md)::ms126
theorem known127:Known kk env0 (zaac ms127):=known_cons (by kernel_rfl) qaE_post known126
def qaD_md:Mode U:=mdG ⟨⟨[0],[],[]⟩,[.t .str],[]⟩ [] [⟨⟨[0],[],[]⟩,[.t .bool],[]⟩] [.str] [[.bool]] qaD
theorem qaD_post:zaad kk env0 137 qaD_md:=
  fnG (fn:=Tryz.f137) (ko known127) (by kernel_rfl) (L:=noL) (zaab (bs:=[]) (by kernel_rfl) trivial) (zaaa _) (by kernel_rfl)
def ms128:List (FuncId×Mode U):=(137,qaD_md)::ms127
theorem known128:Known kk env0 (zaac ms128):=known_cons (by kernel_rfl) qaD_post known127
def qaU_md:Mode U:=mdG ⟨⟨[0],[],[]⟩,[.t (.int .i64)],[]⟩ [] [⟨⟨[0,1,2,3,4,5],[],[]⟩,[.t .bool,.t .bool,.t .bool,.t .bool,.t .bool,.t .bool],[]⟩] [.int .i64] [[.bool,.bool,.bool,.bool,.bool,.bool]] qaU
theorem qaU_post:zaad kk env0 189 qaU_md:=
  fnG (fn:=Tryz.f189) (ko known128) (by kernel_rfl) (L:=jnL) (zaab (bs:=[]) (by kernel_rfl) trivial) (zaaa _) (by kernel_rfl)
def ms129:List (FuncId×Mode U):=(189,qaU_md)::ms128
theorem known129:Known kk env0 (zaac ms129):=known_cons (by kernel_rfl) qaU_post known128
abbrev qaT_tr:Type:=curT U (sumT U [[.bool]]) [.st 50]
def qaT_rmd (rec_qaT:qaT_tr):Mode U:=mdG ⟨⟨[0],[],[]⟩,[.t (.st 50)],[]⟩ [] [⟨⟨[0],[],[]⟩,[.t .bool],[]⟩] [.st 50] [[.bool]] rec_qaT
abbrev qaT_rec (r:qaT_tr):Prop:=zaad kk env0 190 (qaT_rmd r)
def ms130 (rec_qaT:qaT_tr):List (FuncId×Mode U):=(190,(qaT_rmd rec_qaT))::ms129
theorem known130 (rec_qaT:qaT_tr) (hrec_qaT:qaT_rec rec_qaT):Known kk env0 (zaac (ms130 rec_qaT)):=known_cons (by kernel_rfl) hrec_qaT known129
def qaT_b14:Code:=(zaai (zaag Tryz.f190) 0)
def qaT_lp14 (rec_qaT:qaT_tr):Lift.Loop U:=lpG ⟨⟨[1,5],[1],[]⟩,[.ptr 1 0,.t (.int .i64)],[.blk 50 [.t (.int .i64),.t (.int .i64),.t .str,.t (.slc (.st 50))]]⟩ [⟨.ret,⟨⟨[2],[],[]⟩,[.t .bool],[]⟩⟩,⟨.exit 1,⟨⟨[],[],[]⟩,[],[]⟩⟩] [.int .i64,.int .i64,.int .i64,.str,.slc (.st 50)] [[.bool],[]] (qaT_l14 rec_qaT)
theorem qaT_ok14 (rec_qaT:qaT_tr) (hrec_qaT:qaT_rec rec_qaT):LoopR kk env0 Tryz.f190.ntmps qaT_b14 (qaT_lp14 rec_qaT):=
  loopG (qaT_i14 rec_qaT) (qaT_t14 rec_qaT) (ko (known130 rec_qaT hrec_qaT)) (L:=jnL) (zaab (bs:=[]) (by kernel_rfl) trivial) (by kernel_rfl) (fun _=>by kernel_rfl) (zaaa _) (fun _=>by kernel_rfl)
def qaT_L (rec_qaT:qaT_tr):Nat→Option (Lift.Loop U):=fun n=>bif Nat.beq n zaar then some zaan else bif Nat.beq n 14 then some (qaT_lp14 rec_qaT) else none
def qaT_md:Mode U:=qaT_rmd qaT
theorem qaT_step (rec_qaT:qaT_tr) (hrec_qaT:qaT_rec rec_qaT):zaap (Kit.withModes kk (zaac (ms130 rec_qaT))) env0 Tryz.f190.ntmps (qaT_L rec_qaT) (zaag Tryz.f190):=zaab (bs:=[qaT_b14]) (by kernel_rfl) ⟨.inr ⟨_,by kernel_rfl,zaak.of_round (qaT_ok14 rec_qaT hrec_qaT)⟩,trivial⟩
theorem qaT_post:zaad kk env0 190 (qaT_rmd qaT):=
  recG qaT_i qaT_f (by kernel_rfl) (fun _=>by kernel_rfl) (zaaa _) fun r ih=>fnG (fn:=Tryz.f190) (ko (known130 r ih)) (by kernel_rfl) (qaT_step r ih) rfl (by kernel_rfl)
def ms131:List (FuncId×Mode U):=(190,qaT_md)::ms129
theorem known131:Known kk env0 (zaac ms131):=known_cons (by kernel_rfl) qaT_post known129
def qaV_md:Mode U:=mdG ⟨⟨[0],[],[]⟩,[.t (.st 50)],[]⟩ [] [⟨⟨[0],[],[]⟩,[.t .bool],[]⟩] [.st 50] [[.bool]] qaV
theorem qaV_post:zaad kk env0 191 qaV_md:=
  fnG (fn:=Tryz.f191) (ko known131) (by kernel_rfl) (L:=jnL) (zaab (bs:=[]) (by kernel_rfl) trivial) (zaaa _) (by kernel_rfl)
def ms132:List (FuncId×Mode U):=(191,qaV_md)::ms131
theorem known132:Known kk env0 (zaac ms132):=known_cons (by kernel_rfl) qaV_post known131
abbrev qa4_tr:Type:=curT U (sumT U [[.bool]]) [.slc (.st 52)]
def qa4_rmd (rec_qa4:qa4_tr):Mode U:=mdG ⟨⟨[0],[],[]⟩,[.t (.slc (.st 52))],[]⟩ [] [⟨⟨[0],[],[]⟩,[.t .bool],[]⟩] [.slc (.st 52)] [[.bool]] rec_qa4
abbrev qa4_rec (r:qa4_tr):Prop:=zaad kk env0 138 (qa4_rmd r)
def ms133 (rec_qa4:qa4_tr):List (FuncId×Mode U):=(138,(qa4_rmd rec_qa4))::ms132
theorem known133 (rec_qa4:qa4_tr) (hrec_qa4:qa4_rec rec_qa4):Known kk env0 (zaac (ms133 rec_qa4)):=known_cons (by kernel_rfl) hrec_qa4 known132
def qa3_md (rec_qa4:qa4_tr):Mode U:=mdG ⟨⟨[0],[],[]⟩,[.t (.st 52)],[]⟩ [] [⟨⟨[0],[],[]⟩,[.t .bool],[]⟩] [.st 52] [[.bool]] (qa3 rec_qa4)
theorem qa3_post (rec_qa4:qa4_tr) (hrec_qa4:qa4_rec rec_qa4):zaad kk env0 164 (qa3_md rec_qa4):=
  fnG (fn:=Tryz.f164) (ko (known133 rec_qa4 hrec_qa4)) (by kernel_rfl) (L:=jnL) (zaab (bs:=[]) (by kernel_rfl) trivial) (zaaa _) (by kernel_rfl)
def ms134 (rec_qa4:qa4_tr):List (FuncId×Mode U):=(164,(qa3_md rec_qa4))::(ms133 rec_qa4)
theorem known134 (rec_qa4:qa4_tr) (hrec_qa4:qa4_rec rec_qa4):Known kk env0 (zaac (ms134 rec_qa4)):=known_cons (by kernel_rfl) (qa3_post rec_qa4 hrec_qa4) (known133 rec_qa4 hrec_qa4)
def qa4_b2:Code:=(zaai (zaag Tryz.f138) 0)
def qa4_lp2 (rec_qa4:qa4_tr):Lift.Loop U:=lpG ⟨⟨[0,3],[],[]⟩,[.t (.slc (.st 52)),.t (.int .i64)],[]⟩ [⟨.ret,⟨⟨[2],[],[]⟩,[.t .bool],[]⟩⟩,⟨.exit 0,⟨⟨[],[],[]⟩,[],[]⟩⟩] [.slc (.st 52),.int .i64] [[.bool],[]] (qa4_l2 rec_qa4)
theorem qa4_ok2 (rec_qa4:qa4_tr) (hrec_qa4:qa4_rec rec_qa4):LoopR kk env0 Tryz.f138.ntmps qa4_b2 (qa4_lp2 rec_qa4):=
  loopG (qa4_i2 rec_qa4) (qa4_t2 rec_qa4) (ko (known134 rec_qa4 hrec_qa4)) (L:=jnL) (zaab (bs:=[]) (by kernel_rfl) trivial) (by kernel_rfl) (fun _=>by kernel_rfl) (zaaa _) (fun _=>by kernel_rfl)
def qa4_L (rec_qa4:qa4_tr):Nat→Option (Lift.Loop U):=fun n=>bif Nat.beq n zaar then some zaan else bif Nat.beq n 2 then some (qa4_lp2 rec_qa4) else none
def qa4_md:Mode U:=qa4_rmd qa4
theorem qa4_step (rec_qa4:qa4_tr) (hrec_qa4:qa4_rec rec_qa4):zaap (Kit.withModes kk (zaac (ms134 rec_qa4))) env0 Tryz.f138.ntmps (qa4_L rec_qa4) (zaag Tryz.f138):=zaab (bs:=[qa4_b2]) (by kernel_rfl) ⟨.inr ⟨_,by kernel_rfl,zaak.of_round (qa4_ok2 rec_qa4 hrec_qa4)⟩,trivial⟩
theorem qa4_post:zaad kk env0 138 (qa4_rmd qa4):=
  recG qa4_i qa4_f (by kernel_rfl) (fun _=>by kernel_rfl) (zaaa _) fun r ih=>fnG (fn:=Tryz.f138) (ko (known134 r ih)) (by kernel_rfl) (qa4_step r ih) rfl (by kernel_rfl)
def ms135:List (FuncId×Mode U):=(138,qa4_md)::ms132
theorem known135:Known kk env0 (zaac ms135):=known_cons (by kernel_rfl) qa4_post known132
def qa1_b2:Code:=(zaai (zaag Tryz.f104) 0)
def qa1_lp2:Lift.Loop U:=lpG ⟨⟨[1,3],[1],[]⟩,[.ptr 1 0,.t (.int .i64)],[.blk 27 [.t (.slc (.st 62)),.t (.slc .str),.t (.slc (.st 46))]]⟩ [⟨.ret,⟨⟨[2],[],[]⟩,[.t .bool],[]⟩⟩,⟨.exit 0,⟨⟨[1],[1],[]⟩,[.ptr 1 0],[.blk 27 [.t (.slc (.st 62)),.t (.slc .str),.t (.slc (.st 46))]]⟩⟩] [.int .i64,.slc (.st 62),.slc .str,.slc (.st 46)] [[.bool],[.slc (.st 62),.slc .str,.slc (.st 46)]] qa1_l2
theorem qa1_ok2:LoopR kk env0 Tryz.f104.ntmps qa1_b2 qa1_lp2:=
  loopG qa1_i2 qa1_t2 (ko known135) (L:=jnL) (zaab (bs:=[]) (by kernel_rfl) trivial) (by kernel_rfl) (fun _=>by kernel_rfl) (zaaa _) (fun _=>by kernel_rfl)
def qa1_b8:Code:=(zaai (zaag Tryz.f104) 1)
def qa1_lp8:Lift.Loop U:=lpG ⟨⟨[1,5],[1],[]⟩,[.ptr 1 0,.t (.int .i64)],[.blk 27 [.t (.slc (.st 62)),.t (.slc .str),.t (.slc (.st 46))]]⟩ [⟨.ret,⟨⟨[2],[],[]⟩,[.t .bool],[]⟩⟩,⟨.exit 2,⟨⟨[1],[1],[]⟩,[.ptr 1 0],[.blk 27 [.t (.slc (.st 62)),.t (.slc .str),.t (.slc (.st 46))]]⟩⟩] [.int .i64,.slc (.st 62),.slc .str,.slc (.st 46)] [[.bool],[.slc (.st 62),.slc .str,.slc (.st 46)]] qa1_l8
theorem qa1_ok8:LoopR kk env0 Tryz.f104.ntmps qa1_b8 qa1_lp8:=
  loopG qa1_i8 qa1_t8 (ko known135) (L:=jnL) (zaab (bs:=[]) (by kernel_rfl) trivial) (by kernel_rfl) (fun _=>by kernel_rfl) (zaaa _) (fun _=>by kernel_rfl)
def qa1_b14:Code:=(zaai (zaag Tryz.f104) 2)
def qa1_lp14:Lift.Loop U:=lpG ⟨⟨[1,7],[1],[]⟩,[.ptr 1 0,.t (.int .i64)],[.blk 27 [.t (.slc (.st 62)),.t (.slc .str),.t (.slc (.st 46))]]⟩ [⟨.ret,⟨⟨[2],[],[]⟩,[.t .bool],[]⟩⟩,⟨.exit 4,⟨⟨[],[],[]⟩,[],[]⟩⟩] [.int .i64,.slc (.st 62),.slc .str,.slc (.st 46)] [[.bool],[]] qa1_l14
theorem qa1_ok14:LoopR kk env0 Tryz.f104.ntmps qa1_b14 qa1_lp14:=
  loopG qa1_i14 qa1_t14 (ko known135) (L:=jnL) (zaab (bs:=[]) (by kernel_rfl) trivial) (by kernel_rfl) (fun _=>by kernel_rfl) (zaaa _) (fun _=>by kernel_rfl)
def qa1_L:Nat→Option (Lift.Loop U):=fun n=>bif Nat.beq n zaar then some zaan else bif Nat.beq n 2 then some qa1_lp2 else bif Nat.beq n 8 then some qa1_lp8 else bif Nat.beq n 14 then some qa1_lp14 else none
def qa1_md:Mode U:=mdG ⟨⟨[0],[],[]⟩,[.t (.st 27)],[]⟩ [] [⟨⟨[0],[],[]⟩,[.t .bool],[]⟩] [.st 27] [[.bool]] qa1
theorem qa1_post:zaad kk env0 104 qa1_md:=
  fnG (fn:=Tryz.f104) (ko known135) (by kernel_rfl) (L:=qa1_L) (zaab (bs:=[qa1_b2,qa1_b8,qa1_b14]) (by kernel_rfl) ⟨.inr ⟨_,by kernel_rfl,zaak.of_round (qa1_ok2)⟩,.inr ⟨_,by kernel_rfl,zaak.of_round (qa1_ok8)⟩,.inr ⟨_,by kernel_rfl,zaak.of_round (qa1_ok14)⟩,trivial⟩) (zaaa _) (by kernel_rfl)
def ms136:List (FuncId×Mode U):=(104,qa1_md)::ms135
theorem known136:Known kk env0 (zaac ms136):=known_cons (by kernel_rfl) qa1_post known135
def qa5_md:Mode U:=mdG ⟨⟨[0],[],[]⟩,[.t (.st 50)],[]⟩ [] [⟨⟨[0],[],[]⟩,[.t .bool],[]⟩] [.st 50] [[.bool]] qa5
theorem qa5_post:zaad kk env0 134 qa5_md:=
  fnG (fn:=Tryz.f134) (ko known136) (by kernel_rfl) (L:=jnL) (zaab (bs:=[]) (by kernel_rfl) trivial) (zaaa _) (by kernel_rfl)
def ms137:List (FuncId×Mode U):=(134,qa5_md)::ms136
theorem known137:Known kk env0 (zaac ms137):=known_cons (by kernel_rfl) qa5_post known136
abbrev qaS_tr:Type:=curT U (sumT U [[.int .i64]]) [.st 50]
def qaS_rmd (rec_qaS:qaS_tr):Mode U:=mdG ⟨⟨[0],[],[]⟩,[.t (.st 50)],[]⟩ [] [⟨⟨[0],[],[]⟩,[.t (.int .i64)],[]⟩] [.st 50] [[.int .i64]] rec_qaS
abbrev qaS_rec (r:qaS_tr):Prop:=zaad kk env0 135 (qaS_rmd r)
def ms138 (rec_qaS:qaS_tr):List (FuncId×Mode U):=(135,(qaS_rmd rec_qaS))::ms137
theorem known138 (rec_qaS:qaS_tr) (hrec_qaS:qaS_rec rec_qaS):Known kk env0 (zaac (ms138 rec_qaS)):=known_cons (by kernel_rfl) hrec_qaS known137
def qaS_b3:Code:=(zaai (zaag Tryz.f135) 0)
def qaS_lp3 (rec_qaS:qaS_tr):Lift.Loop U:=lpG ⟨⟨[1,3,4],[1],[]⟩,[.ptr 1 0,.t (.int .i64),.t (.int .i64)],[.blk 50 [.t (.int .i64),.t (.int .i64),.t .str,.t (.slc (.st 50))]]⟩ [⟨.exit 0,⟨⟨[3],[],[]⟩,[.t (.int .i64)],[]⟩⟩] [.int .i64,.int .i64,.int .i64,.int .i64,.str,.slc (.st 50)] [[.int .i64]] (qaS_l3 rec_qaS)
theorem qaS_ok3 (rec_qaS:qaS_tr) (hrec_qaS:qaS_rec rec_qaS):LoopR kk env0 Tryz.f135.ntmps qaS_b3 (qaS_lp3 rec_qaS):=
  loopG (qaS_i3 rec_qaS) (qaS_t3 rec_qaS) (ko (known138 rec_qaS hrec_qaS)) (L:=jnL) (zaab (bs:=[]) (by kernel_rfl) trivial) (by kernel_rfl) (fun _=>by kernel_rfl) (zaaa _) (fun _=>by kernel_rfl)
def qaS_L (rec_qaS:qaS_tr):Nat→Option (Lift.Loop U):=fun n=>bif Nat.beq n zaar then some zaan else bif Nat.beq n 3 then some (qaS_lp3 rec_qaS) else none
def qaS_md:Mode U:=qaS_rmd qaS
theorem qaS_step (rec_qaS:qaS_tr) (hrec_qaS:qaS_rec rec_qaS):zaap (Kit.withModes kk (zaac (ms138 rec_qaS))) env0 Tryz.f135.ntmps (qaS_L rec_qaS) (zaag Tryz.f135):=zaab (bs:=[qaS_b3]) (by kernel_rfl) ⟨.inr ⟨_,by kernel_rfl,zaak.of_round (qaS_ok3 rec_qaS hrec_qaS)⟩,trivial⟩
theorem qaS_post:zaad kk env0 135 (qaS_rmd qaS):=
  recG qaS_i qaS_f (by kernel_rfl) (fun _=>by kernel_rfl) (zaaa _) fun r ih=>fnG (fn:=Tryz.f135) (ko (known138 r ih)) (by kernel_rfl) (qaS_step r ih) rfl (by kernel_rfl)
def ms139:List (FuncId×Mode U):=(135,qaS_md)::ms137
theorem known139:Known kk env0 (zaac ms139):=known_cons (by kernel_rfl) qaS_post known137
abbrev qa0_tr:Type:=curT U (sumT U [[.int .i64]]) [.slc (.st 52),.int .i64]
def qa0_rmd (rec_qa0:qa0_tr):Mode U:=mdG ⟨⟨[0,1],[],[]⟩,[.t (.slc (.st 52)),.t (.int .i64)],[]⟩ [] [⟨⟨[0],[],[]⟩,[.t (.int .i64)],[]⟩] [.slc (.st 52),.int .i64] [[.int .i64]] rec_qa0
abbrev qa0_rec (r:qa0_tr):Prop:=zaad kk env0 102 (qa0_rmd r)
def ms140 (rec_qa0:qa0_tr):List (FuncId×Mode U):=(102,(qa0_rmd rec_qa0))::ms139
theorem known140 (rec_qa0:qa0_tr) (hrec_qa0:qa0_rec rec_qa0):Known kk env0 (zaac (ms140 rec_qa0)):=known_cons (by kernel_rfl) hrec_qa0 known139
def qa0_b3:Code:=(zaai (zaag Tryz.f102) 0)
def qa0_lp3 (rec_qa0:qa0_tr):Lift.Loop U:=lpG ⟨⟨[0,1,5,6],[],[]⟩,[.t (.slc (.st 52)),.t (.int .i64),.t (.int .i64),.t (.int .i64)],[]⟩ [⟨.exit 0,⟨⟨[5],[],[]⟩,[.t (.int .i64)],[]⟩⟩] [.slc (.st 52),.int .i64,.int .i64,.int .i64] [[.int .i64]] (qa0_l3 rec_qa0)
theorem qa0_ok3 (rec_qa0:qa0_tr) (hrec_qa0:qa0_rec rec_qa0):LoopR kk env0 Tryz.f102.ntmps qa0_b3 (qa0_lp3 rec_qa0):=
  loopG (qa0_i3 rec_qa0) (qa0_t3 rec_qa0) (ko (known140 rec_qa0 hrec_qa0)) (L:=jnL) (zaab (bs:=[]) (by kernel_rfl) trivial) (by kernel_rfl) (fun _=>by kernel_rfl) (zaaa _) (fun _=>by kernel_rfl)
def qa0_L (rec_qa0:qa0_tr):Nat→Option (Lift.Loop U):=fun n=>bif Nat.beq n zaar then some zaan else bif Nat.beq n 3 then some (qa0_lp3 rec_qa0) else none
def qa0_md:Mode U:=qa0_rmd qa0
theorem qa0_step (rec_qa0:qa0_tr) (hrec_qa0:qa0_rec rec_qa0):zaap (Kit.withModes kk (zaac (ms140 rec_qa0))) env0 Tryz.f102.ntmps (qa0_L rec_qa0) (zaag Tryz.f102):=zaab (bs:=[qa0_b3]) (by kernel_rfl) ⟨.inr ⟨_,by kernel_rfl,zaak.of_round (qa0_ok3 rec_qa0 hrec_qa0)⟩,trivial⟩
theorem qa0_post:zaad kk env0 102 (qa0_rmd qa0):=
  recG qa0_i qa0_f (by kernel_rfl) (fun _=>by kernel_rfl) (zaaa _) fun r ih=>fnG (fn:=Tryz.f102) (ko (known140 r ih)) (by kernel_rfl) (qa0_step r ih) rfl (by kernel_rfl)
def ms141:List (FuncId×Mode U):=(102,qa0_md)::ms139
theorem known141:Known kk env0 (zaac ms141):=known_cons (by kernel_rfl) qa0_post known139
def qaQ_b3:Code:=(zaai (zaag Tryz.f49) 0)
def qaQ_lp3:Lift.Loop U:=lpG ⟨⟨[1,3,4],[1],[]⟩,[.ptr 1 0,.t (.int .i64),.t (.int .i64)],[.blk 27 [.t (.slc (.st 62)),.t (.slc .str),.t (.slc (.st 46))]]⟩ [⟨.exit 0,⟨⟨[3],[],[]⟩,[.t (.int .i64)],[]⟩⟩] [.int .i64,.int .i64,.slc (.st 62),.slc .str,.slc (.st 46)] [[.int .i64]] qaQ_l3
theorem qaQ_ok3:LoopR kk env0 Tryz.f49.ntmps qaQ_b3 qaQ_lp3:=
  loopG qaQ_i3 qaQ_t3 (ko known141) (L:=jnL) (zaab (bs:=[]) (by kernel_rfl) trivial) (by kernel_rfl) (fun _=>by kernel_rfl) (zaaa _) (fun _=>by kernel_rfl)
def qaQ_L:Nat→Option (Lift.Loop U):=fun n=>bif Nat.beq n zaar then some zaan else bif Nat.beq n 3 then some qaQ_lp3 else none
def qaQ_md:Mode U:=mdG ⟨⟨[0],[],[]⟩,[.t (.st 27)],[]⟩ [] [⟨⟨[0],[],[]⟩,[.t (.int .i64)],[]⟩] [.st 27] [[.int .i64]] qaQ
theorem qaQ_post:zaad kk env0 49 qaQ_md:=
  fnG (fn:=Tryz.f49) (ko known141) (by kernel_rfl) (L:=qaQ_L) (zaab (bs:=[qaQ_b3]) (by kernel_rfl) ⟨.inr ⟨_,by kernel_rfl,zaak.of_round (qaQ_ok3)⟩,trivial⟩) (zaaa _) (by kernel_rfl)
def ms142:List (FuncId×Mode U):=(49,qaQ_md)::ms141
theorem known142:Known kk env0 (zaac ms142):=known_cons (by kernel_rfl) qaQ_post known141
abbrev qaR_tr:Type:=curT U (sumT U [[.int .i64]]) [.st 50]
def qaR_rmd (rec_qaR:qaR_tr):Mode U:=mdG ⟨⟨[0],[],[]⟩,[.t (.st 50)],[]⟩ [] [⟨⟨[0],[],[]⟩,[.t (.int .i64)],[]⟩] [.st 50] [[.int .i64]] rec_qaR
abbrev qaR_rec (r:qaR_tr):Prop:=zaad kk env0 136 (qaR_rmd r)
def ms143 (rec_qaR:qaR_tr):List (FuncId×Mode U):=(136,(qaR_rmd rec_qaR))::ms142
theorem known143 (rec_qaR:qaR_tr) (hrec_qaR:qaR_rec rec_qaR):Known kk env0 (zaac (ms143 rec_qaR)):=known_cons (by kernel_rfl) hrec_qaR known142
def qaR_b3:Code:=(zaai (zaag Tryz.f136) 0)
def qaR_lp3 (rec_qaR:qaR_tr):Lift.Loop U:=lpG ⟨⟨[1,3,4],[1],[]⟩,[.ptr 1 0,.t (.int .i64),.t (.int .i64)],[.blk 50 [.t (.int .i64),.t (.int .i64),.t .str,.t (.slc (.st 50))]]⟩ [⟨.exit 0,⟨⟨[3],[],[]⟩,[.t (.int .i64)],[]⟩⟩] [.int .i64,.int .i64,.int .i64,.int .i64,.str,.slc (.st 50)] [[.int .i64]] (qaR_l3 rec_qaR)
theorem qaR_ok3 (rec_qaR:qaR_tr) (hrec_qaR:qaR_rec rec_qaR):LoopR kk env0 Tryz.f136.ntmps qaR_b3 (qaR_lp3 rec_qaR):=
  loopG (qaR_i3 rec_qaR) (qaR_t3 rec_qaR) (ko (known143 rec_qaR hrec_qaR)) (L:=jnL) (zaab (bs:=[]) (by kernel_rfl) trivial) (by kernel_rfl) (fun _=>by kernel_rfl) (zaaa _) (fun _=>by kernel_rfl)
def qaR_L (rec_qaR:qaR_tr):Nat→Option (Lift.Loop U):=fun n=>bif Nat.beq n zaar then some zaan else bif Nat.beq n 3 then some (qaR_lp3 rec_qaR) else none
def qaR_md:Mode U:=qaR_rmd qaR
theorem qaR_step (rec_qaR:qaR_tr) (hrec_qaR:qaR_rec rec_qaR):zaap (Kit.withModes kk (zaac (ms143 rec_qaR))) env0 Tryz.f136.ntmps (qaR_L rec_qaR) (zaag Tryz.f136):=zaab (bs:=[qaR_b3]) (by kernel_rfl) ⟨.inr ⟨_,by kernel_rfl,zaak.of_round (qaR_ok3 rec_qaR hrec_qaR)⟩,trivial⟩
theorem qaR_post:zaad kk env0 136 (qaR_rmd qaR):=
  recG qaR_i qaR_f (by kernel_rfl) (fun _=>by kernel_rfl) (zaaa _) fun r ih=>fnG (fn:=Tryz.f136) (ko (known143 r ih)) (by kernel_rfl) (qaR_step r ih) rfl (by kernel_rfl)
def ms144:List (FuncId×Mode U):=(136,qaR_md)::ms142
theorem known144:Known kk env0 (zaac ms144):=known_cons (by kernel_rfl) qaR_post known142
abbrev qaZ_tr:Type:=curT U (sumT U [[.int .i64]]) [.slc (.st 52)]
def qaZ_rmd (rec_qaZ:qaZ_tr):Mode U:=mdG ⟨⟨[0],[],[]⟩,[.t (.slc (.st 52))],[]⟩ [] [⟨⟨[0],[],[]⟩,[.t (.int .i64)],[]⟩] [.slc (.st 52)] [[.int .i64]] rec_qaZ
abbrev qaZ_rec (r:qaZ_tr):Prop:=zaad kk env0 103 (qaZ_rmd r)
def ms145 (rec_qaZ:qaZ_tr):List (FuncId×Mode U):=(103,(qaZ_rmd rec_qaZ))::ms144
theorem known145 (rec_qaZ:qaZ_tr) (hrec_qaZ:qaZ_rec rec_qaZ):Known kk env0 (zaac (ms145 rec_qaZ)):=known_cons (by kernel_rfl) hrec_qaZ known144
def qaZ_b3:Code:=(zaai (zaag Tryz.f103) 0)
def qaZ_lp3 (rec_qaZ:qaZ_tr):Lift.Loop U:=lpG ⟨⟨[0,3,4],[],[]⟩,[.t (.slc (.st 52)),.t (.int .i64),.t (.int .i64)],[]⟩ [⟨.exit 0,⟨⟨[3],[],[]⟩,[.t (.int .i64)],[]⟩⟩] [.slc (.st 52),.int .i64,.int .i64] [[.int .i64]] (qaZ_l3 rec_qaZ)
theorem qaZ_ok3 (rec_qaZ:qaZ_tr) (hrec_qaZ:qaZ_rec rec_qaZ):LoopR kk env0 Tryz.f103.ntmps qaZ_b3 (qaZ_lp3 rec_qaZ):=
  loopG (qaZ_i3 rec_qaZ) (qaZ_t3 rec_qaZ) (ko (known145 rec_qaZ hrec_qaZ)) (L:=jnL) (zaab (bs:=[]) (by kernel_rfl) trivial) (by kernel_rfl) (fun _=>by kernel_rfl) (zaaa _) (fun _=>by kernel_rfl)
def qaZ_L (rec_qaZ:qaZ_tr):Nat→Option (Lift.Loop U):=fun n=>bif Nat.beq n zaar then some zaan else bif Nat.beq n 3 then some (qaZ_lp3 rec_qaZ) else none
def qaZ_md:Mode U:=qaZ_rmd qaZ
theorem qaZ_step (rec_qaZ:qaZ_tr) (hrec_qaZ:qaZ_rec rec_qaZ):zaap (Kit.withModes kk (zaac (ms145 rec_qaZ))) env0 Tryz.f103.ntmps (qaZ_L rec_qaZ) (zaag Tryz.f103):=zaab (bs:=[qaZ_b3]) (by kernel_rfl) ⟨.inr ⟨_,by kernel_rfl,zaak.of_round (qaZ_ok3 rec_qaZ hrec_qaZ)⟩,trivial⟩
theorem qaZ_post:zaad kk env0 103 (qaZ_rmd qaZ):=
  recG qaZ_i qaZ_f (by kernel_rfl) (fun _=>by kernel_rfl) (zaaa _) fun r ih=>fnG (fn:=Tryz.f103) (ko (known145 r ih)) (by kernel_rfl) (qaZ_step r ih) rfl (by kernel_rfl)
def ms146:List (FuncId×Mode U):=(103,qaZ_md)::ms144
theorem known146:Known kk env0 (zaac ms146):=known_cons (by kernel_rfl) qaZ_post known144
def qaP_b3:Code:=(zaai (zaag Tryz.f50) 0)
def qaP_lp3:Lift.Loop U:=lpG ⟨⟨[1,3,4],[1],[]⟩,[.ptr 1 0,.t (.int .i64),.t (.int .i64)],[.blk 27 [.t (.slc (.st 62)),.t (.slc .str),.t (.slc (.st 46))]]⟩ [⟨.exit 0,⟨⟨[3],[],[]⟩,[.t (.int .i64)],[]⟩⟩] [.int .i64,.int .i64,.slc (.st 62),.slc .str,.slc (.st 46)] [[.int .i64]] qaP_l3
theorem qaP_ok3:LoopR kk env0 Tryz.f50.ntmps qaP_b3 qaP_lp3:=
  loopG qaP_i3 qaP_t3 (ko known146) (L:=jnL) (zaab (bs:=[]) (by kernel_rfl) trivial) (by kernel_rfl) (fun _=>by kernel_rfl) (zaaa _) (fun _=>by kernel_rfl)
def qaP_L:Nat→Option (Lift.Loop U):=fun n=>bif Nat.beq n zaar then some zaan else bif Nat.beq n 3 then some qaP_lp3 else none
def qaP_md:Mode U:=mdG ⟨⟨[0],[],[]⟩,[.t (.st 27)],[]⟩ [] [⟨⟨[0],[],[]⟩,[.t (.int .i64)],[]⟩] [.st 27] [[.int .i64]] qaP
theorem qaP_post:zaad kk env0 50 qaP_md:=
  fnG (fn:=Tryz.f50) (ko known146) (by kernel_rfl) (L:=qaP_L) (zaab (bs:=[qaP_b3]) (by kernel_rfl) ⟨.inr ⟨_,by kernel_rfl,zaak.of_round (qaP_ok3)⟩,trivial⟩) (zaaa _) (by kernel_rfl)
def ms147:List (FuncId×Mode U):=(50,qaP_md)::ms146
theorem known147:Known kk env0 (zaac ms147):=known_cons (by kernel_rfl) qaP_post known146
def qaW_md:Mode U:=mdG ⟨⟨[0],[],[]⟩,[.t (.st 27)],[]⟩ [] [⟨⟨[0],[],[]⟩,[.t (.int .i64)],[]⟩] [.st 27] [[.int .i64]] qaW
theorem qaW_post:zaad kk env0 51 qaW_md:=
  fnG (fn:=Tryz.f51) (ko known147) (by kernel_rfl) (L:=jnL) (zaab (bs:=[]) (by kernel_rfl) trivial) (zaaa _) (by kernel_rfl)
def ms148:List (FuncId×Mode U):=(51,qaW_md)::ms147
theorem known148:Known kk env0 (zaac ms148):=known_cons (by kernel_rfl) qaW_post known147
def qa6_b5:Code:=(zaai (zaag Tryz.f52) 0)
def qa6_lp5:Lift.Loop U:=lpG ⟨⟨[0,3,4],[],[]⟩,[.t (.int .i64),.t (.int .u64),.t .str],[]⟩ [⟨.exit 0,⟨⟨[0,3,4],[],[]⟩,[.t (.int .i64),.t (.int .u64),.t .str],[]⟩⟩] [.int .i64,.int .u64,.str] [[.int .i64,.int .u64,.str]] qa6_l5
theorem qa6_ok5:LoopR kk env0 Tryz.f52.ntmps qa6_b5 qa6_lp5:=
  loopG qa6_i5 qa6_t5 (ko known148) (L:=jnL) (zaab (bs:=[]) (by kernel_rfl) trivial) (by kernel_rfl) (fun _=>by kernel_rfl) (zaaa _) (fun _=>by kernel_rfl)
def qa6_L:Nat→Option (Lift.Loop U):=fun n=>bif Nat.beq n zaar then some zaan else bif Nat.beq n 5 then some qa6_lp5 else none
def qa6_md:Mode U:=mdG ⟨⟨[0],[],[]⟩,[.t (.int .i64)],[]⟩ [] [⟨⟨[0],[],[]⟩,[.t .str],[]⟩] [.int .i64] [[.str]] qa6
theorem qa6_post:zaad kk env0 52 qa6_md:=
  fnG (fn:=Tryz.f52) (ko known148) (by kernel_rfl) (L:=qa6_L) (zaab (bs:=[qa6_b5]) (by kernel_rfl) ⟨.inr ⟨_,by kernel_rfl,zaak.of_round (qa6_ok5)⟩,trivial⟩) (zaaa _) (by kernel_rfl)
def ms149:List (FuncId×Mode U):=(52,qa6_md)::ms148
theorem known149:Known kk env0 (zaac ms149):=known_cons (by kernel_rfl) qa6_post known148
def qa9_b3:Code:=(zaai (zaag Tryz.f105) 0)
def qa9_lp3:Lift.Loop U:=lpG ⟨⟨[0,3,4],[],[]⟩,[.t (.int .i64),.t .str,.t (.int .i64)],[]⟩ [⟨.exit 0,⟨⟨[3],[],[]⟩,[.t .str],[]⟩⟩] [.int .i64,.str,.int .i64] [[.str]] qa9_l3
theorem qa9_ok3:LoopR kk env0 Tryz.f105.ntmps qa9_b3 qa9_lp3:=
  loopG qa9_i3 qa9_t3 (ko known149) (L:=jnL) (zaab (bs:=[]) (by kernel_rfl) trivial) (by kernel_rfl) (fun _=>by kernel_rfl) (zaaa _) (fun _=>by kernel_rfl)
def qa9_L:Nat→Option (Lift.Loop U):=fun n=>bif Nat.beq n zaar then some zaan else bif Nat.beq n 3 then some qa9_lp3 else none
def qa9_md:Mode U:=mdG ⟨⟨[0],[],[]⟩,[.t (.int .i64)],[]⟩ [] [⟨⟨[0],[],[]⟩,[.t .str],[]⟩] [.int .i64] [[.str]] qa9
theorem qa9_post:zaad kk env0 105 qa9_md:=
  fnG (fn:=Tryz.f105) (ko known149) (by kernel_rfl) (L:=qa9_L) (zaab (bs:=[qa9_b3]) (by kernel_rfl) ⟨.inr ⟨_,by kernel_rfl,zaak.of_round (qa9_ok3)⟩,trivial⟩) (zaaa _) (by kernel_rfl)
def ms150:List (FuncId×Mode U):=(105,qa9_md)::ms149
theorem known150:Known kk env0 (zaac ms150):=known_cons (by kernel_rfl) qa9_post known149
def qbb_md:Mode U:=mdG ⟨⟨[0],[],[]⟩,[.t (.int .i64)],[]⟩ [] [⟨⟨[0],[],[]⟩,[.t (.int .i64)],[]⟩] [.int .i64] [[.int .i64]] qbb
theorem qbb_post:zaad kk env0 139 qbb_md:=
  fnG (fn:=Tryz.f139) (ko known150) (by kernel_rfl) (L:=jnL) (zaab (bs:=[]) (by kernel_rfl) trivial) (zaaa _) (by kernel_rfl)
def ms151:List (FuncId×Mode U):=(139,qbb_md)::ms150
theorem known151:Known kk env0 (zaac ms151):=known_cons (by kernel_rfl) qbb_post known150
abbrev qa7_tr:Type:=curT U (sumT U [[.str]]) [.st 50,.int .i64]
def qa7_rmd (rec_qa7:qa7_tr):Mode U:=mdG ⟨⟨[0,1],[],[]⟩,[.t (.st 50),.t (.int .i64)],[]⟩ [] [⟨⟨[0],[],[]⟩,[.t .str],[]⟩] [.st 50,.int .i64] [[.str]] rec_qa7
abbrev qa7_rec (r:qa7_tr):Prop:=zaad kk env0 106 (qa7_rmd r)
def ms152 (rec_qa7:qa7_tr):List (FuncId×Mode U):=(106,(qa7_rmd rec_qa7))::ms151
theorem known152 (rec_qa7:qa7_tr) (hrec_qa7:qa7_rec rec_qa7):Known kk env0 (zaac (ms152 rec_qa7)):=known_cons (by kernel_rfl) hrec_qa7 known151
def qbd_md (rec_qa7:qa7_tr):Mode U:=mdG ⟨⟨[0],[],[]⟩,[.t (.int .i64)],[]⟩ [] [⟨⟨[0],[],[]⟩,[.t .str],[]⟩] [.int .i64] [[.str]] (qbd rec_qa7)
theorem qbd_post (rec_qa7:qa7_tr) (hrec_qa7:qa7_rec rec_qa7):zaad kk env0 140 (qbd_md rec_qa7):=
  fnG (fn:=Tryz.f140) (ko (known152 rec_qa7 hrec_qa7)) (by kernel_rfl) (L:=jnL) (zaab (bs:=[]) (by kernel_rfl) trivial) (zaaa _) (by kernel_rfl)
def ms153 (rec_qa7:qa7_tr):List (FuncId×Mode U):=(140,(qbd_md rec_qa7))::(ms152 rec_qa7)
theorem known153 (rec_qa7:qa7_tr) (hrec_qa7:qa7_rec rec_qa7):Known kk env0 (zaac (ms153 rec_qa7)):=known_cons (by kernel_rfl) (qbd_post rec_qa7 hrec_qa7) (known152 rec_qa7 hrec_qa7)
def qa7_md:Mode U:=qa7_rmd qa7
theorem qa7_step (rec_qa7:qa7_tr) (hrec_qa7:qa7_rec rec_qa7):zaap (Kit.withModes kk (zaac (ms153 rec_qa7))) env0 Tryz.f106.ntmps jnL (zaag Tryz.f106):=zaab (bs:=[]) (by kernel_rfl) trivial
theorem qa7_post:zaad kk env0 106 (qa7_rmd qa7):=
  recG qa7_i qa7_f (by kernel_rfl) (fun _=>by kernel_rfl) (zaaa _) fun r ih=>fnG (fn:=Tryz.f106) (ko (known153 r ih)) (by kernel_rfl) (qa7_step r ih) rfl (by kernel_rfl)
def ms154:List (FuncId×Mode U):=(106,qa7_md)::ms151
theorem known154:Known kk env0 (zaac ms154):=known_cons (by kernel_rfl) qa7_post known151
abbrev qba_tr:Type:=curT U (sumT U [[.str]]) [.slc (.st 52),.int .i64]
def qba_rmd (rec_qba:qba_tr):Mode U:=mdG ⟨⟨[0,1],[],[]⟩,[.t (.slc (.st 52)),.t (.int .i64)],[]⟩ [] [⟨⟨[0],[],[]⟩,[.t .str],[]⟩] [.slc (.st 52),.int .i64] [[.str]] rec_qba
abbrev qba_rec (r:qba_tr):Prop:=zaad kk env0 53 (qba_rmd r)
def ms155 (rec_qba:qba_tr):List (FuncId×Mode U):=(53,(qba_rmd rec_qba))::ms154
theorem known155 (rec_qba:qba_tr) (hrec_qba:qba_rec rec_qba):Known kk env0 (zaac (ms155 rec_qba)):=known_cons (by kernel_rfl) hrec_qba known154
def qbc_md (rec_qba:qba_tr):Mode U:=mdG ⟨⟨[0],[],[]⟩,[.t (.st 52)],[]⟩ [] [⟨⟨[0],[],[]⟩,[.t .str],[]⟩] [.st 52] [[.str]] (qbc rec_qba)
theorem qbc_post (rec_qba:qba_tr) (hrec_qba:qba_rec rec_qba):zaad kk env0 107 (qbc_md rec_qba):=
  fnG (fn:=Tryz.f107) (ko (known155 rec_qba hrec_qba)) (by kernel_rfl) (L:=jnL) (zaab (bs:=[]) (by kernel_rfl) trivial) (zaaa _) (by kernel_rfl)
def ms156 (rec_qba:qba_tr):List (FuncId×Mode U):=(107,(qbc_md rec_qba))::(ms155 rec_qba)
theorem known156 (rec_qba:qba_tr) (hrec_qba:qba_rec rec_qba):Known kk env0 (zaac (ms156 rec_qba)):=known_cons (by kernel_rfl) (qbc_post rec_qba hrec_qba) (known155 rec_qba hrec_qba)
def qba_b3:Code:=(zaai (zaag Tryz.f53) 0)
def qba_lp3 (rec_qba:qba_tr):Lift.Loop U:=lpG ⟨⟨[0,1,5,6],[],[]⟩,[.t (.slc (.st 52)),.t (.int .i64),.t .str,.t (.int .i64)],[]⟩ [⟨.exit 0,⟨⟨[5],[],[]⟩,[.t .str],[]⟩⟩] [.slc (.st 52),.int .i64,.str,.int .i64] [[.str]] (qba_l3 rec_qba)
theorem qba_ok3 (rec_qba:qba_tr) (hrec_qba:qba_rec rec_qba):LoopR kk env0 Tryz.f53.ntmps qba_b3 (qba_lp3 rec_qba):=
  loopG (qba_i3 rec_qba) (qba_t3 rec_qba) (ko (known156 rec_qba hrec_qba)) (L:=jnL) (zaab (bs:=[]) (by kernel_rfl) trivial) (by kernel_rfl) (fun _=>by kernel_rfl) (zaaa _) (fun _=>by kernel_rfl)
def qba_L (rec_qba:qba_tr):Nat→Option (Lift.Loop U):=fun n=>bif Nat.beq n zaar then some zaan else bif Nat.beq n 3 then some (qba_lp3 rec_qba) else none
def qba_md:Mode U:=qba_rmd qba
theorem qba_step (rec_qba:qba_tr) (hrec_qba:qba_rec rec_qba):zaap (Kit.withModes kk (zaac (ms156 rec_qba))) env0 Tryz.f53.ntmps (qba_L rec_qba) (zaag Tryz.f53):=zaab (bs:=[qba_b3]) (by kernel_rfl) ⟨.inr ⟨_,by kernel_rfl,zaak.of_round (qba_ok3 rec_qba hrec_qba)⟩,trivial⟩
theorem qba_post:zaad kk env0 53 (qba_rmd qba):=
  recG qba_i qba_f (by kernel_rfl) (fun _=>by kernel_rfl) (zaaa _) fun r ih=>fnG (fn:=Tryz.f53) (ko (known156 r ih)) (by kernel_rfl) (qba_step r ih) rfl (by kernel_rfl)
def ms157:List (FuncId×Mode U):=(53,qba_md)::ms154
theorem known157:Known kk env0 (zaac ms157):=known_cons (by kernel_rfl) qba_post known154
def qa8_b6:Code:=(zaai (zaag Tryz.f23) 0)
def qa8_lp6:Lift.Loop U:=lpG ⟨⟨[1,5,6],[1],[]⟩,[.ptr 1 0,.t .str,.t (.int .i64)],[.blk 27 [.t (.slc (.st 62)),.t (.slc .str),.t (.slc (.st 46))]]⟩ [⟨.exit 0,⟨⟨[1,5],[1],[]⟩,[.ptr 1 0,.t .str],[.blk 27 [.t (.slc (.st 62)),.t (.slc .str),.t (.slc (.st 46))]]⟩⟩] [.str,.int .i64,.slc (.st 62),.slc .str,.slc (.st 46)] [[.str,.slc (.st 62),.slc .str,.slc (.st 46)]] qa8_l6
theorem qa8_ok6:LoopR kk env0 Tryz.f23.ntmps qa8_b6 qa8_lp6:=
  loopG qa8_i6 qa8_t6 (ko known157) (L:=jnL) (zaab (bs:=[]) (by kernel_rfl) trivial) (by kernel_rfl) (fun _=>by kernel_rfl) (zaaa _) (fun _=>by kernel_rfl)
def qa8_b10:Code:=(zaai (zaag Tryz.f23) 1)
def qa8_lp10:Lift.Loop U:=lpG ⟨⟨[1,5,7],[1],[]⟩,[.ptr 1 0,.t .str,.t (.int .i64)],[.blk 27 [.t (.slc (.st 62)),.t (.slc .str),.t (.slc (.st 46))]]⟩ [⟨.exit 2,⟨⟨[1,5],[1],[]⟩,[.ptr 1 0,.t .str],[.blk 27 [.t (.slc (.st 62)),.t (.slc .str),.t (.slc (.st 46))]]⟩⟩] [.str,.int .i64,.slc (.st 62),.slc .str,.slc (.st 46)] [[.str,.slc (.st 62),.slc .str,.slc (.st 46)]] qa8_l10
theorem qa8_ok10:LoopR kk env0 Tryz.f23.ntmps qa8_b10 qa8_lp10:=
  loopG qa8_i10 qa8_t10 (ko known157) (L:=jnL) (zaab (bs:=[]) (by kernel_rfl) trivial) (by kernel_rfl) (fun _=>by kernel_rfl) (zaaa _) (fun _=>by kernel_rfl)
def qa8_b14:Code:=(zaai (zaag Tryz.f23) 2)
def qa8_lp14:Lift.Loop U:=lpG ⟨⟨[1,5,8],[1],[]⟩,[.ptr 1 0,.t .str,.t (.int .i64)],[.blk 27 [.t (.slc (.st 62)),.t (.slc .str),.t (.slc (.st 46))]]⟩ [⟨.exit 4,⟨⟨[5],[],[]⟩,[.t .str],[]⟩⟩] [.str,.int .i64,.slc (.st 62),.slc .str,.slc (.st 46)] [[.str]] qa8_l14
theorem qa8_ok14:LoopR kk env0 Tryz.f23.ntmps qa8_b14 qa8_lp14:=
  loopG qa8_i14 qa8_t14 (ko known157) (L:=jnL) (zaab (bs:=[]) (by kernel_rfl) trivial) (by kernel_rfl) (fun _=>by kernel_rfl) (zaaa _) (fun _=>by kernel_rfl)
def qa8_L:Nat→Option (Lift.Loop U):=fun n=>bif Nat.beq n zaar then some zaan else bif Nat.beq n 6 then some qa8_lp6 else bif Nat.beq n 10 then some qa8_lp10 else bif Nat.beq n 14 then some qa8_lp14 else none
def qa8_md:Mode U:=mdG ⟨⟨[0],[],[]⟩,[.t (.st 27)],[]⟩ [] [⟨⟨[0,1],[],[]⟩,[.t .str,.t (.int .i64)],[]⟩] [.st 27] [[.str,.int .i64]] qa8
theorem qa8_post:zaad kk env0 23 qa8_md:=
  fnG (fn:=Tryz.f23) (ko known157) (by kernel_rfl) (L:=qa8_L) (zaab (bs:=[qa8_b6,qa8_b10,qa8_b14]) (by kernel_rfl) ⟨.inr ⟨_,by kernel_rfl,zaak.of_round (qa8_ok6)⟩,.inr ⟨_,by kernel_rfl,zaak.of_round (qa8_ok10)⟩,.inr ⟨_,by kernel_rfl,zaak.of_round (qa8_ok14)⟩,trivial⟩) (zaaa _) (by kernel_rfl)
def ms158:List (FuncId×Mode U):=(23,qa8_md)::ms157
theorem known158:Known kk env0 (zaac ms158):=known_cons (by kernel_rfl) qa8_post known157
abbrev qaY_tr:Type:=curT U (sumT U [[.bool]]) [.st 50,.st 50]
def qaY_rmd (rec_qaY:qaY_tr):Mode U:=mdG ⟨⟨[0,1],[],[]⟩,[.t (.st 50),.t (.st 50)],[]⟩ [] [⟨⟨[0],[],[]⟩,[.t .bool],[]⟩] [.st 50,.st 50] [[.bool]] rec_qaY
abbrev qaY_rec (r:qaY_tr):Prop:=zaad kk env0 96 (qaY_rmd r)
def ms159 (rec_qaY:qaY_tr):List (FuncId×Mode U):=(96,(qaY_rmd rec_qaY))::ms158
theorem known159 (rec_qaY:qaY_tr) (hrec_qaY:qaY_rec rec_qaY):Known kk env0 (zaac (ms159 rec_qaY)):=known_cons (by kernel_rfl) hrec_qaY known158
def qaY_b4:Code:=(zaai (zaag Tryz.f96) 0)
def qaY_lp4 (rec_qaY:qaY_tr):Lift.Loop U:=lpG ⟨⟨[2,3,5],[2,3],[]⟩,[.ptr 2 0,.ptr 3 0,.t (.int .i64)],[.blk 50 [.t (.int .i64),.t (.int .i64),.t .str,.t (.slc (.st 50))],.blk 50 [.t (.int .i64),.t (.int .i64),.t .str,.t (.slc (.st 50))]]⟩ [⟨.ret,⟨⟨[4],[],[]⟩,[.t .bool],[]⟩⟩,⟨.exit 0,⟨⟨[],[],[]⟩,[],[]⟩⟩] [.int .i64,.int .i64,.int .i64,.str,.slc (.st 50),.int .i64,.int .i64,.str,.slc (.st 50)] [[.bool],[]] (qaY_l4 rec_qaY)
theorem qaY_ok4 (rec_qaY:qaY_tr) (hrec_qaY:qaY_rec rec_qaY):LoopR kk env0 Tryz.f96.ntmps qaY_b4 (qaY_lp4 rec_qaY):=
  loopG (qaY_i4 rec_qaY) (qaY_t4 rec_qaY) (ko (known159 rec_qaY hrec_qaY)) (L:=jnL) (zaab (bs:=[]) (by kernel_rfl) trivial) (by kernel_rfl) (fun _=>by kernel_rfl) (zaaa _) (fun _=>by kernel_rfl)
def qaY_L (rec_qaY:qaY_tr):Nat→Option (Lift.Loop U):=fun n=>bif Nat.beq n zaar then some zaan else bif Nat.beq n 4 then some (qaY_lp4 rec_qaY) else none
def qaY_md:Mode U:=qaY_rmd qaY
theorem qaY_step (rec_qaY:qaY_tr) (hrec_qaY:qaY_rec rec_qaY):zaap (Kit.withModes kk (zaac (ms159 rec_qaY))) env0 Tryz.f96.ntmps (qaY_L rec_qaY) (zaag Tryz.f96):=zaab (bs:=[qaY_b4]) (by kernel_rfl) ⟨.inr ⟨_,by kernel_rfl,zaak.of_round (qaY_ok4 rec_qaY hrec_qaY)⟩,trivial⟩
theorem qaY_post:zaad kk env0 96 (qaY_rmd qaY):=
  recG qaY_i qaY_f (by kernel_rfl) (fun _=>by kernel_rfl) (zaaa _) fun r ih=>fnG (fn:=Tryz.f96) (ko (known159 r ih)) (by kernel_rfl) (qaY_step r ih) rfl (by kernel_rfl)
def ms160:List (FuncId×Mode U):=(96,qaY_md)::ms158
theorem known160:Known kk env0 (zaac ms160):=known_cons (by kernel_rfl) qaY_post known158
abbrev qa2_tr:Type:=curT U (sumT U [[.bool]]) [.slc (.st 52),.slc (.st 52)]
def qa2_rmd (rec_qa2:qa2_tr):Mode U:=mdG ⟨⟨[0,1],[],[]⟩,[.t (.slc (.st 52)),.t (.slc (.st 52))],[]⟩ [] [⟨⟨[0],[],[]⟩,[.t .bool],[]⟩] [.slc (.st 52),.slc (.st 52)] [[.bool]] rec_qa2
abbrev qa2_rec (r:qa2_tr):Prop:=zaad kk env0 47 (qa2_rmd r)
def ms161 (rec_qa2:qa2_tr):List (FuncId×Mode U):=(47,(qa2_rmd rec_qa2))::ms160
theorem known161 (rec_qa2:qa2_tr) (hrec_qa2:qa2_rec rec_qa2):Known kk env0 (zaac (ms161 rec_qa2)):=known_cons (by kernel_rfl) hrec_qa2 known160
def qa2_b4:Code:=(zaai (zaag Tryz.f47) 0)
def qa2_lp4 (rec_qa2:qa2_tr):Lift.Loop U:=lpG ⟨⟨[0,1,5],[],[]⟩,[.t (.slc (.st 52)),.t (.slc (.st 52)),.t (.int .i64)],[]⟩ [⟨.ret,⟨⟨[4],[],[]⟩,[.t .bool],[]⟩⟩,⟨.exit 0,⟨⟨[],[],[]⟩,[],[]⟩⟩] [.slc (.st 52),.slc (.st 52),.int .i64] [[.bool],[]] (qa2_l4 rec_qa2)
theorem qa2_ok4 (rec_qa2:qa2_tr) (hrec_qa2:qa2_rec rec_qa2):LoopR kk env0 Tryz.f47.ntmps qa2_b4 (qa2_lp4 rec_qa2):=
  loopG (qa2_i4 rec_qa2) (qa2_t4 rec_qa2) (ko (known161 rec_qa2 hrec_qa2)) (L:=jnL) (zaab (bs:=[]) (by kernel_rfl) trivial) (by kernel_rfl) (fun _=>by kernel_rfl) (zaaa _) (fun _=>by kernel_rfl)
def qa2_L (rec_qa2:qa2_tr):Nat→Option (Lift.Loop U):=fun n=>bif Nat.beq n zaar then some zaan else bif Nat.beq n 4 then some (qa2_lp4 rec_qa2) else none
def qa2_md:Mode U:=qa2_rmd qa2
theorem qa2_step (rec_qa2:qa2_tr) (hrec_qa2:qa2_rec rec_qa2):zaap (Kit.withModes kk (zaac (ms161 rec_qa2))) env0 Tryz.f47.ntmps (qa2_L rec_qa2) (zaag Tryz.f47):=zaab (bs:=[qa2_b4]) (by kernel_rfl) ⟨.inr ⟨_,by kernel_rfl,zaak.of_round (qa2_ok4 rec_qa2 hrec_qa2)⟩,trivial⟩
theorem qa2_post:zaad kk env0 47 (qa2_rmd qa2):=
  recG qa2_i qa2_f (by kernel_rfl) (fun _=>by kernel_rfl) (zaaa _) fun r ih=>fnG (fn:=Tryz.f47) (ko (known161 r ih)) (by kernel_rfl) (qa2_step r ih) rfl (by kernel_rfl)
def ms162:List (FuncId×Mode U):=(47,qa2_md)::ms160
theorem known162:Known kk env0 (zaac ms162):=known_cons (by kernel_rfl) qa2_post known160
def qaX_b4:Code:=(zaai (zaag Tryz.f20) 0)
def qaX_lp4:Lift.Loop U:=lpG ⟨⟨[2,3,5],[2,3],[]⟩,[.ptr 2 0,.ptr 3 0,.t (.int .i64)],[.blk 27 [.t (.slc (.st 62)),.t (.slc .str),.t (.slc (.st 46))],.blk 27 [.t (.slc (.st 62)),.t (.slc .str),.t (.slc (.st 46))]]⟩ [⟨.ret,⟨⟨[4],[],[]⟩,[.t .bool],[]⟩⟩,⟨.exit 0,⟨⟨[2,3],[2,3],[]⟩,[.ptr 2 0,.ptr 3 0],[.blk 27 [.t (.slc (.st 62)),.t (.slc .str),.t (.slc (.st 46))],.blk 27 [.t (.slc (.st 62)),.t (.slc .str),.t (.slc (.st 46))]]⟩⟩] [.int .i64,.slc (.st 62),.slc .str,.slc (.st 46),.slc (.st 62),.slc .str,.slc (.st 46)] [[.bool],[.slc (.st 62),.slc .str,.slc (.st 46),.slc (.st 62),.slc .str,.slc (.st 46)]] qaX_l4
theorem qaX_ok4:LoopR kk env0 Tryz.f20.ntmps qaX_b4 qaX_lp4:=
  loopG qaX_i4 qaX_t4 (ko known162) (L:=jnL) (zaab (bs:=[]) (by kernel_rfl) trivial) (by kernel_rfl) (fun _=>by kernel_rfl) (zaaa _) (fun _=>by kernel_rfl)
def qaX_b9:Code:=(zaai (zaag Tryz.f20) 1)
def qaX_lp9:Lift.Loop U:=lpG ⟨⟨[2,3,6],[2,3],[]⟩,[.ptr 2 0,.ptr 3 0,.t (.int .i64)],[.blk 27 [.t (.slc (.st 62)),.t (.slc .str),.t (.slc (.st 46))],.blk 27 [.t (.slc (.st 62)),.t (.slc .str),.t (.slc (.st 46))]]⟩ [⟨.ret,⟨⟨[4],[],[]⟩,[.t .bool],[]⟩⟩,⟨.exit 2,⟨⟨[2,3],[2,3],[]⟩,[.ptr 2 0,.ptr 3 0],[.blk 27 [.t (.slc (.st 62)),.t (.slc .str),.t (.slc (.st 46))],.blk 27 [.t (.slc (.st 62)),.t (.slc .str),.t (.slc (.st 46))]]⟩⟩] [.int .i64,.slc (.st 62),.slc .str,.slc (.st 46),.slc (.st 62),.slc .str,.slc (.st 46)] [[.bool],[.slc (.st 62),.slc .str,.slc (.st 46),.slc (.st 62),.slc .str,.slc (.st 46)]] qaX_l9
theorem qaX_ok9:LoopR kk env0 Tryz.f20.ntmps qaX_b9 qaX_lp9:=
  loopG qaX_i9 qaX_t9 (ko known162) (L:=jnL) (zaab (bs:=[]) (by kernel_rfl) trivial) (by kernel_rfl) (fun _=>by kernel_rfl) (zaaa _) (fun _=>by kernel_rfl)
def qaX_b14:Code:=(zaai (zaag Tryz.f20) 2)
def qaX_lp14:Lift.Loop U:=lpG ⟨⟨[2,3,7],[2,3],[]⟩,[.ptr 2 0,.ptr 3 0,.t (.int .i64)],[.blk 27 [.t (.slc (.st 62)),.t (.slc .str),.t (.slc (.st 46))],.blk 27 [.t (.slc (.st 62)),.t (.slc .str),.t (.slc (.st 46))]]⟩ [⟨.ret,⟨⟨[4],[],[]⟩,[.t .bool],[]⟩⟩,⟨.exit 4,⟨⟨[],[],[]⟩,[],[]⟩⟩] [.int .i64,.slc (.st 62),.slc .str,.slc (.st 46),.slc (.st 62),.slc .str,.slc (.st 46)] [[.bool],[]] qaX_l14
theorem qaX_ok14:LoopR kk env0 Tryz.f20.ntmps qaX_b14 qaX_lp14:=
  loopG qaX_i14 qaX_t14 (ko known162) (L:=jnL) (zaab (bs:=[]) (by kernel_rfl) trivial) (by kernel_rfl) (fun _=>by kernel_rfl) (zaaa _) (fun _=>by kernel_rfl)
def qaX_L:Nat→Option (Lift.Loop U):=fun n=>bif Nat.beq n zaar then some zaan else bif Nat.beq n 4 then some qaX_lp4 else bif Nat.beq n 9 then some qaX_lp9 else bif Nat.beq n 14 then some qaX_lp14 else none
def qaX_md:Mode U:=mdG ⟨⟨[0,1],[],[]⟩,[.t (.st 27),.t (.st 27)],[]⟩ [] [⟨⟨[0],[],[]⟩,[.t .bool],[]⟩] [.st 27,.st 27] [[.bool]] qaX
theorem qaX_post:zaad kk env0 20 qaX_md:=
  fnG (fn:=Tryz.f20) (ko known162) (by kernel_rfl) (L:=qaX_L) (zaab (bs:=[qaX_b4,qaX_b9,qaX_b14]) (by kernel_rfl) ⟨.inr ⟨_,by kernel_rfl,zaak.of_round (qaX_ok4)⟩,.inr ⟨_,by kernel_rfl,zaak.of_round (qaX_ok9)⟩,.inr ⟨_,by kernel_rfl,zaak.of_round (qaX_ok14)⟩,trivial⟩) (zaaa _) (by kernel_rfl)
def ms163:List (FuncId×Mode U):=(20,qaX_md)::ms162
theorem known163:Known kk env0 (zaac ms163):=known_cons (by kernel_rfl) qaX_post known162
def qar_md:Mode U:=mdG ⟨⟨[0],[],[]⟩,[.t (.st 27)],[]⟩ [] [⟨⟨[0],[],[]⟩,[.t .bool],[]⟩] [.st 27] [[.bool]] qar
theorem qar_post:zaad kk env0 7 qar_md:=
  fnG (fn:=Tryz.f7) (ko known163) (by kernel_rfl) (L:=jnL) (zaab (bs:=[]) (by kernel_rfl) trivial) (zaaa _) (by kernel_rfl)
end
end Lift.Q4
