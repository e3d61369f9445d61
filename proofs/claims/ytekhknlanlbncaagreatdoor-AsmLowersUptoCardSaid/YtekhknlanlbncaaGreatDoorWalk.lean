/-
  DERIVED. Each function of this seat computes its Lean function. Conditions: as each theorem says.
-/
import Derived.Test.YtekhknlanlbncaaGreatDoorDefs
set_option linter.unusedVariables false
set_option linter.unusedSimpArgs false
set_option linter.unusedSectionVars false
namespace Lift.H2
noncomputable section
open Go Go.RowKit Go.Proofs Lift Lift.Fn
theorem ko {ms:List (FuncId×Mode U)} (h:Known kk env0 (zaac ms)):KitOk (Kit.withModes kk (zaac ms)) env0:=zaxt eqOk mixed h
def qar_md:Mode U:=mdG ⟨⟨[0],[],[]⟩,[.t (.int .i64)],[]⟩ [] [⟨⟨[0],[],[]⟩,[.t .bool],[]⟩] [.int .i64] [[.bool]] qar
theorem qar_post:zaad kk env0 21 qar_md:=
  fnG (fn:=Tryz.f21) (ko known10) (by kernel_rfl) (L:=jnL) (zaab (bs:=[]) (by kernel_rfl) trivial) (zaaa _) (by kernel_rfl)
def ms11:List (FuncId×Mode U):=(21,qar_md)::ms10
theorem known11:Known kk env0 (zaac ms11):=known_cons (by kernel_rfl) qar_post known10
def qas_md:Mode U:=mdG ⟨⟨[],[],[]⟩,[],[]⟩ [] [⟨⟨[0],[],[⟨.slot 0,100050,78,(.st 78)⟩]⟩,[.oslc 100050],[.row 78 (.st 78)]⟩] [] [[.slc (.st 78)]] qas
theorem qas_post:zaad kk env0 23 qas_md:=
  fnG (fn:=Tryz.f23) (ko known11) (by kernel_rfl) (L:=jnL) (zaab (bs:=[]) (by kernel_rfl) trivial) (zaaa _) (by kernel_rfl)
def ms12:List (FuncId×Mode U):=(23,qas_md)::ms11
theorem known12:Known kk env0 (zaac ms12):=known_cons (by kernel_rfl) qas_post known11
def qao_b6:Code:=(zaag (zaaf Tryz.f22) 0)
def qao_lp6:Lift.Loop U:=lpG ⟨⟨[3,4,8,44,45,46],[3,4],[⟨.slot 44,44,3,(.int .i64)⟩]⟩,[.ptr 3 0,.ptr 4 0,.t .str,.oslc 44,.t (.int .i64),.t (.int .i64)],[.blk 30 [.t (.slc (.int .i64)),.t (.int .i64),.t (.slc (.st 46))],.blk 46 [.t (.int .i64),.t (.slc (.st 43))],.row 3 (.int .i64)]⟩ [⟨.ret,⟨⟨[6],[],[]⟩,[.t .bool],[]⟩⟩,⟨.exit 0,⟨⟨[],[],[]⟩,[],[]⟩⟩] [.str,.int .i64,.int .i64,.slc (.int .i64),.int .i64,.slc (.st 46),.int .i64,.slc (.st 43),.slc (.int .i64)] [[.bool],[]] qao_l6
theorem qao_ok6:LoopR kk env0 Tryz.f22.ntmps qao_b6 qao_lp6:=
  loopG qao_i6 qao_t6 (ko known12) (L:=jnL) (zaab (bs:=[]) (by kernel_rfl) trivial) (by kernel_rfl) (fun _=>by kernel_rfl) (zaaa _) (fun _=>by kernel_rfl)
def qao_L:Nat→Option (Lift.Loop U):=fun n=>bif Nat.beq n zaam then some zaaj else bif Nat.beq n 6 then some qao_lp6 else none
def qao_md:Mode U:=mdG ⟨⟨[0,1,2],[],[]⟩,[.t (.st 30),.t (.st 46),.t (.st 43)],[]⟩ [] [⟨⟨[0],[],[]⟩,[.t .bool],[]⟩] [.st 30,.st 46,.st 43] [[.bool]] qao
theorem qao_post:zaad kk env0 22 qao_md:=
  fnG (fn:=Tryz.f22) (ko known12) (by kernel_rfl) (L:=qao_L) (zaab (bs:=[qao_b6]) (by kernel_rfl) ⟨.inr ⟨_,by kernel_rfl,zaai.of_round (qao_ok6)⟩,trivial⟩) (zaaa _) (by kernel_rfl)
def ms13:List (FuncId×Mode U):=(22,qao_md)::ms12
theorem known13:Known kk env0 (zaac ms13):=known_cons (by kernel_rfl) qao_post known12
def qan_b4:Code:=(zaag (zaaf Tryz.f7) 0)
def qan_lp4:Lift.Loop U:=lpG ⟨⟨[1,38,39,40],[1],[]⟩,[.ptr 1 0,.t (.slc (.int .i64)),.t (.int .i64),.t (.int .i64)],[.blk 30 [.t (.slc (.int .i64)),.t (.int .i64),.t (.slc (.st 46))]]⟩ [⟨.ret,⟨⟨[2],[],[]⟩,[.t .bool],[]⟩⟩,⟨.exit 0,⟨⟨[1],[1],[]⟩,[.ptr 1 0],[.blk 30 [.t (.slc (.int .i64)),.t (.int .i64),.t (.slc (.st 46))]]⟩⟩] [.slc (.int .i64),.int .i64,.int .i64,.slc (.int .i64),.int .i64,.slc (.st 46)] [[.bool],[.slc (.int .i64),.int .i64,.slc (.st 46)]] qan_l4
theorem qan_ok4:LoopR kk env0 Tryz.f7.ntmps qan_b4 qan_lp4:=
  loopG qan_i4 qan_t4 (ko known13) (L:=jnL) (zaab (bs:=[]) (by kernel_rfl) trivial) (by kernel_rfl) (fun _=>by kernel_rfl) (zaaa _) (fun _=>by kernel_rfl)
def qan_b19:Code:=(zaag (zaag (zaaf Tryz.f7) 1) 0)
def qan_lp19:Lift.Loop U:=lpG ⟨⟨[1,6,49,50,51,88,89,90],[1,6],[]⟩,[.ptr 1 0,.ptr 6 0,.t (.slc (.st 46)),.t (.int .i64),.t (.int .i64),.t (.slc (.st 43)),.t (.int .i64),.t (.int .i64)],[.blk 30 [.t (.slc (.int .i64)),.t (.int .i64),.t (.slc (.st 46))],.blk 46 [.t (.int .i64),.t (.slc (.st 43))]]⟩ [⟨.ret,⟨⟨[2],[],[]⟩,[.t .bool],[]⟩⟩,⟨.exit 4,⟨⟨[1,49,50,51],[1],[]⟩,[.ptr 1 0,.t (.slc (.st 46)),.t (.int .i64),.t (.int .i64)],[.blk 30 [.t (.slc (.int .i64)),.t (.int .i64),.t (.slc (.st 46))]]⟩⟩] [.slc (.st 46),.int .i64,.int .i64,.slc (.st 43),.int .i64,.int .i64,.slc (.int .i64),.int .i64,.slc (.st 46),.int .i64,.slc (.st 43)] [[.bool],[.slc (.st 46),.int .i64,.int .i64,.slc (.int .i64),.int .i64,.slc (.st 46)]] qan_l19
theorem qan_ok19:LoopR kk env0 Tryz.f7.ntmps qan_b19 qan_lp19:=
  loopG qan_i19 qan_t19 (ko known13) (L:=jnL) (zaab (bs:=[]) (by kernel_rfl) trivial) (by kernel_rfl) (fun _=>by kernel_rfl) (zaaa _) (fun _=>by kernel_rfl)
def qan_b10:Code:=(zaag (zaaf Tryz.f7) 1)
def qan_L10:Nat→Option (Lift.Loop U):=fun n=>bif Nat.beq n zaam then some zaaj else bif Nat.beq n 19 then some qan_lp19 else none
def qan_lp10:Lift.Loop U:=lpG ⟨⟨[1,49,50,51],[1],[]⟩,[.ptr 1 0,.t (.slc (.st 46)),.t (.int .i64),.t (.int .i64)],[.blk 30 [.t (.slc (.int .i64)),.t (.int .i64),.t (.slc (.st 46))]]⟩ [⟨.ret,⟨⟨[2],[],[]⟩,[.t .bool],[]⟩⟩,⟨.exit 2,⟨⟨[],[],[]⟩,[],[]⟩⟩] [.slc (.st 46),.int .i64,.int .i64,.slc (.int .i64),.int .i64,.slc (.st 46)] [[.bool],[]] qan_l10
theorem qan_ok10:LoopR kk env0 Tryz.f7.ntmps qan_b10 qan_lp10:=
  loopG qan_i10 qan_t10 (ko known13) (L:=qan_L10) (zaab (bs:=[qan_b19]) (by kernel_rfl) ⟨.inr ⟨_,by kernel_rfl,zaai.of_round (qan_ok19)⟩,trivial⟩) (by kernel_rfl) (fun _=>by kernel_rfl) (zaaa _) (fun _=>by kernel_rfl)
def qan_L:Nat→Option (Lift.Loop U):=fun n=>bif Nat.beq n zaam then some zaaj else bif Nat.beq n 4 then some qan_lp4 else bif Nat.beq n 10 then some qan_lp10 else none
def qan_md:Mode U:=mdG ⟨⟨[0],[],[]⟩,[.t (.st 30)],[]⟩ [] [⟨⟨[0],[],[]⟩,[.t .bool],[]⟩] [.st 30] [[.bool]] qan
theorem qan_post:zaad kk env0 7 qan_md:=
  fnG (fn:=Tryz.f7) (ko known13) (by kernel_rfl) (L:=qan_L) (zaab (bs:=[qan_b4,qan_b10]) (by kernel_rfl) ⟨.inr ⟨_,by kernel_rfl,zaai.of_round (qan_ok4)⟩,.inr ⟨_,by kernel_rfl,zaai.of_round (qan_ok10)⟩,trivial⟩) (zaaa _) (by kernel_rfl)
def ms14:List (FuncId×Mode U):=(7,qan_md)::ms13
theorem known14:Known kk env0 (zaac ms14):=known_cons (by kernel_rfl) qan_post known13
def qbp_md:Mode U:=mdG ⟨⟨[0,1],[100000],[⟨.cell 100000 1,200001,5,(.int .u8)⟩]⟩,[.ptr 100000 0,.t .str],[.blk 73 [.selfp 100000,.oslc 200001],.row 5 (.int .u8)]⟩ [⟨100000,.slot 0,[]⟩] [⟨⟨[0,1],[100000],[⟨.cell 100000 1,200001,5,(.int .u8)⟩]⟩,[.t (.int .i64),.t .err],[.blk 73 [.selfp 100000,.oslc 200001],.row 5 (.int .u8)]⟩] [.str,.slc (.int .u8)] [[.int .i64,.err,.slc (.int .u8)]] qbp
theorem qbp_post:zaad kk env0 35 qbp_md:=
  fnG (fn:=Tryz.f35) (ko known14) (by kernel_rfl) (L:=noL) (zaab (bs:=[]) (by kernel_rfl) trivial) (zaaa _) (by kernel_rfl)
def ms15:List (FuncId×Mode U):=(35,qbp_md)::ms14
theorem known15:Known kk env0 (zaac ms15):=known_cons (by kernel_rfl) qbp_post known14
def qbo_md:Mode U:=mdG ⟨⟨[0,1],[100000],[⟨.cell 100000 1,200001,5,(.int .u8)⟩]⟩,[.ptr 100000 0,.t (.int .u8)],[.blk 73 [.selfp 100000,.oslc 200001],.row 5 (.int .u8)]⟩ [⟨100000,.slot 0,[]⟩] [⟨⟨[0],[100000],[⟨.cell 100000 1,200001,5,(.int .u8)⟩]⟩,[.t .err],[.blk 73 [.selfp 100000,.oslc 200001],.row 5 (.int .u8)]⟩] [.int .u8,.slc (.int .u8)] [[.err,.slc (.int .u8)]] qbo
theorem qbo_post:zaad kk env0 37 qbo_md:=
  fnG (fn:=Tryz.f37) (ko known15) (by kernel_rfl) (L:=noL) (zaab (bs:=[]) (by kernel_rfl) trivial) (zaaa _) (by kernel_rfl)
def ms16:List (FuncId×Mode U):=(37,qbo_md)::ms15
theorem known16:Known kk env0 (zaac ms16):=known_cons (by kernel_rfl) qbo_post known15
def qap_b2:Code:=(zaag (zaaf Tryz.f24) 0)
def qap_lp2:Lift.Loop U:=lpG ⟨⟨[0,11,12,13],[100000],[⟨.cell 100000 1,200001,5,(.int .u8)⟩]⟩,[.ptr 100000 0,.t (.slc (.int .i64)),.t (.int .i64),.t (.int .i64)],[.blk 73 [.selfp 100000,.oslc 200001],.row 5 (.int .u8)]⟩ [⟨.exit 0,⟨⟨[0],[100000],[⟨.cell 100000 1,200001,5,(.int .u8)⟩]⟩,[.ptr 100000 0],[.blk 73 [.selfp 100000,.oslc 200001],.row 5 (.int .u8)]⟩⟩] [.slc (.int .i64),.int .i64,.int .i64,.slc (.int .u8)] [[.slc (.int .u8)]] qap_l2
theorem qap_ok2:LoopR kk env0 Tryz.f24.ntmps qap_b2 qap_lp2:=
  loopG qap_i2 qap_t2 (ko known16) (L:=jnL) (zaab (bs:=[]) (by kernel_rfl) trivial) (by kernel_rfl) (fun _=>by kernel_rfl) (zaaa _) (fun _=>by kernel_rfl)
def qap_L:Nat→Option (Lift.Loop U):=fun n=>bif Nat.beq n zaam then some zaaj else bif Nat.beq n 2 then some qap_lp2 else none
def qap_md:Mode U:=mdG ⟨⟨[0,1,2],[100000],[⟨.cell 100000 1,200001,5,(.int .u8)⟩]⟩,[.ptr 100000 0,.t .str,.t (.slc (.int .i64))],[.blk 73 [.selfp 100000,.oslc 200001],.row 5 (.int .u8)]⟩ [⟨100000,.slot 0,[]⟩] [⟨⟨[],[100000],[⟨.cell 100000 1,200001,5,(.int .u8)⟩]⟩,[],[.blk 73 [.selfp 100000,.oslc 200001],.row 5 (.int .u8)]⟩] [.str,.slc (.int .i64),.slc (.int .u8)] [[.slc (.int .u8)]] qap
theorem qap_post:zaad kk env0 24 qap_md:=
  fnG (fn:=Tryz.f24) (ko known16) (by kernel_rfl) (L:=qap_L) (zaab (bs:=[qap_b2]) (by kernel_rfl) ⟨.inr ⟨_,by kernel_rfl,zaai.of_round (qap_ok2)⟩,trivial⟩) (zaaa _) (by kernel_rfl)
def ms17:List (FuncId×Mode U):=(24,qap_md)::ms16
theorem known17:Known kk env0 (zaac ms17):=known_cons (by kernel_rfl) qap_post known16
def qal_b12:Code:=(zaag (zaag (zaaf Tryz.f8) 0) 0)
def qal_lp12:Lift.Loop U:=lpG ⟨⟨[4,5,23,24,25,34,35,36],[4],[⟨.slot 5,5,78,(.st 78)⟩,⟨.cell 4 1,20201,5,(.int .u8)⟩]⟩,[.ptr 4 0,.oslc 5,.t (.slc (.st 46)),.t (.int .i64),.t (.int .i64),.t (.slc (.st 43)),.t (.int .i64),.t (.int .i64)],[.blk 73 [.selfp 4,.oslc 20201],.row 78 (.st 78),.row 5 (.int .u8)]⟩ [⟨.exit 2,⟨⟨[4,5,23,24,25],[4],[⟨.slot 5,5,78,(.st 78)⟩,⟨.cell 4 1,20201,5,(.int .u8)⟩]⟩,[.ptr 4 0,.oslc 5,.t (.slc (.st 46)),.t (.int .i64),.t (.int .i64)],[.blk 73 [.selfp 4,.oslc 20201],.row 78 (.st 78),.row 5 (.int .u8)]⟩⟩] [.slc (.st 46),.int .i64,.int .i64,.slc (.st 43),.int .i64,.int .i64,.slc (.st 78),.slc (.int .u8)] [[.slc (.st 46),.int .i64,.int .i64,.slc (.st 78),.slc (.int .u8)]] qal_l12
theorem qal_ok12:LoopR kk env0 Tryz.f8.ntmps qal_b12 qal_lp12:=
  loopG qal_i12 qal_t12 (ko known17) (L:=jnL) (zaab (bs:=[]) (by kernel_rfl) trivial) (by kernel_rfl) (fun _=>by kernel_rfl) (zaaa _) (fun _=>by kernel_rfl)
def qal_b8:Code:=(zaag (zaaf Tryz.f8) 0)
def qal_L8:Nat→Option (Lift.Loop U):=fun n=>bif Nat.beq n zaam then some zaaj else bif Nat.beq n 12 then some qal_lp12 else none
def qal_lp8:Lift.Loop U:=lpG ⟨⟨[4,5,23,24,25],[4],[⟨.slot 5,5,78,(.st 78)⟩,⟨.cell 4 1,20201,5,(.int .u8)⟩]⟩,[.ptr 4 0,.oslc 5,.t (.slc (.st 46)),.t (.int .i64),.t (.int .i64)],[.blk 73 [.selfp 4,.oslc 20201],.row 78 (.st 78),.row 5 (.int .u8)]⟩ [⟨.exit 0,⟨⟨[4],[4],[⟨.cell 4 1,20201,5,(.int .u8)⟩]⟩,[.ptr 4 0],[.blk 73 [.selfp 4,.oslc 20201],.row 5 (.int .u8)]⟩⟩] [.slc (.st 46),.int .i64,.int .i64,.slc (.st 78),.slc (.int .u8)] [[.slc (.int .u8)]] qal_l8
theorem qal_ok8:LoopR kk env0 Tryz.f8.ntmps qal_b8 qal_lp8:=
  loopG qal_i8 qal_t8 (ko known17) (L:=qal_L8) (zaab (bs:=[qal_b12]) (by kernel_rfl) ⟨.inr ⟨_,by kernel_rfl,zaai.of_round (qal_ok12)⟩,trivial⟩) (by kernel_rfl) (fun _=>by kernel_rfl) (zaaa _) (fun _=>by kernel_rfl)
def qal_L:Nat→Option (Lift.Loop U):=fun n=>bif Nat.beq n zaam then some zaaj else bif Nat.beq n 8 then some qal_lp8 else none
def qal_md:Mode U:=mdG ⟨⟨[0],[],[]⟩,[.t (.st 30)],[]⟩ [] [⟨⟨[0,1],[],[]⟩,[.t .str,.t (.int .i64)],[]⟩] [.st 30] [[.str,.int .i64]] qal
theorem qal_post:zaad kk env0 8 qal_md:=
  fnG (fn:=Tryz.f8) (ko known17) (by kernel_rfl) (L:=qal_L) (zaab (bs:=[qal_b8]) (by kernel_rfl) ⟨.inr ⟨_,by kernel_rfl,zaai.of_round (qal_ok8)⟩,trivial⟩) (zaaa _) (by kernel_rfl)
def ms18:List (FuncId×Mode U):=(8,qal_md)::ms17
theorem known18:Known kk env0 (zaac ms18):=known_cons (by kernel_rfl) qal_post known17
def qaC_md:Mode U:=mdG ⟨⟨[0,1],[],[]⟩,[.t .str,.t .str],[]⟩ [] [⟨⟨[0],[],[]⟩,[.t .bool],[]⟩] [.str,.str] [[.bool]] qaC
theorem qaC_post:zaad kk env0 118 qaC_md:=
  fnG (fn:=Tryz.f118) (ko known18) (by kernel_rfl) (L:=jnL) (zaab (bs:=[]) (by kernel_rfl) trivial) (zaaa _) (by kernel_rfl)
def ms19:List (FuncId×Mode U):=(118,qaC_md)::ms18
theorem known19:Known kk env0 (zaac ms19):=known_cons (by kernel_rfl) qaC_post known18
def qaD_md:Mode U:=mdG ⟨⟨[0,1],[],[]⟩,[.t .str,.t .str],[]⟩ [] [⟨⟨[0],[],[]⟩,[.t .str],[]⟩] [.str,.str] [[.str]] qaD
theorem qaD_post:zaad kk env0 100 qaD_md:=
  fnG (fn:=Tryz.f100) (ko known19) (by kernel_rfl) (L:=jnL) (zaab (bs:=[]) (by kernel_rfl) trivial) (zaaa _) (by kernel_rfl)
def ms20:List (FuncId×Mode U):=(100,qaD_md)::ms19
theorem known20:Known kk env0 (zaac ms20):=known_cons (by kernel_rfl) qaD_post known19
def qbq_md:Mode U:=mdG ⟨⟨[0,1],[],[]⟩,[.t .str,.t .str],[]⟩ [] [⟨⟨[0],[],[]⟩,[.t .str],[]⟩] [.str,.str] [[.str]] qbq
theorem qbq_post:zaad kk env0 84 qbq_md:=
  fnG (fn:=Tryz.f84) (ko known20) (by kernel_rfl) (L:=noL) (zaab (bs:=[]) (by kernel_rfl) trivial) (zaaa _) (by kernel_rfl)
def ms21:List (FuncId×Mode U):=(84,qbq_md)::ms20
theorem known21:Known kk env0 (zaac ms21):=known_cons (by kernel_rfl) qbq_post known20
def qaq_md:Mode U:=mdG ⟨⟨[0],[],[]⟩,[.t .str],[]⟩ [] [⟨⟨[0,1],[],[]⟩,[.t (.int .i64),.t .bool],[]⟩] [.str] [[.int .i64,.bool]] qaq
theorem qaq_post:zaad kk env0 61 qaq_md:=
  fnG (fn:=Tryz.f61) (ko known21) (by kernel_rfl) (L:=jnL) (zaab (bs:=[]) (by kernel_rfl) trivial) (zaaa _) (by kernel_rfl)
def ms22:List (FuncId×Mode U):=(61,qaq_md)::ms21
theorem known22:Known kk env0 (zaac ms22):=known_cons (by kernel_rfl) qaq_post known21
def qat_b4:Code:=(zaag (zaaf Tryz.f39) 0)
def qat_lp4:Lift.Loop U:=lpG ⟨⟨[5,6,14,15,16],[],[⟨.slot 6,6,3,(.int .i64)⟩]⟩,[.t (.slc .str),.oslc 6,.t (.slc .str),.t (.int .i64),.t (.int .i64)],[.row 3 (.int .i64)]⟩ [⟨.ret,⟨⟨[2,3,4],[],[]⟩,[.t .str,.nil,.t .bool],[]⟩⟩,⟨.exit 0,⟨⟨[5,6],[],[⟨.slot 6,6,3,(.int .i64)⟩]⟩,[.t (.slc .str),.oslc 6],[.row 3 (.int .i64)]⟩⟩] [.slc .str,.slc .str,.int .i64,.int .i64,.slc (.int .i64)] [[.str,.bool],[.slc .str,.slc (.int .i64)]] qat_l4
theorem qat_ok4:LoopR kk env0 Tryz.f39.ntmps qat_b4 qat_lp4:=
  loopG qat_i4 qat_t4 (ko known22) (L:=jnL) (zaab (bs:=[]) (by kernel_rfl) trivial) (by kernel_rfl) (fun _=>by kernel_rfl) (zaaa _) (fun _=>by kernel_rfl)
def qat_L:Nat→Option (Lift.Loop U):=fun n=>bif Nat.beq n zaam then some zaaj else bif Nat.beq n 4 then some qat_lp4 else none
def qat_md:Mode U:=mdG ⟨⟨[0],[],[]⟩,[.t .str],[]⟩ [] [⟨⟨[0,1,2],[],[⟨.slot 1,100051,3,(.int .i64)⟩]⟩,[.t .str,.oslc 100051,.t .bool],[.row 3 (.int .i64)]⟩] [.str] [[.str,.bool,.slc (.int .i64)]] qat
theorem qat_post:zaad kk env0 39 qat_md:=
  fnG (fn:=Tryz.f39) (ko known22) (by kernel_rfl) (L:=qat_L) (zaab (bs:=[qat_b4]) (by kernel_rfl) ⟨.inr ⟨_,by kernel_rfl,zaai.of_round (qat_ok4)⟩,trivial⟩) (zaaa _) (by kernel_rfl)
def ms23:List (FuncId×Mode U):=(39,qat_md)::ms22
theorem known23:Known kk env0 (zaac ms23):=known_cons (by kernel_rfl) qat_post known22
def qbh_md:Mode U:=mdG ⟨⟨[0],[],[⟨.slot 0,0,3,(.int .i64)⟩]⟩,[.oslc 0],[.row 3 (.int .i64)]⟩ [] [⟨⟨[0],[],[⟨.slot 0,100050,3,(.int .i64)⟩]⟩,[.oslc 100050],[.row 3 (.int .i64)]⟩] [.slc (.int .i64)] [[.slc (.int .i64)]] qbh
theorem qbh_post:zaad kk env0 16 qbh_md:=
  fnG (fn:=Tryz.f16) (ko known23) (by kernel_rfl) (L:=jnL) (zaab (bs:=[]) (by kernel_rfl) trivial) (zaaa _) (by kernel_rfl)
def ms24:List (FuncId×Mode U):=(16,qbh_md)::ms23
theorem known24:Known kk env0 (zaac ms24):=known_cons (by kernel_rfl) qbh_post known23
def qav_md:Mode U:=mdG ⟨⟨[0,1,2],[100000,100001],[⟨.cell 100001 0,200100,3,(.int .i64)⟩]⟩,[.t (.st 78),.ptr 100000 0,.ptr 100001 0],[.blk 9 [.t .str],.blk 22 [.oslc 200100],.row 3 (.int .i64)]⟩ [⟨100000,.slot 1,[]⟩,⟨100001,.slot 2,[]⟩] [⟨⟨[0],[100000,100001],[⟨.cell 100001 0,200100,3,(.int .i64)⟩]⟩,[.t .bool],[.blk 9 [.t .str],.blk 22 [.oslc 200100],.row 3 (.int .i64)]⟩] [.st 78,.str,.slc (.int .i64)] [[.bool,.str,.slc (.int .i64)]] qav
theorem qav_post:zaad kk env0 41 qav_md:=
  fnG (fn:=Tryz.f41) (ko known24) (by kernel_rfl) (L:=jnL) (zaab (bs:=[]) (by kernel_rfl) trivial) (zaaa _) (by kernel_rfl)
def ms25:List (FuncId×Mode U):=(41,qav_md)::ms24
theorem known25:Known kk env0 (zaac ms25):=known_cons (by kernel_rfl) qav_post known24
def qbm_b2:Code:=(zaag (zaaf Tryz.f40) 0)
def qbm_lp2:Lift.Loop U:=lpG ⟨⟨[0,1,7,8],[100000,100001],[⟨.cell 100001 0,200100,3,(.int .i64)⟩]⟩,[.t (.slc (.st 78)),.clo 41 [.ptr 100000 0,.ptr 100001 0],.t (.int .i64),.t (.int .i64)],[.blk 9 [.t .str],.blk 22 [.oslc 200100],.row 3 (.int .i64)]⟩ [⟨.ret,⟨⟨[4],[100000,100001],[⟨.cell 100001 0,200100,3,(.int .i64)⟩]⟩,[.t (.int .i64)],[.blk 9 [.t .str],.blk 22 [.oslc 200100],.row 3 (.int .i64)]⟩⟩,⟨.exit 0,⟨⟨[],[100000,100001],[⟨.cell 100001 0,200100,3,(.int .i64)⟩]⟩,[],[.blk 9 [.t .str],.blk 22 [.oslc 200100],.row 3 (.int .i64)]⟩⟩] [.slc (.st 78),.int .i64,.int .i64,.str,.slc (.int .i64)] [[.int .i64,.str,.slc (.int .i64)],[.str,.slc (.int .i64)]] qbm_l2
theorem qbm_ok2:LoopR kk env0 Tryz.f40.ntmps qbm_b2 qbm_lp2:=
  loopG qbm_i2 qbm_t2 (ko known25) (L:=jnL) (zaab (bs:=[]) (by kernel_rfl) trivial) (by kernel_rfl) (fun _=>by kernel_rfl) (zaaa _) (fun _=>by kernel_rfl)
def qbm_L:Nat→Option (Lift.Loop U):=fun n=>bif Nat.beq n zaam then some zaaj else bif Nat.beq n 2 then some qbm_lp2 else none
def qbm_md:Mode U:=mdG ⟨⟨[0,1],[100000,100001],[⟨.cell 100001 0,200100,3,(.int .i64)⟩]⟩,[.t (.slc (.st 78)),.clo 41 [.ptr 100000 0,.ptr 100001 0]],[.blk 9 [.t .str],.blk 22 [.oslc 200100],.row 3 (.int .i64)]⟩ [⟨100000,.slot 1,[0]⟩,⟨100001,.slot 1,[1]⟩] [⟨⟨[0],[100000,100001],[⟨.cell 100001 0,200100,3,(.int .i64)⟩]⟩,[.t (.int .i64)],[.blk 9 [.t .str],.blk 22 [.oslc 200100],.row 3 (.int .i64)]⟩] [.slc (.st 78),.str,.slc (.int .i64)] [[.int .i64,.str,.slc (.int .i64)]] qbm
theorem qbm_post:zaad kk env0 40 qbm_md:=
  fnG (fn:=Tryz.f40) (ko known25) (by kernel_rfl) (L:=qbm_L) (zaab (bs:=[qbm_b2]) (by kernel_rfl) ⟨.inr ⟨_,by kernel_rfl,zaai.of_round (qbm_ok2)⟩,trivial⟩) (zaaa _) (by kernel_rfl)
def ms26:List (FuncId×Mode U):=(40,qbm_md)::ms25
theorem known26:Known kk env0 (zaac ms26):=known_cons (by kernel_rfl) qbm_post known25
def qau_L:Nat→Option (Lift.Loop U):=fun n=>bif Nat.beq n zaam then some zaaj else some zas1
def qau_md:Mode U:=mdG ⟨⟨[0,1,2],[100000],[⟨.cell 100000 0,200000,3,(.int .i64)⟩,⟨.cell 100000 2,200002,46,(.st 1046)⟩]⟩,[.ptr 100000 0,.t (.int .i64),.t .str],[.blk 30 [.oslc 200000,.t (.int .i64),.oslc 200002],.row 3 (.int .i64),.row 46 (.st 1046)]⟩ [⟨100000,.slot 0,[]⟩] [⟨⟨[0],[100000],[⟨.cell 100000 0,200000,3,(.int .i64)⟩,⟨.cell 100000 2,200002,46,(.st 1046)⟩]⟩,[.t .bool],[.blk 30 [.oslc 200000,.t (.int .i64),.oslc 200002],.row 3 (.int .i64),.row 46 (.st 1046)]⟩] [.int .i64,.str,.int .i64,.slc (.int .i64),.slc (.st 1046)] [[.bool,.int .i64,.slc (.int .i64),.slc (.st 1046)]] qau
theorem qau_post:zaad kk env0 27 qau_md:=
  fnG (fn:=Tryz.f27) (ko known26) (by kernel_rfl) (L:=qau_L) (zaab (bs:=[(zaag (zaaf Tryz.f27) 0)]) (by kernel_rfl) ⟨.inr ⟨_,by kernel_rfl,unrOk⟩,trivial⟩) (zaaa _) (by kernel_rfl)
def ms27:List (FuncId×Mode U):=(27,qau_md)::ms26
theorem known27:Known kk env0 (zaac ms27):=known_cons (by kernel_rfl) qau_post known26
def qam_b3:Code:=(zaag (zaaf Tryz.f9) 0)
def qam_lp3:Lift.Loop U:=lpG ⟨⟨[0,2,3,4,5,6],[2,3,4],[⟨.cell 4 0,20200,3,(.int .i64)⟩,⟨.cell 4 2,20202,46,(.st 1046)⟩]⟩,[.t .str,.ptr 2 0,.ptr 3 0,.ptr 4 0,.t (.int .i64),.t (.int .i64)],[.blk 30 [.nil,.t (.int .i64),.nil],.blk 38 [.t (.int .i64),.t (.int .i64),.t .str],.blk 30 [.oslc 20200,.t (.int .i64),.oslc 20202],.row 3 (.int .i64),.row 46 (.st 1046)]⟩ [⟨.ret,⟨⟨[2,3],[2,3],[]⟩,[.ptr 2 0,.ptr 3 0],[.blk 30 [.nil,.t (.int .i64),.nil],.blk 38 [.t (.int .i64),.t (.int .i64),.t .str]]⟩⟩,⟨.exit 0,⟨⟨[2,3,4,5,6],[2,3,4],[⟨.cell 4 0,20200,3,(.int .i64)⟩,⟨.cell 4 2,20202,46,(.st 1046)⟩]⟩,[.ptr 2 0,.ptr 3 0,.ptr 4 0,.t (.int .i64),.t (.int .i64)],[.blk 30 [.nil,.t (.int .i64),.nil],.blk 38 [.t (.int .i64),.t (.int .i64),.t .str],.blk 30 [.oslc 20200,.t (.int .i64),.oslc 20202],.row 3 (.int .i64),.row 46 (.st 1046)]⟩⟩] [.str,.int .i64,.int .i64,.int .i64,.int .i64,.int .i64,.str,.int .i64,.slc (.int .i64),.slc (.st 1046)] [[.int .i64,.int .i64,.int .i64,.str],[.int .i64,.int .i64,.int .i64,.int .i64,.int .i64,.str,.int .i64,.slc (.int .i64),.slc (.st 1046)]] qam_l3
theorem qam_ok3:LoopR kk env0 Tryz.f9.ntmps qam_b3 qam_lp3:=
  loopG qam_i3 qam_t3 (ko known27) (L:=noL) (zaab (bs:=[]) (by kernel_rfl) trivial) (by kernel_rfl) (fun _=>by kernel_rfl) (zaaa _) (fun _=>by kernel_rfl)
def qam_L:Nat→Option (Lift.Loop U):=fun n=>bif Nat.beq n 3 then some qam_lp3 else none
def qam_md:Mode U:=mdG ⟨⟨[0],[],[]⟩,[.t .str],[]⟩ [] [⟨⟨[0,1],[],[⟨.sub 0 0,100100,3,(.int .i64)⟩,⟨.sub 0 2,100300,46,(.st 1046)⟩]⟩,[.agg [.oslc 100100,.t (.int .i64),.oslc 100300],.t (.st 38)],[.row 3 (.int .i64),.row 46 (.st 1046)]⟩] [.str] [[.int .i64,.st 38,.slc (.int .i64),.slc (.st 1046)]] qam
theorem qam_post:zaad kk env0 9 qam_md:=
  fnG (fn:=Tryz.f9) (ko known27) (by kernel_rfl) (L:=qam_L) (zaab (bs:=[qam_b3]) (by kernel_rfl) ⟨.inr ⟨_,by kernel_rfl,zaai.of_round (qam_ok3)⟩,trivial⟩) (zaaa _) (by kernel_rfl)
def ms28:List (FuncId×Mode U):=(9,qam_md)::ms27
theorem known28:Known kk env0 (zaac ms28):=known_cons (by kernel_rfl) qam_post known27
def qa9_b4:Code:=(zaag (zaaf Tryz.f10) 0)
def qa9_lp4:Lift.Loop U:=lpG ⟨⟨[2,3,5],[2,3],[]⟩,[.ptr 2 0,.ptr 3 0,.t (.int .i64)],[.blk 30 [.t (.slc (.int .i64)),.t (.int .i64),.t (.slc (.st 46))],.blk 30 [.t (.slc (.int .i64)),.t (.int .i64),.t (.slc (.st 46))]]⟩ [⟨.ret,⟨⟨[4],[],[]⟩,[.t .bool],[]⟩⟩,⟨.exit 0,⟨⟨[2,3],[2,3],[]⟩,[.ptr 2 0,.ptr 3 0],[.blk 30 [.t (.slc (.int .i64)),.t (.int .i64),.t (.slc (.st 46))],.blk 30 [.t (.slc (.int .i64)),.t (.int .i64),.t (.slc (.st 46))]]⟩⟩] [.int .i64,.slc (.int .i64),.int .i64,.slc (.st 46),.slc (.int .i64),.int .i64,.slc (.st 46)] [[.bool],[.slc (.int .i64),.int .i64,.slc (.st 46),.slc (.int .i64),.int .i64,.slc (.st 46)]] qa9_l4
theorem qa9_ok4:LoopR kk env0 Tryz.f10.ntmps qa9_b4 qa9_lp4:=
  loopG qa9_i4 qa9_t4 (ko known28) (L:=jnL) (zaab (bs:=[]) (by kernel_rfl) trivial) (by kernel_rfl) (fun _=>by kernel_rfl) (zaaa _) (fun _=>by kernel_rfl)
def qa9_b16:Code:=(zaag (zaag (zaaf Tryz.f10) 1) 0)
def qa9_lp16:Lift.Loop U:=lpG ⟨⟨[2,3,6,7,8,9],[2,3,7,8],[]⟩,[.ptr 2 0,.ptr 3 0,.t (.int .i64),.ptr 7 0,.ptr 8 0,.t (.int .i64)],[.blk 30 [.t (.slc (.int .i64)),.t (.int .i64),.t (.slc (.st 46))],.blk 30 [.t (.slc (.int .i64)),.t (.int .i64),.t (.slc (.st 46))],.blk 46 [.t (.int .i64),.t (.slc (.st 43))],.blk 46 [.t (.int .i64),.t (.slc (.st 43))]]⟩ [⟨.ret,⟨⟨[4],[],[]⟩,[.t .bool],[]⟩⟩,⟨.exit 4,⟨⟨[2,3,6],[2,3],[]⟩,[.ptr 2 0,.ptr 3 0,.t (.int .i64)],[.blk 30 [.t (.slc (.int .i64)),.t (.int .i64),.t (.slc (.st 46))],.blk 30 [.t (.slc (.int .i64)),.t (.int .i64),.t (.slc (.st 46))]]⟩⟩] [.int .i64,.int .i64,.slc (.int .i64),.int .i64,.slc (.st 46),.slc (.int .i64),.int .i64,.slc (.st 46),.int .i64,.slc (.st 43),.int .i64,.slc (.st 43)] [[.bool],[.int .i64,.slc (.int .i64),.int .i64,.slc (.st 46),.slc (.int .i64),.int .i64,.slc (.st 46)]] qa9_l16
theorem qa9_ok16:LoopR kk env0 Tryz.f10.ntmps qa9_b16 qa9_lp16:=
  loopG qa9_i16 qa9_t16 (ko known28) (L:=jnL) (zaab (bs:=[]) (by kernel_rfl) trivial) (by kernel_rfl) (fun _=>by kernel_rfl) (zaaa _) (fun _=>by kernel_rfl)
def qa9_b9:Code:=(zaag (zaaf Tryz.f10) 1)
def qa9_L9:Nat→Option (Lift.Loop U):=fun n=>bif Nat.beq n zaam then some zaaj else bif Nat.beq n 16 then some qa9_lp16 else none
def qa9_lp9:Lift.Loop U:=lpG ⟨⟨[2,3,6],[2,3],[]⟩,[.ptr 2 0,.ptr 3 0,.t (.int .i64)],[.blk 30 [.t (.slc (.int .i64)),.t (.int .i64),.t (.slc (.st 46))],.blk 30 [.t (.slc (.int .i64)),.t (.int .i64),.t (.slc (.st 46))]]⟩ [⟨.ret,⟨⟨[4],[],[]⟩,[.t .bool],[]⟩⟩,⟨.exit 2,⟨⟨[],[],[]⟩,[],[]⟩⟩] [.int .i64,.slc (.int .i64),.int .i64,.slc (.st 46),.slc (.int .i64),.int .i64,.slc (.st 46)] [[.bool],[]] qa9_l9
theorem qa9_ok9:LoopR kk env0 Tryz.f10.ntmps qa9_b9 qa9_lp9:=
  loopG qa9_i9 qa9_t9 (ko known28) (L:=qa9_L9) (zaab (bs:=[qa9_b16]) (by kernel_rfl) ⟨.inr ⟨_,by kernel_rfl,zaai.of_round (qa9_ok16)⟩,trivial⟩) (by kernel_rfl) (fun _=>by kernel_rfl) (zaaa _) (fun _=>by kernel_rfl)
def qa9_L:Nat→Option (Lift.Loop U):=fun n=>bif Nat.beq n zaam then some zaaj else bif Nat.beq n 4 then some qa9_lp4 else bif Nat.beq n 9 then some qa9_lp9 else none
def qa9_md:Mode U:=mdG ⟨⟨[0,1],[],[]⟩,[.t (.st 30),.t (.st 30)],[]⟩ [] [⟨⟨[0],[],[]⟩,[.t .bool],[]⟩] [.st 30,.st 30] [[.bool]] qa9
theorem qa9_post:zaad kk env0 10 qa9_md:=
  fnG (fn:=Tryz.f10) (ko known28) (by kernel_rfl) (L:=qa9_L) (zaab (bs:=[qa9_b4,qa9_b9]) (by kernel_rfl) ⟨.inr ⟨_,by kernel_rfl,zaai.of_round (qa9_ok4)⟩,.inr ⟨_,by kernel_rfl,zaai.of_round (qa9_ok9)⟩,trivial⟩) (zaaa _) (by kernel_rfl)
def ms29:List (FuncId×Mode U):=(10,qa9_md)::ms28
theorem known29:Known kk env0 (zaac ms29):=known_cons (by kernel_rfl) qa9_post known28
def qaT_md:Mode U:=mdG ⟨⟨[],[],[]⟩,[],[]⟩ [] [⟨⟨[0],[],[]⟩,[.t .bool],[]⟩] [] [[.bool]] qaT
theorem qaT_post:zaad kk env0 4 qaT_md:=
  fnG (fn:=Tryz.f4) (ko known29) (by kernel_rfl) (L:=jnL) (zaab (bs:=[]) (by kernel_rfl) trivial) (zaaa _) (by kernel_rfl)
def ms30:List (FuncId×Mode U):=(4,qaT_md)::ms29
theorem known30:Known kk env0 (zaac ms30):=known_cons (by kernel_rfl) qaT_post known29
def qaY_md:Mode U:=mdG ⟨⟨[0],[],[]⟩,[.t (.int .i64)],[]⟩ [] [⟨⟨[0,1,2,3,4,5],[],[]⟩,[.t .bool,.t .bool,.t .bool,.t .bool,.t .bool,.t .bool],[]⟩] [.int .i64] [[.bool,.bool,.bool,.bool,.bool,.bool]] qaY
theorem qaY_post:zaad kk env0 42 qaY_md:=
  fnG (fn:=Tryz.f42) (ko known30) (by kernel_rfl) (L:=jnL) (zaab (bs:=[]) (by kernel_rfl) trivial) (zaaa _) (by kernel_rfl)
def ms31:List (FuncId×Mode U):=(42,qaY_md)::ms30
theorem known31:Known kk env0 (zaac ms31):=known_cons (by kernel_rfl) qaY_post known30
abbrev qa7_tr:Type:=curT U (sumT U [[.bool]]) [.st 87,.int .i64]
def qa7_rmd (rec_qa7:qa7_tr):Mode U:=mdG ⟨⟨[0,1],[],[]⟩,[.t (.st 87),.t (.int .i64)],[]⟩ [] [⟨⟨[0],[],[]⟩,[.t .bool],[]⟩] [.st 87,.int .i64] [[.bool]] rec_qa7
abbrev qa7_rec (r:qa7_tr):Prop:=zaad kk env0 43 (qa7_rmd r)
def ms32 (rec_qa7:qa7_tr):List (FuncId×Mode U):=(43,(qa7_rmd rec_qa7))::ms31
theorem known32 (rec_qa7:qa7_tr) (hrec_qa7:qa7_rec rec_qa7):Known kk env0 (zaac (ms32 rec_qa7)):=known_cons (by kernel_rfl) hrec_qa7 known31
def qa7_b13:Code:=(zaag (zaaf Tryz.f43) 0)
def qa7_lp13 (rec_qa7:qa7_tr):Lift.Loop U:=lpG ⟨⟨[1,2,6],[2],[]⟩,[.t (.int .i64),.ptr 2 0,.t (.int .i64)],[.blk 87 [.t (.int .i64),.t (.int .i64),.t .str,.t (.slc (.st 87))]]⟩ [⟨.ret,⟨⟨[4],[],[]⟩,[.t .bool],[]⟩⟩,⟨.exit 1,⟨⟨[],[],[]⟩,[],[]⟩⟩] [.int .i64,.int .i64,.int .i64,.int .i64,.str,.slc (.st 87)] [[.bool],[]] (qa7_l13 rec_qa7)
theorem qa7_ok13 (rec_qa7:qa7_tr) (hrec_qa7:qa7_rec rec_qa7):LoopR kk env0 Tryz.f43.ntmps qa7_b13 (qa7_lp13 rec_qa7):=
  loopG (qa7_i13 rec_qa7) (qa7_t13 rec_qa7) (ko (known32 rec_qa7 hrec_qa7)) (L:=jnL) (zaab (bs:=[]) (by kernel_rfl) trivial) (by kernel_rfl) (fun _=>by kernel_rfl) (zaaa _) (fun _=>by kernel_rfl)
def qa7_L (rec_qa7:qa7_tr):Nat→Option (Lift.Loop U):=fun n=>bif Nat.beq n zaam then some zaaj else bif Nat.beq n 13 then some (qa7_lp13 rec_qa7) else none
def qa7_md:Mode U:=qa7_rmd qa7
theorem qa7_step (rec_qa7:qa7_tr) (hrec_qa7:qa7_rec rec_qa7):zaat (Kit.withModes kk (zaac (ms32 rec_qa7))) env0 Tryz.f43.ntmps (qa7_L rec_qa7) (zaaf Tryz.f43):=zaab (bs:=[qa7_b13]) (by kernel_rfl) ⟨.inr ⟨_,by kernel_rfl,zaai.of_round (qa7_ok13 rec_qa7 hrec_qa7)⟩,trivial⟩
theorem qa7_post:zaad kk env0 43 (qa7_rmd qa7):=
  recG qa7_i qa7_f (by kernel_rfl) (fun _=>by kernel_rfl) (zaaa _) fun r ih=>fnG (fn:=Tryz.f43) (ko (known32 r ih)) (by kernel_rfl) (qa7_step r ih) rfl (by kernel_rfl)
def ms33:List (FuncId×Mode U):=(43,qa7_md)::ms31
theorem known33:Known kk env0 (zaac ms33):=known_cons (by kernel_rfl) qa7_post known31
def qaZ_md:Mode U:=mdG ⟨⟨[0],[],[]⟩,[.t (.st 87)],[]⟩ [] [⟨⟨[0],[],[]⟩,[.t .bool],[]⟩] [.st 87] [[.bool]] qaZ
theorem qaZ_post:zaad kk env0 44 qaZ_md:=
  fnG (fn:=Tryz.f44) (ko known33) (by kernel_rfl) (L:=jnL) (zaab (bs:=[]) (by kernel_rfl) trivial) (zaaa _) (by kernel_rfl)
def ms34:List (FuncId×Mode U):=(44,qaZ_md)::ms33
theorem known34:Known kk env0 (zaac ms34):=known_cons (by kernel_rfl) qaZ_post known33
def qa8_md:Mode U:=mdG ⟨⟨[0,1],[],[]⟩,[.t (.int .i64),.t (.st 25)],[]⟩ [] [⟨⟨[0],[],[]⟩,[.t (.int .i64)],[]⟩] [.int .i64,.st 25] [[.int .i64]] qa8
theorem qa8_post:zaad kk env0 45 qa8_md:=
  fnG (fn:=Tryz.f45) (ko known34) (by kernel_rfl) (L:=jnL) (zaab (bs:=[]) (by kernel_rfl) trivial) (zaaa _) (by kernel_rfl)
def ms35:List (FuncId×Mode U):=(45,qa8_md)::ms34
theorem known35:Known kk env0 (zaac ms35):=known_cons (by kernel_rfl) qa8_post known34
abbrev qa6_tr:Type:=curT U (sumT U [[.bool]]) [.slc (.st 89),.int .i64,.st 25]
def qa6_rmd (rec_qa6:qa6_tr):Mode U:=mdG ⟨⟨[0,1,2],[],[]⟩,[.t (.slc (.st 89)),.t (.int .i64),.t (.st 25)],[]⟩ [] [⟨⟨[0],[],[]⟩,[.t .bool],[]⟩] [.slc (.st 89),.int .i64,.st 25] [[.bool]] rec_qa6
abbrev qa6_rec (r:qa6_tr):Prop:=zaad kk env0 11 (qa6_rmd r)
def ms36 (rec_qa6:qa6_tr):List (FuncId×Mode U):=(11,(qa6_rmd rec_qa6))::ms35
theorem known36 (rec_qa6:qa6_tr) (hrec_qa6:qa6_rec rec_qa6):Known kk env0 (zaac (ms36 rec_qa6)):=known_cons (by kernel_rfl) hrec_qa6 known35
def qa5_md (rec_qa6:qa6_tr):Mode U:=mdG ⟨⟨[0,1,2],[],[]⟩,[.t (.st 89),.t (.int .i64),.t (.st 25)],[]⟩ [] [⟨⟨[0],[],[]⟩,[.t .bool],[]⟩] [.st 89,.int .i64,.st 25] [[.bool]] (qa5 rec_qa6)
theorem qa5_post (rec_qa6:qa6_tr) (hrec_qa6:qa6_rec rec_qa6):zaad kk env0 28 (qa5_md rec_qa6):=
  fnG (fn:=Tryz.f28) (ko (known36 rec_qa6 hrec_qa6)) (by kernel_rfl) (L:=jnL) (zaab (bs:=[]) (by kernel_rfl) trivial) (zaaa _) (by kernel_rfl)
def ms37 (rec_qa6:qa6_tr):List (FuncId×Mode U):=(28,(qa5_md rec_qa6))::(ms36 rec_qa6)
theorem known37 (rec_qa6:qa6_tr) (hrec_qa6:qa6_rec rec_qa6):Known kk env0 (zaac (ms37 rec_qa6)):=known_cons (by kernel_rfl) (qa5_post rec_qa6 hrec_qa6) (known36 rec_qa6 hrec_qa6)
def qa6_b2:Code:=(zaag (zaaf Tryz.f11) 0)
def qa6_lp2 (rec_qa6:qa6_tr):Lift.Loop U:=lpG ⟨⟨[0,1,5,7],[5],[]⟩,[.t (.slc (.st 89)),.t (.int .i64),.ptr 5 0,.t (.int .i64)],[.blk 25 [.t (.slc (.int .i64)),.t (.int .i64),.t (.slc (.st 54))]]⟩ [⟨.ret,⟨⟨[6],[],[]⟩,[.t .bool],[]⟩⟩,⟨.exit 0,⟨⟨[],[],[]⟩,[],[]⟩⟩] [.slc (.st 89),.int .i64,.int .i64,.slc (.int .i64),.int .i64,.slc (.st 54)] [[.bool],[]] (qa6_l2 rec_qa6)
theorem qa6_ok2 (rec_qa6:qa6_tr) (hrec_qa6:qa6_rec rec_qa6):LoopR kk env0 Tryz.f11.ntmps qa6_b2 (qa6_lp2 rec_qa6):=
  loopG (qa6_i2 rec_qa6) (qa6_t2 rec_qa6) (ko (known37 rec_qa6 hrec_qa6)) (L:=jnL) (zaab (bs:=[]) (by kernel_rfl) trivial) (by kernel_rfl) (fun _=>by kernel_rfl) (zaaa _) (fun _=>by kernel_rfl)
def qa6_L (rec_qa6:qa6_tr):Nat→Option (Lift.Loop U):=fun n=>bif Nat.beq n zaam then some zaaj else bif Nat.beq n 2 then some (qa6_lp2 rec_qa6) else none
def qa6_md:Mode U:=qa6_rmd qa6
theorem qa6_step (rec_qa6:qa6_tr) (hrec_qa6:qa6_rec rec_qa6):zaat (Kit.withModes kk (zaac (ms37 rec_qa6))) env0 Tryz.f11.ntmps (qa6_L rec_qa6) (zaaf Tryz.f11):=zaab (bs:=[qa6_b2]) (by kernel_rfl) ⟨.inr ⟨_,by kernel_rfl,zaai.of_round (qa6_ok2 rec_qa6 hrec_qa6)⟩,trivial⟩
theorem qa6_post:zaad kk env0 11 (qa6_rmd qa6):=
  recG qa6_i qa6_f (by kernel_rfl) (fun _=>by kernel_rfl) (zaaa _) fun r ih=>fnG (fn:=Tryz.f11) (ko (known37 r ih)) (by kernel_rfl) (qa6_step r ih) rfl (by kernel_rfl)
def ms38:List (FuncId×Mode U):=(11,qa6_md)::ms35
theorem known38:Known kk env0 (zaac ms38):=known_cons (by kernel_rfl) qa6_post known35
abbrev qa3_tr:Type:=curT U (sumT U [[.slc (.st 91)]]) [.slc (.st 89)]
def qa3_rmd (rec_qa3:qa3_tr):Mode U:=mdG ⟨⟨[0],[],[]⟩,[.t (.slc (.st 89))],[]⟩ [] [⟨⟨[0],[],[⟨.slot 0,100050,91,(.st 91)⟩]⟩,[.oslc 100050],[.row 91 (.st 91)]⟩] [.slc (.st 89)] [[.slc (.st 91)]] rec_qa3
abbrev qa3_rec (r:qa3_tr):Prop:=zaad kk env0 12 (qa3_rmd r)
def ms39 (rec_qa3:qa3_tr):List (FuncId×Mode U):=(12,(qa3_rmd rec_qa3))::ms38
theorem known39 (rec_qa3:qa3_tr) (hrec_qa3:qa3_rec rec_qa3):Known kk env0 (zaac (ms39 rec_qa3)):=known_cons (by kernel_rfl) hrec_qa3 known38
def qa3_b3:Code:=(zaag (zaaf Tryz.f12) 0)
def qa3_lp3 (rec_qa3:qa3_tr):Lift.Loop U:=lpG ⟨⟨[0,3,4],[],[⟨.slot 3,3,91,(.st 91)⟩]⟩,[.t (.slc (.st 89)),.oslc 3,.t (.int .i64)],[.row 91 (.st 91)]⟩ [⟨.exit 0,⟨⟨[3],[],[⟨.slot 3,3,91,(.st 91)⟩]⟩,[.oslc 3],[.row 91 (.st 91)]⟩⟩] [.slc (.st 89),.int .i64,.slc (.st 91)] [[.slc (.st 91)]] (qa3_l3 rec_qa3)
theorem qa3_ok3 (rec_qa3:qa3_tr) (hrec_qa3:qa3_rec rec_qa3):LoopR kk env0 Tryz.f12.ntmps qa3_b3 (qa3_lp3 rec_qa3):=
  loopG (qa3_i3 rec_qa3) (qa3_t3 rec_qa3) (ko (known39 rec_qa3 hrec_qa3)) (L:=jnL) (zaab (bs:=[]) (by kernel_rfl) trivial) (by kernel_rfl) (fun _=>by kernel_rfl) (zaaa _) (fun _=>by kernel_rfl)
def qa3_L (rec_qa3:qa3_tr):Nat→Option (Lift.Loop U):=fun n=>bif Nat.beq n zaam then some zaaj else bif Nat.beq n 3 then some (qa3_lp3 rec_qa3) else none
def qa3_md:Mode U:=qa3_rmd qa3
theorem qa3_step (rec_qa3:qa3_tr) (hrec_qa3:qa3_rec rec_qa3):zaat (Kit.withModes kk (zaac (ms39 rec_qa3))) env0 Tryz.f12.ntmps (qa3_L rec_qa3) (zaaf Tryz.f12):=zaab (bs:=[qa3_b3]) (by kernel_rfl) ⟨.inr ⟨_,by kernel_rfl,zaai.of_round (qa3_ok3 rec_qa3 hrec_qa3)⟩,trivial⟩
theorem qa3_post:zaad kk env0 12 (qa3_rmd qa3):=
  recG qa3_i qa3_f (by kernel_rfl) (fun _=>by kernel_rfl) (zaaa _) fun r ih=>fnG (fn:=Tryz.f12) (ko (known39 r ih)) (by kernel_rfl) (qa3_step r ih) rfl (by kernel_rfl)
def ms40:List (FuncId×Mode U):=(12,qa3_md)::ms38
theorem known40:Known kk env0 (zaac ms40):=known_cons (by kernel_rfl) qa3_post known38
def qa2_md:Mode U:=mdG ⟨⟨[0],[],[]⟩,[.t (.st 87)],[]⟩ [] [⟨⟨[0],[],[]⟩,[.t .bool],[]⟩] [.st 87] [[.bool]] qa2
theorem qa2_post:zaad kk env0 46 qa2_md:=
  fnG (fn:=Tryz.f46) (ko known40) (by kernel_rfl) (L:=jnL) (zaab (bs:=[]) (by kernel_rfl) trivial) (zaaa _) (by kernel_rfl)
def ms41:List (FuncId×Mode U):=(46,qa2_md)::ms40
theorem known41:Known kk env0 (zaac ms41):=known_cons (by kernel_rfl) qa2_post known40
abbrev qaX_tr:Type:=curT U (sumT U [[.int .i64]]) [.st 87]
def qaX_rmd (rec_qaX:qaX_tr):Mode U:=mdG ⟨⟨[0],[],[]⟩,[.t (.st 87)],[]⟩ [] [⟨⟨[0],[],[]⟩,[.t (.int .i64)],[]⟩] [.st 87] [[.int .i64]] rec_qaX
abbrev qaX_rec (r:qaX_tr):Prop:=zaad kk env0 47 (qaX_rmd r)
def ms42 (rec_qaX:qaX_tr):List (FuncId×Mode U):=(47,(qaX_rmd rec_qaX))::ms41
theorem known42 (rec_qaX:qaX_tr) (hrec_qaX:qaX_rec rec_qaX):Known kk env0 (zaac (ms42 rec_qaX)):=known_cons (by kernel_rfl) hrec_qaX known41
def qaX_b3:Code:=(zaag (zaaf Tryz.f47) 0)
def qaX_lp3 (rec_qaX:qaX_tr):Lift.Loop U:=lpG ⟨⟨[1,3,4],[1],[]⟩,[.ptr 1 0,.t (.int .i64),.t (.int .i64)],[.blk 87 [.t (.int .i64),.t (.int .i64),.t .str,.t (.slc (.st 87))]]⟩ [⟨.exit 0,⟨⟨[3],[],[]⟩,[.t (.int .i64)],[]⟩⟩] [.int .i64,.int .i64,.int .i64,.int .i64,.str,.slc (.st 87)] [[.int .i64]] (qaX_l3 rec_qaX)
theorem qaX_ok3 (rec_qaX:qaX_tr) (hrec_qaX:qaX_rec rec_qaX):LoopR kk env0 Tryz.f47.ntmps qaX_b3 (qaX_lp3 rec_qaX):=
  loopG (qaX_i3 rec_qaX) (qaX_t3 rec_qaX) (ko (known42 rec_qaX hrec_qaX)) (L:=jnL) (zaab (bs:=[]) (by kernel_rfl) trivial) (by kernel_rfl) (fun _=>by kernel_rfl) (zaaa _) (fun _=>by kernel_rfl)
def qaX_L (rec_qaX:qaX_tr):Nat→Option (Lift.Loop U):=fun n=>bif Nat.beq n zaam then some zaaj else bif Nat.beq n 3 then some (qaX_lp3 rec_qaX) else none
def qaX_md:Mode U:=qaX_rmd qaX
theorem qaX_step (rec_qaX:qaX_tr) (hrec_qaX:qaX_rec rec_qaX):zaat (Kit.withModes kk (zaac (ms42 rec_qaX))) env0 Tryz.f47.ntmps (qaX_L rec_qaX) (zaaf Tryz.f47):=zaab (bs:=[qaX_b3]) (by kernel_rfl) ⟨.inr ⟨_,by kernel_rfl,zaai.of_round (qaX_ok3 rec_qaX hrec_qaX)⟩,trivial⟩
theorem qaX_post:zaad kk env0 47 (qaX_rmd qaX):=
  recG qaX_i qaX_f (by kernel_rfl) (fun _=>by kernel_rfl) (zaaa _) fun r ih=>fnG (fn:=Tryz.f47) (ko (known42 r ih)) (by kernel_rfl) (qaX_step r ih) rfl (by kernel_rfl)
def ms43:List (FuncId×Mode U):=(47,qaX_md)::ms41
theorem known43:Known kk env0 (zaac ms43):=known_cons (by kernel_rfl) qaX_post known41
abbrev qa1_tr:Type:=curT U (sumT U [[.int .i64]]) [.slc (.st 91),.int .i64]
def qa1_rmd (rec_qa1:qa1_tr):Mode U:=mdG ⟨⟨[0,1],[],[]⟩,[.t (.slc (.st 91)),.t (.int .i64)],[]⟩ [] [⟨⟨[0],[],[]⟩,[.t (.int .i64)],[]⟩] [.slc (.st 91),.int .i64] [[.int .i64]] rec_qa1
abbrev qa1_rec (r:qa1_tr):Prop:=zaad kk env0 29 (qa1_rmd r)
def ms44 (rec_qa1:qa1_tr):List (FuncId×Mode U):=(29,(qa1_rmd rec_qa1))::ms43
theorem known44 (rec_qa1:qa1_tr) (hrec_qa1:qa1_rec rec_qa1):Known kk env0 (zaac (ms44 rec_qa1)):=known_cons (by kernel_rfl) hrec_qa1 known43
def qa1_b3:Code:=(zaag (zaaf Tryz.f29) 0)
def qa1_lp3 (rec_qa1:qa1_tr):Lift.Loop U:=lpG ⟨⟨[0,1,5,6],[],[]⟩,[.t (.slc (.st 91)),.t (.int .i64),.t (.int .i64),.t (.int .i64)],[]⟩ [⟨.exit 0,⟨⟨[5],[],[]⟩,[.t (.int .i64)],[]⟩⟩] [.slc (.st 91),.int .i64,.int .i64,.int .i64] [[.int .i64]] (qa1_l3 rec_qa1)
theorem qa1_ok3 (rec_qa1:qa1_tr) (hrec_qa1:qa1_rec rec_qa1):LoopR kk env0 Tryz.f29.ntmps qa1_b3 (qa1_lp3 rec_qa1):=
  loopG (qa1_i3 rec_qa1) (qa1_t3 rec_qa1) (ko (known44 rec_qa1 hrec_qa1)) (L:=jnL) (zaab (bs:=[]) (by kernel_rfl) trivial) (by kernel_rfl) (fun _=>by kernel_rfl) (zaaa _) (fun _=>by kernel_rfl)
def qa1_L (rec_qa1:qa1_tr):Nat→Option (Lift.Loop U):=fun n=>bif Nat.beq n zaam then some zaaj else bif Nat.beq n 3 then some (qa1_lp3 rec_qa1) else none
def qa1_md:Mode U:=qa1_rmd qa1
theorem qa1_step (rec_qa1:qa1_tr) (hrec_qa1:qa1_rec rec_qa1):zaat (Kit.withModes kk (zaac (ms44 rec_qa1))) env0 Tryz.f29.ntmps (qa1_L rec_qa1) (zaaf Tryz.f29):=zaab (bs:=[qa1_b3]) (by kernel_rfl) ⟨.inr ⟨_,by kernel_rfl,zaai.of_round (qa1_ok3 rec_qa1 hrec_qa1)⟩,trivial⟩
theorem qa1_post:zaad kk env0 29 (qa1_rmd qa1):=
  recG qa1_i qa1_f (by kernel_rfl) (fun _=>by kernel_rfl) (zaaa _) fun r ih=>fnG (fn:=Tryz.f29) (ko (known44 r ih)) (by kernel_rfl) (qa1_step r ih) rfl (by kernel_rfl)
def ms45:List (FuncId×Mode U):=(29,qa1_md)::ms43
theorem known45:Known kk env0 (zaac ms45):=known_cons (by kernel_rfl) qa1_post known43
def qaV_b3:Code:=(zaag (zaaf Tryz.f13) 0)
def qaV_lp3:Lift.Loop U:=lpG ⟨⟨[1,3,4],[1],[]⟩,[.ptr 1 0,.t (.int .i64),.t (.int .i64)],[.blk 51 [.t (.slc (.st 123)),.t (.slc .str),.t (.slc (.st 59))]]⟩ [⟨.exit 0,⟨⟨[3],[],[]⟩,[.t (.int .i64)],[]⟩⟩] [.int .i64,.int .i64,.slc (.st 123),.slc .str,.slc (.st 59)] [[.int .i64]] qaV_l3
theorem qaV_ok3:LoopR kk env0 Tryz.f13.ntmps qaV_b3 qaV_lp3:=
  loopG qaV_i3 qaV_t3 (ko known45) (L:=jnL) (zaab (bs:=[]) (by kernel_rfl) trivial) (by kernel_rfl) (fun _=>by kernel_rfl) (zaaa _) (fun _=>by kernel_rfl)
def qaV_L:Nat→Option (Lift.Loop U):=fun n=>bif Nat.beq n zaam then some zaaj else bif Nat.beq n 3 then some qaV_lp3 else none
def qaV_md:Mode U:=mdG ⟨⟨[0],[],[]⟩,[.t (.st 51)],[]⟩ [] [⟨⟨[0],[],[]⟩,[.t (.int .i64)],[]⟩] [.st 51] [[.int .i64]] qaV
theorem qaV_post:zaad kk env0 13 qaV_md:=
  fnG (fn:=Tryz.f13) (ko known45) (by kernel_rfl) (L:=qaV_L) (zaab (bs:=[qaV_b3]) (by kernel_rfl) ⟨.inr ⟨_,by kernel_rfl,zaai.of_round (qaV_ok3)⟩,trivial⟩) (zaaa _) (by kernel_rfl)
def ms46:List (FuncId×Mode U):=(13,qaV_md)::ms45
theorem known46:Known kk env0 (zaac ms46):=known_cons (by kernel_rfl) qaV_post known45
abbrev qaW_tr:Type:=curT U (sumT U [[.int .i64]]) [.st 87]
def qaW_rmd (rec_qaW:qaW_tr):Mode U:=mdG ⟨⟨[0],[],[]⟩,[.t (.st 87)],[]⟩ [] [⟨⟨[0],[],[]⟩,[.t (.int .i64)],[]⟩] [.st 87] [[.int .i64]] rec_qaW
abbrev qaW_rec (r:qaW_tr):Prop:=zaad kk env0 48 (qaW_rmd r)
def ms47 (rec_qaW:qaW_tr):List (FuncId×Mode U):=(48,(qaW_rmd rec_qaW))::ms46
theorem known47 (rec_qaW:qaW_tr) (hrec_qaW:qaW_rec rec_qaW):Known kk env0 (zaac (ms47 rec_qaW)):=known_cons (by kernel_rfl) hrec_qaW known46
def qaW_b3:Code:=(zaag (zaaf Tryz.f48) 0)
def qaW_lp3 (rec_qaW:qaW_tr):Lift.Loop U:=lpG ⟨⟨[1,3,4],[1],[]⟩,[.ptr 1 0,.t (.int .i64),.t (.int .i64)],[.blk 87 [.t (.int .i64),.t (.int .i64),.t .str,.t (.slc (.st 87))]]⟩ [⟨.exit 0,⟨⟨[3],[],[]⟩,[.t (.int .i64)],[]⟩⟩] [.int .i64,.int .i64,.int .i64,.int .i64,.str,.slc (.st 87)] [[.int .i64]] (qaW_l3 rec_qaW)
theorem qaW_ok3 (rec_qaW:qaW_tr) (hrec_qaW:qaW_rec rec_qaW):LoopR kk env0 Tryz.f48.ntmps qaW_b3 (qaW_lp3 rec_qaW):=
  loopG (qaW_i3 rec_qaW) (qaW_t3 rec_qaW) (ko (known47 rec_qaW hrec_qaW)) (L:=jnL) (zaab (bs:=[]) (by kernel_rfl) trivial) (by kernel_rfl) (fun _=>by kernel_rfl) (zaaa _) (fun _=>by kernel_rfl)
def qaW_L (rec_qaW:qaW_tr):Nat→Option (Lift.Loop U):=fun n=>bif Nat.beq n zaam then some zaaj else bif Nat.beq n 3 then some (qaW_lp3 rec_qaW) else none
def qaW_md:Mode U:=qaW_rmd qaW
theorem qaW_step (rec_qaW:qaW_tr) (hrec_qaW:qaW_rec rec_qaW):zaat (Kit.withModes kk (zaac (ms47 rec_qaW))) env0 Tryz.f48.ntmps (qaW_L rec_qaW) (zaaf Tryz.f48):=zaab (bs:=[qaW_b3]) (by kernel_rfl) ⟨.inr ⟨_,by kernel_rfl,zaai.of_round (qaW_ok3 rec_qaW hrec_qaW)⟩,trivial⟩
theorem qaW_post:zaad kk env0 48 (qaW_rmd qaW):=
  recG qaW_i qaW_f (by kernel_rfl) (fun _=>by kernel_rfl) (zaaa _) fun r ih=>fnG (fn:=Tryz.f48) (ko (known47 r ih)) (by kernel_rfl) (qaW_step r ih) rfl (by kernel_rfl)
def ms48:List (FuncId×Mode U):=(48,qaW_md)::ms46
theorem known48:Known kk env0 (zaac ms48):=known_cons (by kernel_rfl) qaW_post known46
abbrev qa0_tr:Type:=curT U (sumT U [[.int .i64]]) [.slc (.st 91)]
def qa0_rmd (rec_qa0:qa0_tr):Mode U:=mdG ⟨⟨[0],[],[]⟩,[.t (.slc (.st 91))],[]⟩ [] [⟨⟨[0],[],[]⟩,[.t (.int .i64)],[]⟩] [.slc (.st 91)] [[.int .i64]] rec_qa0
abbrev qa0_rec (r:qa0_tr):Prop:=zaad kk env0 30 (qa0_rmd r)
def ms49 (rec_qa0:qa0_tr):List (FuncId×Mode U):=(30,(qa0_rmd rec_qa0))::ms48
theorem known49 (rec_qa0:qa0_tr) (hrec_qa0:qa0_rec rec_qa0):Known kk env0 (zaac (ms49 rec_qa0)):=known_cons (by kernel_rfl) hrec_qa0 known48
def qa0_b3:Code:=(zaag (zaaf Tryz.f30) 0)
def qa0_lp3 (rec_qa0:qa0_tr):Lift.Loop U:=lpG ⟨⟨[0,3,4],[],[]⟩,[.t (.slc (.st 91)),.t (.int .i64),.t (.int .i64)],[]⟩ [⟨.exit 0,⟨⟨[3],[],[]⟩,[.t (.int .i64)],[]⟩⟩] [.slc (.st 91),.int .i64,.int .i64] [[.int .i64]] (qa0_l3 rec_qa0)
theorem qa0_ok3 (rec_qa0:qa0_tr) (hrec_qa0:qa0_rec rec_qa0):LoopR kk env0 Tryz.f30.ntmps qa0_b3 (qa0_lp3 rec_qa0):=
  loopG (qa0_i3 rec_qa0) (qa0_t3 rec_qa0) (ko (known49 rec_qa0 hrec_qa0)) (L:=jnL) (zaab (bs:=[]) (by kernel_rfl) trivial) (by kernel_rfl) (fun _=>by kernel_rfl) (zaaa _) (fun _=>by kernel_rfl)
def qa0_L (rec_qa0:qa0_tr):Nat→Option (Lift.Loop U):=fun n=>bif Nat.beq n zaam then some zaaj else bif Nat.beq n 3 then some (qa0_lp3 rec_qa0) else none
def qa0_md:Mode U:=qa0_rmd qa0
theorem qa0_step (rec_qa0:qa0_tr) (hrec_qa0:qa0_rec rec_qa0):zaat (Kit.withModes kk (zaac (ms49 rec_qa0))) env0 Tryz.f30.ntmps (qa0_L rec_qa0) (zaaf Tryz.f30):=zaab (bs:=[qa0_b3]) (by kernel_rfl) ⟨.inr ⟨_,by kernel_rfl,zaai.of_round (qa0_ok3 rec_qa0 hrec_qa0)⟩,trivial⟩
theorem qa0_post:zaad kk env0 30 (qa0_rmd qa0):=
  recG qa0_i qa0_f (by kernel_rfl) (fun _=>by kernel_rfl) (zaaa _) fun r ih=>fnG (fn:=Tryz.f30) (ko (known49 r ih)) (by kernel_rfl) (qa0_step r ih) rfl (by kernel_rfl)
def ms50:List (FuncId×Mode U):=(30,qa0_md)::ms48
theorem known50:Known kk env0 (zaac ms50):=known_cons (by kernel_rfl) qa0_post known48
def qaU_b3:Code:=(zaag (zaaf Tryz.f14) 0)
def qaU_lp3:Lift.Loop U:=lpG ⟨⟨[1,3,4],[1],[]⟩,[.ptr 1 0,.t (.int .i64),.t (.int .i64)],[.blk 51 [.t (.slc (.st 123)),.t (.slc .str),.t (.slc (.st 59))]]⟩ [⟨.exit 0,⟨⟨[3],[],[]⟩,[.t (.int .i64)],[]⟩⟩] [.int .i64,.int .i64,.slc (.st 123),.slc .str,.slc (.st 59)] [[.int .i64]] qaU_l3
theorem qaU_ok3:LoopR kk env0 Tryz.f14.ntmps qaU_b3 qaU_lp3:=
  loopG qaU_i3 qaU_t3 (ko known50) (L:=jnL) (zaab (bs:=[]) (by kernel_rfl) trivial) (by kernel_rfl) (fun _=>by kernel_rfl) (zaaa _) (fun _=>by kernel_rfl)
def qaU_L:Nat→Option (Lift.Loop U):=fun n=>bif Nat.beq n zaam then some zaaj else bif Nat.beq n 3 then some qaU_lp3 else none
def qaU_md:Mode U:=mdG ⟨⟨[0],[],[]⟩,[.t (.st 51)],[]⟩ [] [⟨⟨[0],[],[]⟩,[.t (.int .i64)],[]⟩] [.st 51] [[.int .i64]] qaU
theorem qaU_post:zaad kk env0 14 qaU_md:=
  fnG (fn:=Tryz.f14) (ko known50) (by kernel_rfl) (L:=qaU_L) (zaab (bs:=[qaU_b3]) (by kernel_rfl) ⟨.inr ⟨_,by kernel_rfl,zaai.of_round (qaU_ok3)⟩,trivial⟩) (zaaa _) (by kernel_rfl)
def ms51:List (FuncId×Mode U):=(14,qaU_md)::ms50
theorem known51:Known kk env0 (zaac ms51):=known_cons (by kernel_rfl) qaU_post known50
def qa4_b4:Code:=(zaag (zaaf Tryz.f5) 0)
def qa4_lp4:Lift.Loop U:=lpG ⟨⟨[1,3],[1],[]⟩,[.ptr 1 0,.t (.int .i64)],[.blk 25 [.t (.slc (.int .i64)),.t (.int .i64),.t (.slc (.st 54))]]⟩ [⟨.ret,⟨⟨[2],[],[]⟩,[.t .bool],[]⟩⟩,⟨.exit 0,⟨⟨[1],[1],[]⟩,[.ptr 1 0],[.blk 25 [.t (.slc (.int .i64)),.t (.int .i64),.t (.slc (.st 54))]]⟩⟩] [.int .i64,.slc (.int .i64),.int .i64,.slc (.st 54)] [[.bool],[.slc (.int .i64),.int .i64,.slc (.st 54)]] qa4_l4
theorem qa4_ok4:LoopR kk env0 Tryz.f5.ntmps qa4_b4 qa4_lp4:=
  loopG qa4_i4 qa4_t4 (ko known51) (L:=jnL) (zaab (bs:=[]) (by kernel_rfl) trivial) (by kernel_rfl) (fun _=>by kernel_rfl) (zaaa _) (fun _=>by kernel_rfl)
def qa4_b10:Code:=(zaag (zaaf Tryz.f5) 1)
def qa4_lp10:Lift.Loop U:=lpG ⟨⟨[1,4,5],[1,4],[⟨.cell 4 2,20202,59,(.st 59)⟩]⟩,[.ptr 1 0,.ptr 4 0,.t (.int .i64)],[.blk 25 [.t (.slc (.int .i64)),.t (.int .i64),.t (.slc (.st 54))],.blk 51 [.nil,.nil,.oslc 20202],.row 59 (.st 59)]⟩ [⟨.ret,⟨⟨[2],[],[]⟩,[.t .bool],[]⟩⟩,⟨.exit 2,⟨⟨[4],[4],[⟨.cell 4 2,20202,59,(.st 59)⟩]⟩,[.ptr 4 0],[.blk 51 [.nil,.nil,.oslc 20202],.row 59 (.st 59)]⟩⟩] [.int .i64,.slc (.int .i64),.int .i64,.slc (.st 54),.slc (.st 59)] [[.bool],[.slc (.st 59)]] qa4_l10
theorem qa4_ok10:LoopR kk env0 Tryz.f5.ntmps qa4_b10 qa4_lp10:=
  loopG qa4_i10 qa4_t10 (ko known51) (L:=jnL) (zaab (bs:=[]) (by kernel_rfl) trivial) (by kernel_rfl) (fun _=>by kernel_rfl) (zaaa _) (fun _=>by kernel_rfl)
def qa4_L:Nat→Option (Lift.Loop U):=fun n=>bif Nat.beq n zaam then some zaaj else bif Nat.beq n 4 then some qa4_lp4 else bif Nat.beq n 10 then some qa4_lp10 else none
def qa4_md:Mode U:=mdG ⟨⟨[0],[],[]⟩,[.t (.st 25)],[]⟩ [] [⟨⟨[0],[],[]⟩,[.t .bool],[]⟩] [.st 25] [[.bool]] qa4
theorem qa4_post:zaad kk env0 5 qa4_md:=
  fnG (fn:=Tryz.f5) (ko known51) (by kernel_rfl) (L:=qa4_L) (zaab (bs:=[qa4_b4,qa4_b10]) (by kernel_rfl) ⟨.inr ⟨_,by kernel_rfl,zaai.of_round (qa4_ok4)⟩,.inr ⟨_,by kernel_rfl,zaai.of_round (qa4_ok10)⟩,trivial⟩) (zaaa _) (by kernel_rfl)
def ms52:List (FuncId×Mode U):=(5,qa4_md)::ms51
theorem known52:Known kk env0 (zaac ms52):=known_cons (by kernel_rfl) qa4_post known51
def qaB_b3:Code:=(zaag (zaaf Tryz.f31) 0)
def qaB_lp3:Lift.Loop U:=lpG ⟨⟨[3,4,5],[],[⟨.slot 3,3,9,.str⟩]⟩,[.oslc 3,.t (.int .i64),.t (.int .i64)],[.row 9 .str]⟩ [⟨.exit 0,⟨⟨[3],[],[⟨.slot 3,3,9,.str⟩]⟩,[.oslc 3],[.row 9 .str]⟩⟩] [.int .i64,.int .i64,.slc .str] [[.slc .str]] qaB_l3
theorem qaB_ok3:LoopR kk env0 Tryz.f31.ntmps qaB_b3 qaB_lp3:=
  loopG qaB_i3 qaB_t3 (ko known52) (L:=jnL) (zaab (bs:=[]) (by kernel_rfl) trivial) (by kernel_rfl) (fun _=>by kernel_rfl) (zaaa _) (fun _=>by kernel_rfl)
def qaB_L:Nat→Option (Lift.Loop U):=fun n=>bif Nat.beq n zaam then some zaaj else bif Nat.beq n 3 then some qaB_lp3 else none
def qaB_md:Mode U:=mdG ⟨⟨[0],[],[]⟩,[.t (.int .i64)],[]⟩ [] [⟨⟨[0],[],[⟨.slot 0,100050,9,.str⟩]⟩,[.oslc 100050],[.row 9 .str]⟩] [.int .i64] [[.slc .str]] qaB
theorem qaB_post:zaad kk env0 31 qaB_md:=
  fnG (fn:=Tryz.f31) (ko known52) (by kernel_rfl) (L:=qaB_L) (zaab (bs:=[qaB_b3]) (by kernel_rfl) ⟨.inr ⟨_,by kernel_rfl,zaai.of_round (qaB_ok3)⟩,trivial⟩) (zaaa _) (by kernel_rfl)
def ms53:List (FuncId×Mode U):=(31,qaB_md)::ms52
theorem known53:Known kk env0 (zaac ms53):=known_cons (by kernel_rfl) qaB_post known52
def qbk_md:Mode U:=mdG ⟨⟨[0],[],[]⟩,[.t (.slc .str)],[]⟩ [] [⟨⟨[0],[],[⟨.slot 0,100050,9,.str⟩]⟩,[.oslc 100050],[.row 9 .str]⟩] [.slc .str] [[.slc .str]] qbk
theorem qbk_post:zaad kk env0 53 qbk_md:=
  fnG (fn:=Tryz.f53) (ko known53) (by kernel_rfl) (L:=jnL) (zaab (bs:=[]) (by kernel_rfl) trivial) (zaaa _) (by kernel_rfl)
def ms54:List (FuncId×Mode U):=(53,qbk_md)::ms53
theorem known54:Known kk env0 (zaac ms54):=known_cons (by kernel_rfl) qbk_post known53
def qbi_md:Mode U:=mdG ⟨⟨[0],[],[⟨.slot 0,0,9,.str⟩]⟩,[.oslc 0],[.row 9 .str]⟩ [] [⟨⟨[0],[],[⟨.slot 0,100050,9,.str⟩]⟩,[.oslc 100050],[.row 9 .str]⟩] [.slc .str] [[.slc .str]] qbi
theorem qbi_post:zaad kk env0 52 qbi_md:=
  fnG (fn:=Tryz.f52) (ko known54) (by kernel_rfl) (L:=jnL) (zaab (bs:=[]) (by kernel_rfl) trivial) (zaaa _) (by kernel_rfl)
def ms55:List (FuncId×Mode U):=(52,qbi_md)::ms54
theorem known55:Known kk env0 (zaac ms55):=known_cons (by kernel_rfl) qbi_post known54
def qax_md:Mode U:=mdG ⟨⟨[0,1],[],[]⟩,[.t (.slc .str),.t (.int .i64)],[]⟩ [] [⟨⟨[0],[],[]⟩,[.t .str],[]⟩] [.slc .str,.int .i64] [[.str]] qax
theorem qax_post:zaad kk env0 74 qax_md:=
  fnG (fn:=Tryz.f74) (ko known55) (by kernel_rfl) (L:=jnL) (zaab (bs:=[]) (by kernel_rfl) trivial) (zaaa _) (by kernel_rfl)
def ms56:List (FuncId×Mode U):=(74,qax_md)::ms55
theorem known56:Known kk env0 (zaac ms56):=known_cons (by kernel_rfl) qax_post known55
abbrev qaa_tr:Type:=curT U (sumT U [[.int .i64,.int .i64,.str,.slc (.st 1087)]]) [.st 126,.st 87]
def qaa_rmd (rec_qaa:qaa_tr):Mode U:=mdG ⟨⟨[0,1],[],[]⟩,[.t (.st 126),.t (.st 87)],[]⟩ [] [⟨⟨[0],[],[⟨.sub 0 3,100400,87,(.st 1087)⟩]⟩,[.agg [.t (.int .i64),.t (.int .i64),.t .str,.oslc 100400]],[.row 87 (.st 1087)]⟩] [.st 126,.st 87] [[.int .i64,.int .i64,.str,.slc (.st 1087)]] rec_qaa
abbrev qaa_rec (r:qaa_tr):Prop:=zaad kk env0 72 (qaa_rmd r)
def ms57 (rec_qaa:qaa_tr):List (FuncId×Mode U):=(72,(qaa_rmd rec_qaa))::ms56
theorem known57 (rec_qaa:qaa_tr) (hrec_qaa:qaa_rec rec_qaa):Known kk env0 (zaac (ms57 rec_qaa)):=known_cons (by kernel_rfl) hrec_qaa known56
def qaa_b8:Code:=(zaag (zaaf Tryz.f72) 0)
def qaa_lp8 (rec_qaa:qaa_tr):Lift.Loop U:=lpG ⟨⟨[2,4,5,30,31,32],[2,4,5],[⟨.cell 5 3,20253,87,(.st 1087)⟩]⟩,[.ptr 2 0,.ptr 4 0,.ptr 5 0,.t (.slc (.st 87)),.t (.int .i64),.t (.int .i64)],[.blk 126 [.t (.slc .str),.t (.slc .str),.t (.slc .str),.t (.slc .str)],.blk 87 [.t (.int .i64),.t (.int .i64),.t .str,.nil],.blk 87 [.t (.int .i64),.t (.int .i64),.t .str,.oslc 20253],.row 87 (.st 1087)]⟩ [⟨.exit 0,⟨⟨[4,5],[4,5],[⟨.cell 5 3,20253,87,(.st 1087)⟩]⟩,[.ptr 4 0,.ptr 5 0],[.blk 87 [.t (.int .i64),.t (.int .i64),.t .str,.nil],.blk 87 [.t (.int .i64),.t (.int .i64),.t .str,.oslc 20253],.row 87 (.st 1087)]⟩⟩] [.slc (.st 87),.int .i64,.int .i64,.slc .str,.slc .str,.slc .str,.slc .str,.int .i64,.int .i64,.str,.int .i64,.int .i64,.str,.slc (.st 1087)] [[.int .i64,.int .i64,.str,.int .i64,.int .i64,.str,.slc (.st 1087)]] (qaa_l8 rec_qaa)
theorem qaa_ok8 (rec_qaa:qaa_tr) (hrec_qaa:qaa_rec rec_qaa):LoopR kk env0 Tryz.f72.ntmps qaa_b8 (qaa_lp8 rec_qaa):=
  loopG (qaa_i8 rec_qaa) (qaa_t8 rec_qaa) (ko (known57 rec_qaa hrec_qaa)) (L:=jnL) (zaab (bs:=[]) (by kernel_rfl) trivial) (by kernel_rfl) (fun _=>by kernel_rfl) (zaaa _) (fun _=>by kernel_rfl)
def qaa_L (rec_qaa:qaa_tr):Nat→Option (Lift.Loop U):=fun n=>bif Nat.beq n zaam then some zaaj else bif Nat.beq n 8 then some (qaa_lp8 rec_qaa) else none
def qaa_md:Mode U:=qaa_rmd qaa
theorem qaa_step (rec_qaa:qaa_tr) (hrec_qaa:qaa_rec rec_qaa):zaat (Kit.withModes kk (zaac (ms57 rec_qaa))) env0 Tryz.f72.ntmps (qaa_L rec_qaa) (zaaf Tryz.f72):=zaab (bs:=[qaa_b8]) (by kernel_rfl) ⟨.inr ⟨_,by kernel_rfl,zaai.of_round (qaa_ok8 rec_qaa hrec_qaa)⟩,trivial⟩
theorem qaa_post:zaad kk env0 72 (qaa_rmd qaa):=
  recG qaa_i qaa_f (by kernel_rfl) (fun _=>by kernel_rfl) (zaaa _) fun r ih=>fnG (fn:=Tryz.f72) (ko (known57 r ih)) (by kernel_rfl) (qaa_step r ih) rfl (by kernel_rfl)
def ms58:List (FuncId×Mode U):=(72,qaa_md)::ms56
theorem known58:Known kk env0 (zaac ms58):=known_cons (by kernel_rfl) qaa_post known56
abbrev qab_tr:Type:=curT U (sumT U [[.slc (.st 1091)]]) [.st 126,.slc (.st 89)]
def qab_rmd (rec_qab:qab_tr):Mode U:=mdG ⟨⟨[0,1],[],[]⟩,[.t (.st 126),.t (.slc (.st 89))],[]⟩ [] [⟨⟨[0],[],[⟨.slot 0,100050,91,(.st 1091)⟩]⟩,[.oslc 100050],[.row 91 (.st 1091)]⟩] [.st 126,.slc (.st 89)] [[.slc (.st 1091)]] rec_qab
abbrev qab_rec (r:qab_tr):Prop:=zaad kk env0 54 (qab_rmd r)
def ms59 (rec_qab:qab_tr):List (FuncId×Mode U):=(54,(qab_rmd rec_qab))::ms58
theorem known59 (rec_qab:qab_tr) (hrec_qab:qab_rec rec_qab):Known kk env0 (zaac (ms59 rec_qab)):=known_cons (by kernel_rfl) hrec_qab known58
def qay_md (rec_qab:qab_tr):Mode U:=mdG ⟨⟨[0],[],[]⟩,[.t (.int .i64)],[]⟩ [] [⟨⟨[0],[],[]⟩,[.t .bool],[]⟩] [.int .i64] [[.bool]] (qay rec_qab)
theorem qay_post (rec_qab:qab_tr) (hrec_qab:qab_rec rec_qab):zaad kk env0 73 (qay_md rec_qab):=
  fnG (fn:=Tryz.f73) (ko (known59 rec_qab hrec_qab)) (by kernel_rfl) (L:=jnL) (zaab (bs:=[]) (by kernel_rfl) trivial) (zaaa _) (by kernel_rfl)
def ms60 (rec_qab:qab_tr):List (FuncId×Mode U):=(73,(qay_md rec_qab))::(ms59 rec_qab)
theorem known60 (rec_qab:qab_tr) (hrec_qab:qab_rec rec_qab):Known kk env0 (zaac (ms60 rec_qab)):=known_cons (by kernel_rfl) (qay_post rec_qab hrec_qab) (known59 rec_qab hrec_qab)
def qaz_md (rec_qab:qab_tr):Mode U:=mdG ⟨⟨[0],[],[]⟩,[.t (.int .i64)],[]⟩ [] [⟨⟨[0],[],[]⟩,[.t (.int .i64)],[]⟩] [.int .i64] [[.int .i64]] (qaz rec_qab)
theorem qaz_post (rec_qab:qab_tr) (hrec_qab:qab_rec rec_qab):zaad kk env0 75 (qaz_md rec_qab):=
  fnG (fn:=Tryz.f75) (ko (known60 rec_qab hrec_qab)) (by kernel_rfl) (L:=jnL) (zaab (bs:=[]) (by kernel_rfl) trivial) (zaaa _) (by kernel_rfl)
def ms61 (rec_qab:qab_tr):List (FuncId×Mode U):=(75,(qaz_md rec_qab))::(ms60 rec_qab)
theorem known61 (rec_qab:qab_tr) (hrec_qab:qab_rec rec_qab):Known kk env0 (zaac (ms61 rec_qab)):=known_cons (by kernel_rfl) (qaz_post rec_qab hrec_qab) (known60 rec_qab hrec_qab)
def qab_b3:Code:=(zaag (zaaf Tryz.f54) 0)
def qab_lp3 (rec_qab:qab_tr):Lift.Loop U:=lpG ⟨⟨[2,5,9,10,11],[2],[⟨.slot 5,5,91,(.st 1091)⟩]⟩,[.ptr 2 0,.oslc 5,.t (.slc (.st 89)),.t (.int .i64),.t (.int .i64)],[.blk 126 [.t (.slc .str),.t (.slc .str),.t (.slc .str),.t (.slc .str)],.row 91 (.st 1091)]⟩ [⟨.exit 0,⟨⟨[5],[],[⟨.slot 5,5,91,(.st 1091)⟩]⟩,[.oslc 5],[.row 91 (.st 1091)]⟩⟩] [.slc (.st 89),.int .i64,.int .i64,.slc .str,.slc .str,.slc .str,.slc .str,.slc (.st 1091)] [[.slc (.st 1091)]] (qab_l3 rec_qab)
theorem qab_ok3 (rec_qab:qab_tr) (hrec_qab:qab_rec rec_qab):LoopR kk env0 Tryz.f54.ntmps qab_b3 (qab_lp3 rec_qab):=
  loopG (qab_i3 rec_qab) (qab_t3 rec_qab) (ko (known61 rec_qab hrec_qab)) (L:=jnL) (zaab (bs:=[]) (by kernel_rfl) trivial) (by kernel_rfl) (fun _=>by kernel_rfl) (zaaa _) (fun _=>by kernel_rfl)
def qab_L (rec_qab:qab_tr):Nat→Option (Lift.Loop U):=fun n=>bif Nat.beq n zaam then some zaaj else bif Nat.beq n 3 then some (qab_lp3 rec_qab) else none
def qab_md:Mode U:=qab_rmd qab
theorem qab_step (rec_qab:qab_tr) (hrec_qab:qab_rec rec_qab):zaat (Kit.withModes kk (zaac (ms61 rec_qab))) env0 Tryz.f54.ntmps (qab_L rec_qab) (zaaf Tryz.f54):=zaab (bs:=[qab_b3]) (by kernel_rfl) ⟨.inr ⟨_,by kernel_rfl,zaai.of_round (qab_ok3 rec_qab hrec_qab)⟩,trivial⟩
theorem qab_post:zaad kk env0 54 (qab_rmd qab):=
  recG qab_i qab_f (by kernel_rfl) (fun _=>by kernel_rfl) (zaaa _) fun r ih=>fnG (fn:=Tryz.f54) (ko (known61 r ih)) (by kernel_rfl) (qab_step r ih) rfl (by kernel_rfl)
def ms62:List (FuncId×Mode U):=(54,qab_md)::ms58
theorem known62:Known kk env0 (zaac ms62):=known_cons (by kernel_rfl) qab_post known58
def qaA_b3:Code:=(zaag (zaaf Tryz.f33) 0)
def qaA_lp3:Lift.Loop U:=lpG ⟨⟨[2,3,4,5,12,13,14],[2,3,4,5],[⟨.cell 5 0,20250,123,(.st 123)⟩]⟩,[.ptr 2 0,.ptr 3 0,.ptr 4 0,.ptr 5 0,.t (.slc (.int .i64)),.t (.int .i64),.t (.int .i64)],[.blk 25 [.t (.slc (.int .i64)),.t (.int .i64),.t (.slc (.st 54))],.blk 97 [.t (.slc .str),.t (.slc .str),.t (.slc .str),.t (.slc (.slc .str))],.blk 51 [.nil,.nil,.nil],.blk 51 [.oslc 20250,.nil,.nil],.row 123 (.st 123)]⟩ [⟨.exit 0,⟨⟨[2,3,4,5],[2,3,4,5],[⟨.cell 5 0,20250,123,(.st 123)⟩]⟩,[.ptr 2 0,.ptr 3 0,.ptr 4 0,.ptr 5 0],[.blk 25 [.t (.slc (.int .i64)),.t (.int .i64),.t (.slc (.st 54))],.blk 97 [.t (.slc .str),.t (.slc .str),.t (.slc .str),.t (.slc (.slc .str))],.blk 51 [.nil,.nil,.nil],.blk 51 [.oslc 20250,.nil,.nil],.row 123 (.st 123)]⟩⟩] [.slc (.int .i64),.int .i64,.int .i64,.slc (.int .i64),.int .i64,.slc (.st 54),.slc .str,.slc .str,.slc .str,.slc (.slc .str),.slc (.st 123)] [[.slc (.int .i64),.int .i64,.slc (.st 54),.slc .str,.slc .str,.slc .str,.slc (.slc .str),.slc (.st 123)]] qaA_l3
theorem qaA_ok3:LoopR kk env0 Tryz.f33.ntmps qaA_b3 qaA_lp3:=
  loopG qaA_i3 qaA_t3 (ko known62) (L:=jnL) (zaab (bs:=[]) (by kernel_rfl) trivial) (by kernel_rfl) (fun _=>by kernel_rfl) (zaaa _) (fun _=>by kernel_rfl)
def qaA_b9:Code:=(zaag (zaaf Tryz.f33) 1)
def qaA_lp9:Lift.Loop U:=lpG ⟨⟨[3,4,5,38,39,40],[3,4,5],[⟨.cell 5 0,20250,123,(.st 123)⟩,⟨.cell 5 1,20251,9,.str⟩,⟨.cell 5 2,20252,59,(.st 1059)⟩]⟩,[.ptr 3 0,.ptr 4 0,.ptr 5 0,.t (.slc (.st 54)),.t (.int .i64),.t (.int .i64)],[.blk 97 [.t (.slc .str),.t (.slc .str),.t (.slc .str),.t (.slc (.slc .str))],.blk 51 [.nil,.nil,.nil],.blk 51 [.oslc 20250,.oslc 20251,.oslc 20252],.row 123 (.st 123),.row 9 .str,.row 59 (.st 1059)]⟩ [⟨.exit 2,⟨⟨[4,5],[4,5],[⟨.cell 5 0,20250,123,(.st 123)⟩,⟨.cell 5 1,20251,9,.str⟩,⟨.cell 5 2,20252,59,(.st 1059)⟩]⟩,[.ptr 4 0,.ptr 5 0],[.blk 51 [.nil,.nil,.nil],.blk 51 [.oslc 20250,.oslc 20251,.oslc 20252],.row 123 (.st 123),.row 9 .str,.row 59 (.st 1059)]⟩⟩] [.slc (.st 54),.int .i64,.int .i64,.slc .str,.slc .str,.slc .str,.slc (.slc .str),.slc (.st 123),.slc .str,.slc (.st 1059)] [[.slc (.st 123),.slc .str,.slc (.st 1059)]] qaA_l9
theorem qaA_ok9:LoopR kk env0 Tryz.f33.ntmps qaA_b9 qaA_lp9:=
  loopG qaA_i9 qaA_t9 (ko known62) (L:=jnL) (zaab (bs:=[]) (by kernel_rfl) trivial) (by kernel_rfl) (fun _=>by kernel_rfl) (zaaa _) (fun _=>by kernel_rfl)
def qaA_L:Nat→Option (Lift.Loop U):=fun n=>bif Nat.beq n zaam then some zaaj else bif Nat.beq n 3 then some qaA_lp3 else bif Nat.beq n 9 then some qaA_lp9 else none
def qaA_md:Mode U:=mdG ⟨⟨[0,1],[],[]⟩,[.t (.st 25),.t (.st 97)],[]⟩ [] [⟨⟨[0],[],[⟨.sub 0 0,100100,123,(.st 123)⟩,⟨.sub 0 1,100200,9,.str⟩,⟨.sub 0 2,100300,59,(.st 1059)⟩]⟩,[.agg [.oslc 100100,.oslc 100200,.oslc 100300]],[.row 123 (.st 123),.row 9 .str,.row 59 (.st 1059)]⟩] [.st 25,.st 97] [[.slc (.st 123),.slc .str,.slc (.st 1059)]] qaA
theorem qaA_post:zaad kk env0 33 qaA_md:=
  fnG (fn:=Tryz.f33) (ko known62) (by kernel_rfl) (L:=qaA_L) (zaab (bs:=[qaA_b3,qaA_b9]) (by kernel_rfl) ⟨.inr ⟨_,by kernel_rfl,zaai.of_round (qaA_ok3)⟩,.inr ⟨_,by kernel_rfl,zaai.of_round (qaA_ok9)⟩,trivial⟩) (zaaa _) (by kernel_rfl)
def ms63:List (FuncId×Mode U):=(33,qaA_md)::ms62
theorem known63:Known kk env0 (zaac ms63):=known_cons (by kernel_rfl) qaA_post known62
def qbG_md:Mode U:=mdG ⟨⟨[0],[],[]⟩,[.t (.int .i32)],[]⟩ [] [⟨⟨[0],[],[]⟩,[.t (.int .i64)],[]⟩] [.int .i32] [[.int .i64]] qbG
theorem qbG_post:zaad kk env0 134 qbG_md:=
  fnG (fn:=Tryz.f134) (ko known63) (by kernel_rfl) (L:=noL) (zaab (bs:=[]) (by kernel_rfl) trivial) (zaaa _) (by kernel_rfl)
def ms64:List (FuncId×Mode U):=(134,qbG_md)::ms63
theorem known64:Known kk env0 (zaac ms64):=known_cons (by kernel_rfl) qbG_post known63
def qbe_b4:Code:=(zaag (zaaf Tryz.f119) 0)
def qbe_lp4:Lift.Loop U:=lpG ⟨⟨[0,3,4,5,10],[3,5,10],[⟨.slot 4,4,193,(.st 193)⟩]⟩,[.t .str,.ptr 3 0,.oslc 4,.ptr 5 0,.ptr 10 0],[.blk 193 [.t (.int .i64),.t (.int .i64),.t (.int .i64),.t (.int .i64)],.blk 193 [.t (.int .i64),.t (.int .i64),.t (.int .i64),.t (.int .i64)],.sit,.row 193 (.st 193)]⟩ [⟨.ret,⟨⟨[2,3],[3],[⟨.slot 2,2,193,(.st 193)⟩]⟩,[.oslc 2,.ptr 3 0],[.blk 193 [.t (.int .i64),.t (.int .i64),.t (.int .i64),.t (.int .i64)],.row 193 (.st 193)]⟩⟩,⟨.exit 0,⟨⟨[3,4,5],[3,5],[⟨.slot 4,4,193,(.st 193)⟩]⟩,[.ptr 3 0,.oslc 4,.ptr 5 0],[.blk 193 [.t (.int .i64),.t (.int .i64),.t (.int .i64),.t (.int .i64)],.blk 193 [.t (.int .i64),.t (.int .i64),.t (.int .i64),.t (.int .i64)],.row 193 (.st 193)]⟩⟩] [.str,.int .i64,.int .i64,.int .i64,.int .i64,.int .i64,.int .i64,.int .i64,.int .i64,.str,.fn,.slc (.st 193)] [[.int .i64,.int .i64,.int .i64,.int .i64,.slc (.st 193)],[.int .i64,.int .i64,.int .i64,.int .i64,.int .i64,.int .i64,.int .i64,.int .i64,.slc (.st 193)]] qbe_l4
theorem qbe_ok4:LoopR kk env0 Tryz.f119.ntmps qbe_b4 qbe_lp4:=
  loopG qbe_i4 qbe_t4 (ko known64) (L:=noL) (zaab (bs:=[]) (by kernel_rfl) trivial) (by kernel_rfl) (fun _=>by kernel_rfl) (zaaa _) (fun _=>by kernel_rfl)
def qbe_L:Nat→Option (Lift.Loop U):=fun n=>bif Nat.beq n 4 then some qbe_lp4 else none
def qbe_md:Mode U:=mdG ⟨⟨[0],[],[]⟩,[.t .str],[]⟩ [] [⟨⟨[0,1],[],[⟨.slot 0,100050,193,(.st 193)⟩]⟩,[.oslc 100050,.t (.st 193)],[.row 193 (.st 193)]⟩] [.str] [[.st 193,.slc (.st 193)]] qbe
theorem qbe_post:zaad kk env0 119 qbe_md:=
  fnG (fn:=Tryz.f119) (ko known64) (by kernel_rfl) (L:=qbe_L) (zaab (bs:=[qbe_b4]) (by kernel_rfl) ⟨.inr ⟨_,by kernel_rfl,zaai.of_round (qbe_ok4)⟩,trivial⟩) (zaaa _) (by kernel_rfl)
def ms65:List (FuncId×Mode U):=(119,qbe_md)::ms64
theorem known65:Known kk env0 (zaac ms65):=known_cons (by kernel_rfl) qbe_post known64
def qbd_md:Mode U:=mdG ⟨⟨[0],[],[]⟩,[.t .str],[]⟩ [] [⟨⟨[0,1],[],[⟨.slot 0,100050,193,(.st 193)⟩]⟩,[.oslc 100050,.t (.st 38)],[.row 193 (.st 193)]⟩] [.str] [[.st 38,.slc (.st 193)]] qbd
theorem qbd_post:zaad kk env0 101 qbd_md:=
  fnG (fn:=Tryz.f101) (ko known65) (by kernel_rfl) (L:=noL) (zaab (bs:=[]) (by kernel_rfl) trivial) (zaaa _) (by kernel_rfl)
def ms66:List (FuncId×Mode U):=(101,qbd_md)::ms65
theorem known66:Known kk env0 (zaac ms66):=known_cons (by kernel_rfl) qbd_post known65
def qba_md:Mode U:=mdG ⟨⟨[0],[],[]⟩,[.t (.int .i64)],[]⟩ [] [⟨⟨[0],[],[]⟩,[.t .bool],[]⟩] [.int .i64] [[.bool]] qba
theorem qba_post:zaad kk env0 120 qba_md:=
  fnG (fn:=Tryz.f120) (ko known66) (by kernel_rfl) (L:=noL) (zaab (bs:=[]) (by kernel_rfl) trivial) (zaaa _) (by kernel_rfl)
def ms67:List (FuncId×Mode U):=(120,qba_md)::ms66
theorem known67:Known kk env0 (zaac ms67):=known_cons (by kernel_rfl) qba_post known66
def qaI_b3:Code:=(zaag (zaaf Tryz.f102) 0)
def qaI_lp3:Lift.Loop U:=lpG ⟨⟨[0,3,7],[7],[]⟩,[.t .str,.t .bool,.ptr 7 0],[.sit]⟩ [⟨.ret,⟨⟨[2],[],[]⟩,[.t (.int .i64)],[]⟩⟩,⟨.exit 0,⟨⟨[0],[],[]⟩,[.t .str],[]⟩⟩] [.str,.bool,.str,.fn] [[.int .i64],[.str]] qaI_l3
theorem qaI_ok3:LoopR kk env0 Tryz.f102.ntmps qaI_b3 qaI_lp3:=
  loopG qaI_i3 qaI_t3 (ko known67) (L:=noL) (zaab (bs:=[]) (by kernel_rfl) trivial) (by kernel_rfl) (fun _=>by kernel_rfl) (zaaa _) (fun _=>by kernel_rfl)
def qaI_L:Nat→Option (Lift.Loop U):=fun n=>bif Nat.beq n 3 then some qaI_lp3 else none
def qaI_md:Mode U:=mdG ⟨⟨[0],[],[]⟩,[.t .str],[]⟩ [] [⟨⟨[0],[],[]⟩,[.t (.int .i64)],[]⟩] [.str] [[.int .i64]] qaI
theorem qaI_post:zaad kk env0 102 qaI_md:=
  fnG (fn:=Tryz.f102) (ko known67) (by kernel_rfl) (L:=qaI_L) (zaab (bs:=[qaI_b3]) (by kernel_rfl) ⟨.inr ⟨_,by kernel_rfl,zaai.of_round (qaI_ok3)⟩,trivial⟩) (zaaa _) (by kernel_rfl)
def ms68:List (FuncId×Mode U):=(102,qaI_md)::ms67
theorem known68:Known kk env0 (zaac ms68):=known_cons (by kernel_rfl) qaI_post known67
def qbH_md:Mode U:=mdG ⟨⟨[0],[],[]⟩,[.t (.int .i32)],[]⟩ [] [⟨⟨[0],[],[]⟩,[.t .bool],[]⟩] [.int .i32] [[.bool]] qbH
theorem qbH_post:zaad kk env0 149 qbH_md:=
  fnG (fn:=Tryz.f149) (ko known68) (by kernel_rfl) (L:=noL) (zaab (bs:=[]) (by kernel_rfl) trivial) (zaaa _) (by kernel_rfl)
def ms69:List (FuncId×Mode U):=(149,qbH_md)::ms68
theorem known69:Known kk env0 (zaac ms69):=known_cons (by kernel_rfl) qbH_post known68
def qbf_md:Mode U:=mdG ⟨⟨[0],[],[]⟩,[.t (.int .i64)],[]⟩ [] [⟨⟨[0],[],[]⟩,[.t .bool],[]⟩] [.int .i64] [[.bool]] qbf
theorem qbf_post:zaad kk env0 141 qbf_md:=
  fnG (fn:=Tryz.f141) (ko known69) (by kernel_rfl) (L:=noL) (zaab (bs:=[]) (by kernel_rfl) trivial) (zaaa _) (by kernel_rfl)
def ms70:List (FuncId×Mode U):=(141,qbf_md)::ms69
theorem known70:Known kk env0 (zaac ms70):=known_cons (by kernel_rfl) qbf_post known69
def qbc_md:Mode U:=mdG ⟨⟨[0],[],[]⟩,[.t (.int .i64)],[]⟩ [] [⟨⟨[0],[],[]⟩,[.t .bool],[]⟩] [.int .i64] [[.bool]] qbc
theorem qbc_post:zaad kk env0 135 qbc_md:=
  fnG (fn:=Tryz.f135) (ko known70) (by kernel_rfl) (L:=noL) (zaab (bs:=[]) (by kernel_rfl) trivial) (zaaa _) (by kernel_rfl)
def ms71:List (FuncId×Mode U):=(135,qbc_md)::ms70
theorem known71:Known kk env0 (zaac ms71):=known_cons (by kernel_rfl) qbc_post known70
def qbb_md:Mode U:=mdG ⟨⟨[0],[],[]⟩,[.t (.int .i64)],[]⟩ [] [⟨⟨[0],[],[]⟩,[.t .bool],[]⟩] [.int .i64] [[.bool]] qbb
theorem qbb_post:zaad kk env0 124 qbb_md:=
  fnG (fn:=Tryz.f124) (ko known71) (by kernel_rfl) (L:=noL) (zaab (bs:=[]) (by kernel_rfl) trivial) (zaaa _) (by kernel_rfl)
def ms72:List (FuncId×Mode U):=(124,qbb_md)::ms71
theorem known72:Known kk env0 (zaac ms72):=known_cons (by kernel_rfl) qbb_post known71
def qaG_md:Mode U:=mdG ⟨⟨[0],[],[]⟩,[.t (.int .i32)],[]⟩ [] [⟨⟨[0],[],[]⟩,[.t .bool],[]⟩] [.int .i32] [[.bool]] qaG
theorem qaG_post:zaad kk env0 121 qaG_md:=
  fnG (fn:=Tryz.f121) (ko known72) (by kernel_rfl) (L:=noL) (zaab (bs:=[]) (by kernel_rfl) trivial) (zaaa _) (by kernel_rfl)
def ms73:List (FuncId×Mode U):=(121,qaG_md)::ms72
theorem known73:Known kk env0 (zaac ms73):=known_cons (by kernel_rfl) qaG_post known72
def qbn_b2:Code:=(zaag (zaaf Tryz.f138) 0)
def qbn_lp2:Lift.Loop U:=lpG ⟨⟨[0,1,7,8],[],[]⟩,[.t (.slc .str),.t .str,.t (.int .i64),.t (.int .i64)],[]⟩ [⟨.ret,⟨⟨[4],[],[]⟩,[.t (.int .i64)],[]⟩⟩,⟨.exit 0,⟨⟨[],[],[]⟩,[],[]⟩⟩] [.slc .str,.str,.int .i64,.int .i64] [[.int .i64],[]] qbn_l2
theorem qbn_ok2:LoopR kk env0 Tryz.f138.ntmps qbn_b2 qbn_lp2:=
  loopG qbn_i2 qbn_t2 (ko known73) (L:=noL) (zaab (bs:=[]) (by kernel_rfl) trivial) (by kernel_rfl) (fun _=>by kernel_rfl) (zaaa _) (fun _=>by kernel_rfl)
def qbn_L:Nat→Option (Lift.Loop U):=fun n=>bif Nat.beq n 2 then some qbn_lp2 else none
def qbn_md:Mode U:=mdG ⟨⟨[0,1],[],[]⟩,[.t (.slc .str),.t .str],[]⟩ [] [⟨⟨[0],[],[]⟩,[.t (.int .i64)],[]⟩] [.slc .str,.str] [[.int .i64]] qbn
theorem qbn_post:zaad kk env0 138 qbn_md:=
  fnG (fn:=Tryz.f138) (ko known73) (by kernel_rfl) (L:=qbn_L) (zaab (bs:=[qbn_b2]) (by kernel_rfl) ⟨.inr ⟨_,by kernel_rfl,zaai.of_round (qbn_ok2)⟩,trivial⟩) (zaaa _) (by kernel_rfl)
def ms74:List (FuncId×Mode U):=(138,qbn_md)::ms73
theorem known74:Known kk env0 (zaac ms74):=known_cons (by kernel_rfl) qbn_post known73
def qbl_md:Mode U:=mdG ⟨⟨[0,1],[],[]⟩,[.t (.slc .str),.t .str],[]⟩ [] [⟨⟨[0],[],[]⟩,[.t .bool],[]⟩] [.slc .str,.str] [[.bool]] qbl
theorem qbl_post:zaad kk env0 126 qbl_md:=
  fnG (fn:=Tryz.f126) (ko known74) (by kernel_rfl) (L:=noL) (zaab (bs:=[]) (by kernel_rfl) trivial) (zaaa _) (by kernel_rfl)
def ms75:List (FuncId×Mode U):=(126,qbl_md)::ms74
theorem known75:Known kk env0 (zaac ms75):=known_cons (by kernel_rfl) qbl_post known74
def qaJ_md:Mode U:=mdG ⟨⟨[0],[],[]⟩,[.t .str],[]⟩ [] [⟨⟨[0],[],[]⟩,[.t .str],[]⟩] [.str] [[.str]] qaJ
theorem qaJ_post:zaad kk env0 122 qaJ_md:=
  fnG (fn:=Tryz.f122) (ko known75) (by kernel_rfl) (L:=noL) (zaab (bs:=[]) (by kernel_rfl) trivial) (zaaa _) (by kernel_rfl)
def ms76:List (FuncId×Mode U):=(122,qaJ_md)::ms75
theorem known76:Known kk env0 (zaac ms76):=known_cons (by kernel_rfl) qaJ_post known75
def qaL_b2:Code:=(zaag (zaaf Tryz.f123) 0)
def qaL_lp2:Lift.Loop U:=lpG ⟨⟨[0,6],[6],[]⟩,[.t .str,.ptr 6 0],[.sit]⟩ [⟨.ret,⟨⟨[2],[],[]⟩,[.t .str],[]⟩⟩,⟨.exit 0,⟨⟨[0],[],[]⟩,[.t .str],[]⟩⟩] [.str,.str,.fn] [[.str],[.str]] qaL_l2
theorem qaL_ok2:LoopR kk env0 Tryz.f123.ntmps qaL_b2 qaL_lp2:=
  loopG qaL_i2 qaL_t2 (ko known76) (L:=noL) (zaab (bs:=[]) (by kernel_rfl) trivial) (by kernel_rfl) (fun _=>by kernel_rfl) (zaaa _) (fun _=>by kernel_rfl)
def qaL_L:Nat→Option (Lift.Loop U):=fun n=>bif Nat.beq n 2 then some qaL_lp2 else none
def qaL_md:Mode U:=mdG ⟨⟨[0],[],[]⟩,[.t .str],[]⟩ [] [⟨⟨[0],[],[]⟩,[.t .str],[]⟩] [.str] [[.str]] qaL
theorem qaL_post:zaad kk env0 123 qaL_md:=
  fnG (fn:=Tryz.f123) (ko known76) (by kernel_rfl) (L:=qaL_L) (zaab (bs:=[qaL_b2]) (by kernel_rfl) ⟨.inr ⟨_,by kernel_rfl,zaai.of_round (qaL_ok2)⟩,trivial⟩) (zaaa _) (by kernel_rfl)
def ms77:List (FuncId×Mode U):=(123,qaL_md)::ms76
theorem known77:Known kk env0 (zaac ms77):=known_cons (by kernel_rfl) qaL_post known76
def qaH_md:Mode U:=mdG ⟨⟨[0],[],[]⟩,[.t .str],[]⟩ [] [⟨⟨[0,1],[],[]⟩,[.t (.int .i64),.t .bool],[]⟩] [.str] [[.int .i64,.bool]] qaH
theorem qaH_post:zaad kk env0 125 qaH_md:=
  fnG (fn:=Tryz.f125) (ko known77) (by kernel_rfl) (L:=noL) (zaab (bs:=[]) (by kernel_rfl) trivial) (zaaa _) (by kernel_rfl)
def ms78:List (FuncId×Mode U):=(125,qaH_md)::ms77
theorem known78:Known kk env0 (zaac ms78):=known_cons (by kernel_rfl) qaH_post known77
def qaF_md:Mode U:=mdG ⟨⟨[],[],[]⟩,[],[]⟩ [] [⟨⟨[0],[],[⟨.slot 0,100050,9,.str⟩]⟩,[.oslc 100050],[.row 9 .str]⟩] [] [[.slc .str]] qaF
theorem qaF_post:zaad kk env0 127 qaF_md:=
  fnG (fn:=Tryz.f127) (ko known78) (by kernel_rfl) (L:=noL) (zaab (bs:=[]) (by kernel_rfl) trivial) (zaaa _) (by kernel_rfl)
def ms79:List (FuncId×Mode U):=(127,qaF_md)::ms78
theorem known79:Known kk env0 (zaac ms79):=known_cons (by kernel_rfl) qaF_post known78
def qaK_md:Mode U:=mdG ⟨⟨[0],[],[]⟩,[.t .str],[]⟩ [] [⟨⟨[0,1],[],[]⟩,[.t (.st 154),.t (.int .i64)],[]⟩] [.str] [[.st 154,.int .i64]] qaK
theorem qaK_post:zaad kk env0 103 qaK_md:=
  fnG (fn:=Tryz.f103) (ko known79) (by kernel_rfl) (L:=noL) (zaab (bs:=[]) (by kernel_rfl) trivial) (zaaa _) (by kernel_rfl)
def ms80:List (FuncId×Mode U):=(103,qaK_md)::ms79
theorem known80:Known kk env0 (zaac ms80):=known_cons (by kernel_rfl) qaK_post known79
def qaE_b6:Code:=(zaag (zaaf Tryz.f85) 0)
def qaE_lp6:Lift.Loop U:=lpG ⟨⟨[0,3,6,7],[3],[⟨.slot 6,6,154,(.st 154)⟩]⟩,[.t .str,.ptr 3 0,.oslc 6,.t (.int .i64)],[.blk 38 [.t (.int .i64),.t (.int .i64),.t .str],.row 154 (.st 154)]⟩ [⟨.ret,⟨⟨[2,3],[3],[]⟩,[.nil,.ptr 3 0],[.blk 38 [.t (.int .i64),.t (.int .i64),.t .str]]⟩⟩,⟨.exit 0,⟨⟨[0,3,6],[3],[⟨.slot 6,6,154,(.st 154)⟩]⟩,[.t .str,.ptr 3 0,.oslc 6],[.blk 38 [.t (.int .i64),.t (.int .i64),.t .str],.row 154 (.st 154)]⟩⟩] [.str,.int .i64,.int .i64,.int .i64,.str,.slc (.st 154)] [[.int .i64,.int .i64,.str],[.str,.int .i64,.int .i64,.str,.slc (.st 154)]] qaE_l6
theorem qaE_ok6:LoopR kk env0 Tryz.f85.ntmps qaE_b6 qaE_lp6:=
  loopG qaE_i6 qaE_t6 (ko known80) (L:=noL) (zaab (bs:=[]) (by kernel_rfl) trivial) (by kernel_rfl) (fun _=>by kernel_rfl) (zaaa _) (fun _=>by kernel_rfl)
def qaE_L:Nat→Option (Lift.Loop U):=fun n=>bif Nat.beq n 6 then some qaE_lp6 else none
def qaE_md:Mode U:=mdG ⟨⟨[0],[],[]⟩,[.t .str],[]⟩ [] [⟨⟨[0,1],[],[⟨.slot 0,100050,154,(.st 154)⟩]⟩,[.oslc 100050,.t (.st 38)],[.row 154 (.st 154)]⟩] [.str] [[.st 38,.slc (.st 154)]] qaE
theorem qaE_post:zaad kk env0 85 qaE_md:=
  fnG (fn:=Tryz.f85) (ko known80) (by kernel_rfl) (L:=qaE_L) (zaab (bs:=[qaE_b6]) (by kernel_rfl) ⟨.inr ⟨_,by kernel_rfl,zaai.of_round (qaE_ok6)⟩,trivial⟩) (zaaa _) (by kernel_rfl)
def ms81:List (FuncId×Mode U):=(85,qaE_md)::ms80
theorem known81:Known kk env0 (zaac ms81):=known_cons (by kernel_rfl) qaE_post known80
def qbD_md:Mode U:=mdG ⟨⟨[0],[],[]⟩,[.t .str],[]⟩ [] [⟨⟨[0],[],[]⟩,[.t .bool],[]⟩] [.str] [[.bool]] qbD
theorem qbD_post:zaad kk env0 62 qbD_md:=
  fnG (fn:=Tryz.f62) (ko known81) (by kernel_rfl) (L:=jnL) (zaab (bs:=[]) (by kernel_rfl) trivial) (zaaa _) (by kernel_rfl)
def ms82:List (FuncId×Mode U):=(62,qbD_md)::ms81
theorem known82:Known kk env0 (zaac ms82):=known_cons (by kernel_rfl) qbD_post known81
def qbE_md:Mode U:=mdG ⟨⟨[],[],[]⟩,[],[]⟩ [] [⟨⟨[0],[],[]⟩,[.t (.map (.int .i64) (.st 156))],[]⟩] [] [[.map (.int .i64) (.st 156)]] qbE
theorem qbE_post:zaad kk env0 86 qbE_md:=
  fnG (fn:=Tryz.f86) (ko known82) (by kernel_rfl) (L:=jnL) (zaab (bs:=[]) (by kernel_rfl) trivial) (zaaa _) (by kernel_rfl)
def ms83:List (FuncId×Mode U):=(86,qbE_md)::ms82
theorem known83:Known kk env0 (zaac ms83):=known_cons (by kernel_rfl) qbE_post known82
def qbC_md:Mode U:=mdG ⟨⟨[0,1],[],[]⟩,[.t .str,.t .bool],[]⟩ [] [⟨⟨[0],[],[]⟩,[.t .bool],[]⟩] [.str,.bool] [[.bool]] qbC
theorem qbC_post:zaad kk env0 87 qbC_md:=
  fnG (fn:=Tryz.f87) (ko known83) (by kernel_rfl) (L:=jnL) (zaab (bs:=[]) (by kernel_rfl) trivial) (zaaa _) (by kernel_rfl)
def ms84:List (FuncId×Mode U):=(87,qbC_md)::ms83
theorem known84:Known kk env0 (zaac ms84):=known_cons (by kernel_rfl) qbC_post known83
def qbF_md:Mode U:=mdG ⟨⟨[0],[],[]⟩,[.t (.st 91)],[]⟩ [] [⟨⟨[0],[],[]⟩,[.t .bool],[]⟩] [.st 91] [[.bool]] qbF
theorem qbF_post:zaad kk env0 64 qbF_md:=
  fnG (fn:=Tryz.f64) (ko known84) (by kernel_rfl) (L:=jnL) (zaab (bs:=[]) (by kernel_rfl) trivial) (zaaa _) (by kernel_rfl)
def ms85:List (FuncId×Mode U):=(64,qbF_md)::ms84
theorem known85:Known kk env0 (zaac ms85):=known_cons (by kernel_rfl) qbF_post known84
def qbA_md:Mode U:=mdG ⟨⟨[0,1,2],[100000],[]⟩,[.t (.st 91),.t (.int .i64),.ptr 100000 0],[.blk 4 [.t .bool]]⟩ [⟨100000,.slot 2,[]⟩] [⟨⟨[],[100000],[]⟩,[],[.blk 4 [.t .bool]]⟩] [.st 91,.int .i64,.bool] [[.bool]] qbA
theorem qbA_post:zaad kk env0 63 qbA_md:=
  fnG (fn:=Tryz.f63) (ko known85) (by kernel_rfl) (L:=jnL) (zaab (bs:=[]) (by kernel_rfl) trivial) (zaaa _) (by kernel_rfl)
def ms86:List (FuncId×Mode U):=(63,qbA_md)::ms85
theorem known86:Known kk env0 (zaac ms86):=known_cons (by kernel_rfl) qbA_post known85
def qby_md:Mode U:=mdG ⟨⟨[0],[],[]⟩,[.t (.st 87)],[]⟩ [] [⟨⟨[0],[],[]⟩,[.t .bool],[]⟩] [.st 87] [[.bool]] qby
theorem qby_post:zaad kk env0 66 qby_md:=
  fnG (fn:=Tryz.f66) (ko known86) (by kernel_rfl) (L:=jnL) (zaab (bs:=[]) (by kernel_rfl) trivial) (zaaa _) (by kernel_rfl)
def ms87:List (FuncId×Mode U):=(66,qby_md)::ms86
theorem known87:Known kk env0 (zaac ms87):=known_cons (by kernel_rfl) qby_post known86
def qbB_md:Mode U:=mdG ⟨⟨[0,1,2],[100000],[]⟩,[.t (.st 87),.t (.int .i64),.ptr 100000 0],[.blk 4 [.t .bool]]⟩ [⟨100000,.slot 2,[]⟩] [⟨⟨[],[100000],[]⟩,[],[.blk 4 [.t .bool]]⟩] [.st 87,.int .i64,.bool] [[.bool]] qbB
theorem qbB_post:zaad kk env0 65 qbB_md:=
  fnG (fn:=Tryz.f65) (ko known87) (by kernel_rfl) (L:=jnL) (zaab (bs:=[]) (by kernel_rfl) trivial) (zaaa _) (by kernel_rfl)
def ms88:List (FuncId×Mode U):=(65,qbB_md)::ms87
theorem known88:Known kk env0 (zaac ms88):=known_cons (by kernel_rfl) qbB_post known87
abbrev qac_tr:Type:=curT U (sumT U [[.bool]]) [.st 87,.int .i64,.bool]
def qac_rmd (rec_qac:qac_tr):Mode U:=mdG ⟨⟨[0,1,2],[100000],[]⟩,[.agg [.clo 63 [.ptr 100000 0],.clo 65 [.ptr 100000 0]],.t (.st 87),.t (.int .i64)],[.blk 4 [.t .bool]]⟩ [⟨100000,.slot 0,[0,0]⟩] [⟨⟨[],[100000],[]⟩,[],[.blk 4 [.t .bool]]⟩] [.st 87,.int .i64,.bool] [[.bool]] rec_qac
abbrev qac_rec (r:qac_tr):Prop:=zaad kk env0 104 (qac_rmd r)
def ms89 (rec_qac:qac_tr):List (FuncId×Mode U):=(104,(qac_rmd rec_qac))::ms88
theorem known89 (rec_qac:qac_tr) (hrec_qac:qac_rec rec_qac):Known kk env0 (zaac (ms89 rec_qac)):=known_cons (by kernel_rfl) hrec_qac known88
def qac_b3:Code:=(zaag (zaaf Tryz.f104) 0)
def qac_lp3 (rec_qac:qac_tr):Lift.Loop U:=lpG ⟨⟨[2,3,14,15,16],[100000,3],[]⟩,[.t (.int .i64),.ptr 3 0,.t (.slc (.st 87)),.t (.int .i64),.t (.int .i64)],[.blk 4 [.t .bool],.blk 138 [.clo 63 [.ptr 100000 0],.clo 65 [.ptr 100000 0]]]⟩ [⟨.exit 0,⟨⟨[],[100000],[]⟩,[],[.blk 4 [.t .bool]]⟩⟩] [.int .i64,.slc (.st 87),.int .i64,.int .i64,.bool] [[.bool]] (qac_l3 rec_qac)
theorem qac_ok3 (rec_qac:qac_tr) (hrec_qac:qac_rec rec_qac):LoopR kk env0 Tryz.f104.ntmps qac_b3 (qac_lp3 rec_qac):=
  loopG (qac_i3 rec_qac) (qac_t3 rec_qac) (ko (known89 rec_qac hrec_qac)) (L:=jnL) (zaab (bs:=[]) (by kernel_rfl) trivial) (by kernel_rfl) (fun _=>by kernel_rfl) (zaaa _) (fun _=>by kernel_rfl)
def qac_L (rec_qac:qac_tr):Nat→Option (Lift.Loop U):=fun n=>bif Nat.beq n zaam then some zaaj else bif Nat.beq n 3 then some (qac_lp3 rec_qac) else none
def qac_md:Mode U:=qac_rmd qac
theorem qac_step (rec_qac:qac_tr) (hrec_qac:qac_rec rec_qac):zaat (Kit.withModes kk (zaac (ms89 rec_qac))) env0 Tryz.f104.ntmps (qac_L rec_qac) (zaaf Tryz.f104):=zaab (bs:=[qac_b3]) (by kernel_rfl) ⟨.inr ⟨_,by kernel_rfl,zaai.of_round (qac_ok3 rec_qac hrec_qac)⟩,trivial⟩
theorem qac_post:zaad kk env0 104 (qac_rmd qac):=
  recG qac_i qac_f (by kernel_rfl) (fun _=>by kernel_rfl) (zaaa _) fun r ih=>fnG (fn:=Tryz.f104) (ko (known89 r ih)) (by kernel_rfl) (qac_step r ih) rfl (by kernel_rfl)
def ms90:List (FuncId×Mode U):=(104,qac_md)::ms88
theorem known90:Known kk env0 (zaac ms90):=known_cons (by kernel_rfl) qac_post known88
abbrev qai_tr:Type:=curT U (sumT U [[.bool]]) [.slc (.st 91),.int .i64,.bool]
def qai_rmd (rec_qai:qai_tr):Mode U:=mdG ⟨⟨[0,1,2],[100000],[]⟩,[.agg [.clo 63 [.ptr 100000 0],.clo 65 [.ptr 100000 0]],.t (.slc (.st 91)),.t (.int .i64)],[.blk 4 [.t .bool]]⟩ [⟨100000,.slot 0,[0,0]⟩] [⟨⟨[],[100000],[]⟩,[],[.blk 4 [.t .bool]]⟩] [.slc (.st 91),.int .i64,.bool] [[.bool]] rec_qai
abbrev qai_rec (r:qai_tr):Prop:=zaad kk env0 88 (qai_rmd r)
def ms91 (rec_qai:qai_tr):List (FuncId×Mode U):=(88,(qai_rmd rec_qai))::ms90
theorem known91 (rec_qai:qai_tr) (hrec_qai:qai_rec rec_qai):Known kk env0 (zaac (ms91 rec_qai)):=known_cons (by kernel_rfl) hrec_qai known90
def qai_b2:Code:=(zaag (zaaf Tryz.f88) 0)
def qai_lp2 (rec_qai:qai_tr):Lift.Loop U:=lpG ⟨⟨[2,3,8,9,10],[100000,3],[]⟩,[.t (.int .i64),.ptr 3 0,.t (.slc (.st 91)),.t (.int .i64),.t (.int .i64)],[.blk 4 [.t .bool],.blk 138 [.clo 63 [.ptr 100000 0],.clo 65 [.ptr 100000 0]]]⟩ [⟨.exit 0,⟨⟨[],[100000],[]⟩,[],[.blk 4 [.t .bool]]⟩⟩] [.int .i64,.slc (.st 91),.int .i64,.int .i64,.bool] [[.bool]] (qai_l2 rec_qai)
theorem qai_ok2 (rec_qai:qai_tr) (hrec_qai:qai_rec rec_qai):LoopR kk env0 Tryz.f88.ntmps qai_b2 (qai_lp2 rec_qai):=
  loopG (qai_i2 rec_qai) (qai_t2 rec_qai) (ko (known91 rec_qai hrec_qai)) (L:=jnL) (zaab (bs:=[]) (by kernel_rfl) trivial) (by kernel_rfl) (fun _=>by kernel_rfl) (zaaa _) (fun _=>by kernel_rfl)
def qai_L (rec_qai:qai_tr):Nat→Option (Lift.Loop U):=fun n=>bif Nat.beq n zaam then some zaaj else bif Nat.beq n 2 then some (qai_lp2 rec_qai) else none
def qai_md:Mode U:=qai_rmd qai
theorem qai_step (rec_qai:qai_tr) (hrec_qai:qai_rec rec_qai):zaat (Kit.withModes kk (zaac (ms91 rec_qai))) env0 Tryz.f88.ntmps (qai_L rec_qai) (zaaf Tryz.f88):=zaab (bs:=[qai_b2]) (by kernel_rfl) ⟨.inr ⟨_,by kernel_rfl,zaai.of_round (qai_ok2 rec_qai hrec_qai)⟩,trivial⟩
theorem qai_post:zaad kk env0 88 (qai_rmd qai):=
  recG qai_i qai_f (by kernel_rfl) (fun _=>by kernel_rfl) (zaaa _) fun r ih=>fnG (fn:=Tryz.f88) (ko (known91 r ih)) (by kernel_rfl) (qai_step r ih) rfl (by kernel_rfl)
def ms92:List (FuncId×Mode U):=(88,qai_md)::ms90
theorem known92:Known kk env0 (zaac ms92):=known_cons (by kernel_rfl) qai_post known90
def qaf_b2:Code:=(zaag (zaaf Tryz.f67) 0)
def qaf_lp2:Lift.Loop U:=lpG ⟨⟨[2,7,8,9],[100000,2],[]⟩,[.ptr 2 0,.t (.slc (.st 59)),.t (.int .i64),.t (.int .i64)],[.blk 4 [.t .bool],.blk 138 [.clo 63 [.ptr 100000 0],.clo 65 [.ptr 100000 0]]]⟩ [⟨.exit 0,⟨⟨[],[100000],[]⟩,[],[.blk 4 [.t .bool]]⟩⟩] [.slc (.st 59),.int .i64,.int .i64,.bool] [[.bool]] qaf_l2
theorem qaf_ok2:LoopR kk env0 Tryz.f67.ntmps qaf_b2 qaf_lp2:=
  loopG qaf_i2 qaf_t2 (ko known92) (L:=jnL) (zaab (bs:=[]) (by kernel_rfl) trivial) (by kernel_rfl) (fun _=>by kernel_rfl) (zaaa _) (fun _=>by kernel_rfl)
def qaf_L:Nat→Option (Lift.Loop U):=fun n=>bif Nat.beq n zaam then some zaaj else bif Nat.beq n 2 then some qaf_lp2 else none
def qaf_md:Mode U:=mdG ⟨⟨[0,1],[100000],[]⟩,[.agg [.clo 63 [.ptr 100000 0],.clo 65 [.ptr 100000 0]],.t (.st 51)],[.blk 4 [.t .bool]]⟩ [⟨100000,.slot 0,[0,0]⟩] [⟨⟨[],[100000],[]⟩,[],[.blk 4 [.t .bool]]⟩] [.st 51,.bool] [[.bool]] qaf
theorem qaf_post:zaad kk env0 67 qaf_md:=
  fnG (fn:=Tryz.f67) (ko known92) (by kernel_rfl) (L:=qaf_L) (zaab (bs:=[qaf_b2]) (by kernel_rfl) ⟨.inr ⟨_,by kernel_rfl,zaai.of_round (qaf_ok2)⟩,trivial⟩) (zaaa _) (by kernel_rfl)
def ms93:List (FuncId×Mode U):=(67,qaf_md)::ms92
theorem known93:Known kk env0 (zaac ms93):=known_cons (by kernel_rfl) qaf_post known92
def qbz_b3:Code:=(zaag (zaaf Tryz.f49) 0)
def qbz_lp3:Lift.Loop U:=lpG ⟨⟨[1,3,11,12,13],[1,3],[]⟩,[.ptr 1 0,.ptr 3 0,.t (.slc (.st 123)),.t (.int .i64),.t (.int .i64)],[.blk 51 [.t (.slc (.st 123)),.t (.slc .str),.t (.slc (.st 59))],.blk 4 [.t .bool]]⟩ [⟨.exit 0,⟨⟨[1,3],[1,3],[]⟩,[.ptr 1 0,.ptr 3 0],[.blk 51 [.t (.slc (.st 123)),.t (.slc .str),.t (.slc (.st 59))],.blk 4 [.t .bool]]⟩⟩] [.slc (.st 123),.int .i64,.int .i64,.slc (.st 123),.slc .str,.slc (.st 59),.bool] [[.slc (.st 123),.slc .str,.slc (.st 59),.bool]] qbz_l3
theorem qbz_ok3:LoopR kk env0 Tryz.f49.ntmps qbz_b3 qbz_lp3:=
  loopG qbz_i3 qbz_t3 (ko known93) (L:=jnL) (zaab (bs:=[]) (by kernel_rfl) trivial) (by kernel_rfl) (fun _=>by kernel_rfl) (zaaa _) (fun _=>by kernel_rfl)
def qbz_b8:Code:=(zaag (zaaf Tryz.f49) 1)
def qbz_lp8:Lift.Loop U:=lpG ⟨⟨[1,3,35,36,37],[1,3],[]⟩,[.ptr 1 0,.ptr 3 0,.t (.slc .str),.t (.int .i64),.t (.int .i64)],[.blk 51 [.t (.slc (.st 123)),.t (.slc .str),.t (.slc (.st 59))],.blk 4 [.t .bool]]⟩ [⟨.exit 2,⟨⟨[1,3],[1,3],[]⟩,[.ptr 1 0,.ptr 3 0],[.blk 51 [.t (.slc (.st 123)),.t (.slc .str),.t (.slc (.st 59))],.blk 4 [.t .bool]]⟩⟩] [.slc .str,.int .i64,.int .i64,.slc (.st 123),.slc .str,.slc (.st 59),.bool] [[.slc (.st 123),.slc .str,.slc (.st 59),.bool]] qbz_l8
theorem qbz_ok8:LoopR kk env0 Tryz.f49.ntmps qbz_b8 qbz_lp8:=
  loopG qbz_i8 qbz_t8 (ko known93) (L:=jnL) (zaab (bs:=[]) (by kernel_rfl) trivial) (by kernel_rfl) (fun _=>by kernel_rfl) (zaaa _) (fun _=>by kernel_rfl)
def qbz_b13:Code:=(zaag (zaaf Tryz.f49) 2)
def qbz_lp13:Lift.Loop U:=lpG ⟨⟨[1,3,48,49,50],[1,3],[]⟩,[.ptr 1 0,.ptr 3 0,.t (.slc (.st 59)),.t (.int .i64),.t (.int .i64)],[.blk 51 [.t (.slc (.st 123)),.t (.slc .str),.t (.slc (.st 59))],.blk 4 [.t .bool]]⟩ [⟨.exit 4,⟨⟨[1,3],[1,3],[]⟩,[.ptr 1 0,.ptr 3 0],[.blk 51 [.t (.slc (.st 123)),.t (.slc .str),.t (.slc (.st 59))],.blk 4 [.t .bool]]⟩⟩] [.slc (.st 59),.int .i64,.int .i64,.slc (.st 123),.slc .str,.slc (.st 59),.bool] [[.slc (.st 123),.slc .str,.slc (.st 59),.bool]] qbz_l13
theorem qbz_ok13:LoopR kk env0 Tryz.f49.ntmps qbz_b13 qbz_lp13:=
  loopG qbz_i13 qbz_t13 (ko known93) (L:=jnL) (zaab (bs:=[]) (by kernel_rfl) trivial) (by kernel_rfl) (fun _=>by kernel_rfl) (zaaa _) (fun _=>by kernel_rfl)
def qbz_L:Nat→Option (Lift.Loop U):=fun n=>bif Nat.beq n zaam then some zaaj else bif Nat.beq n 3 then some qbz_lp3 else bif Nat.beq n 8 then some qbz_lp8 else bif Nat.beq n 13 then some qbz_lp13 else none
def qbz_md:Mode U:=mdG ⟨⟨[0],[],[]⟩,[.t (.st 51)],[]⟩ [] [⟨⟨[0],[],[]⟩,[.t .bool],[]⟩] [.st 51] [[.bool]] qbz
theorem qbz_post:zaad kk env0 49 qbz_md:=
  fnG (fn:=Tryz.f49) (ko known93) (by kernel_rfl) (L:=qbz_L) (zaab (bs:=[qbz_b3,qbz_b8,qbz_b13]) (by kernel_rfl) ⟨.inr ⟨_,by kernel_rfl,zaai.of_round (qbz_ok3)⟩,.inr ⟨_,by kernel_rfl,zaai.of_round (qbz_ok8)⟩,.inr ⟨_,by kernel_rfl,zaai.of_round (qbz_ok13)⟩,trivial⟩) (zaaa _) (by kernel_rfl)
def ms94:List (FuncId×Mode U):=(49,qbz_md)::ms93
theorem known94:Known kk env0 (zaac ms94):=known_cons (by kernel_rfl) qbz_post known93
def qbv_md:Mode U:=mdG ⟨⟨[0,1,2],[100000],[]⟩,[.t (.st 91),.t (.int .i64),.ptr 100000 0],[.blk 3 [.t (.int .i64)]]⟩ [⟨100000,.slot 2,[]⟩] [⟨⟨[],[100000],[]⟩,[],[.blk 3 [.t (.int .i64)]]⟩] [.st 91,.int .i64,.int .i64] [[.int .i64]] qbv
theorem qbv_post:zaad kk env0 68 qbv_md:=
  fnG (fn:=Tryz.f68) (ko known94) (by kernel_rfl) (L:=jnL) (zaab (bs:=[]) (by kernel_rfl) trivial) (zaaa _) (by kernel_rfl)
def ms95:List (FuncId×Mode U):=(68,qbv_md)::ms94
theorem known95:Known kk env0 (zaac ms95):=known_cons (by kernel_rfl) qbv_post known94
def qbw_md:Mode U:=mdG ⟨⟨[0,1,2],[100000],[]⟩,[.t (.st 87),.t (.int .i64),.ptr 100000 0],[.blk 3 [.t (.int .i64)]]⟩ [⟨100000,.slot 2,[]⟩] [⟨⟨[],[100000],[]⟩,[],[.blk 3 [.t (.int .i64)]]⟩] [.st 87,.int .i64,.int .i64] [[.int .i64]] qbw
theorem qbw_post:zaad kk env0 69 qbw_md:=
  fnG (fn:=Tryz.f69) (ko known95) (by kernel_rfl) (L:=jnL) (zaab (bs:=[]) (by kernel_rfl) trivial) (zaaa _) (by kernel_rfl)
def ms96:List (FuncId×Mode U):=(69,qbw_md)::ms95
theorem known96:Known kk env0 (zaac ms96):=known_cons (by kernel_rfl) qbw_post known95
abbrev qad_tr:Type:=curT U (sumT U [[.int .i64]]) [.st 87,.int .i64,.int .i64]
def qad_rmd (rec_qad:qad_tr):Mode U:=mdG ⟨⟨[0,1,2],[100000],[]⟩,[.agg [.clo 68 [.ptr 100000 0],.clo 69 [.ptr 100000 0]],.t (.st 87),.t (.int .i64)],[.blk 3 [.t (.int .i64)]]⟩ [⟨100000,.slot 0,[0,0]⟩] [⟨⟨[],[100000],[]⟩,[],[.blk 3 [.t (.int .i64)]]⟩] [.st 87,.int .i64,.int .i64] [[.int .i64]] rec_qad
abbrev qad_rec (r:qad_tr):Prop:=zaad kk env0 104 (qad_rmd r)
def ms97 (rec_qad:qad_tr):List (FuncId×Mode U):=(104,(qad_rmd rec_qad))::ms96
theorem known97 (rec_qad:qad_tr) (hrec_qad:qad_rec rec_qad):Known kk env0 (zaac (ms97 rec_qad)):=known_cons (by kernel_rfl) hrec_qad known96
def qad_b3:Code:=(zaag (zaaf Tryz.f104) 0)
def qad_lp3 (rec_qad:qad_tr):Lift.Loop U:=lpG ⟨⟨[2,3,14,15,16],[100000,3],[]⟩,[.t (.int .i64),.ptr 3 0,.t (.slc (.st 87)),.t (.int .i64),.t (.int .i64)],[.blk 3 [.t (.int .i64)],.blk 138 [.clo 68 [.ptr 100000 0],.clo 69 [.ptr 100000 0]]]⟩ [⟨.exit 0,⟨⟨[],[100000],[]⟩,[],[.blk 3 [.t (.int .i64)]]⟩⟩] [.int .i64,.slc (.st 87),.int .i64,.int .i64,.int .i64] [[.int .i64]] (qad_l3 rec_qad)
theorem qad_ok3 (rec_qad:qad_tr) (hrec_qad:qad_rec rec_qad):LoopR kk env0 Tryz.f104.ntmps qad_b3 (qad_lp3 rec_qad):=
  loopG (qad_i3 rec_qad) (qad_t3 rec_qad) (ko (known97 rec_qad hrec_qad)) (L:=jnL) (zaab (bs:=[]) (by kernel_rfl) trivial) (by kernel_rfl) (fun _=>by kernel_rfl) (zaaa _) (fun _=>by kernel_rfl)
def qad_L (rec_qad:qad_tr):Nat→Option (Lift.Loop U):=fun n=>bif Nat.beq n zaam then some zaaj else bif Nat.beq n 3 then some (qad_lp3 rec_qad) else none
def qad_md:Mode U:=qad_rmd qad
theorem qad_step (rec_qad:qad_tr) (hrec_qad:qad_rec rec_qad):zaat (Kit.withModes kk (zaac (ms97 rec_qad))) env0 Tryz.f104.ntmps (qad_L rec_qad) (zaaf Tryz.f104):=zaab (bs:=[qad_b3]) (by kernel_rfl) ⟨.inr ⟨_,by kernel_rfl,zaai.of_round (qad_ok3 rec_qad hrec_qad)⟩,trivial⟩
theorem qad_post:zaad kk env0 104 (qad_rmd qad):=
  recG qad_i qad_f (by kernel_rfl) (fun _=>by kernel_rfl) (zaaa _) fun r ih=>fnG (fn:=Tryz.f104) (ko (known97 r ih)) (by kernel_rfl) (qad_step r ih) rfl (by kernel_rfl)
def ms98:List (FuncId×Mode U):=(104,qad_md)::ms96
theorem known98:Known kk env0 (zaac ms98):=known_cons (by kernel_rfl) qad_post known96
abbrev qaj_tr:Type:=curT U (sumT U [[.int .i64]]) [.slc (.st 91),.int .i64,.int .i64]
def qaj_rmd (rec_qaj:qaj_tr):Mode U:=mdG ⟨⟨[0,1,2],[100000],[]⟩,[.agg [.clo 68 [.ptr 100000 0],.clo 69 [.ptr 100000 0]],.t (.slc (.st 91)),.t (.int .i64)],[.blk 3 [.t (.int .i64)]]⟩ [⟨100000,.slot 0,[0,0]⟩] [⟨⟨[],[100000],[]⟩,[],[.blk 3 [.t (.int .i64)]]⟩] [.slc (.st 91),.int .i64,.int .i64] [[.int .i64]] rec_qaj
abbrev qaj_rec (r:qaj_tr):Prop:=zaad kk env0 88 (qaj_rmd r)
def ms99 (rec_qaj:qaj_tr):List (FuncId×Mode U):=(88,(qaj_rmd rec_qaj))::ms98
theorem known99 (rec_qaj:qaj_tr) (hrec_qaj:qaj_rec rec_qaj):Known kk env0 (zaac (ms99 rec_qaj)):=known_cons (by kernel_rfl) hrec_qaj known98
def qaj_b2:Code:=(zaag (zaaf Tryz.f88) 0)
def qaj_lp2 (rec_qaj:qaj_tr):Lift.Loop U:=lpG ⟨⟨[2,3,8,9,10],[100000,3],[]⟩,[.t (.int .i64),.ptr 3 0,.t (.slc (.st 91)),.t (.int .i64),.t (.int .i64)],[.blk 3 [.t (.int .i64)],.blk 138 [.clo 68 [.ptr 100000 0],.clo 69 [.ptr 100000 0]]]⟩ [⟨.exit 0,⟨⟨[],[100000],[]⟩,[],[.blk 3 [.t (.int .i64)]]⟩⟩] [.int .i64,.slc (.st 91),.int .i64,.int .i64,.int .i64] [[.int .i64]] (qaj_l2 rec_qaj)
theorem qaj_ok2 (rec_qaj:qaj_tr) (hrec_qaj:qaj_rec rec_qaj):LoopR kk env0 Tryz.f88.ntmps qaj_b2 (qaj_lp2 rec_qaj):=
  loopG (qaj_i2 rec_qaj) (qaj_t2 rec_qaj) (ko (known99 rec_qaj hrec_qaj)) (L:=jnL) (zaab (bs:=[]) (by kernel_rfl) trivial) (by kernel_rfl) (fun _=>by kernel_rfl) (zaaa _) (fun _=>by kernel_rfl)
def qaj_L (rec_qaj:qaj_tr):Nat→Option (Lift.Loop U):=fun n=>bif Nat.beq n zaam then some zaaj else bif Nat.beq n 2 then some (qaj_lp2 rec_qaj) else none
def qaj_md:Mode U:=qaj_rmd qaj
theorem qaj_step (rec_qaj:qaj_tr) (hrec_qaj:qaj_rec rec_qaj):zaat (Kit.withModes kk (zaac (ms99 rec_qaj))) env0 Tryz.f88.ntmps (qaj_L rec_qaj) (zaaf Tryz.f88):=zaab (bs:=[qaj_b2]) (by kernel_rfl) ⟨.inr ⟨_,by kernel_rfl,zaai.of_round (qaj_ok2 rec_qaj hrec_qaj)⟩,trivial⟩
theorem qaj_post:zaad kk env0 88 (qaj_rmd qaj):=
  recG qaj_i qaj_f (by kernel_rfl) (fun _=>by kernel_rfl) (zaaa _) fun r ih=>fnG (fn:=Tryz.f88) (ko (known99 r ih)) (by kernel_rfl) (qaj_step r ih) rfl (by kernel_rfl)
def ms100:List (FuncId×Mode U):=(88,qaj_md)::ms98
theorem known100:Known kk env0 (zaac ms100):=known_cons (by kernel_rfl) qaj_post known98
def qag_b2:Code:=(zaag (zaaf Tryz.f67) 0)
def qag_lp2:Lift.Loop U:=lpG ⟨⟨[2,7,8,9],[100000,2],[]⟩,[.ptr 2 0,.t (.slc (.st 59)),.t (.int .i64),.t (.int .i64)],[.blk 3 [.t (.int .i64)],.blk 138 [.clo 68 [.ptr 100000 0],.clo 69 [.ptr 100000 0]]]⟩ [⟨.exit 0,⟨⟨[],[100000],[]⟩,[],[.blk 3 [.t (.int .i64)]]⟩⟩] [.slc (.st 59),.int .i64,.int .i64,.int .i64] [[.int .i64]] qag_l2
theorem qag_ok2:LoopR kk env0 Tryz.f67.ntmps qag_b2 qag_lp2:=
  loopG qag_i2 qag_t2 (ko known100) (L:=jnL) (zaab (bs:=[]) (by kernel_rfl) trivial) (by kernel_rfl) (fun _=>by kernel_rfl) (zaaa _) (fun _=>by kernel_rfl)
def qag_L:Nat→Option (Lift.Loop U):=fun n=>bif Nat.beq n zaam then some zaaj else bif Nat.beq n 2 then some qag_lp2 else none
def qag_md:Mode U:=mdG ⟨⟨[0,1],[100000],[]⟩,[.agg [.clo 68 [.ptr 100000 0],.clo 69 [.ptr 100000 0]],.t (.st 51)],[.blk 3 [.t (.int .i64)]]⟩ [⟨100000,.slot 0,[0,0]⟩] [⟨⟨[],[100000],[]⟩,[],[.blk 3 [.t (.int .i64)]]⟩] [.st 51,.int .i64] [[.int .i64]] qag
theorem qag_post:zaad kk env0 67 qag_md:=
  fnG (fn:=Tryz.f67) (ko known100) (by kernel_rfl) (L:=qag_L) (zaab (bs:=[qag_b2]) (by kernel_rfl) ⟨.inr ⟨_,by kernel_rfl,zaai.of_round (qag_ok2)⟩,trivial⟩) (zaaa _) (by kernel_rfl)
def ms101:List (FuncId×Mode U):=(67,qag_md)::ms100
theorem known101:Known kk env0 (zaac ms101):=known_cons (by kernel_rfl) qag_post known100
def qbu_md:Mode U:=mdG ⟨⟨[0],[],[]⟩,[.t (.st 51)],[]⟩ [] [⟨⟨[0],[],[]⟩,[.t (.int .i64)],[]⟩] [.st 51] [[.int .i64]] qbu
theorem qbu_post:zaad kk env0 50 qbu_md:=
  fnG (fn:=Tryz.f50) (ko known101) (by kernel_rfl) (L:=jnL) (zaab (bs:=[]) (by kernel_rfl) trivial) (zaaa _) (by kernel_rfl)
def ms102:List (FuncId×Mode U):=(50,qbu_md)::ms101
theorem known102:Known kk env0 (zaac ms102):=known_cons (by kernel_rfl) qbu_post known101
def qbs_md:Mode U:=mdG ⟨⟨[0,1,2],[100000],[]⟩,[.t (.st 91),.t (.int .i64),.ptr 100000 0],[.blk 3 [.t (.int .i64)]]⟩ [⟨100000,.slot 2,[]⟩] [⟨⟨[],[100000],[]⟩,[],[.blk 3 [.t (.int .i64)]]⟩] [.st 91,.int .i64,.int .i64] [[.int .i64]] qbs
theorem qbs_post:zaad kk env0 70 qbs_md:=
  fnG (fn:=Tryz.f70) (ko known102) (by kernel_rfl) (L:=jnL) (zaab (bs:=[]) (by kernel_rfl) trivial) (zaaa _) (by kernel_rfl)
def ms103:List (FuncId×Mode U):=(70,qbs_md)::ms102
theorem known103:Known kk env0 (zaac ms103):=known_cons (by kernel_rfl) qbs_post known102
def qbt_md:Mode U:=mdG ⟨⟨[0,1,2],[100000],[]⟩,[.t (.st 87),.t (.int .i64),.ptr 100000 0],[.blk 3 [.t (.int .i64)]]⟩ [⟨100000,.slot 2,[]⟩] [⟨⟨[],[100000],[]⟩,[],[.blk 3 [.t (.int .i64)]]⟩] [.st 87,.int .i64,.int .i64] [[.int .i64]] qbt
theorem qbt_post:zaad kk env0 71 qbt_md:=
  fnG (fn:=Tryz.f71) (ko known103) (by kernel_rfl) (L:=jnL) (zaab (bs:=[]) (by kernel_rfl) trivial) (zaaa _) (by kernel_rfl)
def ms104:List (FuncId×Mode U):=(71,qbt_md)::ms103
theorem known104:Known kk env0 (zaac ms104):=known_cons (by kernel_rfl) qbt_post known103
abbrev qae_tr:Type:=curT U (sumT U [[.int .i64]]) [.st 87,.int .i64,.int .i64]
def qae_rmd (rec_qae:qae_tr):Mode U:=mdG ⟨⟨[0,1,2],[100000],[]⟩,[.agg [.clo 70 [.ptr 100000 0],.clo 71 [.ptr 100000 0]],.t (.st 87),.t (.int .i64)],[.blk 3 [.t (.int .i64)]]⟩ [⟨100000,.slot 0,[0,0]⟩] [⟨⟨[],[100000],[]⟩,[],[.blk 3 [.t (.int .i64)]]⟩] [.st 87,.int .i64,.int .i64] [[.int .i64]] rec_qae
abbrev qae_rec (r:qae_tr):Prop:=zaad kk env0 104 (qae_rmd r)
def ms105 (rec_qae:qae_tr):List (FuncId×Mode U):=(104,(qae_rmd rec_qae))::ms104
theorem known105 (rec_qae:qae_tr) (hrec_qae:qae_rec rec_qae):Known kk env0 (zaac (ms105 rec_qae)):=known_cons (by kernel_rfl) hrec_qae known104
def qae_b3:Code:=(zaag (zaaf Tryz.f104) 0)
def qae_lp3 (rec_qae:qae_tr):Lift.Loop U:=lpG ⟨⟨[2,3,14,15,16],[100000,3],[]⟩,[.t (.int .i64),.ptr 3 0,.t (.slc (.st 87)),.t (.int .i64),.t (.int .i64)],[.blk 3 [.t (.int .i64)],.blk 138 [.clo 70 [.ptr 100000 0],.clo 71 [.ptr 100000 0]]]⟩ [⟨.exit 0,⟨⟨[],[100000],[]⟩,[],[.blk 3 [.t (.int .i64)]]⟩⟩] [.int .i64,.slc (.st 87),.int .i64,.int .i64,.int .i64] [[.int .i64]] (qae_l3 rec_qae)
theorem qae_ok3 (rec_qae:qae_tr) (hrec_qae:qae_rec rec_qae):LoopR kk env0 Tryz.f104.ntmps qae_b3 (qae_lp3 rec_qae):=
  loopG (qae_i3 rec_qae) (qae_t3 rec_qae) (ko (known105 rec_qae hrec_qae)) (L:=jnL) (zaab (bs:=[]) (by kernel_rfl) trivial) (by kernel_rfl) (fun _=>by kernel_rfl) (zaaa _) (fun _=>by kernel_rfl)
def qae_L (rec_qae:qae_tr):Nat→Option (Lift.Loop U):=fun n=>bif Nat.beq n zaam then some zaaj else bif Nat.beq n 3 then some (qae_lp3 rec_qae) else none
def qae_md:Mode U:=qae_rmd qae
theorem qae_step (rec_qae:qae_tr) (hrec_qae:qae_rec rec_qae):zaat (Kit.withModes kk (zaac (ms105 rec_qae))) env0 Tryz.f104.ntmps (qae_L rec_qae) (zaaf Tryz.f104):=zaab (bs:=[qae_b3]) (by kernel_rfl) ⟨.inr ⟨_,by kernel_rfl,zaai.of_round (qae_ok3 rec_qae hrec_qae)⟩,trivial⟩
theorem qae_post:zaad kk env0 104 (qae_rmd qae):=
  recG qae_i qae_f (by kernel_rfl) (fun _=>by kernel_rfl) (zaaa _) fun r ih=>fnG (fn:=Tryz.f104) (ko (known105 r ih)) (by kernel_rfl) (qae_step r ih) rfl (by kernel_rfl)
def ms106:List (FuncId×Mode U):=(104,qae_md)::ms104
theorem known106:Known kk env0 (zaac ms106):=known_cons (by kernel_rfl) qae_post known104
abbrev qak_tr:Type:=curT U (sumT U [[.int .i64]]) [.slc (.st 91),.int .i64,.int .i64]
def qak_rmd (rec_qak:qak_tr):Mode U:=mdG ⟨⟨[0,1,2],[100000],[]⟩,[.agg [.clo 70 [.ptr 100000 0],.clo 71 [.ptr 100000 0]],.t (.slc (.st 91)),.t (.int .i64)],[.blk 3 [.t (.int .i64)]]⟩ [⟨100000,.slot 0,[0,0]⟩] [⟨⟨[],[100000],[]⟩,[],[.blk 3 [.t (.int .i64)]]⟩] [.slc (.st 91),.int .i64,.int .i64] [[.int .i64]] rec_qak
abbrev qak_rec (r:qak_tr):Prop:=zaad kk env0 88 (qak_rmd r)
def ms107 (rec_qak:qak_tr):List (FuncId×Mode U):=(88,(qak_rmd rec_qak))::ms106
theorem known107 (rec_qak:qak_tr) (hrec_qak:qak_rec rec_qak):Known kk env0 (zaac (ms107 rec_qak)):=known_cons (by kernel_rfl) hrec_qak known106
def qak_b2:Code:=(zaag (zaaf Tryz.f88) 0)
def qak_lp2 (rec_qak:qak_tr):Lift.Loop U:=lpG ⟨⟨[2,3,8,9,10],[100000,3],[]⟩,[.t (.int .i64),.ptr 3 0,.t (.slc (.st 91)),.t (.int .i64),.t (.int .i64)],[.blk 3 [.t (.int .i64)],.blk 138 [.clo 70 [.ptr 100000 0],.clo 71 [.ptr 100000 0]]]⟩ [⟨.exit 0,⟨⟨[],[100000],[]⟩,[],[.blk 3 [.t (.int .i64)]]⟩⟩] [.int .i64,.slc (.st 91),.int .i64,.int .i64,.int .i64] [[.int .i64]] (qak_l2 rec_qak)
theorem qak_ok2 (rec_qak:qak_tr) (hrec_qak:qak_rec rec_qak):LoopR kk env0 Tryz.f88.ntmps qak_b2 (qak_lp2 rec_qak):=
  loopG (qak_i2 rec_qak) (qak_t2 rec_qak) (ko (known107 rec_qak hrec_qak)) (L:=jnL) (zaab (bs:=[]) (by kernel_rfl) trivial) (by kernel_rfl) (fun _=>by kernel_rfl) (zaaa _) (fun _=>by kernel_rfl)
def qak_L (rec_qak:qak_tr):Nat→Option (Lift.Loop U):=fun n=>bif Nat.beq n zaam then some zaaj else bif Nat.beq n 2 then some (qak_lp2 rec_qak) else none
def qak_md:Mode U:=qak_rmd qak
theorem qak_step (rec_qak:qak_tr) (hrec_qak:qak_rec rec_qak):zaat (Kit.withModes kk (zaac (ms107 rec_qak))) env0 Tryz.f88.ntmps (qak_L rec_qak) (zaaf Tryz.f88):=zaab (bs:=[qak_b2]) (by kernel_rfl) ⟨.inr ⟨_,by kernel_rfl,zaai.of_round (qak_ok2 rec_qak hrec_qak)⟩,trivial⟩
theorem qak_post:zaad kk env0 88 (qak_rmd qak):=
  recG qak_i qak_f (by kernel_rfl) (fun _=>by kernel_rfl) (zaaa _) fun r ih=>fnG (fn:=Tryz.f88) (ko (known107 r ih)) (by kernel_rfl) (qak_step r ih) rfl (by kernel_rfl)
def ms108:List (FuncId×Mode U):=(88,qak_md)::ms106
theorem known108:Known kk env0 (zaac ms108):=known_cons (by kernel_rfl) qak_post known106
def qah_b2:Code:=(zaag (zaaf Tryz.f67) 0)
def qah_lp2:Lift.Loop U:=lpG ⟨⟨[2,7,8,9],[100000,2],[]⟩,[.ptr 2 0,.t (.slc (.st 59)),.t (.int .i64),.t (.int .i64)],[.blk 3 [.t (.int .i64)],.blk 138 [.clo 70 [.ptr 100000 0],.clo 71 [.ptr 100000 0]]]⟩ [⟨.exit 0,⟨⟨[],[100000],[]⟩,[],[.blk 3 [.t (.int .i64)]]⟩⟩] [.slc (.st 59),.int .i64,.int .i64,.int .i64] [[.int .i64]] qah_l2
theorem qah_ok2:LoopR kk env0 Tryz.f67.ntmps qah_b2 qah_lp2:=
  loopG qah_i2 qah_t2 (ko known108) (L:=jnL) (zaab (bs:=[]) (by kernel_rfl) trivial) (by kernel_rfl) (fun _=>by kernel_rfl) (zaaa _) (fun _=>by kernel_rfl)
def qah_L:Nat→Option (Lift.Loop U):=fun n=>bif Nat.beq n zaam then some zaaj else bif Nat.beq n 2 then some qah_lp2 else none
def qah_md:Mode U:=mdG ⟨⟨[0,1],[100000],[]⟩,[.agg [.clo 70 [.ptr 100000 0],.clo 71 [.ptr 100000 0]],.t (.st 51)],[.blk 3 [.t (.int .i64)]]⟩ [⟨100000,.slot 0,[0,0]⟩] [⟨⟨[],[100000],[]⟩,[],[.blk 3 [.t (.int .i64)]]⟩] [.st 51,.int .i64] [[.int .i64]] qah
theorem qah_post:zaad kk env0 67 qah_md:=
  fnG (fn:=Tryz.f67) (ko known108) (by kernel_rfl) (L:=qah_L) (zaab (bs:=[qah_b2]) (by kernel_rfl) ⟨.inr ⟨_,by kernel_rfl,zaai.of_round (qah_ok2)⟩,trivial⟩) (zaaa _) (by kernel_rfl)
def ms109:List (FuncId×Mode U):=(67,qah_md)::ms108
theorem known109:Known kk env0 (zaac ms109):=known_cons (by kernel_rfl) qah_post known108
def qbr_md:Mode U:=mdG ⟨⟨[0],[],[]⟩,[.t (.st 51)],[]⟩ [] [⟨⟨[0],[],[]⟩,[.t (.int .i64)],[]⟩] [.st 51] [[.int .i64]] qbr
theorem qbr_post:zaad kk env0 51 qbr_md:=
  fnG (fn:=Tryz.f51) (ko known109) (by kernel_rfl) (L:=jnL) (zaab (bs:=[]) (by kernel_rfl) trivial) (zaaa _) (by kernel_rfl)
def ms110:List (FuncId×Mode U):=(51,qbr_md)::ms109
theorem known110:Known kk env0 (zaac ms110):=known_cons (by kernel_rfl) qbr_post known109
def qbx_md:Mode U:=mdG ⟨⟨[0],[],[]⟩,[.t (.st 51)],[]⟩ [] [⟨⟨[0],[],[]⟩,[.t (.int .i64)],[]⟩] [.st 51] [[.int .i64]] qbx
theorem qbx_post:zaad kk env0 32 qbx_md:=
  fnG (fn:=Tryz.f32) (ko known110) (by kernel_rfl) (L:=jnL) (zaab (bs:=[]) (by kernel_rfl) trivial) (zaaa _) (by kernel_rfl)
def ms111:List (FuncId×Mode U):=(32,qbx_md)::ms110
theorem known111:Known kk env0 (zaac ms111):=known_cons (by kernel_rfl) qbx_post known110
def qaw_b5:Code:=(zaag (zaaf Tryz.f15) 0)
def qaw_lp5:Lift.Loop U:=lpG ⟨⟨[1,3,45,46,47],[1,3],[⟨.cell 3 0,20150,9,.str⟩,⟨.cell 3 1,20151,9,.str⟩,⟨.cell 3 2,20152,9,.str⟩,⟨.cell 3 3,20153,48,(.own 9 .str)⟩]⟩,[.ptr 1 0,.ptr 3 0,.t (.slc (.st 54)),.t (.int .i64),.t (.int .i64)],[.blk 25 [.t (.slc (.int .i64)),.t (.int .i64),.t (.slc (.st 54))],.blk 97 [.oslc 20150,.oslc 20151,.oslc 20152,.oslc 20153],.row 9 .str,.row 9 .str,.row 9 .str,.row 48 (.own 9 .str)]⟩ [⟨.ret,⟨⟨[2],[],[]⟩,[.t .bool],[]⟩⟩,⟨.exit 0,⟨⟨[1,3],[1,3],[⟨.cell 3 0,20150,9,.str⟩,⟨.cell 3 1,20151,9,.str⟩,⟨.cell 3 2,20152,9,.str⟩,⟨.cell 3 3,20153,48,(.own 9 .str)⟩]⟩,[.ptr 1 0,.ptr 3 0],[.blk 25 [.t (.slc (.int .i64)),.t (.int .i64),.t (.slc (.st 54))],.blk 97 [.oslc 20150,.oslc 20151,.oslc 20152,.oslc 20153],.row 9 .str,.row 9 .str,.row 9 .str,.row 48 (.own 9 .str)]⟩⟩] [.slc (.st 54),.int .i64,.int .i64,.slc (.int .i64),.int .i64,.slc (.st 54),.slc .str,.slc .str,.slc .str,.slc (.own 9 .str)] [[.bool],[.slc (.int .i64),.int .i64,.slc (.st 54),.slc .str,.slc .str,.slc .str,.slc (.own 9 .str)]] qaw_l5
theorem qaw_ok5:LoopR kk env0 Tryz.f15.ntmps qaw_b5 qaw_lp5:=
  loopG qaw_i5 qaw_t5 (ko known111) (L:=jnL) (zaab (bs:=[]) (by kernel_rfl) trivial) (by kernel_rfl) (fun _=>by kernel_rfl) (zaaa _) (fun _=>by kernel_rfl)
def qaw_L:Nat→Option (Lift.Loop U):=fun n=>bif Nat.beq n zaam then some zaaj else bif Nat.beq n 5 then some qaw_lp5 else none
def qaw_md:Mode U:=mdG ⟨⟨[0],[],[]⟩,[.t (.st 25)],[]⟩ [] [⟨⟨[0],[],[]⟩,[.t .bool],[]⟩] [.st 25] [[.bool]] qaw
theorem qaw_post:zaad kk env0 15 qaw_md:=
  fnG (fn:=Tryz.f15) (ko known111) (by kernel_rfl) (L:=qaw_L) (zaab (bs:=[qaw_b5]) (by kernel_rfl) ⟨.inr ⟨_,by kernel_rfl,zaai.of_round (qaw_ok5)⟩,trivial⟩) (zaaa _) (by kernel_rfl)
def ms112:List (FuncId×Mode U):=(15,qaw_md)::ms111
theorem known112:Known kk env0 (zaac ms112):=known_cons (by kernel_rfl) qaw_post known111
def qbj_md:Mode U:=mdG ⟨⟨[0],[],[]⟩,[.t (.slc (.int .i64))],[]⟩ [] [⟨⟨[0],[],[⟨.slot 0,100050,3,(.int .i64)⟩]⟩,[.oslc 100050],[.row 3 (.int .i64)]⟩] [.slc (.int .i64)] [[.slc (.int .i64)]] qbj
theorem qbj_post:zaad kk env0 17 qbj_md:=
  fnG (fn:=Tryz.f17) (ko known112) (by kernel_rfl) (L:=jnL) (zaab (bs:=[]) (by kernel_rfl) trivial) (zaaa _) (by kernel_rfl)
def ms113:List (FuncId×Mode U):=(17,qbj_md)::ms112
theorem known113:Known kk env0 (zaac ms113):=known_cons (by kernel_rfl) qbj_post known112
def qaR_b2:Code:=(zaag (zaaf Tryz.f19) 0)
def qaR_lp2:Lift.Loop U:=lpG ⟨⟨[0,4,9,10,11],[100000,4],[⟨.cell 100000 2,200002,43,(.st 43)⟩]⟩,[.ptr 100000 0,.ptr 4 0,.t (.slc (.int .i64)),.t (.int .i64),.t (.int .i64)],[.blk 64 [.t (.int .i64),.t (.int .i64),.oslc 200002],.blk 43 [.t (.int .i64),.t (.int .i64),.t (.int .i64),.t (.int .i64)],.row 43 (.st 43)]⟩ [⟨.exit 0,⟨⟨[0,4],[100000,4],[⟨.cell 100000 2,200002,43,(.st 43)⟩]⟩,[.ptr 100000 0,.ptr 4 0],[.blk 64 [.t (.int .i64),.t (.int .i64),.oslc 200002],.blk 43 [.t (.int .i64),.t (.int .i64),.t (.int .i64),.t (.int .i64)],.row 43 (.st 43)]⟩⟩] [.slc (.int .i64),.int .i64,.int .i64,.int .i64,.int .i64,.int .i64,.int .i64,.int .i64,.int .i64,.slc (.st 43)] [[.int .i64,.int .i64,.int .i64,.int .i64,.int .i64,.int .i64,.slc (.st 43)]] qaR_l2
theorem qaR_ok2:LoopR kk env0 Tryz.f19.ntmps qaR_b2 qaR_lp2:=
  loopG qaR_i2 qaR_t2 (ko known113) (L:=jnL) (zaab (bs:=[]) (by kernel_rfl) trivial) (by kernel_rfl) (fun _=>by kernel_rfl) (zaaa _) (fun _=>by kernel_rfl)
def qaR_L:Nat→Option (Lift.Loop U):=fun n=>bif Nat.beq n zaam then some zaaj else bif Nat.beq n 2 then some qaR_lp2 else none
def qaR_md:Mode U:=mdG ⟨⟨[0,1,2],[100000],[⟨.cell 100000 2,200002,43,(.st 43)⟩]⟩,[.ptr 100000 0,.t (.st 43),.t (.slc (.int .i64))],[.blk 64 [.t (.int .i64),.t (.int .i64),.oslc 200002],.row 43 (.st 43)]⟩ [⟨100000,.slot 0,[]⟩] [⟨⟨[0],[100000],[⟨.cell 100000 2,200002,43,(.st 43)⟩]⟩,[.t (.int .i64)],[.blk 64 [.t (.int .i64),.t (.int .i64),.oslc 200002],.row 43 (.st 43)]⟩] [.st 43,.slc (.int .i64),.int .i64,.int .i64,.slc (.st 43)] [[.int .i64,.int .i64,.int .i64,.slc (.st 43)]] qaR
theorem qaR_post:zaad kk env0 19 qaR_md:=
  fnG (fn:=Tryz.f19) (ko known113) (by kernel_rfl) (L:=qaR_L) (zaab (bs:=[qaR_b2]) (by kernel_rfl) ⟨.inr ⟨_,by kernel_rfl,zaai.of_round (qaR_ok2)⟩,trivial⟩) (zaaa _) (by kernel_rfl)
def ms114:List (FuncId×Mode U):=(19,qaR_md)::ms113
theorem known114:Known kk env0 (zaac ms114):=known_cons (by kernel_rfl) qaR_post known113
abbrev qaQ_tr:Type:=curT U (sumT U [[.int .i64,.int .i64,.slc (.st 43)]]) [.int .i64,.st 87,.int .i64,.int .i64,.slc (.st 43)]
def qaQ_rmd (rec_qaQ:qaQ_tr):Mode U:=mdG ⟨⟨[0,1,2],[100000],[⟨.cell 100000 2,200002,43,(.st 43)⟩]⟩,[.ptr 100000 0,.t (.int .i64),.t (.st 87)],[.blk 64 [.t (.int .i64),.t (.int .i64),.oslc 200002],.row 43 (.st 43)]⟩ [⟨100000,.slot 0,[]⟩] [⟨⟨[],[100000],[⟨.cell 100000 2,200002,43,(.st 43)⟩]⟩,[],[.blk 64 [.t (.int .i64),.t (.int .i64),.oslc 200002],.row 43 (.st 43)]⟩] [.int .i64,.st 87,.int .i64,.int .i64,.slc (.st 43)] [[.int .i64,.int .i64,.slc (.st 43)]] rec_qaQ
abbrev qaQ_rec (r:qaQ_tr):Prop:=zaad kk env0 55 (qaQ_rmd r)
def ms115 (rec_qaQ:qaQ_tr):List (FuncId×Mode U):=(55,(qaQ_rmd rec_qaQ))::ms114
theorem known115 (rec_qaQ:qaQ_tr) (hrec_qaQ:qaQ_rec rec_qaQ):Known kk env0 (zaac (ms115 rec_qaQ)):=known_cons (by kernel_rfl) hrec_qaQ known114
def qaQ_md:Mode U:=qaQ_rmd qaQ
theorem qaQ_step (rec_qaQ:qaQ_tr) (hrec_qaQ:qaQ_rec rec_qaQ):zaat (Kit.withModes kk (zaac (ms115 rec_qaQ))) env0 Tryz.f55.ntmps jnL (zaaf Tryz.f55):=zaab (bs:=[]) (by kernel_rfl) trivial
theorem qaQ_post:zaad kk env0 55 (qaQ_rmd qaQ):=
  recG qaQ_i qaQ_f (by kernel_rfl) (fun _=>by kernel_rfl) (zaaa _) fun r ih=>fnG (fn:=Tryz.f55) (ko (known115 r ih)) (by kernel_rfl) (qaQ_step r ih) rfl (by kernel_rfl)
def ms116:List (FuncId×Mode U):=(55,qaQ_md)::ms114
theorem known116:Known kk env0 (zaac ms116):=known_cons (by kernel_rfl) qaQ_post known114
abbrev qaO_tr:Type:=curT U (sumT U [[.int .i64,.int .i64,.slc (.st 43)]]) [.slc (.st 89),.int .i64,.int .i64,.int .i64,.slc (.st 43)]
def qaO_rmd (rec_qaO:qaO_tr):Mode U:=mdG ⟨⟨[0,1,2],[100000],[⟨.cell 100000 2,200002,43,(.st 43)⟩]⟩,[.ptr 100000 0,.t (.slc (.st 89)),.t (.int .i64)],[.blk 64 [.t (.int .i64),.t (.int .i64),.oslc 200002],.row 43 (.st 43)]⟩ [⟨100000,.slot 0,[]⟩] [⟨⟨[],[100000],[⟨.cell 100000 2,200002,43,(.st 43)⟩]⟩,[],[.blk 64 [.t (.int .i64),.t (.int .i64),.oslc 200002],.row 43 (.st 43)]⟩] [.slc (.st 89),.int .i64,.int .i64,.int .i64,.slc (.st 43)] [[.int .i64,.int .i64,.slc (.st 43)]] rec_qaO
abbrev qaO_rec (r:qaO_tr):Prop:=zaad kk env0 18 (qaO_rmd r)
def ms117 (rec_qaO:qaO_tr):List (FuncId×Mode U):=(18,(qaO_rmd rec_qaO))::ms116
theorem known117 (rec_qaO:qaO_tr) (hrec_qaO:qaO_rec rec_qaO):Known kk env0 (zaac (ms117 rec_qaO)):=known_cons (by kernel_rfl) hrec_qaO known116
def qaP_md (rec_qaO:qaO_tr):Mode U:=mdG ⟨⟨[0,1,2,3],[100000],[⟨.cell 100000 2,200002,43,(.st 43)⟩]⟩,[.ptr 100000 0,.t (.st 89),.t (.int .i64),.t (.int .i64)],[.blk 64 [.t (.int .i64),.t (.int .i64),.oslc 200002],.row 43 (.st 43)]⟩ [⟨100000,.slot 0,[]⟩] [⟨⟨[],[100000],[⟨.cell 100000 2,200002,43,(.st 43)⟩]⟩,[],[.blk 64 [.t (.int .i64),.t (.int .i64),.oslc 200002],.row 43 (.st 43)]⟩] [.st 89,.int .i64,.int .i64,.int .i64,.int .i64,.slc (.st 43)] [[.int .i64,.int .i64,.slc (.st 43)]] (qaP rec_qaO)
theorem qaP_post (rec_qaO:qaO_tr) (hrec_qaO:qaO_rec rec_qaO):zaad kk env0 56 (qaP_md rec_qaO):=
  fnG (fn:=Tryz.f56) (ko (known117 rec_qaO hrec_qaO)) (by kernel_rfl) (L:=jnL) (zaab (bs:=[]) (by kernel_rfl) trivial) (zaaa _) (by kernel_rfl)
def ms118 (rec_qaO:qaO_tr):List (FuncId×Mode U):=(56,(qaP_md rec_qaO))::(ms117 rec_qaO)
theorem known118 (rec_qaO:qaO_tr) (hrec_qaO:qaO_rec rec_qaO):Known kk env0 (zaac (ms118 rec_qaO)):=known_cons (by kernel_rfl) (qaP_post rec_qaO hrec_qaO) (known117 rec_qaO hrec_qaO)
def qaN_md (rec_qaO:qaO_tr):Mode U:=mdG ⟨⟨[0,1,2],[100000],[⟨.cell 100000 2,200002,43,(.st 43)⟩]⟩,[.ptr 100000 0,.t (.st 89),.t (.int .i64)],[.blk 64 [.t (.int .i64),.t (.int .i64),.oslc 200002],.row 43 (.st 43)]⟩ [⟨100000,.slot 0,[]⟩] [⟨⟨[],[100000],[⟨.cell 100000 2,200002,43,(.st 43)⟩]⟩,[],[.blk 64 [.t (.int .i64),.t (.int .i64),.oslc 200002],.row 43 (.st 43)]⟩] [.st 89,.int .i64,.int .i64,.int .i64,.slc (.st 43)] [[.int .i64,.int .i64,.slc (.st 43)]] (qaN rec_qaO)
theorem qaN_post (rec_qaO:qaO_tr) (hrec_qaO:qaO_rec rec_qaO):zaad kk env0 34 (qaN_md rec_qaO):=
  fnG (fn:=Tryz.f34) (ko (known118 rec_qaO hrec_qaO)) (by kernel_rfl) (L:=jnL) (zaab (bs:=[]) (by kernel_rfl) trivial) (zaaa _) (by kernel_rfl)
def ms119 (rec_qaO:qaO_tr):List (FuncId×Mode U):=(34,(qaN_md rec_qaO))::(ms118 rec_qaO)
theorem known119 (rec_qaO:qaO_tr) (hrec_qaO:qaO_rec rec_qaO):Known kk env0 (zaac (ms119 rec_qaO)):=known_cons (by kernel_rfl) (qaN_post rec_qaO hrec_qaO) (known118 rec_qaO hrec_qaO)
def qaO_b1:Code:=(zaag (zaaf Tryz.f18) 0)
def qaO_lp1 (rec_qaO:qaO_tr):Lift.Loop U:=lpG ⟨⟨[0,2,8,9,10],[100000],[⟨.cell 100000 2,200002,43,(.st 43)⟩]⟩,[.ptr 100000 0,.t (.int .i64),.t (.slc (.st 89)),.t (.int .i64),.t (.int .i64)],[.blk 64 [.t (.int .i64),.t (.int .i64),.oslc 200002],.row 43 (.st 43)]⟩ [⟨.exit 0,⟨⟨[],[100000],[⟨.cell 100000 2,200002,43,(.st 43)⟩]⟩,[],[.blk 64 [.t (.int .i64),.t (.int .i64),.oslc 200002],.row 43 (.st 43)]⟩⟩] [.int .i64,.slc (.st 89),.int .i64,.int .i64,.int .i64,.int .i64,.slc (.st 43)] [[.int .i64,.int .i64,.slc (.st 43)]] (qaO_l1 rec_qaO)
theorem qaO_ok1 (rec_qaO:qaO_tr) (hrec_qaO:qaO_rec rec_qaO):LoopR kk env0 Tryz.f18.ntmps qaO_b1 (qaO_lp1 rec_qaO):=
  loopG (qaO_i1 rec_qaO) (qaO_t1 rec_qaO) (ko (known119 rec_qaO hrec_qaO)) (L:=jnL) (zaab (bs:=[]) (by kernel_rfl) trivial) (by kernel_rfl) (fun _=>by kernel_rfl) (zaaa _) (fun _=>by kernel_rfl)
def qaO_L (rec_qaO:qaO_tr):Nat→Option (Lift.Loop U):=fun n=>bif Nat.beq n zaam then some zaaj else bif Nat.beq n 1 then some (qaO_lp1 rec_qaO) else none
def qaO_md:Mode U:=qaO_rmd qaO
theorem qaO_step (rec_qaO:qaO_tr) (hrec_qaO:qaO_rec rec_qaO):zaat (Kit.withModes kk (zaac (ms119 rec_qaO))) env0 Tryz.f18.ntmps (qaO_L rec_qaO) (zaaf Tryz.f18):=zaab (bs:=[qaO_b1]) (by kernel_rfl) ⟨.inr ⟨_,by kernel_rfl,zaai.of_round (qaO_ok1 rec_qaO hrec_qaO)⟩,trivial⟩
theorem qaO_post:zaad kk env0 18 (qaO_rmd qaO):=
  recG qaO_i qaO_f (by kernel_rfl) (fun _=>by kernel_rfl) (zaaa _) fun r ih=>fnG (fn:=Tryz.f18) (ko (known119 r ih)) (by kernel_rfl) (qaO_step r ih) rfl (by kernel_rfl)
def ms120:List (FuncId×Mode U):=(18,qaO_md)::ms116
theorem known120:Known kk env0 (zaac ms120):=known_cons (by kernel_rfl) qaO_post known116
def qbg_md:Mode U:=mdG ⟨⟨[0],[],[⟨.slot 0,0,43,(.st 43)⟩]⟩,[.oslc 0],[.row 43 (.st 43)]⟩ [] [⟨⟨[0],[],[⟨.slot 0,100050,43,(.st 43)⟩]⟩,[.oslc 100050],[.row 43 (.st 43)]⟩] [.slc (.st 43)] [[.slc (.st 43)]] qbg
theorem qbg_post:zaad kk env0 20 qbg_md:=
  fnG (fn:=Tryz.f20) (ko known120) (by kernel_rfl) (L:=jnL) (zaab (bs:=[]) (by kernel_rfl) trivial) (zaaa _) (by kernel_rfl)
def ms121:List (FuncId×Mode U):=(20,qbg_md)::ms120
theorem known121:Known kk env0 (zaac ms121):=known_cons (by kernel_rfl) qbg_post known120
def qaM_b5:Code:=(zaag (zaaf Tryz.f6) 0)
def qaM_lp5:Lift.Loop U:=lpG ⟨⟨[2,4,20,21,22],[2,4],[⟨.cell 4 0,20200,3,(.int .i64)⟩,⟨.cell 4 2,20202,46,(.st 1046)⟩]⟩,[.ptr 2 0,.ptr 4 0,.t (.slc (.st 54)),.t (.int .i64),.t (.int .i64)],[.blk 30 [.nil,.t (.int .i64),.nil],.blk 30 [.oslc 20200,.t (.int .i64),.oslc 20202],.row 3 (.int .i64),.row 46 (.st 1046)]⟩ [⟨.exit 0,⟨⟨[2,4],[2,4],[⟨.cell 4 0,20200,3,(.int .i64)⟩,⟨.cell 4 2,20202,46,(.st 1046)⟩]⟩,[.ptr 2 0,.ptr 4 0],[.blk 30 [.nil,.t (.int .i64),.nil],.blk 30 [.oslc 20200,.t (.int .i64),.oslc 20202],.row 3 (.int .i64),.row 46 (.st 1046)]⟩⟩] [.slc (.st 54),.int .i64,.int .i64,.int .i64,.int .i64,.slc (.int .i64),.slc (.st 1046)] [[.int .i64,.int .i64,.slc (.int .i64),.slc (.st 1046)]] qaM_l5
theorem qaM_ok5:LoopR kk env0 Tryz.f6.ntmps qaM_b5 qaM_lp5:=
  loopG qaM_i5 qaM_t5 (ko known121) (L:=jnL) (zaab (bs:=[]) (by kernel_rfl) trivial) (by kernel_rfl) (fun _=>by kernel_rfl) (zaaa _) (fun _=>by kernel_rfl)
def qaM_L:Nat→Option (Lift.Loop U):=fun n=>bif Nat.beq n zaam then some zaaj else bif Nat.beq n 5 then some qaM_lp5 else none
def qaM_md:Mode U:=mdG ⟨⟨[0],[],[]⟩,[.t (.st 25)],[]⟩ [] [⟨⟨[0,1],[],[⟨.sub 0 0,100100,3,(.int .i64)⟩,⟨.sub 0 2,100300,46,(.st 1046)⟩]⟩,[.agg [.oslc 100100,.t (.int .i64),.oslc 100300],.t (.int .i64)],[.row 3 (.int .i64),.row 46 (.st 1046)]⟩] [.st 25] [[.int .i64,.int .i64,.slc (.int .i64),.slc (.st 1046)]] qaM
theorem qaM_post:zaad kk env0 6 qaM_md:=
  fnG (fn:=Tryz.f6) (ko known121) (by kernel_rfl) (L:=qaM_L) (zaab (bs:=[qaM_b5]) (by kernel_rfl) ⟨.inr ⟨_,by kernel_rfl,zaai.of_round (qaM_ok5)⟩,trivial⟩) (zaaa _) (by kernel_rfl)
def ms122:List (FuncId×Mode U):=(6,qaM_md)::ms121
theorem known122:Known kk env0 (zaac ms122):=known_cons (by kernel_rfl) qaM_post known121
def qaS_md:Mode U:=mdG ⟨⟨[0],[],[]⟩,[.t (.st 25)],[]⟩ [] [⟨⟨[0],[],[]⟩,[.t .bool],[]⟩] [.st 25] [[.bool]] qaS
theorem qaS_post:zaad kk env0 3 qaS_md:=
  fnG (fn:=Tryz.f3) (ko known122) (by kernel_rfl) (L:=jnL) (zaab (bs:=[]) (by kernel_rfl) trivial) (zaaa _) (by kernel_rfl)
end
end Lift.H2
