/-
  DERIVED. The Lean functions answer as the laws say. Conditions: as each theorem says.
-/
import Derived.Test.YtcmhkcpheehlhaaGreatDoorLawA
set_option linter.unusedVariables false
set_option linter.unusedSimpArgs false
set_option linter.unusedSectionVars false
namespace Lift.A4
open Go Go.RowKit Lift Go.IntWalk Lift.Fn Lift.A1P Lift.A3
set_option linter.unusedVariables false
set_option linter.unusedSimpArgs false
theorem name2 (x:List UInt8) (n a:Int) (r:List Token):qat (⟨1,x,n,a⟩::r)=some (.inl (x,r)):=by rw[name1]; rfl
theorem of2 (x:List UInt8) (n a:Int) (r:List Token):qav 2 (⟨2,x,n,a⟩::r)=some (.inl (⟨2,x,n,a⟩,r)):=by rw[of1]; rfl
theorem zaq9 (ts:List Token) (e:TExpr) (z:List Token) (h:qar_i (1180591620717411303418+6) 0 ts=some (okE e z)):qar 0 ts=some (okE e z):=by
 rw[qar,zaaa];exact h
def e1:TExpr:=⟨7,0,[],[⟨3,0,[],[⟨1,1,[],[]⟩]⟩,⟨1,2,[],[]⟩]⟩
def s1:TStmt:=⟨4,[114],[120],e1,0,[],[]⟩
theorem st1 (r:List Token):qaw (⟨1,[114],0,24⟩::⟨3,[60,45],0,26⟩::⟨4,[97,100,100],0,29⟩::⟨1,[120],0,33⟩::⟨3,[45],0,35⟩::⟨2,[49],1,36⟩::⟨3,[42],0,38⟩::⟨2,[50],2,40⟩::⟨3,[59],0,41⟩::r) =
  some (okS s1 r):=by
 rw[qaw,zaaa];unfold qaw_f;have h1:hit [58,61] ⟨3,[60,45],0,26⟩=false:=by decide
 have h2:hit [61] ⟨3,[60,45],0,26⟩=false:=by decide
 have h3:hit [60,45] ⟨3,[60,45],0,26⟩=true:=by decide
 have h4:hit [97,100,100] ⟨4,[97,100,100],0,29⟩=true:=by decide
 have h5:hit [59] ⟨3,[59],0,41⟩=true:=by decide
 simp only[name2,took1,want1,h1,h2,h3,h4,cond_true,cond_false,Option.bind_some];rw[zaq9 _ _ _ (ex9 r _),Option.bind_some];dsimp only[okE];rw[want1,h5,cond_true,Option.bind_some];rfl
theorem stmt1 (B:List Token→Option RB) (r:List Token):qaz B (⟨1,[114],0,24⟩::⟨3,[60,45],0,26⟩::⟨4,[97,100,100],0,29⟩::⟨1,[120],0,33⟩::⟨3,[45],0,35⟩::⟨2,[49],1,36⟩::⟨3,[42],0,38⟩::⟨2,[50],2,40⟩::⟨3,[59],0,41⟩::r) =
  some (okS s1 r):=by
 rw[qaz,zaaa];unfold qaz_f;have h6:((1:Int)==1)=true:=rfl;rw[next1,Option.bind_some];dsimp only;rw[h6,cond_true,st1,Option.bind_some];rfl
theorem zaxa (r:List Token):qaq (⟨3,[123],0,22⟩::⟨1,[114],0,24⟩::⟨3,[60,45],0,26⟩::⟨4,[97,100,100],0,29⟩::⟨1,[120],0,33⟩::⟨3,[45],0,35⟩::⟨2,[49],1,36⟩::⟨3,[42],0,38⟩::⟨2,[50],2,40⟩::⟨3,[59],0,41⟩::⟨3,[125],0,43⟩::r) =
  some (okB [s1] r):=by
 rw[qaq,zaaa,show fuel=1180591620717411303423+1 from rfl];show qaq_f _ _=_;unfold qaq_f;have h1:hit [123] ⟨3,[123],0,22⟩=true:=by decide
 have h2:hit [125] ⟨1,[114],0,24⟩=false:=by decide
 have h3:hit [125] ⟨3,[125],0,43⟩=true:=by decide
 rw[want1,h1,cond_true,Option.bind_some];dsimp only;rw[qaq_l3,zaaa,show fuel=1180591620717411303422+1+1 from rfl];have e2:∀ B f,qaq_i3 B (f+1) (⟨3,[125],0,43⟩::r) [s1]=some (.inr (r,[s1])):=by
  intro B f;show qaq_t3 B _ _ _=_;unfold qaq_t3;rw[took1,h3,Option.bind_some];rfl
 have e1:∀ B f,qaq_i3 B (f+1+1) (⟨1,[114],0,24⟩::⟨3,[60,45],0,26⟩::⟨4,[97,100,100],0,29⟩::⟨1,[120],0,33⟩::⟨3,[45],0,35⟩::⟨2,[49],1,36⟩::⟨3,[42],0,38⟩::⟨2,[50],2,40⟩::⟨3,[59],0,41⟩::⟨3,[125],0,43⟩::r) []=some (.inr (r,[s1])):=by
  intro B f;show qaq_t3 B (qaq_i3 B (f+1)) _ _=_;unfold qaq_t3;rw[took1,h2,Option.bind_some];simp only[Bool.not_false,cond_true,cond_false];rw[stmt1,Option.bind_some];dsimp only[okS];rw[List.nil_append,e2];rfl
 rw[e1];rfl
def g1:TProg:=⟨[⟨[120],-3⟩],[],[⟨[116],[s1]⟩]⟩
theorem prog1:qax tk1=some (okP g1 [⟨5,[],0,44⟩]):=by
 rw[qax,zaaa];unfold qax_f;rw[qax_l2,zaaa,show fuel=1180591620717411303421+1+1+1 from rfl];have a3:∀ f,qax_i2 (f+1) [⟨5,[],0,44⟩] [⟨[120],-3⟩] [] [⟨[116],[s1]⟩]=some (ok2 g1 [⟨5,[],0,44⟩]):=by
  intro f;show qax_t2 _ _ _ _ _=_;unfold qax_t2;rw[next1,Option.bind_some];rfl
 have a2:∀ f,qax_i2 (f+1+1) (⟨4,[116,104,114,101,97,100],0,13⟩::⟨1,[116],0,20⟩::⟨3,[123],0,22⟩::⟨1,[114],0,24⟩::⟨3,[60,45],0,26⟩::⟨4,[97,100,100],0,29⟩::⟨1,[120],0,33⟩::⟨3,[45],0,35⟩::⟨2,[49],1,36⟩::⟨3,[42],0,38⟩::⟨2,[50],2,40⟩::⟨3,[59],0,41⟩::⟨3,[125],0,43⟩::[⟨5,[],0,44⟩]) [⟨[120],-3⟩] [] []=some (ok2 g1 [⟨5,[],0,44⟩]):=by
  intro f;show qax_t2 (qax_i2 (f+1)) _ _ _ _=_;unfold qax_t2;have h0:((4:Int) != 5)=true:=rfl;have h1:hit [99,101,108,108] ⟨4,[116,104,114,101,97,100],0,13⟩=false:=by decide
  have h2:hit [109,117,116,101,120] ⟨4,[116,104,114,101,97,100],0,13⟩=false:=by decide
  have h3:hit [116,104,114,101,97,100] ⟨4,[116,104,114,101,97,100],0,13⟩=true:=by decide
  rw[next1,Option.bind_some];dsimp only;simp only[h0,took1,h1,h2,want1,h3,name2,cond_true,cond_false,Option.bind_some];rw[zaxa,Option.bind_some];dsimp only[okB];rw[List.nil_append,a3];rfl
 have a1:∀ f,qax_i2 (f+1+1+1) tk1 [] [] []=some (ok2 g1 [⟨5,[],0,44⟩]):=by
  intro f;show qax_t2 (qax_i2 (f+1+1)) _ _ _ _=_;unfold qax_t2 tk1;have h0:((4:Int) != 5)=true:=rfl;have h1:hit [99,101,108,108] ⟨4,[99,101,108,108],0,0⟩=true:=by decide
  have h2:hit [61] ⟨3,[61],0,7⟩=true:=by decide
  have h3:hit [45] ⟨3,[45],0,9⟩=true:=by decide
  have h5:hit [59] ⟨3,[59],0,11⟩=true:=by decide
  rw[next1,Option.bind_some];dsimp only;simp only[h0,took1,h1,h2,h3,of2,want1,h5,name2,cond_true,cond_false,Option.bind_some];rw[List.nil_append,show (IntKind.i64.wrap ((0:Int)-3))=-3 by decide,a2];rfl
 rw[a1];rfl
def e2:TExpr:=⟨12,0,[],[⟨2,0,[97],[]⟩,⟨2,0,[98],[]⟩]⟩
theorem zawd (B:List Token→Option RB) (t:Token) (r:List Token) (h:∀ w∈four,hit w t=false):∀ (k f i:Nat),i+k=4→k<f →
  qaz_i4 B f 4 i (t::r) 0 [] [] 0 0 [] 0 four=some (okO none (t::r)):=by
 intro k;induction k with
 |zero=>
  intro f i hi hf;obtain ⟨f,rfl⟩:∃ q,f=q+1:=⟨f-1,by omega⟩;show qaz_t4 B (qaz_i4 B f) 4 i (t::r) 0 [] [] 0 0 [] 0 four=_;unfold qaz_t4;have e1:decide ((i:Int)<4)=false:=by simp only[decide_eq_false_iff_not]; omega
  rw[e1];rfl
 |succ k ih=>
  intro f i hi hf;obtain ⟨f,rfl⟩:∃ q,f=q+1:=⟨f-1,by omega⟩;show qaz_t4 B (qaz_i4 B f) 4 i (t::r) 0 [] [] 0 0 [] 0 four=_;unfold qaz_t4;have e1:decide ((i:Int)<4)=true:=by simp only[decide_eq_true_eq]; omega
  have e2:(decide ((0:Int)≤(i:Int))&&decide ((i:Int)<(↑(List.length four):Int)))=true:=by
   simp only[Bool.and_eq_true,decide_eq_true_eq];exact ⟨by omega,by show (i:Int)<4; omega⟩
  have hlt:(i:Int).toNat<four.length:=by show (i:Int).toNat<4; omega
  have hw:=h four[(i:Int).toNat] (List.getElem_mem hlt);rw[e1,e2,cond_true,cond_true,List.getElem?_eq_getElem hlt,Option.bind_some,took1,hw,Option.bind_some];dsimp only[cond_false];rw[i64_in ((i:Int)+1) (by omega)];exact ih f (i+1) (by omega) (by omega)
theorem stmt2 (B:List Token→Option RB) (r:List Token):qaz B (⟨4,[97,115,115,101,114,116],0,11⟩::⟨1,[97],0,18⟩::⟨3,[60],0,20⟩::⟨1,[98],0,22⟩::⟨3,[60],0,24⟩::r)=some (.inr ⟨24⟩):=by
 rw[qaz,zaaa];unfold qaz_f;have h6:((4:Int)==1)=false:=rfl;have h1:hit [97,115,115,101,114,116] ⟨4,[97,115,115,101,114,116],0,11⟩=true:=by decide
 have h2:hit [59] ⟨3,[60],0,24⟩=false:=by decide
 rw[next1,Option.bind_some];dsimp only;rw[h6,cond_false,qaz_l4,zaaa];have hf:=zawd B ⟨4,[97,115,115,101,114,116],0,11⟩ (⟨1,[97],0,18⟩::⟨3,[60],0,20⟩::⟨1,[98],0,22⟩::⟨3,[60],0,24⟩::r) (by decide) 4 fuel 0 rfl (by unfold fuel; omega);rw[show ((0:Nat):Int)=0 from rfl] at hf;rw[show (↑(4:Nat):Int)=4 from rfl,hf,Option.bind_some];dsimp only[okO];rw[took1,h1,Option.bind_some];dsimp only[cond_true];rw[zaq9 _ _ _ (ex10 r _),Option.bind_some];dsimp only[okE];rw[want1,h2,cond_false,Option.bind_some]
theorem zaxb (r:List Token):qaq (⟨3,[123],0,9⟩::⟨4,[97,115,115,101,114,116],0,11⟩::⟨1,[97],0,18⟩::⟨3,[60],0,20⟩::⟨1,[98],0,22⟩::⟨3,[60],0,24⟩::r)=some (.inr ⟨24⟩):=by
 rw[qaq,zaaa,show fuel=1180591620717411303423+1 from rfl];show qaq_f _ _=_;unfold qaq_f;have h1:hit [123] ⟨3,[123],0,9⟩=true:=by decide
 have h2:hit [125] ⟨4,[97,115,115,101,114,116],0,11⟩=false:=by decide
 rw[want1,h1,cond_true,Option.bind_some];dsimp only;rw[qaq_l3,zaaa,show fuel=1180591620717411303423+1 from rfl];have e1:∀ B f,qaq_i3 B (f+1) (⟨4,[97,115,115,101,114,116],0,11⟩::⟨1,[97],0,18⟩::⟨3,[60],0,20⟩::⟨1,[98],0,22⟩::⟨3,[60],0,24⟩::r) []=some (.inl ⟨24⟩):=by
  intro B f;show qaq_t3 B (qaq_i3 B f) _ _=_;unfold qaq_t3;rw[took1,h2,Option.bind_some];simp only[Bool.not_false,cond_true,cond_false];rw[stmt2,Option.bind_some]
 rw[e1];rfl
theorem prog2:qax tk2=some (.inr ⟨24⟩):=by
 rw[qax,zaaa];unfold qax_f;rw[qax_l2,zaaa,show fuel=1180591620717411303423+1 from rfl];have a1:∀ f,qax_i2 (f+1) tk2 [] [] []=some (.inl ⟨24⟩):=by
  intro f;show qax_t2 (qax_i2 f) _ _ _ _=_;unfold qax_t2 tk2;have h0:((4:Int) != 5)=true:=rfl;have h1:hit [99,101,108,108] ⟨4,[116,104,114,101,97,100],0,0⟩=false:=by decide
  have h2:hit [109,117,116,101,120] ⟨4,[116,104,114,101,97,100],0,0⟩=false:=by decide
  have h3:hit [116,104,114,101,97,100] ⟨4,[116,104,114,101,97,100],0,0⟩=true:=by decide
  rw[next1,Option.bind_some];dsimp only;simp only[h0,took1,h1,h2,want1,h3,name2,cond_true,cond_false,Option.bind_some];rw[zaxb,Option.bind_some]
 rw[a1];rfl
theorem zaw4:qao tx1=some (rr g1 ⟨0,0,[]⟩):=by
 rw[zak2 lex1 prog1 (by decide)];unfold fin;rw[if_neg (by decide +kernel),if_neg (by decide +kernel)]
theorem zawp:qao tx2=some (rr ⟨[],[],[]⟩ ⟨40,24,[]⟩):=zanr lex2 prog2
theorem zawq:qaF=some true:=by
 rw[qaF,zaaa];unfold qaF_f;have h1:=zaw4;have h2:=zawp;unfold tx1 at h1;unfold tx2 at h2;rw[h1,Option.bind_some,h2,Option.bind_some];rfl
end Lift.A4
namespace Lift.A4
open Go Go.RowKit Lift Go.IntWalk Lift.Fn Lift.A1P Lift.A3
theorem parseJoins1 (a b:List UInt8) (ha:a.length≤4000000000000) (hb:b.length≤4000000000000):qaE a b=some true:=parseJoins zawq a b ha hb
end Lift.A4
