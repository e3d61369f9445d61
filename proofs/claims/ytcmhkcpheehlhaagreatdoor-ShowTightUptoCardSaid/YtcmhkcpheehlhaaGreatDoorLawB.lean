/-
  DERIVED. The Lean functions answer as the laws say. Conditions: as each theorem says.
-/
import Derived.Test.YtcmhkcpheehlhaaGreatDoorLawA
set_option linter.unusedVariables false
set_option linter.unusedSimpArgs false
set_option linter.unusedSectionVars false
namespace Lift.A4
open Go Go.RowKit Lift Go.IntWalk Lift.Fn Lift.A1P Lift.A3
set_option linter.unusedVariables false
set_option linter.unusedSimpArgs false
theorem snoc1 {u:List Token} {c:List Tk} {q:Tk} (h:u.map core=c++[q]):∃ u1 t,u=u1++[t]∧u1.map core=c∧core t=q:=by
 obtain ⟨u1,t,u2,rfl,h1,h2,h3⟩:=zahu h;have:u2=[]:=by simpa using h3
 subst this;exact ⟨u1,t,rfl,h1,h2⟩
theorem zafx {s:List UInt8} (hs:∀ j,j<5→(LV[j]?).bind (fun M=>mapAt M s)=none) {t:Token} (h:hit s t=true):stopE 0 (core t):=by
 intro j _ hj;unfold opAt;split
 ·have ht:t.text=s:=by
   unfold hit at h;simp only[Bool.and_eq_true,beq_iff_eq] at h;exact h.2
  show (LV[j]?).bind (fun M=>mapAt M t.text)=none;rw[ht];exact hs j hj
 ·rfl
theorem LV_59:∀ j,j<5→(LV[j]?).bind (fun M=>mapAt M [59])=none:=by decide +kernel
theorem zav0:∀ j,j<5→(LV[j]?).bind (fun M=>mapAt M [123])=none:=by decide +kernel
theorem zaiz {t:Token} (h:t.kind=1) (s:List UInt8):hit s t=false:=zamu (by rw[h]; decide) (by rw[h]; decide)
theorem DS.head {s:TStmt} {c:List Tk} (h:DS s c):∃ o d,c=o::d∧(o.1=1∨∃ w,hitc w o=true∧w≠wElse∧w≠[125]∧w.length≤6):=by
 cases h with
 |set h _ _ _=>exact ⟨_,_,rfl,.inl h⟩
 |write h _ _ _=>exact ⟨_,_,rfl,.inl h⟩
 |add h _ _ _ _ _=>exact ⟨_,_,rfl,.inl h⟩
 |read h _ _ _=>exact ⟨_,_,rfl,.inl h⟩
 |@about i s w b q h1 h2 _ _=>
  refine ⟨_,_,rfl,.inr ⟨s,h2,?_⟩⟩;have hm:=List.mem_of_getElem? h1;revert s;intro s h1 h2 hm;simp only[four,List.mem_cons,List.not_mem_nil,or_false] at hm;rcases hm with rfl|rfl|rfl|rfl<;>decide
 |assert h _ _=>exact ⟨_,_,rfl,.inr ⟨_,h,by decide⟩⟩
 |if_ h _ _ _ _=>exact ⟨_,_,rfl,.inr ⟨_,h,by decide⟩⟩
 |ife h _ _ _ _ _ _ _ _=>exact ⟨_,_,rfl,.inr ⟨_,h,by decide⟩⟩
 |rep h _ _ _ _ _=>exact ⟨_,_,rfl,.inr ⟨_,h,by decide⟩⟩
theorem zats {s:TStmt} {c:List Tk} (h:DS s c) {u:List Token} (hu:u.map core=c):∃ t r,u=t::r∧hit wElse t=false∧hit [125] t=false:=by
 obtain ⟨o,d,rfl,h1⟩:=h.head;obtain ⟨t,r,rfl,rfl,h3⟩:=List.map_eq_cons_iff.1 hu;refine ⟨t,r,rfl,?_⟩;rcases h1 with h1|⟨w,h1,h2,h4,_⟩
 ·exact ⟨zaiz h1 _,zaiz h1 _⟩
 ·exact ⟨zaav h1 h2,zaav h1 h4⟩
theorem zaxz {B:List Token→Option RB} {t:Token} {r:List Token} {s:List UInt8} {a q:Token} (hs:hit s t=true) (ha:a.kind=1) (hq:hit [59] q=true):∀ (k f i n:Nat),n+k=i→k<f→four[i]? = some s →
  qaC_i4 B f 4 n (t::a::q::r) 0 [] [] 0 0 [] 0 four=some (okO (some (5+(i:Int),a.text)) r):=by
 intro k;induction k with
 |zero=>
  intro f i n hi hf h4;obtain ⟨f,rfl⟩:∃ q,f=q+1:=⟨f-1,by omega⟩;have hn:n=i:=by omega
  subst hn;have hlt:n<4:=by
   have:=(List.getElem?_eq_some_iff.1 h4).1;exact this
  show qaC_t4 B (qaC_i4 B f) 4 n (t::a::q::r) 0 [] [] 0 0 [] 0 four=_;unfold qaC_t4;have e1:decide ((n:Int)<4)=true:=by simp only[decide_eq_true_eq]; omega
  have e2:(decide ((0:Int)≤(n:Int))&&decide ((n:Int)<(↑(List.length four):Int)))=true:=by
   simp only[Bool.and_eq_true,decide_eq_true_eq];exact ⟨by omega,by show (n:Int)<4; omega⟩
  simp only[e1,e2,cond_true];rw[Int.toNat_natCast,h4,Option.bind_some,took1,hs,Option.bind_some];dsimp only[cond_true];have e3:(a.kind != 1)=false:=by simp[ha]
  rw[name1,e3,Option.bind_some];dsimp only[cond_false];rw[want1,hq,Option.bind_some];dsimp only[cond_true];rw[i64_in ((5:Int)+n) (by omega)];rfl
 |succ k ih=>
  intro f i n hi hf h4;obtain ⟨f,rfl⟩:∃ q,f=q+1:=⟨f-1,by omega⟩;have hlt4:=(List.getElem?_eq_some_iff.1 h4).1;have hlt:i<4:=hlt4;have hnl:n<four.length:=by show n<4; omega
  show qaC_t4 B (qaC_i4 B f) 4 n (t::a::q::r) 0 [] [] 0 0 [] 0 four=_;unfold qaC_t4;have e1:decide ((n:Int)<4)=true:=by simp only[decide_eq_true_eq]; omega
  have e2:(decide ((0:Int)≤(n:Int))&&decide ((n:Int)<(↑(List.length four):Int)))=true:=by
   simp only[Bool.and_eq_true,decide_eq_true_eq];exact ⟨by omega,by show (n:Int)<4; omega⟩
  simp only[e1,e2,cond_true];have hne:s≠four[n]:=by
   intro e;have h5:four[i]=four[n]:=by rw[← e]; exact (List.getElem?_eq_some_iff.1 h4).2
   have:∀ (x y:Fin 4),four[x.1]=four[y.1]→x=y:=by decide
   have:=this ⟨i,hlt⟩ ⟨n,hnl⟩ h5;simp only[Fin.mk.injEq] at this;omega
  rw[Int.toNat_natCast,List.getElem?_eq_getElem hnl,Option.bind_some,took1,zaav hs hne,Option.bind_some];dsimp only[cond_false];rw[i64_in ((n:Int)+1) (by omega)];exact ih f i (n+1) (by omega) (by omega) h4
theorem zaie {B:List Token→Option RB} {t:Token} {r:List Token} (hs:∀ s∈four,hit s t=false):∀ (k f n:Nat),n+k=4→k<f →
  qaC_i4 B f 4 n (t::r) 0 [] [] 0 0 [] 0 four=some (okO none (t::r)):=by
 intro k;induction k with
 |zero=>
  intro f n hi hf;obtain ⟨f,rfl⟩:∃ q,f=q+1:=⟨f-1,by omega⟩;show qaC_t4 B (qaC_i4 B f) 4 n (t::r) 0 [] [] 0 0 [] 0 four=_;unfold qaC_t4;have e1:decide ((n:Int)<4)=false:=by simp only[decide_eq_false_iff_not]; omega
  simp only[e1,cond_false];rfl
 |succ k ih=>
  intro f n hi hf;obtain ⟨f,rfl⟩:∃ q,f=q+1:=⟨f-1,by omega⟩;have hnl:n<four.length:=by show n<4; omega
  show qaC_t4 B (qaC_i4 B f) 4 n (t::r) 0 [] [] 0 0 [] 0 four=_;unfold qaC_t4;have e1:decide ((n:Int)<4)=true:=by simp only[decide_eq_true_eq]; omega
  have e2:(decide ((0:Int)≤(n:Int))&&decide ((n:Int)<(↑(List.length four):Int)))=true:=by
   simp only[Bool.and_eq_true,decide_eq_true_eq];exact ⟨by omega,by show (n:Int)<4; omega⟩
  simp only[e1,e2,cond_true];rw[Int.toNat_natCast,List.getElem?_eq_getElem hnl,Option.bind_some,took1,hs _ (List.getElem_mem hnl),Option.bind_some];dsimp only[cond_false];rw[i64_in ((n:Int)+1) (by omega)];exact ih f (n+1) (by omega) (by omega)
theorem zazu {s:TStmt} {c:List Tk} (h:DS s c) {u:List Token} (hu:u.map core=c) (h1:∃ t u',u=t::u'∧t.kind=1) (t:Token) (r:List Token) (hb:(u++t::r).length<1000000) :
  qaz (u++t::r)=some (okS s (t::r)):=by
 obtain ⟨ta,u',rfl,hk⟩:=h1;have hno:∀ s,hitc s (core ta)=false:=fun s=>by rw[hit_c]; exact zaiz hk s
 have e1:(ta.kind != 1)=false:=by simp[hk]
 simp only[List.map_cons] at hu;cases h with
 |set ha ho hx hq=>
  simp only[List.cons.injEq] at hu;obtain ⟨rfl,hu⟩:=hu;obtain ⟨tq0,u2,rfl,rfl,e2⟩:=List.map_eq_cons_iff.1 hu;obtain ⟨u3,tq,rfl,e3,rfl⟩:=snoc1 e2;rw[hit_c] at ho hq;simp only[List.cons_append,List.append_assoc,List.nil_append] at hb ⊢;rw[qaz,zaaa];unfold qaz_f;rw[name1,e1,Option.bind_some];dsimp only[cond_false];rw[took1,ho,Option.bind_some];dsimp only[cond_true];rw[exprC hx e3 tq (t::r) (zafx LV_59 hq) (by simp only[List.length_append,List.length_cons] at hb ⊢; omega),Option.bind_some];dsimp only[okE];rw[want1,hq,Option.bind_some];dsimp only[cond_true];rw[zaan];rfl
 |write ha ho hx hq=>
  simp only[List.cons.injEq] at hu;obtain ⟨rfl,hu⟩:=hu;obtain ⟨tq0,u2,rfl,rfl,e2⟩:=List.map_eq_cons_iff.1 hu;obtain ⟨u3,tq,rfl,e3,rfl⟩:=snoc1 e2;rw[hit_c] at ho hq;simp only[List.cons_append,List.append_assoc,List.nil_append] at hb ⊢;rw[qaz,zaaa];unfold qaz_f;rw[name1,e1,Option.bind_some];dsimp only[cond_false];rw[took1,zaav ho (by decide),Option.bind_some];dsimp only[cond_false];rw[took1,ho,Option.bind_some];dsimp only[cond_true];rw[exprC hx e3 tq (t::r) (zafx LV_59 hq) (by simp only[List.length_append,List.length_cons] at hb ⊢; omega),Option.bind_some];dsimp only[okE];rw[want1,hq,Option.bind_some];dsimp only[cond_true];rw[zaan];rfl
 |add ha ho hw hb2 hx hq=>
  simp only[List.cons.injEq] at hu;obtain ⟨rfl,hu⟩:=hu;obtain ⟨tq0,u2,rfl,rfl,e2⟩:=List.map_eq_cons_iff.1 hu;obtain ⟨tw,u3,rfl,rfl,e3⟩:=List.map_eq_cons_iff.1 e2;obtain ⟨tb,u4,rfl,rfl,e4⟩:=List.map_eq_cons_iff.1 e3;obtain ⟨u5,tq,rfl,e5,rfl⟩:=snoc1 e4;rw[hit_c] at ho hq hw;have e6:(tb.kind != 1)=false:=by simp[show tb.kind=1 from hb2]
  simp only[List.cons_append,List.append_assoc,List.nil_append] at hb ⊢;rw[qaz,zaaa];unfold qaz_f;rw[name1,e1,Option.bind_some];dsimp only[cond_false];rw[took1,zaav ho (by decide),Option.bind_some];dsimp only[cond_false];rw[took1,zaav ho (by decide),Option.bind_some];dsimp only[cond_false];rw[want1,ho,Option.bind_some];dsimp only[cond_true];rw[took1,hw,Option.bind_some];dsimp only[cond_true];rw[name1,e6,Option.bind_some];dsimp only[cond_false];rw[exprC hx e5 tq (t::r) (zafx LV_59 hq) (by simp only[List.length_append,List.length_cons] at hb ⊢; omega),Option.bind_some];dsimp only[okE];rw[want1,hq,Option.bind_some];dsimp only[cond_true];rw[zaan];rfl
 |read ha ho hb2 hq=>
  simp only[List.cons.injEq] at hu;obtain ⟨rfl,hu⟩:=hu;obtain ⟨tq0,u2,rfl,rfl,e2⟩:=List.map_eq_cons_iff.1 hu;obtain ⟨tb,u3,rfl,rfl,e3⟩:=List.map_eq_cons_iff.1 e2;obtain ⟨tq,u4,rfl,rfl,e4⟩:=List.map_eq_cons_iff.1 e3;have:u4=[]:=by simpa using e4
  subst this;rw[hit_c] at ho hq;have e6:(tb.kind != 1)=false:=by simp[show tb.kind=1 from hb2]
  simp only[List.cons_append,List.append_assoc,List.nil_append] at hb ⊢;rw[qaz,zaaa];unfold qaz_f;rw[name1,e1,Option.bind_some];dsimp only[cond_false];rw[took1,zaav ho (by decide),Option.bind_some];dsimp only[cond_false];rw[took1,zaav ho (by decide),Option.bind_some];dsimp only[cond_false];rw[want1,ho,Option.bind_some];dsimp only[cond_true];rw[took1,zaiz hb2,Option.bind_some];dsimp only[cond_false];rw[name1,e6,Option.bind_some];dsimp only[cond_false];rw[want1,hq,Option.bind_some];rfl
 |about h4 hw _ _=>
  simp only[List.cons.injEq] at hu;obtain ⟨rfl,hu⟩:=hu;rw[hno] at hw;cases hw
 |assert hw _ _=>
  simp only[List.cons.injEq] at hu;obtain ⟨rfl,hu⟩:=hu;rw[hno] at hw;cases hw
 |if_ hw _ _ _ _=>
  simp only[List.cons.injEq] at hu;obtain ⟨rfl,hu⟩:=hu;rw[hno] at hw;cases hw
 |ife hw _ _ _ _ _ _ _ _=>
  simp only[List.cons.injEq] at hu;obtain ⟨rfl,hu⟩:=hu;rw[hno] at hw;cases hw
 |rep hw _ _ _ _ _=>
  simp only[List.cons.injEq] at hu;obtain ⟨rfl,hu⟩:=hu;rw[hno] at hw;cases hw
def zamr (B:List Token→Option RB) (N:Nat):Prop:=∀ b d,DB b d→d.length<N→∀ u t r,u.map core=d→(u++t::r).length<1000000→B (u++t::r)=some (okB b (t::r))
theorem zazc {s:List UInt8} {t:Token} (h:hit s t=true):t.kind≠1:=by
 intro hk;rw[zaiz hk] at h;cases h
theorem stmtC {s:TStmt} {c:List Tk} (h:DS s c) {B:List Token→Option RB} (hB:zamr B c.length) {u:List Token} (hu:u.map core=c) (t:Token) (r:List Token) (hels:hit wElse t=false) (hb:(u++t::r).length<1000000) :
  qaC B (u++t::r)=some (okS s (t::r)):=by
 rw[qaC,zaaa];unfold qaC_f;by_cases hk:∃ ta u',u=ta::u'∧ta.kind=1
 ·have hp:=zazu h hu hk t r hb;obtain ⟨ta,u',rfl,hk⟩:=hk;rw[List.cons_append] at hp ⊢;rw[next1,Option.bind_some];dsimp only;have e:(ta.kind==1)=true:=by simp[hk]
  rw[e,cond_true,hp,Option.bind_some];dsimp only[okS];rw[zalc]
 ·
  have word:∀ {w:List UInt8} {o:Tk} {d:List Tk},u.map core=o::d→hitc w o=true→∃ tw u',u=tw::u'∧core tw=o∧u'.map core=d∧hit w tw=true∧(tw.kind==1)=false:=by
   intro w o d hu ho;obtain ⟨tw,u',rfl,rfl,e⟩:=List.map_eq_cons_iff.1 hu;exact ⟨tw,u',rfl,rfl,e,ho,by simpa using zazc (s:=w) (t:=tw) ho⟩
  cases h with
  |set ha _ _ _=>
   obtain ⟨ta,u',rfl,rfl,_⟩:=List.map_eq_cons_iff.1 hu;exact absurd ⟨ta,u',rfl,ha⟩ hk
  |write ha _ _ _=>
   obtain ⟨ta,u',rfl,rfl,_⟩:=List.map_eq_cons_iff.1 hu;exact absurd ⟨ta,u',rfl,ha⟩ hk
  |add ha _ _ _ _ _=>
   obtain ⟨ta,u',rfl,rfl,_⟩:=List.map_eq_cons_iff.1 hu;exact absurd ⟨ta,u',rfl,ha⟩ hk
  |read ha _ _ _=>
   obtain ⟨ta,u',rfl,rfl,_⟩:=List.map_eq_cons_iff.1 hu;exact absurd ⟨ta,u',rfl,ha⟩ hk
  |about h4 hw ha hq=>
   obtain ⟨tw,u',rfl,rfl,e1,hw,e2⟩:=word hu hw;obtain ⟨ta,u2,rfl,rfl,e3⟩:=List.map_eq_cons_iff.1 e1;obtain ⟨tq,u3,rfl,rfl,e4⟩:=List.map_eq_cons_iff.1 e3;have:u3=[]:=by simpa using e4
   subst this;rw[hit_c] at hq;simp only[List.cons_append,List.nil_append];rw[next1,Option.bind_some];dsimp only;have h9:=zaxz (B:=B) (r:=t::r) hw ha hq _ fuel _ 0 (Nat.zero_add _) (by unfold fuel; have:=(List.getElem?_eq_some_iff.1 h4).1; have:four.length=4:=rfl; omega) h4;rw[e2,cond_false,qaC_l4,zaaa];have h9':qaC_i4 B fuel (↑(4:Nat):Int) (0:Int) (tw::ta::tq::t::r) 0 [] [] 0 0 [] 0 four=_:=h9;rw[h9',Option.bind_some];rfl
  |assert hw hx hq=>
   obtain ⟨tw,u',rfl,rfl,e1,hw,e2⟩:=word hu hw;obtain ⟨u2,tq,rfl,e3,rfl⟩:=snoc1 e1;rw[hit_c] at hq;simp only[List.cons_append,List.append_assoc,List.nil_append] at hb ⊢;rw[next1,Option.bind_some];dsimp only;have h9:=zaie (B:=B) (t:=tw) (r:=u2++tq::t::r) (fun s hs=>zaav hw (by revert s; decide)) 4 fuel 0 rfl (by unfold fuel; omega);have h9':qaC_i4 B fuel (↑(4:Nat):Int) (0:Int) (tw::(u2++tq::t::r)) 0 [] [] 0 0 [] 0 four=_:=h9;rw[e2,cond_false,qaC_l4,zaaa,h9',Option.bind_some];dsimp only[okO];rw[took1,hw,Option.bind_some];dsimp only[cond_true];rw[exprC hx e3 tq (t::r) (zafx LV_59 hq) (by simp only[List.length_append,List.length_cons] at hb ⊢; omega),Option.bind_some];dsimp only[okE];rw[want1,hq,Option.bind_some];dsimp only[cond_true];rw[zaan];rfl
  |@if_ w o q x c d b hw hx ho hd hq=>
   obtain ⟨tw,u',rfl,rfl,e1,hw,e2⟩:=word hu hw;obtain ⟨u2,tq0,u3,rfl,e3,rfl,e4⟩:=zahu e1;obtain ⟨u4,tq,rfl,e5,rfl⟩:=snoc1 e4;have hblk:=hB b (core tq0::(d++[core tq])) ⟨_,_,_,ho,hd,hq,rfl⟩ (by simp only[List.length_cons,List.length_append]; omega) (tq0::(u4++[tq])) t r (by simp[e5]);rw[hit_c] at ho hq;simp only[List.cons_append,List.append_assoc,List.nil_append] at hb hblk ⊢;rw[next1,Option.bind_some];dsimp only;have h9:=zaie (B:=B) (t:=tw) (r:=u2++tq0::(u4++tq::t::r)) (fun s hs=>zaav hw (by revert s; decide)) 4 fuel 0 rfl (by unfold fuel; omega);have h9':qaC_i4 B fuel (↑(4:Nat):Int) (0:Int) (tw::(u2++tq0::(u4++tq::t::r))) 0 [] [] 0 0 [] 0 four=_:=h9;rw[e2,cond_false,qaC_l4,zaaa,h9',Option.bind_some];dsimp only[okO];rw[took1,zaav hw (by decide),Option.bind_some];dsimp only[cond_false];rw[took1,hw,Option.bind_some];dsimp only[cond_true];rw[exprC hx e3 tq0 _ (zafx zav0 ho) (by simp only[List.length_append,List.length_cons] at hb ⊢; omega),Option.bind_some];dsimp only[okE];rw[hblk (by simp only[List.length_append,List.length_cons] at hb ⊢; omega),Option.bind_some];dsimp only[okB];rw[took1,hels,Option.bind_some];dsimp only[cond_false];rw[zaan];rfl
  |@ife w o q v o2 q2 x c d d2 b b2 hw hx ho hd hq hv ho2 hd2 hq2=>
   obtain ⟨tw,u',rfl,rfl,e1,hw,e2⟩:=word hu hw;obtain ⟨u2,tq0,u3,rfl,e3,rfl,e4⟩:=zahu e1;obtain ⟨u4,tq,u5,rfl,e5,rfl,e6⟩:=zahu e4;obtain ⟨tv,u6,rfl,rfl,e7⟩:=List.map_eq_cons_iff.1 e6;obtain ⟨to2,u7,rfl,rfl,e8⟩:=List.map_eq_cons_iff.1 e7;obtain ⟨u8,tq2,rfl,e9,rfl⟩:=snoc1 e8;have hblk:=hB b (core tq0::(d++[core tq])) ⟨_,_,_,ho,hd,hq,rfl⟩ (by simp only[List.length_cons,List.length_append]; omega) (tq0::(u4++[tq])) tv (to2::(u8++tq2::t::r)) (by simp[e5]);have hblk2:=hB b2 (core to2::(d2++[core tq2])) ⟨_,_,_,ho2,hd2,hq2,rfl⟩ (by simp only[List.length_cons,List.length_append]; omega) (to2::(u8++[tq2])) t r (by simp[e9]);rw[hit_c] at ho hq hv ho2 hq2;simp only[List.cons_append,List.append_assoc,List.nil_append] at hb hblk hblk2 ⊢;rw[next1,Option.bind_some];dsimp only;have h9:=zaie (B:=B) (t:=tw) (r:=u2++tq0::(u4++tq::tv::to2::(u8++tq2::t::r))) (fun s hs=>zaav hw (by revert s; decide)) 4 fuel 0 rfl (by unfold fuel; omega);have h9':qaC_i4 B fuel (↑(4:Nat):Int) (0:Int) (tw::(u2++tq0::(u4++tq::tv::to2::(u8++tq2::t::r)))) 0 [] [] 0 0 [] 0 four=_:=h9;rw[e2,cond_false,qaC_l4,zaaa,h9',Option.bind_some];dsimp only[okO];rw[took1,zaav hw (by decide),Option.bind_some];dsimp only[cond_false];rw[took1,hw,Option.bind_some];dsimp only[cond_true];rw[exprC hx e3 tq0 _ (zafx zav0 ho) (by simp only[List.length_append,List.length_cons] at hb ⊢; omega),Option.bind_some];dsimp only[okE];rw[hblk (by simp only[List.length_append,List.length_cons] at hb ⊢; omega),Option.bind_some];dsimp only[okB];rw[took1,hv,Option.bind_some];dsimp only[cond_true];rw[hblk2 (by simp only[List.length_append,List.length_cons] at hb ⊢; omega),Option.bind_some];dsimp only[okB];rw[zaan];rfl
  |@rep w n o q d b hw hn hn2 ho hd hq=>
   obtain ⟨tw,u',rfl,rfl,e1,hw,e2⟩:=word hu hw;obtain ⟨tn,u2,rfl,rfl,e3⟩:=List.map_eq_cons_iff.1 e1;obtain ⟨tq0,u3,rfl,rfl,e4⟩:=List.map_eq_cons_iff.1 e3;obtain ⟨u4,tq,rfl,e5,rfl⟩:=snoc1 e4;have hblk:=hB b (core tq0::(d++[core tq])) ⟨_,_,_,ho,hd,hq,rfl⟩ (by simp only[List.length_cons,List.length_append]; omega) (tq0::(u4++[tq])) t r (by simp[e5]);rw[hit_c] at ho hq;simp only[List.cons_append,List.append_assoc,List.nil_append] at hb hblk ⊢;rw[next1,Option.bind_some];dsimp only;have h9:=zaie (B:=B) (t:=tw) (r:=tn::tq0::(u4++tq::t::r)) (fun s hs=>zaav hw (by revert s; decide)) 4 fuel 0 rfl (by unfold fuel; omega);have h9':qaC_i4 B fuel (↑(4:Nat):Int) (0:Int) (tw::tn::tq0::(u4++tq::t::r)) 0 [] [] 0 0 [] 0 four=_:=h9;rw[e2,cond_false,qaC_l4,zaaa,h9',Option.bind_some];dsimp only[okO];rw[took1,zaav hw (by decide),Option.bind_some];dsimp only[cond_false];rw[took1,zaav hw (by decide),Option.bind_some];dsimp only[cond_false];rw[want1,hw,Option.bind_some];dsimp only[cond_true];rw[next1,Option.bind_some];dsimp only;have f1:(tn.kind==2)=true:=by simp[show tn.kind=2 from hn]
   have f2:decide (tn.num>(1000:Int))=false:=by simp only[decide_eq_false_iff_not]; have:tn.num≤1000:=hn2; omega
   have f3:(tn.kind != 2)=false:=by simp[show tn.kind=2 from hn]
   rw[f1,cond_true,f2,Option.bind_some,cond_false,of1,f3,Option.bind_some];dsimp only[cond_false];rw[hblk (by simp only[List.length_append,List.length_cons] at hb ⊢; omega),Option.bind_some];rfl
theorem zayo {B:List Token→Option RB} {N:Nat} (hB:zamr B N):∀ (b:List TStmt) (d:List Tk),DL b d→d.length≤N→∀ (f:Nat) (a:List TStmt) (u:List Token) (q t:Token) (r:List Token),u.map core=d→hit [125] q=true→u.length<f→a.length+(u++q::t::r).length<1000000 →
  qat_i3 B f (u++q::t::r) a=some (ok3 (a++b) (t::r)):=by
 intro b;induction b with
 |nil=>
  intro d hd hN f a u q t r hu hq hf hb;cases hd;have:u=[]:=by simpa using hu
  subst this;obtain ⟨f,rfl⟩:∃ q,f=q+1:=⟨f-1,by omega⟩;show qat_t3 B (qat_i3 B f) (q::t::r) a=_;unfold qat_t3;rw[took1,hq,Option.bind_some,List.append_nil];rfl
 |cons s b ih=>
  intro d hd hN f a u q t r hu hq hf hb;cases hd with
  |cons hs hl=>
  rename_i c d;obtain ⟨u1,u2,rfl,e1,e2⟩:=List.map_eq_append_iff.1 hu;have hsz:=hs.size.1;have hl1:u1.length=c.length:=by rw[← e1,List.length_map]
  obtain ⟨t1,r1,hu1,_,hno⟩:=zats hs e1;obtain ⟨f,rfl⟩:∃ q,f=q+1:=⟨f-1,by omega⟩
  -- the token behind
  obtain ⟨t2,r2,ht2,hels⟩:∃ t2 r2,u2++q::t::r=t2::r2∧hit wElse t2=false:=by
   cases hl with
   |nil=>
    have:u2=[]:=by simpa using e2
    subst this;exact ⟨q,t::r,rfl,zaav hq (by decide)⟩
   |cons hs2 _=>
    obtain ⟨u3,u4,rfl,e3,e4⟩:=List.map_eq_append_iff.1 e2;obtain ⟨t2,r2,rfl,h,_⟩:=zats hs2 e3;exact ⟨t2,_,rfl,h⟩
  have hst:=stmtC hs (B:=B) (fun b' d' h1 h2=>hB b' d' h1 (by simp only[List.length_append] at hN; omega)) e1 t2 r2 hels (by rw[← ht2]; simp only[List.length_append,List.length_cons] at hb ⊢; omega);rw[← ht2] at hst;show qat_t3 B (qat_i3 B f) (u1++u2++q::t::r) a=_;rw[List.append_assoc];unfold qat_t3;have htk:qaE [125] (u1++(u2++q::t::r))=some (false,u1++(u2++q::t::r)):=by
   rw[hu1,List.cons_append,took1,hno];rfl
  rw[htk,Option.bind_some];simp only[Bool.not_false,cond_true];rw[hst,Option.bind_some];dsimp only[okS];have e9:decide ((List.length a+List.length [s])*(152:Nat)≤(140737488355328:Nat)∧List.length a+List.length [s]≤(9223372036854775807:Nat))=true:=by
   simp only[decide_eq_true_eq,List.length_cons,List.length_nil];omega
  rw[e9,cond_true];simp only[List.length_append,List.length_cons] at hN hf hb;rw[ih d hl (by omega) f (a++[s]) u2 q t r e2 hq (by omega) (by simp only[List.length_append,List.length_cons,List.length_nil]; omega)];simp
theorem zayt:∀ n N,N≤n→zamr (qat_i n) N:=by
 intro n;induction n with
 |zero=>intro N h b d hd hl; omega
 |succ n ih=>
  intro N hN b d hd hl u t r hu hb;obtain ⟨o,d',q,ho,hd,hq,rfl⟩:=hd;obtain ⟨tq0,u2,rfl,rfl,e1⟩:=List.map_eq_cons_iff.1 hu;obtain ⟨u3,tq,rfl,e2,rfl⟩:=snoc1 e1;simp only[List.length_cons,List.length_append,List.length_nil] at hl;rw[hit_c] at ho hq;simp only[List.cons_append,List.append_assoc,List.nil_append] at hb ⊢;show qat_f (qat_i n) (tq0::(u3++tq::t::r))=_;unfold qat_f;rw[want1,ho,Option.bind_some];dsimp only[cond_true];have hl3:u3.length=d'.length:=by rw[← e2,List.length_map]
  rw[qat_l3,zaaa,zayo (ih (d'.length) (by omega)) b d' hd (Nat.le_refl _) fuel [] u3 tq t r e2 hq (by simp only[List.length_append,List.length_cons] at hb; unfold fuel; omega) (by simp only[List.length_append,List.length_cons,List.length_nil] at hb ⊢; omega),Option.bind_some];rfl
theorem zazt {b:List TStmt} {d:List Tk} (h:DB b d) {u:List Token} (hu:u.map core=d) (t:Token) (r:List Token) (hb:(u++t::r).length<1000000):qat (u++t::r)=some (okB b (t::r)):=by
 have hl:u.length=d.length:=by rw[← hu,List.length_map]
 rw[qat,zaaa];exact zayt fuel 1000000 (by unfold fuel; omega) b d h (by simp only[List.length_append] at hb; omega) u t r hu hb
end Lift.A4
namespace Lift.A4
open Go Go.RowKit Lift Go.IntWalk Lift.Fn Lift.A1P Lift.A3
set_option linter.unusedVariables false
set_option linter.unusedSimpArgs false
noncomputable abbrev progL (f:Nat) (z:List Token) (q:TProg):=qaA_i2 f z q.cells q.mutexes q.threads
theorem zaqg {q:TProg} (hc:q.cells.length<1000000) (hm:q.mutexes.length<1000000) (ht:q.threads.length<1000000) :
  (∀ c:TCell,decide ((List.length q.cells+List.length [c])*(24:Nat)≤(140737488355328:Nat)∧List.length q.cells+List.length [c]≤(9223372036854775807:Nat))=true) ∧
  (∀ c:List UInt8,decide ((List.length q.mutexes+List.length [c])*(16:Nat)≤(140737488355328:Nat)∧List.length q.mutexes+List.length [c]≤(9223372036854775807:Nat))=true) ∧
  (∀ c:TThread,decide ((List.length q.threads+List.length [c])*(40:Nat)≤(140737488355328:Nat)∧List.length q.threads+List.length [c]≤(9223372036854775807:Nat))=true):=by
 refine ⟨fun c=>?_,fun c=>?_,fun c=>?_⟩ <;>
 ·simp only[decide_eq_true_eq,List.length_cons,List.length_nil];omega
theorem word5 {s:List UInt8} {t:Token} (h:hit s t=true):(t.kind != 5)=true:=by
 have:=zaog h;simpa using this
theorem zaxr {q:TProg} {x:TCell} {d:List Tk} (h:DC x d) (hc:q.cells.length<1000000) (hm:q.mutexes.length<1000000) (ht:q.threads.length<1000000) {u:List Token} (hu:u.map core=d) (f:Nat) (t:Token) (r:List Token) :
  progL (f+1) (u++t::r) q=progL f (t::r) ⟨q.cells++[x],q.mutexes,q.threads⟩:=by
 obtain ⟨g1,g2,g3⟩:=zaqg hc hm ht;show qaA_t2 (qaA_i2 f) (u++t::r) q.cells q.mutexes q.threads=_;unfold qaA_t2;simp only[g1,g2,g3,cond_true];cases h with
 |bare hw ha hq=>
  obtain ⟨tw,u2,rfl,rfl,e2⟩:=List.map_eq_cons_iff.1 hu;obtain ⟨ta,u3,rfl,rfl,e3⟩:=List.map_eq_cons_iff.1 e2;obtain ⟨tq,u4,rfl,rfl,e4⟩:=List.map_eq_cons_iff.1 e3;have:u4=[]:=by simpa using e4
  subst this;rw[hit_c] at hw hq;have e6:(ta.kind != 1)=false:=by simp[show ta.kind=1 from ha]
  simp only[List.cons_append,List.nil_append];rw[next1,Option.bind_some];dsimp only;rw[word5 hw,cond_true,took1,hw,Option.bind_some];dsimp only[cond_true];rw[name1,e6,Option.bind_some];dsimp only[cond_false];rw[took1,zaav hq (by decide),Option.bind_some];dsimp only[cond_false];rw[want1,hq,Option.bind_some];rfl
 |pos hw ha ho hno hn hq=>
  obtain ⟨tw,u2,rfl,rfl,e2⟩:=List.map_eq_cons_iff.1 hu;obtain ⟨ta,u3,rfl,rfl,e3⟩:=List.map_eq_cons_iff.1 e2;obtain ⟨tq0,u4,rfl,rfl,e4⟩:=List.map_eq_cons_iff.1 e3;obtain ⟨tn,u5,rfl,rfl,e5⟩:=List.map_eq_cons_iff.1 e4;obtain ⟨tq,u6,rfl,rfl,e7⟩:=List.map_eq_cons_iff.1 e5;have:u6=[]:=by simpa using e7
  subst this;rw[hit_c] at hw hq ho hno;have e6:(ta.kind != 1)=false:=by simp[show ta.kind=1 from ha]
  have e8:(tn.kind != 2)=false:=by simp[show tn.kind=2 from hn]
  simp only[List.cons_append,List.nil_append];rw[next1,Option.bind_some];dsimp only;rw[word5 hw,cond_true,took1,hw,Option.bind_some];dsimp only[cond_true];rw[name1,e6,Option.bind_some];dsimp only[cond_false];rw[took1,ho,Option.bind_some];dsimp only[cond_true];rw[took1,hno,Option.bind_some];dsimp only[cond_false];rw[of1,e8,Option.bind_some];dsimp only[cond_false];rw[want1,hq,Option.bind_some];rfl
 |ngt hw ha ho hm2 hn hq=>
  obtain ⟨tw,u2,rfl,rfl,e2⟩:=List.map_eq_cons_iff.1 hu;obtain ⟨ta,u3,rfl,rfl,e3⟩:=List.map_eq_cons_iff.1 e2;obtain ⟨tq0,u4,rfl,rfl,e4⟩:=List.map_eq_cons_iff.1 e3;obtain ⟨tm,u4,rfl,rfl,e9⟩:=List.map_eq_cons_iff.1 e4;obtain ⟨tn,u5,rfl,rfl,e5⟩:=List.map_eq_cons_iff.1 e9;obtain ⟨tq,u6,rfl,rfl,e7⟩:=List.map_eq_cons_iff.1 e5;have:u6=[]:=by simpa using e7
  subst this;rw[hit_c] at hw hq ho hm2;have e6:(ta.kind != 1)=false:=by simp[show ta.kind=1 from ha]
  have e8:(tn.kind != 2)=false:=by simp[show tn.kind=2 from hn]
  simp only[List.cons_append,List.nil_append];rw[next1,Option.bind_some];dsimp only;rw[word5 hw,cond_true,took1,hw,Option.bind_some];dsimp only[cond_true];rw[name1,e6,Option.bind_some];dsimp only[cond_false];rw[took1,ho,Option.bind_some];dsimp only[cond_true];rw[took1,hm2,Option.bind_some];dsimp only[cond_true];rw[of1,e8,Option.bind_some];dsimp only[cond_false,cond_true];rw[want1,hq,Option.bind_some];rfl
theorem zawm {q:TProg} {w a z:Tk} (hw:hitc zavd w=true) (ha:a.1=1) (hz:hitc [59] z=true) (hc:q.cells.length<1000000) (hm:q.mutexes.length<1000000) (ht:q.threads.length<1000000) {u:List Token} (hu:u.map core=[w,a,z]) (f:Nat) (t:Token) (r:List Token) :
  progL (f+1) (u++t::r) q=progL f (t::r) ⟨q.cells,q.mutexes++[a.2.1],q.threads⟩:=by
 obtain ⟨g1,g2,g3⟩:=zaqg hc hm ht;show qaA_t2 (qaA_i2 f) (u++t::r) q.cells q.mutexes q.threads=_;unfold qaA_t2;simp only[g1,g2,g3,cond_true];obtain ⟨tw,u2,rfl,rfl,e2⟩:=List.map_eq_cons_iff.1 hu;obtain ⟨ta,u3,rfl,rfl,e3⟩:=List.map_eq_cons_iff.1 e2;obtain ⟨tq,u4,rfl,rfl,e4⟩:=List.map_eq_cons_iff.1 e3;have:u4=[]:=by simpa using e4
 subst this;rw[hit_c] at hw hz;have e6:(ta.kind != 1)=false:=by simp[show ta.kind=1 from ha]
 simp only[List.cons_append,List.nil_append];rw[next1,Option.bind_some];dsimp only;rw[word5 hw,cond_true,took1,zaav hw (by decide),Option.bind_some];dsimp only[cond_false];rw[took1,hw,Option.bind_some];dsimp only[cond_true];rw[name1,e6,Option.bind_some];dsimp only[cond_false];rw[want1,hz,Option.bind_some];rfl
theorem zat8 {q:TProg} {w a:Tk} {b:List TStmt} {d:List Tk} (hw:hitc zas8 w=true) (ha:a.1=1) (hb:DB b d) (hc:q.cells.length<1000000) (hm:q.mutexes.length<1000000) (ht:q.threads.length<1000000) {u:List Token} (hu:u.map core=w::a::d) (f:Nat) (t:Token) (r:List Token) (hl:(u++t::r).length<1000000) :
  progL (f+1) (u++t::r) q=progL f (t::r) ⟨q.cells,q.mutexes,q.threads++[⟨a.2.1,b⟩]⟩:=by
 obtain ⟨g1,g2,g3⟩:=zaqg hc hm ht;show qaA_t2 (qaA_i2 f) (u++t::r) q.cells q.mutexes q.threads=_;unfold qaA_t2;simp only[g1,g2,g3,cond_true];obtain ⟨tw,u2,rfl,rfl,e2⟩:=List.map_eq_cons_iff.1 hu;obtain ⟨ta,u3,rfl,rfl,e3⟩:=List.map_eq_cons_iff.1 e2;rw[hit_c] at hw;have e6:(ta.kind != 1)=false:=by simp[show ta.kind=1 from ha]
 simp only[List.cons_append,List.nil_append] at hl ⊢;rw[next1,Option.bind_some];dsimp only;rw[word5 hw,cond_true,took1,zaav hw (by decide),Option.bind_some];dsimp only[cond_false];rw[took1,zaav hw (by decide),Option.bind_some];dsimp only[cond_false];rw[want1,hw,Option.bind_some];dsimp only[cond_true];rw[name1,e6,Option.bind_some];dsimp only[cond_false];rw[zazt hb e3 t r (by simp only[List.length_append,List.length_cons] at hl ⊢; omega),Option.bind_some];rfl
theorem zau5 {p:TProg} {c:List Tk} (h:DP p c):∀ (u:List Token),u.map core=c→∀ (t:Token) (r:List Token),(u++t::r).length<1000000→∃ k,k≤u.length∧progL fuel (u++t::r) ⟨[],[],[]⟩=progL (fuel-k) (t::r) p:=by
 induction h with
 |nil=>
  intro u hu t r _;have:u=[]:=by simpa using hu
  subst this;exact ⟨0,by simp,rfl⟩
 |@cell p c d x hp hx ih=>
  intro u hu t r hb;obtain ⟨u1,u2,rfl,e1,e2⟩:=List.map_eq_append_iff.1 hu;have hsz:=hp.size;have hl1:u1.length=c.length:=by rw[← e1,List.length_map]
  have hl2:u2.length=d.length:=by rw[← e2,List.length_map]
  have hd:=hx.len;simp only[List.length_append,List.length_cons,List.append_assoc] at hb ⊢;cases u2 with
  |nil=>simp at hl2; omega
  |cons t2 u2=>
  obtain ⟨k,hk,h⟩:=ih u1 e1 t2 (u2++t::r) (by simp only[List.length_append,List.length_cons] at hb ⊢; omega);have hst:=zaxr (q:=p) hx (by omega) (by omega) (by omega) e2 (fuel-k-1) t r;refine ⟨k+1,by simp only[List.length_cons]; omega,?_⟩;rw[List.cons_append,h];have e:fuel-k=(fuel-k-1)+1:=by unfold fuel; omega
  rw[e,← List.cons_append,hst];rfl
 |@mutex p c w a q hp hw ha hq ih=>
  intro u hu t r hb;obtain ⟨u1,u2,rfl,e1,e2⟩:=List.map_eq_append_iff.1 hu;have hsz:=hp.size;have hl1:u1.length=c.length:=by rw[← e1,List.length_map]
  have hl2:u2.length=3:=by have:=congrArg List.length e2; simpa using this
  simp only[List.length_append,List.length_cons,List.append_assoc] at hb ⊢;cases u2 with
  |nil=>simp at hl2
  |cons t2 u2=>
  obtain ⟨k,hk,h⟩:=ih u1 e1 t2 (u2++t::r) (by simp only[List.length_append,List.length_cons] at hb ⊢; omega);have hst:=zawm (q:=p) hw ha hq (by omega) (by omega) (by omega) e2 (fuel-k-1) t r;refine ⟨k+1,by simp only[List.length_cons]; omega,?_⟩;rw[List.cons_append,h];have e:fuel-k=(fuel-k-1)+1:=by unfold fuel; omega
  rw[e,← List.cons_append,hst];rfl
 |@thread p c d w a b hp hw ha hbd ih=>
  intro u hu t r hb;obtain ⟨u1,u2,rfl,e1,e2⟩:=List.map_eq_append_iff.1 hu;have hsz:=hp.size;have hl1:u1.length=c.length:=by rw[← e1,List.length_map]
  simp only[List.length_append,List.length_cons,List.append_assoc] at hb ⊢;cases u2 with
  |nil=>simp at e2
  |cons t2 u2=>
  obtain ⟨k,hk,h⟩:=ih u1 e1 t2 (u2++t::r) (by simp only[List.length_append,List.length_cons] at hb ⊢; omega);have hst:=zat8 (q:=p) hw ha hbd (by omega) (by omega) (by omega) e2 (fuel-k-1) t r (by simp only[List.length_append,List.length_cons] at hb ⊢; omega);refine ⟨k+1,by simp only[List.length_cons]; omega,?_⟩;rw[List.cons_append,h];have e:fuel-k=(fuel-k-1)+1:=by unfold fuel; omega
  rw[e,← List.cons_append,hst];rfl
theorem name0:qaw []=none:=by
 rw[qaw,zaaa];unfold qaw_f;rw[qay,zaaa];unfold qay_f;rw[qax,zaaa];rfl
theorem zauw {t:Token} (hk:t.kind≠5) (f:Nat) (q:TProg) (p:TProg) (z:List Token):progL (f+1) [t] q≠some (ok2 p z):=by
 show qaA_t2 (qaA_i2 f) [t] q.cells q.mutexes q.threads≠_;unfold qaA_t2;rw[next1,Option.bind_some];dsimp only;have e5:(t.kind != 5)=true:=by simp[hk]
 rw[e5,cond_true,took1];cases h1:hit [99,101,108,108] t with
 |true=>
  rw[Option.bind_some];dsimp only[cond_true];rw[name0];intro h;cases h
 |false=>
  rw[Option.bind_some];dsimp only[cond_false];rw[took1];cases h2:hit [109,117,116,101,120] t with
  |true=>
   rw[Option.bind_some];dsimp only[cond_true];rw[name0];intro h;cases h
  |false=>
   rw[Option.bind_some];dsimp only[cond_false];rw[want1];cases h3:hit [116,104,114,101,97,100] t with
   |true=>
    rw[Option.bind_some];dsimp only[cond_true];rw[name0];intro h;cases h
   |false=>
    intro h;cases h
theorem zaw8 {l:List Token} {e:Token} (he:e.kind=5) (hb:(l++[e]).length<1000000) {p:TProg} {z:List Token} (h:qaA (l++[e])=some (okP p z)) (hl:∀ t∈l,t.kind≠5):DP p (l.map core):=by
 obtain ⟨u,t,r,h1,h2,h3⟩:=zaqr (l++[e]) ⟨l,e,rfl,he⟩ hb;rcases h3 with ⟨x,c,h3⟩|h3
 ·have h4:qaA (u++t::r)=_:=h3 u t r rfl rfl;rw[← h1,h] at h4;simp only[Option.some.injEq] at h4;have hx:x=p:=by
   unfold okP at h4;simp only[Sum.inl.injEq,Prod.mk.injEq] at h4;obtain ⟨_,a,b,c⟩:=h4;obtain ⟨x1,x2,x3⟩:=x;obtain ⟨p1,p2,p3⟩:=p;simp only at a b c;rw[a,b,c]
  subst hx;by_cases hk:t.kind=5
  ·have:r=[]∧u=l:=by
    rcases List.eq_nil_or_concat r with hr|⟨r',b,hr⟩
    ·subst hr;exact ⟨rfl,(List.append_inj_left' h1 rfl).symm⟩
    ·exfalso;subst hr;have h5:l++[e]=(u++t::r')++[b]:=by rw[h1]; simp
     have h6:=List.append_inj_left' h5 rfl;exact hl t (by rw[h6]; simp) hk
   rw[← this.2];exact c
  ·exfalso;have h5:qaA (u++t::[])=_:=h3 u t [] rfl rfl;have hlen:(u++[t]).length<1000000:=by
    have:=congrArg List.length h1;simp only[List.length_append,List.length_cons,List.length_nil] at this hb ⊢;omega
   rw[qaA,zaaa] at h5;unfold qaA_f at h5;rw[qaA_l2,zaaa] at h5;obtain ⟨k,hk2,h6⟩:=zau5 c u rfl t [] hlen;have h6':qaA_i2 fuel (u++[t]) [] [] []=_:=h6;rw[h6'] at h5;simp only[List.length_append] at hlen;obtain ⟨f,hf⟩:∃ f,fuel-k=f+1:=⟨fuel-k-1,by unfold fuel; omega⟩;rw[hf] at h5;cases hq:progL (f+1) [t] x with
   |none=>rw[hq] at h5; cases h5
   |some y=>
    rw[hq] at h5;cases y with
    |inl w=>cases h5
    |inr y=>
     obtain ⟨y1,y2,y3,y4⟩:=y;exact zauw hk f x ⟨y2,y3,y4⟩ y1 hq
 ·have h4:qaA (u++t::r)=_:=h3 u t r rfl rfl;rw[← h1,h] at h4;cases h4
end Lift.A4
namespace Lift.A1P
open Go Go.RowKit Lift Go.IntWalk Lift.Fn
theorem zavv:∀ x∈twos,x.headD 0≠35∧x.headD 0≠9∧x.headD 0≠10∧x.headD 0≠13∧x.headD 0≠32:=by decide
theorem zawj:∀ b∈ones,b≠35∧b≠9∧b≠10∧b≠13∧b≠32:=by decide
theorem zayf {w:List Int} {t:Token} (h:whole w t) (r:List Int):skip false (w++r)=w++r:=by
 obtain ⟨h1,h2,h3,h4⟩:=h;match w,h1 with
 |a::w,_=>
  simp only[List.all_cons,Bool.and_eq_true] at h2;have key:a≠35∧Sp.blank a=false:=by
   cases hg:goesR a with
   |true=>
    unfold goesR Sp.letter Sp.digit at hg;simp only[Bool.or_eq_true,Bool.and_eq_true,decide_eq_true_eq] at hg;constructor
    ·omega
    ·simp only[Sp.blank,decide_eq_false_iff_not]; omega
   |false=>
    obtain ⟨b,u,hb⟩:=zano a w;unfold tokR at h3;simp only[List.headD_cons,hg,cond_false] at h3;cases hc:(sgn (encs (a::w))==[]) with
    |true=>rw[hc] at h3; simp at h3
    |false=>
     have hne:sgn (encs (a::w))≠[]:=by simpa using hc
     have hbb:b.toNat<128∧b≠35∧b≠9∧b≠10∧b≠13∧b≠32:=by
      unfold sgn at hne;by_cases k1:1<(encs (a::w)).length∧twos.contains ((encs (a::w)).take 2)=true
      ·have hm:(encs (a::w)).take 2∈twos:=by simpa using k1.2
       have q1:=(zaoq _ hm).2;have q2:=zavv _ hm;rw[hb] at q1 q2;simp only[List.take_succ_cons,List.all_cons,Bool.and_eq_true,decide_eq_true_eq,List.headD_cons] at q1 q2;exact ⟨q1.1,q2⟩
      ·rw[if_neg k1] at hne;by_cases k2:ones.contains ((encs (a::w)).headD 0)=true
       ·rw[hb] at k2;have hm:b∈ones:=by simpa using k2
        exact ⟨zaom b hm,zawj b hm⟩
       ·rw[if_neg k2] at hne;exact absurd rfl hne
     obtain ⟨e1,_⟩:=zaep h2.1 hb hbb.1;have hr:=zafv h2.1;have hlen:=congrArg List.length e1;rw[zac2] at hlen;have ha:a<128:=by
      unfold Sp.long at hlen;by_cases k:a<128
      ·exact k
      ·rw[if_neg k] at hlen;split at hlen
       ·simp at hlen
       ·split at hlen<;>simp at hlen
     have e2:UInt8.ofNat a.toNat=b:=by
      have:encB a=[UInt8.ofNat a.toNat]:=by simp[encB,bytesOf,Sp.enc,ha]
      rw[this] at e1;exact (List.cons.inj e1).1
     have e3:b.toNat=a.toNat:=by rw[← e2,zab3 _ (by omega)]
     obtain ⟨_,n1,n2,n3,n4,n5⟩:=hbb;have no:∀ c:UInt8,b≠c→b.toNat≠c.toNat:=fun c hc hh=>hc (UInt8.toNat_inj.1 hh)
     have m1:=no 35 n1;have m2:=no 9 n2;have m3:=no 10 n3;have m4:=no 13 n4;have m5:=no 32 n5;simp only[show (35:UInt8).toNat=35 from rfl,show (9:UInt8).toNat=9 from rfl,show (10:UInt8).toNat=10 from rfl,show (13:UInt8).toNat=13 from rfl,show (32:UInt8).toNat=32 from rfl] at m1 m2 m3 m4 m5;constructor
     ·omega
     ·simp only[Sp.blank,decide_eq_false_iff_not]; omega
  simp only[List.cons_append,skip];rw[if_neg key.1,key.2];rfl
theorem zaul {w:List Int} {t:Token} (h:whole w t):restR w=[]:=by
 obtain ⟨h1,h2,h3,h4⟩:=h;match w,h1 with
 |a::w,_=>
  obtain ⟨ds,_,q2,q3⟩:=zag1 a w h2 (by rw[h3]);have:encs (ds++restR (a::w))=encs ds:=by
   rw[← q2,q3,h3];exact h4.symm
  exact zam3 this
def jr:List (List Int)→List Int
 |[]=>[]
 |[w]=>w
 |w::v::ws=>w++32::jr (v::ws)
end Lift.A1P
namespace Lift.A4
open Go Go.RowKit Lift Go.IntWalk Lift.Fn Lift.A1P
set_option linter.unusedVariables false
set_option linter.unusedSimpArgs false
theorem zas5 (c:Int):1≤(encB c).length:=by
 rw[zac2];have:=zaek c;omega
theorem zamm (c:Bool) (l:List Int):(skip c l).length≤l.length:=by
 obtain ⟨ds,h⟩:=zabj l c;have:=congrArg List.length h;rw[List.length_append] at this;omega
noncomputable def T (p:Int) (rs:List Int):(Int×Int)⊕List Token:=toks rs.length p rs
theorem T_nil (p:Int):T p []=.inr []:=rfl
theorem zaf5 {r:Int} {rs:List Int} (ha:(r::rs).all Sp.isRune=true) (h0:(tokR (r::rs)).2=0):(skip false (restR (r::rs))).all Sp.isRune=true∧(skip false (restR (r::rs))).length≤rs.length:=by
 obtain ⟨ds,h1,h2,_⟩:=zag1 r rs ha h0;obtain ⟨es,h3⟩:=zabj (restR (r::rs)) false;have h4:r::rs=(ds++es)++skip false (restR (r::rs)):=by rw[List.append_assoc,← h3,← h2]
 refine ⟨zacu (ds:=ds++es) (by rw[← h4]; exact ha),?_⟩;have:=congrArg List.length h2;have q:=zamm false (restR (r::rs));have q2:0<ds.length:=List.length_pos_iff.2 h1;simp only[List.length_cons,List.length_append] at this;omega
theorem zah3 (p:Int) (r:Int) (rs:List Int) (ha:(r::rs).all Sp.isRune=true):T p (r::rs)=bif (tokR (r::rs)).2 != 0 then .inl ((tokR (r::rs)).2,p) else
   match T (p+(encs (r::rs)).length-(encs (skip false (restR (r::rs)))).length) (skip false (restR (r::rs))) with
   |.inl e=>.inl e
   |.inr l=>.inr (⟨(tokR (r::rs)).1.kind,(tokR (r::rs)).1.text,(tokR (r::rs)).1.num,p⟩::l):=by
 show toks (rs.length+1) p (r::rs)=_;rw[toks];by_cases h0:(tokR (r::rs)).2=0
 ·obtain ⟨q1,q2⟩:=zaf5 ha h0;have e:((tokR (r::rs)).2 != 0)=false:=by simp[h0]
  rw[e,cond_false,cond_false];unfold T;rw[zakp rs.length (skip false (restR (r::rs))).length _ _ q1 q2 (Nat.le_refl _)];all_goals (cases toks (skip false (restR (r::rs))).length (p+(encs (r::rs)).length-(encs (skip false (restR (r::rs)))).length) (skip false (restR (r::rs)))<;>rfl)
 ·have e:((tokR (r::rs)).2 != 0)=true:=by simp[h0]
  rw[e,cond_true,cond_true]
theorem zarb (a b:List Int):((encs (a++b)).length:Int)=(encs a).length+(encs b).length:=by rw[zaaj,List.length_append]; omega
end Lift.A4
namespace Lift.A4
open Go Go.RowKit Lift Go.IntWalk Lift.Fn Lift.A1P
set_option linter.unusedVariables false
set_option linter.unusedSimpArgs false
theorem zap9 (rs:List Int):(tokR rs).1.kind≠5∧(tokR rs).2≠40:=by
 unfold tokR;cases goesR (rs.headD 0) with
 |true=>
  rw[cond_true];cases Sp.digit (rs.headD 0) with
  |true=>
   rw[cond_true];cases (numS (encs (rs.takeWhile goesR))).2<;>constructor<;>simp
  |false=>
   rw[cond_false];cases words.contains (encs (rs.takeWhile goesR)) with
   |true=>constructor<;>simp
   |false=>
    rw[cond_false];cases decide (16<(rs.takeWhile goesR).length)<;>constructor<;>simp
 |false=>
  rw[cond_false];cases (sgn (encs rs)==[])<;>constructor<;>simp
theorem T_bad:∀ (n:Nat) (rs:List Int) (p:Int) (e:Int×Int),rs.length≤n→rs.all Sp.isRune=true→T p rs=.inl e→e.1≠0∧e.1≠40:=by
 intro n;induction n with
 |zero=>
  intro rs p e hn ha h;have:rs=[]:=List.eq_nil_of_length_eq_zero (by omega);subst this;cases h
 |succ n ih=>
  intro rs p e hn ha h;cases rs with
  |nil=>cases h
  |cons r rs=>
   simp only[List.length_cons] at hn;rw[zah3 p r rs ha] at h;by_cases h0:(tokR (r::rs)).2=0
   ·have e1:((tokR (r::rs)).2 != 0)=false:=by simp[h0]
    rw[e1,cond_false] at h;obtain ⟨q1,q2⟩:=zaf5 ha h0;cases hT:T (p+(encs (r::rs)).length-(encs (skip false (restR (r::rs)))).length) (skip false (restR (r::rs))) with
    |inl e2=>
     rw[hT] at h;simp only[Sum.inl.injEq] at h;rw[← h];exact ih _ _ _ (by omega) q1 hT
    |inr l'=>rw[hT] at h; cases h
   ·have e1:((tokR (r::rs)).2 != 0)=true:=by simp[h0]
    rw[e1,cond_true,Sum.inl.injEq] at h;rw[← h];exact ⟨h0,(zap9 _).2⟩
theorem T_ok:∀ (n:Nat) (rs:List Int) (p:Int) (l:List Token),rs.length≤n→rs.all Sp.isRune=true→T p rs=.inr l →
  (∀ x∈l,p≤x.at_∧x.at_<p+(encs rs).length∧x.kind≠5∧∃ w t,whole w t∧core x=core t)∧l.Pairwise (fun x y=>x.at_<y.at_):=by
 intro n;induction n with
 |zero=>
  intro rs p l hn ha h;have:rs=[]:=List.eq_nil_of_length_eq_zero (by omega);subst this;rw[T_nil,Sum.inr.injEq] at h;subst h;exact ⟨fun x hx=>(by cases hx),.nil⟩
 |succ n ih=>
  intro rs p l hn ha h;cases rs with
  |nil=>
   rw[T_nil,Sum.inr.injEq] at h;subst h;exact ⟨fun x hx=>(by cases hx),.nil⟩
  |cons r rs=>
   simp only[List.length_cons] at hn;rw[zah3 p r rs ha] at h;by_cases h0:(tokR (r::rs)).2=0
   ·have e1:((tokR (r::rs)).2 != 0)=false:=by simp[h0]
    rw[e1,cond_false] at h;obtain ⟨q1,q2⟩:=zaf5 ha h0;obtain ⟨w,hw,hsp⟩:=alone r rs ha h0;obtain ⟨sep,hsep⟩:=zabj (restR (r::rs)) false;have hlen:((encs (r::rs)).length:Int)=(encs w).length+(encs sep).length+(encs (skip false (restR (r::rs)))).length:=by
     have h1:=congrArg (fun l=>((encs l).length:Int)) hsp;have h2:=congrArg (fun l=>((encs l).length:Int)) hsep;rw[zarb] at h1 h2;omega
    have hwl:0<(encs w).length:=by
     have:=zacd w;have:0<w.length:=List.length_pos_iff.2 hw.1;omega
    cases hT:T (p+(encs (r::rs)).length-(encs (skip false (restR (r::rs)))).length) (skip false (restR (r::rs))) with
    |inl e2=>rw[hT] at h; cases h
    |inr l'=>
     rw[hT] at h;simp only[Sum.inr.injEq] at h;obtain ⟨i1,i2⟩:=ih _ _ _ (by omega) q1 hT;subst h;constructor
     ·intro x hx;simp only[List.mem_cons] at hx;rcases hx with rfl|hx
      ·exact ⟨Int.le_refl _,by show p<_; omega,(zap9 _).1,w,_,hw,rfl⟩
      ·obtain ⟨a1,a2,a3,a4⟩:=i1 x hx;exact ⟨by omega,by omega,a3,a4⟩
     ·refine List.Pairwise.cons (fun x hx=>?_) i2;obtain ⟨a1,a2,a3,a4⟩:=i1 x hx;show p<x.at_;omega
   ·have e1:((tokR (r::rs)).2 != 0)=true:=by simp[h0]
    rw[e1,cond_true] at h;cases h
noncomputable def p0 (rs:List Int):Int:=((encs rs).length:Int)-(encs (skip false rs)).length
theorem zadr {rs:List Int} (ha:rs.all Sp.isRune=true):(skip false rs).all Sp.isRune=true:=by
 obtain ⟨ds,h⟩:=zabj rs false;exact zacu (ds:=ds) (by rw[← h]; exact ha)
theorem zavz (rs:List Int) (ha:rs.all Sp.isRune=true):toks rs.length (p0 rs) (skip false rs)=T (p0 rs) (skip false rs):=by
 unfold T;exact zakp _ _ _ _ (zadr ha) (zamm _ _) (Nat.le_refl _)
theorem zagl (t:List UInt8):(∃ f,qaj t=some ([],f)∧f.code≠0∧f.code≠40) ∨
  (∃ rs l,t=encs rs∧rs.all Sp.isRune=true∧t.length≤4000∧T (p0 rs) (skip false rs)=.inr l∧qaj t=some (l++[⟨5,[],0,(t.length:Int)⟩],⟨0,0,[]⟩)):=by
 rcases zal8 t with ⟨h1,h2⟩|⟨h0,rs,rest,_,_,_,_,h1,h2⟩|⟨h0,rs,rfl,ha,h1,h2⟩
 ·refine .inl ⟨_,zahc t (by rw[h2]; decide),?_,?_⟩<;>· rw[h2]; decide
 ·refine .inl ⟨_,zahc t (by rw[h2]; show (11:Int)≠0; decide),?_,?_⟩
  ·rw[h2]; show (11:Int)≠0; decide
  ·rw[h2]; show (11:Int)≠40; decide
 ·have h:=zaoh rs ha h0;have e:=zavz rs ha;unfold p0 at e;rw[e] at h;cases hT:T (((encs rs).length:Int)-(encs (skip false rs)).length) (skip false rs) with
  |inl e2=>
   rw[hT] at h;obtain ⟨b1,b2⟩:=T_bad _ _ _ _ (Nat.le_refl _) (zadr ha) hT;exact .inl ⟨_,h,b1,b2⟩
  |inr l=>
   rw[hT] at h;exact .inr ⟨rs,l,rfl,ha,h0,hT,h⟩
end Lift.A4
namespace Lift.A4
open Go Go.RowKit Lift Go.IntWalk Lift.Fn Lift.A1P
set_option linter.unusedVariables false
set_option linter.unusedSimpArgs false
theorem zape {c:Int} (hc:goesR c=false) {w r:List Int} (h:w.takeWhile goesR=w):(w++c::r).takeWhile goesR=w:=by
 have hall:∀ x∈w,goesR x=true:=fun x hx=>by
  rw[← h] at hx;exact List.all_eq_true.1 (List.all_takeWhile) x hx
 rw[List.takeWhile_append_of_pos hall,List.takeWhile_cons,hc];simp
theorem zau1 {c:Int} (hc:goesR c=false) {w r:List Int} (h:w.takeWhile goesR=w):(w++c::r).dropWhile goesR=c::r:=by
 have h1:=zape (r:=r) hc h;have h2:=List.takeWhile_append_dropWhile (p:=goesR) (l:=w++c::r);rw[h1] at h2;exact List.append_cancel_left h2
theorem zaxh {c:Int} {w:List Int} {r:List Int} (h0:encs w≠[]) (h:sgn (encs w)=encs w) (hc:∀ b∈ones,encs w=[b]→twos.contains [b,(encB c).headD 0]=false):sgn (encs (w++c::r))=encs w:=by
 rw[zaaj,zaay];unfold sgn at h;by_cases h1:1<(encs w).length∧twos.contains ((encs w).take 2)=true
 ·rw[if_pos h1] at h;have hl:(encs w).length=2:=by
   have:=congrArg List.length h;rw[List.length_take] at this;omega
  have ht:(encs w++(encB c++encs r)).take 2=encs w:=by rw[← hl,List.take_left]
  unfold sgn;rw[if_pos ⟨by rw[List.length_append]; omega,by rw[ht]; rw[h] at h1; exact h1.2⟩,ht]
 ·rw[if_neg h1] at h;by_cases h2:ones.contains ((encs w).headD 0)=true
  ·rw[if_pos h2] at h;match hw:encs w,h0 with
   |b::t,_=>
    rw[hw] at h h2 hc;have ht:t=[]:=by
     have:=congrArg List.length h;simp only[List.take_succ_cons,List.take_zero,List.length_cons,List.length_nil] at this;exact List.eq_nil_of_length_eq_zero (by omega)
    subst ht;have hb:b∈ones:=by simpa using h2
    have h3:=hc b hb rfl;have h4:=zas5 c;cases hk:encB c with
    |nil=>rw[hk] at h4; simp at h4
    |cons k ks=>
     rw[hk] at h3;unfold sgn;refine (if_neg fun hh=>?_).trans ((if_pos ?_).trans rfl)
     ·have h9:twos.contains [b,k]=true:=hh.2;rw[show ([b,(k::ks).headD 0]:List UInt8)=[b,k] from rfl,h9] at h3;cases h3
     ·exact h2
  ·rw[if_neg h2] at h;exact absurd h.symm h0
theorem zazb {w:List Int} {t:Token} (h:whole w t) (c:Int) (r:List Int) (hg:goesR (w.headD 0)=true→goesR c=false) (hs:goesR (w.headD 0)=false→∀ b∈ones,encs w=[b]→twos.contains [b,(encB c).headD 0]=false) :
  tokR (w++c::r)=(t,0)∧restR (w++c::r)=c::r:=by
 obtain ⟨h1,h2,h3,h4⟩:=h;have hh:=zaxm h1 (c::r);cases hg2:goesR (w.headD 0) with
 |true=>
  have hc:=hg hg2;have hw:=zag4 ⟨h1,h2,h3,h4⟩ hg2;have ht:=zape (r:=r) hc hw;constructor
  ·rw[← h3];unfold tokR;rw[hh,hg2,ht,hw];rfl
  ·unfold restR;rw[hh,hg2,cond_true,zau1 hc hw]
 |false=>
  have h0:encs w≠[]:=by
   match w,h1 with
   |a::w,_=>obtain ⟨b,u,hb⟩:=zano a w; rw[hb]; exact List.cons_ne_nil _ _
  have hsg:sgn (encs w)=encs w:=by
   have h5:=h3;unfold tokR at h5;rw[hg2,cond_false] at h5;cases hc:(sgn (encs w)==[]) with
   |true=>rw[hc] at h5; simp at h5
   |false=>
    rw[hc,cond_false] at h5;have:=congrArg (fun x=>x.1.text) h5;simp only at this;rw[this,h4]
  have ha:=zaxh (c:=c) (r:=r) h0 hsg (hs hg2);constructor
  ·rw[← h3];unfold tokR;rw[hh,hg2,ha,hsg];rfl
  ·unfold restR;rw[hh,hg2,cond_false,ha];have hlen:(encs w).length=w.length:=by
    match w,h1 with
    |a::w,_=>
     obtain ⟨q1,q2⟩:=zak1 a w h2 (by rw[hsg]; exact h0);rw[hsg] at q1;have q3:encs ((a::w).take (encs (a::w)).length++(a::w).drop (encs (a::w)).length)=encs ((a::w).take (encs (a::w)).length):=by rw[List.take_append_drop,q1]
     have q5:=zacd (a::w);have q6:(sgn (encs (a::w))).length≤2:=by
      unfold sgn;split
      ·rw[List.length_take]; omega
      ·split
       ·rw[List.length_take]; omega
       ·simp
     rw[hsg] at q6;have q7:=zacd w;have q8:(encs (a::w)).length=(encB a).length+(encs w).length:=by rw[zaay,List.length_append]
     have q9:=zac2 a;have q10:=zaek a;by_cases hz:w.length=0
     ·have hwn:w=[]:=List.eq_nil_of_length_eq_zero hz;subst hwn;obtain ⟨b,u,hb⟩:=zano a [];simp only[List.all_cons,Bool.and_eq_true] at h2;have hbn:b.toNat<128:=by
       unfold sgn at hsg;by_cases k1:1<(encs [a]).length∧twos.contains ((encs [a]).take 2)=true
       ·have hm:(encs [a]).take 2∈twos:=by simpa using k1.2
        have:=(zaoq _ hm).2;rw[hb] at this;cases u with
        |nil=>simp only[List.take_succ_cons,List.take_nil,List.all_cons,List.all_nil,Bool.and_true,decide_eq_true_eq] at this; exact this
        |cons c u=>simp only[List.take_succ_cons,List.take_zero,List.all_cons,Bool.and_eq_true,decide_eq_true_eq] at this; exact this.1
       ·rw[if_neg k1] at hsg;by_cases k2:ones.contains ((encs [a]).headD 0)=true
        ·rw[hb] at k2;exact zaom b (by simpa using k2)
        ·rw[if_neg k2] at hsg;exact absurd hsg.symm h0
      obtain ⟨e1,_⟩:=zaep h2.1 hb hbn;rw[zaay,e1];rfl
     ·simp only[List.length_cons];omega
   rw[hlen,List.drop_left]
theorem zay7:∀ (n:Nat) (rs:List Int) (p q:Int) (l:List Token),rs.length≤n→rs.all Sp.isRune=true→T p rs=.inr l→∃ m,T q rs=.inr m∧m.map core=l.map core:=by
 intro n;induction n with
 |zero=>
  intro rs p q l hn ha h;have:rs=[]:=List.eq_nil_of_length_eq_zero (by omega);subst this;rw[T_nil,Sum.inr.injEq] at h;subst h;exact ⟨[],T_nil q,rfl⟩
 |succ n ih=>
  intro rs p q l hn ha h;cases rs with
  |nil=>
   rw[T_nil,Sum.inr.injEq] at h;subst h;exact ⟨[],T_nil q,rfl⟩
  |cons r rs=>
   simp only[List.length_cons] at hn;rw[zah3 p r rs ha] at h;rw[zah3 q r rs ha];by_cases h0:(tokR (r::rs)).2=0
   ·have e1:((tokR (r::rs)).2 != 0)=false:=by simp[h0]
    rw[e1,cond_false] at h ⊢;obtain ⟨q1,q2⟩:=zaf5 ha h0;cases hT:T (p+(encs (r::rs)).length-(encs (skip false (restR (r::rs)))).length) (skip false (restR (r::rs))) with
    |inl e2=>rw[hT] at h; cases h
    |inr l'=>
     rw[hT] at h;simp only[Sum.inr.injEq] at h;obtain ⟨m,i1,i2⟩:=ih _ _ (q+(encs (r::rs)).length-(encs (skip false (restR (r::rs)))).length) _ (by omega) q1 hT;refine ⟨_,by rw[i1],?_⟩;subst h;simp only[List.map_cons,i2];rfl
   ·have e1:((tokR (r::rs)).2 != 0)=true:=by simp[h0]
    rw[e1,cond_true] at h;cases h
theorem zaw7 {rs:List Int} (ha:rs.all Sp.isRune=true) (h0:(encs rs).length≤4000) {p:Int} {l:List Token} (hT:T p (skip false rs)=.inr l):∃ m,qaj (encs rs)=some (m++[⟨5,[],0,((encs rs).length:Int)⟩],⟨0,0,[]⟩)∧m.map core=l.map core∧∀ t∈m,t.kind≠5:=by
 obtain ⟨m,h1,h2⟩:=zay7 _ _ p (p0 rs) l (Nat.le_refl _) (zadr ha) hT;have h:=zaoh rs ha h0;have e:=zavz rs ha;unfold p0 at e h1;rw[e,h1] at h;exact ⟨m,h,h2,fun t ht=>((T_ok _ _ _ _ (Nat.le_refl _) (zadr ha) h1).1 t ht).2.2.1⟩
theorem T_len:∀ (n:Nat) (rs:List Int) (p:Int) (l:List Token),rs.length≤n→rs.all Sp.isRune=true→T p rs=.inr l→l.length≤rs.length:=by
 intro n;induction n with
 |zero=>
  intro rs p l hn ha h;have:rs=[]:=List.eq_nil_of_length_eq_zero (by omega);subst this;rw[T_nil,Sum.inr.injEq] at h;subst h;exact Nat.le_refl _
 |succ n ih=>
  intro rs p l hn ha h;cases rs with
  |nil=>
   rw[T_nil,Sum.inr.injEq] at h;subst h;exact Nat.le_refl _
  |cons r rs=>
   simp only[List.length_cons] at hn;rw[zah3 p r rs ha] at h;by_cases h0:(tokR (r::rs)).2=0
   ·have e1:((tokR (r::rs)).2 != 0)=false:=by simp[h0]
    rw[e1,cond_false] at h;obtain ⟨q1,q2⟩:=zaf5 ha h0;cases hT:T (p+(encs (r::rs)).length-(encs (skip false (restR (r::rs)))).length) (skip false (restR (r::rs))) with
    |inl e2=>rw[hT] at h; cases h
    |inr l'=>
     rw[hT] at h;simp only[Sum.inr.injEq] at h;have:=ih _ _ _ (by omega) q1 hT;subst h;simp only[List.length_cons];omega
   ·have e1:((tokR (r::rs)).2 != 0)=true:=by simp[h0]
    rw[e1,cond_true] at h;cases h
theorem zazi {rs:List Int} (ha:rs.all Sp.isRune=true) {p:Int} {l:List Token} (h:T p (skip false rs)=.inr l):l.length≤rs.length:=
 Nat.le_trans (T_len _ _ _ _ (Nat.le_refl _) (zadr ha) h) (zamm _ _)
end Lift.A4
namespace Lift.A4
open Go Go.RowKit Lift Go.IntWalk Lift.Fn Lift.A1P Lift.A3
set_option linter.unusedVariables false
set_option linter.unusedSimpArgs false
abbrev RR:=Fault×(List TCell)×(List (List UInt8))×(List TThread)
def rr (p:TProg) (f:Fault):RR:=(f,p.cells,p.mutexes,p.threads)
def fin (p:TProg):RR:=
 if maxEv (evP p) 0>16 then rr ⟨[],[],[]⟩ ⟨41,0,[]⟩ else if (cT p.threads:Int)>500 then rr ⟨[],[],[]⟩ ⟨42,0,[]⟩ else rr p ⟨0,0,[]⟩
theorem zav4 {t:List UInt8} {l:List Token} {f:Fault} (h:qaj t=some (l,f)) (hf:f.code≠0):qar t=some (rr ⟨[],[],[]⟩ f):=by
 rw[qar,zaaa];unfold qar_f;have e:(f.code != 0)=true:=by simp[hf]
 rw[h,Option.bind_some];dsimp only;rw[e];rfl
theorem zaw9 {t:List UInt8} {l:List Token} {p:TProg} {z:List Token} (h:qaj t=some (l,⟨0,0,[]⟩)) (hp:qaA l=some (okP p z)) (hn:nT p.threads≤10000000000000000) :
  qar t=some (fin p):=by
 rw[qar,zaaa];unfold qar_f;rw[h,Option.bind_some];dsimp only;rw[hp,Option.bind_some];dsimp only[okP];rw[zahf,zaqn p hn,zapg p hn];unfold fin;simp only[bne_self_eq_false,cond_false,Option.bind_some];by_cases h1:maxEv (evP p) 0>16
 ·rw[if_pos h1,decide_eq_true h1]; rfl
 ·rw[if_neg h1,decide_eq_false h1,cond_false];by_cases h2:(cT p.threads:Int)>500
  ·rw[if_pos h2,decide_eq_true h2]; rfl
  ·rw[if_neg h2,decide_eq_false h2]; rfl
theorem zawi {t:List UInt8} {l:List Token} {a:Int} (h:qaj t=some (l,⟨0,0,[]⟩)) (hp:qaA l=some (.inr ⟨a⟩)) :
  qar t=some (rr ⟨[],[],[]⟩ ⟨40,a,[]⟩):=by
 rw[qar,zaaa];unfold qar_f;rw[h,Option.bind_some];dsimp only;rw[hp,Option.bind_some];rfl
theorem toks_len {t:List UInt8} {l:List Token} {e:Token} {f:Fault} (h:qaj t=some (l++[e],f)) (hf:f.code=0):e.kind=5∧(∀ x∈l,x.kind≠5)∧l.length≤4000∧f=⟨0,0,[]⟩:=by
 rcases zagl t with ⟨f',h1,h2,_⟩|⟨rs,la,rfl,hra,hl,hT,h1⟩
 ·rw[h] at h1;simp only[Option.some.injEq,Prod.mk.injEq] at h1;rw[← h1.2] at h2;exact absurd hf h2
 ·rw[h] at h1;simp only[Option.some.injEq,Prod.mk.injEq] at h1;obtain ⟨g1,g2⟩:=List.append_inj' h1.1 rfl;have g3:=(List.cons.inj g2).1;subst g1;refine ⟨by rw[g3],fun x hx=>((T_ok _ _ _ _ (Nat.le_refl _) (zadr hra) hT).1 x hx).2.2.1,?_,h1.2⟩;have:=zazi hra hT;have:=zacd rs;omega
theorem zar4 (t:List UInt8):(∃ f,qar t=some (rr ⟨[],[],[]⟩ f)∧f.code≠0) ∨
  (∃ l e p,qaj t=some (l++[e],⟨0,0,[]⟩)∧e.kind=5∧(∀ x∈l,x.kind≠5)∧l.length≤4000∧qar t=some (rr p ⟨0,0,[]⟩)∧DP p (l.map core)∧maxEv (evP p) 0≤16∧(cT p.threads:Int)≤500):=by
 rcases zagl t with ⟨f,h1,h2,_⟩|⟨rs,l,rfl,hra,hl,hT,h1⟩
 ·exact .inl ⟨f,zav4 h1 h2,h2⟩
 obtain ⟨q1,q2,q3,_⟩:=toks_len h1 rfl;generalize (⟨5,[],0,((encs rs).length:Int)⟩:Token)=e at h1 q1;have hlen:(l++[e]).length<1000000:=by rw[List.length_append,List.length_cons,List.length_nil]; omega
 obtain ⟨u,x,r,e1,e2,e3⟩:=zaqr (l++[e]) ⟨l,e,rfl,q1⟩ hlen;rcases e3 with ⟨p,c,h3⟩|h3
 ·have h4:qaA (u++x::r)=_:=h3 u x r rfl rfl;rw[← e1] at h4;have hd:=zaw8 q1 hlen h4 q2;have hs:=hd.size;rw[List.length_map] at hs;have h5:=zaw9 h1 h4 (by omega);unfold fin at h5;by_cases k1:maxEv (evP p) 0>16
  ·rw[if_pos k1] at h5;exact .inl ⟨_,h5,by decide⟩
  ·rw[if_neg k1] at h5;by_cases k2:(cT p.threads:Int)>500
   ·rw[if_pos k2] at h5;exact .inl ⟨_,h5,by decide⟩
   ·rw[if_neg k2] at h5;exact .inr ⟨l,e,p,h1,q1,q2,q3,h5,hd,by omega,by omega⟩
 ·have h4:qaA (u++x::r)=_:=h3 u x r rfl rfl;rw[← e1] at h4;exact .inl ⟨_,zawi h1 h4,by simp⟩
end Lift.A4
namespace Lift.A4
open Go Go.RowKit Lift Go.IntWalk Lift.Fn Lift.A1P Lift.A3
set_option linter.unusedVariables false
set_option linter.unusedSimpArgs false
def isDig (c:UInt8):Bool:=decide (48≤c.toNat)&&decide (c.toNat≤57)
def valF (a:Nat) (t:List UInt8):Nat:=t.foldl (fun a c=>a*10+(c.toNat-48)) a
def canon (t:List UInt8):Bool:=t.all isDig&&match t with
 |[]=>false
 |[_]=>true
 |c::_::_=>!(c==48)
theorem zaeg {c:UInt8}:isDig c=true↔48≤c.toNat∧c.toNat≤57:=by simp[isDig]
theorem zau4 (a:Nat) (t:List UInt8) (c:UInt8):valF a (t++[c])=valF a t*10+(c.toNat-48):=by simp[valF]
theorem zas0:∀ (t:List UInt8) (a:Nat),a≤valF a t
 |[],a=>Nat.le_refl _
 |c::t,a=>by
  have:=zas0 t (a*10+(c.toNat-48));show a≤valF (a*10+(c.toNat-48)) t;omega
theorem zayp {u:Nat} (h:10≤u):Lib.decDigits u=Lib.decDigits (u / 10)++[UInt8.ofNat (48+u % 10)]:=by
 conv=>lhs; rw[Lib.decDigits]
 rw[dif_neg (by omega)]
theorem zahe:∀ (n:Nat),valF 0 (Lib.decDigits n)=n∧(Lib.decDigits n).all isDig=true∧Lib.decDigits n≠[]∧((Lib.decDigits n).head? = some 48→n=0):=by
 intro n;induction n using Nat.strongRecOn with
 |_ n ih=>
  by_cases h:n<10
  ·rw[Lib.decDigits_one h];have ht:(UInt8.ofNat (48+n)).toNat=48+n:=by rw[UInt8.toNat_ofNat']; omega
   refine ⟨by simp only[valF,List.foldl_cons,List.foldl_nil,ht]; omega,?_,by simp,fun e=>?_⟩
   ·simp only[List.all_cons,List.all_nil,Bool.and_true];exact zaeg.2 (by omega)
   ·have e':UInt8.ofNat (48+n)=48:=by simpa using e
    have:=congrArg UInt8.toNat e';rw[ht] at this;have h48:(48:UInt8).toNat=48:=rfl;omega
  ·obtain ⟨i1,i2,i3,i4⟩:=ih (n / 10) (by omega);have ht:(UInt8.ofNat (48+n % 10)).toNat=48+n % 10:=by rw[UInt8.toNat_ofNat']; omega
   rw[zayp (by omega)];refine ⟨?_,?_,by simp,fun e=>?_⟩
   ·rw[zau4,i1,ht]; omega
   ·rw[List.all_append,i2,Bool.true_and];simp only[List.all_cons,List.all_nil,Bool.and_true];exact zaeg.2 (by omega)
   ·rw[List.head?_append] at e;cases hq:(Lib.decDigits (n / 10)).head? with
    |none=>exact absurd (List.head?_eq_none_iff.1 hq) i3
    |some c=>
     rw[hq] at e;have:c=48:=by simpa using e
     subst this;have:=i4 hq;omega
theorem zawn (n:Nat):canon (Lib.decDigits n)=true:=by
 obtain ⟨h1,h2,h3,h4⟩:=zahe n;unfold canon;rw[h2,Bool.true_and];match hq:Lib.decDigits n,h3,h4 with
 |[],h3,_=>exact absurd rfl h3
 |[c],_,_=>rfl
 |c::d::r,_,h4=>
  simp only;by_cases e:c=48
  ·subst e;have:=h4 rfl;subst this;rw[Lib.decDigits_one (by decide)] at hq;simp at hq
  ·simpa using e
theorem zapa:∀ (l:List UInt8) (acc:Nat),l.all isDig=true→valF acc l≤2147483647→Lib.parseUint10 acc l=.ok (valF acc l)
 |[],acc,_,_=>rfl
 |c::l,acc,ha,hv=>by
  rw[List.all_cons,Bool.and_eq_true] at ha;have hc:=zaeg.1 ha.1;have hv':valF (acc*10+(c.toNat-48)) l≤2147483647:=hv;have hg:=zas0 l (acc*10+(c.toNat-48));show (if 48≤c.toNat∧c.toNat≤57 then _ else _)=_;rw[if_pos hc,if_neg (by omega),if_neg (by omega),zapa l _ ha.2 hv'];rfl
theorem zaxj {n:Nat} (h:n≤2147483647):Lib.atoiAll (Lib.decDigits n)=.ok (n:Int):=by
 obtain ⟨h1,h2,h3,_⟩:=zahe n;have hp:Lib.parseMag (Lib.decDigits n)=.ok n:=by
  unfold Lib.parseMag;rw[if_neg h3,zapa _ 0 h2 (by omega),h1]
 match hq:Lib.decDigits n,h3,h2,hp with
 |[],h3,_,_=>exact absurd rfl h3
 |c::r,_,h2,hp=>
  rw[List.all_cons,Bool.and_eq_true] at h2;have hc:=zaeg.1 h2.1;rw[Lib.atoiAll_plain c r (by omega) (by omega),hp];unfold Lib.signless;simp only;rw[if_neg (by omega)]
def asc (l:List UInt8):List Int:=l.map fun b=>((b.toNat:Nat):Int)
theorem zax9 {b:UInt8} (h:b.toNat<128):encB ((b.toNat:Nat):Int)=[b]:=by
 unfold encB Sp.enc;rw[if_pos (by omega)];show [UInt8.ofNat ((b.toNat:Nat):Int).toNat]=[b];rw[Int.toNat_natCast];simp
theorem zabu:∀ (l:List UInt8),(∀ b∈l,b.toNat<128)→encs (asc l)=l
 |[],_=>rfl
 |b::l,h=>by
  show encs (((b.toNat:Nat):Int)::asc l)=b::l;rw[zaay,zax9 (h b List.mem_cons_self),zabu l (fun c hc=>h c (List.mem_cons_of_mem _ hc))];rfl
theorem zaj1 {l:List UInt8} (h:∀ b∈l,b.toNat<128):(asc l).all Sp.isRune=true:=by
 rw[List.all_eq_true];intro r hr;obtain ⟨b,hb,rfl⟩:=List.mem_map.1 hr;have:=h b hb;simp only[Sp.isRune,decide_eq_true_eq];omega
theorem zakw {p:Int→Bool}:∀ {l:List Int},(∀ x∈l,p x=true)→l.takeWhile p=l
 |[],_=>rfl
 |a::l,h=>by rw[List.takeWhile_cons,h a List.mem_cons_self,zakw (fun x hx=>h x (List.mem_cons_of_mem _ hx))]; rfl
theorem zaq3 {p:UInt8→Bool}:∀ {l:List UInt8},(∀ x∈l,p x=true)→l.dropWhile p=[]
 |[],_=>rfl
 |a::l,h=>by rw[List.dropWhile_cons,h a List.mem_cons_self,if_pos rfl,zaq3 (fun x hx=>h x (List.mem_cons_of_mem _ hx))]
theorem zaxb (l:List UInt8) (h:∀ b∈l,tens.contains b=true):Lib.trimS l tens=[]:=by
 have:Lib.trimRightS l tens=[]:=by
  unfold Lib.trimRightS;rw[zaq3 (fun x hx=>h x (List.mem_reverse.1 hx))];rfl
 unfold Lib.trimS;rw[this];rfl
theorem tens_all:∀ i:Fin 256,isDig (UInt8.ofNat i.val)=tens.contains (UInt8.ofNat i.val):=by decide +kernel
theorem tens_dig (b:UInt8):tens.contains b=isDig b:=by
 have:=tens_all ⟨b.toNat,b.toNat_lt⟩;simpa using this.symm
theorem zaxk {n:Nat} (h:n≤2147483647):numS (Lib.decDigits n)=((n:Int),true):=by
 obtain ⟨h1,h2,h3,h4⟩:=zahe n;unfold numS;rw[if_neg,if_neg]
 ·unfold zabt;rw[zaxj h];dsimp only;rw[if_neg (by simp),decide_eq_true (by omega)]
 ·intro hh;exact hh (zaxb _ (fun b hb=>by rw[tens_dig]; exact List.all_eq_true.1 h2 b hb))
 ·rintro ⟨g1,g2⟩
  have hc:=zawn n;unfold canon at hc;match hq:Lib.decDigits n,h3 with
  |[c],_=>rw[hq] at g1; simp at g1
  |c::d::r,_=>
   rw[hq] at g2 hc;rw[Bool.and_eq_true] at hc;have:c=48:=by
    have:c.toNat=48:=g2;exact UInt8.toNat_inj.1 this
   subst this;have:=hc.2;simp at this
theorem zavh {n:Nat} (h:n≤2147483647):whole (asc (Lib.decDigits n)) ⟨2,Lib.decDigits n,n,0⟩:=by
 obtain ⟨h1,h2,h3,h4⟩:=zahe n;have hd:∀ b∈Lib.decDigits n,48≤b.toNat∧b.toNat≤57:=fun b hb=>zaeg.1 (List.all_eq_true.1 h2 b hb)
 have ha:∀ b∈Lib.decDigits n,b.toNat<128:=fun b hb=>by have:=hd b hb; omega
 have hg:∀ x∈asc (Lib.decDigits n),Sp.digit x=true:=by
  intro x hx;obtain ⟨b,hb,rfl⟩:=List.mem_map.1 hx;have:=hd b hb;simp only[Sp.digit,decide_eq_true_eq];omega
 have hg2:∀ x∈asc (Lib.decDigits n),goesR x=true:=fun x hx=>by unfold goesR; rw[hg x hx,Bool.or_true]
 have hne:asc (Lib.decDigits n)≠[]:=by
  intro e;exact h3 (List.map_eq_nil_iff.1 e)
 have hh:(asc (Lib.decDigits n)).headD 0∈asc (Lib.decDigits n):=by
  match asc (Lib.decDigits n),hne with
  |a::l,_=>exact List.mem_cons_self
 refine ⟨hne,zaj1 ha,?_,(zabu _ ha).symm⟩;unfold tokR;rw[hg2 _ hh,hg _ hh,zakw hg2,zabu _ ha,zaxk h];rfl
def brk (w r:List Int):Prop:=match r with
 |[]=>True
 |c::_=>(goesR (w.headD 0)=true→goesR c=false)∧(goesR (w.headD 0)=false→∀ b∈ones,encs w=[b]→twos.contains [b,(encB c).headD 0]=false)
inductive LX:List Int→List Tk→Prop
 |nil:LX [] []
 |sp {c:Int} {r:List Int} {l:List Tk}:Sp.blank c=true→LX r l→LX (c::r) l
 |tk {w r:List Int} {t:Token} {l:List Tk}:whole w t→brk w r→LX r l→LX (w++r) (core t::l)
theorem LX.rune {rs:List Int} {l:List Tk} (h:LX rs l):rs.all Sp.isRune=true:=by
 induction h with
 |nil=>rfl
 |sp hb _ ih=>
  rw[List.all_cons,ih,Bool.and_true];simp only[Sp.blank,decide_eq_true_eq] at hb;simp only[Sp.isRune,decide_eq_true_eq];omega
 |tk hw _ _ ih=>rw[List.all_append,hw.2.1,ih]; rfl
theorem LX.toks {rs:List Int} {l:List Tk} (h:LX rs l) (p:Int):∃ m,T p (skip false rs)=.inr m∧m.map core=l:=by
 induction h generalizing p with
 |nil=>exact ⟨[],T_nil p,rfl⟩
 |@sp c r l hb hr ih=>
  have:skip false (c::r)=skip false r:=by
   simp only[skip];by_cases h35:c=35
   ·subst h35; exact absurd hb (by decide)
   ·rw[if_neg h35,if_pos hb]
  rw[this];exact ih p
 |@tk w r t l hw hb hr ih=>
  rw[zayf hw];have hall:(w++r).all Sp.isRune=true:=by rw[List.all_append,hw.2.1,hr.rune]; rfl
  have key:tokR (w++r)=(t,0)∧restR (w++r)=r:=by
   cases r with
   |nil=>rw[List.append_nil]; exact ⟨hw.2.2.1,zaul hw⟩
   |cons c r=>exact zazb hw c r hb.1 hb.2
  obtain ⟨a,w',rfl⟩:∃ a w',w=a::w':=List.exists_cons_of_ne_nil hw.1;rw[List.cons_append] at key hall ⊢;rw[zah3 p a (w'++r) hall,key.1,key.2];obtain ⟨m,h1,h2⟩:=ih (p+((encs (a::(w'++r))).length:Int)-(encs (skip false r)).length);refine ⟨⟨t.kind,t.text,t.num,p⟩::m,?_,?_⟩
  ·rw[h1]; rfl
  ·rw[List.map_cons,h2]; rfl
def LB (s:List UInt8) (l:List Tk):Prop:=∃ rs,encs rs=s∧LX rs l
theorem LB.lex {s:List UInt8} {l:List Tk} (h:LB s l) (hl:s.length≤4000):∃ m e,qaj s=some (m++[e],⟨0,0,[]⟩)∧m.map core=l:=by
 obtain ⟨rs,rfl,h⟩:=h;obtain ⟨m,h1,h2⟩:=h.toks 0;obtain ⟨k,h3,h4,_⟩:=zaw7 h.rune hl h1;exact ⟨k,_,h3,by rw[h4,h2]⟩
theorem LB.nil:LB [] []:=⟨[],rfl,.nil⟩
theorem LB.sp {s:List UInt8} {l:List Tk} (h:LB s l):LB (32::s) l:=by
 obtain ⟨rs,rfl,h⟩:=h;exact ⟨32::rs,by rw[zaay]; rfl,.sp (by decide) h⟩
theorem LB.tab {s:List UInt8} {l:List Tk} (h:LB s l):∀ d:Nat,LB (Lib.repeatL [32,32] d++s) l
 |0=>h
 |d+1=>(LB.tab h d).sp.sp
def stop (s:List UInt8):Prop:=∃ b∈[(32:UInt8),59,41,10],∃ r,s=b::r
theorem zavp {b:UInt8} (hb:b∈[(32:UInt8),59,41,10]) {c:Int} {r:List Int} {s:List UInt8} (hc:Sp.isRune c=true) (h:encs (c::r)=b::s):goesR c=false:=by
 have hlt:b.toNat<128:=by
  simp only[List.mem_cons,List.not_mem_nil,or_false] at hb;rcases hb with rfl|rfl|rfl|rfl<;>decide
 obtain ⟨h1,_⟩:=zaep hc h hlt;have h2:c=((b.toNat:Nat):Int):=by
  have hc':=hc;simp only[Sp.isRune,decide_eq_true_eq] at hc';have h3:=zac2 c;rw[h1] at h3;have h4:(Sp.long c).toNat=1:=by simpa using h3.symm
  have h5:c<128:=by
   unfold Sp.long at h4;split at h4
   ·assumption
   ·split at h4
    ·exact absurd h4 (by decide)
    ·split at h4<;>exact absurd h4 (by decide)
  have h6:encB c=[UInt8.ofNat c.toNat]:=by unfold encB Sp.enc; rw[if_pos h5]; rfl
  rw[h6] at h1;have h7:=congrArg (fun l=>(l.headD 0).toNat) h1;simp only[List.headD_cons,UInt8.toNat_ofNat'] at h7;omega
 rw[h2];simp only[List.mem_cons,List.not_mem_nil,or_false] at hb;rcases hb with rfl|rfl|rfl|rfl<;>decide
theorem LB.goes {w:List Int} {t:Token} (hw:whole w t) (hg:goesR (w.headD 0)=true) {s:List UInt8} {l:List Tk} (hs:stop s) (h:LB s l):LB (encs w++s) (core t::l):=by
 obtain ⟨rs,rfl,h⟩:=h;obtain ⟨b,hb,r,hr⟩:=hs;refine ⟨w++rs,zaaj _ _,.tk hw ?_ h⟩;have ha:=h.rune;cases rs with
 |nil=>trivial
 |cons c rs=>
  rw[List.all_cons,Bool.and_eq_true] at ha;exact ⟨fun _=>zavp hb ha.1 hr,fun hh=>by rw[hg] at hh; cases hh⟩
theorem LB.num {n:Nat} (hn:n≤2147483647) {s:List UInt8} {l:List Tk} (hs:stop s) (h:LB s l):LB (Lib.decDigits n++s) ((2,Lib.decDigits n,(n:Int))::l):=by
 have hw:=zavh hn;have hg:goesR ((asc (Lib.decDigits n)).headD 0)=true:=by
  obtain ⟨_,h2,h3,_⟩:=zahe n;match hq:Lib.decDigits n,h3 with
  |b::r,_=>
   rw[hq,List.all_cons,Bool.and_eq_true] at h2;have:=zaeg.1 h2.1;show goesR ((b.toNat:Nat):Int)=true;unfold goesR Sp.digit;rw[decide_eq_true (by omega),Bool.or_true]
 have:=LB.goes hw hg hs h;rwa [← hw.2.2.2] at this
theorem LB.sign {w:List Int} {t:Token} (hw:whole w t) (hg:goesR (w.headD 0)=false) (ho:∀ b∈ones,encs w=[b]→∀ c∈twos,c.headD 0≠b) {s:List UInt8} {l:List Tk} (h:LB s l):LB (encs w++s) (core t::l):=by
 obtain ⟨rs,rfl,h⟩:=h;refine ⟨w++rs,zaaj _ _,.tk hw ?_ h⟩;cases rs with
 |nil=>trivial
 |cons c rs=>
  refine ⟨fun hh=>(by rw[hg] at hh; cases hh),fun _ b hb e=>?_⟩;cases hc:twos.contains [b,(encB c).headD 0] with
  |false=>rfl
  |true=>
   exfalso;exact ho b hb e [b,(encB c).headD 0] (by simpa using hc) rfl
theorem LB.signN {w:List Int} {t:Token} (hw:whole w t) (hg:goesR (w.headD 0)=false) {s:List UInt8} {l:List Tk} (ho:∀ b∈ones,encs w=[b]→∀ c∈twos,c≠[b,s.headD 0]) (h:LB s l):LB (encs w++s) (core t::l):=by
 obtain ⟨rs,rfl,h⟩:=h;refine ⟨w++rs,zaaj _ _,.tk hw ?_ h⟩;cases rs with
 |nil=>trivial
 |cons c rs=>
  refine ⟨fun hh=>(by rw[hg] at hh; cases hh),fun _ b hb e=>?_⟩;cases hc:twos.contains [b,(encB c).headD 0] with
  |false=>rfl
  |true=>
   exfalso;have hm:[b,(encB c).headD 0]∈twos:=by simpa using hc
   refine ho b hb e _ hm ?_;rw[zaay];have:=zas5 c;cases hk:encB c with
   |nil=>rw[hk] at this; simp at this
   |cons k ks=>rfl
end Lift.A4
namespace Lift.A4
open Go Go.RowKit Lift Go.IntWalk Lift.Fn Lift.A1P Lift.A3
set_option linter.unusedVariables false
set_option linter.unusedSimpArgs false
theorem zamc {w:List Int} {u:Token} (h:whole w u) (hk:u.kind=1):core u=(1,encs w,0)∧w.length≤16∧goesR (w.headD 0)=true:=by
 have h3:=h.2.2.1;unfold tokR at h3;cases hg:goesR (w.headD 0) with
 |false=>
  rw[hg,cond_false] at h3;cases hs:(sgn (encs w)==[]) with
  |true=>rw[hs] at h3; simp at h3
  |false=>
   rw[hs] at h3;simp only[cond_false,Prod.mk.injEq,and_true] at h3;rw[← h3] at hk;exact absurd hk (by simp)
 |true=>
  rw[zag4 h hg,hg,cond_true] at h3;cases hd:Sp.digit (w.headD 0) with
  |true=>
   rw[hd,cond_true] at h3;cases hn:(numS (encs w)).2 with
   |true=>
    rw[hn] at h3;simp only[cond_true,Prod.mk.injEq,and_true] at h3;rw[← h3] at hk;exact absurd hk (by simp)
   |false=>rw[hn] at h3; simp at h3
  |false=>
   rw[hd,cond_false] at h3;cases hw:words.contains (encs w) with
   |true=>
    rw[hw] at h3;simp only[cond_true,Prod.mk.injEq,and_true] at h3;rw[← h3] at hk;exact absurd hk (by simp)
   |false=>
    rw[hw,cond_false] at h3;by_cases hl:16<w.length
    ·rw[decide_eq_true hl] at h3; simp at h3
    ·rw[decide_eq_false hl] at h3;simp only[cond_false,Prod.mk.injEq,and_true] at h3;rw[← h3];exact ⟨rfl,by omega,rfl⟩
theorem zavt (c:UInt8) (r:List UInt8) (hc:48≤c.toNat∧c.toNat≤57) (h:(numS (c::r)).2=true):0≤(numS (c::r)).1∧(numS (c::r)).1≤2147483647:=by
 unfold numS at h ⊢;by_cases h1:1<(c::r).length∧((c::r).headD 0).toNat=48
 ·rw[if_pos h1] at h; cases h
 rw[if_neg h1] at h ⊢;by_cases h2:Lib.trimS (c::r) tens≠[]
 ·rw[if_pos h2] at h; cases h
 rw[if_neg h2] at h ⊢;by_cases h3:(zabt (c::r)).2=true
 ·rw[if_pos h3] at h; cases h
 rw[if_neg h3] at h ⊢;simp only[decide_eq_true_eq] at h;refine ⟨?_,h⟩;show 0≤(zabt (c::r)).1;unfold zabt at h3 ⊢;rw[Lib.atoiAll_plain c r (by omega) (by omega)] at h3 ⊢;cases hp:Lib.parseMag (c::r) with
 |ok u=>
  rw[hp] at h3;unfold Lib.signless at h3 ⊢;dsimp only at h3 ⊢;split
  ·rename_i v hv;split at hv
   ·cases hv
   ·injection hv with hv; omega
  ·rename_i hv; rw[hv] at h3; simp at h3
  ·simp
 |range=>rw[hp] at h3; simp[Lib.signless] at h3
 |_=>rw[hp] at h3; simp[Lib.signless] at h3
theorem zavo {w:List Int} (hw:w≠[]) (ha:w.all Sp.isRune=true) (hd:Sp.digit (w.headD 0)=true):∃ c r,encs w=c::r∧48≤c.toNat∧c.toNat≤57:=by
 match w,hw with
 |a::w,_=>
  have h1:Sp.digit a=true:=hd;simp only[Sp.digit,decide_eq_true_eq] at h1;refine ⟨UInt8.ofNat a.toNat,encs w,?_,?_⟩
  ·rw[zaay];have:encB a=[UInt8.ofNat a.toNat]:=by unfold encB Sp.enc; rw[if_pos (by omega)]; rfl
   rw[this];rfl
  ·rw[UInt8.toNat_ofNat'];omega
theorem zay4 {w:List Int} {u:Token} (h:whole w u) (hk:u.kind=2):0≤u.num∧u.num≤2147483647:=by
 have h3:=h.2.2.1;unfold tokR at h3;cases hg:goesR (w.headD 0) with
 |false=>
  rw[hg,cond_false] at h3;cases hs:(sgn (encs w)==[]) with
  |true=>rw[hs] at h3; simp at h3
  |false=>
   rw[hs] at h3;simp only[cond_false,Prod.mk.injEq,and_true] at h3;rw[← h3] at hk;exact absurd hk (by simp)
 |true=>
  rw[zag4 h hg,hg,cond_true] at h3;cases hd:Sp.digit (w.headD 0) with
  |true=>
   rw[hd,cond_true] at h3;cases hn:(numS (encs w)).2 with
   |true=>
    rw[hn] at h3;simp only[cond_true,Prod.mk.injEq,and_true] at h3;rw[← h3];obtain ⟨c,r,e,hc⟩:=zavo h.1 h.2.1 hd;rw[e] at hn ⊢;exact zavt c r hc hn
   |false=>rw[hn] at h3; simp at h3
  |false=>
   rw[hd,cond_false] at h3;cases hw:words.contains (encs w) with
   |true=>
    rw[hw] at h3;simp only[cond_true,Prod.mk.injEq,and_true] at h3;rw[← h3] at hk;exact absurd hk (by simp)
   |false=>
    rw[hw,cond_false] at h3;by_cases hl:16<w.length
    ·rw[decide_eq_true hl] at h3; simp at h3
    ·rw[decide_eq_false hl] at h3;simp only[cond_false,Prod.mk.injEq,and_true] at h3;rw[← h3] at hk;exact absurd hk (by simp)
theorem zato {w:List Int} {u:Token} (h:whole w u) (hk:u.kind=1):isNm (encs w)=true:=by
 obtain ⟨h1,h2,h3⟩:=zamc h hk;have h64:=zatq w;have hx:LB (encs w) [core u]:=⟨w,rfl,by have:=LX.tk (r:=[]) h trivial .nil; rwa [List.append_nil] at this⟩;obtain ⟨m,e,l1,l2⟩:=hx.lex (by omega);obtain ⟨a,rfl⟩:∃ a,m=[a]:=by
  have:=congrArg List.length l2;rw[List.length_map] at this;exact List.length_eq_one_iff.1 this
 have hc:core a=(1,encs w,0):=by
  rw[← h1];simpa using l2
 unfold isNm;rw[qbh,zaaa];unfold qbh_f;rw[decide_eq_false (by omega),cond_false,l1];have e1:a.kind=1:=congrArg (·.1) hc;have e2:a.text=encs w:=congrArg (·.2.1) hc;simp[e1,e2]
theorem zaru {t:List UInt8} (h:isNm t=true):∃ w u,whole w u∧core u=(1,t,0)∧encs w=t∧goesR (w.headD 0)=true:=by
 have h1:=zafy t;rw[h] at h1;rw[qbh,zaaa] at h1;unfold qbh_f at h1;by_cases hl:((List.length t:Nat):Int)>64
 ·rw[decide_eq_true hl] at h1; cases h1
 rw[decide_eq_false hl,cond_false] at h1;rcases zagl t with ⟨f,k1,k2,_⟩|⟨rs,l,rfl,hra,_,hT,k1⟩
 ·rw[k1] at h1;have e:(f.code==0)=false:=by simp[k2]
  simp[e] at h1
 rw[k1] at h1;match l with
 |[]=>simp at h1
 |a::b::l=>
  have:((((a::b::l++[⟨5,[],0,((encs rs).length:Int)⟩]:List Token).length:Nat):Int)==2)=false:=by
   rw[beq_eq_false_iff_ne]; simp only[List.length_cons,List.length_append]; omega
  rw[Option.bind_some] at h1;dsimp only at h1;rw[this] at h1;simp at h1
 |[a]=>
  simp only[Option.bind_some,List.singleton_append,List.length_cons,List.length_nil,List.getElem?_cons_zero] at h1;have hk:a.kind=1:=by
   cases hh:(a.kind==1) with
   |true=>simpa using hh
   |false=>rw[hh] at h1; simp at h1
  have ht:a.text=encs rs:=by simpa [hk] using h1
  obtain ⟨w,u,hw,hc⟩:=((T_ok _ _ _ _ (Nat.le_refl _) (zadr hra) hT).1 a List.mem_cons_self).2.2.2;have e1:u.kind=1:=by rw[← hk]; exact (congrArg (·.1) hc).symm
  have e2:u.text=encs rs:=by rw[← ht]; exact (congrArg (·.2.1) hc).symm
  obtain ⟨g1,g2,g3⟩:=zamc hw e1;have e3:encs w=encs rs:=by rw[← e2]; exact hw.2.2.2.symm
  exact ⟨w,u,hw,by rw[g1,e3],e3,g3⟩
theorem LB.name {t:List UInt8} (ht:isNm t=true) {s:List UInt8} {l:List Tk} (hs:stop s) (h:LB s l):LB (t++s) ((1,t,0)::l):=by
 obtain ⟨w,u,h1,h2,rfl,h3⟩:=zaru ht;have:=LB.goes h1 h3 hs h;rwa [h2] at this
end Lift.A4
namespace Lift.A4
open Go Go.RowKit Lift Go.IntWalk Lift.Fn Lift.A1P Lift.A3
set_option linter.unusedVariables false
set_option linter.unusedSimpArgs false
abbrev sg (t:List UInt8):Tk:=(3,t,0)
abbrev wd (t:List UInt8):Tk:=(4,t,0)
theorem zag0 (t:List UInt8) (h0:t≠[]) (h1:∀ b∈t,b.toNat<128) (h2:goesR ((asc t).headD 0)=false) (h3:sgn t=t):whole (asc t) ⟨3,t,0,0⟩:=by
 refine ⟨fun e=>h0 (List.map_eq_nil_iff.1 e),zaj1 h1,?_,(zabu _ h1).symm⟩;unfold tokR;rw[h2,cond_false,zabu _ h1,h3];have:(t==[])=false:=by simpa using h0
 rw[this];rfl
theorem zat9 (t:List UInt8) (h0:t≠[]) (h1:∀ b∈t,b.toNat<128) (h2:∀ x∈asc t,goesR x=true) (h3:Sp.digit ((asc t).headD 0)=false) (h4:words.contains t=true):whole (asc t) ⟨4,t,0,0⟩∧goesR ((asc t).headD 0)=true:=by
 have hne:asc t≠[]:=fun e=>h0 (List.map_eq_nil_iff.1 e)
 have hh:(asc t).headD 0∈asc t:=by
  match asc t,hne with
  |a::l,_=>exact List.mem_cons_self
 refine ⟨⟨hne,zaj1 h1,?_,(zabu _ h1).symm⟩,h2 _ hh⟩;unfold tokR;rw[h2 _ hh,h3,zakw h2,zabu _ h1,h4];rfl
theorem zawt:∀ c∈twos,∀ b∈ones,c≠[b,32]:=by decide +kernel
theorem LB.op {k:Int} (h5:5≤k) (h17:k≤17) {s:List UInt8} {l:List Tk} (h:LB s l):LB (sgO k++32::s) (sg (sgO k)::l):=by
 have go:∀ t:List UInt8,t≠[]→(∀ b∈t,b.toNat<128)→goesR ((asc t).headD 0)=false→sgn t=t→LB (t++32::s) (sg t::l):=by
  intro t g0 g1 g2 g3;have:=LB.signN (zag0 t g0 g1 g2 g3) g2 (s:=32::s) (fun b hb _ c hc=>zawt c hc b hb) h.sp;rwa [zabu _ g1] at this
 have:k=5∨k=6∨k=7∨k=8∨k=9∨k=10∨k=11∨k=12∨k=13∨k=14∨k=15∨k=16∨k=17:=by omega
 rcases this with rfl|rfl|rfl|rfl|rfl|rfl|rfl|rfl|rfl|rfl|rfl|rfl|rfl<;>exact go _ (by decide) (by decide) (by decide +kernel) (by decide +kernel)
theorem LB.one (b:UInt8) (g1:b.toNat<128) (g2:goesR ((b.toNat:Nat):Int)=false) (g3:sgn [b]=[b]) (g4:∀ c∈twos,c.headD 0≠b) {s:List UInt8} {l:List Tk} (h:LB s l):LB (b::s) (sg [b]::l):=by
 have:=LB.sign (zag0 [b] (by simp) (by simpa using g1) g2 g3) g2 (fun c _ e d hd=>by
  rw[zabu _ (by simpa using g1)] at e;have:b=c:=by simpa using e
  rw[← this];exact g4 d hd) h
 rwa [zabu _ (by simpa using g1)] at this
theorem LB.curL {s:List UInt8} {l:List Tk} (h:LB s l):LB (123::s) (sg [123]::l):=LB.one 123 (by decide) (by decide +kernel) (by decide +kernel) (by decide +kernel) h
theorem LB.not {s:List UInt8} {l:List Tk} (hs:s.headD 0≠61) (h:LB s l):LB (33::s) (sg [33]::l):=by
 have g1:∀ b∈[(33:UInt8)],b.toNat<128:=by decide
 have:=LB.signN (zag0 [33] (by simp) g1 (by decide +kernel) (by decide +kernel)) (by decide +kernel) (s:=s) (fun b _ e c hc=>by
  rw[zabu _ g1] at e;have:(33:UInt8)=b:=by simpa using e
  rw[← this];have h2:∀ c∈twos,c.headD 0=33→c=[33,61]:=by decide +kernel
  intro e;have:=h2 c hc (by rw[e]; rfl);rw[this] at e;simp only[List.cons.injEq,and_true,true_and] at e;exact hs e.symm) h
 rwa [zabu _ g1] at this
theorem zax2 {n:Int} (h:0≤n):Lib.itoa n=Lib.decDigits n.toNat:=by
 obtain ⟨m,rfl⟩:=Int.eq_ofNat_of_zero_le h;rw[Lib.itoa_nonneg];rfl
theorem zayk (s:List UInt8):stop (32::s):=⟨32,by simp,s,rfl⟩
theorem zawe {k:Int} (h5:5≤k) (h17:k≤17):opAt (lvO k-1).toNat (sg (sgO k))=some k∧1≤lvO k∧lvO k≤5∧1≤lfO k∧lfO k≤6∧1≤rtO k∧rtO k≤6∧(lvO k=3→lfO k=4∧rtO k=4)∧(lvO k≠3→lfO k=lvO k∧rtO k=lvO k+1):=by
 have:k=5∨k=6∨k=7∨k=8∨k=9∨k=10∨k=11∨k=12∨k=13∨k=14∨k=15∨k=16∨k=17:=by omega
 rcases this with rfl|rfl|rfl|rfl|rfl|rfl|rfl|rfl|rfl|rfl|rfl|rfl|rfl<;>decide +kernel
end Lift.A4
namespace Lift.A4
open Go Go.RowKit Lift Go.IntWalk Lift.Fn Lift.A1P Lift.A3
set_option linter.unusedVariables false
set_option linter.unusedSimpArgs false
theorem LB.sg (t:List UInt8) (g0:t≠[]) (g1:∀ b∈t,b.toNat<128) (g2:goesR ((asc t).headD 0)=false) (g3:sgn t=t) {s:List UInt8} {l:List Tk} (h:LB s l):LB (t++32::s) (sg t::l):=by
 have:=LB.signN (zag0 t g0 g1 g2 g3) g2 (s:=32::s) (fun b hb _ c hc=>zawt c hc b hb) h.sp;rwa [zabu _ g1] at this
theorem LB.word (t:List UInt8) (h0:t≠[]) (h1:∀ b∈t,b.toNat<128) (h2:∀ x∈asc t,goesR x=true) (h3:Sp.digit ((asc t).headD 0)=false) (h4:words.contains t=true) {s:List UInt8} {l:List Tk} (h:LB s l):LB (t++32::s) (wd t::l):=by
 obtain ⟨hw,hg⟩:=zat9 t h0 h1 h2 h3 h4;have:=LB.goes hw hg (zayk s) h.sp;rwa [zabu _ h1] at this
theorem LB.line {d:Nat} {t s:List UInt8} {l:List Tk} (h:LB (t++10::s) l):LB (ln d t++s) l:=by
 have:=h.tab d;unfold ln;simpa [List.append_assoc] using this
def PB (t:List UInt8) (c:List Tk):Prop:=∀ s l,LB s l→LB (t++s) (c++l)
theorem PB.app {t u:List UInt8} {c d:List Tk} (h:PB t c) (h':PB u d):PB (t++u) (c++d):=by
 intro s l hl;rw[List.append_assoc,List.append_assoc];exact h _ _ (h' _ _ hl)
end Lift.A4
namespace Lift.A4
open Go Go.RowKit Lift Go.IntWalk Lift.Fn Lift.A1P Lift.A3
set_option linter.unusedVariables false
set_option linter.unusedSimpArgs false
theorem zae7 {t:List UInt8} (h0:t≠[]) (h1:∀ b∈t,b.toNat<128) (h2:tokR (asc t)=(⟨1,t,0,0⟩,0)):isNm t=true:=by
 have hw:whole (asc t) ⟨1,t,0,0⟩:=⟨fun e=>h0 (List.map_eq_nil_iff.1 e),zaj1 h1,h2,(zabu _ h1).symm⟩;have:=zato hw rfl;rwa [zabu _ h1] at this
theorem nm_x:isNm [120]=true:=zae7 (by decide) (by decide) (by decide +kernel)
theorem nm_m:isNm [109]=true:=zae7 (by decide) (by decide) (by decide +kernel)
theorem nm_t:isNm [116]=true:=zae7 (by decide) (by decide) (by decide +kernel)
theorem nm_r:isNm [114]=true:=zae7 (by decide) (by decide) (by decide +kernel)
theorem nm_a:isNm [97]=true:=zae7 (by decide) (by decide) (by decide +kernel)
theorem nm_b:isNm [98]=true:=zae7 (by decide) (by decide) (by decide +kernel)
theorem nm_c:isNm [99]=true:=zae7 (by decide) (by decide) (by decide +kernel)
abbrev xa:TExpr:=⟨2,0,[97],[]⟩
abbrev xb:TExpr:=⟨2,0,[98],[]⟩
abbrev xc:TExpr:=⟨2,0,[99],[]⟩
abbrev xn:TExpr:=⟨3,0,[],[xc]⟩
abbrev xd:TExpr:=⟨6,0,[],[xa,xb]⟩
abbrev xe:TExpr:=⟨6,0,[],[xd,xn]⟩
abbrev y1:TStmt:=⟨5,[],[109],zE,0,[],[]⟩
abbrev y2:TStmt:=⟨1,[114],[],xe,0,[],[]⟩
abbrev P5:TProg:=⟨[⟨[120],-3⟩],[[109]],[⟨[116],[y1,y2]⟩]⟩
theorem ok_a:eF xa=true:=by rw[eF_eq]; unfold xOk; simp[nm_a]
theorem ok_b:eF xb=true:=by rw[eF_eq]; unfold xOk; simp[nm_b]
theorem ok_c:eF xc=true:=by rw[eF_eq]; unfold xOk; simp[nm_c]
theorem ok_n:eF xn=true:=by rw[eF_eq]; unfold xOk; simp[ok_c]
theorem ok_d:eF xd=true:=by rw[eF_eq]; unfold xOk; simp[ok_a,ok_b]
theorem ok_e:eF xe=true:=by rw[eF_eq]; unfold xOk; simp[ok_d,ok_n]
theorem ok_1:sF y1=true:=by
 rw[sF_eq];unfold sOk isOpt;rw[show shp y1.kind=Shape.mk false true false false false false from rfl];simp[nm_m,sFs,zaa3,inR,none_]
theorem ok_2:sF y2=true:=by
 rw[sF_eq];unfold sOk isOpt;rw[show shp y2.kind=Shape.mk true false true false false false from rfl];simp[nm_r,sFs,zaa3,inR,ok_e]
theorem ok_p:pOk P5=true:=by
 unfold pOk cOk;simp[nm_x,nm_m,nm_t,sFs,ok_1,ok_2]
theorem zaz0:zadh P5=0:=by
 unfold zadh;rw[ok_p];decide +kernel
theorem itoa3:Lib.itoa (-3)=[45,51]:=by
 rw[show (-3:Int)=-((3:Nat):Int) from rfl,Lib.itoa_neg 3 (by omega),Lib.decDigits_one (by decide)];rfl
theorem prog5:progT P5=[99,101,108,108,32,120,32,61,32,45,51,59,10,109,117,116,101,120,32,109,59,10,116,104,114,101,97,100,32,116,32,123,10,32,32,108,111,99,107,32,109,59,10,32,32,114,32,58,61,32,97,32,45,32,98,32,45,32,45,99,59,10,125,10]:=by
 have e:xT xe 1=[97,32,45,32,98,32,45,32,45,99]:=by
  rw[zai5 (a:=xd) (b:=xn) rfl,if_neg (by decide),zai5 (x:=xd) (a:=xa) (b:=xb) rfl,if_neg (by decide),zad9 (x:=xa) rfl rfl,zad9 (x:=xb) rfl rfl,zaey (x:=xn) (a:=xc) rfl,zad9 (x:=xc) rfl rfl];rfl
 unfold progT;simp only[P5,List.flatMap_cons,List.flatMap_nil,cellT,mutT,thrT,sTs,sT,itoa3,e];rfl
theorem zazn:qaJ=some true:=by
 rw[qaJ,zaaa];unfold qaJ_f;have h:qaT P5=some (showV P5):=showW P5 (by decide +kernel) (by decide) (by decide) (by decide);have h':showV P5=(progT P5,0):=by
  unfold showV;rw[zaz0,if_neg (by simp),if_neg (by decide),if_neg (by rw[prog5]; decide)]
 rw[h',prog5] at h;refine (congrArg (fun z=>Option.bind z _) h).trans ?_;rfl
theorem zasf (p:TProg):(∃ v,v≠0∧showV p=([],v))∨(zadh p=0∧(progT p).length≤4000∧p.cells.length+p.mutexes.length+p.threads.length≤4000∧showV p=(progT p,0)):=by
 unfold showV;by_cases h:zadh p≠0
 ·rw[if_pos h]; exact .inl ⟨_,h,rfl⟩
 ·rw[if_neg h];by_cases h2:p.cells.length+p.mutexes.length+p.threads.length>4000
  ·rw[if_pos h2]; exact .inl ⟨10,by decide,rfl⟩
  ·rw[if_neg h2];by_cases h3:(progT p).length>4000
   ·rw[if_pos h3]; exact .inl ⟨10,by decide,rfl⟩
   ·rw[if_neg h3];exact .inr ⟨by omega,by omega,by omega,rfl⟩
end Lift.A4
namespace Lift.A4
open Go Go.RowKit Lift Go.IntWalk Lift.Fn Lift.A1P Lift.A3
set_option linter.unusedVariables false
set_option linter.unusedSimpArgs false
def GT (c:List Tk):Prop:=∀ o∈c,(o.1=1→isNm o.2.1=true)∧(o.1=2→0≤o.2.2∧o.2.2≤2147483647)
theorem GT.l {a b:List Tk} (h:GT (a++b)):GT a:=fun o ho=>h o (List.mem_append_left _ ho)
theorem GT.r {a b:List Tk} (h:GT (a++b)):GT b:=fun o ho=>h o (List.mem_append_right _ ho)
theorem GT.hd {a:Tk} {b:List Tk} (h:GT (a::b)):(a.1=1→isNm a.2.1=true)∧(a.1=2→0≤a.2.2∧a.2.2≤2147483647):=h a List.mem_cons_self
theorem GT.tl {a:Tk} {b:List Tk} (h:GT (a::b)):GT b:=fun o ho=>h o (List.mem_cons_of_mem _ ho)
theorem zahd {l:Nat} {o:Tk} {k:Int} (h:opAt l o=some k):5≤k∧k≤17:=by
 unfold opAt at h;split at h
 ·cases hm:LV[l]? with
  |none=>rw[hm] at h; cases h
  |some M=>
   rw[hm,Option.bind_some] at h;have hM:M∈LV:=List.mem_of_getElem? hm;have hall:∀ M∈LV,∀ q∈M,5≤q.2∧q.2≤17:=by decide
   exact hall M hM _ (zakf h)
 ·cases h
theorem zaww {k:Int} {x y:TExpr} (h5:5≤k) (h17:k≤17) (hx:eF x=true) (hy:eF y=true):eF ⟨k,0,[],[x,y]⟩=true:=by
 have e1:(k==1)=false:=by simp; omega
 have e2:(k==2)=false:=by simp; omega
 have e3:(k==3)=false:=by simp; omega
 have e4:(k==4)=false:=by simp; omega
 rw[eF_eq];unfold xOk;simp only[e1,e2,e3,e4];simp[hx,hy];omega
theorem DE.ok {l:Nat} {x:TExpr} {c:List Tk} (h:DE l x c) (hg:GT c):eF x=true:=by
 induction h with
 |up _ _ ih=>exact ih hg
 |bin _ _ _ ho _ ih1 ih2=>
  obtain ⟨a,b⟩:=zahd ho;exact zaww a b (ih1 hg.l) (ih2 hg.r.tl)
 |cmp _ ho _ ih1 ih2=>
  obtain ⟨a,b⟩:=zahd ho;exact zaww a b (ih1 hg.l) (ih2 hg.r.tl)
 |neg _ _ ih=>rw[eF_eq]; unfold xOk; simp[ih hg.tl]
 |not _ _ ih=>rw[eF_eq]; unfold xOk; simp[ih hg.tl]
 |par _ _ _ ih=>exact ih hg.tl.l
 |num h1=>have:=hg.hd.2 h1; rw[eF_eq]; unfold xOk; simp; omega
 |reg h1=>have:=hg.hd.1 h1; rw[eF_eq]; unfold xOk; simp[this]
theorem zahk {x:TExpr} (h:eF x=true):x.kind≠0:=by
 rcases zaf0 h with ⟨h1,_⟩|⟨h1,_⟩|⟨h1,_⟩|⟨h1,_⟩<;>omega
theorem zaw3 {k:Int} {m:List UInt8} (h5:5≤k) (h8:k≤8) (hm:isNm m=true):sF ⟨k,[],m,zE,0,[],[]⟩=true:=by
 have:k=5∨k=6∨k=7∨k=8:=by omega
 have hs:shp k=Shape.mk false true false false false false:=by rcases this with rfl|rfl|rfl|rfl<;>rfl
 have hi:inR k=true:=by rcases this with rfl|rfl|rfl|rfl<;>rfl
 rw[sF_eq];unfold sOk isOpt;simp only[hs,hi];simp[hm,sFs,zaa3,none_]
mutual
theorem DS.ok:∀ {y:TStmt} {c:List Tk},DS y c→GT c→sF y=true
 |_,_,.set (x:=x) (a:=a) ha _ hx _,hg=>by
  have h1:=hg.hd.1 ha;have h2:=hx.ok hg.tl.tl.l;have h3:=zahk h2;rw[sF_eq];unfold sOk isOpt;rw[show shp 1=Shape.mk true false true false false false from rfl];simp[h1,h2,h3,sFs,inR]
 |_,_,.write (x:=x) (a:=a) ha _ hx _,hg=>by
  have h1:=hg.hd.1 ha;have h2:=hx.ok hg.tl.tl.l;have h3:=zahk h2;rw[sF_eq];unfold sOk isOpt;rw[show shp 3=Shape.mk false true true false false false from rfl];simp[h1,h2,h3,sFs,inR]
 |_,_,.add (x:=x) (a:=a) (b:=b) ha _ _ hb hx _,hg=>by
  have h1:=hg.hd.1 ha;have h1':=hg.tl.tl.tl.hd.1 hb;have h2:=hx.ok hg.tl.tl.tl.tl.l;have h3:=zahk h2;rw[sF_eq];unfold sOk isOpt;rw[show shp 4=Shape.mk true true true false false false from rfl];simp[h1,h1',h2,h3,sFs,inR]
 |_,_,.read (a:=a) (b:=b) ha _ hb _,hg=>by
  have h1:=hg.hd.1 ha;have h1':=hg.tl.tl.hd.1 hb;rw[sF_eq];unfold sOk isOpt;rw[show shp 2=Shape.mk true true false false false false from rfl];simp[h1,h1',sFs,inR,none_,zaa3]
 |_,_,.about (i:=i) (b:=b) hi _ hb _,hg=>by
  have h1:=hg.tl.hd.1 hb;have:i<4:=by
   have:=List.getElem?_eq_some_iff.1 hi;obtain ⟨h,_⟩:=this;exact h
  exact zaw3 (by omega) (by omega) h1
 |_,_,.assert (x:=x) _ hx _,hg=>by
  have h2:=hx.ok hg.tl.l;have h3:=zahk h2;rw[sF_eq];unfold sOk isOpt;rw[show shp 9=Shape.mk false false true false false false from rfl];simp[h2,h3,sFs,inR]
 |_,_,.if_ (x:=x) _ hx _ hb _,hg=>by
  have h2:=hx.ok hg.tl.l;have h3:=zahk h2;have h4:=hb.ok hg.tl.r.tl.l;rw[sF_eq];unfold sOk isOpt;rw[show shp 10=Shape.mk false false true false true true from rfl];simp[h2,h3,h4,sFs,inR]
 |_,_,.ife (x:=x) _ hx _ hb _ _ _ hb2 _,hg=>by
  have h2:=hx.ok hg.tl.l;have h3:=zahk h2;have h4:=hb.ok hg.tl.r.tl.l;have h5:=hb2.ok hg.tl.r.tl.r.tl.tl.tl.l;rw[sF_eq];unfold sOk isOpt;rw[show shp 10=Shape.mk false false true false true true from rfl];simp[h2,h3,h4,h5,sFs,inR]
 |_,_,.rep (n:=n) _ hn h1000 _ hb _,hg=>by
  have h1:=hg.tl.hd.2 hn;have h4:=hb.ok hg.tl.tl.tl.l;rw[sF_eq];unfold sOk isOpt;rw[show shp 11=Shape.mk false false false true true false from rfl];simp[h4,sFs,inR,none_,zaa3];omega
theorem DL.ok:∀ {b:List TStmt} {c:List Tk},DL b c→GT c→sFs b=true
 |_,_,.nil,_=>by rw[sFs]
 |_,_,.cons hs hb,hg=>by rw[sFs,hs.ok hg.l,hb.ok hg.r]; rfl
end
theorem DC.ok {x:TCell} {c:List Tk} (h:DC x c) (hg:GT c):cOk x=true:=by
 cases h with
 |bare _ ha _=>have:=hg.tl.hd.1 ha; unfold cOk; simp[this]
 |pos _ ha _ _ hn _=>
  have h1:=hg.tl.hd.1 ha;have h2:=hg.tl.tl.tl.hd.2 hn;unfold cOk;simp[h1];omega
 |@ngt w a o m n q _ ha _ _ hn _=>
  have h1:=hg.tl.hd.1 ha;have h2:=hg.tl.tl.tl.tl.hd.2 hn;have h3:IntKind.wrap .i64 (0-n.2.2)=0-n.2.2:=i64_in _ (by omega);unfold cOk;rw[h3];simp[h1];omega
theorem DP.ok {p:TProg} {c:List Tk} (h:DP p c) (hg:GT c):pOk p=true:=by
 induction h with
 |nil=>rfl
 |@cell p c d x _ hx ih=>
  have h1:=ih hg.l;have h2:=hx.ok hg.r;unfold pOk at h1 ⊢;simp only[Bool.and_eq_true] at h1 ⊢;refine ⟨?_,h1.2⟩;rw[List.all_append,h1.1];simp[h2]
 |@mutex p c w a q _ _ ha _ ih=>
  have h1:=ih hg.l;have h2:=hg.r.tl.hd.1 ha;unfold pOk at h1 ⊢;simp only[Bool.and_eq_true] at h1 ⊢;refine ⟨h1.1,?_,h1.2.2⟩;rw[List.all_append,h1.2.1];simp[h2]
 |@thread p c d w a b _ _ ha hb ih=>
  have h1:=ih hg.l;have h2:=hg.r.tl.hd.1 ha;obtain ⟨o,e,q,_,hd,_,rfl⟩:=hb;have h3:=hd.ok hg.r.tl.tl.tl.l;unfold pOk at h1 ⊢;simp only[Bool.and_eq_true] at h1 ⊢;refine ⟨h1.1,h1.2.1,?_⟩;rw[List.all_append,h1.2.2];simp[h2,h3]
theorem za0f {t:List UInt8} {l:List Token} {e:Token} (h:qaj t=some (l++[e],⟨0,0,[]⟩)):GT (l.map core):=by
 rcases zagl t with ⟨f,k1,k2,_⟩|⟨rs,l',rfl,hra,_,hT,k1⟩
 ·rw[h] at k1;simp only[Option.some.injEq,Prod.mk.injEq] at k1;rw[← k1.2] at k2;exact absurd rfl k2
 rw[h] at k1;simp only[Option.some.injEq,Prod.mk.injEq,and_true] at k1;obtain ⟨g1,g2⟩:=List.append_inj' k1 rfl;subst g1;intro o ho;obtain ⟨x,hx,rfl⟩:=List.mem_map.1 ho;obtain ⟨w,u,hw,hc⟩:=((T_ok _ _ _ _ (Nat.le_refl _) (zadr hra) hT).1 x hx).2.2.2;rw[hc];refine ⟨fun h1=>?_,fun h1=>zay4 hw h1⟩;have:=zato hw h1;rw[(zamc hw h1).1];exact this
end Lift.A4
namespace Lift.A4
open Go Go.RowKit Lift Go.IntWalk Lift.Fn Lift.A1P Lift.A3
set_option linter.unusedVariables false
set_option linter.unusedSimpArgs false
def n40 (s:List UInt8):Nat:=s.count 40
def n41 (s:List UInt8):Nat:=s.count 41
def cnt (c:List Tk):Nat:=c.countP (hitc [40])
theorem zaap (a b:List UInt8):n40 (a++b)=n40 a+n40 b:=List.count_append
theorem zadn (a b:List UInt8):n41 (a++b)=n41 a+n41 b:=List.count_append
theorem zabm (b:UInt8) (s:List UInt8):n40 (b::s)=(if b=40 then 1 else 0)+n40 s:=by
 unfold n40;rw[List.count_cons];by_cases h:b=40<;>simp[h]<;>omega
theorem zajp (b:UInt8) (s:List UInt8):n41 (b::s)=(if b=41 then 1 else 0)+n41 s:=by
 unfold n41;rw[List.count_cons];by_cases h:b=41<;>simp[h]<;>omega
theorem zacy:n40 []=0:=rfl
theorem zayv:n41 []=0:=rfl
theorem zacj (a b:List Tk):cnt (a++b)=cnt a+cnt b:=List.countP_append
theorem zab4 (a:Tk) (b:List Tk):cnt (a::b)=(if hitc [40] a=true then 1 else 0)+cnt b:=by
 unfold cnt;rw[List.countP_cons];omega
theorem zafh:cnt []=0:=rfl
def noP (s:List UInt8):Prop:=n40 s=0∧n41 s=0
theorem zavi {s:List UInt8} (h:∀ b∈s,b≠40∧b≠41):noP s:=by
 constructor
 ·exact List.count_eq_zero.2 fun hm=>(h 40 hm).1 rfl
 ·exact List.count_eq_zero.2 fun hm=>(h 41 hm).2 rfl
theorem zas6 (n:Nat):noP (Lib.decDigits n):=zavi fun b hb=>by
 have:=zaeg.1 (List.all_eq_true.1 (zahe n).2.1 b hb);have h0:(40:UInt8).toNat=40:=rfl;have h1:(41:UInt8).toNat=41:=rfl;constructor<;>(intro e; subst e; omega)
theorem zay0 {a:Int} (h:goesR a=true):∀ b∈encB a,b≠40∧b≠41:=by
 have key:∀ z:Int,(0≤z∧z<256)→z≠40→z≠41→UInt8.ofNat z.toNat≠40∧UInt8.ofNat z.toNat≠41:=by
  intro z hz h1 h2;constructor <;>
  ·intro e;have:=congrArg UInt8.toNat e;rw[UInt8.toNat_ofNat'] at this;have h0:(40:UInt8).toNat=40:=rfl;have h1:(41:UInt8).toNat=41:=rfl;omega
 have hr:(0≤a∧a≤1114111)∧a≠40∧a≠41:=by
  unfold goesR Sp.letter Sp.digit Sp.isRune at h;simp only[Bool.or_eq_true,Bool.and_eq_true,decide_eq_true_eq] at h;omega
 obtain ⟨hr,h40,h41⟩:=hr;intro b hb;unfold encB bytesOf at hb;obtain ⟨z,hz,rfl⟩:=List.mem_map.1 hb;unfold Sp.enc at hz;split at hz
 ·simp only[List.mem_cons,List.not_mem_nil,or_false] at hz;subst hz;exact key z (by omega) h40 h41
 ·split at hz
  ·simp only[List.mem_cons,List.not_mem_nil,or_false] at hz;rcases hz with rfl|rfl<;>exact key _ (by omega) (by omega) (by omega)
  ·split at hz
   ·simp only[List.mem_cons,List.not_mem_nil,or_false] at hz;rcases hz with rfl|rfl|rfl<;>exact key _ (by omega) (by omega) (by omega)
   ·simp only[List.mem_cons,List.not_mem_nil,or_false] at hz;rcases hz with rfl|rfl|rfl|rfl<;>exact key _ (by omega) (by omega) (by omega)
theorem zarx:∀ {w:List Int},(∀ a∈w,goesR a=true)→noP (encs w)
 |[],_=>⟨rfl,rfl⟩
 |a::w,h=>by
  have h1:=zavi (zay0 (h a List.mem_cons_self));have h2:=zarx (w:=w) (fun x hx=>h x (List.mem_cons_of_mem _ hx));rw[zaay];exact ⟨by rw[zaap,h1.1,h2.1],by rw[zadn,h1.2,h2.2]⟩
theorem zabe {t:List UInt8} (h:isNm t=true):noP t:=by
 obtain ⟨w,u,h1,h2,rfl,h3⟩:=zaru h;refine zarx fun a ha=>?_
 rw[← zag4 h1 h3] at ha;exact List.all_eq_true.1 List.all_takeWhile a ha
theorem zahv {n:Int} (h0:-9000000000000000000≤n):noP (Lib.itoa n):=by
 by_cases h:0≤n
 ·rw[zax2 h]; exact zas6 _
 ·obtain ⟨m,hm⟩:∃ m:Nat,n=-(m:Int):=⟨n.natAbs,by omega⟩;rw[hm,Lib.itoa_neg m (by omega)];have:=zas6 m;constructor
  ·rw[zabm,if_neg (by decide),this.1]
  ·rw[zajp,if_neg (by decide),this.2]
theorem zawk (k:Int):noP (sgO k):=by
 unfold sgO
 (repeat' split)<;>exact ⟨rfl,rfl⟩
theorem zahl {x a b:TExpr} (h3:x.args=[a,b]) (q:Int):n40 (xT x q)=n40 (xT a (lfO x.kind))+n40 (xT b (rtO x.kind))+(if lvO x.kind<q then 1 else 0):=by
 have hs:=(zawk x.kind).1;rw[zai5 h3];split<;>simp only[zaap,zabm,zacy,hs]<;>simp<;>omega
theorem zazf {x:TExpr} (h:eF x=true) {q r:Int} (hqr:q≤r):n40 (xT x q)≤n40 (xT x r):=by
 rcases zaf0 h with ⟨h1,h2,_⟩|⟨h1,h2,_⟩|⟨_,⟨a,h2,_⟩,_⟩|⟨_,_,⟨a,b,h3,_⟩,_⟩
 ·rw[zagi h1 h2,zagi h1 h2]; exact Nat.le_refl _
 ·rw[zad9 h1 h2,zad9 h1 h2]; exact Nat.le_refl _
 ·rw[zaey h2,zaey h2]; exact Nat.le_refl _
 ·rw[zahl h3,zahl h3];by_cases g1:lvO x.kind<q
  ·rw[if_pos g1,if_pos (by omega)]; exact Nat.le_refl _
  ·rw[if_neg g1]; omega
theorem zay6 {x:TExpr} (h:eF x=true) {q r:Int}:n40 (xT x q)≤n40 (xT x r)+1:=by
 rcases zaf0 h with ⟨h1,h2,_⟩|⟨h1,h2,_⟩|⟨_,⟨a,h2,_⟩,_⟩|⟨_,_,⟨a,b,h3,_⟩,_⟩
 ·rw[zagi h1 h2,zagi h1 h2]; omega
 ·rw[zad9 h1 h2,zad9 h1 h2]; omega
 ·rw[zaey h2,zaey h2]; omega
 ·rw[zahl h3,zahl h3];split<;>split<;>omega
theorem zatf {l:Nat} {o:Tk} {k:Int} (h:opAt l o=some k):lvO k=(l:Int)+1:=by
 unfold opAt at h;split at h
 ·have hl:l<5∨5≤l:=by omega
  rcases hl with hl|hl
  ·have hc:l=0∨l=1∨l=2∨l=3∨l=4:=by omega
   have hall:∀ (M:List ((List UInt8)×Int)) (v:Int),(∀ q∈M,lvO q.2=v)→mapAt M o.2.1=some k→lvO k=v:=fun M v hM hk=>hM _ (zakf hk)
   rcases hc with rfl|rfl|rfl|rfl|rfl<;>exact hall _ _ (by decide) h
  ·rw[show LV[l]? = none from List.getElem?_eq_none hl] at h;cases h
 ·cases h
theorem DE.need {l:Nat} {x:TExpr} {c:List Tk} (h:DE l x c) (hg:GT c):n40 (xT x ((l:Int)+1))≤cnt c:=by
 induction h with
 |@up l x c _ hd ih=>
  have:=ih hg;have:=zazf (hd.ok hg) (q:=(l:Int)+1) (r:=((l+1:Nat):Int)+1) (by omega);omega
 |@bin l x y c d o k hl hl2 hx ho hy ih1 ih2=>
  have h1:=ih1 hg.l;have h2:=ih2 hg.r.tl;have hlv:=zatf ho;obtain ⟨a,b⟩:=zahd ho;obtain ⟨_,_,_,_,_,_,_,_,h9⟩:=zawe a b;obtain ⟨e1,e2⟩:=h9 (by omega);rw[zahl (x:=⟨k,0,[],[x,y]⟩) rfl];dsimp only;rw[if_neg (by omega),e1,e2,hlv,zacj,zab4];rw[show (((l+1:Nat):Int)+1)=(l:Int)+1+1 by omega] at h2;omega
 |@cmp x y c d o k hx ho hy ih1 ih2=>
  have h1:=ih1 hg.l;have h2:=ih2 hg.r.tl;have hlv:=zatf ho;obtain ⟨a,b⟩:=zahd ho;obtain ⟨_,_,_,_,_,_,_,h8,_⟩:=zawe a b;obtain ⟨e1,e2⟩:=h8 (by omega);rw[zahl (x:=⟨k,0,[],[x,y]⟩) rfl];dsimp only;rw[if_neg (by omega),e1,e2,zacj,zab4];rw[show (((3:Nat):Int)+1)=4 by omega] at h1 h2;omega
 |@neg x c o ho hx ih=>
  have h1:=ih hg.tl;rw[zaey (x:=⟨3,0,[],[x]⟩) rfl,zaap,zab4];rw[show (((5:Nat):Int)+1)=6 by omega] at h1;have:n40 (if (3:Int)=3 then [45] else [33])=0:=rfl;dsimp only;omega
 |@not x c o ho hx ih=>
  have h1:=ih hg.tl;rw[zaey (x:=⟨4,0,[],[x]⟩) rfl,zaap,zab4];rw[show (((5:Nat):Int)+1)=6 by omega] at h1;have:n40 (if (4:Int)=3 then [45] else [33])=0:=rfl;dsimp only;omega
 |@par x c o q ho hq hx ih=>
  have h1:=ih hg.tl.l;have h2:=zay6 (hx.ok hg.tl.l) (q:=((5:Nat):Int)+1) (r:=((0:Nat):Int)+1);rw[zab4,if_pos ho,zacj];omega
 |@num o h1=>
  have:=hg.hd.2 h1;rw[zagi (x:=⟨1,o.2.2,[],[]⟩) rfl rfl,(zahv (by show _≤o.2.2; omega)).1];omega
 |@reg o h1=>
  rw[zad9 (x:=⟨2,0,o.2.1,[]⟩) rfl rfl,(zabe (hg.hd.1 h1)).1];omega
theorem DE.need0 {x:TExpr} {c:List Tk} (h:DE 0 x c) (hg:GT c):n40 (xT x 1)≤cnt c:=h.need hg
theorem zadd (d:Nat) (t:List UInt8):n40 (ln d t)=n40 t:=by
 have:∀ d,n40 (Lib.repeatL [32,32] d)=0:=by
  intro d;induction d with
  |zero=>rfl
  |succ d ih=>show n40 ([32,32]++Lib.repeatL [32,32] d)=0; rw[zaap,ih]; rfl
 unfold ln;rw[zaap,zaap,this];show 0+n40 t+0=n40 t;omega
theorem zav3 (d:Nat) (t:List UInt8):n41 (ln d t)=n41 t:=by
 have:∀ d,n41 (Lib.repeatL [32,32] d)=0:=by
  intro d;induction d with
  |zero=>rfl
  |succ d ih=>show n41 ([32,32]++Lib.repeatL [32,32] d)=0; rw[zadn,ih]; rfl
 unfold ln;rw[zadn,zadn,this];show 0+n41 t+0=n41 t;omega
theorem zad5 (l:List (List UInt8)):n40 l.flatten=(l.map n40).sum:=by
 induction l with
 |nil=>rfl
 |cons a l ih=>rw[List.flatten_cons,zaap,ih]; rfl
theorem zazx (i:Nat):n40 (fourB.getD i [])=0:=by
 match i with
 |0|1|2|3=>rfl
 |i+4=>rfl
mutual
theorem DS.need:∀ {y:TStmt} {c:List Tk} (d:Nat),DS y c→GT c→n40 (sT y d)≤cnt c
 |_,_,d,.set (a:=a) ha _ hx _,hg=>by
  have h1:=(zabe (hg.hd.1 ha)).1;have h2:=hx.need0 hg.tl.tl.l;rw[sT,if_pos rfl,zadd,zad5];simp only[List.map_cons,List.map_nil,List.sum_cons,List.sum_nil,zabm,zacy,h1,zab4,zacj,zafh];simp;omega
 |_,_,d,.write (a:=a) ha _ hx _,hg=>by
  have h1:=(zabe (hg.hd.1 ha)).1;have h2:=hx.need0 hg.tl.tl.l;rw[sT,if_neg (by decide),if_neg (by decide),if_pos rfl,zadd,zad5];simp only[List.map_cons,List.map_nil,List.sum_cons,List.sum_nil,zabm,zacy,h1,zab4,zacj,zafh];simp;omega
 |_,_,d,.add (a:=a) (b:=b) ha _ _ hb hx _,hg=>by
  have h1:=(zabe (hg.hd.1 ha)).1;have h1':=(zabe (hg.tl.tl.tl.hd.1 hb)).1;have h2:=hx.need0 hg.tl.tl.tl.tl.l;rw[sT,if_neg (by decide),if_neg (by decide),if_neg (by decide),if_pos rfl,zadd,zad5];simp only[List.map_cons,List.map_nil,List.sum_cons,List.sum_nil,zabm,zacy,h1,h1',zab4,zacj,zafh];simp;omega
 |_,_,d,.read (a:=a) (b:=b) ha _ hb _,hg=>by
  have h1:=(zabe (hg.hd.1 ha)).1;have h1':=(zabe (hg.tl.tl.hd.1 hb)).1;rw[sT,if_neg (by decide),if_pos rfl,zadd,zad5];simp only[List.map_cons,List.map_nil,List.sum_cons,List.sum_nil,zabm,zacy,h1,h1'];simp
 |_,_,d,.about (i:=i) (b:=b) hi _ hb _,hg=>by
  have h1:=(zabe (hg.tl.hd.1 hb)).1;rw[sT,if_neg (by omega),if_neg (by omega),if_neg (by omega),if_neg (by omega)];have:i<4:=(List.getElem?_eq_some_iff.1 hi).1;rw[if_neg (by omega),if_neg (by omega),if_neg (by omega),zadd,zad5];simp only[List.map_cons,List.map_nil,List.sum_cons,List.sum_nil,zabm,zacy,h1,zazx];simp
 |_,_,d,.assert _ hx _,hg=>by
  have h2:=hx.need0 hg.tl.l;rw[sT,if_neg (by decide),if_neg (by decide),if_neg (by decide),if_neg (by decide),if_pos rfl,zadd,zad5];simp only[List.map_cons,List.map_nil,List.sum_cons,List.sum_nil,zabm,zacy,zab4,zacj,zafh];simp;omega
 |_,_,d,.if_ _ hx _ hb _,hg=>by
  have h2:=hx.need0 hg.tl.l;have h3:=hb.need (d+1) hg.tl.r.tl.l;rw[sT,if_neg (by decide),if_neg (by decide),if_neg (by decide),if_neg (by decide),if_neg (by decide),if_pos rfl,if_pos (show List.length ([]:List TStmt)=0 from rfl)];simp only[zaap,zadd,zad5,List.map_cons,List.map_nil,List.sum_cons,List.sum_nil,zabm,zacy,zab4,zacj,zafh];simp;omega
 |_,_,d,.ife (b2:=b2) _ hx _ hb _ _ _ hb2 _,hg=>by
  have h2:=hx.need0 hg.tl.l;have h3:=hb.need (d+1) hg.tl.r.tl.l;have h4:=hb2.need (d+1) hg.tl.r.tl.r.tl.tl.tl.l;rw[sT,if_neg (by decide),if_neg (by decide),if_neg (by decide),if_neg (by decide),if_neg (by decide),if_pos rfl];by_cases h0:b2.length=0
  ·rw[if_pos h0];simp only[zaap,zadd,zad5,List.map_cons,List.map_nil,List.sum_cons,List.sum_nil,zabm,zacy,zab4,zacj,zafh];simp;omega
  ·rw[if_neg h0];simp only[zaap,zadd,zad5,List.map_cons,List.map_nil,List.sum_cons,List.sum_nil,zabm,zacy,zab4,zacj,zafh];simp;omega
 |_,_,d,.rep (n:=n) _ hn _ _ hb _,hg=>by
  have h1:=hg.tl.hd.2 hn;have h3:=hb.need (d+1) hg.tl.tl.tl.l;have h5:=(zahv (n:=n.2.2) (by omega)).1;rw[sT,if_neg (by decide),if_neg (by decide),if_neg (by decide),if_neg (by decide),if_neg (by decide),if_neg (by decide),if_pos rfl];simp only[zaap,zadd,zad5,List.map_cons,List.map_nil,List.sum_cons,List.sum_nil,zabm,zacy,zab4,zacj,zafh,h5];simp;omega
theorem DL.need:∀ {b:List TStmt} {c:List Tk} (d:Nat),DL b c→GT c→n40 (sTs b d)≤cnt c
 |_,_,d,.nil,_=>by rw[sTs]; exact Nat.zero_le _
 |_,_,d,.cons hs hb,hg=>by
  have h1:=hs.need d hg.l;have h2:=hb.need d hg.r;rw[sTs,zaap,zacj];omega
end
theorem zau2 {x:TCell} (h:cOk x=true):noP (cellT x):=by
 obtain ⟨_,h1,h2,h3⟩:=zak7 x h;have g1:=zabe h1;have g2:=zahv (n:=x.init) (by omega);unfold cellT;constructor
 ·rw[zadd];simp only[List.flatten_cons,List.flatten_nil,zaap,g1.1,g2.1];rfl
 ·rw[zav3];simp only[List.flatten_cons,List.flatten_nil,zadn,g1.2,g2.2];rfl
theorem mut40 {m:List UInt8} (h:isNm m=true):noP (mutT m):=by
 have g1:=zabe h;unfold mutT;constructor
 ·rw[zadd];simp only[List.flatten_cons,List.flatten_nil,zaap,g1.1];rfl
 ·rw[zav3];simp only[List.flatten_cons,List.flatten_nil,zadn,g1.2];rfl
theorem zamg {α:Type} (f:α→List UInt8) (l r:List α):n40 ((l++r).flatMap f)=n40 (l.flatMap f)+n40 (r.flatMap f):=by rw[List.flatMap_append,zaap]
theorem DP.need {p:TProg} {c:List Tk} (h:DP p c) (hg:GT c):n40 (progT p)≤cnt c:=by
 induction h with
 |nil=>exact Nat.zero_le _
 |@cell p c d x _ hx ih=>
  have h1:=ih hg.l;have h2:=(zau2 (hx.ok hg.r)).1;unfold progT at h1 ⊢;simp only[zaap,zamg,List.flatMap_cons,List.flatMap_nil,List.append_nil,h2,zacj] at h1 ⊢;omega
 |@mutex p c w a q _ _ ha _ ih=>
  have h1:=ih hg.l;have h2:=(mut40 (hg.r.tl.hd.1 ha)).1;unfold progT at h1 ⊢;simp only[zaap,zamg,List.flatMap_cons,List.flatMap_nil,List.append_nil,h2,zacj] at h1 ⊢;omega
 |@thread p c d w a b _ _ ha hb ih=>
  have h1:=ih hg.l;have h2:=(zabe (hg.r.tl.hd.1 ha)).1;obtain ⟨o,e,q,_,hd,_,rfl⟩:=hb;have h3:=hd.need 1 hg.r.tl.tl.tl.l;have h4:n40 (thrT ⟨a.2.1,b⟩)=n40 (sTs b 1):=by
   unfold thrT;rw[zaap,zaap,zadd,zadd];simp only[List.flatten_cons,List.flatten_nil,zaap,h2,zabm,zacy];simp
  unfold progT at h1 ⊢;simp only[zaap,zamg,List.flatMap_cons,List.flatMap_nil,List.append_nil,h4,zacj,zab4] at h1 ⊢;omega
end Lift.A4
namespace Lift.A4
open Go Go.RowKit Lift Go.IntWalk Lift.Fn Lift.A1P Lift.A3
set_option linter.unusedVariables false
set_option linter.unusedSimpArgs false
theorem T_cnt:∀ (n:Nat) (rs:List Int) (p:Int) (l:List Token),rs.length≤n→rs.all Sp.isRune=true→T p rs=.inr l→cnt (l.map core)≤n40 (encs rs):=by
 intro n;induction n with
 |zero=>
  intro rs p l hn ha h;have:rs=[]:=List.eq_nil_of_length_eq_zero (by omega);subst this;rw[T_nil,Sum.inr.injEq] at h;subst h;exact Nat.le_refl _
 |succ n ih=>
  intro rs p l hn ha h;cases rs with
  |nil=>
   rw[T_nil,Sum.inr.injEq] at h;subst h;exact Nat.le_refl _
  |cons r rs=>
   simp only[List.length_cons] at hn;rw[zah3 p r rs ha] at h;by_cases h0:(tokR (r::rs)).2=0
   ·have e1:((tokR (r::rs)).2 != 0)=false:=by simp[h0]
    rw[e1,cond_false] at h;obtain ⟨q1,q2⟩:=zaf5 ha h0;obtain ⟨ds,hw,hsp⟩:=alone r rs ha h0;obtain ⟨es,hes⟩:=zabj (restR (r::rs)) false;cases hT:T (p+(encs (r::rs)).length-(encs (skip false (restR (r::rs)))).length) (skip false (restR (r::rs))) with
    |inl e2=>rw[hT] at h; cases h
    |inr l'=>
     rw[hT] at h;simp only[Sum.inr.injEq] at h;have hi:=ih _ _ _ (by omega) q1 hT;subst h;have e2:n40 (encs (r::rs))=n40 (encs ds)+(n40 (encs es)+n40 (encs (skip false (restR (r::rs))))):=by
      conv=>lhs; rw[hsp]
      rw[zaaj,zaap];congr 1;conv=>lhs; rw[hes]
      rw[zaaj,zaap]
     rw[List.map_cons,zab4,e2];by_cases hh:hitc [40] (core (⟨(tokR (r::rs)).1.kind,(tokR (r::rs)).1.text,(tokR (r::rs)).1.num,p⟩:Token))=true
     ·rw[if_pos hh];have ht:(tokR (r::rs)).1.text=[40]:=by
       unfold hitc at hh;rw[Bool.and_eq_true] at hh;exact beq_iff_eq.1 hh.2
      rw[hw.2.2.2] at ht;rw[ht];have:n40 [40]=1:=rfl;omega
     ·rw[if_neg hh];omega
   ·have e1:((tokR (r::rs)).2 != 0)=true:=by simp[h0]
    rw[e1,cond_true] at h;cases h
theorem zaze {t:List UInt8} {l:List Token} {e:Token} (h:qaj t=some (l++[e],⟨0,0,[]⟩)):cnt (l.map core)≤n40 t:=by
 rcases zagl t with ⟨f,k1,k2,_⟩|⟨rs,l',rfl,hra,_,hT,k1⟩
 ·rw[h] at k1;simp only[Option.some.injEq,Prod.mk.injEq] at k1;rw[← k1.2] at k2;exact absurd rfl k2
 rw[h] at k1;simp only[Option.some.injEq,Prod.mk.injEq,and_true] at k1;obtain ⟨g1,g2⟩:=List.append_inj' k1 rfl;subst g1;have h1:=T_cnt _ _ _ _ (Nat.le_refl _) (zadr hra) hT;obtain ⟨es,hes⟩:=zabj rs false;have:n40 (encs rs)=n40 (encs es)+n40 (encs (skip false rs)):=by
  conv=>lhs; rw[hes]
  rw[zaaj,zaap]
 omega
def Bal (s:List UInt8):Prop:=∀ u v,s=u++v→n40 v≤n41 v
theorem Bal.nil:Bal []:=by
 intro u v h;have:v=[]:=(List.append_eq_nil_iff.1 h.symm).2;subst this;exact Nat.le_refl _
theorem Bal.all {s:List UInt8} (h:Bal s):n40 s≤n41 s:=h [] s rfl
theorem Bal.noP {s:List UInt8} (h:noP s):Bal s:=by
 intro u v e;have h1:=h.1;rw[e,zaap] at h1;omega
theorem Bal.app {a b:List UInt8} (h:Bal a) (h':Bal b):Bal (a++b):=by
 intro u v e;rcases List.append_eq_append_iff.1 e with ⟨w,hu,hv⟩|⟨w,hu,hv⟩
 ·exact h' w v hv
 ·rw[hv,zaap,zadn];have h1:=h u w hu;have h2:=h'.all;omega
theorem Bal.par {s:List UInt8} (h:Bal s):Bal ([40]++s++[41]):=by
 intro u v e;cases u with
 |nil=>
  have:v=[40]++s++[41]:=e.symm;subst this;have:=h.all;simp only[zaap,zadn,zabm,zajp,zacy,zayv];simp;omega
 |cons c u=>
  simp only[List.cons_append,List.nil_append,List.cons.injEq] at e;obtain ⟨_,e⟩:=e;exact Bal.app h (b:=[41]) (by
   intro u v e;match u,e with
   |[],e=>
    have:v=[41]:=e.symm;subst this;decide
   |_::u,e=>
    simp only[List.cons_append,List.cons.injEq] at e;have:v=[]:=(List.append_eq_nil_iff.1 e.2.symm).2;subst this;exact Nat.le_refl _) u v e
theorem bal_x:∀ (k:Nat) (x:TExpr) (q:Int),nE x≤k→eF x=true→Bal (xT x q):=by
 intro k;induction k with
 |zero=>intro x q h; have:=nE_eq x; omega
 |succ k ih=>
  intro x q hk h;rcases zaf0 h with ⟨h1,h2,h3,h4,_⟩|⟨h1,h2,h3,_⟩|⟨h1,⟨a,h2,h3⟩,_⟩|⟨h1,h2,⟨a,b,h3,h4,h5⟩,_⟩
  ·rw[zagi h1 h2]; exact Bal.noP (zahv (by omega))
  ·rw[zad9 h1 h2]; exact Bal.noP (zabe h3)
  ·rw[zaey h2];rw[zamy h2] at hk;refine Bal.app (Bal.noP ?_) (ih a 6 (by omega) h3);split<;>exact ⟨rfl,rfl⟩
  ·rw[zamp h3] at hk;have i1:=ih a (lfO x.kind) (by omega) h4;have i2:=ih b (rtO x.kind) (by omega) h5;have i3:Bal (xT a (lfO x.kind)++([32]++sgO x.kind++[32])++xT b (rtO x.kind)):=by
    refine Bal.app (Bal.app i1 (Bal.noP ?_)) i2;have:=zawk x.kind;exact ⟨by rw[zaap,zaap,this.1]; rfl,by rw[zadn,zadn,this.2]; rfl⟩
   rw[zai5 h3];split
   ·have:=Bal.par i3;simpa [List.append_assoc] using this
   ·exact i3
theorem zalq:∀ l:List (List UInt8),(∀ t∈l,Bal t)→Bal l.flatten
 |[],_=>Bal.nil
 |a::l,h=>by
  rw[List.flatten_cons];exact Bal.app (h a List.mem_cons_self) (zalq l fun t ht=>h t (List.mem_cons_of_mem _ ht))
theorem zadu {d:Nat} {l:List (List UInt8)} (h:∀ t∈l,Bal t):Bal (ln d l.flatten):=by
 unfold ln;refine Bal.app (Bal.app (Bal.noP ?_) (zalq l h)) (Bal.noP ⟨rfl,rfl⟩);induction d with
 |zero=>exact ⟨rfl,rfl⟩
 |succ d ih=>
  show noP ([32,32]++Lib.repeatL [32,32] d);exact ⟨by rw[zaap,ih.1]; rfl,by rw[zadn,ih.2]; rfl⟩
theorem zakx {x:TExpr} (h:eF x=true):Bal (xT x 1):=bal_x _ x 1 (Nat.le_refl _) h
theorem zax8 (i:Nat):noP (fourB.getD i []):=by
 match i with
 |0|1|2|3=>exact ⟨rfl,rfl⟩
 |i+4=>exact ⟨rfl,rfl⟩
theorem bal_b {k:Nat} (ih:∀ (y:TStmt) (d:Nat),nS y≤k→sF y=true→Bal (sT y d)):∀ (l:List TStmt) (d:Nat),nSs l≤k→sFs l=true→Bal (sTs l d)
 |[],d,_,_=>by rw[sTs]; exact Bal.nil
 |y::b,d,hk,hf=>by
  rw[zae8] at hk;rw[sFs,Bool.and_eq_true] at hf;rw[sTs];exact Bal.app (ih y d (by omega) hf.1) (bal_b ih b d (by omega) hf.2)
theorem lit0 {t:List UInt8} (h:n40 t=0∧n41 t=0):Bal t:=Bal.noP h
theorem bal_s:∀ (k:Nat) (y:TStmt) (d:Nat),nS y≤k→sF y=true→Bal (sT y d):=by
 intro k;induction k with
 |zero=>intro y d h; cases y; rw[nS_mk] at h; omega
 |succ k ih=>
  intro y d hk h;have br:Bal (ln d [[125]].flatten):=zadu (by simp only[List.mem_cons,List.not_mem_nil,or_false,forall_eq]; exact lit0 ⟨rfl,rfl⟩);cases sF_sc h with
  |@set r x hr hx=>
   rw[sT,if_pos rfl];refine zadu ?_;simp only[List.mem_cons,List.not_mem_nil,or_false,forall_eq_or_imp,forall_eq];exact ⟨Bal.noP (zabe hr),lit0 ⟨rfl,rfl⟩,zakx hx,lit0 ⟨rfl,rfl⟩⟩
  |@read r m hr hm=>
   rw[sT,if_neg (by decide),if_pos rfl];refine zadu ?_;simp only[List.mem_cons,List.not_mem_nil,or_false,forall_eq_or_imp,forall_eq];exact ⟨Bal.noP (zabe hr),lit0 ⟨rfl,rfl⟩,Bal.noP (zabe hm),lit0 ⟨rfl,rfl⟩⟩
  |@write m x hm hx=>
   rw[sT,if_neg (by decide),if_neg (by decide),if_pos rfl];refine zadu ?_;simp only[List.mem_cons,List.not_mem_nil,or_false,forall_eq_or_imp,forall_eq];exact ⟨Bal.noP (zabe hm),lit0 ⟨rfl,rfl⟩,zakx hx,lit0 ⟨rfl,rfl⟩⟩
  |@add r m x hr hm hx=>
   rw[sT,if_neg (by decide),if_neg (by decide),if_neg (by decide),if_pos rfl];refine zadu ?_;simp only[List.mem_cons,List.not_mem_nil,or_false,forall_eq_or_imp,forall_eq];exact ⟨Bal.noP (zabe hr),lit0 ⟨rfl,rfl⟩,Bal.noP (zabe hm),lit0 ⟨rfl,rfl⟩,zakx hx,lit0 ⟨rfl,rfl⟩⟩
  |@about k m h5 h8 hm=>
   rw[sT,if_neg (by omega),if_neg (by omega),if_neg (by omega),if_neg (by omega),if_neg (by omega),if_neg (by omega),if_neg (by omega)];refine zadu ?_;simp only[List.mem_cons,List.not_mem_nil,or_false,forall_eq_or_imp,forall_eq];exact ⟨Bal.noP (zax8 _),Bal.noP (zabe hm),lit0 ⟨rfl,rfl⟩⟩
  |@assert x hx=>
   rw[sT,if_neg (by decide),if_neg (by decide),if_neg (by decide),if_neg (by decide),if_pos rfl];refine zadu ?_;simp only[List.mem_cons,List.not_mem_nil,or_false,forall_eq_or_imp,forall_eq];exact ⟨lit0 ⟨rfl,rfl⟩,zakx hx,lit0 ⟨rfl,rfl⟩⟩
  |@if_ x t o hx ht ho=>
   rw[nS_mk] at hk;have i1:=bal_b ih t (d+1) (by omega) ht;have i2:=bal_b ih o (d+1) (by omega) ho;rw[sT,if_neg (by decide),if_neg (by decide),if_neg (by decide),if_neg (by decide),if_neg (by decide),if_pos rfl];refine Bal.app ?_ (Bal.app i1 (Bal.app ?_ br))
   ·refine zadu ?_;simp only[List.mem_cons,List.not_mem_nil,or_false,forall_eq_or_imp,forall_eq];exact ⟨lit0 ⟨rfl,rfl⟩,zakx hx,lit0 ⟨rfl,rfl⟩⟩
   ·split
    ·exact Bal.nil
    ·refine Bal.app ?_ i2;refine zadu ?_;simp only[List.mem_cons,List.not_mem_nil,or_false,forall_eq];exact lit0 ⟨rfl,rfl⟩
  |@rep c t h0 h1 ht=>
   rw[nS_mk] at hk;have i1:=bal_b ih t (d+1) (by omega) ht;rw[sT,if_neg (by decide),if_neg (by decide),if_neg (by decide),if_neg (by decide),if_neg (by decide),if_neg (by decide),if_pos rfl];refine Bal.app ?_ (Bal.app i1 br);refine zadu ?_;simp only[List.mem_cons,List.not_mem_nil,or_false,forall_eq_or_imp,forall_eq];exact ⟨lit0 ⟨rfl,rfl⟩,Bal.noP (zahv (by omega)),lit0 ⟨rfl,rfl⟩⟩
theorem zajn {α:Type} (f:α→List UInt8):∀ (l:List α),(∀ x∈l,Bal (f x))→Bal (l.flatMap f)
 |[],_=>Bal.nil
 |a::l,h=>by
  rw[List.flatMap_cons];exact Bal.app (h a List.mem_cons_self) (zajn f l fun t ht=>h t (List.mem_cons_of_mem _ ht))
theorem bal_p {p:TProg} (h:pOk p=true):Bal (progT p):=by
 unfold pOk at h;rw[Bool.and_eq_true,Bool.and_eq_true] at h;unfold progT;refine Bal.app (zajn _ _ fun x hx=>Bal.noP (zau2 (List.all_eq_true.1 h.1 x hx))) (Bal.app (zajn _ _ fun x hx=>Bal.noP (mut40 (List.all_eq_true.1 h.2.1 x hx))) (zajn _ _ fun t ht=>?_));have:=List.all_eq_true.1 h.2.2 t ht;rw[Bool.and_eq_true] at this;unfold thrT;refine Bal.app ?_ (Bal.app (bal_b (k:=nSs t.body) (fun y d hk hf=>bal_s _ y d hk hf) t.body 1 (Nat.le_refl _) this.2) ?_)
 ·refine zadu ?_;simp only[List.mem_cons,List.not_mem_nil,or_false,forall_eq_or_imp,forall_eq];exact ⟨lit0 ⟨rfl,rfl⟩,Bal.noP (zabe this.1),lit0 ⟨rfl,rfl⟩⟩
 ·refine zadu ?_;simp only[List.mem_cons,List.not_mem_nil,or_false,forall_eq];exact lit0 ⟨rfl,rfl⟩
end Lift.A4
namespace Lift.A4
open Go Go.RowKit Lift Go.IntWalk Lift.Fn Lift.A1P Lift.A3
set_option linter.unusedVariables false
set_option linter.unusedSimpArgs false
theorem zah2 {α:Type} (f:α→α→Bool):∀ (l r:List α),(∀ x∈l,∀ y,f x y=true→x=y)→two f l r=true→l=r
 |[],[],_,_=>rfl
 |[],_::_,_,h=>by cases h
 |_::_,[],_,h=>by cases h
 |x::l,y::r,hf,h=>by
  rw[two,Bool.and_eq_true] at h;rw[hf x List.mem_cons_self y h.1,zah2 f l r (fun z hz=>hf z (List.mem_cons_of_mem _ hz)) h.2]
mutual
theorem zasw:∀ (x y:TExpr),sE x y=true→x=y
 |⟨k,n,m,l⟩,⟨k',n',m',l'⟩,h=>by
  rw[sE] at h;simp only[Bool.and_eq_true,beq_iff_eq] at h;obtain ⟨rfl,rfl,rfl,h⟩:=h;rw[zaqx l l' h]
theorem zaqx:∀ (l r:List TExpr),sEs l r=true→l=r
 |[],[],_=>rfl
 |[],_::_,h=>by simp[sEs] at h
 |_::_,[],h=>by simp[sEs] at h
 |x::l,y::r,h=>by
  rw[sEs,Bool.and_eq_true] at h;rw[zasw x y h.1,zaqx l r h.2]
end
mutual
theorem zatg:∀ (x y:TStmt),sS x y=true→x=y
 |⟨k,r,m,x,c,t,o⟩,⟨k',r',m',x',c',t',o'⟩,h=>by
  rw[sS] at h;simp only[Bool.and_eq_true,beq_iff_eq] at h;obtain ⟨rfl,rfl,rfl,rfl,hx,ht,ho⟩:=h;rw[zasw x x' hx,zaml t t' ht,zaml o o' ho]
theorem zaml:∀ (l r:List TStmt),sSs l r=true→l=r
 |[],[],_=>rfl
 |[],_::_,h=>by simp[sSs] at h
 |_::_,[],h=>by simp[sSs] at h
 |x::l,y::r,h=>by
  rw[sSs,Bool.and_eq_true] at h;rw[zatg x y h.1,zaml l r h.2]
end
theorem zayw {p q:TProg} (h:sP p q=true):p=q:=by
 obtain ⟨a,b,c⟩:=p;obtain ⟨a',b',c'⟩:=q;unfold sP at h;simp only[Bool.and_eq_true] at h;obtain ⟨h1,h2,h3⟩:=h;have e1:=zah2 _ _ _ (fun x _ y hxy=>by simpa using hxy) h1;have e2:=zah2 _ _ _ (fun x _ y hxy=>by simpa using hxy) h2;have e3:=zah2 _ _ _ (fun x _ y hxy=>by
  obtain ⟨n,t⟩:=x;obtain ⟨n',t'⟩:=y;unfold A3.sT at hxy;simp only[Bool.and_eq_true,beq_iff_eq] at hxy;obtain ⟨rfl,ht⟩:=hxy;rw[zah2 sS _ _ (fun x _ y=>zatg x y) ht]) h3
 rw[e1,e2,e3]
theorem closeL (t:List UInt8) (hl:t.length≤100000):∀ (k n i d:Nat),i+k=t.length→k<n→1≤d→d+k≤1000000→d+n40 (t.drop i)≤n41 (t.drop i) →
  ∃ j:Nat,i≤j∧j<t.length∧qaI_i3 n t (d:Int) (i:Int)=some (.inl (j:Int)):=by
 intro k;induction k with
 |zero=>
  intro n i d hi _ h1 _ h;rw[List.drop_eq_nil_of_le (by omega)] at h;have:n40 []=0:=rfl;have:n41 []=0:=rfl;omega
 |succ k ih=>
  intro n i d hi hn h1 hd h;obtain ⟨n,rfl⟩:∃ m,n=m+1:=⟨n-1,by omega⟩;have hlt:i<t.length:=by omega
  rw[List.drop_eq_getElem_cons hlt,zabm,zajp] at h;show ∃ j:Nat,i≤j∧j<t.length∧qaI_t3 (qaI_i3 n) t (d:Int) (i:Int)=some (.inl (j:Int));unfold qaI_t3;have g1:((i:Nat):Int).toNat=i:=Int.toNat_natCast i;have w1:IntKind.wrap IntKind.i64 ((i:Int)+1)=((i+1:Nat):Int):=by rw[i64_in _ (by omega)]; omega
  have w2:IntKind.wrap IntKind.i64 ((d:Int)+1)=((d+1:Nat):Int):=by rw[i64_in _ (by omega)]; omega
  have w3:IntKind.wrap IntKind.i64 ((d:Int)-1)=((d-1:Nat):Int):=by rw[i64_in _ (by omega)]; omega
  have h0:(0:Int)≤(i:Int):=by omega
  have hlt':(i:Int)<(t.length:Int):=by omega
  rw[decide_eq_true hlt',cond_true,decide_eq_true h0,cond_true,g1,List.getElem?_eq_getElem hlt,Option.bind_some];generalize t[i]=b at h;have h40:(40:UInt8).toNat=40:=rfl;have h41:(41:UInt8).toNat=41:=rfl;by_cases hb:b=40
  ·have e1:(((b.toNat:Nat):Int)==40)=true:=by rw[hb]; rfl
   have e2:(((b.toNat:Nat):Int)==41)=false:=by rw[hb]; rfl
   rw[e1,cond_true,cond_true,Option.bind_some,e2,cond_false,w2,w1];rw[if_pos hb,if_neg (by rw[hb]; decide)] at h;obtain ⟨j,j1,j2,j3⟩:=ih n (i+1) (d+1) (by omega) (by omega) (by omega) (by omega) (by omega);exact ⟨j,by omega,j2,j3⟩
  ·have e1:(((b.toNat:Nat):Int)==40)=false:=by
    rw[beq_eq_false_iff_ne];intro e;exact hb (UInt8.toNat_inj.1 (by omega))
   rw[e1,cond_false,cond_true,Option.bind_some];rw[if_neg hb] at h;by_cases hb2:b=41
   ·have e2:(((b.toNat:Nat):Int)==41)=true:=by rw[hb2]; rfl
    rw[e2,cond_true,w3];rw[if_pos hb2] at h;by_cases hd1:d=1
    ·have e3:(((d-1:Nat):Int)==0)=true:=by rw[hd1]; rfl
     rw[e3,cond_true];exact ⟨i,Nat.le_refl _,hlt,rfl⟩
    ·have e3:(((d-1:Nat):Int)==0)=false:=by rw[beq_eq_false_iff_ne]; omega
     rw[e3,cond_false,w1];obtain ⟨j,j1,j2,j3⟩:=ih n (i+1) (d-1) (by omega) (by omega) (by omega) (by omega) (by omega);exact ⟨j,by omega,j2,j3⟩
   ·have e2:(((b.toNat:Nat):Int)==41)=false:=by
     rw[beq_eq_false_iff_ne];intro e;exact hb2 (UInt8.toNat_inj.1 (by omega))
    rw[e2,cond_false,w1];rw[if_neg hb2] at h;obtain ⟨j,j1,j2,j3⟩:=ih n (i+1) d (by omega) (by omega) h1 (by omega) (by omega);exact ⟨j,by omega,j2,j3⟩
theorem za0d {t:List UInt8} (hl:t.length≤100000) (hb:Bal t) {i:Nat} (hi:i<t.length) (h40:t[i]? = some 40):∃ j:Nat,i<j∧j<t.length∧qaI t (i:Int)=some (j:Int):=by
 rw[qaI,zaaa];unfold qaI_f;rw[qaI_l3,zaaa];have e:t[i]=40:=by
  rw[List.getElem?_eq_getElem hi] at h40;exact Option.some.inj h40
 have h:=hb (t.take i) (t.drop i) (List.take_append_drop i t).symm;rw[List.drop_eq_getElem_cons hi,zabm,zajp,e,if_pos rfl,if_neg (by decide)] at h;obtain ⟨f,hf⟩:∃ f,fuel=f+1:=⟨fuel-1,by unfold fuel; omega⟩;obtain ⟨j,j1,j2,j3⟩:=closeL t hl (t.length-(i+1)) f (i+1) 1 (by omega) (by have:=hf; unfold fuel at this; omega) (Nat.le_refl _) (by omega) (by omega);refine ⟨j,by omega,j2,?_⟩;rw[hf];show Option.bind (qaI_t3 (qaI_i3 f) t 0 (i:Int)) _=_;have w1:IntKind.wrap IntKind.i64 ((i:Int)+1)=((i+1:Nat):Int):=by rw[i64_in _ (by omega)]; omega
 have w2:IntKind.wrap IntKind.i64 ((0:Int)+1)=((1:Nat):Int):=rfl;have step:qaI_t3 (qaI_i3 f) t 0 (i:Int)=some (.inl (j:Int)):=by
  unfold qaI_t3;have g1:((i:Nat):Int).toNat=i:=Int.toNat_natCast i;have h0:(0:Int)≤(i:Int):=by omega
  have hlt':(i:Int)<(t.length:Int):=by omega
  rw[decide_eq_true hlt',cond_true,decide_eq_true h0,cond_true,g1,h40,Option.bind_some];have e1:((((40:UInt8).toNat:Nat):Int)==40)=true:=rfl;have e2:((((40:UInt8).toNat:Nat):Int)==41)=false:=rfl;rw[e1,cond_true,cond_true,Option.bind_some,e2,cond_false,w2,w1];exact j3
 rw[step];rfl
theorem openL (t:List UInt8) (hl:t.length≤100000) (a:Int) (C:List TCell) (M:List (List UInt8)) (T:List TThread):∀ (k n i:Nat) (o:List Int),i+k=t.length→k<n→o.length≤i→(∀ z∈o,∃ m:Nat,z=(m:Int)∧m<t.length∧t[m]? = some 40) →
  ∃ o',qaH_i7 n a t (i:Int) C M T o=some (a,t,C,M,T,o')∧o'.length≤t.length∧(∀ z∈o',∃ m:Nat,z=(m:Int)∧m<t.length∧t[m]? = some 40):=by
 intro k;induction k with
 |zero=>
  intro n i o hi hn ho hz;obtain ⟨n,rfl⟩:∃ m,n=m+1:=⟨n-1,by omega⟩;refine ⟨o,?_,by omega,hz⟩;show qaH_t7 (qaH_i7 n) a t (i:Int) C M T o=_;unfold qaH_t7;rw[decide_eq_false (by omega),cond_false]
 |succ k ih=>
  intro n i o hi hn ho hz;obtain ⟨n,rfl⟩:∃ m,n=m+1:=⟨n-1,by omega⟩;have hlt:i<t.length:=by omega
  have g1:((i:Nat):Int).toNat=i:=Int.toNat_natCast i;have w1:IntKind.wrap IntKind.i64 ((i:Int)+1)=((i+1:Nat):Int):=by rw[i64_in _ (by omega)]; omega
  have h0:(0:Int)≤(i:Int):=by omega
  have hlt':(i:Int)<(t.length:Int):=by omega
  have go:∀ o2,o2.length≤i+1→(∀ z∈o2,∃ m:Nat,z=(m:Int)∧m<t.length∧t[m]? = some 40)→∃ o',qaH_i7 n a t ((i+1:Nat):Int) C M T o2=some (a,t,C,M,T,o')∧o'.length≤t.length∧(∀ z∈o',∃ m:Nat,z=(m:Int)∧m<t.length∧t[m]? = some 40):=
   fun o2 h1 h2=>ih n (i+1) o2 (by omega) (by omega) h1 h2
  show ∃ o',qaH_t7 (qaH_i7 n) a t (i:Int) C M T o=some (a,t,C,M,T,o')∧o'.length≤t.length∧(∀ z∈o',∃ m:Nat,z=(m:Int)∧m<t.length∧t[m]? = some 40);unfold qaH_t7;rw[decide_eq_true hlt',cond_true,decide_eq_true h0,cond_true,g1,List.getElem?_eq_getElem hlt,Option.bind_some];by_cases hb:t[i]=40
  ·have e1:(((t[i].toNat:Nat):Int)==40)=true:=by rw[hb]; rfl
   rw[e1,cond_true,w1]
   obtain ⟨o',k1,k2⟩:=go (o++[(i:Int)]) (by rw[List.length_append]; simp only[List.length_cons,List.length_nil]; omega) (fun z hzz=>by
    rcases List.mem_append.1 hzz with h|h
    ·exact hz z h
    ·have:z=(i:Int):=by simpa using h
     exact ⟨i,this,hlt,by rw[List.getElem?_eq_getElem hlt,hb]⟩)
   refine ⟨o',(zacx (by simp only[List.length_cons,List.length_nil]; omega) _ _).trans k1,k2⟩
  ·have e1:(((t[i].toNat:Nat):Int)==40)=false:=by
    rw[beq_eq_false_iff_ne];intro e;have h40:(40:UInt8).toNat=40:=rfl;exact hb (UInt8.toNat_inj.1 (by omega))
   rw[e1,cond_false,w1];exact go o (by omega) hz
theorem cut40 {t:List UInt8} {i j:Nat} (hij:i<j) (hj:j<t.length) (h40:t[i]? = some 40):n40 (t.take i++(t.take j).drop (i+1)++t.drop (j+1))+1≤n40 t:=by
 have hi:i<t.length:=by omega
 have e:t[i]=40:=by
  rw[List.getElem?_eq_getElem hi] at h40;exact Option.some.inj h40
 have h1:n40 t=n40 (t.take j)+n40 (t.drop j):=by rw[← zaap,List.take_append_drop]
 have h2:n40 (t.take j)=n40 ((t.take j).take i)+n40 ((t.take j).drop i):=by rw[← zaap,List.take_append_drop]
 have hl:i<(t.take j).length:=by rw[List.length_take]; omega
 rw[List.drop_eq_getElem_cons hl,zabm] at h2;have e2:(t.take j)[i]=40:=by rw[List.getElem_take,e]
 rw[e2,if_pos rfl,List.take_take,Nat.min_eq_left (by omega)] at h2;rw[List.drop_eq_getElem_cons hj,zabm] at h1;rw[zaap,zaap];omega
theorem zatx (p:TProg) (v:Int) (hv:-9223372036854775808≤v∧v≤9223372036854775807) (h:nT p.threads≤100000000) (h1:p.cells.length≤100000000) (h2:p.mutexes.length≤100000000) (h3:p.threads.length≤100000000):qaH p v=some true:=by
 rw[qaH,zaaa];unfold qaH_f;have hs:qaT (TProg.mk p.cells p.mutexes p.threads)=some (showV p):=showW p h h1 h2 h3;rw[zazn,Option.bind_some,hs,Option.bind_some];rcases zasf p with ⟨w,hw,e⟩|⟨hr,hl,_,e⟩
 ·rw[e];have:(w != 0)=true:=by simpa using hw
  simp[this]
 rw[e];simp only[Bool.not_true,cond_false,bne_self_eq_false,Option.bind_some];by_cases hneg:v<0
 ·rw[decide_eq_true hneg,cond_true]
 rw[decide_eq_false hneg,cond_false];obtain ⟨ok,o2⟩:=zanw hr;have hbal:=bal_p ok;have hneed:∀ {c:List Tk},DP p c→GT c→n40 (progT p)≤cnt c:=fun hd hg=>hd.need hg
 generalize progT p=t at hl hbal hneed;obtain ⟨o,k1,k2,k3⟩:=openL t (by omega) v p.cells p.mutexes p.threads t.length fuel 0 [] (by omega) (by unfold fuel; omega) (by simp) (fun z hz=>by cases hz);have k1':qaH_i7 fuel v t 0 p.cells p.mutexes p.threads []=_:=k1;rw[qaH_l7,zaaa,k1',Option.bind_some];dsimp only;by_cases ho:o.length=0
 ·have e0:(((o.length:Nat):Int)==0)=true:=by rw[ho]; rfl
  rw[e0,cond_true]
 have e0:(((o.length:Nat):Int)==0)=false:=by rw[beq_eq_false_iff_ne]; omega
 rw[e0,cond_false,cond_false];have t1:0≤Int.tmod v (o.length:Int):=Int.tmod_nonneg _ (by omega);have t2:Int.tmod v (o.length:Int)<(o.length:Int):=Int.tmod_lt_of_pos _ (by omega);obtain ⟨z,hz⟩:∃ z,o[(Int.tmod v (o.length:Int)).toNat]? = some z:=⟨_,List.getElem?_eq_getElem (by omega)⟩;obtain ⟨i,rfl,hi,h40⟩:=k3 z (List.mem_of_getElem? hz);obtain ⟨j,hij,hj,hc⟩:=za0d (by omega) hbal hi h40;rw[decide_eq_true t1,decide_eq_true t2];simp only[Bool.and_true,cond_true];rw[hz,Option.bind_some,hc,Option.bind_some];rw[decide_eq_false (show ¬ ((j:Nat):Int)<0 by omega),cond_false];have w1:IntKind.wrap IntKind.i64 ((i:Int)+1)=((i+1:Nat):Int):=by rw[i64_in _ (by omega)]; omega
 have w2:IntKind.wrap IntKind.i64 ((j:Int)+1)=((j+1:Nat):Int):=by rw[i64_in _ (by omega)]; omega
 simp only[w1,w2,Int.toNat_natCast,List.drop_zero,List.take_length];rw[decide_eq_true (show (0:Int)≤0 by omega),decide_eq_true (show (0:Int)≤(i:Int) by omega),decide_eq_true (show ((i:Nat):Int)≤(t.length:Int) by omega)];rw[decide_eq_true (show (0:Int)≤((i+1:Nat):Int) by omega),decide_eq_true (show ((i+1:Nat):Int)≤((j:Nat):Int) by omega),decide_eq_true (show ((j:Nat):Int)≤(t.length:Int) by omega)];rw[decide_eq_true (show (0:Int)≤((j+1:Nat):Int) by omega),decide_eq_true (show ((j+1:Nat):Int)≤(t.length:Int) by omega),decide_eq_true (show (t.length:Int)≤(t.length:Int) by omega)];simp only[Bool.and_true,cond_true];have len1:(t.take i).length+((t.take j).drop (i+1)).length≤9223372036854775807:=by
  simp only[List.length_take,List.length_drop]; omega
 have len2:(t.take i++(t.take j).drop (i+1)).length+(t.drop (j+1)).length≤9223372036854775807:=by
  simp only[List.length_append,List.length_take,List.length_drop]; omega
 refine (zacx len1 _ _).trans ((zacx len2 _ _).trans ?_);have hcut:=cut40 hij hj h40;generalize t.take i++(t.take j).drop (i+1)++t.drop (j+1)=u at hcut;rcases zar4 u with ⟨f,p1,p2⟩|⟨l,e2,q,p1,_,_,_,p2,hd,_,_⟩
 ·rw[p1,Option.bind_some];dsimp only[rr];have hsame:∃ b,qaK (TProg.mk p.cells p.mutexes p.threads) (TProg.mk [] [] [])=some b:=⟨_,zasx p _ h h1 h2⟩;obtain ⟨b,hb⟩:=hsame;have e3:(f.code != 0)=true:=by simpa using p2
  rw[hb,Option.bind_some,e3];rfl
 ·rw[p2,Option.bind_some];dsimp only[rr];have hsame:qaK (TProg.mk p.cells p.mutexes p.threads) (TProg.mk q.cells q.mutexes q.threads)=some (sP p q):=zasx p q h h1 h2;rw[hsame,Option.bind_some];cases hb:sP p q with
  |false=>rfl
  |true=>
   exfalso;have:=zayw hb;subst this;have g1:=hneed hd (za0f p1);have g2:=zaze p1;omega
end Lift.A4
namespace Lift.A4
open Go Go.RowKit Lift Lift.Fn Lift.A3
set_option linter.unusedVariables false
theorem zabg {u:Uni} {c:TV u.U} {cs:List (TV u.U)} {N:Nat} (h:SizedL u (c::cs) N):∃ a b,Sized u c a∧SizedL u cs b∧a+b+1≤N:=by
 cases h with
 |cons _ _ a b _ h1 h2 h3=>exact ⟨a,b,h1,h2,h3⟩
mutual
theorem szE:∀ (x:TExpr) (N:Nat),Sized Q4.kk.u ⟨.st 50,x⟩ N→nE x≤N
 |⟨k,n,m,l⟩,N,h=>by
  have h1:SizedL Q4.kk.u [⟨.int .i64,k⟩,⟨.int .i64,n⟩,⟨.str,m⟩,⟨.slc (.st 50),l⟩] N:=h.st_inv;obtain ⟨a1,b1,_,h1,e1⟩:=zabg h1;obtain ⟨a2,b2,_,h2,e2⟩:=zabg h1;obtain ⟨a3,b3,_,h3,e3⟩:=zabg h2;obtain ⟨a4,b4,s4,h4,e4⟩:=zabg h3;have:=szEs l a4 s4.slc_inv;rw[nE];omega
theorem szEs:∀ (l:List TExpr) (N:Nat),SizedL Q4.kk.u (l.map (TV.mk (.st 50))) N→nEs l≤N
 |[],N,h=>by simp[nEs]
 |x::l,N,h=>by
  obtain ⟨a,b,h1,h2,e⟩:=zabg h;have:=szE x a h1;have:=szEs l b h2;rw[nEs];omega
end
mutual
theorem szS:∀ (x:TStmt) (N:Nat),Sized Q4.kk.u ⟨.st 52,x⟩ N→nS x≤N
 |⟨k,r,m,⟨k',n',m',l'⟩,c,t,o⟩,N,h=>by
  have h1:SizedL Q4.kk.u [⟨.int .i64,k⟩,⟨.str,r⟩,⟨.str,m⟩,⟨.int .i64,k'⟩,⟨.int .i64,n'⟩,⟨.str,m'⟩,⟨.slc (.st 50),l'⟩,⟨.int .i64,c⟩,⟨.slc (.st 52),t⟩,⟨.slc (.st 52),o⟩] N:=h.st_inv;obtain ⟨a1,b1,_,h1,e1⟩:=zabg h1;obtain ⟨a2,b2,_,h2,e2⟩:=zabg h1;obtain ⟨a3,b3,_,h3,e3⟩:=zabg h2;obtain ⟨a4,b4,_,h4,e4⟩:=zabg h3;obtain ⟨a5,b5,_,h5,e5⟩:=zabg h4;obtain ⟨a6,b6,_,h6,e6⟩:=zabg h5;obtain ⟨a7,b7,s7,h7,e7⟩:=zabg h6;obtain ⟨a8,b8,_,h8,e8⟩:=zabg h7;obtain ⟨a9,b9,s9,h9,e9⟩:=zabg h8;obtain ⟨a10,b10,s10,h10,e10⟩:=zabg h9;have:=szEs l' a7 s7.slc_inv;have:=szSs t a9 s9.slc_inv;have:=szSs o a10 s10.slc_inv;rw[nS,nE];omega
theorem szSs:∀ (l:List TStmt) (N:Nat),SizedL Q4.kk.u (l.map (TV.mk (.st 52))) N→nSs l≤N
 |[],N,h=>by simp[nSs]
 |x::l,N,h=>by
  obtain ⟨a,b,h1,h2,e⟩:=zabg h;have:=szS x a h1;have:=szSs l b h2;rw[nSs];omega
end
theorem szT:∀ (l:List TThread) (N:Nat),SizedL Q4.kk.u (l.map (TV.mk (.st 46))) N→nT l≤N
 |[],N,h=>by simp[nT]
 |⟨m,t⟩::l,N,h=>by
  obtain ⟨a,b,h1,h2,e⟩:=zabg h;have h3:SizedL Q4.kk.u [⟨.str,m⟩,⟨.slc (.st 52),t⟩] a:=h1.st_inv;obtain ⟨a1,b1,_,h3,e1⟩:=zabg h3;obtain ⟨a2,b2,s2,h4,e2⟩:=zabg h3;have:=szSs t a2 s2.slc_inv;have:=szT l b h2;rw[nT];show 1+nSs t+nT l≤N;omega
structure Small (y:TProg):Prop where
 t:nT y.threads≤100000000
 c:y.cells.length≤100000000
 m:y.mutexes.length≤100000000
theorem small (y:TProg) (h:Sized Q4.kk.u ⟨.st 27,y⟩ 1048576):Small y:=by
 obtain ⟨c,m,t⟩:=y;have h1:SizedL Q4.kk.u [⟨.slc (.st 62),c⟩,⟨.slc .str,m⟩,⟨.slc (.st 46),t⟩] 1048576:=h.st_inv;obtain ⟨a1,b1,s1,h1,e1⟩:=zabg h1;obtain ⟨a2,b2,s2,h2,e2⟩:=zabg h1;obtain ⟨a3,b3,s3,h3,e3⟩:=zabg h2;have:=s1.slc_len;have:=s2.slc_len;have:=szT t a3 s3.slc_inv;have q1:c.length≤a1:=s1.slc_len;have q2:m.length≤a2:=s2.slc_len;exact ⟨by show nT t≤_; omega,by show c.length≤_; omega,by show m.length≤_; omega⟩
theorem zaxv {p:TProg} (h:Small p):p.threads.length≤100000000:=Nat.le_trans (zahx p.threads) h.t
end Lift.A4
namespace Lift
open Go Go.RowKit Go.ChangeShapes
theorem int_range {H:Type} {enc:TypeId×Value→H} {P:Program} {W:World} {base:Nat} {T:TypeId} {k:IntKind} {v:Value} {d:DataW H} {ps:List MemPlace} {y:Int} {u:Uni} (hval:Value.okWide P W .any base T v) (ht:P.underlying T=some (.int k)) (hd:DataW.Trod enc P W 0 (fun _=>true) true T v d ps) (t:TRel u (fun j=>W.heap[j]?) ⟨.int k,y⟩ v):(Lit.int k y).wf=true:=by
 obtain ⟨m,rfl,_,_,hw⟩:=open_int ht hval hd;cases t;exact hw
end Lift
namespace Lift.A4
open Go Go.RowKit Lift Go.IntWalk Lift.Fn Lift.A1P Lift.A3
theorem rng_of {y:Int} (h:(Lit.int .i64 y).wf=true):-9223372036854775808≤y∧y≤9223372036854775807:=by
 simp only[Lit.wf,Bool.and_eq_true,decide_eq_true_eq] at h;have h2:y≤9223372036854775807:=by have:=h.2; first|exact this|exact Int.le_of_lt_add_one this
 exact ⟨h.1,h2⟩
theorem showTight1 (p:TProg) (v:Int) (h:Small p) (hv:-9223372036854775808≤v∧v≤9223372036854775807):qaH p v=some true:=zatx p v hv h.t h.c h.m (zaxv h)
end Lift.A4
