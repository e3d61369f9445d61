/-
  DERIVED. The Lean functions answer as the laws say. Conditions: as each theorem says.
-/
import Derived.Test.YtnjaffjkdeelhaaGreatDoorLawA
set_option linter.unusedVariables false
set_option linter.unusedSimpArgs false
set_option linter.unusedSectionVars false
namespace Lift.A9
open Go Go.RowKit Lift Go.IntWalk Lift.Fn Lift.A3
set_option linter.unusedVariables false
set_option linter.unusedSimpArgs false
abbrev Nm:=List UInt8
def plc (l:List Nm) (s:Nm):Int:=match l.findIdx? (·==s) with
 |some i=>(i:Int)
 |none=>-1
def regM (th:Nm→Bool) (rs:List Nm) (s:Nm):(Int×List Nm)⊕(Int×Nm):=
 bif th s then .inr (65,s) else bif decide (plc rs s<0) then (bif decide (8≤rs.length) then .inr (66,s) else .inl (rs.length,rs++[s])) else .inl (plc rs s,rs)
mutual
def exM (th:Nm→Bool):TExpr→List Nm→(TExpr×List Nm)⊕(Int×Nm)
 |⟨k,n,s,l⟩,rs=>bif k==2 then (match regM th rs s with
   |.inr e=>.inr e
   |.inl y=>match exMs th l y.2 with
    |.inr e=>.inr e
    |.inl z=>.inl (⟨k,y.1,[],z.1⟩,z.2))
  else match exMs th l rs with
   |.inr e=>.inr e
   |.inl z=>.inl (⟨k,n,[],z.1⟩,z.2)
def exMs (th:Nm→Bool):List TExpr→List Nm→(List TExpr×List Nm)⊕(Int×Nm)
 |[],rs=>.inl ([],rs)
 |x::l,rs=>match exM th x rs with
  |.inr e=>.inr e
  |.inl y=>match exMs th l y.2 with
   |.inr e=>.inr e
   |.inl z=>.inl (y.1::z.1,z.2)
end
theorem zats {l:List Nm} {s:Nm} (L:Nat→Int→Option (Int⊕Unit))
  (h0:∀ n i,0≤i→¬ i<(l.length:Int)→L (n+1) i=some (.inr ()))
  (h1:∀ n i x,0≤i→i<(l.length:Int)→l[i.toNat]? = some x→L (n+1) i=bif x==s then some (.inl i) else L n (i+1)) :
  ∀ (k n:Nat) (i:Nat),l.length-i≤k→k<n→L n (i:Int)=some (match (l.drop i).findIdx? (·==s) with|some j=>.inl ((i+j:Nat):Int)|none=>.inr ()):=by
 intro k;induction k with
 |zero=>
  intro n i hk hn;obtain ⟨n,rfl⟩:∃ q,n=q+1:=⟨n-1,by omega⟩;rw[h0 n i (by omega) (by omega),List.drop_eq_nil_of_le (by omega)];rfl
 |succ k ih=>
  intro n i hk hn;obtain ⟨n,rfl⟩:∃ q,n=q+1:=⟨n-1,by omega⟩;by_cases c:i<l.length
  ·rw[h1 n i l[i] (by omega) (by omega) (by rw[Int.toNat_natCast]; exact List.getElem?_eq_getElem c),List.drop_eq_getElem_cons c,List.findIdx?_cons];cases hx:l[i]==s with
   |true=>rfl
   |false=>
    have:=ih n (i+1) (by omega) (by omega);rw[cond_false,show (i:Int)+1=((i+1:Nat):Int) by omega,this];simp only[Bool.false_eq_true,if_false];cases (l.drop (i+1)).findIdx? (·==s) with
    |none=>rfl
    |some j=>simp only[Option.map_some]; congr 3; omega
  ·rw[h0 n i (by omega) (by omega),List.drop_eq_nil_of_le (by omega)];rfl
theorem zax3 (l:List Nm) (s:Nm) (h:l.length≤1000000000000):qbA l s=some (plc l s):=by
 rw[qbA,zaaa];unfold qbA_f
 have e := zats (l := l) (s := s) (fun n i => qbA_i2 n l s l.length i)
  (fun n i h0 h=>by simp only[qbA_i2,qbA_t2,decide_eq_false h,cond_false])
  (fun n i x h0 h hx=>by
   simp only[qbA_i2,qbA_t2,decide_eq_true h,decide_eq_true h0,cond_true,hx,Option.bind_some];rw[i64_in (i+1) (by omega)];try (rw[Bool.beq_comm]))
  l.length fuel 0 (by omega) (by unfold fuel; omega)
 rw[qbA_l2,zaaa,show (0:Int)=((0:Nat):Int) from rfl,e];unfold plc;rw[List.drop_zero];cases l.findIdx? (·==s) with
 |none=>rfl
 |some j=>simp
end Lift.A9
namespace Lift.A9
open Go Go.RowKit Lift Go.IntWalk Lift.Fn Lift.A3
set_option linter.unusedVariables false
set_option linter.unusedSimpArgs false
def thB (th:List (Nm×Thing)) (s:Nm):Bool:=Option.isSome (mapAt th s)
theorem reg1 (th:List (Nm×Thing)) (rs:List Nm) (s:Nm) (h:rs.length≤8) :
  qat s th rs=some (match regM (thB th) rs s with|.inl y=>.inl (y.1,th,y.2)|.inr e=>.inr (Refused.mk e.1 e.2)):=by
 rw[qat,zaaa];unfold qat_f regM;show (bif thB th s then _ else _)=_;cases thB th s with
 |true=>rfl
 |false=>
  rw[cond_false,zax3 rs s (by omega)];simp only[Option.bind_some,cond_false];cases decide (plc rs s<0) with
  |false=>rfl
  |true=>
   simp only[cond_true];by_cases h8:8≤rs.length
   ·have e:rs.length=8:=by omega
    rw[e];rfl
   ·have e:((rs.length:Int)==8)=false:=by simp; omega
    rw[e,decide_eq_false h8,cond_false,decide_eq_true (by simp only[List.length_cons,List.length_nil]; omega)];rfl
theorem zaij {th:Nm→Bool} {rs:List Nm} {s:Nm} {y:Int×List Nm} (h:rs.length≤8) (e:regM th rs s=.inl y):y.2.length≤8:=by
 unfold regM at e;cases ht:th s with
 |true=>rw[ht] at e; cases e
 |false=>
  rw[ht,cond_false] at e;cases hd:decide (plc rs s<0) with
  |false=>rw[hd] at e; cases e; exact h
  |true=>
   rw[hd,cond_true] at e;by_cases h8:8≤rs.length
   ·rw[decide_eq_true h8] at e; cases e
   ·rw[decide_eq_false h8] at e;cases e;simp;omega
end Lift.A9
namespace Lift.A9
open Go Go.RowKit Lift Go.IntWalk Lift.Fn Lift.A3
set_option linter.unusedVariables false
set_option linter.unusedSimpArgs false
def exOut (th:List (Nm×Thing)):(TExpr×List Nm)⊕(Int×Nm)→(Int×Int×List UInt8×List (Nm×Thing)×List TExpr×List Nm)⊕Refused
 |.inl y=>.inl (y.1.kind,y.1.num,y.1.name,th,y.1.args,y.2)
 |.inr e=>.inr ⟨e.1,e.2⟩
theorem zaxl (th:Nm→Bool) (x:TExpr) (rs:List Nm):exM th x rs=bif x.kind==2 then (match regM th rs x.name with
   |.inr e=>.inr e
   |.inl y=>match exMs th x.args y.2 with
    |.inr e=>.inr e
    |.inl z=>.inl (⟨x.kind,y.1,[],z.1⟩,z.2))
  else match exMs th x.args rs with
   |.inr e=>.inr e
   |.inl z=>.inl (⟨x.kind,x.num,[],z.1⟩,z.2):=by cases x; rw[exM]; try rfl
def okL (r:(TExpr×List Nm)⊕(Int×Nm)):Prop:=∀ y,r=.inl y→y.2.length≤8
def okLs (r:(List TExpr×List Nm)⊕(Int×Nm)):Prop:=∀ y,r=.inl y→y.2.length≤8
mutual
theorem zagq (th:Nm→Bool):∀ (x:TExpr) (rs:List Nm),rs.length≤8→okL (exM th x rs)
 |⟨k,n,s,l⟩,rs,h=>by
  intro y hy;rw[exM] at hy;cases hk:k==2 with
  |true=>
   rw[hk,cond_true] at hy;cases hr:regM th rs s with
   |inr e=>rw[hr] at hy; cases hy
   |inl r=>
    rw[hr] at hy;have h1:=zaij h hr;have h2:=zang th l r.2 h1;simp only at hy;cases hz:exMs th l r.2 with
    |inr e=>rw[hz] at hy; cases hy
    |inl z=>rw[hz] at hy; cases hy; exact h2 z hz
  |false=>
   rw[hk,cond_false] at hy;have h2:=zang th l rs h;cases hz:exMs th l rs with
   |inr e=>rw[hz] at hy; cases hy
   |inl z=>rw[hz] at hy; cases hy; exact h2 z hz
theorem zang (th:Nm→Bool):∀ (l:List TExpr) (rs:List Nm),rs.length≤8→okLs (exMs th l rs)
 |[],rs,h=>by intro y hy; rw[exMs] at hy; cases hy; exact h
 |x::l,rs,h=>by
  intro y hy;rw[exMs] at hy;have h1:=zagq th x rs h;cases hx:exM th x rs with
  |inr e=>rw[hx] at hy; cases hy
  |inl z=>
   rw[hx] at hy;have h2:=zang th l z.2 (h1 z hx);simp only at hy;cases hz:exMs th l z.2 with
   |inr e=>rw[hz] at hy; cases hy
   |inl q=>rw[hz] at hy; cases hy; exact h2 q hz
end
end Lift.A9
namespace Lift.A9
open Go Go.RowKit Lift Go.IntWalk Lift.Fn Lift.A3
set_option linter.unusedVariables false
set_option linter.unusedSimpArgs false
theorem ex1 (th:List (Nm×Thing)):∀ (k n:Nat) (x:TExpr) (rs:List Nm),nE x≤k→k<n→k≤100000000→rs.length≤8→qaq_i n x th rs=some (exOut th (exM (thB th) x rs)):=by
 intro k;induction k with
 |zero=>intro n x rs h; have:=nE_eq x; omega
 |succ k ih=>
  intro n x rs h hn hb hrs;obtain ⟨n,rfl⟩:∃ q,n=q+1:=⟨n-1,by omega⟩;have hx:=nE_eq x;have hl:=zadd x.args
  have e5:∀ (rs:List Nm) (a4 a5:Int) (a6:List UInt8) (a7 a8:Int) (a9:List UInt8),rs.length≤8→qaq_l5 (qaq_i n) x.args x.args.length 0 th a4 a5 a6 a7 a8 a9 rs [] =
    some (match exMs (thB th) x.args rs with|.inl z=>.inr (th,a4,a5,a6,a7,a8,a9,z.2,z.1)|.inr e=>.inl ⟨e.1,e.2⟩):=by
   intro rs a4 a5 a6 a7 a8 a9 hrs;rw[qaq_l5,zaaa]
   have := zabk (σ := List Nm × List TExpr) x.args (fun r s => s.1.length ≤ 8 ∧ s.2.length + r.length = x.args.length)
    (fun r s=>(match exMs (thB th) r s.1 with|.inl z=>.inr (th,a4,a5,a6,a7,a8,a9,z.2,s.2++z.1)|.inr e=>.inl ⟨e.1,e.2⟩:Refused⊕(List (Nm×Thing)×Int×Int×List UInt8×Int×Int×List UInt8×List Nm×List TExpr)))
    (fun m i s=>qaq_i5 (qaq_i n) m x.args x.args.length i th a4 a5 a6 a7 a8 a9 s.1 s.2)
    (fun m i s h0 h _=>by
     simp only[qaq_i5,qaq_t5,decide_eq_false h,cond_false,exMs,List.append_nil])
    (fun m i s y r h0 h hy hm hI=>by
     have hy1:=zadg hm;obtain ⟨i1,i2⟩:=hI;simp only[List.length_cons] at i2;have hok:=zagq (thB th) y s.1 i1;simp only[qaq_i5,qaq_t5,decide_eq_true h,decide_eq_true h0,cond_true,hy,Option.bind_some,zaa2];rw[ih n y s.1 (by omega) (by omega) (by omega) i1,Option.bind_some];rw[exMs];cases hx:exM (thB th) y s.1 with
     |inr e=>exact Or.inr rfl
     |inl z=>
      refine Or.inl ⟨(z.2,s.2++[z.1]),⟨hok z hx,by simp; omega⟩,?_,?_⟩
      ·simp only[exOut,List.length_cons,List.length_nil];rw[decide_eq_true (by omega),cond_true,i64_in (i+1) (by omega),zaa2]
      ·simp only;cases exMs (thB th) r z.2 with
       |inr e=>rfl
       |inl q=>simp)
    fuel (rs,[]) (by unfold fuel; omega) ⟨hrs,by simp⟩
   simp only[List.nil_append] at this;exact this
  show qaq_f (qaq_i n) x th rs=_;unfold qaq_f;rw[zaxl];cases hk:x.kind==2 with
  |true=>
   simp only[cond_true];rw[reg1 th rs x.name hrs];cases hr:regM (thB th) rs x.name with
   |inr e=>rfl
   |inl r=>
    have h1:=zaij hrs hr;simp only[Option.bind_some];rw[e5 r.2 _ _ _ _ _ _ h1];cases exMs (thB th) x.args r.2<;>rfl
  |false=>
   simp only[cond_false];rw[e5 rs _ _ _ _ _ _ hrs];cases exMs (thB th) x.args rs<;>rfl
theorem exX (th:List (Nm×Thing)) (x:TExpr) (rs:List Nm) (h:nE x≤100000000) (hr:rs.length≤8):qaq x th rs=some (exOut th (exM (thB th) x rs)):=by
 rw[qaq,zaaa,ex1 th (nE x) fuel x rs (Nat.le_refl _) (by unfold fuel; omega) h hr]
end Lift.A9
namespace Lift.A9
open Go Go.RowKit Lift Go.IntWalk Lift.Fn Lift.A3
set_option linter.unusedVariables false
set_option linter.unusedSimpArgs false
def objM (th:List (Nm×Thing)) (k:Int) (nm:Nm):Int⊕(Int×Nm):=
 bif needK k==0 then .inl 0 else bif thB th nm then (bif (Option.getD (mapAt th nm) (Thing.mk 0 0)).kind==needK k then .inl (Option.getD (mapAt th nm) (Thing.mk 0 0)).number else .inr (65,nm)) else .inr (64,nm)
def regO (th:Nm→Bool) (rs:List Nm) (s:Nm):(Int×List Nm)⊕(Int×Nm):=bif s==[] then .inl (0,rs) else regM th rs s
def exO (th:Nm→Bool) (x:TExpr) (rs:List Nm):(TExpr×List Nm)⊕(Int×Nm):=bif x.kind==0 then .inl (⟨0,0,[],[]⟩,rs) else exM th x rs
mutual
def acN (tf:Nm→Bool) (ob:Int→Nm→Int⊕(Int×Nm)):TStmt→List Nm→(TAct×List Nm)⊕(Int×Nm)
 |⟨k,r,nm,x,c,t,o⟩,rs=>match regO tf rs r with
  |.inr e=>.inr e
  |.inl a=>match ob k nm with
   |.inr e=>.inr e
   |.inl b=>match exO tf x a.2 with
    |.inr e=>.inr e
    |.inl y=>match acNs tf ob t y.2 with
     |.inr e=>.inr e
     |.inl z=>match acNs tf ob o z.2 with
      |.inr e=>.inr e
      |.inl q=>.inl (⟨k,a.1,b,y.1,c,z.1,q.1⟩,q.2)
def acNs (tf:Nm→Bool) (ob:Int→Nm→Int⊕(Int×Nm)):List TStmt→List Nm→(List TAct×List Nm)⊕(Int×Nm)
 |[],rs=>.inl ([],rs)
 |x::l,rs=>match acN tf ob x rs with
  |.inr e=>.inr e
  |.inl y=>match acNs tf ob l y.2 with
   |.inr e=>.inr e
   |.inl z=>.inl (y.1::z.1,z.2)
end
theorem zaxf (tf:Nm→Bool) (ob:Int→Nm→Int⊕(Int×Nm)) (x:TStmt) (rs:List Nm):acN tf ob x rs=match regO tf rs x.reg with
  |.inr e=>.inr e
  |.inl a=>match ob x.kind x.name with
   |.inr e=>.inr e
   |.inl b=>match exO tf x.expr a.2 with
    |.inr e=>.inr e
    |.inl y=>match acNs tf ob x.then_ y.2 with
     |.inr e=>.inr e
     |.inl z=>match acNs tf ob x.else_ z.2 with
      |.inr e=>.inr e
      |.inl q=>.inl (⟨x.kind,a.1,b,y.1,x.count,z.1,q.1⟩,q.2):=by cases x; rw[acN]
theorem zava {th:Nm→Bool} {rs:List Nm} {s:Nm} {y:Int×List Nm} (h:rs.length≤8) (e:regO th rs s=.inl y):y.2.length≤8:=by
 unfold regO at e;cases hs:s==[] with
 |true=>rw[hs] at e; cases e; exact h
 |false=>rw[hs] at e; exact zaij h e
theorem zawy {th:Nm→Bool} {rs:List Nm} {x:TExpr} {y:TExpr×List Nm} (h:rs.length≤8) (e:exO th x rs=.inl y):y.2.length≤8:=by
 unfold exO at e;cases hs:x.kind==0 with
 |true=>rw[hs] at e; cases e; exact h
 |false=>rw[hs] at e; exact zagq th x rs h y e
mutual
theorem zarh (tf:Nm→Bool) (ob:Int→Nm→Int⊕(Int×Nm)):∀ (x:TStmt) (rs:List Nm) (y:TAct×List Nm),rs.length≤8→acN tf ob x rs=.inl y→y.2.length≤8
 |⟨k,r,nm,x,c,t,o⟩,rs,y,h,hy=>by
  rw[acN] at hy;cases h1:regO tf rs r with
  |inr e=>rw[h1] at hy; cases hy
  |inl a=>
   rw[h1] at hy;simp only at hy;cases h2:ob k nm with
   |inr e=>rw[h2] at hy; cases hy
   |inl b=>
    rw[h2] at hy;simp only at hy;cases h3:exO tf x a.2 with
    |inr e=>rw[h3] at hy; cases hy
    |inl z=>
     rw[h3] at hy;simp only at hy;have l1:=zawy (zava h h1) h3;cases h4:acNs tf ob t z.2 with
     |inr e=>rw[h4] at hy; cases hy
     |inl p=>
      rw[h4] at hy;simp only at hy;have l2:=zacm tf ob t z.2 p l1 h4;cases h5:acNs tf ob o p.2 with
      |inr e=>rw[h5] at hy; cases hy
      |inl q=>
       rw[h5] at hy;cases hy;exact zacm tf ob o p.2 q l2 h5
theorem zacm (tf:Nm→Bool) (ob:Int→Nm→Int⊕(Int×Nm)):∀ (l:List TStmt) (rs:List Nm) (y:List TAct×List Nm),rs.length≤8→acNs tf ob l rs=.inl y→y.2.length≤8
 |[],rs,y,h,hy=>by rw[acNs] at hy; cases hy; exact h
 |x::l,rs,y,h,hy=>by
  rw[acNs] at hy;cases h1:acN tf ob x rs with
  |inr e=>rw[h1] at hy; cases hy
  |inl a=>
   rw[h1] at hy;simp only at hy;have l1:=zarh tf ob x rs a h h1;cases h2:acNs tf ob l a.2 with
   |inr e=>rw[h2] at hy; cases hy
   |inl b=>rw[h2] at hy; cases hy; exact zacm tf ob l a.2 b l1 h2
end
theorem zao7 (tf:Nm→Bool) (ob:Int→Nm→Int⊕(Int×Nm)) (rs:List Nm):acNs tf ob [] rs=.inl ([],rs):=by rw[acNs]
theorem zaug (tf:Nm→Bool) (ob:Int→Nm→Int⊕(Int×Nm)) (x:TStmt) (l:List TStmt) (rs:List Nm):acNs tf ob (x::l) rs=match acN tf ob x rs with
  |.inr e=>.inr e
  |.inl y=>match acNs tf ob l y.2 with
   |.inr e=>.inr e
   |.inl z=>.inl (y.1::z.1,z.2):=by rw[acNs]
end Lift.A9
namespace Lift.A9
open Go Go.RowKit Lift Go.IntWalk Lift.Fn Lift.A3
set_option linter.unusedVariables false
set_option linter.unusedSimpArgs false
def acOut (th:List (Nm×Thing)):(List TAct×List Nm)⊕(Int×Nm)→((List (Nm×Thing))×(List TAct)×(List Nm))⊕Refused
 |.inl y=>.inl (th,y.1,y.2)
 |.inr e=>.inr ⟨e.1,e.2⟩
theorem zaow (th:List (Nm×Thing)) (k:Int) (nm:Nm):objM th k nm=(bif needK k==0 then .inl 0 else bif thB th nm then (bif (Option.getD (mapAt th nm) (Thing.mk 0 0)).kind==needK k then .inl (Option.getD (mapAt th nm) (Thing.mk 0 0)).number else .inr (65,nm)) else .inr (64,nm)):=rfl
abbrev AcF:=List TStmt→List (Nm×Thing)→List Nm→Option ((List (Nm×Thing)×List TAct×List Nm)⊕Refused)
theorem zax4 (th:List (Nm×Thing)) (R:AcF) (rec:List TStmt→Int→Int→List ((List UInt8)×(Thing))→List (List UInt8)→List TAct→Option ((Refused)⊕((List ((List UInt8)×(Thing)))×(List TAct)×(List (List UInt8)))))
  (a0:List TStmt) (a1 i:Int) (rs:List Nm) (acc:List TAct) (y:TStmt) (h:i<a1) (h0:0≤i) (hy:a0[i.toNat]? = some y) (hE:nE y.expr≤100000000) (ha:acc.length≤100000000) (hi:i≤100000000) (hrs:rs.length≤8)
  (ht:∀ rs,rs.length≤8→R y.then_ th rs=some (acOut th (acNs (thB th) (objM th) y.then_ rs))) (ho:∀ rs,rs.length≤8→R y.else_ th rs=some (acOut th (acNs (thB th) (objM th) y.else_ rs))) :
  qap_t3 R rec a0 a1 i th rs acc=match acN (thB th) (objM th) y rs with
   |.inr e=>some (.inl ⟨e.1,e.2⟩)
   |.inl z=>rec a0 a1 (i+1) th z.2 (acc++[z.1]):=by
 have hsz:∀ st:TAct,decide ((acc.length+[st].length)*136≤140737488355328∧acc.length+[st].length≤9223372036854775807)=true:=by
  intro st;rw[List.length_cons,List.length_nil];exact decide_eq_true (by omega)
 unfold qap_t3;show _=match acN (thB th) (objM th) y rs with|.inr e=>_|.inl z=>_
 rw[zaxf];simp only[decide_eq_true h,decide_eq_true h0,cond_true,hy,Option.bind_some,zaa2,zatf,bne,reg1 th rs y.reg hrs,i64_in (i+1) (by omega)]
 -- what stands behind the name
 unfold regO;cases hr:(y.reg==[]) with
 |true=>
  simp only[Bool.not_true,cond_false,cond_true];rw[zaow];cases hk:(needK y.kind==0) with
  |true=>
   simp only[Bool.not_true,cond_false,cond_true];unfold exO;cases hx:(y.expr.kind==0) with
   |true=>
    simp only[Bool.not_true,cond_false,cond_true];rw[ht rs hrs];cases h4:acNs (thB th) (objM th) y.then_ rs with
    |inr e=>rfl
    |inl p=>
     simp only[acOut,Option.bind_some];rw[ho p.2 (zacm (thB th) (objM th) _ _ p hrs h4)];cases h5:acNs (thB th) (objM th) y.else_ p.2 with
     |inr e=>rfl
     |inl q=>simp only[acOut,Option.bind_some,hsz,cond_true]
   |false=>
    simp only[Bool.not_false,cond_false,cond_true];rw[exX th y.expr rs hE hrs];cases h3:exM (thB th) y.expr rs with
    |inr e=>rfl
    |inl z=>
     have l1:=zagq (thB th) y.expr rs hrs z h3;simp only[exOut,Option.bind_some];rw[ht z.2 l1];cases h4:acNs (thB th) (objM th) y.then_ z.2 with
     |inr e=>rfl
     |inl p=>
      simp only[acOut,Option.bind_some];rw[ho p.2 (zacm (thB th) (objM th) _ _ p l1 h4)];cases h5:acNs (thB th) (objM th) y.else_ p.2 with
      |inr e=>rfl
      |inl q=>simp only[acOut,Option.bind_some,hsz,cond_true,zaa2]
  |false=>
   simp only[Bool.not_false,cond_false,cond_true];have eb:thB th y.name=Option.isSome (mapAt th y.name):=rfl;rw[eb];cases hs:Option.isSome (mapAt th y.name) with
   |false=>rfl
   |true=>
    simp only[Bool.not_true,cond_false,cond_true];cases hq:((Option.getD (mapAt th y.name) (Thing.mk 0 0)).kind==needK y.kind) with
    |false=>rfl
    |true=>
     simp only[Bool.not_true,cond_false,cond_true];unfold exO;cases hx:(y.expr.kind==0) with
     |true=>
      simp only[Bool.not_true,cond_false,cond_true];rw[ht rs hrs];cases h4:acNs (thB th) (objM th) y.then_ rs with
      |inr e=>rfl
      |inl p=>
       simp only[acOut,Option.bind_some];rw[ho p.2 (zacm (thB th) (objM th) _ _ p hrs h4)];cases h5:acNs (thB th) (objM th) y.else_ p.2 with
       |inr e=>rfl
       |inl q=>simp only[acOut,Option.bind_some,hsz,cond_true]
     |false=>
      simp only[Bool.not_false,cond_false,cond_true];rw[exX th y.expr rs hE hrs];cases h3:exM (thB th) y.expr rs with
      |inr e=>rfl
      |inl z=>
       have l1:=zagq (thB th) y.expr rs hrs z h3;simp only[exOut,Option.bind_some];rw[ht z.2 l1];cases h4:acNs (thB th) (objM th) y.then_ z.2 with
       |inr e=>rfl
       |inl p=>
        simp only[acOut,Option.bind_some];rw[ho p.2 (zacm (thB th) (objM th) _ _ p l1 h4)];cases h5:acNs (thB th) (objM th) y.else_ p.2 with
        |inr e=>rfl
        |inl q=>simp only[acOut,Option.bind_some,hsz,cond_true,zaa2]
 |false=>
  simp only[Bool.not_false,cond_false,cond_true];cases hm:regM (thB th) rs y.reg with
  |inr e=>rfl
  |inl a=>
   have l0:=zaij hrs hm;simp only[Option.bind_some];rw[zaow];cases hk:(needK y.kind==0) with
   |true=>
    simp only[Bool.not_true,cond_false,cond_true];unfold exO;cases hx:(y.expr.kind==0) with
    |true=>
     simp only[Bool.not_true,cond_false,cond_true];rw[ht a.2 l0];cases h4:acNs (thB th) (objM th) y.then_ a.2 with
     |inr e=>rfl
     |inl p=>
      simp only[acOut,Option.bind_some];rw[ho p.2 (zacm (thB th) (objM th) _ _ p l0 h4)];cases h5:acNs (thB th) (objM th) y.else_ p.2 with
      |inr e=>rfl
      |inl q=>simp only[acOut,Option.bind_some,hsz,cond_true]
    |false=>
     simp only[Bool.not_false,cond_false,cond_true];rw[exX th y.expr a.2 hE l0];cases h3:exM (thB th) y.expr a.2 with
     |inr e=>rfl
     |inl z=>
      have l1:=zagq (thB th) y.expr a.2 l0 z h3;simp only[exOut,Option.bind_some];rw[ht z.2 l1];cases h4:acNs (thB th) (objM th) y.then_ z.2 with
      |inr e=>rfl
      |inl p=>
       simp only[acOut,Option.bind_some];rw[ho p.2 (zacm (thB th) (objM th) _ _ p l1 h4)];cases h5:acNs (thB th) (objM th) y.else_ p.2 with
       |inr e=>rfl
       |inl q=>simp only[acOut,Option.bind_some,hsz,cond_true,zaa2]
   |false=>
    simp only[Bool.not_false,cond_false,cond_true];have eb:thB th y.name=Option.isSome (mapAt th y.name):=rfl;rw[eb];cases hs:Option.isSome (mapAt th y.name) with
    |false=>rfl
    |true=>
     simp only[Bool.not_true,cond_false,cond_true];cases hq:((Option.getD (mapAt th y.name) (Thing.mk 0 0)).kind==needK y.kind) with
     |false=>rfl
     |true=>
      simp only[Bool.not_true,cond_false,cond_true];unfold exO;cases hx:(y.expr.kind==0) with
      |true=>
       simp only[Bool.not_true,cond_false,cond_true];rw[ht a.2 l0];cases h4:acNs (thB th) (objM th) y.then_ a.2 with
       |inr e=>rfl
       |inl p=>
        simp only[acOut,Option.bind_some];rw[ho p.2 (zacm (thB th) (objM th) _ _ p l0 h4)];cases h5:acNs (thB th) (objM th) y.else_ p.2 with
        |inr e=>rfl
        |inl q=>simp only[acOut,Option.bind_some,hsz,cond_true]
      |false=>
       simp only[Bool.not_false,cond_false,cond_true];rw[exX th y.expr a.2 hE l0];cases h3:exM (thB th) y.expr a.2 with
       |inr e=>rfl
       |inl z=>
        have l1:=zagq (thB th) y.expr a.2 l0 z h3;simp only[exOut,Option.bind_some];rw[ht z.2 l1];cases h4:acNs (thB th) (objM th) y.then_ z.2 with
        |inr e=>rfl
        |inl p=>
         simp only[acOut,Option.bind_some];rw[ho p.2 (zacm (thB th) (objM th) _ _ p l1 h4)];cases h5:acNs (thB th) (objM th) y.else_ p.2 with
         |inr e=>rfl
         |inl q=>simp only[acOut,Option.bind_some,hsz,cond_true,zaa2]
theorem ac1 (th:List (Nm×Thing)):∀ (k n:Nat) (l:List TStmt) (rs:List Nm),nSs l≤k→k<n→k≤100000000→rs.length≤8→qap_i n l th rs=some (acOut th (acNs (thB th) (objM th) l rs)):=by
 intro k;induction k with
 |zero=>
  intro n l rs h hn _ _;obtain ⟨n,rfl⟩:∃ q,n=q+1:=⟨n-1,by omega⟩;have hl:=zaci l;obtain rfl:l=[]:=List.eq_nil_of_length_eq_zero (by omega);show qap_f (qap_i n) [] th rs=_;unfold qap_f;rw[qap_l3,zaaa,zao7];rfl
 |succ k ih=>
  intro n l rs h hn hb hrs;obtain ⟨n,rfl⟩:∃ q,n=q+1:=⟨n-1,by omega⟩;have hl:=zaci l;show qap_f (qap_i n) l th rs=_;unfold qap_f;rw[qap_l3,zaaa]
  have := zabk (σ := List Nm × List TAct) l (fun r s => s.1.length ≤ 8 ∧ s.2.length + r.length = l.length)
   (fun r s=>(match acNs (thB th) (objM th) r s.1 with|.inl z=>.inr (th,s.2++z.1,z.2)|.inr e=>.inl ⟨e.1,e.2⟩:Refused⊕(List (Nm×Thing)×List TAct×List Nm)))
   (fun m i s=>qap_i3 (qap_i n) m l l.length i th s.1 s.2)
   (fun m i s h0 h _=>by
    simp only[qap_i3,qap_t3,decide_eq_false h,cond_false,zao7,List.append_nil])
   (fun m i s y r h0 h hy hm hI=>by
    have hy1:=zaff hm;have hy2:=nS_eq y;obtain ⟨i1,i2⟩:=hI;simp only[List.length_cons] at i2
    have st := zax4 th (qap_i n) (qap_i3 (qap_i n) m) l l.length i s.1 s.2 y h h0 hy (by omega) (by omega) (by omega) i1
     (fun rs hrs=>ih n y.then_ rs (by omega) (by omega) (by omega) hrs) (fun rs hrs=>ih n y.else_ rs (by omega) (by omega) (by omega) hrs)
    have e1:qap_i3 (qap_i n) (m+1) l l.length i th s.1 s.2=qap_t3 (qap_i n) (qap_i3 (qap_i n) m) l l.length i th s.1 s.2:=rfl;rw[e1,st,zaug];cases hz:acN (thB th) (objM th) y s.1 with
    |inr e=>exact Or.inr rfl
    |inl z=>
     refine Or.inl ⟨(z.2,s.2++[z.1]),⟨zarh (thB th) (objM th) y s.1 z i1 hz,by simp; omega⟩,rfl,?_⟩;simp only;cases acNs (thB th) (objM th) r z.2 with
     |inr e=>rfl
     |inl q=>simp)
   fuel (rs,[]) (by unfold fuel; omega) ⟨hrs,by simp⟩
  simp only[List.nil_append] at this;rw[this];cases acNs (thB th) (objM th) l rs<;>rfl
theorem acX (th:List (Nm×Thing)) (l:List TStmt) (h:nSs l≤100000000):qap l th []=some (acOut th (acNs (thB th) (objM th) l [])):=by
 rw[qap,zaaa,ac1 th (nSs l) fuel l [] (Nat.le_refl _) (by unfold fuel; omega) h (by simp)]
end Lift.A9
namespace Lift.A9
open Go Go.RowKit Lift Go.IntWalk Lift.Fn Lift.A3
set_option linter.unusedVariables false
set_option linter.unusedSimpArgs false
theorem zar6 {α σ ρ:Type} (l:List α) (I:Nat→List α→σ→Prop) (P:Nat→List α→σ→ρ) (L:Nat→Int→σ→Option ρ)
  (h0:∀ n i s,¬ i<l.length→I i [] s→L (n+1) (i:Int) s=some (P i [] s))
  (h1:∀ n i s x r,i<l.length→l[i]? = some x→x∈l→I i (x::r) s→(∃ s',I (i+1) r s'∧L (n+1) (i:Int) s=L n ((i+1:Nat):Int) s'∧P i (x::r) s=P (i+1) r s')∨L (n+1) (i:Int) s=some (P i (x::r) s)) :
  ∀ (k n:Nat) (i:Nat) (s:σ),l.length-i≤k→k<n→I i (l.drop i) s→L n (i:Int) s=some (P i (l.drop i) s):=by
 intro k;induction k with
 |zero=>
  intro n i s hk hn hI;obtain ⟨n,rfl⟩:∃ q,n=q+1:=⟨n-1,by omega⟩;rw[List.drop_eq_nil_of_le (by omega)] at hI ⊢;exact h0 n i s (by omega) hI
 |succ k ih=>
  intro n i s hk hn hI;obtain ⟨n,rfl⟩:∃ q,n=q+1:=⟨n-1,by omega⟩;by_cases c:i<l.length
  ·rw[List.drop_eq_getElem_cons c] at hI ⊢;rcases h1 n i s l[i] _ c (List.getElem?_eq_getElem c) (List.getElem_mem c) hI with ⟨s',i1,e1,e2⟩|e
   ·rw[e1,ih n (i+1) s' (by omega) (by omega) i1,e2]
   ·exact e
  ·rw[List.drop_eq_nil_of_le (by omega)] at hI ⊢;exact h0 n i s c hI
def addM (c:Int):Nat→List Nm→List (Nm×Thing)→List (Nm×Thing)⊕Nm
 |_,[],th=>.inl th
 |k,s::l,th=>bif thB th s then .inr s else addM c (k+1) l (zaay s ⟨c,k⟩ th)
def addLs:Nat→List (List Nm)→List (Nm×Thing)→List (Nm×Thing)⊕Nm
 |_,[],th=>.inl th
 |k,l::r,th=>match addM (1+k) 0 l th with
  |.inr s=>.inr s
  |.inl t=>addLs (k+1) r t
theorem zaw5 (c:Nat) (a1 a2:Int) (l:List Nm) (th:List (Nm×Thing)) (x:List (List Nm)) (rs:List Nm) (hc:c≤100) (h:l.length≤100000000) :
  qar_l11 c a1 a2 l l.length 0 th x rs=some (match addM (1+c) 0 l th with|.inl t=>.inr (a1,a2,t,x,rs)|.inr s=>.inl ⟨63,s⟩):=by
 rw[qar_l11,zaaa]
 have := zar6 l (fun _ _ _ => True) (fun i r t => (match addM (1 + c) i r t with | .inl t => .inr (a1, a2, t, x, rs) | .inr s => .inl ⟨63, s⟩ : Refused ⊕ (Int × Int × List (Nm × Thing) × List (List Nm) × List Nm)))
  (fun m i t=>qar_i11 m c a1 a2 l l.length i t x rs)
  (fun m i t h _=>by
   have h':¬ ((i:Int)<(l.length:Int)):=by omega
   simp only[qar_i11,qar_t11,decide_eq_false h',cond_false,addM])
  (fun m i t y r h hy hm _=>by
   have h':((i:Int)<(l.length:Int)):=by omega
   simp only[qar_i11,qar_t11,decide_eq_true h',cond_true,decide_eq_true (Int.natCast_nonneg i),Int.toNat_natCast,hy,Option.bind_some,addM,thB];cases hs:Option.isSome (mapAt t y) with
   |true=>exact Or.inr rfl
   |false=>
    refine Or.inl ⟨zaay y ⟨1+c,i⟩ t,trivial,?_,rfl⟩;rw[cond_false,i64_in ((i:Int)+1) (by omega),i64_in ((1:Int)+c) (by omega)];rfl)
  l.length fuel 0 th (by omega) (by unfold fuel; omega) trivial
 rw[List.drop_zero] at this;exact this
theorem zavc (ls:List (List Nm)) (th:List (Nm×Thing)) (rs:List Nm) (h:ls.length≤100) (hl:∀ l∈ls,l.length≤100000000) :
  qar_l8 ls.length 0 th ls rs=some (match addLs 0 ls th with|.inl t=>.inr (t,rs)|.inr s=>.inl ⟨63,s⟩):=by
 rw[qar_l8,zaaa]
 have := zar6 ls (fun _ _ _ => True) (fun i r t => (match addLs i r t with | .inl t => .inr (t, rs) | .inr s => .inl ⟨63, s⟩ : Refused ⊕ (List (Nm × Thing) × List Nm)))
  (fun m i t=>qar_i8 m ls.length i t ls rs)
  (fun m i t h _=>by
   have h':¬ ((i:Int)<(ls.length:Int)):=by omega
   simp only[qar_i8,qar_t8,decide_eq_false h',cond_false,addLs])
  (fun m i t y r h hy hm _=>by
   have h':((i:Int)<(ls.length:Int)):=by omega
   simp only[qar_i8,qar_t8,decide_eq_true h',cond_true,decide_eq_true (Int.natCast_nonneg i),Int.toNat_natCast,hy,Option.bind_some,addLs,Bool.true_and];rw[zaw5 i _ _ y t ls rs (by omega) (hl y hm)];cases hs:addM (1+(i:Int)) 0 y t with
   |inr s=>exact Or.inr rfl
   |inl t'=>
    refine Or.inl ⟨t',trivial,?_,rfl⟩;simp only[Option.bind_some];rw[i64_in ((i:Int)+1) (by omega)];rfl)
  ls.length fuel 0 th (by omega) (by unfold fuel; omega) trivial
 rw[List.drop_zero] at this;exact this
def zaeq (l:List Nm):Bool:=decide (8<l.length)
def zams (n:Names):List (Nm×Thing)⊕(Int×Nm):=
 bif n.threads.length==0 then .inr (60,[]) else bif zaeq n.threads then .inr (60,(n.threads[8]?).getD []) else bif zaeq n.cells then .inr (61,(n.cells[8]?).getD [])
 else bif zaeq n.mutexes then .inr (62,(n.mutexes[8]?).getD []) else match addLs 0 [n.cells,n.mutexes,n.threads] [] with|.inl t=>.inl t|.inr s=>.inr (63,s)
theorem many1 (l:List Nm) (e:Int):qas l 8 e=some (bif zaeq l then .inr ⟨e,(l[8]?).getD []⟩ else .inl ()):=by
 rw[qas,zaaa];unfold qas_f zaeq;by_cases h:8<l.length
 ·rw[decide_eq_true (by omega:(l.length:Int)>8),decide_eq_true h];simp only[cond_true,Int.reduceToNat];rw[List.getElem?_eq_getElem h];rfl
 ·rw[decide_eq_false (by omega:¬ (l.length:Int)>8),decide_eq_false h];rfl
theorem zax5 (n:Names) (hc:n.cells.length≤100000000) (hm:n.mutexes.length≤100000000) (ht:n.threads.length≤100000000) :
  qar n [] []=some (match zams n with|.inl th=>.inl (th,[])|.inr e=>.inr ⟨e.1,e.2⟩):=by
 rw[qar,zaaa];unfold qar_f zams;have e0:((n.threads.length:Int)==0)=(n.threads.length==0):=by
  rw[Bool.eq_iff_iff]; simp only[beq_iff_eq]; omega
 rw[e0];cases n.threads.length==0 with
 |true=>rfl
 |false=>
  simp only[cond_false,many1,Option.bind_some];cases zaeq n.threads with
  |true=>rfl
  |false=>
  cases zaeq n.cells with
  |true=>rfl
  |false=>
  cases zaeq n.mutexes with
  |true=>rfl
  |false=>
   simp only[cond_false];have:=zavc [n.cells,n.mutexes,n.threads] [] [] (by simp) (by simp; omega);rw[this];cases addLs 0 [n.cells,n.mutexes,n.threads] []<;>rfl
def thrM (th:List (Nm×Thing)):List TThread→List (List TAct×List Nm)⊕(Int×Nm)
 |[]=>.inl []
 |t::l=>match acNs (thB th) (objM th) t.body [] with
  |.inr e=>.inr e
  |.inl y=>match thrM th l with
   |.inr e=>.inr e
   |.inl z=>.inl (y::z)
def thrW (th:List (Nm×Thing)):List TThread→List TBody×List (List Nm)→((Int×Nm)×List TBody×List (List Nm))⊕(List TBody×List (List Nm))
 |[],s=>.inr s
 |t::l,s=>match acNs (thB th) (objM th) t.body [] with
  |.inr e=>.inl (e,s)
  |.inl y=>thrW th l (s.1++[⟨y.2.length,y.1⟩],s.2++[y.2])
theorem zari (th : List (Nm × Thing)) : ∀ (l : List TThread) (s : List TBody × List (List Nm)), (∀ z, thrM th l = .inl z → thrW th l s = .inr (s.1 ++ z.map (fun y => ⟨y.2.length, y.1⟩), s.2 ++ z.map (·.2))) ∧ (∀ e, thrM th l = .inr e → ∃ q, thrW th l s = .inl (e, q))
 |[],s=>⟨fun z h=>by rw[thrM] at h; cases h; rw[thrW]; simp,fun e h=>by rw[thrM] at h; cases h⟩
 |t::l,s=>by
  rw[thrM,thrW];cases acNs (thB th) (objM th) t.body [] with
  |inr e=>exact ⟨fun z h=>(by cases h),fun e' h=>(by cases h; exact ⟨s,rfl⟩)⟩
  |inl y=>
   obtain ⟨h1,h2⟩:=zari th l (s.1++[⟨y.2.length,y.1⟩],s.2++[y.2]);cases hz:thrM th l with
   |inr e=>exact ⟨fun z h=>(by cases h),fun e' h=>(by cases h; exact h2 e hz)⟩
   |inl z=>exact ⟨fun z' h=>(by cases h; simp only; rw[h1 z hz]; simp),fun e' h=>(by cases h)⟩
def zah8 (p:TProg):Names:=⟨p.cells.map (·.name),p.mutexes,p.threads.map (·.name),[]⟩
def unit0:TUnit:=⟨[],0,[]⟩
def zat7:Names:=⟨[],[],[],[]⟩
def zamp (p:TProg):(TUnit×Names)⊕(Int×Nm):=match zams (zah8 p) with
 |.inr e=>.inr e
 |.inl th=>match thrM th p.threads with
  |.inr e=>.inr e
  |.inl z=>.inl (⟨p.cells.map (·.init),p.mutexes.length,z.map fun y=>⟨y.2.length,y.1⟩⟩,⟨p.cells.map (·.name),p.mutexes,p.threads.map (·.name),z.map (·.2)⟩)
def outC:(TUnit×Names)⊕(Int×Nm)→TUnit×Names×Int×Nm
 |.inl y=>(y.1,y.2,0,[])
 |.inr e=>(unit0,zat7,e.1,e.2)
noncomputable def zal2 (p:TProg):TUnit×Names×Int×Nm:=bif zabw p != 0 then (unit0,zat7,zabw p,[]) else outC (zamp p)
theorem zauj (p:TProg) (h:nT p.threads≤100000000) (h1:p.cells.length≤100000000) (h2:p.mutexes.length≤100000000):qam p=some (zal2 p):=by
 rw[qam,zaaa];unfold qam_f zal2;have hl:=zad5 p.threads;rw[zadz,zaj4 p h h1 h2,Option.bind_some];cases zabw p != 0 with
 |true=>rfl
 |false=>
  simp only[cond_false]
  have e6 := zabk (σ := List Int × List Nm) p.cells (fun r s => s.1.length + r.length = p.cells.length ∧ s.2.length + r.length = p.cells.length) (fun r s => (p.cells, p.mutexes, p.threads, (0 : Int), (0 : Int), ([] : List UInt8), s.1 ++ r.map (·.init), s.2 ++ r.map (·.name)))
   (fun m i s=>qam_i6 m p.cells p.cells.length i p.cells p.mutexes p.threads 0 0 [] s.1 s.2)
   (fun m i s h0 h _=>by simp only[qam_i6,qam_t6,decide_eq_false h,cond_false,List.map_nil,List.append_nil])
   (fun m i s y r h0 h hy hm hI=>by
    simp only[List.length_cons] at hI;refine Or.inl ⟨(s.1++[y.init],s.2++[y.name]),by simp; omega,?_,by simp⟩;simp only[qam_i6,qam_t6,decide_eq_true h,decide_eq_true h0,cond_true,hy,Option.bind_some,List.length_cons,List.length_nil];rw[decide_eq_true (by omega),cond_true,decide_eq_true (by omega),cond_true,i64_in (i+1) (by omega)])
   fuel ([],[]) (by unfold fuel; omega) (by simp)
  simp only[List.nil_append] at e6;rw[qam_l6,zaaa,e6];simp only[Option.bind_some];rw[zarq p.mutexes h2];simp only[Option.bind_some];rw[zapj];simp only[Option.bind_some]
  have e14 := zabk (σ := List Nm) p.threads (fun r s => s.length + r.length = p.threads.length) (fun r s => (p.cells, p.mutexes, p.threads, (p.mutexes.length : Int), (0 : Int), ([] : List UInt8), p.cells.map (·.init), p.cells.map (·.name), p.mutexes, s ++ r.map (·.name)))
   (fun m i s=>qam_i14 m p.threads p.threads.length i p.cells p.mutexes p.threads p.mutexes.length 0 [] (p.cells.map (·.init)) (p.cells.map (·.name)) p.mutexes s)
   (fun m i s h0 h _=>by simp only[qam_i14,qam_t14,decide_eq_false h,cond_false,List.map_nil,List.append_nil])
   (fun m i s y r h0 h hy hm hI=>by
    simp only[List.length_cons] at hI;refine Or.inl ⟨s++[y.name],by simp; omega,?_,by simp⟩;simp only[qam_i14,qam_t14,decide_eq_true h,decide_eq_true h0,cond_true,hy,Option.bind_some,List.length_cons,List.length_nil];rw[decide_eq_true (by omega),cond_true,i64_in (i+1) (by omega)])
   fuel [] (by unfold fuel; omega) (by simp)
  simp only[List.nil_append] at e14;rw[qam_l14,zaaa,e14];simp only[Option.bind_some];have eh:=zax5 (zah8 p) (by simp[zah8]; omega) h2 (by simp[zah8]; omega);unfold zah8 at eh;rw[eh];unfold zamp zah8;cases zams ⟨p.cells.map (·.name),p.mutexes,p.threads.map (·.name),[]⟩ with
  |inr e=>rfl
  |inl th=>
   simp only[Option.bind_some]
   have e21 := zabk (σ := List TBody × List (List Nm)) p.threads (fun r s => s.1.length + r.length = p.threads.length ∧ s.2.length + r.length = p.threads.length)
    (fun r s => (match thrW th r s with | .inl e => .inl (⟨e.1.1, e.1.2⟩, (p.mutexes.length : Int), p.cells.map (·.name), p.mutexes, p.threads.map (·.name), (0 : Int), ([] : List UInt8), p.cells.map (·.init), e.2.1, e.2.2) | .inr z => .inr ((p.mutexes.length : Int), p.cells.map (·.name), p.mutexes, p.threads.map (·.name), (0 : Int), ([] : List UInt8), p.cells.map (·.init), z.1, z.2) :
     (Refused×Int×List Nm×List Nm×List Nm×Int×List UInt8×List Int×List TBody×List (List Nm))⊕(Int×List Nm×List Nm×List Nm×Int×List UInt8×List Int×List TBody×List (List Nm))))
    (fun m i s=>qam_i21 m p.threads p.threads.length i p.mutexes.length (p.cells.map (·.name)) p.mutexes (p.threads.map (·.name)) 0 [] th (p.cells.map (·.init)) s.1 s.2)
    (fun m i s h0 h _=>by simp only[qam_i21,qam_t21,decide_eq_false h,cond_false,thrW])
    (fun m i s y r h0 h hy hm hI=>by
     simp only[List.length_cons] at hI;have hb:=zae4 hm;simp only[qam_i21,qam_t21,decide_eq_true h,decide_eq_true h0,cond_true,hy,Option.bind_some,thrW];rw[acX th y.body (by omega)];cases ha:acNs (thB th) (objM th) y.body [] with
     |inr e=>exact Or.inr rfl
     |inl a=>
      refine Or.inl ⟨(s.1++[⟨a.2.length,a.1⟩],s.2++[a.2]),by simp; omega,?_,rfl⟩;simp only[acOut,Option.bind_some,List.length_cons,List.length_nil,zapj];rw[decide_eq_true (by omega),cond_true,decide_eq_true (by omega),cond_true,i64_in (i+1) (by omega)])
    fuel ([],[]) (by unfold fuel; omega) (by simp)
   rw[qam_l21,zaaa,e21];obtain ⟨h1,h2⟩:=zari th p.threads ([],[]);cases hz:thrM th p.threads with
   |inr e=>
    obtain ⟨q,hq⟩:=h2 e hz;rw[hq];rfl
   |inl z=>
    rw[h1 z hz];rfl
end Lift.A9
namespace Lift.A9
open Go Go.RowKit Lift Go.IntWalk Lift.Fn Lift.A3
set_option linter.unusedVariables false
set_option linter.unusedSimpArgs false
def ent (c:Int):Nat→List Nm→List (Nm×Thing)
 |_,[]=>[]
 |k,s::l=>(s,⟨c,k⟩)::ent c (k+1) l
end Lift.A9
namespace Lift.A9
open Go Go.RowKit Lift Go.IntWalk Lift.Fn Lift.A3
set_option linter.unusedVariables false
set_option linter.unusedSimpArgs false
theorem nm_a:isNm [97]=true:=(nm_of [97] [97] ⟨1,[97],0,0⟩ (by decide) (by decide +kernel) (by decide +kernel) (by decide +kernel)).trans (by decide)
theorem nm_b:isNm [98]=true:=(nm_of [98] [98] ⟨1,[98],0,0⟩ (by decide) (by decide +kernel) (by decide +kernel) (by decide +kernel)).trans (by decide)
theorem nm_c:isNm [99]=true:=(nm_of [99] [99] ⟨1,[99],0,0⟩ (by decide) (by decide +kernel) (by decide +kernel) (by decide +kernel)).trans (by decide)
def noX:TExpr:=⟨0,0,[],[]⟩
def s1 (a x:Nm):TStmt:=⟨2,a,x,noX,0,[],[]⟩
def s2 (a b c:Nm):TStmt:=⟨1,b,[],⟨5,0,[],[⟨2,0,a,[]⟩,⟨2,0,c,[]⟩]⟩,0,[],[]⟩
def pS (x t a b c:Nm):TProg:=⟨[⟨x,3⟩],[],[⟨t,[s1 a x,s2 a b c]⟩]⟩
def pT:TProg:=⟨[⟨[116],0⟩],[],[⟨[116],[]⟩]⟩
theorem rS {x t a b c:Nm} (hx:isNm x=true) (ht:isNm t=true) (ha:isNm a=true) (hb:isNm b=true) (hc:isNm c=true):zabw (pS x t a b c)=0:=by
 have e1:sF (s1 a x)=true:=by
  have h2:shp 2=⟨true,true,false,false,false,false⟩:=by decide
  have hi:inR 2=true:=by decide
  simp[sF,s1,noX,sOk,h2,hi,isOpt,hx,ha,zaan,none_,sFs]
 have e2:sF (s2 a b c)=true:=by
  have h1:shp 1=⟨true,false,true,false,false,false⟩:=by decide
  have hi:inR 1=true:=by decide
  simp[sF,s2,sOk,h1,hi,isOpt,ha,hb,hc,zaan,eF,eFs,xOk,sFs]
 have ok:pOk (pS x t a b c)=true:=by
  simp[pOk,pS,cOk,hx,ht,sFs,e1,e2]
 unfold zabw;rw[ok];have h1:maxEv (evP (pS x t a b c)) 0=2:=by simp[evP,pS,s1,s2,noX,evSs,evS,zaan,evE,evEs,maxEv,evD]; rfl
 have h2:cT (pS x t a b c).threads=5:=by simp[pS,s1,s2,noX,cT,cSs,cS,zaan,nE,nEs]
 rw[h1,h2];rfl
theorem rT:zabw pT=0:=by
 have ok:pOk pT=true:=by simp[pOk,pT,cOk,nm_t,sFs]
 unfold zabw;rw[ok];have h1:maxEv (evP pT) 0=0:=by simp[evP,pT,evSs,maxEv]
 have h2:cT pT.threads=0:=by simp[pT,cT,cSs]
 rw[h1,h2];rfl
def uS:TUnit:=⟨[3],0,[⟨3,[⟨2,0,0,noX,0,[],[]⟩,⟨1,1,0,⟨5,0,[],[⟨2,0,[],[]⟩,⟨2,2,[],[]⟩]⟩,0,[],[]⟩]⟩]⟩
def nS0:Names:=⟨[[120]],[],[[116]],[[[97],[98],[99]]]⟩
theorem chS:zamp (pS [120] [116] [97] [98] [99])=.inl (uS,nS0):=by kernel_rfl
theorem cT0:zamp pT=.inr (63,[116]):=by kernel_rfl
theorem rUS:zacj uS=true:=by
 unfold zacj;have:zaav uS (nmsU uS)=pS [120] [120] [120] [120] [120]:=by kernel_rfl
 rw[this,rS nm_x nm_x nm_x nm_x nm_x];rfl
theorem zaxw:qaH=some true:=by
 rw[qaH,zaaa];unfold qaH_f;have e1:=zauj (pS [120] [116] [97] [98] [99]) (by decide) (by decide) (by decide);have e2:=zauj pT (by decide) (by decide) (by decide);have e3:=zamc uS (by decide) (by decide);rw[zal2,rS nm_x nm_t nm_a nm_b nm_c,chS] at e1;rw[zal2,rT,cT0] at e2;rw[rUS] at e3;show Option.bind (qam (pS [120] [116] [97] [98] [99])) _=_;rw[e1,Option.bind_some];show Option.bind (qam pT) _=_;rw[e2,Option.bind_some];show Option.bind (qan uS) _=_;rw[e3];rfl
end Lift.A9
namespace Lift.A9
open Go Go.RowKit Lift Go.IntWalk Lift.Fn Lift.A3
set_option linter.unusedVariables false
set_option linter.unusedSimpArgs false
structure St where
 e:Int
 nm:Nm
 rs:List Nm
structure Nok (n:Names):Prop where
 c:n.cells.length≤100000000
 m:n.mutexes.length≤100000000
 t:n.threads.length≤100000000
end Lift.A9
namespace Lift.A9
open Go Go.RowKit Lift Go.IntWalk Lift.Fn Lift.A3
set_option linter.unusedVariables false
set_option linter.unusedSimpArgs false
end Lift.A9
namespace Lift.A9
open Go Go.RowKit Lift Go.IntWalk Lift.Fn Lift.A3
set_option linter.unusedVariables false
set_option linter.unusedSimpArgs false
end Lift.A9
namespace Lift.A9
open Go Go.RowKit Lift Go.IntWalk Lift.Fn Lift.A3
set_option linter.unusedVariables false
set_option linter.unusedSimpArgs false
end Lift.A9
namespace Lift.A9
open Go Go.RowKit Lift Go.IntWalk Lift.Fn Lift.A3
set_option linter.unusedVariables false
set_option linter.unusedSimpArgs false
end Lift.A9
namespace Lift.A9
open Go Go.RowKit Lift Go.IntWalk Lift.Fn Lift.A3
set_option linter.unusedVariables false
set_option linter.unusedSimpArgs false
structure SC where
 e:Int
 nm:Nm
 R:List (List Nm)
 B:List TBody
end Lift.A9
namespace Lift.A9
open Go Go.RowKit Lift Go.IntWalk Lift.Fn Lift.A3
set_option linter.unusedVariables false
set_option linter.unusedSimpArgs false
end Lift.A9
namespace Lift.A9
open Go Go.RowKit Lift Go.IntWalk Lift.Fn Lift.A3
set_option linter.unusedVariables false
set_option linter.unusedSimpArgs false
end Lift.A9
namespace Lift.A9
open Go Go.RowKit Lift Go.IntWalk Lift.Fn Lift.A3
set_option linter.unusedVariables false
set_option linter.unusedSimpArgs false
end Lift.A9
namespace Lift.A9
open Go Go.RowKit Lift Go.IntWalk Lift.Fn Lift.A3
set_option linter.unusedVariables false
set_option linter.unusedSimpArgs false
end Lift.A9
namespace Lift.A9
open Go Go.RowKit Lift Go.IntWalk Lift.Fn Lift.A3
set_option linter.unusedVariables false
set_option linter.unusedSimpArgs false
theorem evE_eq (x:TExpr) (d:Int):evE x d=.e x d::evEs x.args (d+1):=by cases x; rw[evE]
theorem evS_eq (y:TStmt) (d:Int):evS y d=.s y d::((if zaan y.expr then evE y.expr 1 else [])++(evSs y.then_ (d+1)++evSs y.else_ (d+1))):=by cases y; rw[evS]
def sh (l:List Ev):Prop:=∀ e∈l,evD e≤16
theorem zap0:∀ (l:List Ev) (s:Int),maxEv l s≤16→sh l
 |[],_,_=>fun e h=>by cases h
 |e::l,s,h=>by
  have h1:maxEv l (max s (evD e))≤16:=h;have h2:=zagx l (max s (evD e));intro x hx;cases hx with
  |head=>omega
  |tail _ hx=>exact zap0 l _ h1 x hx
end Lift.A9
namespace Lift.A9
open Go Go.RowKit Lift Go.IntWalk Lift.Fn Lift.A3
set_option linter.unusedVariables false
set_option linter.unusedSimpArgs false
theorem zald (u:TUnit) (h:zacj u=true):u.cells.length≤8∧0≤u.mutexes∧u.mutexes≤8∧u.threads.length≤8 ∧
  ∀ t∈u.threads,0≤t.regs∧t.regs≤8∧sFs (nSts (nmU u t.regs) t.acts)=true∧sh (evSs (nSts (nmU u t.regs) t.acts) 1):=by
 unfold zacj at h;cases hu:zaej u with
 |true=>rw[hu] at h; cases h
 |false=>
  rw[hu,cond_false] at h;unfold zaej at hu;simp only[Bool.or_eq_false_iff,decide_eq_false_iff_not] at hu;obtain ⟨⟨⟨⟨u1,u2⟩,u3⟩,u4⟩,u5⟩:=hu;cases ha:u.threads.all (fun t=>!zabz t) with
  |false=>rw[ha] at h; cases h
  |true=>
   rw[ha,cond_true] at h;have h:=eq_of_beq h;unfold zabw at h;cases hp:pOk (zaav u (nmsU u)) with
   |false=>rw[hp] at h; simp at h
   |true=>
    rw[hp,Bool.not_true,cond_false] at h;by_cases hm:maxEv (evP (zaav u (nmsU u))) 0>16
    ·rw[decide_eq_true hm,cond_true] at h; cases h
    ·have hsh:=zap0 _ _ (by omega:maxEv (evP (zaav u (nmsU u))) 0≤16);refine ⟨by omega,by omega,by omega,by omega,fun t ht=>?_⟩;have hb:=List.all_eq_true.1 ha t ht;rw[Bool.not_eq_true'] at hb;unfold zabz at hb;simp only[Bool.or_eq_false_iff,decide_eq_false_iff_not] at hb
     -- its thread in the program
     have hx:∀ n,(xs n).length=n:=by intro n; simp[xs]
     obtain ⟨i,hi,rfl⟩:=List.mem_iff_getElem.1 ht;have hmem:∃ nm,TThread.mk nm (nSts (nmU u u.threads[i].regs) u.threads[i].acts)∈(zaav u (nmsU u)).threads:=by
      refine ⟨[120],?_⟩;show _∈(u.threads.zip ((xs u.threads.length).zip (u.threads.map fun t=>xs t.regs.toNat))).map fun z=>TThread.mk z.2.1 (nSts ⟨xs u.cells.length,xs u.mutexes.toNat,xs u.threads.length,z.2.2⟩ z.1.acts)
      rw[List.mem_map];refine ⟨(u.threads[i],([120],xs u.threads[i].regs.toNat)),?_,rfl⟩;apply List.mem_of_getElem? (i:=i);rw[List.getElem?_zip_eq_some];refine ⟨by simp[hi],?_⟩;rw[List.getElem?_zip_eq_some];exact ⟨zauv _ _ hi,by simp[hi]⟩
     obtain ⟨nm,hmem⟩:=hmem;refine ⟨by omega,by omega,?_,?_⟩
     ·unfold pOk at hp;simp only[Bool.and_eq_true,List.all_eq_true] at hp;exact (hp.2.2 _ hmem).2
     ·intro e he;refine hsh e ?_;unfold evP;rw[List.mem_flatMap];exact ⟨_,hmem,he⟩
end Lift.A9
namespace Lift.A9
open Go Go.RowKit Lift Go.IntWalk Lift.Fn Lift.A3
set_option linter.unusedVariables false
set_option linter.unusedSimpArgs false
theorem zajf {l:List Nm} {i:Int} (h0:0≤i) (h:i<(l.length:Int)):l[i.toNat]? = some (atL l i):=by
 have h4:i.toNat<l.length:=by omega
 unfold atL;rw[decide_eq_true h0,decide_eq_true h,List.getElem?_eq_getElem h4];rfl
def nmB (n:Names) (regs:List Nm):Namer:=⟨n.cells,n.mutexes,n.threads,regs⟩
theorem exprB (u:TUnit) (n:Names) (regs:List Nm):∀ (k f:Nat) (x:TExpr),nE x≤k→k<f→k≤100000000→eF (nX (nmU u regs.length) x)=true→qbo_i f x regs=some (un4 (nX (nmB n regs) x)):=by
 intro k;induction k with
 |zero=>intro f x h; have:=nE_eq x; omega
 |succ k ih=>
  intro f x h hf hb hx;obtain ⟨f,rfl⟩:∃ q,f=q+1:=⟨f-1,by omega⟩;have hn:=nE_eq x;have hl:=zadd x.args;rw[eF_eq,zatd,zaj8,List.all_map,Bool.and_eq_true] at hx;obtain ⟨h1,h2⟩:=hx;rw[List.all_eq_true] at h2
  have e6:∀ (a2 a3:Int) (a4:List UInt8) (a6 a7:Int) (a8:List UInt8) (a9 a10:Int) (a11:List UInt8),qbo_l6 (qbo_i f) regs 0 a2 a3 a4 x.args a6 a7 a8 a9 a10 a11 [] =
    some (a6,a7,a8,a9,a10,a11,x.args.map (nX (nmB n regs))):=by
   intro a2 a3 a4 a6 a7 a8 a9 a10 a11;rw[qbo_l6,zaaa]
   exact zac2 x.args (nX (nmB n regs)) (fun s => (a6, a7, a8, a9, a10, a11, s)) (fun m i s => qbo_i6 (qbo_i f) m regs i a2 a3 a4 x.args a6 a7 a8 a9 a10 a11 s)
    (fun m i s h0 h=>by
     simp only[qbo_i6,qbo_t6,decide_eq_false h,cond_false])
    (fun m i s y h0 h hy hm hs=>by
     have hy1:=zadg hm;simp only[qbo_i6,qbo_t6,decide_eq_true h,decide_eq_true h0,cond_true,hy,Option.bind_some];rw[ih f y (by omega) (by omega) (by omega) (h2 y hm),Option.bind_some,i64_in (i+1) (by omega)];simp only[List.length_cons,List.length_nil,zafw];rw[decide_eq_true (by omega),cond_true])
    fuel (by unfold fuel; omega)
  show qbo_f (qbo_i f) x regs=_;unfold qbo_f;rw[nX_eq];cases hk2:x.kind==2 with
  |true=>
   have hk1:(x.kind==1)=false:=by have:=eq_of_beq hk2; rw[this]; rfl
   rw[hk1,hk2,cond_false,cond_true] at h1;simp only[Bool.and_eq_true,decide_eq_true_eq] at h1;obtain ⟨⟨⟨g1,g2⟩,g3⟩,g4⟩:=h1;simp only[cond_true];rw[decide_eq_true (by omega:(0:Int)≤x.num),cond_true,zajf (by omega) g2,Option.bind_some,e6,g3];rfl
  |false=>
   rw[hk2,cond_false] at h1;have g3:x.name=[]:=by
    revert h1;unfold xOk;rw[hk2];simp only[cond_false];cases x.kind==1 with
    |true=>
     simp only[cond_true,Bool.and_eq_true];intro h1;exact eq_of_beq h1.1.2
    |false=>
     simp only[cond_false];cases (x.kind==3||x.kind==4) with
     |true=>simp only[cond_true,Bool.and_eq_true]; intro h1; exact eq_of_beq h1.2
     |false=>simp only[cond_false,Bool.and_eq_true]; intro h1; exact eq_of_beq h1.2
   simp only[cond_false];rw[e6,g3];rfl
theorem zaxh (u:TUnit) (n:Names) (regs:List Nm) (x:TExpr) (h:nE x≤100000000) (hx:eF (nX (nmU u regs.length) x)=true):qbo x regs=some (un4 (nX (nmB n regs) x)):=by
 rw[qbo,zaaa,exprB u n regs (nE x) fuel x (Nat.le_refl _) (by unfold fuel; omega) h hx]
theorem zaw6 (u:TUnit) (r:Int) (x:TAct) (h:sOk (nSt (nmU u r) x)=true) :
  inR x.kind=true∧stK x=x.kind∧(hasR x.kind=true→0≤x.reg∧x.reg<r)∧(needK x.kind≠0→0≤x.obj∧x.obj<thN u x.kind)∧((shp x.kind).expr=true→x.expr.kind≠0)∧((shp x.kind).expr=false→none_ x.expr=true):=by
 rw[zafz] at h;unfold sOk at h;simp only[Bool.and_eq_true] at h;obtain ⟨⟨⟨⟨⟨⟨h1,h2⟩,h3⟩,h4⟩,_⟩,_⟩,_⟩:=h;have hk:stK x=x.kind∧((!hasR x.kind&&x.reg != 0)||(needK x.kind==0&&x.obj != 0))=false:=by
  unfold stK at h1 ⊢;cases hc:((!hasR x.kind&&x.reg != 0)||(needK x.kind==0&&x.obj != 0)) with
  |true=>rw[hc,cond_true] at h1; exact absurd h1 (by decide)
  |false=>exact ⟨rfl,rfl⟩
 obtain ⟨hk,hc⟩:=hk;rw[Bool.or_eq_false_iff] at hc;rw[hk] at h1 h2 h3 h4;rw[zaud u r x hc.1 h1,zam5 h1] at h2;rw[zath u r x hc.2 h1,zala h1] at h3;refine ⟨h1,hk,?_,?_,?_,?_⟩
 ·intro hr;rw[hr] at h2;simp only[Bool.true_and,Bool.not_true,Bool.false_and,Bool.or_false,Bool.not_eq_true',Bool.or_eq_false_iff,decide_eq_false_iff_not] at h2;omega
 ·intro hn;have:(needK x.kind != 0)=true:=by simpa [bne] using hn
  rw[this] at h3;simp only[Bool.true_and,Bool.not_true,Bool.false_and,Bool.or_false,Bool.not_eq_true',Bool.or_eq_false_iff,decide_eq_false_iff_not] at h3;omega
 ·intro he;rw[he,zafa] at h4;simp only[Bool.true_and,Bool.not_true,Bool.false_and,Bool.or_false,bne,Bool.not_eq_true',beq_eq_false_iff_ne] at h4;exact h4
 ·intro he;rw[he,zani] at h4;simpa using h4
structure Fit (u:TUnit) (n:Names):Prop where
 c:n.cells.length=u.cells.length
 m:(n.mutexes.length:Int)=u.mutexes
 t:n.threads.length=u.threads.length
theorem zau8 (n:Namer) {x:TExpr} (h:none_ x=true):nX n x=⟨0,0,[],[]⟩:=by
 obtain ⟨k,m,s,l⟩:=x;unfold none_ at h;simp only[Bool.and_eq_true,beq_iff_eq] at h;obtain ⟨⟨⟨rfl,rfl⟩,rfl⟩,h4⟩:=h;have:l=[]:=List.eq_nil_of_length_eq_zero (by omega);subst this;rw[nX_eq];rfl
end Lift.A9
namespace Lift.A9
open Go Go.RowKit Lift Go.IntWalk Lift.Fn Lift.A3
set_option linter.unusedVariables false
set_option linter.unusedSimpArgs false
abbrev BkF:=List TAct→List (List UInt8)→Names→Option (List TStmt)
set_option maxHeartbeats 4000000 in
theorem zavg (u:TUnit) (n:Names) (hf:Fit u n) (regs:List Nm) (R:BkF) (rec) (l:List TAct) (i:Int) (acc:List TStmt) (y:TAct) (h:i<(l.length:Int)) (h0:0≤i) (hy:l[i.toNat]? = some y) (hi:i≤100000000) (ha:acc.length≤100000000) (hE:nE y.expr≤100000000)
  (hs:sF (nSt (nmU u regs.length) y)=true) (ht:R y.then_ regs n=some (nSts (nmB n regs) y.then_)) (ho:R y.else_ regs n=some (nSts (nmB n regs) y.else_)) :
  qbn_t3 R rec l regs i n.cells n.mutexes n.threads n.regs acc=rec l regs (i+1) n.cells n.mutexes n.threads n.regs (acc++[nSt (nmB n regs) y]):=by
 have hsz:∀ st:TStmt,decide ((acc.length+[st].length)*152≤140737488355328∧acc.length+[st].length≤9223372036854775807)=true:=by
  intro st;rw[List.length_cons,List.length_nil];exact decide_eq_true (by omega)
 rw[sF_eq] at hs;simp only[Bool.and_eq_true] at hs;obtain ⟨h1,h2,_⟩:=hs;obtain ⟨hk,hst,hreg,hobj,hex,hno⟩:=zaw6 u regs.length y h1;have hX:(shp y.kind).expr=true→qbo y.expr regs=some (un4 (nX (nmB n regs) y.expr)):=by
  intro he;have h3:=hex he;have:zaan (nX (nmU u regs.length) y.expr)=true:=by
   rw[zain,zaan];have:(y.expr.kind != 0)=true:=by simpa [bne] using h3
   rw[this];rfl
  have h2':eF (nX (nmU u regs.length) y.expr)=true:=by
   have h2:(if zaan (nX (nmU u regs.length) y.expr)=true then eF (nX (nmU u regs.length) y.expr) else true)=true:=by
    rw[zafz] at h2;exact h2
   rw[if_pos this] at h2;exact h2
  exact zaxh u n regs y.expr hE h2'
 have hN:(shp y.kind).expr=false→nX (nmB n regs) y.expr=⟨0,0,[],[]⟩:=fun he=>zau8 _ (hno he)
 have hm:Names.mk n.cells n.mutexes n.threads n.regs=n:=rfl;have gR:hasR y.kind=true→(decide (0≤y.reg)=true)∧regs[y.reg.toNat]? = some (atL regs y.reg):=fun q=>⟨decide_eq_true (hreg q).1,zajf (hreg q).1 (hreg q).2⟩
 have gC:needK y.kind=1→(decide (0≤y.obj)=true)∧n.cells[y.obj.toNat]? = some (atL n.cells y.obj):=by
  intro q;have:=hobj (by rw[q]; decide);refine ⟨decide_eq_true this.1,zajf this.1 ?_⟩;have t:=this.2;unfold thN at t;unfold needK at q;rw[hf.c];revert q t;cases (y.kind==2||y.kind==3||y.kind==4) with
  |true=>intro _ t; exact t
  |false=>cases (y.kind==5||y.kind==6)<;>cases (y.kind==7||y.kind==8)<;>(intro q; exact absurd q (by decide))
 have gM:needK y.kind=2→(decide (0≤y.obj)=true)∧n.mutexes[y.obj.toNat]? = some (atL n.mutexes y.obj):=by
  intro q;have:=hobj (by rw[q]; decide);refine ⟨decide_eq_true this.1,zajf this.1 ?_⟩;have t:=this.2;unfold thN at t;unfold needK at q;rw[hf.m];revert q t;cases (y.kind==2||y.kind==3||y.kind==4) with
  |true=>intro q; simp only[cond_true] at q; exact absurd q (by decide)
  |false=>
   cases (y.kind==5||y.kind==6) with
   |true=>intro _ t; exact t
   |false=>cases (y.kind==7||y.kind==8)<;>(intro q; exact absurd q (by decide))
 have gT:needK y.kind=3→(decide (0≤y.obj)=true)∧n.threads[y.obj.toNat]? = some (atL n.threads y.obj):=by
  intro q;have:=hobj (by rw[q]; decide);refine ⟨decide_eq_true this.1,zajf this.1 ?_⟩;have t:=this.2;unfold thN at t;unfold needK at q;rw[hf.t];revert q t;cases (y.kind==2||y.kind==3||y.kind==4) with
  |true=>intro q; simp only[cond_true] at q; exact absurd q (by decide)
  |false=>
   cases (y.kind==5||y.kind==6) with
   |true=>intro q; simp only[cond_true] at q; exact absurd q (by decide)
   |false=>intro _ t; exact t
 unfold qbn_t3;rw[zafz,hst,stR,stN,nmB];simp only[decide_eq_true h,decide_eq_true h0,cond_true,hy,Option.bind_some,zaa2,zanf _ hk,i64_in (i+1) (by omega),hm,ht,ho,hsz];obtain ⟨k,rg,ob,x,c,th,el⟩:=y;simp only at hk hX hN gR gC gM gT ⊢;rcases zaji hk with rfl|rfl|rfl|rfl|rfl|rfl|rfl|rfl|rfl|rfl|rfl
 ·have hsh:shp 1=⟨true,false,true,false,false,false⟩:=by decide
  have:=gR (by decide);have e1:=hX (by rw[hsh]);have q1:hasR 1=true:=by decide
  have q2:needK 1=0:=by decide
  simp only[sFld,hsh,cond_true,cond_false,this.1,this.2,Option.bind_some,e1,zafw,q1,q2];rfl
 ·have hsh:shp 2=⟨true,true,false,false,false,false⟩:=by decide
  have:=gR (by decide);have w:=gC (by decide);have e1:=hN (by rw[hsh]);have q1:hasR 2=true:=by decide
  have q2:needK 2=1:=by decide
  have b2:((2:Int)==2)=true:=by decide
  unfold nmB at e1;simp only[sFld,hsh,cond_true,cond_false,this.1,this.2,w.1,w.2,Option.bind_some,e1,q1,q2,b2];rfl
 ·have hsh:shp 3=⟨false,true,true,false,false,false⟩:=by decide
  have w:=gC (by decide);have e1:=hX (by rw[hsh]);have q1:hasR 3=false:=by decide
  have q2:needK 3=1:=by decide
  have b2:((3:Int)==2)=false:=by decide
  have b3:((3:Int)==3)=true:=by decide
  have b5:((3:Int)==5)=false:=by decide
  simp only[sFld,hsh,cond_true,cond_false,w.1,w.2,Option.bind_some,e1,zafw,q1,q2,b2,b3,b5];rfl
 ·have hsh:shp 4=⟨true,true,true,false,false,false⟩:=by decide
  have:=gR (by decide);have w:=gC (by decide);have e1:=hX (by rw[hsh]);have q1:hasR 4=true:=by decide
  have q2:needK 4=1:=by decide
  have b2:((4:Int)==2)=false:=by decide
  have b3:((4:Int)==3)=false:=by decide
  have b4:((4:Int)==4)=true:=by decide
  have b5:((4:Int)==5)=false:=by decide
  have b6:((4:Int)==6)=false:=by decide
  simp only[sFld,hsh,cond_true,cond_false,this.1,this.2,w.1,w.2,Option.bind_some,e1,zafw,q1,q2,b2,b3,b4,b5,b6];rfl
 ·have hsh:shp 5=⟨false,true,false,false,false,false⟩:=by decide
  have w:=gM (by decide);have e1:=hN (by rw[hsh]);have q1:hasR 5=false:=by decide
  have q2:needK 5=2:=by decide
  have b2:((5:Int)==2)=false:=by decide
  have b3:((5:Int)==3)=false:=by decide
  have b4:((5:Int)==4)=false:=by decide
  have b5:((5:Int)==5)=true:=by decide
  unfold nmB at e1;simp only[sFld,hsh,cond_true,cond_false,w.1,w.2,Option.bind_some,e1,q1,q2,b2,b3,b4,b5];rfl
 ·have hsh:shp 6=⟨false,true,false,false,false,false⟩:=by decide
  have w:=gM (by decide);have e1:=hN (by rw[hsh]);have q1:hasR 6=false:=by decide
  have q2:needK 6=2:=by decide
  have b2:((6:Int)==2)=false:=by decide
  have b3:((6:Int)==3)=false:=by decide
  have b4:((6:Int)==4)=false:=by decide
  have b5:((6:Int)==5)=false:=by decide
  have b6:((6:Int)==6)=true:=by decide
  unfold nmB at e1;simp only[sFld,hsh,cond_true,cond_false,w.1,w.2,Option.bind_some,e1,q1,q2,b2,b3,b4,b5,b6];rfl
 ·have hsh:shp 7=⟨false,true,false,false,false,false⟩:=by decide
  have w:=gT (by decide);have e1:=hN (by rw[hsh]);have q1:hasR 7=false:=by decide
  have q2:needK 7=3:=by decide
  have b2:((7:Int)==2)=false:=by decide
  have b3:((7:Int)==3)=false:=by decide
  have b4:((7:Int)==4)=false:=by decide
  have b5:((7:Int)==5)=false:=by decide
  have b6:((7:Int)==6)=false:=by decide
  unfold nmB at e1;simp only[sFld,hsh,cond_true,cond_false,w.1,w.2,Option.bind_some,e1,q1,q2,b2,b3,b4,b5,b6];rfl
 ·have hsh:shp 8=⟨false,true,false,false,false,false⟩:=by decide
  have w:=gT (by decide);have e1:=hN (by rw[hsh]);have q1:hasR 8=false:=by decide
  have q2:needK 8=3:=by decide
  have b2:((8:Int)==2)=false:=by decide
  have b3:((8:Int)==3)=false:=by decide
  have b4:((8:Int)==4)=false:=by decide
  have b5:((8:Int)==5)=false:=by decide
  have b6:((8:Int)==6)=false:=by decide
  unfold nmB at e1;simp only[sFld,hsh,cond_true,cond_false,w.1,w.2,Option.bind_some,e1,q1,q2,b2,b3,b4,b5,b6];rfl
 ·have hsh:shp 9=⟨false,false,true,false,false,false⟩:=by decide
  have e1:=hX (by rw[hsh]);have q1:hasR 9=false:=by decide
  have q2:needK 9=0:=by decide
  simp only[sFld,hsh,cond_true,cond_false,Option.bind_some,e1,zafw,q1,q2];rfl
 ·have hsh:shp 10=⟨false,false,true,false,true,true⟩:=by decide
  have e1:=hX (by rw[hsh]);have q1:hasR 10=false:=by decide
  have q2:needK 10=0:=by decide
  simp only[sFld,hsh,cond_true,cond_false,Option.bind_some,e1,zafw,q1,q2];rfl
 ·have hsh:shp 11=⟨false,false,false,true,true,false⟩:=by decide
  have e1:=hN (by rw[hsh]);have q1:hasR 11=false:=by decide
  have q2:needK 11=0:=by decide
  unfold nmB at e1;simp only[sFld,hsh,cond_true,cond_false,Option.bind_some,e1,q1,q2];rfl
end Lift.A9
namespace Lift.A9
open Go Go.RowKit Lift Go.IntWalk Lift.Fn Lift.A3
set_option linter.unusedVariables false
set_option linter.unusedSimpArgs false
theorem backs (u:TUnit) (n:Names) (hf:Fit u n) (regs:List Nm):∀ (k f:Nat) (l:List TAct),nAs l≤k→k<f→k≤100000000→sFs (nSts (nmU u regs.length) l)=true→qbn_i f l regs n=some (nSts (nmB n regs) l):=by
 intro k;induction k with
 |zero=>
  intro f l h hk _ _;obtain ⟨f,rfl⟩:∃ q,f=q+1:=⟨f-1,by omega⟩;have hl:=zadv l;obtain rfl:l=[]:=List.eq_nil_of_length_eq_zero (by omega);show qbn_f (qbn_i f) [] regs n=_;unfold qbn_f;rw[qbn_l3,zaaa,nSts];rfl
 |succ k ih=>
  intro f l h hk hb hs;obtain ⟨f,rfl⟩:∃ q,f=q+1:=⟨f-1,by omega⟩;have hl:=zadv l;rw[zaj5,zafd,List.all_map,List.all_eq_true] at hs;show qbn_f (qbn_i f) l regs n=_;unfold qbn_f;rw[qbn_l3,zaaa,zafd]
  rw [zac2 l (nSt (nmB n regs)) (fun s => s) (fun m i s => qbn_i3 (qbn_i f) m l regs i n.cells n.mutexes n.threads n.regs s)
   (fun m i s h0 h=>by
    simp only[qbn_i3,qbn_t3,decide_eq_false h,cond_false])
   (fun m i s y h0 h hy hm hs2=>by
    have hy1:=zah3 hm;have hy2:=nA_eq y;have hsy:sF (nSt (nmU u regs.length) y)=true:=hs y hm;have hq:=hsy;rw[sF_eq,zafz] at hq;simp only[Bool.and_eq_true] at hq
    exact zavg u n hf regs (qbn_i f) (qbn_i3 (qbn_i f) m) l i s y h h0 hy (by omega) (by omega) (by omega) hsy
     (ih f y.then_ (by omega) (by omega) (by omega) hq.2.2.1) (ih f y.else_ (by omega) (by omega) (by omega) hq.2.2.2))
   fuel (by unfold fuel; omega)]
  rfl
theorem backX (u:TUnit) (n:Names) (hf:Fit u n) (regs:List Nm) (l:List TAct) (h:nAs l≤100000000) (hs:sFs (nSts (nmU u regs.length) l)=true):qbn l regs n=some (nSts (nmB n regs) l):=by
 rw[qbn,zaaa,backs u n hf regs (nAs l) fuel l (Nat.le_refl _) (by unfold fuel; omega) h hs]
def unfit (u:TUnit) (n:Names):Bool:=((((n.cells.length:Int) != u.cells.length)||((n.mutexes.length:Int) != u.mutexes))||((n.threads.length:Int) != u.threads.length))||((n.regs.length:Int) != u.threads.length)
theorem zao1 {u:TUnit} {n:Names} (h:unfit u n=false):Fit u n∧n.regs.length=u.threads.length:=by
 unfold unfit at h;simp only[Bool.or_eq_false_iff,bne,Bool.not_eq_false',beq_iff_eq] at h;obtain ⟨⟨⟨a,b⟩,c⟩,d⟩:=h;exact ⟨⟨by omega,b,by omega⟩,by omega⟩
def zacz (z:TBody×List Nm):Bool:=(z.2.length:Int)==z.1.regs
noncomputable def backV (u:TUnit) (n:Names):Int×List TCell×List Nm×List TThread:=
 bif !zacj u||unfit u n then (1,[],[],[]) else bif (u.threads.zip n.regs).all zacz then (bif zabw (zaav u n) != 0 then (zabw (zaav u n),[],[],[]) else (0,(zaav u n).cells,(zaav u n).mutexes,(zaav u n).threads)) else (1,[],[],[])
theorem zao2 (u:TUnit) (n:Names) (R:Bool) {T:Type} (a b:Option T) :
    (Option.bind (α:=Bool) (bif !R then some true else some ((n.cells.length:Int) != (u.cells.length:Int))) fun y1=>
     Option.bind (α:=Bool) (bif y1 then some true else some ((n.mutexes.length:Int) != u.mutexes)) fun y2=>
     Option.bind (α:=Bool) (bif y2 then some true else some ((n.threads.length:Int) != (u.threads.length:Int))) fun y3=>
     Option.bind (α:=Bool) (bif y3 then some true else some ((n.regs.length:Int) != (u.threads.length:Int))) fun y4=>
     bif y4 then a else b)=bif !R||unfit u n then a else b:=by
  unfold unfit;simp only[zaaw,Option.bind_some,cor];simp only[Bool.or_assoc]
theorem zass (u:TUnit) (n:Names) (h:nB u.threads≤100000000) (hc:u.cells.length≤100000000):qal u n=some (backV u n):=by
 rw[qal,zaaa];unfold qal_f backV;have hl:=zah4 u.threads;rw[show TUnit.mk u.cells u.mutexes u.threads=u from rfl,zamc u h hc,Option.bind_some,zao2];cases hbad:(!zacj u||unfit u n) with
 |true=>rfl
 |false=>
  rw[Bool.or_eq_false_iff] at hbad;have hR:zacj u=true:=by simpa using hbad.1
  obtain ⟨r1,r2,r3,r4,r5⟩:=zald u hR;obtain ⟨hfit,hrl⟩:=zao1 hbad.2;simp only[cond_false];have hz:(u.threads.zip n.regs).length=u.threads.length:=by simp[hrl]
  have e4 := zabk (σ := Unit) (u.threads.zip n.regs) (fun _ _ => True) (fun r _ => (bif r.all zacz then .inr (u.cells, u.mutexes, u.threads, n.cells, n.mutexes, n.threads, n.regs) else .inl 1 : Int ⊕ (List Int × Int × List TBody × List Nm × List Nm × List Nm × List (List Nm))))
   (fun m i _=>qal_i4 m u.threads u.threads.length i u.cells u.mutexes u.threads n.cells n.mutexes n.threads n.regs)
   (fun m i s h0 h _=>by
    rw[hz] at h;simp only[qal_i4,qal_t4,decide_eq_false h,cond_false];rfl)
   (fun m i s z r h0 h hy hm hI=>by
    rw[hz] at h;obtain ⟨g1,g2⟩:=zae7 hy;simp only[qal_i4,qal_t4,decide_eq_true h,decide_eq_true h0,cond_true,g1,g2,Option.bind_some,List.all_cons,zacz,bne];cases ((z.2.length:Int)==z.1.regs) with
    |false=>exact Or.inr rfl
    |true=>
     refine Or.inl ⟨(),trivial,?_,rfl⟩;rw[Bool.not_true,cond_false,i64_in (i+1) (by omega)])
   fuel () (by rw[hz]; unfold fuel; omega) trivial
  rw[qal_l4,zaaa,e4];cases (u.threads.zip n.regs).all zacz with
  |false=>rfl
  |true=>
   simp only[cond_true,Option.bind_some];rw[show TUnit.mk u.cells u.mutexes u.threads=u from rfl,show Names.mk n.cells n.mutexes n.threads n.regs=n from rfl,zapp u n h hc (by have:=hfit.m; omega) hfit.c hfit.t hrl];simp only[Option.bind_some,zadz];have hnT:=zaj9 u n hfit.t hrl;have hcl:(zaav u n).cells.length≤100000000:=by
    show ((u.cells.zip n.cells).map _).length≤_;simp;omega
   rw[zaj4 (zaav u n) (by rw[hnT]; exact h) hcl (by show n.mutexes.length≤_; have:=hfit.m; omega),Option.bind_some];cases zabw (zaav u n) != 0<;>rfl
theorem zau7 (u:TUnit) (n:Names) (h:nB u.threads≤100000000) (hc:u.cells.length≤100000000):qbi u n=some (backV u n):=by
 rw[qbi,zaaa];unfold qbi_f backV;have hl:=zah4 u.threads;rw[show TUnit.mk u.cells u.mutexes u.threads=u from rfl,zatb u h hc,Option.bind_some,zao2];cases hbad:(!zacj u||unfit u n) with
 |true=>rfl
 |false=>
  rw[Bool.or_eq_false_iff] at hbad;have hR:zacj u=true:=by simpa using hbad.1
  obtain ⟨r1,r2,r3,r4,r5⟩:=zald u hR;obtain ⟨hfit,hrl⟩:=zao1 hbad.2;simp only[cond_false];have hz:(u.cells.zip n.cells).length=u.cells.length:=by simp[hfit.c]
  have hz2:(u.threads.zip (n.threads.zip n.regs)).length=u.threads.length:=by simp[hfit.t,hrl]
  have e6 := zac2 (u.cells.zip n.cells) (fun z => TCell.mk z.2 z.1) (fun s => (u.cells, u.mutexes, u.threads, n.cells, n.mutexes, n.threads, n.regs, s)) (fun m i s => qbi_i6 m i u.cells u.mutexes u.threads n.cells n.mutexes n.threads n.regs s)
   (fun m i s h0 h=>by
    rw[hz] at h;simp only[qbi_i6,qbi_t6,decide_eq_false h,cond_false])
   (fun m i s z h0 h hy hmz hs=>by
    rw[hz] at h hs;obtain ⟨g1,g2⟩:=zae7 hy;simp only[qbi_i6,qbi_t6,decide_eq_true h,decide_eq_true h0,cond_true,g1,g2,Option.bind_some,List.length_cons,List.length_nil];rw[decide_eq_true (by omega),cond_true,i64_in (i+1) (by omega)])
   fuel (by rw[hz]; unfold fuel; omega)
  rw[qbi_l6,zaaa,e6];simp only[Option.bind_some];have hm:=hfit.m;rw[decide_eq_true (by omega),cond_true];have hall:∀ r:List (TBody×(Nm×List Nm)),r.all (fun z=>zacz (z.1,z.2.2))=(r.map fun z=>(z.1,z.2.2)).all zacz:=by
   intro r; rw[List.all_map]; rfl
  have e11 := zabk (σ := List TThread) (u.threads.zip (n.threads.zip n.regs)) (fun r s => s.length + r.length = u.threads.length)
   (fun r s=>(bif r.all (fun z=>zacz (z.1,z.2.2)) then .inr ((zaav u n).cells,n.mutexes,s++r.map fun z=>⟨z.2.1,nSts ⟨n.cells,n.mutexes,n.threads,z.2.2⟩ z.1.acts⟩) else .inl 1:Int⊕(List TCell×List Nm×List TThread)))
   (fun m i s=>qbi_i11 m i u.cells u.mutexes u.threads n.cells n.mutexes n.threads n.regs (zaav u n).cells n.mutexes s)
   (fun m i s h0 h _=>by
    rw[hz2] at h;simp only[qbi_i11,qbi_t11,decide_eq_false h,cond_false,List.map_nil,List.append_nil];rfl)
   (fun m i s z r h0 h hy hmz hI=>by
    rw[hz2] at h;simp only[List.length_cons] at hI;obtain ⟨g1,g2⟩:=zae7 hy;obtain ⟨g3,g4⟩:=zae7 g2;have hmem:=List.mem_of_getElem? g1;have hb:=zamw hmem;obtain ⟨t1,t2,t3,_⟩:=r5 z.1 hmem;simp only[qbi_i11,qbi_t11,decide_eq_true h,decide_eq_true h0,cond_true,g1,g3,g4,Option.bind_some,List.all_cons,zacz,bne];cases hrf:((z.2.2.length:Int)==z.1.regs) with
    |false=>exact Or.inr rfl
    |true=>
     have hrf:=eq_of_beq hrf;refine Or.inl ⟨s++[⟨z.2.1,nSts ⟨n.cells,n.mutexes,n.threads,z.2.2⟩ z.1.acts⟩],by simp; omega,?_,by simp⟩;simp only[Bool.not_true,cond_false];rw[show Names.mk n.cells n.mutexes n.threads n.regs=n from rfl,backX u n hfit z.2.2 z.1.acts (by omega) (by rw[hrf]; exact t3)];simp only[Option.bind_some,List.length_cons,List.length_nil];rw[decide_eq_true (by omega),cond_true,i64_in (i+1) (by omega)];rfl)
   fuel [] (by rw[hz2]; unfold fuel; omega) (by rw[hz2]; simp)
  have hzz:(u.threads.zip (n.threads.zip n.regs)).map (fun z=>(z.1,z.2.2))=u.threads.zip n.regs:=by
   have key:∀ (a:List TBody) (b:List Nm) (c:List (List Nm)),b.length=a.length→c.length=a.length→(a.zip (b.zip c)).map (fun z=>(z.1,z.2.2))=a.zip c:=by
    intro a;induction a with
    |nil=>intro b c _ _; rfl
    |cons x a ih=>
     intro b c hb hc;cases b with
     |nil=>cases hb
     |cons y b=>
      cases c with
      |nil=>cases hc
      |cons w c=>simp only[List.zip_cons_cons,List.map_cons]; rw[ih b c (by simpa using hb) (by simpa using hc)]
   exact key _ _ _ hfit.t hrl
  rw[hall,hzz] at e11;simp only[List.nil_append] at e11;have e11':qbi_i11 fuel 0 u.cells u.mutexes u.threads n.cells n.mutexes n.threads n.regs ((u.cells.zip n.cells).map fun z=>TCell.mk z.2 z.1) n.mutexes []=some (bif (u.threads.zip n.regs).all zacz then .inr ((zaav u n).cells,(zaav u n).mutexes,(zaav u n).threads) else .inl 1):=e11;rw[qbi_l11,zaaa,e11'];cases (u.threads.zip n.regs).all zacz with
  |false=>rfl
  |true=>
   simp only[cond_true,Option.bind_some,zadz];have hnT:=zaj9 u n hfit.t hrl;have hcl:(zaav u n).cells.length≤100000000:=by
    show ((u.cells.zip n.cells).map _).length≤_;simp;omega
   rw[zavz (zaav u n) (by rw[hnT]; exact h) hcl (by show n.mutexes.length≤_; have:=hfit.m; omega),Option.bind_some];cases zabw (zaav u n) != 0<;>rfl
theorem zawx (u:TUnit) (n:Names) (h:nB u.threads≤100000000) (hc:u.cells.length≤100000000):nT (backV u n).2.2.2≤100000000∧(backV u n).2.1.length≤100000000∧(backV u n).2.2.1.length≤100000000:=by
 unfold backV;cases hbad:(!zacj u||unfit u n) with
 |true=>simp[nT]
 |false=>
  rw[Bool.or_eq_false_iff] at hbad;have hR:zacj u=true:=by simpa using hbad.1
  obtain ⟨r1,r2,r3,r4,r5⟩:=zald u hR;obtain ⟨hfit,hrl⟩:=zao1 hbad.2;rw[cond_false];cases (u.threads.zip n.regs).all zacz with
  |false=>simp[nT]
  |true=>
   rw[cond_true];cases zabw (zaav u n) != 0 with
   |true=>simp[nT]
   |false=>
    have hnT:=zaj9 u n hfit.t hrl;refine ⟨by show nT (zaav u n).threads≤_; rw[hnT]; exact h,?_,by show n.mutexes.length≤_; have:=hfit.m; omega⟩;show ((u.cells.zip n.cells).map _).length≤_;simp;omega
theorem zam6 (u:TUnit) (n:Names) (h:nB u.threads≤100000000) (hc:u.cells.length≤100000000):qaG u n=some true:=by
 rw[qaG,zaaa];unfold qaG_f;obtain ⟨q1,q2,q3⟩:=zawx u n h hc;rw[zaxw,show TUnit.mk u.cells u.mutexes u.threads=u from rfl,show Names.mk n.cells n.mutexes n.threads n.regs=n from rfl,zau7 u n h hc,zass u n h hc];simp only[Option.bind_some];rw[zav9 ⟨(backV u n).2.1,(backV u n).2.2.1,(backV u n).2.2.2⟩ _ q1 q2 q3,zawp];simp
end Lift.A9
namespace Lift.A9
open Go Go.RowKit Lift Go.IntWalk Lift.Fn Lift.A3
set_option linter.unusedVariables false
set_option linter.unusedSimpArgs false
structure XB (u:TUnit) (n:Names) (x:TExpr) (rs:List Nm) (y:TExpr×List Nm):Prop where
 p:rs <+: y.2
 k:y.1.kind=x.kind
 b:∀ RS,y.2 <+: RS→nX (nmB n RS) y.1=x
 r:∀ R:Int,(y.2.length:Int)≤R→eF (nX (nmU u R) y.1)=true
end Lift.A9
namespace Lift.A9
open Go Go.RowKit Lift Go.IntWalk Lift.Fn Lift.A3
set_option linter.unusedVariables false
set_option linter.unusedSimpArgs false
structure SB (u:TUnit) (n:Names) (x:TStmt) (rs:List Nm) (y:TAct×List Nm):Prop where
 p:rs <+: y.2
 b:∀ RS,y.2 <+: RS→nSt (nmB n RS) y.1=x
 r:∀ R:Int,(y.2.length:Int)≤R→sF (nSt (nmU u R) y.1)=true
structure LB (u:TUnit) (n:Names) (l:List TStmt) (rs:List Nm) (y:List TAct×List Nm):Prop where
 p:rs <+: y.2
 k:y.1.length=l.length
 b:∀ RS,y.2 <+: RS→nSts (nmB n RS) y.1=l
 r:∀ R:Int,(y.2.length:Int)≤R→sFs (nSts (nmU u R) y.1)=true
structure OB (u:TUnit) (n:Names) (x:TExpr) (rs:List Nm) (y:TExpr×List Nm):Prop where
 p:rs <+: y.2
 k:y.1.kind=x.kind
 z:x.kind=0→none_ y.1=true
 b:∀ RS,y.2 <+: RS→nX (nmB n RS) y.1=x
 r:∀ R:Int,(y.2.length:Int)≤R→(if zaan (nX (nmU u R) y.1) then eF (nX (nmU u R) y.1) else true)=true
end Lift.A9
namespace Lift.A9
open Go Go.RowKit Lift Go.IntWalk Lift.Fn Lift.A3
set_option linter.unusedVariables false
set_option linter.unusedSimpArgs false
end Lift.A9
namespace Lift.A9
open Go Go.RowKit Lift Go.IntWalk Lift.Fn Lift.A3
set_option linter.unusedVariables false
set_option linter.unusedSimpArgs false
def ren (old other:List Nm) (s:Nm):Nm:=bif decide (plc old s<0) then s else atL other (plc old s)
end Lift.A9
namespace Lift.A9
open Go Go.RowKit Lift Go.IntWalk Lift.Fn Lift.A3
set_option linter.unusedVariables false
set_option linter.unusedSimpArgs false
structure RN (f:Nm→Nm) (P:Nm→Prop):Prop where
 inj:∀ a b,P a→P b→f a=f b→a=b
structure NP (P:Nm→Prop) (n:Names):Prop where
 c:∀ s∈n.cells,P s
 m:∀ s∈n.mutexes,P s
 t:∀ s∈n.threads,P s
end Lift.A9
namespace Lift.A9
open Go Go.RowKit Lift Go.IntWalk Lift.Fn Lift.A3
set_option linter.unusedVariables false
set_option linter.unusedSimpArgs false
end Lift.A9
namespace Lift.A9
open Go Go.RowKit Lift Go.IntWalk Lift.Fn Lift.A3
set_option linter.unusedVariables false
theorem zaaq {u:Uni} {c:TV u.U} {cs:List (TV u.U)} {N:Nat} (h:SizedL u (c::cs) N):∃ a b,Sized u c a∧SizedL u cs b∧a+b+1≤N:=by
 cases h with
 |cons _ _ a b _ h1 h2 h3=>exact ⟨a,b,h1,h2,h3⟩
mutual
theorem szE:∀ (x:TExpr) (N:Nat),Sized J6.kk.u ⟨.st 60,x⟩ N→nE x≤N
 |⟨k,n,m,l⟩,N,h=>by
  have h1:SizedL J6.kk.u [⟨.int .i64,k⟩,⟨.int .i64,n⟩,⟨.str,m⟩,⟨.slc (.st 60),l⟩] N:=h.st_inv;obtain ⟨a1,b1,_,h1,e1⟩:=zaaq h1;obtain ⟨a2,b2,_,h2,e2⟩:=zaaq h1;obtain ⟨a3,b3,_,h3,e3⟩:=zaaq h2;obtain ⟨a4,b4,s4,h4,e4⟩:=zaaq h3;have:=szEs l a4 s4.slc_inv;rw[nE];omega
theorem szEs:∀ (l:List TExpr) (N:Nat),SizedL J6.kk.u (l.map (TV.mk (.st 60))) N→nEs l≤N
 |[],N,h=>by simp[nEs]
 |x::l,N,h=>by
  obtain ⟨a,b,h1,h2,e⟩:=zaaq h;have:=szE x a h1;have:=szEs l b h2;rw[nEs];omega
end
mutual
theorem szS:∀ (x:TStmt) (N:Nat),Sized J6.kk.u ⟨.st 62,x⟩ N→nS x≤N
 |⟨k,r,m,⟨k',n',m',l'⟩,c,t,o⟩,N,h=>by
  have h1:SizedL J6.kk.u [⟨.int .i64,k⟩,⟨.str,r⟩,⟨.str,m⟩,⟨.int .i64,k'⟩,⟨.int .i64,n'⟩,⟨.str,m'⟩,⟨.slc (.st 60),l'⟩,⟨.int .i64,c⟩,⟨.slc (.st 62),t⟩,⟨.slc (.st 62),o⟩] N:=h.st_inv;obtain ⟨a1,b1,_,h1,e1⟩:=zaaq h1;obtain ⟨a2,b2,_,h2,e2⟩:=zaaq h1;obtain ⟨a3,b3,_,h3,e3⟩:=zaaq h2;obtain ⟨a4,b4,_,h4,e4⟩:=zaaq h3;obtain ⟨a5,b5,_,h5,e5⟩:=zaaq h4;obtain ⟨a6,b6,_,h6,e6⟩:=zaaq h5;obtain ⟨a7,b7,s7,h7,e7⟩:=zaaq h6;obtain ⟨a8,b8,_,h8,e8⟩:=zaaq h7;obtain ⟨a9,b9,s9,h9,e9⟩:=zaaq h8;obtain ⟨a10,b10,s10,h10,e10⟩:=zaaq h9;have:=szEs l' a7 s7.slc_inv;have:=szSs t a9 s9.slc_inv;have:=szSs o a10 s10.slc_inv;rw[nS,nE];omega
theorem szSs:∀ (l:List TStmt) (N:Nat),SizedL J6.kk.u (l.map (TV.mk (.st 62))) N→nSs l≤N
 |[],N,h=>by simp[nSs]
 |x::l,N,h=>by
  obtain ⟨a,b,h1,h2,e⟩:=zaaq h;have:=szS x a h1;have:=szSs l b h2;rw[nSs];omega
end
theorem szT:∀ (l:List TThread) (N:Nat),SizedL J6.kk.u (l.map (TV.mk (.st 51))) N→nT l≤N
 |[],N,h=>by simp[nT]
 |⟨m,t⟩::l,N,h=>by
  obtain ⟨a,b,h1,h2,e⟩:=zaaq h;have h3:SizedL J6.kk.u [⟨.str,m⟩,⟨.slc (.st 62),t⟩] a:=h1.st_inv;obtain ⟨a1,b1,_,h3,e1⟩:=zaaq h3;obtain ⟨a2,b2,s2,h4,e2⟩:=zaaq h3;have:=szSs t a2 s2.slc_inv;have:=szT l b h2;rw[nT];show 1+nSs t+nT l≤N;omega
structure SmallP (y:TProg):Prop where
 t:nT y.threads≤2000000
 c:y.cells.length≤2000000
 m:y.mutexes.length≤2000000
mutual
theorem szA:∀ (x:TAct) (N:Nat),Sized J6.kk.u ⟨.st 67,x⟩ N→nA x≤N
 |⟨k,r,ob,⟨k',n',m',l'⟩,c,t,o⟩,N,h=>by
  have h1:SizedL J6.kk.u [⟨.int .i64,k⟩,⟨.int .i64,r⟩,⟨.int .i64,ob⟩,⟨.int .i64,k'⟩,⟨.int .i64,n'⟩,⟨.str,m'⟩,⟨.slc (.st 60),l'⟩,⟨.int .i64,c⟩,⟨.slc (.st 67),t⟩,⟨.slc (.st 67),o⟩] N:=h.st_inv;obtain ⟨a1,b1,_,h1,e1⟩:=zaaq h1;obtain ⟨a2,b2,_,h2,e2⟩:=zaaq h1;obtain ⟨a3,b3,_,h3,e3⟩:=zaaq h2;obtain ⟨a4,b4,_,h4,e4⟩:=zaaq h3;obtain ⟨a5,b5,_,h5,e5⟩:=zaaq h4;obtain ⟨a6,b6,_,h6,e6⟩:=zaaq h5;obtain ⟨a7,b7,s7,h7,e7⟩:=zaaq h6;obtain ⟨a8,b8,_,h8,e8⟩:=zaaq h7;obtain ⟨a9,b9,s9,h9,e9⟩:=zaaq h8;obtain ⟨a10,b10,s10,h10,e10⟩:=zaaq h9;have:=szEs l' a7 s7.slc_inv;have:=szAs t a9 s9.slc_inv;have:=szAs o a10 s10.slc_inv;rw[nA,nE];omega
theorem szAs:∀ (l:List TAct) (N:Nat),SizedL J6.kk.u (l.map (TV.mk (.st 67))) N→nAs l≤N
 |[],N,h=>by simp[nAs]
 |x::l,N,h=>by
  obtain ⟨a,b,h1,h2,e⟩:=zaaq h;have:=szA x a h1;have:=szAs l b h2;rw[nAs];omega
end
theorem szB:∀ (l:List TBody) (N:Nat),SizedL J6.kk.u (l.map (TV.mk (.st 65))) N→nB l≤N
 |[],N,h=>by simp[nB]
 |⟨m,t⟩::l,N,h=>by
  obtain ⟨a,b,h1,h2,e⟩:=zaaq h;have h3:SizedL J6.kk.u [⟨.int .i64,m⟩,⟨.slc (.st 67),t⟩] a:=h1.st_inv;obtain ⟨a1,b1,_,h3,e1⟩:=zaaq h3;obtain ⟨a2,b2,s2,h4,e2⟩:=zaaq h3;have:=szAs t a2 s2.slc_inv;have:=szB l b h2;rw[nB];show 1+nAs t+nB l≤N;omega
structure SmallU (y:TUnit):Prop where
 t:nB y.threads≤2000000
 c:y.cells.length≤2000000
theorem smallU (y:TUnit) (h:Sized J6.kk.u ⟨.st 32,y⟩ 1048576):SmallU y:=by
 obtain ⟨c,m,t⟩:=y;have h1:SizedL J6.kk.u [⟨.slc (.int .i64),c⟩,⟨.int .i64,m⟩,⟨.slc (.st 65),t⟩] 1048576:=h.st_inv;obtain ⟨a1,b1,s1,h1,e1⟩:=zaaq h1;obtain ⟨a2,b2,s2,h2,e2⟩:=zaaq h1;obtain ⟨a3,b3,s3,h3,e3⟩:=zaaq h2;have:=szB t a3 s3.slc_inv;have q1:c.length≤a1:=s1.slc_len;exact ⟨by show nB t≤_; omega,by show c.length≤_; omega⟩
theorem checkNamed2 (u:TUnit) (n:Names) (h:SmallU u):qaG u n=some true:=zam6 u n (by have:=h.t; omega) (by have:=h.c; omega)
end Lift.A9
