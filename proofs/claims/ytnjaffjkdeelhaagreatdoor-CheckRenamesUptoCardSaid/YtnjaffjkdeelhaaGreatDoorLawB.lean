/-
  DERIVED. The Lean functions answer as the laws say. Conditions: as each theorem says.
-/
import Derived.Test.YtnjaffjkdeelhaaGreatDoorLawA
set_option linter.unusedVariables false
set_option linter.unusedSimpArgs false
set_option linter.unusedSectionVars false
namespace Lift.A9
open Go Go.RowKit Lift Go.IntWalk Lift.Fn Lift.A3
set_option linter.unusedVariables false
set_option linter.unusedSimpArgs false
def acOut (th:List (Nm×Thing)):(List TAct×List Nm)⊕(Int×Nm)→((List (Nm×Thing))×(List TAct)×(List Nm))⊕Refused
 |.inl y=>.inl (th,y.1,y.2)
 |.inr e=>.inr ⟨e.1,e.2⟩
theorem zao4 (th:List (Nm×Thing)) (k:Int) (nm:Nm):objM th k nm=(bif needK k==0 then .inl 0 else bif thB th nm then (bif (Option.getD (mapAt th nm) (Thing.mk 0 0)).kind==needK k then .inl (Option.getD (mapAt th nm) (Thing.mk 0 0)).number else .inr (65,nm)) else .inr (64,nm)):=rfl
abbrev AcF:=List TStmt→List (Nm×Thing)→List Nm→Option ((List (Nm×Thing)×List TAct×List Nm)⊕Refused)
theorem zax8 (th:List (Nm×Thing)) (R:AcF) (rec:List TStmt→Int→Int→List ((List UInt8)×(Thing))→List (List UInt8)→List TAct→Option ((Refused)⊕((List ((List UInt8)×(Thing)))×(List TAct)×(List (List UInt8)))))
  (a0:List TStmt) (a1 i:Int) (rs:List Nm) (acc:List TAct) (y:TStmt) (h:i<a1) (h0:0≤i) (hy:a0[i.toNat]? = some y) (hE:nE y.expr≤100000000) (ha:acc.length≤100000000) (hi:i≤100000000) (hrs:rs.length≤8)
  (ht:∀ rs,rs.length≤8→R y.then_ th rs=some (acOut th (acNs (thB th) (objM th) y.then_ rs))) (ho:∀ rs,rs.length≤8→R y.else_ th rs=some (acOut th (acNs (thB th) (objM th) y.else_ rs))) :
  qao_t3 R rec a0 a1 i th rs acc=match acN (thB th) (objM th) y rs with
   |.inr e=>some (.inl ⟨e.1,e.2⟩)
   |.inl z=>rec a0 a1 (i+1) th z.2 (acc++[z.1]):=by
 have hsz:∀ st:TAct,decide ((acc.length+[st].length)*136≤140737488355328∧acc.length+[st].length≤9223372036854775807)=true:=by
  intro st;rw[List.length_cons,List.length_nil];exact decide_eq_true (by omega)
 unfold qao_t3;show _=match acN (thB th) (objM th) y rs with|.inr e=>_|.inl z=>_
 rw[zaxv];simp only[decide_eq_true h,decide_eq_true h0,cond_true,hy,Option.bind_some,zaay,zau1,bne,reg1 th rs y.reg hrs,i64_in (i+1) (by omega)]
 -- what stands behind the name
 unfold regO;cases hr:(y.reg==[]) with
 |true=>
  simp only[Bool.not_true,cond_false,cond_true];rw[zao4];cases hk:(needK y.kind==0) with
  |true=>
   simp only[Bool.not_true,cond_false,cond_true];unfold exO;cases hx:(y.expr.kind==0) with
   |true=>
    simp only[Bool.not_true,cond_false,cond_true];rw[ht rs hrs];cases h4:acNs (thB th) (objM th) y.then_ rs with
    |inr e=>rfl
    |inl p=>
     simp only[acOut,Option.bind_some];rw[ho p.2 (zacd (thB th) (objM th) _ _ p hrs h4)];cases h5:acNs (thB th) (objM th) y.else_ p.2 with
     |inr e=>rfl
     |inl q=>simp only[acOut,Option.bind_some,hsz,cond_true]
   |false=>
    simp only[Bool.not_false,cond_false,cond_true];rw[exX th y.expr rs hE hrs];cases h3:exM (thB th) y.expr rs with
    |inr e=>rfl
    |inl z=>
     have l1:=zags (thB th) y.expr rs hrs z h3;simp only[exOut,Option.bind_some];rw[ht z.2 l1];cases h4:acNs (thB th) (objM th) y.then_ z.2 with
     |inr e=>rfl
     |inl p=>
      simp only[acOut,Option.bind_some];rw[ho p.2 (zacd (thB th) (objM th) _ _ p l1 h4)];cases h5:acNs (thB th) (objM th) y.else_ p.2 with
      |inr e=>rfl
      |inl q=>simp only[acOut,Option.bind_some,hsz,cond_true,zaay]
  |false=>
   simp only[Bool.not_false,cond_false,cond_true];have eb:thB th y.name=Option.isSome (mapAt th y.name):=rfl;rw[eb];cases hs:Option.isSome (mapAt th y.name) with
   |false=>rfl
   |true=>
    simp only[Bool.not_true,cond_false,cond_true];cases hq:((Option.getD (mapAt th y.name) (Thing.mk 0 0)).kind==needK y.kind) with
    |false=>rfl
    |true=>
     simp only[Bool.not_true,cond_false,cond_true];unfold exO;cases hx:(y.expr.kind==0) with
     |true=>
      simp only[Bool.not_true,cond_false,cond_true];rw[ht rs hrs];cases h4:acNs (thB th) (objM th) y.then_ rs with
      |inr e=>rfl
      |inl p=>
       simp only[acOut,Option.bind_some];rw[ho p.2 (zacd (thB th) (objM th) _ _ p hrs h4)];cases h5:acNs (thB th) (objM th) y.else_ p.2 with
       |inr e=>rfl
       |inl q=>simp only[acOut,Option.bind_some,hsz,cond_true]
     |false=>
      simp only[Bool.not_false,cond_false,cond_true];rw[exX th y.expr rs hE hrs];cases h3:exM (thB th) y.expr rs with
      |inr e=>rfl
      |inl z=>
       have l1:=zags (thB th) y.expr rs hrs z h3;simp only[exOut,Option.bind_some];rw[ht z.2 l1];cases h4:acNs (thB th) (objM th) y.then_ z.2 with
       |inr e=>rfl
       |inl p=>
        simp only[acOut,Option.bind_some];rw[ho p.2 (zacd (thB th) (objM th) _ _ p l1 h4)];cases h5:acNs (thB th) (objM th) y.else_ p.2 with
        |inr e=>rfl
        |inl q=>simp only[acOut,Option.bind_some,hsz,cond_true,zaay]
 |false=>
  simp only[Bool.not_false,cond_false,cond_true];cases hm:regM (thB th) rs y.reg with
  |inr e=>rfl
  |inl a=>
   have l0:=zai2 hrs hm;simp only[Option.bind_some];rw[zao4];cases hk:(needK y.kind==0) with
   |true=>
    simp only[Bool.not_true,cond_false,cond_true];unfold exO;cases hx:(y.expr.kind==0) with
    |true=>
     simp only[Bool.not_true,cond_false,cond_true];rw[ht a.2 l0];cases h4:acNs (thB th) (objM th) y.then_ a.2 with
     |inr e=>rfl
     |inl p=>
      simp only[acOut,Option.bind_some];rw[ho p.2 (zacd (thB th) (objM th) _ _ p l0 h4)];cases h5:acNs (thB th) (objM th) y.else_ p.2 with
      |inr e=>rfl
      |inl q=>simp only[acOut,Option.bind_some,hsz,cond_true]
    |false=>
     simp only[Bool.not_false,cond_false,cond_true];rw[exX th y.expr a.2 hE l0];cases h3:exM (thB th) y.expr a.2 with
     |inr e=>rfl
     |inl z=>
      have l1:=zags (thB th) y.expr a.2 l0 z h3;simp only[exOut,Option.bind_some];rw[ht z.2 l1];cases h4:acNs (thB th) (objM th) y.then_ z.2 with
      |inr e=>rfl
      |inl p=>
       simp only[acOut,Option.bind_some];rw[ho p.2 (zacd (thB th) (objM th) _ _ p l1 h4)];cases h5:acNs (thB th) (objM th) y.else_ p.2 with
       |inr e=>rfl
       |inl q=>simp only[acOut,Option.bind_some,hsz,cond_true,zaay]
   |false=>
    simp only[Bool.not_false,cond_false,cond_true];have eb:thB th y.name=Option.isSome (mapAt th y.name):=rfl;rw[eb];cases hs:Option.isSome (mapAt th y.name) with
    |false=>rfl
    |true=>
     simp only[Bool.not_true,cond_false,cond_true];cases hq:((Option.getD (mapAt th y.name) (Thing.mk 0 0)).kind==needK y.kind) with
     |false=>rfl
     |true=>
      simp only[Bool.not_true,cond_false,cond_true];unfold exO;cases hx:(y.expr.kind==0) with
      |true=>
       simp only[Bool.not_true,cond_false,cond_true];rw[ht a.2 l0];cases h4:acNs (thB th) (objM th) y.then_ a.2 with
       |inr e=>rfl
       |inl p=>
        simp only[acOut,Option.bind_some];rw[ho p.2 (zacd (thB th) (objM th) _ _ p l0 h4)];cases h5:acNs (thB th) (objM th) y.else_ p.2 with
        |inr e=>rfl
        |inl q=>simp only[acOut,Option.bind_some,hsz,cond_true]
      |false=>
       simp only[Bool.not_false,cond_false,cond_true];rw[exX th y.expr a.2 hE l0];cases h3:exM (thB th) y.expr a.2 with
       |inr e=>rfl
       |inl z=>
        have l1:=zags (thB th) y.expr a.2 l0 z h3;simp only[exOut,Option.bind_some];rw[ht z.2 l1];cases h4:acNs (thB th) (objM th) y.then_ z.2 with
        |inr e=>rfl
        |inl p=>
         simp only[acOut,Option.bind_some];rw[ho p.2 (zacd (thB th) (objM th) _ _ p l1 h4)];cases h5:acNs (thB th) (objM th) y.else_ p.2 with
         |inr e=>rfl
         |inl q=>simp only[acOut,Option.bind_some,hsz,cond_true,zaay]
theorem ac1 (th:List (Nm×Thing)):∀ (k n:Nat) (l:List TStmt) (rs:List Nm),nSs l≤k→k<n→k≤100000000→rs.length≤8→qao_i n l th rs=some (acOut th (acNs (thB th) (objM th) l rs)):=by
 intro k;induction k with
 |zero=>
  intro n l rs h hn _ _;obtain ⟨n,rfl⟩:∃ q,n=q+1:=⟨n-1,by omega⟩;have hl:=zab5 l;obtain rfl:l=[]:=List.eq_nil_of_length_eq_zero (by omega);show qao_f (qao_i n) [] th rs=_;unfold qao_f;rw[qao_l3,zaaa,zag1];rfl
 |succ k ih=>
  intro n l rs h hn hb hrs;obtain ⟨n,rfl⟩:∃ q,n=q+1:=⟨n-1,by omega⟩;have hl:=zab5 l;show qao_f (qao_i n) l th rs=_;unfold qao_f;rw[qao_l3,zaaa]
  have := zaa7 (σ := List Nm × List TAct) l (fun r s => s.1.length ≤ 8 ∧ s.2.length + r.length = l.length)
   (fun r s=>(match acNs (thB th) (objM th) r s.1 with|.inl z=>.inr (th,s.2++z.1,z.2)|.inr e=>.inl ⟨e.1,e.2⟩:Refused⊕(List (Nm×Thing)×List TAct×List Nm)))
   (fun m i s=>qao_i3 (qao_i n) m l l.length i th s.1 s.2)
   (fun m i s h0 h _=>by
    simp only[qao_i3,qao_t3,decide_eq_false h,cond_false,zag1,List.append_nil])
   (fun m i s y r h0 h hy hm hI=>by
    have hy1:=zaev hm;have hy2:=nS_eq y;obtain ⟨i1,i2⟩:=hI;simp only[List.length_cons] at i2
    have st := zax8 th (qao_i n) (qao_i3 (qao_i n) m) l l.length i s.1 s.2 y h h0 hy (by omega) (by omega) (by omega) i1
     (fun rs hrs=>ih n y.then_ rs (by omega) (by omega) (by omega) hrs) (fun rs hrs=>ih n y.else_ rs (by omega) (by omega) (by omega) hrs)
    have e1:qao_i3 (qao_i n) (m+1) l l.length i th s.1 s.2=qao_t3 (qao_i n) (qao_i3 (qao_i n) m) l l.length i th s.1 s.2:=rfl;rw[e1,st,zahh];cases hz:acN (thB th) (objM th) y s.1 with
    |inr e=>exact Or.inr rfl
    |inl z=>
     refine Or.inl ⟨(z.2,s.2++[z.1]),⟨zarq (thB th) (objM th) y s.1 z i1 hz,by simp; omega⟩,rfl,?_⟩;simp only;cases acNs (thB th) (objM th) r z.2 with
     |inr e=>rfl
     |inl q=>simp)
   fuel (rs,[]) (by unfold fuel; omega) ⟨hrs,by simp⟩
  simp only[List.nil_append] at this;rw[this];cases acNs (thB th) (objM th) l rs<;>rfl
theorem acX (th:List (Nm×Thing)) (l:List TStmt) (h:nSs l≤100000000):qao l th []=some (acOut th (acNs (thB th) (objM th) l [])):=by
 rw[qao,zaaa,ac1 th (nSs l) fuel l [] (Nat.le_refl _) (by unfold fuel; omega) h (by simp)]
end Lift.A9
namespace Lift.A9
open Go Go.RowKit Lift Go.IntWalk Lift.Fn Lift.A3
set_option linter.unusedVariables false
set_option linter.unusedSimpArgs false
theorem zanm {α σ ρ:Type} (l:List α) (I:Nat→List α→σ→Prop) (P:Nat→List α→σ→ρ) (L:Nat→Int→σ→Option ρ)
  (h0:∀ n i s,¬ i<l.length→I i [] s→L (n+1) (i:Int) s=some (P i [] s))
  (h1:∀ n i s x r,i<l.length→l[i]? = some x→x∈l→I i (x::r) s→(∃ s',I (i+1) r s'∧L (n+1) (i:Int) s=L n ((i+1:Nat):Int) s'∧P i (x::r) s=P (i+1) r s')∨L (n+1) (i:Int) s=some (P i (x::r) s)) :
  ∀ (k n:Nat) (i:Nat) (s:σ),l.length-i≤k→k<n→I i (l.drop i) s→L n (i:Int) s=some (P i (l.drop i) s):=by
 intro k;induction k with
 |zero=>
  intro n i s hk hn hI;obtain ⟨n,rfl⟩:∃ q,n=q+1:=⟨n-1,by omega⟩;rw[List.drop_eq_nil_of_le (by omega)] at hI ⊢;exact h0 n i s (by omega) hI
 |succ k ih=>
  intro n i s hk hn hI;obtain ⟨n,rfl⟩:∃ q,n=q+1:=⟨n-1,by omega⟩;by_cases c:i<l.length
  ·rw[List.drop_eq_getElem_cons c] at hI ⊢;rcases h1 n i s l[i] _ c (List.getElem?_eq_getElem c) (List.getElem_mem c) hI with ⟨s',i1,e1,e2⟩|e
   ·rw[e1,ih n (i+1) s' (by omega) (by omega) i1,e2]
   ·exact e
  ·rw[List.drop_eq_nil_of_le (by omega)] at hI ⊢;exact h0 n i s c hI
def addM (c:Int):Nat→List Nm→List (Nm×Thing)→List (Nm×Thing)⊕Nm
 |_,[],th=>.inl th
 |k,s::l,th=>bif thB th s then .inr s else addM c (k+1) l (zaau s ⟨c,k⟩ th)
def addLs:Nat→List (List Nm)→List (Nm×Thing)→List (Nm×Thing)⊕Nm
 |_,[],th=>.inl th
 |k,l::r,th=>match addM (1+k) 0 l th with
  |.inr s=>.inr s
  |.inl t=>addLs (k+1) r t
theorem zaw2 (c:Nat) (a1 a2:Int) (l:List Nm) (th:List (Nm×Thing)) (x:List (List Nm)) (rs:List Nm) (hc:c≤100) (h:l.length≤100000000) :
  qaq_l11 c a1 a2 l l.length 0 th x rs=some (match addM (1+c) 0 l th with|.inl t=>.inr (a1,a2,t,x,rs)|.inr s=>.inl ⟨63,s⟩):=by
 rw[qaq_l11,zaaa]
 have := zanm l (fun _ _ _ => True) (fun i r t => (match addM (1 + c) i r t with | .inl t => .inr (a1, a2, t, x, rs) | .inr s => .inl ⟨63, s⟩ : Refused ⊕ (Int × Int × List (Nm × Thing) × List (List Nm) × List Nm)))
  (fun m i t=>qaq_i11 m c a1 a2 l l.length i t x rs)
  (fun m i t h _=>by
   have h':¬ ((i:Int)<(l.length:Int)):=by omega
   simp only[qaq_i11,qaq_t11,decide_eq_false h',cond_false,addM])
  (fun m i t y r h hy hm _=>by
   have h':((i:Int)<(l.length:Int)):=by omega
   simp only[qaq_i11,qaq_t11,decide_eq_true h',cond_true,decide_eq_true (Int.natCast_nonneg i),Int.toNat_natCast,hy,Option.bind_some,addM,thB];cases hs:Option.isSome (mapAt t y) with
   |true=>exact Or.inr rfl
   |false=>
    refine Or.inl ⟨zaau y ⟨1+c,i⟩ t,trivial,?_,rfl⟩;rw[cond_false,i64_in ((i:Int)+1) (by omega),i64_in ((1:Int)+c) (by omega)];rfl)
  l.length fuel 0 th (by omega) (by unfold fuel; omega) trivial
 rw[List.drop_zero] at this;exact this
theorem zav2 (ls:List (List Nm)) (th:List (Nm×Thing)) (rs:List Nm) (h:ls.length≤100) (hl:∀ l∈ls,l.length≤100000000) :
  qaq_l8 ls.length 0 th ls rs=some (match addLs 0 ls th with|.inl t=>.inr (t,rs)|.inr s=>.inl ⟨63,s⟩):=by
 rw[qaq_l8,zaaa]
 have := zanm ls (fun _ _ _ => True) (fun i r t => (match addLs i r t with | .inl t => .inr (t, rs) | .inr s => .inl ⟨63, s⟩ : Refused ⊕ (List (Nm × Thing) × List Nm)))
  (fun m i t=>qaq_i8 m ls.length i t ls rs)
  (fun m i t h _=>by
   have h':¬ ((i:Int)<(ls.length:Int)):=by omega
   simp only[qaq_i8,qaq_t8,decide_eq_false h',cond_false,addLs])
  (fun m i t y r h hy hm _=>by
   have h':((i:Int)<(ls.length:Int)):=by omega
   simp only[qaq_i8,qaq_t8,decide_eq_true h',cond_true,decide_eq_true (Int.natCast_nonneg i),Int.toNat_natCast,hy,Option.bind_some,addLs,Bool.true_and];rw[zaw2 i _ _ y t ls rs (by omega) (hl y hm)];cases hs:addM (1+(i:Int)) 0 y t with
   |inr s=>exact Or.inr rfl
   |inl t'=>
    refine Or.inl ⟨t',trivial,?_,rfl⟩;simp only[Option.bind_some];rw[i64_in ((i:Int)+1) (by omega)];rfl)
  ls.length fuel 0 th (by omega) (by unfold fuel; omega) trivial
 rw[List.drop_zero] at this;exact this
def zaax (l:List Nm):Bool:=decide (8<l.length)
def zah0 (n:Names):List (Nm×Thing)⊕(Int×Nm):=
 bif n.threads.length==0 then .inr (60,[]) else bif zaax n.threads then .inr (60,(n.threads[8]?).getD []) else bif zaax n.cells then .inr (61,(n.cells[8]?).getD [])
 else bif zaax n.mutexes then .inr (62,(n.mutexes[8]?).getD []) else match addLs 0 [n.cells,n.mutexes,n.threads] [] with|.inl t=>.inl t|.inr s=>.inr (63,s)
theorem many1 (l:List Nm) (e:Int):qar l 8 e=some (bif zaax l then .inr ⟨e,(l[8]?).getD []⟩ else .inl ()):=by
 rw[qar,zaaa];unfold qar_f zaax;by_cases h:8<l.length
 ·rw[decide_eq_true (by omega:(l.length:Int)>8),decide_eq_true h];simp only[cond_true,Int.reduceToNat];rw[List.getElem?_eq_getElem h];rfl
 ·rw[decide_eq_false (by omega:¬ (l.length:Int)>8),decide_eq_false h];rfl
theorem zayj (n:Names) (hc:n.cells.length≤100000000) (hm:n.mutexes.length≤100000000) (ht:n.threads.length≤100000000) :
  qaq n [] []=some (match zah0 n with|.inl th=>.inl (th,[])|.inr e=>.inr ⟨e.1,e.2⟩):=by
 rw[qaq,zaaa];unfold qaq_f zah0;have e0:((n.threads.length:Int)==0)=(n.threads.length==0):=by
  rw[Bool.eq_iff_iff]; simp only[beq_iff_eq]; omega
 rw[e0];cases n.threads.length==0 with
 |true=>rfl
 |false=>
  simp only[cond_false,many1,Option.bind_some];cases zaax n.threads with
  |true=>rfl
  |false=>
  cases zaax n.cells with
  |true=>rfl
  |false=>
  cases zaax n.mutexes with
  |true=>rfl
  |false=>
   simp only[cond_false];have:=zav2 [n.cells,n.mutexes,n.threads] [] [] (by simp) (by simp; omega);rw[this];cases addLs 0 [n.cells,n.mutexes,n.threads] []<;>rfl
def thrM (th:List (Nm×Thing)):List TThread→List (List TAct×List Nm)⊕(Int×Nm)
 |[]=>.inl []
 |t::l=>match acNs (thB th) (objM th) t.body [] with
  |.inr e=>.inr e
  |.inl y=>match thrM th l with
   |.inr e=>.inr e
   |.inl z=>.inl (y::z)
def thrW (th:List (Nm×Thing)):List TThread→List TBody×List (List Nm)→((Int×Nm)×List TBody×List (List Nm))⊕(List TBody×List (List Nm))
 |[],s=>.inr s
 |t::l,s=>match acNs (thB th) (objM th) t.body [] with
  |.inr e=>.inl (e,s)
  |.inl y=>thrW th l (s.1++[⟨y.2.length,y.1⟩],s.2++[y.2])
theorem zar4 (th : List (Nm × Thing)) : ∀ (l : List TThread) (s : List TBody × List (List Nm)), (∀ z, thrM th l = .inl z → thrW th l s = .inr (s.1 ++ z.map (fun y => ⟨y.2.length, y.1⟩), s.2 ++ z.map (·.2))) ∧ (∀ e, thrM th l = .inr e → ∃ q, thrW th l s = .inl (e, q))
 |[],s=>⟨fun z h=>by rw[thrM] at h; cases h; rw[thrW]; simp,fun e h=>by rw[thrM] at h; cases h⟩
 |t::l,s=>by
  rw[thrM,thrW];cases acNs (thB th) (objM th) t.body [] with
  |inr e=>exact ⟨fun z h=>(by cases h),fun e' h=>(by cases h; exact ⟨s,rfl⟩)⟩
  |inl y=>
   obtain ⟨h1,h2⟩:=zar4 th l (s.1++[⟨y.2.length,y.1⟩],s.2++[y.2]);cases hz:thrM th l with
   |inr e=>exact ⟨fun z h=>(by cases h),fun e' h=>(by cases h; exact h2 e hz)⟩
   |inl z=>exact ⟨fun z' h=>(by cases h; simp only; rw[h1 z hz]; simp),fun e' h=>(by cases h)⟩
def zabx (p:TProg):Names:=⟨p.cells.map (·.name),p.mutexes,p.threads.map (·.name),[]⟩
def unit0:TUnit:=⟨[],0,[]⟩
def zajn:Names:=⟨[],[],[],[]⟩
def zadu (p:TProg):(TUnit×Names)⊕(Int×Nm):=match zah0 (zabx p) with
 |.inr e=>.inr e
 |.inl th=>match thrM th p.threads with
  |.inr e=>.inr e
  |.inl z=>.inl (⟨p.cells.map (·.init),p.mutexes.length,z.map fun y=>⟨y.2.length,y.1⟩⟩,⟨p.cells.map (·.name),p.mutexes,p.threads.map (·.name),z.map (·.2)⟩)
def outC:(TUnit×Names)⊕(Int×Nm)→TUnit×Names×Int×Nm
 |.inl y=>(y.1,y.2,0,[])
 |.inr e=>(unit0,zajn,e.1,e.2)
noncomputable def zacg (p:TProg):TUnit×Names×Int×Nm:=bif zaby p != 0 then (unit0,zajn,zaby p,[]) else outC (zadu p)
theorem zamx (p:TProg) (h:nT p.threads≤100000000) (h1:p.cells.length≤100000000) (h2:p.mutexes.length≤100000000):qal p=some (zacg p):=by
 rw[qal,zaaa];unfold qal_f zacg;have hl:=zac6 p.threads;rw[zad1,zant p h h1 h2,Option.bind_some];cases zaby p != 0 with
 |true=>rfl
 |false=>
  simp only[cond_false]
  have e6 := zaa7 (σ := List Int × List Nm) p.cells (fun r s => s.1.length + r.length = p.cells.length ∧ s.2.length + r.length = p.cells.length) (fun r s => (p.cells, p.mutexes, p.threads, (0 : Int), (0 : Int), ([] : List UInt8), s.1 ++ r.map (·.init), s.2 ++ r.map (·.name)))
   (fun m i s=>qal_i6 m p.cells p.cells.length i p.cells p.mutexes p.threads 0 0 [] s.1 s.2)
   (fun m i s h0 h _=>by simp only[qal_i6,qal_t6,decide_eq_false h,cond_false,List.map_nil,List.append_nil])
   (fun m i s y r h0 h hy hm hI=>by
    simp only[List.length_cons] at hI;refine Or.inl ⟨(s.1++[y.init],s.2++[y.name]),by simp; omega,?_,by simp⟩;simp only[qal_i6,qal_t6,decide_eq_true h,decide_eq_true h0,cond_true,hy,Option.bind_some,List.length_cons,List.length_nil];rw[decide_eq_true (by omega),cond_true,decide_eq_true (by omega),cond_true,i64_in (i+1) (by omega)])
   fuel ([],[]) (by unfold fuel; omega) (by simp)
  simp only[List.nil_append] at e6;rw[qal_l6,zaaa,e6];simp only[Option.bind_some];rw[zaro p.mutexes h2];simp only[Option.bind_some];rw[zaox];simp only[Option.bind_some]
  have e14 := zaa7 (σ := List Nm) p.threads (fun r s => s.length + r.length = p.threads.length) (fun r s => (p.cells, p.mutexes, p.threads, (p.mutexes.length : Int), (0 : Int), ([] : List UInt8), p.cells.map (·.init), p.cells.map (·.name), p.mutexes, s ++ r.map (·.name)))
   (fun m i s=>qal_i14 m p.threads p.threads.length i p.cells p.mutexes p.threads p.mutexes.length 0 [] (p.cells.map (·.init)) (p.cells.map (·.name)) p.mutexes s)
   (fun m i s h0 h _=>by simp only[qal_i14,qal_t14,decide_eq_false h,cond_false,List.map_nil,List.append_nil])
   (fun m i s y r h0 h hy hm hI=>by
    simp only[List.length_cons] at hI;refine Or.inl ⟨s++[y.name],by simp; omega,?_,by simp⟩;simp only[qal_i14,qal_t14,decide_eq_true h,decide_eq_true h0,cond_true,hy,Option.bind_some,List.length_cons,List.length_nil];rw[decide_eq_true (by omega),cond_true,i64_in (i+1) (by omega)])
   fuel [] (by unfold fuel; omega) (by simp)
  simp only[List.nil_append] at e14;rw[qal_l14,zaaa,e14];simp only[Option.bind_some];have eh:=zayj (zabx p) (by simp[zabx]; omega) h2 (by simp[zabx]; omega);unfold zabx at eh;rw[eh];unfold zadu zabx;cases zah0 ⟨p.cells.map (·.name),p.mutexes,p.threads.map (·.name),[]⟩ with
  |inr e=>rfl
  |inl th=>
   simp only[Option.bind_some]
   have e21 := zaa7 (σ := List TBody × List (List Nm)) p.threads (fun r s => s.1.length + r.length = p.threads.length ∧ s.2.length + r.length = p.threads.length)
    (fun r s => (match thrW th r s with | .inl e => .inl (⟨e.1.1, e.1.2⟩, (p.mutexes.length : Int), p.cells.map (·.name), p.mutexes, p.threads.map (·.name), (0 : Int), ([] : List UInt8), p.cells.map (·.init), e.2.1, e.2.2) | .inr z => .inr ((p.mutexes.length : Int), p.cells.map (·.name), p.mutexes, p.threads.map (·.name), (0 : Int), ([] : List UInt8), p.cells.map (·.init), z.1, z.2) :
     (Refused×Int×List Nm×List Nm×List Nm×Int×List UInt8×List Int×List TBody×List (List Nm))⊕(Int×List Nm×List Nm×List Nm×Int×List UInt8×List Int×List TBody×List (List Nm))))
    (fun m i s=>qal_i21 m p.threads p.threads.length i p.mutexes.length (p.cells.map (·.name)) p.mutexes (p.threads.map (·.name)) 0 [] th (p.cells.map (·.init)) s.1 s.2)
    (fun m i s h0 h _=>by simp only[qal_i21,qal_t21,decide_eq_false h,cond_false,thrW])
    (fun m i s y r h0 h hy hm hI=>by
     simp only[List.length_cons] at hI;have hb:=zaef hm;simp only[qal_i21,qal_t21,decide_eq_true h,decide_eq_true h0,cond_true,hy,Option.bind_some,thrW];rw[acX th y.body (by omega)];cases ha:acNs (thB th) (objM th) y.body [] with
     |inr e=>exact Or.inr rfl
     |inl a=>
      refine Or.inl ⟨(s.1++[⟨a.2.length,a.1⟩],s.2++[a.2]),by simp; omega,?_,rfl⟩;simp only[acOut,Option.bind_some,List.length_cons,List.length_nil,zaox];rw[decide_eq_true (by omega),cond_true,decide_eq_true (by omega),cond_true,i64_in (i+1) (by omega)])
    fuel ([],[]) (by unfold fuel; omega) (by simp)
   rw[qal_l21,zaaa,e21];obtain ⟨h1,h2⟩:=zar4 th p.threads ([],[]);cases hz:thrM th p.threads with
   |inr e=>
    obtain ⟨q,hq⟩:=h2 e hz;rw[hq];rfl
   |inl z=>
    rw[h1 z hz];rfl
end Lift.A9
namespace Lift.A9
open Go Go.RowKit Lift Go.IntWalk Lift.Fn Lift.A3
set_option linter.unusedVariables false
set_option linter.unusedSimpArgs false
theorem zacv (x:Nm) (l:List Nm) (s:Nm):plc (x::l) s=bif x==s then 0 else bif decide (plc l s<0) then -1 else plc l s+1:=by
 unfold plc;rw[List.findIdx?_cons];cases hx:x==s with
 |true=>rfl
 |false=>
  simp only[Bool.false_eq_true,if_false];cases l.findIdx? (·==s) with
  |none=>rfl
  |some i=>
   simp only[Option.map_some,cond_false];rw[decide_eq_false (by omega),cond_false];omega
theorem zaer (l:List Nm) (s:Nm):-1≤plc l s∧plc l s<(l.length:Int):=by
 induction l with
 |nil=>rw[zani]; simp
 |cons x l ih=>
  rw[zacv];cases x==s with
  |true=>simp only[cond_true,List.length_cons]; omega
  |false=>
   rw[cond_false];cases h:decide (plc l s<0) with
   |true=>simp only[cond_true,List.length_cons]; omega
   |false=>
    rw[decide_eq_false_iff_not] at h;simp only[cond_false,List.length_cons];omega
theorem zafl (l:List Nm) (s:Nm):(0≤plc l s)↔s∈l:=by
 induction l with
 |nil=>rw[zani]; simp
 |cons x l ih=>
  rw[zacv,List.mem_cons];cases hx:x==s with
  |true=>
   have:x=s:=eq_of_beq hx;simp[this]
  |false=>
   have hne:¬ s=x:=by intro h; rw[h,beq_self_eq_true] at hx; cases hx
   rw[cond_false];cases h:decide (plc l s<0) with
   |true=>
    rw[decide_eq_true_eq] at h;have:¬ s∈l:=fun hm=>by have:=ih.2 hm; omega
    simp only[cond_true];constructor
    ·intro h; omega
    ·rintro (h|h)
     ·exact absurd h hne
     ·exact absurd h this
   |false=>
    rw[decide_eq_false_iff_not] at h;simp only[cond_false];constructor
    ·intro _; exact Or.inr (ih.1 (by omega))
    ·intro _; omega
def ent (c:Int):Nat→List Nm→List (Nm×Thing)
 |_,[]=>[]
 |k,s::l=>(s,⟨c,k⟩)::ent c (k+1) l
theorem zaff (c : Int) : ∀ (l : List Nm) (k : Nat), (ent c k l).map (·.1) = l
 |[],k=>rfl
 |s::l,k=>by rw[ent,List.map_cons,zaff c l (k+1)]
def dupM:List Nm→List Nm→Option Nm
 |_,[]=>none
 |seen,s::l=>bif seen.any (·==s) then some s else dupM (seen++[s]) l
theorem zalo : ∀ (l r seen : List Nm), dupM seen (l ++ r) = match dupM seen l with | some s => some s | none => dupM (seen ++ l) r
 |[],r,seen=>by rw[dupM,List.nil_append,List.append_nil]
 |s::l,r,seen=>by
  rw[List.cons_append,dupM,dupM];cases seen.any (·==s) with
  |true=>rfl
  |false=>rw[cond_false,cond_false,zalo l r,List.append_assoc]; rfl
theorem zan3 (th th':List (Nm×Thing)) (s:Nm):mapAt (th++th') s=match mapAt th s with|some v=>some v|none=>mapAt th' s:=by
 unfold mapAt;rw[List.find?_append];cases th.find? (fun y=>y.1==s)<;>rfl
theorem zah1 (th:List (Nm×Thing)) (s:Nm):thB th s=(th.map (·.1)).any (·==s):=by
 unfold thB mapAt;rw[List.any_map];induction th with
 |nil=>rfl
 |cons x th ih=>
  rw[List.find?_cons,List.any_cons];cases hx:x.1==s with
  |true=>simp[hx]
  |false=>simp only[Function.comp,hx,Bool.false_or]; exact ih
theorem zal5 (s:Nm) (v:Thing):∀ th:List (Nm×Thing),thB th s=false→zaau s v th=th++[(s,v)]
 |[],_=>rfl
 |x::th,h=>by
  rw[zah1,List.map_cons,List.any_cons,Bool.or_eq_false_iff] at h;rw[zaau,h.1,cond_false,zal5 s v th (by rw[zah1]; exact h.2)];rfl
theorem zaj7 (c : Int) : ∀ (l : List Nm) (k : Nat) (th : List (Nm × Thing)), addM c k l th = match dupM (th.map (·.1)) l with | some s => .inr s | none => .inl (th ++ ent c k l)
 |[],k,th=>by rw[addM,dupM,ent,List.append_nil]
 |s::l,k,th=>by
  rw[addM,dupM,zah1];cases h:(th.map (·.1)).any (·==s) with
  |true=>rfl
  |false=>
   rw[cond_false,cond_false,zal5 s _ th (by rw[zah1]; exact h),zaj7 c l (k+1),List.map_append,ent];show (match dupM (th.map (·.1)++[s]) l with|some s=>_|none=>_)=_;cases dupM (th.map (·.1)++[s]) l with
   |some s=>rfl
   |none=>simp only[List.append_assoc]; rfl
def entP (n:Names):List (Nm×Thing):=ent 1 0 n.cells++(ent 2 0 n.mutexes++ent 3 0 n.threads)
def allP (n:Names):List Nm:=n.cells++(n.mutexes++n.threads)
theorem zawp (n:Names):addLs 0 [n.cells,n.mutexes,n.threads] []=match dupM [] (allP n) with|some s=>.inr s|none=>.inl (entP n):=by
 unfold allP entP;rw[zalo,zalo];rw[addLs,zaj7,List.map_nil];cases dupM [] n.cells with
 |some s=>rfl
 |none=>
  simp only[List.nil_append];rw[addLs,zaj7,zaff];cases dupM n.cells n.mutexes with
  |some s=>rfl
  |none=>
   simp only;rw[addLs,zaj7,List.map_append,zaff,zaff];cases dupM (n.cells++n.mutexes) n.threads with
   |some s=>rfl
   |none=>simp only[List.append_assoc,addLs]; rfl
theorem zanr:∀ (l seen:List Nm),dupM seen l=none→(∀ s∈l,s∉seen)∧l.Nodup
 |[],seen,_=>⟨by simp,List.nodup_nil⟩
 |s::l,seen,h=>by
  rw[dupM] at h;cases hs:seen.any (·==s) with
  |true=>rw[hs] at h; cases h
  |false=>
   rw[hs,cond_false] at h;obtain ⟨h1,h2⟩:=zanr l _ h;have hn:s∉seen:=by
    intro hm;rw[List.any_eq_false] at hs;exact hs s hm (beq_self_eq_true s)
   refine ⟨?_,?_⟩
   ·intro t ht;rcases List.mem_cons.1 ht with rfl|ht
    ·exact hn
    ·intro hm;exact h1 t ht (List.mem_append.2 (Or.inl hm))
   ·refine List.nodup_cons.2 ⟨?_,h2⟩;intro hm;exact h1 s hm (by simp)
theorem zahj (c:Int) (s:Nm):∀ (l:List Nm) (k:Nat),mapAt (ent c k l) s=bif decide (plc l s<0) then none else some ⟨c,k+plc l s⟩
 |[],k=>rfl
 |x::l,k=>by
  rw[zacv,ent];have e:mapAt ((x,(⟨c,k⟩:Thing))::ent c (k+1) l) s=bif x==s then some ⟨c,k⟩ else mapAt (ent c (k+1) l) s:=by
   unfold mapAt;rw[List.find?_cons];show Option.map _ (match x==s with|true=>_|false=>_)=_;cases x==s<;>rfl
  rw[e,zahj c s l (k+1)];cases x==s with
  |true=>
   show some (⟨c,k⟩:Thing)=some ⟨c,(k:Int)+0⟩;rw[Int.add_zero]
  |false=>
   rw[cond_false,cond_false];cases h:decide (plc l s<0) with
   |true=>rfl
   |false=>
    rw[decide_eq_false_iff_not] at h;rw[cond_false,cond_false,decide_eq_false (by omega),cond_false];congr 2;omega
def thing (n:Names) (s:Nm):Bool:=(decide (0≤plc n.cells s)||decide (0≤plc n.mutexes s))||decide (0≤plc n.threads s)
def plK (n:Names) (k:Int) (s:Nm):Int:=bif needK k==1 then plc n.cells s else bif needK k==2 then plc n.mutexes s else plc n.threads s
def objN (n:Names) (k:Int) (s:Nm):Int⊕(Int×Nm):=bif needK k==0 then .inl 0 else bif thing n s then (bif decide (plK n k s<0) then .inr (65,s) else .inl (plK n k s)) else .inr (64,s)
theorem zatk (n:Names) (s:Nm):thing n s=(allP n).any (·==s):=by
 have key:∀ l:List Nm,decide (0≤plc l s)=l.any (·==s):=by
  intro l;rw[Bool.eq_iff_iff,decide_eq_true_eq,zafl,List.any_eq_true];constructor
  ·intro h; exact ⟨s,h,beq_self_eq_true s⟩
  ·rintro ⟨x,hx,e⟩; have:=eq_of_beq e; rw[← this]; exact hx
 unfold thing allP;rw[key,key,key,List.any_append,List.any_append,Bool.or_assoc]
theorem zarm (n:Names):thB (entP n)=thing n:=by
 funext s;rw[zah1,zatk];unfold entP allP;rw[List.map_append,List.map_append,zaff,zaff,zaff]
theorem zaht (k:Int):needK k=0∨needK k=1∨needK k=2∨needK k=3:=by
 unfold needK;cases (k==2||k==3||k==4)<;>cases (k==5||k==6)<;>cases (k==7||k==8)<;>simp
theorem zavj (n:Names) (hd:dupM [] (allP n)=none):objM (entP n)=objN n:=by
 obtain ⟨_,hn⟩:=zanr _ _ hd;unfold allP at hn;rw[List.nodup_append,List.nodup_append] at hn;obtain ⟨_,⟨_,_,hbc⟩,habc⟩:=hn;funext k s;unfold objM objN;rw[zarm];cases hk:needK k==0 with
 |true=>rfl
 |false=>
  rw[cond_false,cond_false];cases ht:thing n s with
  |false=>rfl
  |true=>
   rw[cond_true,cond_true];unfold entP;rw[zan3,zan3,zahj,zahj,zahj];simp only[Int.natCast_zero,Int.zero_add];have hk0:needK k≠0:=by intro h; rw[h] at hk; cases hk
   have hA:=zafl n.cells s;have hB:=zafl n.mutexes s;have hC:=zafl n.threads s;unfold plK;cases ca:decide (plc n.cells s<0) with
   |false=>
    rw[decide_eq_false_iff_not] at ca;have ma:=hA.1 (by omega);have nb:¬ s∈n.mutexes:=fun h=>habc s ma s (List.mem_append.2 (Or.inl h)) rfl
    have nc:¬ s∈n.threads:=fun h=>habc s ma s (List.mem_append.2 (Or.inr h)) rfl
    have ib:plc n.mutexes s<0:=by by_cases h:0≤plc n.mutexes s; exact absurd (hB.1 h) nb; omega
    have ic:plc n.threads s<0:=by by_cases h:0≤plc n.threads s; exact absurd (hC.1 h) nc; omega
    rcases zaht k with h|h|h|h
    ·exact absurd h hk0
    ·rw[h]; simp[ca]
    ·rw[h]; simp[ib]
    ·rw[h]; simp[ic]
   |true=>
    rw[decide_eq_true_eq] at ca;cases cb:decide (plc n.mutexes s<0) with
    |false=>
     rw[decide_eq_false_iff_not] at cb;have mb:=hB.1 (by omega);have nc:¬ s∈n.threads:=fun h=>hbc s mb s h rfl
     have ic:plc n.threads s<0:=by by_cases h:0≤plc n.threads s; exact absurd (hC.1 h) nc; omega
     rcases zaht k with h|h|h|h
     ·exact absurd h hk0
     ·rw[h]; simp[ca]
     ·rw[h]; simp[cb]
     ·rw[h]; simp[ic]
    |true=>
     rw[decide_eq_true_eq] at cb;have ic:¬ plc n.threads s<0:=by
      unfold thing at ht;simp only[Bool.or_eq_true,decide_eq_true_eq] at ht;omega
     rcases zaht k with h|h|h|h
     ·exact absurd h hk0
     ·rw[h]; simp[ca,ic]
     ·rw[h]; simp[cb,ic]
     ·rw[h]; simp[ic]
def headN (n:Names):Option (Int×Nm):=
 bif n.threads.length==0 then some (60,[]) else bif zaax n.threads then some (60,(n.threads[8]?).getD []) else bif zaax n.cells then some (61,(n.cells[8]?).getD [])
 else bif zaax n.mutexes then some (62,(n.mutexes[8]?).getD []) else match dupM [] (allP n) with|some s=>some (63,s)|none=>none
theorem zaup (n:Names):zah0 n=match headN n with|some e=>.inr e|none=>.inl (entP n):=by
 unfold zah0 headN;rw[zawp];cases n.threads.length==0<;>cases zaax n.threads<;>cases zaax n.cells<;>cases zaax n.mutexes<;>try rfl
 simp only[cond_false];cases dupM [] (allP n)<;>rfl
theorem zavd {n:Names} (h:headN n=none):dupM [] (allP n)=none:=by
 unfold headN at h;revert h;cases n.threads.length==0<;>cases zaax n.threads<;>cases zaax n.cells<;>cases zaax n.mutexes<;>simp only[cond_true,cond_false]<;>try (intro h; cases h)
 cases dupM [] (allP n) with
 |none=>intro _; rfl
 |some s=>intro h; cases h
def thrN (n:Names):List TThread→List (List TAct×List Nm)⊕(Int×Nm)
 |[]=>.inl []
 |t::l=>match acNs (thing n) (objN n) t.body [] with
  |.inr e=>.inr e
  |.inl y=>match thrN n l with
   |.inr e=>.inr e
   |.inl z=>.inl (y::z)
theorem zarw (n:Names) (h:dupM [] (allP n)=none):∀ l,thrM (entP n) l=thrN n l
 |[]=>rfl
 |t::l=>by
  rw[thrM,thrN,zarw n h l];show (match acNs (thB (entP n)) (objM (entP n)) t.body [] with|.inr e=>_|.inl y=>_)=_;rw[zarm,zavj n h]
  all_goals
   cases acNs (thing n) (objN n) t.body [] with
   |inr e=>rfl
   |inl y=>simp only; cases thrN n l<;>rfl
theorem zaj2 (p:TProg):zadu p=match headN (zabx p) with
 |some e=>.inr e
 |none=>match thrN (zabx p) p.threads with
  |.inr e=>.inr e
  |.inl z=>.inl (⟨p.cells.map (·.init),p.mutexes.length,z.map fun y=>⟨y.2.length,y.1⟩⟩,⟨p.cells.map (·.name),p.mutexes,p.threads.map (·.name),z.map (·.2)⟩):=by
 unfold zadu;rw[zaup];cases h:headN (zabx p) with
 |some e=>rfl
 |none=>
  simp only;rw[zarw _ (zavd h)];all_goals cases thrN (zabx p) p.threads<;>rfl
end Lift.A9
namespace Lift.A9
open Go Go.RowKit Lift Go.IntWalk Lift.Fn Lift.A3
set_option linter.unusedVariables false
set_option linter.unusedSimpArgs false
theorem nm_a:isNm [97]=true:=(nm_of [97] [97] ⟨1,[97],0,0⟩ (by decide) (by decide +kernel) (by decide +kernel) (by decide +kernel)).trans (by decide)
theorem nm_b:isNm [98]=true:=(nm_of [98] [98] ⟨1,[98],0,0⟩ (by decide) (by decide +kernel) (by decide +kernel) (by decide +kernel)).trans (by decide)
theorem nm_c:isNm [99]=true:=(nm_of [99] [99] ⟨1,[99],0,0⟩ (by decide) (by decide +kernel) (by decide +kernel) (by decide +kernel)).trans (by decide)
def noX:TExpr:=⟨0,0,[],[]⟩
def s1 (a x:Nm):TStmt:=⟨2,a,x,noX,0,[],[]⟩
def s2 (a b c:Nm):TStmt:=⟨1,b,[],⟨5,0,[],[⟨2,0,a,[]⟩,⟨2,0,c,[]⟩]⟩,0,[],[]⟩
def pS (x t a b c:Nm):TProg:=⟨[⟨x,3⟩],[],[⟨t,[s1 a x,s2 a b c]⟩]⟩
def pT:TProg:=⟨[⟨[116],0⟩],[],[⟨[116],[]⟩]⟩
theorem rS {x t a b c:Nm} (hx:isNm x=true) (ht:isNm t=true) (ha:isNm a=true) (hb:isNm b=true) (hc:isNm c=true):zaby (pS x t a b c)=0:=by
 have e1:sF (s1 a x)=true:=by
  have h2:shp 2=⟨true,true,false,false,false,false⟩:=by decide
  have hi:inR 2=true:=by decide
  simp[sF,s1,noX,sOk,h2,hi,isOpt,hx,ha,zaan,none_,sFs]
 have e2:sF (s2 a b c)=true:=by
  have h1:shp 1=⟨true,false,true,false,false,false⟩:=by decide
  have hi:inR 1=true:=by decide
  simp[sF,s2,sOk,h1,hi,isOpt,ha,hb,hc,zaan,eF,eFs,xOk,sFs]
 have ok:pOk (pS x t a b c)=true:=by
  simp[pOk,pS,cOk,hx,ht,sFs,e1,e2]
 unfold zaby;rw[ok];have h1:maxEv (evP (pS x t a b c)) 0=2:=by simp[evP,pS,s1,s2,noX,evSs,evS,zaan,evE,evEs,maxEv,evD]; rfl
 have h2:cT (pS x t a b c).threads=5:=by simp[pS,s1,s2,noX,cT,cSs,cS,zaan,nE,nEs]
 rw[h1,h2];rfl
theorem rT:zaby pT=0:=by
 have ok:pOk pT=true:=by simp[pOk,pT,cOk,nm_t,sFs]
 unfold zaby;rw[ok];have h1:maxEv (evP pT) 0=0:=by simp[evP,pT,evSs,maxEv]
 have h2:cT pT.threads=0:=by simp[pT,cT,cSs]
 rw[h1,h2];rfl
def uS:TUnit:=⟨[3],0,[⟨3,[⟨2,0,0,noX,0,[],[]⟩,⟨1,1,0,⟨5,0,[],[⟨2,0,[],[]⟩,⟨2,2,[],[]⟩]⟩,0,[],[]⟩]⟩]⟩
def nS0:Names:=⟨[[120]],[],[[116]],[[[97],[98],[99]]]⟩
theorem chS:zadu (pS [120] [116] [97] [98] [99])=.inl (uS,nS0):=by kernel_rfl
theorem cT0:zadu pT=.inr (63,[116]):=by kernel_rfl
theorem rUS:zalw uS=true:=by
 unfold zalw;have:zadq uS (nmsU uS)=pS [120] [120] [120] [120] [120]:=by kernel_rfl
 rw[this,rS nm_x nm_x nm_x nm_x nm_x];rfl
theorem zaxr:qaM=some true:=by
 rw[qaM,zaaa];unfold qaM_f;have e1:=zamx (pS [120] [116] [97] [98] [99]) (by decide) (by decide) (by decide);have e2:=zamx pT (by decide) (by decide) (by decide);have e3:=zas9 uS (by decide) (by decide);rw[zacg,rS nm_x nm_t nm_a nm_b nm_c,chS] at e1;rw[zacg,rT,cT0] at e2;rw[rUS] at e3;show Option.bind (qal (pS [120] [116] [97] [98] [99])) _=_;rw[e1,Option.bind_some];show Option.bind (qal pT) _=_;rw[e2,Option.bind_some];show Option.bind (qam uS) _=_;rw[e3];rfl
end Lift.A9
namespace Lift.A9
open Go Go.RowKit Lift Go.IntWalk Lift.Fn Lift.A3
set_option linter.unusedVariables false
set_option linter.unusedSimpArgs false
structure St where
 e:Int
 nm:Nm
 rs:List Nm
structure Nok (n:Names):Prop where
 c:n.cells.length≤100000000
 m:n.mutexes.length≤100000000
 t:n.threads.length≤100000000
end Lift.A9
namespace Lift.A9
open Go Go.RowKit Lift Go.IntWalk Lift.Fn Lift.A3
set_option linter.unusedVariables false
set_option linter.unusedSimpArgs false
end Lift.A9
namespace Lift.A9
open Go Go.RowKit Lift Go.IntWalk Lift.Fn Lift.A3
set_option linter.unusedVariables false
set_option linter.unusedSimpArgs false
end Lift.A9
namespace Lift.A9
open Go Go.RowKit Lift Go.IntWalk Lift.Fn Lift.A3
set_option linter.unusedVariables false
set_option linter.unusedSimpArgs false
theorem zals {x:TStmt} (h:sOk x=true):inR x.kind=true∧(shp x.kind).reg=!(x.reg==[])∧(shp x.kind).name=!(needK x.kind==0)∧(shp x.kind).expr=!(x.expr.kind==0):=by
 unfold sOk at h;simp only[Bool.and_eq_true] at h;obtain ⟨⟨⟨⟨⟨⟨h1,h2⟩,_⟩,h4⟩,_⟩,_⟩,_⟩:=h;refine ⟨h1,?_,zawl h1,?_⟩
 ·unfold isOpt at h2;cases hb:(shp x.kind).reg with
  |true=>
   rw[hb] at h2;simp only[Bool.true_and,Bool.not_true,Bool.false_and,Bool.or_false] at h2;cases he:x.reg==[] with
   |false=>rfl
   |true=>
    have:=eq_of_beq he;rw[this,zasd] at h2;cases h2
  |false=>
   rw[hb] at h2;simp only[Bool.false_and,Bool.not_false,Bool.true_and,Bool.false_or] at h2;rw[h2];rfl
 ·cases hb:(shp x.kind).expr with
  |true=>
   rw[hb] at h4;simp only[Bool.true_and,Bool.not_true,Bool.false_and,Bool.or_false,bne] at h4;exact h4.symm
  |false=>
   rw[hb] at h4;simp only[Bool.false_and,Bool.not_false,Bool.true_and,Bool.false_or,none_,Bool.and_eq_true] at h4;rw[h4.1.1.1];rfl
end Lift.A9
namespace Lift.A9
open Go Go.RowKit Lift Go.IntWalk Lift.Fn Lift.A3
set_option linter.unusedVariables false
set_option linter.unusedSimpArgs false
theorem zane (y : Nm) : ∀ a b : List Nm, plc (a ++ b) y = bif a.any (· == y) then plc a y else bif decide (plc b y < 0) then -1 else a.length + plc b y
 |[],b=>by
  rw[List.nil_append,List.any_nil,cond_false];have:=zaer b y;cases h:decide (plc b y<0) with
  |true=>rw[decide_eq_true_eq] at h; rw[cond_true]; omega
  |false=>rw[cond_false]; simp
 |x::a,b=>by
  rw[List.cons_append,zacv,zacv,zane y a b,List.any_cons];cases hx:x==y with
  |true=>rfl
  |false=>
   simp only[cond_false,Bool.false_or];cases ha:a.any (·==y) with
   |true=>rfl
   |false=>
    simp only[cond_false];cases hb:decide (plc b y<0) with
    |true=>rfl
    |false=>
     rw[decide_eq_false_iff_not] at hb;simp only[cond_false,List.length_cons];rw[decide_eq_false (by omega),cond_false];omega
theorem zaxt {l:List Nm} {i:Nat} {y:Nm} {r:List Nm} (h:l=l.take i++y::r) (hi:i<l.length):decide (plc l y<(i:Int))=(l.take i).any (·==y):=by
 have hl:(l.take i).length=i:=by simp; omega
 rw[h,zane];have e0:plc (y::r) y=0:=by rw[zacv,beq_self_eq_true,cond_true]
 rw[e0];have hh:(l.take i++y::r).take i=l.take i:=by rw[← h]
 rw[hh];have hr:=zaer (l.take i) y;cases (l.take i).any (·==y) with
 |true=>rw[cond_true]; exact decide_eq_true (by omega)
 |false=>
  have z:decide ((0:Int)<0)=false:=rfl;simp only[cond_false,z];exact decide_eq_false (by omega)
end Lift.A9
namespace Lift.A9
open Go Go.RowKit Lift Go.IntWalk Lift.Fn Lift.A3
set_option linter.unusedVariables false
set_option linter.unusedSimpArgs false
structure SC where
 e:Int
 nm:Nm
 R:List (List Nm)
 B:List TBody
theorem zaj4 {p:TProg} (h:zaby p=0):pOk p=true:=by
 unfold zaby at h;cases hp:pOk p with
 |true=>rfl
 |false=>rw[hp] at h; simp at h
theorem zapy {p:TProg} (h:pOk p=true):∀ t∈p.threads,isNm t.name=true∧sFs t.body=true:=by
 unfold pOk at h;simp only[Bool.and_eq_true,List.all_eq_true] at h;exact h.2.2
end Lift.A9
namespace Lift.A9
open Go Go.RowKit Lift Go.IntWalk Lift.Fn Lift.A3
set_option linter.unusedVariables false
set_option linter.unusedSimpArgs false
theorem actsR:∀ (k f:Nat) (l:List TAct),nAs l≤k→k<f→k≤100000000→qaL_i f l l=some true:=by
 intro k;induction k with
 |zero=>
  intro f l h hf _;obtain ⟨f,rfl⟩:∃ q,f=q+1:=⟨f-1,by omega⟩;have hl:=zah8 l;obtain rfl:l=[]:=List.eq_nil_of_length_eq_zero (by omega);show qaL_f (qaL_i f) [] []=_;unfold qaL_f;rw[qaL_l4,zaaa];rfl
 |succ k ih=>
  intro f l h hf hb;obtain ⟨f,rfl⟩:∃ q,f=q+1:=⟨f-1,by omega⟩;have hl:=zah8 l;show qaL_f (qaL_i f) l l=_;unfold qaL_f;rw[show ((l.length:Int) != (l.length:Int))=false by simp,cond_false,qaL_l4,zaaa]
  have hL := zadz (fun _ : TAct => true) l () (fun m i => qaL_i4 (qaL_i f) m l l i)
   (fun m i h0 h=>by simp only[qaL_i4,qaL_t4,decide_eq_false h,cond_false])
   (fun m i a h0 h ha ma=>by
    have h5:=zang ma;have h6:=nA_eq a;have nb:∀ x:Int,(x != x)=false:=by intro x; simp
    simp only[qaL_i4,qaL_t4,decide_eq_true h,decide_eq_true h0,cond_true,ha,Option.bind_some,zaay];rw[zare a.expr a.expr (by omega),zar1,ih f a.then_ (by omega) (by omega) (by omega),ih f a.else_ (by omega) (by omega) (by omega)];simp only[Option.bind_some,nb,Bool.not_true,cond_false];rw[i64_in (i+1) (by omega)])
   fuel (by unfold fuel; omega)
  rw[hL];have:l.all (fun _=>true)=true:=by simp
  rw[this];rfl
theorem zatt (u:TUnit) (h:nB u.threads≤100000000) (hc:u.cells.length≤100000000):qaG u u=some true:=by
 rw[qaG,zaaa];unfold qaG_f;have nb:∀ x:Int,(x != x)=false:=by intro x; simp
 have hl:=zaly u.threads;simp only[nb,Option.bind_some,cond_false]
 have hL := zadz (fun _ : Int => true) u.cells (u.cells, u.mutexes, u.threads, u.cells, u.mutexes, u.threads) (fun m i => qaG_i4 m i u.cells u.mutexes u.threads u.cells u.mutexes u.threads)
  (fun m i h0 h=>by simp only[qaG_i4,qaG_t4,decide_eq_false h,cond_false])
  (fun m i a h0 h ha ma=>by
   simp only[qaG_i4,qaG_t4,decide_eq_true h,decide_eq_true h0,cond_true,ha,Option.bind_some,nb,cond_false];rw[i64_in (i+1) (by omega)])
  fuel (by unfold fuel; omega)
 have e1:u.cells.all (fun _=>true)=true:=by simp
 rw[qaG_l4,zaaa,hL,e1];simp only[cond_true,Option.bind_some]
 have hL2 := zadz (fun _ : TBody => true) u.threads () (fun m i => qaG_i9 m i u.cells u.mutexes u.threads u.cells u.mutexes u.threads)
  (fun m i h0 h=>by simp only[qaG_i9,qaG_t9,decide_eq_false h,cond_false])
  (fun m i a h0 h ha ma=>by
   have hb:=zaoy ma;simp only[qaG_i9,qaG_t9,decide_eq_true h,decide_eq_true h0,cond_true,ha,Option.bind_some,nb,cond_false];rw[qaL,zaaa,actsR (nAs a.acts) fuel a.acts (Nat.le_refl _) (by unfold fuel; omega) (by omega)];simp only[Option.bind_some,Bool.not_true,cond_false];rw[i64_in (i+1) (by omega)])
  fuel (by unfold fuel; omega)
 have e2:u.threads.all (fun _=>true)=true:=by simp
 rw[qaG_l9,zaaa,hL2,e2];rfl
mutual
theorem exM_n (th:Nm→Bool):∀ (x:TExpr) (rs:List Nm) (y:TExpr×List Nm),exM th x rs=.inl y→nE y.1=nE x
 |⟨k,n,s,l⟩,rs,y,h=>by
  rw[exM] at h;cases hk:k==2 with
  |true=>
   rw[hk,cond_true] at h;cases hr:regM th rs s with
   |inr e=>rw[hr] at h; cases h
   |inl r=>
    rw[hr] at h;simp only at h;cases hz:exMs th l r.2 with
    |inr e=>rw[hz] at h; cases h
    |inl z=>rw[hz] at h; cases h; simp only[nE,zaqh th l r.2 z hz]
  |false=>
   rw[hk,cond_false] at h;cases hz:exMs th l rs with
   |inr e=>rw[hz] at h; cases h
   |inl z=>rw[hz] at h; cases h; simp only[nE,zaqh th l rs z hz]
theorem zaqh (th:Nm→Bool):∀ (l:List TExpr) (rs:List Nm) (y:List TExpr×List Nm),exMs th l rs=.inl y→nEs y.1=nEs l
 |[],rs,y,h=>by rw[exMs] at h; cases h; rfl
 |x::l,rs,y,h=>by
  rw[exMs] at h;cases hx:exM th x rs with
  |inr e=>rw[hx] at h; cases h
  |inl z=>
   rw[hx] at h;simp only at h;cases hz:exMs th l z.2 with
   |inr e=>rw[hz] at h; cases h
   |inl q=>rw[hz] at h; cases h; simp only[nEs,exM_n th x rs z hx,zaqh th l z.2 q hz]
end
theorem exO_n {th:Nm→Bool} {x:TExpr} {rs:List Nm} {y:TExpr×List Nm} (h:exO th x rs=.inl y):nE y.1≤nE x:=by
 unfold exO at h;cases hk:x.kind==0 with
 |true=>
  rw[hk] at h;cases h;have:=nE_eq x;simp only[nE,nEs];omega
 |false=>rw[hk] at h; exact Nat.le_of_eq (exM_n th x rs y h)
mutual
theorem acN_n (tf:Nm→Bool) (ob:Int→Nm→Int⊕(Int×Nm)):∀ (x:TStmt) (rs:List Nm) (y:TAct×List Nm),acN tf ob x rs=.inl y→nA y.1≤nS x
 |⟨k,r,nm,x,c,t,o⟩,rs,y,h=>by
  rw[acN] at h;cases h1:regO tf rs r with
  |inr e=>rw[h1] at h; cases h
  |inl a=>
   rw[h1] at h;simp only at h;cases h2:ob k nm with
   |inr e=>rw[h2] at h; cases h
   |inl b=>
    rw[h2] at h;simp only at h;cases h3:exO tf x a.2 with
    |inr e=>rw[h3] at h; cases h
    |inl z=>
     rw[h3] at h;simp only at h;cases h4:acNs tf ob t z.2 with
     |inr e=>rw[h4] at h; cases h
     |inl p=>
      rw[h4] at h;simp only at h;cases h5:acNs tf ob o p.2 with
      |inr e=>rw[h5] at h; cases h
      |inl q=>
       rw[h5] at h;cases h;have e1:=exO_n h3;have e2:=zamg tf ob t z.2 p h4;have e3:=zamg tf ob o p.2 q h5;simp only[nA,nS];omega
theorem zamg (tf:Nm→Bool) (ob:Int→Nm→Int⊕(Int×Nm)):∀ (l:List TStmt) (rs:List Nm) (y:List TAct×List Nm),acNs tf ob l rs=.inl y→nAs y.1≤nSs l
 |[],rs,y,h=>by rw[zag1] at h; cases h; simp[nAs]
 |x::l,rs,y,h=>by
  rw[zahh] at h;cases h1:acN tf ob x rs with
  |inr e=>rw[h1] at h; cases h
  |inl a=>
   rw[h1] at h;simp only at h;cases h2:acNs tf ob l a.2 with
   |inr e=>rw[h2] at h; cases h
   |inl b=>
    rw[h2] at h;cases h;have e1:=acN_n tf ob x rs a h1;have e2:=zamg tf ob l a.2 b h2;simp only[nAs,nSs];omega
end
theorem zau3 (n : Names) : ∀ (l : List TThread) (z : List (List TAct × List Nm)), thrN n l = .inl z → nB (z.map fun y => ⟨y.2.length, y.1⟩) ≤ nT l ∧ z.length = l.length ∧ ∀ y ∈ z, y.2.length ≤ 8
 |[],z,h=>by rw[thrN] at h; cases h; simp[nB,nT]
 |t::l,z,h=>by
  rw[thrN] at h;cases h1:acNs (thing n) (objN n) t.body [] with
  |inr e=>rw[h1] at h; cases h
  |inl a=>
   rw[h1] at h;simp only at h;cases h2:thrN n l with
   |inr e=>rw[h2] at h; cases h
   |inl b=>
    rw[h2] at h;cases h;have e1:=zamg _ _ t.body [] a h1;obtain ⟨e2,e3,e4⟩:=zau3 n l b h2;have e5:=zacd (thing n) (objN n) t.body [] a (by simp) h1;refine ⟨by simp only[List.map_cons,nB,nT]; omega,by simp[e3],?_⟩;intro y hy;rcases List.mem_cons.1 hy with rfl|hy
    ·exact e5
    ·exact e4 y hy
theorem zawn (p:TProg) (h:nT p.threads≤100000000) (h1:p.cells.length≤10000000) (h2:p.mutexes.length≤10000000) :
  nB (zacg p).1.threads≤100000000∧(zacg p).1.cells.length≤100000000∧(zacg p).2.1.cells.length≤100000000∧(zacg p).2.1.mutexes.length≤100000000∧(zacg p).2.1.threads.length≤100000000∧(zacg p).2.1.regs.length≤100000000∧∀ l∈(zacg p).2.1.regs,l.length≤100000000:=by
 have hl:=zac6 p.threads;unfold zacg;cases zaby p != 0 with
 |true=>simp[unit0,zajn,nB]
 |false=>
  rw[cond_false,zaj2];cases headN (zabx p) with
  |some e=>simp[outC,unit0,zajn,nB]
  |none=>
   cases hz:thrN (zabx p) p.threads with
   |inr e=>simp[outC,unit0,zajn,nB]
   |inl z=>
    obtain ⟨e1,e2,e3⟩:=zau3 _ _ z hz;simp only[outC];refine ⟨by omega,by simp; omega,by simp; omega,by omega,by simp; omega,by simp; omega,?_⟩;intro l hm;rw[List.mem_map] at hm;obtain ⟨y,hy,rfl⟩:=hm;have:=e3 y hy;omega
end Lift.A9
namespace Lift.A9
open Go Go.RowKit Lift Go.IntWalk Lift.Fn Lift.A3
set_option linter.unusedVariables false
set_option linter.unusedSimpArgs false
end Lift.A9
namespace Lift.A9
open Go Go.RowKit Lift Go.IntWalk Lift.Fn Lift.A3
set_option linter.unusedVariables false
set_option linter.unusedSimpArgs false
end Lift.A9
namespace Lift.A9
open Go Go.RowKit Lift Go.IntWalk Lift.Fn Lift.A3
set_option linter.unusedVariables false
set_option linter.unusedSimpArgs false
end Lift.A9
namespace Lift.A9
open Go Go.RowKit Lift Go.IntWalk Lift.Fn Lift.A3
set_option linter.unusedVariables false
set_option linter.unusedSimpArgs false
theorem evE_eq (x:TExpr) (d:Int):evE x d=.e x d::evEs x.args (d+1):=by cases x; rw[evE]
theorem evS_eq (y:TStmt) (d:Int):evS y d=.s y d::((if zaan y.expr then evE y.expr 1 else [])++(evSs y.then_ (d+1)++evSs y.else_ (d+1))):=by cases y; rw[evS]
def sh (l:List Ev):Prop:=∀ e∈l,evD e≤16
end Lift.A9
namespace Lift.A9
open Go Go.RowKit Lift Go.IntWalk Lift.Fn Lift.A3
set_option linter.unusedVariables false
set_option linter.unusedSimpArgs false
end Lift.A9
namespace Lift.A9
open Go Go.RowKit Lift Go.IntWalk Lift.Fn Lift.A3
set_option linter.unusedVariables false
set_option linter.unusedSimpArgs false
theorem zal1 {l:List Nm} {i:Int} (h0:0≤i) (h:i<(l.length:Int)):l[i.toNat]? = some (atL l i):=by
 have h4:i.toNat<l.length:=by omega
 unfold atL;rw[decide_eq_true h0,decide_eq_true h,List.getElem?_eq_getElem h4];rfl
def nmB (n:Names) (regs:List Nm):Namer:=⟨n.cells,n.mutexes,n.threads,regs⟩
structure Fit (u:TUnit) (n:Names):Prop where
 c:n.cells.length=u.cells.length
 m:(n.mutexes.length:Int)=u.mutexes
 t:n.threads.length=u.threads.length
end Lift.A9
namespace Lift.A9
open Go Go.RowKit Lift Go.IntWalk Lift.Fn Lift.A3
set_option linter.unusedVariables false
set_option linter.unusedSimpArgs false
end Lift.A9
namespace Lift.A9
open Go Go.RowKit Lift Go.IntWalk Lift.Fn Lift.A3
set_option linter.unusedVariables false
set_option linter.unusedSimpArgs false
end Lift.A9
namespace Lift.A9
open Go Go.RowKit Lift Go.IntWalk Lift.Fn Lift.A3
set_option linter.unusedVariables false
set_option linter.unusedSimpArgs false
theorem zarv:∀ (l:List Nm) (s:Nm),0≤plc l s→atL l (plc l s)=s:=by
 intro l s h;have hr:=(zaer l s).2;have g:=zal1 h hr;have key:∀ (l:List Nm),0≤plc l s→l[(plc l s).toNat]? = some s:=by
  intro l;induction l with
  |nil=>intro h; rw[zani] at h; omega
  |cons x l ih=>
   rw[zacv];cases hx:x==s with
   |true=>
    intro _;have:=eq_of_beq hx;rw[this];rfl
   |false=>
    rw[cond_false];cases hd:decide (plc l s<0) with
    |true=>rw[cond_true]; intro h; omega
    |false=>
     rw[decide_eq_false_iff_not] at hd;rw[cond_false];intro _;have e:(plc l s+1).toNat=(plc l s).toNat+1:=by omega
     rw[e,List.getElem?_cons_succ];exact ih (by omega)
 rw[key l h] at g;exact (Option.some.inj g).symm
structure XB (u:TUnit) (n:Names) (x:TExpr) (rs:List Nm) (y:TExpr×List Nm):Prop where
 p:rs <+: y.2
 k:y.1.kind=x.kind
 b:∀ RS,y.2 <+: RS→nX (nmB n RS) y.1=x
 r:∀ R:Int,(y.2.length:Int)≤R→eF (nX (nmU u R) y.1)=true
end Lift.A9
namespace Lift.A9
open Go Go.RowKit Lift Go.IntWalk Lift.Fn Lift.A3
set_option linter.unusedVariables false
set_option linter.unusedSimpArgs false
structure SB (u:TUnit) (n:Names) (x:TStmt) (rs:List Nm) (y:TAct×List Nm):Prop where
 p:rs <+: y.2
 b:∀ RS,y.2 <+: RS→nSt (nmB n RS) y.1=x
 r:∀ R:Int,(y.2.length:Int)≤R→sF (nSt (nmU u R) y.1)=true
structure LB (u:TUnit) (n:Names) (l:List TStmt) (rs:List Nm) (y:List TAct×List Nm):Prop where
 p:rs <+: y.2
 k:y.1.length=l.length
 b:∀ RS,y.2 <+: RS→nSts (nmB n RS) y.1=l
 r:∀ R:Int,(y.2.length:Int)≤R→sFs (nSts (nmU u R) y.1)=true
structure OB (u:TUnit) (n:Names) (x:TExpr) (rs:List Nm) (y:TExpr×List Nm):Prop where
 p:rs <+: y.2
 k:y.1.kind=x.kind
 z:x.kind=0→none_ y.1=true
 b:∀ RS,y.2 <+: RS→nX (nmB n RS) y.1=x
 r:∀ R:Int,(y.2.length:Int)≤R→(if zaan (nX (nmU u R) y.1) then eF (nX (nmU u R) y.1) else true)=true
end Lift.A9
namespace Lift.A9
open Go Go.RowKit Lift Go.IntWalk Lift.Fn Lift.A3
set_option linter.unusedVariables false
set_option linter.unusedSimpArgs false
end Lift.A9
namespace Lift.A9
open Go Go.RowKit Lift Go.IntWalk Lift.Fn Lift.A3
set_option linter.unusedVariables false
set_option linter.unusedSimpArgs false
theorem zauv (l:List Nm) (s:Nm) (h:l.length≤1000000000000):qaH l s=some (plc l s):=by
 rw[qaH,zaaa];unfold qaH_f
 have e := zaob (l := l) (s := s) (fun n i => qaH_i2 n l s i)
  (fun n i h0 h=>by simp only[qaH_i2,qaH_t2,decide_eq_false h,cond_false])
  (fun n i x h0 h hx=>by
   simp only[qaH_i2,qaH_t2,decide_eq_true h,decide_eq_true h0,cond_true,hx,Option.bind_some];rw[i64_in (i+1) (by omega)])
  l.length fuel 0 (by omega) (by unfold fuel; omega)
 rw[qaH_l2,zaaa,show (0:Int)=((0:Nat):Int) from rfl,e];unfold plc;rw[List.drop_zero];cases l.findIdx? (·==s) with
 |none=>rfl
 |some j=>simp
def ren (old other:List Nm) (s:Nm):Nm:=bif decide (plc old s<0) then s else atL other (plc old s)
theorem zadp (old other:List Nm) (s:Nm) (h:old.length≤1000000000000) (ho:old.length≤other.length):qaI s old other=some (ren old other s):=by
 rw[qaI,zaaa];unfold qaI_f ren;rw[zauv old s h,Option.bind_some];have hr:=zaer old s;cases hd:decide (plc old s<0) with
 |true=>rfl
 |false=>
  rw[decide_eq_false_iff_not] at hd;rw[cond_false,cond_false,decide_eq_true (by omega),cond_true,zal1 (by omega) (by omega)];rfl
mutual
def reE (f:Nm→Nm):TExpr→TExpr
 |⟨k,m,s,l⟩=>⟨k,m,f s,reEs f l⟩
def reEs (f:Nm→Nm):List TExpr→List TExpr
 |[]=>[]
 |x::l=>reE f x::reEs f l
end
theorem zaqd (f:Nm→Nm):∀ l,reEs f l=l.map (reE f)
 |[]=>by rw[reEs]; rfl
 |x::l=>by rw[reEs,zaqd f l]; rfl
theorem zauk (f:Nm→Nm) (x:TExpr):reE f x=⟨x.kind,x.num,f x.name,x.args.map (reE f)⟩:=by cases x; rw[reE,zaqd]
mutual
def reS (f:Nm→Nm):TStmt→TStmt
 |⟨k,r,n,x,c,t,o⟩=>⟨k,f r,f n,reE f x,c,reSs f t,reSs f o⟩
def reSs (f:Nm→Nm):List TStmt→List TStmt
 |[]=>[]
 |x::l=>reS f x::reSs f l
end
theorem zao5 (f:Nm→Nm):∀ l,reSs f l=l.map (reS f)
 |[]=>by rw[reSs]; rfl
 |x::l=>by rw[reSs,zao5 f l]; rfl
theorem zayh (f:Nm→Nm) (x:TStmt):reS f x=⟨x.kind,f x.reg,f x.name,reE f x.expr,x.count,reSs f x.then_,reSs f x.else_⟩:=by cases x; rw[reS]
theorem renE1 (old other:List Nm) (h:old.length≤1000000000000) (ho:old.length≤other.length):∀ (k f:Nat) (x:TExpr),nE x≤k→k<f→k≤100000000→qaJ_i f x old other=some (reE (ren old other) x):=by
 intro k;induction k with
 |zero=>intro f x h; have:=nE_eq x; omega
 |succ k ih=>
  intro f x hk hf hb;obtain ⟨f,rfl⟩:∃ q,f=q+1:=⟨f-1,by omega⟩;have hn:=nE_eq x;have hl:=zadf x.args
  have e4:∀ (a3 a4:Int) (a5:List UInt8) (a7 a8:Int) (a9:List UInt8) (a10 a11:Int) (a12:List UInt8),qaJ_l4 (qaJ_i f) old other 0 a3 a4 a5 x.args a7 a8 a9 a10 a11 a12 [] =
    some (a7,a8,a9,a10,a11,a12,x.args.map (reE (ren old other))):=by
   intro a3 a4 a5 a7 a8 a9 a10 a11 a12;rw[qaJ_l4,zaaa]
   exact zacw x.args (reE (ren old other)) (fun s => (a7, a8, a9, a10, a11, a12, s)) (fun m i s => qaJ_i4 (qaJ_i f) m old other i a3 a4 a5 x.args a7 a8 a9 a10 a11 a12 s)
    (fun m i s h0 h=>by
     simp only[qaJ_i4,qaJ_t4,decide_eq_false h,cond_false])
    (fun m i s y h0 h hy hm hs=>by
     have hy1:=zadj hm;simp only[qaJ_i4,qaJ_t4,decide_eq_true h,decide_eq_true h0,cond_true,hy,Option.bind_some];rw[ih f y (by omega) (by omega) (by omega),Option.bind_some,i64_in (i+1) (by omega)];simp only[List.length_cons,List.length_nil,zaay];rw[decide_eq_true (by omega),cond_true])
    fuel (by unfold fuel; omega)
  show qaJ_f (qaJ_i f) x old other=_;unfold qaJ_f;rw[zadp old other x.name h ho,Option.bind_some,e4,zauk];rfl
theorem renEX (old other:List Nm) (h:old.length≤1000000000000) (ho:old.length≤other.length) (x:TExpr) (hx:nE x≤100000000):qaJ x old other=some (reE (ren old other) x):=by
 rw[qaJ,zaaa,renE1 old other h ho (nE x) fuel x (Nat.le_refl _) (by unfold fuel; omega) hx]
theorem renS1 (old other:List Nm) (h:old.length≤1000000000000) (ho:old.length≤other.length):∀ (k f:Nat) (l:List TStmt),nSs l≤k→k<f→k≤100000000→qaK_i f l old other=some (reSs (ren old other) l):=by
 intro k;induction k with
 |zero=>
  intro f l hk hf _;obtain ⟨f,rfl⟩:∃ q,f=q+1:=⟨f-1,by omega⟩;have hl:=zab5 l;obtain rfl:l=[]:=List.eq_nil_of_length_eq_zero (by omega);show qaK_f (qaK_i f) [] old other=_;unfold qaK_f;rw[qaK_l3,zaaa,reSs];rfl
 |succ k ih=>
  intro f l hk hf hb;obtain ⟨f,rfl⟩:∃ q,f=q+1:=⟨f-1,by omega⟩;have hl:=zab5 l;show qaK_f (qaK_i f) l old other=_;unfold qaK_f;rw[qaK_l3,zaaa,zao5]
  rw [zacw l (reS (ren old other)) (fun s => s) (fun m i s => qaK_i3 (qaK_i f) m l old other i s)
   (fun m i s h0 h=>by
    simp only[qaK_i3,qaK_t3,decide_eq_false h,cond_false])
   (fun m i s y h0 h' hy hm hs=>by
    have hy1:=zaev hm;have hy2:=nS_eq y;have hsz:∀ st:TStmt,decide ((s.length+[st].length)*152≤140737488355328∧s.length+[st].length≤9223372036854775807)=true:=by
     intro st;rw[List.length_cons,List.length_nil];exact decide_eq_true (by omega)
    simp only[qaK_i3,qaK_t3,decide_eq_true h',decide_eq_true h0,cond_true,hy,Option.bind_some,zaay];rw[zadp old other y.reg h ho,zadp old other y.name h ho,renEX old other h ho y.expr (by omega),ih f y.then_ (by omega) (by omega) (by omega),ih f y.else_ (by omega) (by omega) (by omega),i64_in (i+1) (by omega)];simp only[Option.bind_some,hsz,cond_true,zaay];rw[zayh])
   fuel (by unfold fuel; omega)]
  rfl
theorem renSX (old other:List Nm) (h:old.length≤1000000000000) (ho:old.length≤other.length) (l:List TStmt) (hx:nSs l≤100000000):qaK l old other=some (reSs (ren old other) l):=by
 rw[qaK,zaaa,renS1 old other h ho (nSs l) fuel l (Nat.le_refl _) (by unfold fuel; omega) hx]
mutual
theorem reE_n (f:Nm→Nm):∀ x,nE (reE f x)=nE x
 |⟨k,m,s,l⟩=>by rw[reE,nE,nE,zauq f l]
theorem zauq (f:Nm→Nm):∀ l,nEs (reEs f l)=nEs l
 |[]=>by rw[reEs]
 |x::l=>by rw[reEs,nEs,nEs,reE_n f x,zauq f l]
end
mutual
theorem reS_n (f:Nm→Nm):∀ x,nS (reS f x)=nS x
 |⟨k,r,n,x,c,t,o⟩=>by rw[reS,nS,nS,reE_n,zal0 f t,zal0 f o]
theorem zal0 (f:Nm→Nm):∀ l,nSs (reSs f l)=nSs l
 |[]=>by rw[reSs]
 |x::l=>by rw[reSs,nSs,nSs,reS_n f x,zal0 f l]
end
def reP (f:Nm→Nm) (p:TProg):TProg:=⟨p.cells.map fun c=>⟨f c.name,c.init⟩,p.mutexes.map f,p.threads.map fun t=>⟨f t.name,reSs f t.body⟩⟩
theorem reT_n (f : Nm → Nm) : ∀ l : List TThread, nT (l.map fun t => ⟨f t.name, reSs f t.body⟩) = nT l
 |[]=>rfl
 |t::l=>by simp only[List.map_cons,nT,zal0]; rw[reT_n f l]
mutual
def pE (P:Nm→Prop):TExpr→Prop
 |⟨k,_,s,l⟩=>(k=2→P s)∧pEs P l
def pEs (P:Nm→Prop):List TExpr→Prop
 |[]=>True
 |x::l=>pE P x∧pEs P l
end
mutual
def pSt (P:Nm→Prop):TStmt→Prop
 |⟨k,r,n,x,_,t,o⟩=>(r≠[]→P r)∧(needK k≠0→P n)∧(x.kind≠0→pE P x)∧pSts P t∧pSts P o
def pSts (P:Nm→Prop):List TStmt→Prop
 |[]=>True
 |x::l=>pSt P x∧pSts P l
end
theorem zaif {s:Nm} (h:isNm s=true):s≠[]:=by
 intro q;rw[q,zasd] at h;cases h
mutual
theorem pE_of (P:Nm→Prop):∀ (x:TExpr) (d:Int),eF x=true→(∀ s∈nms (evE x d),s≠[]→P s)→pE P x
 |⟨k,m,s,l⟩,d,hx,h=>by
  rw[eF,Bool.and_eq_true] at hx;rw[evE] at h;rw[pE];have h0:∀ e∈nms (.e ⟨k,m,s,l⟩ d::evEs l (d+1)),e≠[]→P e:=h;refine ⟨fun hk=>?_,zaud P l (d+1) hx.2 (fun e he hn=>h0 e ?_ hn)⟩
  ·have hx1:=hx.1;unfold xOk at hx1;have q1:(k==1)=false:=by rw[hk]; rfl
   have q2:(k==2)=true:=by rw[hk]; rfl
   simp only[q1,q2,cond_false,cond_true,Bool.and_eq_true] at hx1;exact h0 s (by unfold nms; rw[List.flatMap_cons]; exact List.mem_append.2 (Or.inl (by simp[evNm]))) (zaif hx1.1.1)
  ·unfold nms;rw[List.flatMap_cons];exact List.mem_append.2 (Or.inr he)
theorem zaud (P:Nm→Prop):∀ (l:List TExpr) (d:Int),eFs l=true→(∀ s∈nms (evEs l d),s≠[]→P s)→pEs P l
 |[],d,_,_=>by rw[pEs]; trivial
 |x::l,d,hx,h=>by
  rw[eFs,Bool.and_eq_true] at hx;rw[evEs,zafg] at h;rw[pEs];exact ⟨pE_of P x d hx.1 (fun s hs=>h s (List.mem_append.2 (Or.inl hs))),zaud P l d hx.2 (fun s hs=>h s (List.mem_append.2 (Or.inr hs)))⟩
end
mutual
theorem zaxs (P:Nm→Prop):∀ (x:TStmt) (d:Int),sF x=true→(∀ s∈nms (evS x d),s≠[]→P s)→pSt P x
 |⟨k,r,n,x,c,t,o⟩,d,hx,h=>by
  rw[sF,Bool.and_eq_true,Bool.and_eq_true,Bool.and_eq_true] at hx;obtain ⟨h1,h2,h3,h4⟩:=hx;obtain ⟨hin,f1,f2,f3⟩:=zals h1;simp only at f1 f2 f3 hin;unfold sOk at h1;simp only[Bool.and_eq_true] at h1;obtain ⟨⟨⟨⟨⟨⟨_,_⟩,g3⟩,g4⟩,_⟩,_⟩,_⟩:=h1;rw[evS] at h;have hd:∀ s,s∈nms (.s ⟨k,r,n,x,c,t,o⟩ d::((if zaan x=true then evE x 1 else [])++(evSs t (d+1)++evSs o (d+1))))↔(s=r∨s=n∨s∈nms (if zaan x=true then evE x 1 else [])∨s∈nms (evSs t (d+1))∨s∈nms (evSs o (d+1))):=by
   intro s;unfold nms;rw[List.flatMap_cons,List.flatMap_append,List.flatMap_append];simp[evNm]
  rw[pSt];refine ⟨fun hr=>h r ((hd r).2 (Or.inl rfl)) hr,fun hn=>?_,fun hk=>?_,zakb P t (d+1) h3 (fun s hs=>h s ((hd s).2 (Or.inr (Or.inr (Or.inr (Or.inl hs)))))),zakb P o (d+1) h4 (fun s hs=>h s ((hd s).2 (Or.inr (Or.inr (Or.inr (Or.inr hs))))))⟩
  ·have hb:(shp k).name=true:=by
    rw[f2];have:(needK k==0)=false:=by rw[beq_eq_false_iff_ne]; exact hn
    rw[this];rfl
   rw[hb] at g3;unfold isOpt at g3;simp only[Bool.true_and,Bool.not_true,Bool.false_and,Bool.or_false] at g3;exact h n ((hd n).2 (Or.inr (Or.inl rfl))) (zaif g3)
  ·have hth:zaan x=true:=by
    unfold zaan;have:(x.kind != 0)=true:=by simpa [bne] using hk
    rw[this];rfl
   rw[if_pos hth] at h2;refine pE_of P x 1 h2 (fun s hs=>h s ((hd s).2 (Or.inr (Or.inr (Or.inl ?_)))));rw[if_pos hth];exact hs
theorem zakb (P:Nm→Prop):∀ (l:List TStmt) (d:Int),sFs l=true→(∀ s∈nms (evSs l d),s≠[]→P s)→pSts P l
 |[],d,_,_=>by rw[pSts]; trivial
 |x::l,d,hx,h=>by
  rw[sFs,Bool.and_eq_true] at hx;rw[evSs,zafg] at h;rw[pSts];exact ⟨zaxs P x d hx.1 (fun s hs=>h s (List.mem_append.2 (Or.inl hs))),zakb P l d hx.2 (fun s hs=>h s (List.mem_append.2 (Or.inr hs)))⟩
end
theorem zapt:∀ (l:List Nm) (s0:List Nm) (x:Nm),x∈l.foldl putN s0↔(x∈s0∨(x∈l∧x≠[])):=by
 intro l;induction l with
 |nil=>intro s0 x; simp
 |cons y l ih=>
  intro s0 x;rw[List.foldl_cons,ih];unfold putN;by_cases h:(s0.contains y||y==[])=true
  ·rw[if_pos h];rw[Bool.or_eq_true] at h;constructor
   ·rintro (q|⟨q,r⟩)
    ·exact Or.inl q
    ·exact Or.inr ⟨List.mem_cons.2 (Or.inr q),r⟩
   ·rintro (q|⟨q,r⟩)
    ·exact Or.inl q
    ·rcases List.mem_cons.1 q with rfl|q
     ·rcases h with h|h
      ·exact Or.inl (by simpa using h)
      ·exact absurd (eq_of_beq h) r
     ·exact Or.inr ⟨q,r⟩
  ·rw[if_neg h];have hy:y≠[]:=by
    intro q;apply h;rw[q];simp
   constructor
   ·rintro (q|⟨q,r⟩)
    ·rcases List.mem_append.1 q with q|q
     ·exact Or.inl q
     ·rw[List.mem_singleton] at q;subst q;exact Or.inr ⟨List.mem_cons.2 (Or.inl rfl),hy⟩
    ·exact Or.inr ⟨List.mem_cons.2 (Or.inr q),r⟩
   ·rintro (q|⟨q,r⟩)
    ·exact Or.inl (List.mem_append.2 (Or.inl q))
    ·rcases List.mem_cons.1 q with rfl|q
     ·exact Or.inl (List.mem_append.2 (Or.inr (by simp)))
     ·exact Or.inr ⟨q,r⟩
end Lift.A9
namespace Lift.A9
open Go Go.RowKit Lift Go.IntWalk Lift.Fn Lift.A3
set_option linter.unusedVariables false
set_option linter.unusedSimpArgs false
structure RN (f:Nm→Nm) (P:Nm→Prop):Prop where
 inj:∀ a b,P a→P b→f a=f b→a=b
theorem beq_ren {f:Nm→Nm} {P:Nm→Prop} (hf:RN f P) {a b:Nm} (ha:P a) (hb:P b):(f a==f b)=(a==b):=by
 rw[Bool.eq_iff_iff,beq_iff_eq,beq_iff_eq];exact ⟨hf.inj a b ha hb,fun h=>by rw[h]⟩
theorem plc_ren {f:Nm→Nm} {P:Nm→Prop} (hf:RN f P) {s:Nm} (hs:P s):∀ l:List Nm,(∀ x∈l,P x)→plc (l.map f) (f s)=plc l s
 |[],_=>rfl
 |x::l,h=>by
  rw[List.map_cons,zacv,zacv,beq_ren hf (h x (by simp)) hs,plc_ren hf hs l (fun y hy=>h y (by simp[hy]))]
def outR {α:Type} (f:Nm→Nm) (r:(α×List Nm)⊕(Int×Nm)):(α×List Nm)⊕(Int×Nm):=match r with
 |.inl y=>.inl (y.1,y.2.map f)
 |.inr e=>.inr (e.1,f e.2)
def okP {α:Type} (P:Nm→Prop) (r:(α×List Nm)⊕(Int×Nm)):Prop:=∀ y,r=.inl y→∀ s∈y.2,P s
theorem regM_ren {f:Nm→Nm} {P:Nm→Prop} (hf:RN f P) {tf tg:Nm→Bool} (ht:∀ s,P s→tg (f s)=tf s) {rs:List Nm} (hr:∀ s∈rs,P s) {s:Nm} (hs:P s) :
  regM tg (rs.map f) (f s)=outR f (regM tf rs s)∧okP P (regM tf rs s):=by
 unfold regM;rw[ht s hs,plc_ren hf hs rs hr,List.length_map];cases tf s with
 |true=>exact ⟨rfl,fun y h=>by cases h⟩
 |false=>
  cases decide (plc rs s<0) with
  |false=>exact ⟨rfl,fun y h=>by cases h; exact hr⟩
  |true=>
   cases decide (8≤rs.length) with
   |true=>exact ⟨rfl,fun y h=>by cases h⟩
   |false=>
    refine ⟨?_,fun y h=>?_⟩
    ·show Sum.inl _=Sum.inl _;rw[List.map_append];rfl
    ·cases h;intro x hx;rcases List.mem_append.1 hx with q|q
     ·exact hr x q
     ·rw[List.mem_singleton] at q; rw[q]; exact hs
mutual
theorem exM_ren {f:Nm→Nm} {P:Nm→Prop} (hf:RN f P) {tf tg:Nm→Bool} (ht:∀ s,P s→tg (f s)=tf s):∀ (x:TExpr) (rs:List Nm),(∀ s∈rs,P s)→pE P x→exM tg (reE f x) (rs.map f)=outR f (exM tf x rs)∧okP P (exM tf x rs)
 |⟨k,m,s,l⟩,rs,hr,hp=>by
  rw[pE] at hp;rw[reE,exM,exM];cases hk:k==2 with
  |true=>
   simp only[cond_true];obtain ⟨e1,e2⟩:=regM_ren hf ht hr (hp.1 (eq_of_beq hk));rw[e1];cases hq:regM tf rs s with
   |inr e=>exact ⟨rfl,fun y h=>by cases h⟩
   |inl y=>
    obtain ⟨a1,a2⟩:=exMs_ren hf ht l y.2 (e2 y hq) hp.2;simp only[outR];rw[a1];cases hz:exMs tf l y.2 with
    |inr e=>exact ⟨rfl,fun y h=>by cases h⟩
    |inl z=>exact ⟨rfl,fun y h=>by cases h; exact a2 z hz⟩
  |false=>
   simp only[cond_false];obtain ⟨a1,a2⟩:=exMs_ren hf ht l rs hr hp.2;rw[a1];cases hz:exMs tf l rs with
   |inr e=>exact ⟨rfl,fun y h=>by cases h⟩
   |inl z=>exact ⟨rfl,fun y h=>by cases h; exact a2 z hz⟩
theorem exMs_ren {f:Nm→Nm} {P:Nm→Prop} (hf:RN f P) {tf tg:Nm→Bool} (ht:∀ s,P s→tg (f s)=tf s):∀ (l:List TExpr) (rs:List Nm),(∀ s∈rs,P s)→pEs P l→exMs tg (reEs f l) (rs.map f)=outR f (exMs tf l rs)∧okP P (exMs tf l rs)
 |[],rs,hr,_=>by
  rw[reEs,exMs,exMs];exact ⟨rfl,fun y h=>by cases h; exact hr⟩
 |x::l,rs,hr,hp=>by
  rw[pEs] at hp;rw[reEs,exMs,exMs];obtain ⟨e1,e2⟩:=exM_ren hf ht x rs hr hp.1;rw[e1];cases hq:exM tf x rs with
  |inr e=>exact ⟨rfl,fun y h=>by cases h⟩
  |inl y=>
   obtain ⟨a1,a2⟩:=exMs_ren hf ht l y.2 (e2 y hq) hp.2;simp only[outR];rw[a1];cases hz:exMs tf l y.2 with
   |inr e=>exact ⟨rfl,fun y h=>by cases h⟩
   |inl z=>exact ⟨rfl,fun y h=>by cases h; exact a2 z hz⟩
end
theorem zavt (f:Nm→Nm) (x:TExpr):(reE f x).kind=x.kind:=by rw[zauk]
theorem exO_ren {f:Nm→Nm} {P:Nm→Prop} (hf:RN f P) {tf tg:Nm→Bool} (ht:∀ s,P s→tg (f s)=tf s) {x:TExpr} {rs:List Nm} (hr:∀ s∈rs,P s) (hp:x.kind≠0→pE P x):exO tg (reE f x) (rs.map f)=outR f (exO tf x rs)∧okP P (exO tf x rs):=by
 unfold exO;rw[zavt];cases hk:x.kind==0 with
 |true=>exact ⟨rfl,fun y h=>by cases h; exact hr⟩
 |false=>exact exM_ren hf ht x rs hr (hp (by simpa using hk))
theorem regO_ren {f:Nm→Nm} {P:Nm→Prop} (hf:RN f P) {tf tg:Nm→Bool} (ht:∀ s,P s→tg (f s)=tf s) {rs:List Nm} (hr:∀ s∈rs,P s) {s:Nm} (he:(f s==[])=(s==[])) (hp:s≠[]→P s) :
  regO tg (rs.map f) (f s)=outR f (regO tf rs s)∧okP P (regO tf rs s):=by
 unfold regO;rw[he];cases hs:s==[] with
 |true=>exact ⟨rfl,fun y h=>by cases h; exact hr⟩
 |false=>exact regM_ren hf ht hr (hp (fun q=>by rw[q] at hs; cases hs))
def obR (f:Nm→Nm) (r:Int⊕(Int×Nm)):Int⊕(Int×Nm):=match r with
 |.inl i=>.inl i
 |.inr e=>.inr (e.1,f e.2)
mutual
theorem acN_ren {f:Nm→Nm} {P:Nm→Prop} (hf:RN f P) {tf tg:Nm→Bool} (ht:∀ s,P s→tg (f s)=tf s) {of og:Int→Nm→Int⊕(Int×Nm)} (ho:∀ k s,(needK k≠0→P s)→og k (f s)=obR f (of k s)) :
  ∀ (x:TStmt) (rs:List Nm),(∀ s∈rs,P s)→pSt P x→sF x=true→sF (reS f x)=true→acN tg og (reS f x) (rs.map f)=outR f (acN tf of x rs)∧okP P (acN tf of x rs)
 |⟨k,r,n,x,c,t,o⟩,rs,hr,hp,h1,h2=>by
  rw[pSt] at hp;obtain ⟨p1,p2,p3,p4,p5⟩:=hp;rw[sF,Bool.and_eq_true,Bool.and_eq_true,Bool.and_eq_true] at h1;rw[reS,sF,Bool.and_eq_true,Bool.and_eq_true,Bool.and_eq_true] at h2;obtain ⟨a1,_,a3,a4⟩:=h1;obtain ⟨b1,_,b3,b4⟩:=h2;obtain ⟨_,f1,_,_⟩:=zals a1;obtain ⟨_,g1,_,_⟩:=zals b1;simp only at f1 g1;have he:(f r==[])=(r==[]):=by
   have:=f1.symm.trans g1;revert this;cases r==[]<;>cases f r==[]<;>simp
  rw[reS,acN,acN];obtain ⟨e1,e2⟩:=regO_ren hf ht hr he p1;rw[e1];cases hq:regO tf rs r with
  |inr e=>exact ⟨rfl,fun y h=>by cases h⟩
  |inl y=>
   simp only[outR];rw[ho k n p2];cases hob:of k n with
   |inr e=>exact ⟨rfl,fun y h=>by cases h⟩
   |inl b=>
    simp only[obR];obtain ⟨x1,x2⟩:=exO_ren hf ht (x:=x) (e2 y hq) p3;rw[x1];cases hx:exO tf x y.2 with
    |inr e=>exact ⟨rfl,fun y h=>by cases h⟩
    |inl z=>
     simp only[outR];obtain ⟨t1,t2⟩:=acNs_ren hf ht ho t z.2 (x2 z hx) p4 a3 b3;rw[t1];cases htt:acNs tf of t z.2 with
     |inr e=>exact ⟨rfl,fun y h=>by cases h⟩
     |inl w=>
      simp only[outR];obtain ⟨o1,o2⟩:=acNs_ren hf ht ho o w.2 (t2 w htt) p5 a4 b4;rw[o1];cases hoo:acNs tf of o w.2 with
      |inr e=>exact ⟨rfl,fun y h=>by cases h⟩
      |inl v=>exact ⟨rfl,fun y h=>by cases h; exact o2 v hoo⟩
theorem acNs_ren {f:Nm→Nm} {P:Nm→Prop} (hf:RN f P) {tf tg:Nm→Bool} (ht:∀ s,P s→tg (f s)=tf s) {of og:Int→Nm→Int⊕(Int×Nm)} (ho:∀ k s,(needK k≠0→P s)→og k (f s)=obR f (of k s)) :
  ∀ (l:List TStmt) (rs:List Nm),(∀ s∈rs,P s)→pSts P l→sFs l=true→sFs (reSs f l)=true→acNs tg og (reSs f l) (rs.map f)=outR f (acNs tf of l rs)∧okP P (acNs tf of l rs)
 |[],rs,hr,_,_,_=>by
  rw[reSs,zag1,zag1];exact ⟨rfl,fun y h=>by cases h; exact hr⟩
 |x::l,rs,hr,hp,h1,h2=>by
  rw[pSts] at hp;rw[sFs,Bool.and_eq_true] at h1;rw[reSs,sFs,Bool.and_eq_true] at h2;rw[reSs,zahh,zahh];obtain ⟨e1,e2⟩:=acN_ren hf ht ho x rs hr hp.1 h1.1 h2.1;rw[e1];cases hq:acN tf of x rs with
  |inr e=>exact ⟨rfl,fun y h=>by cases h⟩
  |inl y=>
   obtain ⟨a1,a2⟩:=acNs_ren hf ht ho l y.2 (e2 y hq) hp.2 h1.2 h2.2;simp only[outR];rw[a1];cases hz:acNs tf of l y.2 with
   |inr e=>exact ⟨rfl,fun y h=>by cases h⟩
   |inl z=>exact ⟨rfl,fun y h=>by cases h; exact a2 z hz⟩
end
def nmsR (f:Nm→Nm) (n:Names):Names:=⟨n.cells.map f,n.mutexes.map f,n.threads.map f,n.regs.map (·.map f)⟩
structure NP (P:Nm→Prop) (n:Names):Prop where
 c:∀ s∈n.cells,P s
 m:∀ s∈n.mutexes,P s
 t:∀ s∈n.threads,P s
theorem thing_ren {f:Nm→Nm} {P:Nm→Prop} (hf:RN f P) {n:Names} (hn:NP P n) (s:Nm) (hs:P s):thing (nmsR f n) (f s)=thing n s:=by
 unfold thing nmsR;simp only;rw[plc_ren hf hs _ hn.c,plc_ren hf hs _ hn.m,plc_ren hf hs _ hn.t]
theorem obj_ren {f:Nm→Nm} {P:Nm→Prop} (hf:RN f P) {n:Names} (hn:NP P n) (k:Int) (s:Nm) (hs:needK k≠0→P s):objN (nmsR f n) k (f s)=obR f (objN n k s):=by
 unfold objN;cases hk:needK k==0 with
 |true=>rfl
 |false=>
  have hP:=hs (by simpa using hk);have e:plK (nmsR f n) k (f s)=plK n k s:=by
   unfold plK nmsR;simp only;rw[plc_ren hf hP _ hn.c,plc_ren hf hP _ hn.m,plc_ren hf hP _ hn.t]
  rw[thing_ren hf hn s hP,e];cases thing n s with
  |false=>rfl
  |true=>cases decide (plK n k s<0)<;>rfl
theorem dup_ren {f:Nm→Nm} {P:Nm→Prop} (hf:RN f P):∀ (l seen:List Nm),(∀ s∈l,P s)→(∀ s∈seen,P s)→dupM (seen.map f) (l.map f)=(dupM seen l).map f
 |[],seen,_,_=>rfl
 |s::l,seen,h1,h2=>by
  have hs:=h1 s (by simp);have e:(seen.map f).any (·==f s)=seen.any (·==s):=by
   rw[List.any_map,Bool.eq_iff_iff,List.any_eq_true,List.any_eq_true];constructor
   ·rintro ⟨x,hx,q⟩
    exact ⟨x,hx,by rw[← beq_ren hf (h2 x hx) hs]; exact q⟩
   ·rintro ⟨x,hx,q⟩
    exact ⟨x,hx,by show (f x==f s)=true; rw[beq_ren hf (h2 x hx) hs]; exact q⟩
  rw[List.map_cons,dupM,dupM,e];cases seen.any (·==s) with
  |true=>rfl
  |false=>
   have:=dup_ren hf l (seen++[s]) (fun x hx=>h1 x (by simp[hx])) (fun x hx=>by
    rcases List.mem_append.1 hx with q|q
    ·exact h2 x q
    ·rw[List.mem_singleton] at q; rw[q]; exact hs)
   rw[List.map_append] at this;exact this
theorem getD_ren {f:Nm→Nm} (h0:f []=[]) (l:List Nm) (i:Nat):((l.map f)[i]?).getD []=f ((l[i]?).getD []):=by
 rw[List.getElem?_map];cases l[i]? with
 |none=>exact h0.symm
 |some x=>rfl
theorem head_ren {f:Nm→Nm} {P:Nm→Prop} (hf:RN f P) (h0:f []=[]) {n:Names} (hn:NP P n):headN (nmsR f n)=(headN n).map fun e=>(e.1,f e.2):=by
 unfold headN;have e1:(nmsR f n).threads.length=n.threads.length:=by simp[nmsR]
 have e2:zaax (nmsR f n).threads=zaax n.threads:=by simp[nmsR,zaax]
 have e3:zaax (nmsR f n).cells=zaax n.cells:=by simp[nmsR,zaax]
 have e4:zaax (nmsR f n).mutexes=zaax n.mutexes:=by simp[nmsR,zaax]
 have e5:dupM [] (allP (nmsR f n))=(dupM [] (allP n)).map f:=by
  have:=dup_ren hf (allP n) [] (fun s hs=>by
   unfold allP at hs;rcases List.mem_append.1 hs with q|q
   ·exact hn.c s q
   ·rcases List.mem_append.1 q with q|q
    ·exact hn.m s q
    ·exact hn.t s q) (fun s hs=>by simp at hs)
  rw[← this];unfold allP nmsR;simp
 rw[e1,e2,e3,e4,e5];have g1:((nmsR f n).threads[8]?).getD []=f ((n.threads[8]?).getD []):=getD_ren h0 _ _;have g2:((nmsR f n).cells[8]?).getD []=f ((n.cells[8]?).getD []):=getD_ren h0 _ _;have g3:((nmsR f n).mutexes[8]?).getD []=f ((n.mutexes[8]?).getD []):=getD_ren h0 _ _;rw[g1,g2,g3];cases n.threads.length==0 with
 |true=>show some ((60:Int),([]:Nm))=some (60,f []); rw[h0]
 |false=>
 cases zaax n.threads with
 |true=>rfl
 |false=>
 cases zaax n.cells with
 |true=>rfl
 |false=>
 cases zaax n.mutexes with
 |true=>rfl
 |false=>cases dupM [] (allP n)<;>rfl
theorem thr_ren {f:Nm→Nm} {P:Nm→Prop} (hf:RN f P) {n:Names} (hn:NP P n):∀ (l:List TThread),(∀ t∈l,pSts P t.body∧sFs t.body=true∧sFs (reSs f t.body)=true) →
  thrN (nmsR f n) (l.map fun t=>⟨f t.name,reSs f t.body⟩)=match thrN n l with
   |.inl z=>.inl (z.map fun y=>(y.1,y.2.map f))
   |.inr e=>.inr (e.1,f e.2)
 |[],_=>rfl
 |t::l,h=>by
  obtain ⟨h1,h2,h3⟩:=h t (by simp);rw[List.map_cons,thrN,thrN];have:=(acNs_ren hf (thing_ren hf hn) (obj_ren hf hn) t.body [] (fun s hs=>by simp at hs) h1 h2 h3).1;rw[List.map_nil] at this;simp only;rw[this,thr_ren hf hn l (fun t ht=>h t (by simp[ht]))];cases acNs (thing n) (objN n) t.body [] with
  |inr e=>rfl
  |inl y=>
   cases thrN n l with
   |inr e=>rfl
   |inl z=>rfl
theorem check_ren {f:Nm→Nm} {P:Nm→Prop} (hf:RN f P) (h0:f []=[]) (p:TProg) (hn:NP P (zabx p)) (h:∀ t∈p.threads,pSts P t.body∧sFs t.body=true∧sFs (reSs f t.body)=true) :
  zadu (reP f p)=match zadu p with
   |.inl y=>.inl (y.1,nmsR f y.2)
   |.inr e=>.inr (e.1,f e.2):=by
 rw[zaj2,zaj2];have e:zabx (reP f p)=nmsR f (zabx p):=by
  unfold zabx reP nmsR;simp[Function.comp]
 rw[e,head_ren hf h0 hn];cases headN (zabx p) with
 |some q=>rfl
 |none=>
  simp only[Option.map_none];have ht:(reP f p).threads=p.threads.map fun t=>⟨f t.name,reSs f t.body⟩:=rfl
  rw[ht,thr_ren hf hn p.threads h];cases thrN (zabx p) p.threads with
  |inr q=>rfl
  |inl z=>
   simp only;congr 1;unfold reP nmsR;simp[Function.comp]
end Lift.A9
namespace Lift.A9
open Go Go.RowKit Lift Go.IntWalk Lift.Fn Lift.A3
set_option linter.unusedVariables false
set_option linter.unusedSimpArgs false
def distK (other:List Nm):Nat→List Nm→Bool
 |_,[]=>true
 |i,_::r=>!decide (plc other (atL other i)<i)&&distK other (i+1) r
theorem zalv (other:List Nm):∀ (r:List Nm) (i:Nat),distK other i r=true→∀ j:Nat,i≤j→j<i+r.length→¬ plc other (atL other j)<(j:Int)
 |[],i,_,j,h1,h2=>by simp at h2; omega
 |x::r,i,h,j,h1,h2=>by
  rw[distK,Bool.and_eq_true] at h;by_cases c:j=i
  ·subst c;have:=h.1;simp only[Bool.not_eq_true',decide_eq_false_iff_not] at this;exact this
  ·exact zalv other r (i+1) h.2 j (by omega) (by simp only[List.length_cons] at h2; omega)
theorem zauj {l:List Nm} {i:Nat} (h:i<l.length) (hd:¬ plc l (atL l i)<(i:Int)):plc l (atL l i)=i:=by
 have g:=zal1 (l:=l) (i:=(i:Int)) (by omega) (by omega);rw[Int.toNat_natCast] at g;have hs:l=l.take i++atL l i::l.drop (i+1):=by
  have e1:=List.take_append_drop i l;rw[List.drop_eq_getElem_cons h] at e1;rw[List.getElem?_eq_getElem h] at g;rw[← Option.some.inj g];exact e1.symm
 have:=zane (atL l i) (l.take i) (atL l i::l.drop (i+1));rw[← hs] at this;have hl:(l.take i).length=i:=by simp; omega
 have hp:=zaxt (l:=l) (i:=i) (y:=atL l i) (r:=l.drop (i+1)) hs h;have hn:(l.take i).any (·==atL l i)=false:=by rw[← hp]; exact decide_eq_false hd
 rw[hn,cond_false,zacv,beq_self_eq_true,cond_true,hl] at this;simpa using this
theorem zaxq (old other:List Nm) (ho:old.length≤other.length) (hd:distK other 0 old=true):RN (ren old other) (fun s=>s∈old):=by
 constructor;intro a b ha hb h;have h1:=(zafl old a).2 ha;have h2:=(zafl old b).2 hb;have r1:=(zaer old a).2;have r2:=(zaer old b).2;unfold ren at h;rw[decide_eq_false (by omega),decide_eq_false (by omega),cond_false,cond_false] at h;have k1:=zalv other old 0 hd (plc old a).toNat (by omega) (by omega);have k2:=zalv other old 0 hd (plc old b).toNat (by omega) (by omega);have p1:=zauj (l:=other) (i:=(plc old a).toNat) (by omega) k1;have p2:=zauj (l:=other) (i:=(plc old b).toNat) (by omega) k2;have c1:(((plc old a).toNat:Nat):Int)=plc old a:=by omega
 have c2:(((plc old b).toNat:Nat):Int)=plc old b:=by omega
 rw[c1] at p1;rw[c2] at p2;rw[h,p2] at p1;have q1:=zarv old a h1;have q2:=zarv old b h2;rw[← q1,← q2,p1]
theorem zaw4 (p:TProg):([]:Nm)∉(allNm p).foldl putN []:=by
 rw[zapt];rintro (h|⟨_,h⟩)
 ·simp at h
 ·exact h rfl
theorem zaw5 (p:TProg) (s0:List Nm):∀ l:List Nm,(l.foldl putN s0).length≤s0.length+l.length:=by
 intro l;induction l generalizing s0 with
 |nil=>simp
 |cons x l ih=>
  rw[List.foldl_cons];have:=ih (putN s0 x);have h2:(putN s0 x).length≤s0.length+1:=by
   unfold putN;split<;>simp
  simp only[List.length_cons];omega
theorem zaur (p:TProg):(allNm p).length≤p.cells.length+p.mutexes.length+p.threads.length+2*cT p.threads:=by
 unfold allNm;have h1:=zafh (evP p);have h2:(evP p).length=cT p.threads:=lenP p.threads;simp only[List.length_append,List.length_map];omega
theorem zalt (p:TProg) (other:List Nm) (h:nT p.threads≤10000000) (h1:p.cells.length≤10000000) (h2:p.mutexes.length≤10000000) (hoth:other.length≤100000000):qaF p other=some true:=by
 rw[qaF,zaaa];unfold qaF_f;have hl:=zac6 p.threads;rw[zaxr,zad1,zawm p (by omega) (by omega) (by omega)];simp only[Option.bind_some,Bool.not_true,cond_false];have hnil:=zaw4 p;have holen:((allNm p).foldl putN []).length≤100000000:=by
  have a:=zaw5 p [] (allNm p);have b:=zaur p;have c:=cT_le p.threads;simp only[List.length_nil] at a;omega
 have hmem:∀ s∈allNm p,s≠[]→s∈(allNm p).foldl putN []:=fun s a b=>(zapt _ _ _).2 (Or.inr ⟨a,b⟩)
 generalize (allNm p).foldl putN []=old at hnil holen hmem ⊢;by_cases ho:(other.length:Int)<(old.length:Int)
 ·rw[decide_eq_true ho];rfl
 rw[decide_eq_false ho];simp only[cond_false];have ho':old.length≤other.length:=by omega
 have e6 := zanm old (fun _ _ _ => True) (fun i r (_ : Unit) => (bif distK other i r then .inr (other, p.cells, p.mutexes, p.threads, old) else .inl true : Bool ⊕ (List Nm × List TCell × List Nm × List TThread × List Nm)))
  (fun m i _=>qaF_i6 m other i p.cells p.mutexes p.threads old)
  (fun m i s h _=>by
   have h':¬ ((i:Int)<(old.length:Int)):=by omega
   simp only[qaF_i6,qaF_t6,decide_eq_false h',cond_false,distK];rfl)
  (fun m i s y r hi hy hm _=>by
   have h':((i:Int)<(old.length:Int)):=by omega
   have hlt:i<other.length:=by omega
   have ha:=zal1 (l:=other) (i:=(i:Int)) (by omega) (by omega);simp only[qaF_i6,qaF_t6,decide_eq_true h',cond_true,decide_eq_true (Int.natCast_nonneg i),ha,Option.bind_some,distK];rw[zauv other _ (by omega),Option.bind_some];cases decide (plc other (atL other i)<(i:Int)) with
   |true=>exact Or.inr rfl
   |false=>
    refine Or.inl ⟨(),trivial,?_,rfl⟩;rw[cond_false,i64_in ((i:Int)+1) (by omega)];rfl)
  old.length fuel 0 () (by omega) (by unfold fuel; omega) trivial
 rw[List.drop_zero] at e6;have e6':qaF_i6 fuel other 0 p.cells p.mutexes p.threads old=some (bif distK other 0 old then .inr (other,p.cells,p.mutexes,p.threads,old) else .inl true):=e6;rw[qaF_l6,zaaa,e6'];cases hd:distK other 0 old with
 |false=>rfl
 |true=>
  simp only[cond_true,Option.bind_some];have hf:=zaxq old other ho' hd
  have e13 := zacw p.cells (fun c => TCell.mk (ren old other c.name) c.init) (fun s => (other, p.cells, p.mutexes, p.threads, old, s)) (fun m i s => qaF_i13 m other i p.cells p.mutexes p.threads old s)
   (fun m i s h0 h=>by simp only[qaF_i13,qaF_t13,decide_eq_false h,cond_false])
   (fun m i s y h0 h hy hm hs=>by
    simp only[qaF_i13,qaF_t13,decide_eq_true h,decide_eq_true h0,cond_true,hy,Option.bind_some,List.length_cons,List.length_nil];rw[zadp old other y.name (by omega) ho',Option.bind_some];try simp only[List.length_cons,List.length_nil]
    rw[decide_eq_true (by omega),cond_true,i64_in (i+1) (by omega)])
   fuel (by unfold fuel; omega)
  have e18 := fun (C : List TCell) => zacw p.mutexes (fun s => ren old other s) (fun s => (other, p.cells, p.mutexes, p.threads, old, C, s)) (fun m i s => qaF_i18 m other i p.cells p.mutexes p.threads old C s)
   (fun m i s h0 h=>by simp only[qaF_i18,qaF_t18,decide_eq_false h,cond_false])
   (fun m i s y h0 h hy hm hs=>by
    simp only[qaF_i18,qaF_t18,decide_eq_true h,decide_eq_true h0,cond_true,hy,Option.bind_some];rw[zadp old other y (by omega) ho',Option.bind_some];simp only[List.length_cons,List.length_nil];rw[decide_eq_true (by omega),cond_true,i64_in (i+1) (by omega)])
   fuel (by unfold fuel; omega)
  have e23 := fun (C : List TCell) (M : List Nm) => zacw p.threads (fun t => TThread.mk (ren old other t.name) (reSs (ren old other) t.body)) (fun s => (other, old, p.cells, p.mutexes, p.threads, C, M, s)) (fun m i s => qaF_i23 m other old i p.cells p.mutexes p.threads C M s)
   (fun m i s h0 h=>by simp only[qaF_i23,qaF_t23,decide_eq_false h,cond_false])
   (fun m i s y h0 h hy hm hs=>by
    have hb:=zaef hm;simp only[qaF_i23,qaF_t23,decide_eq_true h,decide_eq_true h0,cond_true,hy,Option.bind_some];rw[zadp old other y.name (by omega) ho',renSX old other (by omega) ho' y.body (by omega)];simp only[Option.bind_some,List.length_cons,List.length_nil];rw[decide_eq_true (by omega),cond_true,i64_in (i+1) (by omega)])
   fuel (by unfold fuel; omega)
  rw[qaF_l13,zaaa,e13];simp only[Option.bind_some];rw[qaF_l18,zaaa,e18];simp only[Option.bind_some];rw[qaF_l23,zaaa,e23];simp only[Option.bind_some,zad1];have hq:TProg.mk (p.cells.map fun c=>TCell.mk (ren old other c.name) c.init) (p.mutexes.map fun s=>ren old other s) (p.threads.map fun t=>TThread.mk (ren old other t.name) (reSs (ren old other) t.body))=reP (ren old other) p:=rfl;rw[hq];have n1:nT (reP (ren old other) p).threads≤10000000:=by
   show nT (p.threads.map _)≤_;rw[reT_n];exact h
  have n2:(reP (ren old other) p).cells.length≤10000000:=by
   show (p.cells.map _).length≤_;rw[List.length_map];exact h1
  have n3:(reP (ren old other) p).mutexes.length≤10000000:=by
   show (p.mutexes.map _).length≤_;rw[List.length_map];exact h2
  rw[zap8 p (by omega) (by omega) (by omega),zap8 (reP (ren old other) p) (by omega) (by omega) (by omega)];simp only[Option.bind_some,zaa9,cor];cases hr1:zaby p != 0 with
  |true=>rfl
  |false=>
   cases hr2:zaby (reP (ren old other) p) != 0 with
   |true=>rfl
   |false=>
    simp only[Bool.or_self,cond_false];have k1:zaby p=0:=by simpa [bne] using hr1
    have k2:zaby (reP (ren old other) p)=0:=by simpa [bne] using hr2
    have b1:=zapy (zaj4 k1);have b2:=zapy (zaj4 k2);have okp:=zaj4 k1;unfold pOk at okp;simp only[Bool.and_eq_true,List.all_eq_true] at okp;obtain ⟨oc,om,ot⟩:=okp;have hP:NP (fun s=>s∈old) (zabx p):=by
     refine ⟨fun s hs=>?_,fun s hs=>?_,fun s hs=>?_⟩
     ·have hs':s∈p.cells.map (·.name):=hs;obtain ⟨c,hc,rfl⟩:=List.mem_map.1 hs';have:=oc c hc;unfold cOk at this;simp only[Bool.and_eq_true] at this;exact hmem _ (by unfold allNm; exact List.mem_append.2 (Or.inl hs')) (zaif this.1.1)
     ·have hs':s∈p.mutexes:=hs;exact hmem _ (by unfold allNm; exact List.mem_append.2 (Or.inr (List.mem_append.2 (Or.inl hs')))) (zaif (om s hs'))
     ·have hs':s∈p.threads.map (·.name):=hs;obtain ⟨t,ht,rfl⟩:=List.mem_map.1 hs';exact hmem _ (by unfold allNm; exact List.mem_append.2 (Or.inr (List.mem_append.2 (Or.inr (List.mem_append.2 (Or.inl hs')))))) (zaif (ot t ht).1)
    have hB:∀ t∈p.threads,pSts (fun s=>s∈old) t.body∧sFs t.body=true∧sFs (reSs (ren old other) t.body)=true:=by
     intro t ht;refine ⟨zakb _ t.body 1 (b1 t ht).2 (fun s hs hn=>hmem s ?_ hn),(b1 t ht).2,?_⟩
     ·unfold allNm;refine List.mem_append.2 (Or.inr (List.mem_append.2 (Or.inr (List.mem_append.2 (Or.inr ?_)))));unfold evP nms at *;rw[List.mem_flatMap] at hs ⊢;obtain ⟨e,he,hse⟩:=hs;exact ⟨e,List.mem_flatMap.2 ⟨t,ht,he⟩,hse⟩
     ·exact (b2 ⟨ren old other t.name,reSs (ren old other) t.body⟩ (List.mem_map.2 ⟨t,ht,rfl⟩)).2
    have f0:ren old other []=[]:=by
     unfold ren;have:¬ 0≤plc old []:=fun q=>hnil ((zafl old []).1 q)
     rw[decide_eq_true (by omega),cond_true]
    have hc:=check_ren hf f0 p hP hB;have m1:=zawn p (by omega) h1 h2;have c1:zacg p=outC (zadu p):=by unfold zacg; rw[hr1]; rfl
    have c2:zacg (reP (ren old other) p)=outC (zadu (reP (ren old other) p)):=by unfold zacg; rw[hr2]; rfl
    rw[zamx p (by omega) (by omega) (by omega),zamx (reP (ren old other) p) (by omega) (by omega) (by omega),c1,c2,hc];rw[c1] at m1;simp only[Option.bind_some];cases hT:zadu p with
    |inl y=>
     rw[hT] at m1;simp only[outC] at m1 ⊢;rw[show TUnit.mk y.1.cells y.1.mutexes y.1.threads=y.1 from rfl,zatt y.1 m1.1 m1.2.1,Option.bind_some,zadp old other [] (by omega) ho',f0];rfl
    |inr e=>
     have s0:=zatt unit0 (by decide) (by decide);simp only[outC];rw[show TUnit.mk unit0.cells unit0.mutexes unit0.threads=unit0 from rfl,s0,Option.bind_some,zadp old other e.2 (by omega) ho',Option.bind_some];simp
end Lift.A9
namespace Lift.A9
open Go Go.RowKit Lift Go.IntWalk Lift.Fn Lift.A3
set_option linter.unusedVariables false
theorem zaba {u:Uni} {c:TV u.U} {cs:List (TV u.U)} {N:Nat} (h:SizedL u (c::cs) N):∃ a b,Sized u c a∧SizedL u cs b∧a+b+1≤N:=by
 cases h with
 |cons _ _ a b _ h1 h2 h3=>exact ⟨a,b,h1,h2,h3⟩
mutual
theorem szE:∀ (x:TExpr) (N:Nat),Sized J6.kk.u ⟨.st 60,x⟩ N→nE x≤N
 |⟨k,n,m,l⟩,N,h=>by
  have h1:SizedL J6.kk.u [⟨.int .i64,k⟩,⟨.int .i64,n⟩,⟨.str,m⟩,⟨.slc (.st 60),l⟩] N:=h.st_inv;obtain ⟨a1,b1,_,h1,e1⟩:=zaba h1;obtain ⟨a2,b2,_,h2,e2⟩:=zaba h1;obtain ⟨a3,b3,_,h3,e3⟩:=zaba h2;obtain ⟨a4,b4,s4,h4,e4⟩:=zaba h3;have:=szEs l a4 s4.slc_inv;rw[nE];omega
theorem szEs:∀ (l:List TExpr) (N:Nat),SizedL J6.kk.u (l.map (TV.mk (.st 60))) N→nEs l≤N
 |[],N,h=>by simp[nEs]
 |x::l,N,h=>by
  obtain ⟨a,b,h1,h2,e⟩:=zaba h;have:=szE x a h1;have:=szEs l b h2;rw[nEs];omega
end
mutual
theorem szS:∀ (x:TStmt) (N:Nat),Sized J6.kk.u ⟨.st 62,x⟩ N→nS x≤N
 |⟨k,r,m,⟨k',n',m',l'⟩,c,t,o⟩,N,h=>by
  have h1:SizedL J6.kk.u [⟨.int .i64,k⟩,⟨.str,r⟩,⟨.str,m⟩,⟨.int .i64,k'⟩,⟨.int .i64,n'⟩,⟨.str,m'⟩,⟨.slc (.st 60),l'⟩,⟨.int .i64,c⟩,⟨.slc (.st 62),t⟩,⟨.slc (.st 62),o⟩] N:=h.st_inv;obtain ⟨a1,b1,_,h1,e1⟩:=zaba h1;obtain ⟨a2,b2,_,h2,e2⟩:=zaba h1;obtain ⟨a3,b3,_,h3,e3⟩:=zaba h2;obtain ⟨a4,b4,_,h4,e4⟩:=zaba h3;obtain ⟨a5,b5,_,h5,e5⟩:=zaba h4;obtain ⟨a6,b6,_,h6,e6⟩:=zaba h5;obtain ⟨a7,b7,s7,h7,e7⟩:=zaba h6;obtain ⟨a8,b8,_,h8,e8⟩:=zaba h7;obtain ⟨a9,b9,s9,h9,e9⟩:=zaba h8;obtain ⟨a10,b10,s10,h10,e10⟩:=zaba h9;have:=szEs l' a7 s7.slc_inv;have:=szSs t a9 s9.slc_inv;have:=szSs o a10 s10.slc_inv;rw[nS,nE];omega
theorem szSs:∀ (l:List TStmt) (N:Nat),SizedL J6.kk.u (l.map (TV.mk (.st 62))) N→nSs l≤N
 |[],N,h=>by simp[nSs]
 |x::l,N,h=>by
  obtain ⟨a,b,h1,h2,e⟩:=zaba h;have:=szS x a h1;have:=szSs l b h2;rw[nSs];omega
end
theorem szT:∀ (l:List TThread) (N:Nat),SizedL J6.kk.u (l.map (TV.mk (.st 51))) N→nT l≤N
 |[],N,h=>by simp[nT]
 |⟨m,t⟩::l,N,h=>by
  obtain ⟨a,b,h1,h2,e⟩:=zaba h;have h3:SizedL J6.kk.u [⟨.str,m⟩,⟨.slc (.st 62),t⟩] a:=h1.st_inv;obtain ⟨a1,b1,_,h3,e1⟩:=zaba h3;obtain ⟨a2,b2,s2,h4,e2⟩:=zaba h3;have:=szSs t a2 s2.slc_inv;have:=szT l b h2;rw[nT];show 1+nSs t+nT l≤N;omega
structure SmallP (y:TProg):Prop where
 t:nT y.threads≤2000000
 c:y.cells.length≤2000000
 m:y.mutexes.length≤2000000
theorem smallP (y:TProg) (h:Sized J6.kk.u ⟨.st 26,y⟩ 1048576):SmallP y:=by
 obtain ⟨c,m,t⟩:=y;have h1:SizedL J6.kk.u [⟨.slc (.st 48),c⟩,⟨.slc .str,m⟩,⟨.slc (.st 51),t⟩] 1048576:=h.st_inv;obtain ⟨a1,b1,s1,h1,e1⟩:=zaba h1;obtain ⟨a2,b2,s2,h2,e2⟩:=zaba h1;obtain ⟨a3,b3,s3,h3,e3⟩:=zaba h2;have:=szT t a3 s3.slc_inv;have q1:c.length≤a1:=s1.slc_len;have q2:m.length≤a2:=s2.slc_len;exact ⟨by show nT t≤_; omega,by show c.length≤_; omega,by show m.length≤_; omega⟩
structure SmallU (y:TUnit):Prop where
 t:nB y.threads≤2000000
 c:y.cells.length≤2000000
theorem smallL (l:List (List UInt8)) (h:Sized J6.kk.u ⟨.slc .str,l⟩ 1048576):l.length≤100000000:=by
 have:l.length≤1048576:=h.slc_len;omega
theorem checkRenames2 (p:TProg) (l:List (List UInt8)) (h:SmallP p) (hl:l.length≤100000000):qaF p l=some true:=zalt p l (by have:=h.t; omega) (by have:=h.c; omega) (by have:=h.m; omega) hl
end Lift.A9
