/-
  DERIVED. The Lean functions answer as the laws say. Conditions: as each theorem says.
-/
import Derived.Test.YtnjaffjkdeelhaaGreatDoorLawA
set_option linter.unusedVariables false
set_option linter.unusedSimpArgs false
set_option linter.unusedSectionVars false
namespace Lift.A9
open Go Go.RowKit Lift Go.IntWalk Lift.Fn Lift.A3
set_option linter.unusedVariables false
set_option linter.unusedSimpArgs false
def acOut (th:List (Nm×Thing)):(List TAct×List Nm)⊕(Int×Nm)→((List (Nm×Thing))×(List TAct)×(List Nm))⊕Refused
 |.inl y=>.inl (th,y.1,y.2)
 |.inr e=>.inr ⟨e.1,e.2⟩
theorem zaqq (th:List (Nm×Thing)) (k:Int) (nm:Nm):objM th k nm=(bif needK k==0 then .inl 0 else bif thB th nm then (bif (Option.getD (mapAt th nm) (Thing.mk 0 0)).kind==needK k then .inl (Option.getD (mapAt th nm) (Thing.mk 0 0)).number else .inr (65,nm)) else .inr (64,nm)):=rfl
abbrev AcF:=List TStmt→List (Nm×Thing)→List Nm→Option ((List (Nm×Thing)×List TAct×List Nm)⊕Refused)
theorem zax4 (th:List (Nm×Thing)) (R:AcF) (rec:List TStmt→Int→Int→List ((List UInt8)×(Thing))→List (List UInt8)→List TAct→Option ((Refused)⊕((List ((List UInt8)×(Thing)))×(List TAct)×(List (List UInt8)))))
  (a0:List TStmt) (a1 i:Int) (rs:List Nm) (acc:List TAct) (y:TStmt) (h:i<a1) (h0:0≤i) (hy:a0[i.toNat]? = some y) (hE:nE y.expr≤100000000) (ha:acc.length≤100000000) (hi:i≤100000000) (hrs:rs.length≤8)
  (ht:∀ rs,rs.length≤8→R y.then_ th rs=some (acOut th (acNs (thB th) (objM th) y.then_ rs))) (ho:∀ rs,rs.length≤8→R y.else_ th rs=some (acOut th (acNs (thB th) (objM th) y.else_ rs))) :
  qao_t3 R rec a0 a1 i th rs acc=match acN (thB th) (objM th) y rs with
   |.inr e=>some (.inl ⟨e.1,e.2⟩)
   |.inl z=>rec a0 a1 (i+1) th z.2 (acc++[z.1]):=by
 have hsz:∀ st:TAct,decide ((acc.length+[st].length)*136≤140737488355328∧acc.length+[st].length≤9223372036854775807)=true:=by
  intro st;rw[List.length_cons,List.length_nil];exact decide_eq_true (by omega)
 unfold qao_t3;show _=match acN (thB th) (objM th) y rs with|.inr e=>_|.inl z=>_
 rw[zaya];simp only[decide_eq_true h,decide_eq_true h0,cond_true,hy,Option.bind_some,zaav,zaus,bne,reg1 th rs y.reg hrs,i64_in (i+1) (by omega)]
 -- what stands behind the name
 unfold regO;cases hr:(y.reg==[]) with
 |true=>
  simp only[Bool.not_true,cond_false,cond_true];rw[zaqq];cases hk:(needK y.kind==0) with
  |true=>
   simp only[Bool.not_true,cond_false,cond_true];unfold exO;cases hx:(y.expr.kind==0) with
   |true=>
    simp only[Bool.not_true,cond_false,cond_true];rw[ht rs hrs];cases h4:acNs (thB th) (objM th) y.then_ rs with
    |inr e=>rfl
    |inl p=>
     simp only[acOut,Option.bind_some];rw[ho p.2 (zacc (thB th) (objM th) _ _ p hrs h4)];cases h5:acNs (thB th) (objM th) y.else_ p.2 with
     |inr e=>rfl
     |inl q=>simp only[acOut,Option.bind_some,hsz,cond_true]
   |false=>
    simp only[Bool.not_false,cond_false,cond_true];rw[exX th y.expr rs hE hrs];cases h3:exM (thB th) y.expr rs with
    |inr e=>rfl
    |inl z=>
     have l1:=zag0 (thB th) y.expr rs hrs z h3;simp only[exOut,Option.bind_some];rw[ht z.2 l1];cases h4:acNs (thB th) (objM th) y.then_ z.2 with
     |inr e=>rfl
     |inl p=>
      simp only[acOut,Option.bind_some];rw[ho p.2 (zacc (thB th) (objM th) _ _ p l1 h4)];cases h5:acNs (thB th) (objM th) y.else_ p.2 with
      |inr e=>rfl
      |inl q=>simp only[acOut,Option.bind_some,hsz,cond_true,zaav]
  |false=>
   simp only[Bool.not_false,cond_false,cond_true];have eb:thB th y.name=Option.isSome (mapAt th y.name):=rfl;rw[eb];cases hs:Option.isSome (mapAt th y.name) with
   |false=>rfl
   |true=>
    simp only[Bool.not_true,cond_false,cond_true];cases hq:((Option.getD (mapAt th y.name) (Thing.mk 0 0)).kind==needK y.kind) with
    |false=>rfl
    |true=>
     simp only[Bool.not_true,cond_false,cond_true];unfold exO;cases hx:(y.expr.kind==0) with
     |true=>
      simp only[Bool.not_true,cond_false,cond_true];rw[ht rs hrs];cases h4:acNs (thB th) (objM th) y.then_ rs with
      |inr e=>rfl
      |inl p=>
       simp only[acOut,Option.bind_some];rw[ho p.2 (zacc (thB th) (objM th) _ _ p hrs h4)];cases h5:acNs (thB th) (objM th) y.else_ p.2 with
       |inr e=>rfl
       |inl q=>simp only[acOut,Option.bind_some,hsz,cond_true]
     |false=>
      simp only[Bool.not_false,cond_false,cond_true];rw[exX th y.expr rs hE hrs];cases h3:exM (thB th) y.expr rs with
      |inr e=>rfl
      |inl z=>
       have l1:=zag0 (thB th) y.expr rs hrs z h3;simp only[exOut,Option.bind_some];rw[ht z.2 l1];cases h4:acNs (thB th) (objM th) y.then_ z.2 with
       |inr e=>rfl
       |inl p=>
        simp only[acOut,Option.bind_some];rw[ho p.2 (zacc (thB th) (objM th) _ _ p l1 h4)];cases h5:acNs (thB th) (objM th) y.else_ p.2 with
        |inr e=>rfl
        |inl q=>simp only[acOut,Option.bind_some,hsz,cond_true,zaav]
 |false=>
  simp only[Bool.not_false,cond_false,cond_true];cases hm:regM (thB th) rs y.reg with
  |inr e=>rfl
  |inl a=>
   have l0:=zai6 hrs hm;simp only[Option.bind_some];rw[zaqq];cases hk:(needK y.kind==0) with
   |true=>
    simp only[Bool.not_true,cond_false,cond_true];unfold exO;cases hx:(y.expr.kind==0) with
    |true=>
     simp only[Bool.not_true,cond_false,cond_true];rw[ht a.2 l0];cases h4:acNs (thB th) (objM th) y.then_ a.2 with
     |inr e=>rfl
     |inl p=>
      simp only[acOut,Option.bind_some];rw[ho p.2 (zacc (thB th) (objM th) _ _ p l0 h4)];cases h5:acNs (thB th) (objM th) y.else_ p.2 with
      |inr e=>rfl
      |inl q=>simp only[acOut,Option.bind_some,hsz,cond_true]
    |false=>
     simp only[Bool.not_false,cond_false,cond_true];rw[exX th y.expr a.2 hE l0];cases h3:exM (thB th) y.expr a.2 with
     |inr e=>rfl
     |inl z=>
      have l1:=zag0 (thB th) y.expr a.2 l0 z h3;simp only[exOut,Option.bind_some];rw[ht z.2 l1];cases h4:acNs (thB th) (objM th) y.then_ z.2 with
      |inr e=>rfl
      |inl p=>
       simp only[acOut,Option.bind_some];rw[ho p.2 (zacc (thB th) (objM th) _ _ p l1 h4)];cases h5:acNs (thB th) (objM th) y.else_ p.2 with
       |inr e=>rfl
       |inl q=>simp only[acOut,Option.bind_some,hsz,cond_true,zaav]
   |false=>
    simp only[Bool.not_false,cond_false,cond_true];have eb:thB th y.name=Option.isSome (mapAt th y.name):=rfl;rw[eb];cases hs:Option.isSome (mapAt th y.name) with
    |false=>rfl
    |true=>
     simp only[Bool.not_true,cond_false,cond_true];cases hq:((Option.getD (mapAt th y.name) (Thing.mk 0 0)).kind==needK y.kind) with
     |false=>rfl
     |true=>
      simp only[Bool.not_true,cond_false,cond_true];unfold exO;cases hx:(y.expr.kind==0) with
      |true=>
       simp only[Bool.not_true,cond_false,cond_true];rw[ht a.2 l0];cases h4:acNs (thB th) (objM th) y.then_ a.2 with
       |inr e=>rfl
       |inl p=>
        simp only[acOut,Option.bind_some];rw[ho p.2 (zacc (thB th) (objM th) _ _ p l0 h4)];cases h5:acNs (thB th) (objM th) y.else_ p.2 with
        |inr e=>rfl
        |inl q=>simp only[acOut,Option.bind_some,hsz,cond_true]
      |false=>
       simp only[Bool.not_false,cond_false,cond_true];rw[exX th y.expr a.2 hE l0];cases h3:exM (thB th) y.expr a.2 with
       |inr e=>rfl
       |inl z=>
        have l1:=zag0 (thB th) y.expr a.2 l0 z h3;simp only[exOut,Option.bind_some];rw[ht z.2 l1];cases h4:acNs (thB th) (objM th) y.then_ z.2 with
        |inr e=>rfl
        |inl p=>
         simp only[acOut,Option.bind_some];rw[ho p.2 (zacc (thB th) (objM th) _ _ p l1 h4)];cases h5:acNs (thB th) (objM th) y.else_ p.2 with
         |inr e=>rfl
         |inl q=>simp only[acOut,Option.bind_some,hsz,cond_true,zaav]
theorem ac1 (th:List (Nm×Thing)):∀ (k n:Nat) (l:List TStmt) (rs:List Nm),nSs l≤k→k<n→k≤100000000→rs.length≤8→qao_i n l th rs=some (acOut th (acNs (thB th) (objM th) l rs)):=by
 intro k;induction k with
 |zero=>
  intro n l rs h hn _ _;obtain ⟨n,rfl⟩:∃ q,n=q+1:=⟨n-1,by omega⟩;have hl:=zabv l;obtain rfl:l=[]:=List.eq_nil_of_length_eq_zero (by omega);show qao_f (qao_i n) [] th rs=_;unfold qao_f;rw[qao_l3,zaaa,zai2];rfl
 |succ k ih=>
  intro n l rs h hn hb hrs;obtain ⟨n,rfl⟩:∃ q,n=q+1:=⟨n-1,by omega⟩;have hl:=zabv l;show qao_f (qao_i n) l th rs=_;unfold qao_f;rw[qao_l3,zaaa]
  have := zaa1 (σ := List Nm × List TAct) l (fun r s => s.1.length ≤ 8 ∧ s.2.length + r.length = l.length)
   (fun r s=>(match acNs (thB th) (objM th) r s.1 with|.inl z=>.inr (th,s.2++z.1,z.2)|.inr e=>.inl ⟨e.1,e.2⟩:Refused⊕(List (Nm×Thing)×List TAct×List Nm)))
   (fun m i s=>qao_i3 (qao_i n) m l l.length i th s.1 s.2)
   (fun m i s h0 h _=>by
    simp only[qao_i3,qao_t3,decide_eq_false h,cond_false,zai2,List.append_nil])
   (fun m i s y r h0 h hy hm hI=>by
    have hy1:=zadz hm;have hy2:=nS_eq y;obtain ⟨i1,i2⟩:=hI;simp only[List.length_cons] at i2
    have st := zax4 th (qao_i n) (qao_i3 (qao_i n) m) l l.length i s.1 s.2 y h h0 hy (by omega) (by omega) (by omega) i1
     (fun rs hrs=>ih n y.then_ rs (by omega) (by omega) (by omega) hrs) (fun rs hrs=>ih n y.else_ rs (by omega) (by omega) (by omega) hrs)
    have e1:qao_i3 (qao_i n) (m+1) l l.length i th s.1 s.2=qao_t3 (qao_i n) (qao_i3 (qao_i n) m) l l.length i th s.1 s.2:=rfl;rw[e1,st,zajl];cases hz:acN (thB th) (objM th) y s.1 with
    |inr e=>exact Or.inr rfl
    |inl z=>
     refine Or.inl ⟨(z.2,s.2++[z.1]),⟨zarq (thB th) (objM th) y s.1 z i1 hz,by simp; omega⟩,rfl,?_⟩;simp only;cases acNs (thB th) (objM th) r z.2 with
     |inr e=>rfl
     |inl q=>simp)
   fuel (rs,[]) (by unfold fuel; omega) ⟨hrs,by simp⟩
  simp only[List.nil_append] at this;rw[this];cases acNs (thB th) (objM th) l rs<;>rfl
theorem acX (th:List (Nm×Thing)) (l:List TStmt) (h:nSs l≤100000000):qao l th []=some (acOut th (acNs (thB th) (objM th) l [])):=by
 rw[qao,zaaa,ac1 th (nSs l) fuel l [] (Nat.le_refl _) (by unfold fuel; omega) h (by simp)]
end Lift.A9
namespace Lift.A9
open Go Go.RowKit Lift Go.IntWalk Lift.Fn Lift.A3
set_option linter.unusedVariables false
set_option linter.unusedSimpArgs false
theorem zanm {α σ ρ:Type} (l:List α) (I:Nat→List α→σ→Prop) (P:Nat→List α→σ→ρ) (L:Nat→Int→σ→Option ρ)
  (h0:∀ n i s,¬ i<l.length→I i [] s→L (n+1) (i:Int) s=some (P i [] s))
  (h1:∀ n i s x r,i<l.length→l[i]? = some x→x∈l→I i (x::r) s→(∃ s',I (i+1) r s'∧L (n+1) (i:Int) s=L n ((i+1:Nat):Int) s'∧P i (x::r) s=P (i+1) r s')∨L (n+1) (i:Int) s=some (P i (x::r) s)) :
  ∀ (k n:Nat) (i:Nat) (s:σ),l.length-i≤k→k<n→I i (l.drop i) s→L n (i:Int) s=some (P i (l.drop i) s):=by
 intro k;induction k with
 |zero=>
  intro n i s hk hn hI;obtain ⟨n,rfl⟩:∃ q,n=q+1:=⟨n-1,by omega⟩;rw[List.drop_eq_nil_of_le (by omega)] at hI ⊢;exact h0 n i s (by omega) hI
 |succ k ih=>
  intro n i s hk hn hI;obtain ⟨n,rfl⟩:∃ q,n=q+1:=⟨n-1,by omega⟩;by_cases c:i<l.length
  ·rw[List.drop_eq_getElem_cons c] at hI ⊢;rcases h1 n i s l[i] _ c (List.getElem?_eq_getElem c) (List.getElem_mem c) hI with ⟨s',i1,e1,e2⟩|e
   ·rw[e1,ih n (i+1) s' (by omega) (by omega) i1,e2]
   ·exact e
  ·rw[List.drop_eq_nil_of_le (by omega)] at hI ⊢;exact h0 n i s c hI
def addM (c:Int):Nat→List Nm→List (Nm×Thing)→List (Nm×Thing)⊕Nm
 |_,[],th=>.inl th
 |k,s::l,th=>bif thB th s then .inr s else addM c (k+1) l (zaaw s ⟨c,k⟩ th)
def addLs:Nat→List (List Nm)→List (Nm×Thing)→List (Nm×Thing)⊕Nm
 |_,[],th=>.inl th
 |k,l::r,th=>match addM (1+k) 0 l th with
  |.inr s=>.inr s
  |.inl t=>addLs (k+1) r t
theorem zaxo (c:Nat) (a1 a2:Int) (l:List Nm) (th:List (Nm×Thing)) (x:List (List Nm)) (rs:List Nm) (hc:c≤100) (h:l.length≤100000000) :
  qaq_l11 c a1 a2 l l.length 0 th x rs=some (match addM (1+c) 0 l th with|.inl t=>.inr (a1,a2,t,x,rs)|.inr s=>.inl ⟨63,s⟩):=by
 rw[qaq_l11,zaaa]
 have := zanm l (fun _ _ _ => True) (fun i r t => (match addM (1 + c) i r t with | .inl t => .inr (a1, a2, t, x, rs) | .inr s => .inl ⟨63, s⟩ : Refused ⊕ (Int × Int × List (Nm × Thing) × List (List Nm) × List Nm)))
  (fun m i t=>qaq_i11 m c a1 a2 l l.length i t x rs)
  (fun m i t h _=>by
   have h':¬ ((i:Int)<(l.length:Int)):=by omega
   simp only[qaq_i11,qaq_t11,decide_eq_false h',cond_false,addM])
  (fun m i t y r h hy hm _=>by
   have h':((i:Int)<(l.length:Int)):=by omega
   simp only[qaq_i11,qaq_t11,decide_eq_true h',cond_true,decide_eq_true (Int.natCast_nonneg i),Int.toNat_natCast,hy,Option.bind_some,addM,thB];cases hs:Option.isSome (mapAt t y) with
   |true=>exact Or.inr rfl
   |false=>
    refine Or.inl ⟨zaaw y ⟨1+c,i⟩ t,trivial,?_,rfl⟩;rw[cond_false,i64_in ((i:Int)+1) (by omega),i64_in ((1:Int)+c) (by omega)];rfl)
  l.length fuel 0 th (by omega) (by unfold fuel; omega) trivial
 rw[List.drop_zero] at this;exact this
theorem zav7 (ls:List (List Nm)) (th:List (Nm×Thing)) (rs:List Nm) (h:ls.length≤100) (hl:∀ l∈ls,l.length≤100000000) :
  qaq_l8 ls.length 0 th ls rs=some (match addLs 0 ls th with|.inl t=>.inr (t,rs)|.inr s=>.inl ⟨63,s⟩):=by
 rw[qaq_l8,zaaa]
 have := zanm ls (fun _ _ _ => True) (fun i r t => (match addLs i r t with | .inl t => .inr (t, rs) | .inr s => .inl ⟨63, s⟩ : Refused ⊕ (List (Nm × Thing) × List Nm)))
  (fun m i t=>qaq_i8 m ls.length i t ls rs)
  (fun m i t h _=>by
   have h':¬ ((i:Int)<(ls.length:Int)):=by omega
   simp only[qaq_i8,qaq_t8,decide_eq_false h',cond_false,addLs])
  (fun m i t y r h hy hm _=>by
   have h':((i:Int)<(ls.length:Int)):=by omega
   simp only[qaq_i8,qaq_t8,decide_eq_true h',cond_true,decide_eq_true (Int.natCast_nonneg i),Int.toNat_natCast,hy,Option.bind_some,addLs,Bool.true_and];rw[zaxo i _ _ y t ls rs (by omega) (hl y hm)];cases hs:addM (1+(i:Int)) 0 y t with
   |inr s=>exact Or.inr rfl
   |inl t'=>
    refine Or.inl ⟨t',trivial,?_,rfl⟩;simp only[Option.bind_some];rw[i64_in ((i:Int)+1) (by omega)];rfl)
  ls.length fuel 0 th (by omega) (by unfold fuel; omega) trivial
 rw[List.drop_zero] at this;exact this
def zabg (l:List Nm):Bool:=decide (8<l.length)
def zaie (n:Names):List (Nm×Thing)⊕(Int×Nm):=
 bif n.threads.length==0 then .inr (60,[]) else bif zabg n.threads then .inr (60,(n.threads[8]?).getD []) else bif zabg n.cells then .inr (61,(n.cells[8]?).getD [])
 else bif zabg n.mutexes then .inr (62,(n.mutexes[8]?).getD []) else match addLs 0 [n.cells,n.mutexes,n.threads] [] with|.inl t=>.inl t|.inr s=>.inr (63,s)
theorem many1 (l:List Nm) (e:Int):qar l 8 e=some (bif zabg l then .inr ⟨e,(l[8]?).getD []⟩ else .inl ()):=by
 rw[qar,zaaa];unfold qar_f zabg;by_cases h:8<l.length
 ·rw[decide_eq_true (by omega:(l.length:Int)>8),decide_eq_true h];simp only[cond_true,Int.reduceToNat];rw[List.getElem?_eq_getElem h];rfl
 ·rw[decide_eq_false (by omega:¬ (l.length:Int)>8),decide_eq_false h];rfl
theorem zayq (n:Names) (hc:n.cells.length≤100000000) (hm:n.mutexes.length≤100000000) (ht:n.threads.length≤100000000) :
  qaq n [] []=some (match zaie n with|.inl th=>.inl (th,[])|.inr e=>.inr ⟨e.1,e.2⟩):=by
 rw[qaq,zaaa];unfold qaq_f zaie;have e0:((n.threads.length:Int)==0)=(n.threads.length==0):=by
  rw[Bool.eq_iff_iff]; simp only[beq_iff_eq]; omega
 rw[e0];cases n.threads.length==0 with
 |true=>rfl
 |false=>
  simp only[cond_false,many1,Option.bind_some];cases zabg n.threads with
  |true=>rfl
  |false=>
  cases zabg n.cells with
  |true=>rfl
  |false=>
  cases zabg n.mutexes with
  |true=>rfl
  |false=>
   simp only[cond_false];have:=zav7 [n.cells,n.mutexes,n.threads] [] [] (by simp) (by simp; omega);rw[this];cases addLs 0 [n.cells,n.mutexes,n.threads] []<;>rfl
def thrM (th:List (Nm×Thing)):List TThread→List (List TAct×List Nm)⊕(Int×Nm)
 |[]=>.inl []
 |t::l=>match acNs (thB th) (objM th) t.body [] with
  |.inr e=>.inr e
  |.inl y=>match thrM th l with
   |.inr e=>.inr e
   |.inl z=>.inl (y::z)
def thrW (th:List (Nm×Thing)):List TThread→List TBody×List (List Nm)→((Int×Nm)×List TBody×List (List Nm))⊕(List TBody×List (List Nm))
 |[],s=>.inr s
 |t::l,s=>match acNs (thB th) (objM th) t.body [] with
  |.inr e=>.inl (e,s)
  |.inl y=>thrW th l (s.1++[⟨y.2.length,y.1⟩],s.2++[y.2])
theorem zar1 (th : List (Nm × Thing)) : ∀ (l : List TThread) (s : List TBody × List (List Nm)), (∀ z, thrM th l = .inl z → thrW th l s = .inr (s.1 ++ z.map (fun y => ⟨y.2.length, y.1⟩), s.2 ++ z.map (·.2))) ∧ (∀ e, thrM th l = .inr e → ∃ q, thrW th l s = .inl (e, q))
 |[],s=>⟨fun z h=>by rw[thrM] at h; cases h; rw[thrW]; simp,fun e h=>by rw[thrM] at h; cases h⟩
 |t::l,s=>by
  rw[thrM,thrW];cases acNs (thB th) (objM th) t.body [] with
  |inr e=>exact ⟨fun z h=>(by cases h),fun e' h=>(by cases h; exact ⟨s,rfl⟩)⟩
  |inl y=>
   obtain ⟨h1,h2⟩:=zar1 th l (s.1++[⟨y.2.length,y.1⟩],s.2++[y.2]);cases hz:thrM th l with
   |inr e=>exact ⟨fun z h=>(by cases h),fun e' h=>(by cases h; exact h2 e hz)⟩
   |inl z=>exact ⟨fun z' h=>(by cases h; simp only; rw[h1 z hz]; simp),fun e' h=>(by cases h)⟩
def zaan (p:TProg):Names:=⟨p.cells.map (·.name),p.mutexes,p.threads.map (·.name),[]⟩
def unit0:TUnit:=⟨[],0,[]⟩
def zajx:Names:=⟨[],[],[],[]⟩
def zah7 (p:TProg):(TUnit×Names)⊕(Int×Nm):=match zaie (zaan p) with
 |.inr e=>.inr e
 |.inl th=>match thrM th p.threads with
  |.inr e=>.inr e
  |.inl z=>.inl (⟨p.cells.map (·.init),p.mutexes.length,z.map fun y=>⟨y.2.length,y.1⟩⟩,⟨p.cells.map (·.name),p.mutexes,p.threads.map (·.name),z.map (·.2)⟩)
def outC:(TUnit×Names)⊕(Int×Nm)→TUnit×Names×Int×Nm
 |.inl y=>(y.1,y.2,0,[])
 |.inr e=>(unit0,zajx,e.1,e.2)
noncomputable def zabd (p:TProg):TUnit×Names×Int×Nm:=bif zaca p != 0 then (unit0,zajx,zaca p,[]) else outC (zah7 p)
theorem zapf (p:TProg) (h:nT p.threads≤100000000) (h1:p.cells.length≤100000000) (h2:p.mutexes.length≤100000000):qal p=some (zabd p):=by
 rw[qal,zaaa];unfold qal_f zabd;have hl:=zacr p.threads;rw[zadb,zan9 p h h1 h2,Option.bind_some];cases zaca p != 0 with
 |true=>rfl
 |false=>
  simp only[cond_false]
  have e6 := zaa1 (σ := List Int × List Nm) p.cells (fun r s => s.1.length + r.length = p.cells.length ∧ s.2.length + r.length = p.cells.length) (fun r s => (p.cells, p.mutexes, p.threads, (0 : Int), (0 : Int), ([] : List UInt8), s.1 ++ r.map (·.init), s.2 ++ r.map (·.name)))
   (fun m i s=>qal_i6 m p.cells p.cells.length i p.cells p.mutexes p.threads 0 0 [] s.1 s.2)
   (fun m i s h0 h _=>by simp only[qal_i6,qal_t6,decide_eq_false h,cond_false,List.map_nil,List.append_nil])
   (fun m i s y r h0 h hy hm hI=>by
    simp only[List.length_cons] at hI;refine Or.inl ⟨(s.1++[y.init],s.2++[y.name]),by simp; omega,?_,by simp⟩;simp only[qal_i6,qal_t6,decide_eq_true h,decide_eq_true h0,cond_true,hy,Option.bind_some,List.length_cons,List.length_nil];rw[decide_eq_true (by omega),cond_true,decide_eq_true (by omega),cond_true,i64_in (i+1) (by omega)])
   fuel ([],[]) (by unfold fuel; omega) (by simp)
  simp only[List.nil_append] at e6;rw[qal_l6,zaaa,e6];simp only[Option.bind_some];rw[zary p.mutexes h2];simp only[Option.bind_some];rw[zap2];simp only[Option.bind_some]
  have e14 := zaa1 (σ := List Nm) p.threads (fun r s => s.length + r.length = p.threads.length) (fun r s => (p.cells, p.mutexes, p.threads, (p.mutexes.length : Int), (0 : Int), ([] : List UInt8), p.cells.map (·.init), p.cells.map (·.name), p.mutexes, s ++ r.map (·.name)))
   (fun m i s=>qal_i14 m p.threads p.threads.length i p.cells p.mutexes p.threads p.mutexes.length 0 [] (p.cells.map (·.init)) (p.cells.map (·.name)) p.mutexes s)
   (fun m i s h0 h _=>by simp only[qal_i14,qal_t14,decide_eq_false h,cond_false,List.map_nil,List.append_nil])
   (fun m i s y r h0 h hy hm hI=>by
    simp only[List.length_cons] at hI;refine Or.inl ⟨s++[y.name],by simp; omega,?_,by simp⟩;simp only[qal_i14,qal_t14,decide_eq_true h,decide_eq_true h0,cond_true,hy,Option.bind_some,List.length_cons,List.length_nil];rw[decide_eq_true (by omega),cond_true,i64_in (i+1) (by omega)])
   fuel [] (by unfold fuel; omega) (by simp)
  simp only[List.nil_append] at e14;rw[qal_l14,zaaa,e14];simp only[Option.bind_some];have eh:=zayq (zaan p) (by simp[zaan]; omega) h2 (by simp[zaan]; omega);unfold zaan at eh;rw[eh];unfold zah7 zaan;cases zaie ⟨p.cells.map (·.name),p.mutexes,p.threads.map (·.name),[]⟩ with
  |inr e=>rfl
  |inl th=>
   simp only[Option.bind_some]
   have e21 := zaa1 (σ := List TBody × List (List Nm)) p.threads (fun r s => s.1.length + r.length = p.threads.length ∧ s.2.length + r.length = p.threads.length)
    (fun r s => (match thrW th r s with | .inl e => .inl (⟨e.1.1, e.1.2⟩, (p.mutexes.length : Int), p.cells.map (·.name), p.mutexes, p.threads.map (·.name), (0 : Int), ([] : List UInt8), p.cells.map (·.init), e.2.1, e.2.2) | .inr z => .inr ((p.mutexes.length : Int), p.cells.map (·.name), p.mutexes, p.threads.map (·.name), (0 : Int), ([] : List UInt8), p.cells.map (·.init), z.1, z.2) :
     (Refused×Int×List Nm×List Nm×List Nm×Int×List UInt8×List Int×List TBody×List (List Nm))⊕(Int×List Nm×List Nm×List Nm×Int×List UInt8×List Int×List TBody×List (List Nm))))
    (fun m i s=>qal_i21 m p.threads p.threads.length i p.mutexes.length (p.cells.map (·.name)) p.mutexes (p.threads.map (·.name)) 0 [] th (p.cells.map (·.init)) s.1 s.2)
    (fun m i s h0 h _=>by simp only[qal_i21,qal_t21,decide_eq_false h,cond_false,thrW])
    (fun m i s y r h0 h hy hm hI=>by
     simp only[List.length_cons] at hI;have hb:=zadr hm;simp only[qal_i21,qal_t21,decide_eq_true h,decide_eq_true h0,cond_true,hy,Option.bind_some,thrW];rw[acX th y.body (by omega)];cases ha:acNs (thB th) (objM th) y.body [] with
     |inr e=>exact Or.inr rfl
     |inl a=>
      refine Or.inl ⟨(s.1++[⟨a.2.length,a.1⟩],s.2++[a.2]),by simp; omega,?_,rfl⟩;simp only[acOut,Option.bind_some,List.length_cons,List.length_nil,zap2];rw[decide_eq_true (by omega),cond_true,decide_eq_true (by omega),cond_true,i64_in (i+1) (by omega)])
    fuel ([],[]) (by unfold fuel; omega) (by simp)
   rw[qal_l21,zaaa,e21];obtain ⟨h1,h2⟩:=zar1 th p.threads ([],[]);cases hz:thrM th p.threads with
   |inr e=>
    obtain ⟨q,hq⟩:=h2 e hz;rw[hq];rfl
   |inl z=>
    rw[h1 z hz];rfl
end Lift.A9
namespace Lift.A9
open Go Go.RowKit Lift Go.IntWalk Lift.Fn Lift.A3
set_option linter.unusedVariables false
set_option linter.unusedSimpArgs false
theorem zae8 (x:Nm) (l:List Nm) (s:Nm):plc (x::l) s=bif x==s then 0 else bif decide (plc l s<0) then -1 else plc l s+1:=by
 unfold plc;rw[List.findIdx?_cons];cases hx:x==s with
 |true=>rfl
 |false=>
  simp only[Bool.false_eq_true,if_false];cases l.findIdx? (·==s) with
  |none=>rfl
  |some i=>
   simp only[Option.map_some,cond_false];rw[decide_eq_false (by omega),cond_false];omega
theorem zaoa (l:List Nm) (s:Nm):-1≤plc l s∧plc l s<(l.length:Int):=by
 induction l with
 |nil=>rw[zasf]; simp
 |cons x l ih=>
  rw[zae8];cases x==s with
  |true=>simp only[cond_true,List.length_cons]; omega
  |false=>
   rw[cond_false];cases h:decide (plc l s<0) with
   |true=>simp only[cond_true,List.length_cons]; omega
   |false=>
    rw[decide_eq_false_iff_not] at h;simp only[cond_false,List.length_cons];omega
theorem zaj8 (l:List Nm) (s:Nm):(0≤plc l s)↔s∈l:=by
 induction l with
 |nil=>rw[zasf]; simp
 |cons x l ih=>
  rw[zae8,List.mem_cons];cases hx:x==s with
  |true=>
   have:x=s:=eq_of_beq hx;simp[this]
  |false=>
   have hne:¬ s=x:=by intro h; rw[h,beq_self_eq_true] at hx; cases hx
   rw[cond_false];cases h:decide (plc l s<0) with
   |true=>
    rw[decide_eq_true_eq] at h;have:¬ s∈l:=fun hm=>by have:=ih.2 hm; omega
    simp only[cond_true];constructor
    ·intro h; omega
    ·rintro (h|h)
     ·exact absurd h hne
     ·exact absurd h this
   |false=>
    rw[decide_eq_false_iff_not] at h;simp only[cond_false];constructor
    ·intro _; exact Or.inr (ih.1 (by omega))
    ·intro _; omega
def ent (c:Int):Nat→List Nm→List (Nm×Thing)
 |_,[]=>[]
 |k,s::l=>(s,⟨c,k⟩)::ent c (k+1) l
theorem zae9 (c : Int) : ∀ (l : List Nm) (k : Nat), (ent c k l).map (·.1) = l
 |[],k=>rfl
 |s::l,k=>by rw[ent,List.map_cons,zae9 c l (k+1)]
def dupM:List Nm→List Nm→Option Nm
 |_,[]=>none
 |seen,s::l=>bif seen.any (·==s) then some s else dupM (seen++[s]) l
theorem zalr : ∀ (l r seen : List Nm), dupM seen (l ++ r) = match dupM seen l with | some s => some s | none => dupM (seen ++ l) r
 |[],r,seen=>by rw[dupM,List.nil_append,List.append_nil]
 |s::l,r,seen=>by
  rw[List.cons_append,dupM,dupM];cases seen.any (·==s) with
  |true=>rfl
  |false=>rw[cond_false,cond_false,zalr l r,List.append_assoc]; rfl
theorem zant (th th':List (Nm×Thing)) (s:Nm):mapAt (th++th') s=match mapAt th s with|some v=>some v|none=>mapAt th' s:=by
 unfold mapAt;rw[List.find?_append];cases th.find? (fun y=>y.1==s)<;>rfl
theorem zah8 (th:List (Nm×Thing)) (s:Nm):thB th s=(th.map (·.1)).any (·==s):=by
 unfold thB mapAt;rw[List.any_map];induction th with
 |nil=>rfl
 |cons x th ih=>
  rw[List.find?_cons,List.any_cons];cases hx:x.1==s with
  |true=>simp[hx]
  |false=>simp only[Function.comp,hx,Bool.false_or]; exact ih
theorem zalz (s:Nm) (v:Thing):∀ th:List (Nm×Thing),thB th s=false→zaaw s v th=th++[(s,v)]
 |[],_=>rfl
 |x::th,h=>by
  rw[zah8,List.map_cons,List.any_cons,Bool.or_eq_false_iff] at h;rw[zaaw,h.1,cond_false,zalz s v th (by rw[zah8]; exact h.2)];rfl
theorem zaj9 (c : Int) : ∀ (l : List Nm) (k : Nat) (th : List (Nm × Thing)), addM c k l th = match dupM (th.map (·.1)) l with | some s => .inr s | none => .inl (th ++ ent c k l)
 |[],k,th=>by rw[addM,dupM,ent,List.append_nil]
 |s::l,k,th=>by
  rw[addM,dupM,zah8];cases h:(th.map (·.1)).any (·==s) with
  |true=>rfl
  |false=>
   rw[cond_false,cond_false,zalz s _ th (by rw[zah8]; exact h),zaj9 c l (k+1),List.map_append,ent];show (match dupM (th.map (·.1)++[s]) l with|some s=>_|none=>_)=_;cases dupM (th.map (·.1)++[s]) l with
   |some s=>rfl
   |none=>simp only[List.append_assoc]; rfl
def entP (n:Names):List (Nm×Thing):=ent 1 0 n.cells++(ent 2 0 n.mutexes++ent 3 0 n.threads)
def allP (n:Names):List Nm:=n.cells++(n.mutexes++n.threads)
theorem zawq (n:Names):addLs 0 [n.cells,n.mutexes,n.threads] []=match dupM [] (allP n) with|some s=>.inr s|none=>.inl (entP n):=by
 unfold allP entP;rw[zalr,zalr];rw[addLs,zaj9,List.map_nil];cases dupM [] n.cells with
 |some s=>rfl
 |none=>
  simp only[List.nil_append];rw[addLs,zaj9,zae9];cases dupM n.cells n.mutexes with
  |some s=>rfl
  |none=>
   simp only;rw[addLs,zaj9,List.map_append,zae9,zae9];cases dupM (n.cells++n.mutexes) n.threads with
   |some s=>rfl
   |none=>simp only[List.append_assoc,addLs]; rfl
theorem zano:∀ (l seen:List Nm),dupM seen l=none→(∀ s∈l,s∉seen)∧l.Nodup
 |[],seen,_=>⟨by simp,List.nodup_nil⟩
 |s::l,seen,h=>by
  rw[dupM] at h;cases hs:seen.any (·==s) with
  |true=>rw[hs] at h; cases h
  |false=>
   rw[hs,cond_false] at h;obtain ⟨h1,h2⟩:=zano l _ h;have hn:s∉seen:=by
    intro hm;rw[List.any_eq_false] at hs;exact hs s hm (beq_self_eq_true s)
   refine ⟨?_,?_⟩
   ·intro t ht;rcases List.mem_cons.1 ht with rfl|ht
    ·exact hn
    ·intro hm;exact h1 t ht (List.mem_append.2 (Or.inl hm))
   ·refine List.nodup_cons.2 ⟨?_,h2⟩;intro hm;exact h1 s hm (by simp)
theorem zahj (c:Int) (s:Nm):∀ (l:List Nm) (k:Nat),mapAt (ent c k l) s=bif decide (plc l s<0) then none else some ⟨c,k+plc l s⟩
 |[],k=>rfl
 |x::l,k=>by
  rw[zae8,ent];have e:mapAt ((x,(⟨c,k⟩:Thing))::ent c (k+1) l) s=bif x==s then some ⟨c,k⟩ else mapAt (ent c (k+1) l) s:=by
   unfold mapAt;rw[List.find?_cons];show Option.map _ (match x==s with|true=>_|false=>_)=_;cases x==s<;>rfl
  rw[e,zahj c s l (k+1)];cases x==s with
  |true=>
   show some (⟨c,k⟩:Thing)=some ⟨c,(k:Int)+0⟩;rw[Int.add_zero]
  |false=>
   rw[cond_false,cond_false];cases h:decide (plc l s<0) with
   |true=>rfl
   |false=>
    rw[decide_eq_false_iff_not] at h;rw[cond_false,cond_false,decide_eq_false (by omega),cond_false];congr 2;omega
def thing (n:Names) (s:Nm):Bool:=(decide (0≤plc n.cells s)||decide (0≤plc n.mutexes s))||decide (0≤plc n.threads s)
def plK (n:Names) (k:Int) (s:Nm):Int:=bif needK k==1 then plc n.cells s else bif needK k==2 then plc n.mutexes s else plc n.threads s
def objN (n:Names) (k:Int) (s:Nm):Int⊕(Int×Nm):=bif needK k==0 then .inl 0 else bif thing n s then (bif decide (plK n k s<0) then .inr (65,s) else .inl (plK n k s)) else .inr (64,s)
theorem zatj (n:Names) (s:Nm):thing n s=(allP n).any (·==s):=by
 have key:∀ l:List Nm,decide (0≤plc l s)=l.any (·==s):=by
  intro l;rw[Bool.eq_iff_iff,decide_eq_true_eq,zaj8,List.any_eq_true];constructor
  ·intro h; exact ⟨s,h,beq_self_eq_true s⟩
  ·rintro ⟨x,hx,e⟩; have:=eq_of_beq e; rw[← this]; exact hx
 unfold thing allP;rw[key,key,key,List.any_append,List.any_append,Bool.or_assoc]
theorem zar3 (n:Names):thB (entP n)=thing n:=by
 funext s;rw[zah8,zatj];unfold entP allP;rw[List.map_append,List.map_append,zae9,zae9,zae9]
theorem zaht (k:Int):needK k=0∨needK k=1∨needK k=2∨needK k=3:=by
 unfold needK;cases (k==2||k==3||k==4)<;>cases (k==5||k==6)<;>cases (k==7||k==8)<;>simp
theorem zavv (n:Names) (hd:dupM [] (allP n)=none):objM (entP n)=objN n:=by
 obtain ⟨_,hn⟩:=zano _ _ hd;unfold allP at hn;rw[List.nodup_append,List.nodup_append] at hn;obtain ⟨_,⟨_,_,hbc⟩,habc⟩:=hn;funext k s;unfold objM objN;rw[zar3];cases hk:needK k==0 with
 |true=>rfl
 |false=>
  rw[cond_false,cond_false];cases ht:thing n s with
  |false=>rfl
  |true=>
   rw[cond_true,cond_true];unfold entP;rw[zant,zant,zahj,zahj,zahj];simp only[Int.natCast_zero,Int.zero_add];have hk0:needK k≠0:=by intro h; rw[h] at hk; cases hk
   have hA:=zaj8 n.cells s;have hB:=zaj8 n.mutexes s;have hC:=zaj8 n.threads s;unfold plK;cases ca:decide (plc n.cells s<0) with
   |false=>
    rw[decide_eq_false_iff_not] at ca;have ma:=hA.1 (by omega);have nb:¬ s∈n.mutexes:=fun h=>habc s ma s (List.mem_append.2 (Or.inl h)) rfl
    have nc:¬ s∈n.threads:=fun h=>habc s ma s (List.mem_append.2 (Or.inr h)) rfl
    have ib:plc n.mutexes s<0:=by by_cases h:0≤plc n.mutexes s; exact absurd (hB.1 h) nb; omega
    have ic:plc n.threads s<0:=by by_cases h:0≤plc n.threads s; exact absurd (hC.1 h) nc; omega
    rcases zaht k with h|h|h|h
    ·exact absurd h hk0
    ·rw[h]; simp[ca]
    ·rw[h]; simp[ib]
    ·rw[h]; simp[ic]
   |true=>
    rw[decide_eq_true_eq] at ca;cases cb:decide (plc n.mutexes s<0) with
    |false=>
     rw[decide_eq_false_iff_not] at cb;have mb:=hB.1 (by omega);have nc:¬ s∈n.threads:=fun h=>hbc s mb s h rfl
     have ic:plc n.threads s<0:=by by_cases h:0≤plc n.threads s; exact absurd (hC.1 h) nc; omega
     rcases zaht k with h|h|h|h
     ·exact absurd h hk0
     ·rw[h]; simp[ca]
     ·rw[h]; simp[cb]
     ·rw[h]; simp[ic]
    |true=>
     rw[decide_eq_true_eq] at cb;have ic:¬ plc n.threads s<0:=by
      unfold thing at ht;simp only[Bool.or_eq_true,decide_eq_true_eq] at ht;omega
     rcases zaht k with h|h|h|h
     ·exact absurd h hk0
     ·rw[h]; simp[ca,ic]
     ·rw[h]; simp[cb,ic]
     ·rw[h]; simp[ic]
def headN (n:Names):Option (Int×Nm):=
 bif n.threads.length==0 then some (60,[]) else bif zabg n.threads then some (60,(n.threads[8]?).getD []) else bif zabg n.cells then some (61,(n.cells[8]?).getD [])
 else bif zabg n.mutexes then some (62,(n.mutexes[8]?).getD []) else match dupM [] (allP n) with|some s=>some (63,s)|none=>none
theorem zauj (n:Names):zaie n=match headN n with|some e=>.inr e|none=>.inl (entP n):=by
 unfold zaie headN;rw[zawq];cases n.threads.length==0<;>cases zabg n.threads<;>cases zabg n.cells<;>cases zabg n.mutexes<;>try rfl
 simp only[cond_false];cases dupM [] (allP n)<;>rfl
theorem zauq {n:Names} (h:headN n=none):dupM [] (allP n)=none:=by
 unfold headN at h;revert h;cases n.threads.length==0<;>cases zabg n.threads<;>cases zabg n.cells<;>cases zabg n.mutexes<;>simp only[cond_true,cond_false]<;>try (intro h; cases h)
 cases dupM [] (allP n) with
 |none=>intro _; rfl
 |some s=>intro h; cases h
def thrN (n:Names):List TThread→List (List TAct×List Nm)⊕(Int×Nm)
 |[]=>.inl []
 |t::l=>match acNs (thing n) (objN n) t.body [] with
  |.inr e=>.inr e
  |.inl y=>match thrN n l with
   |.inr e=>.inr e
   |.inl z=>.inl (y::z)
theorem zar2 (n:Names) (h:dupM [] (allP n)=none):∀ l,thrM (entP n) l=thrN n l
 |[]=>rfl
 |t::l=>by
  rw[thrM,thrN,zar2 n h l];show (match acNs (thB (entP n)) (objM (entP n)) t.body [] with|.inr e=>_|.inl y=>_)=_;rw[zar3,zavv n h]
  all_goals
   cases acNs (thing n) (objN n) t.body [] with
   |inr e=>rfl
   |inl y=>simp only; cases thrN n l<;>rfl
theorem zanq (p:TProg):zah7 p=match headN (zaan p) with
 |some e=>.inr e
 |none=>match thrN (zaan p) p.threads with
  |.inr e=>.inr e
  |.inl z=>.inl (⟨p.cells.map (·.init),p.mutexes.length,z.map fun y=>⟨y.2.length,y.1⟩⟩,⟨p.cells.map (·.name),p.mutexes,p.threads.map (·.name),z.map (·.2)⟩):=by
 unfold zah7;rw[zauj];cases h:headN (zaan p) with
 |some e=>rfl
 |none=>
  simp only;rw[zar2 _ (zauq h)];all_goals cases thrN (zaan p) p.threads<;>rfl
end Lift.A9
namespace Lift.A9
open Go Go.RowKit Lift Go.IntWalk Lift.Fn Lift.A3
set_option linter.unusedVariables false
set_option linter.unusedSimpArgs false
theorem nm_a:isNm [97]=true:=(nm_of [97] [97] ⟨1,[97],0,0⟩ (by decide) (by decide +kernel) (by decide +kernel) (by decide +kernel)).trans (by decide)
theorem nm_b:isNm [98]=true:=(nm_of [98] [98] ⟨1,[98],0,0⟩ (by decide) (by decide +kernel) (by decide +kernel) (by decide +kernel)).trans (by decide)
theorem nm_c:isNm [99]=true:=(nm_of [99] [99] ⟨1,[99],0,0⟩ (by decide) (by decide +kernel) (by decide +kernel) (by decide +kernel)).trans (by decide)
def noX:TExpr:=⟨0,0,[],[]⟩
def s1 (a x:Nm):TStmt:=⟨2,a,x,noX,0,[],[]⟩
def s2 (a b c:Nm):TStmt:=⟨1,b,[],⟨5,0,[],[⟨2,0,a,[]⟩,⟨2,0,c,[]⟩]⟩,0,[],[]⟩
def pS (x t a b c:Nm):TProg:=⟨[⟨x,3⟩],[],[⟨t,[s1 a x,s2 a b c]⟩]⟩
def pT:TProg:=⟨[⟨[116],0⟩],[],[⟨[116],[]⟩]⟩
theorem rS {x t a b c:Nm} (hx:isNm x=true) (ht:isNm t=true) (ha:isNm a=true) (hb:isNm b=true) (hc:isNm c=true):zaca (pS x t a b c)=0:=by
 have e1:sF (s1 a x)=true:=by
  have h2:shp 2=⟨true,true,false,false,false,false⟩:=by decide
  have hi:inR 2=true:=by decide
  simp[sF,s1,noX,sOk,h2,hi,isOpt,hx,ha,zaau,none_,sFs]
 have e2:sF (s2 a b c)=true:=by
  have h1:shp 1=⟨true,false,true,false,false,false⟩:=by decide
  have hi:inR 1=true:=by decide
  simp[sF,s2,sOk,h1,hi,isOpt,ha,hb,hc,zaau,eF,eFs,xOk,sFs]
 have ok:pOk (pS x t a b c)=true:=by
  simp[pOk,pS,cOk,hx,ht,sFs,e1,e2]
 unfold zaca;rw[ok];have h1:maxEv (evP (pS x t a b c)) 0=2:=by simp[evP,pS,s1,s2,noX,evSs,evS,zaau,evE,evEs,maxEv,evD]; rfl
 have h2:cT (pS x t a b c).threads=5:=by simp[pS,s1,s2,noX,cT,cSs,cS,zaau,nE,nEs]
 rw[h1,h2];rfl
theorem rT:zaca pT=0:=by
 have ok:pOk pT=true:=by simp[pOk,pT,cOk,nm_t,sFs]
 unfold zaca;rw[ok];have h1:maxEv (evP pT) 0=0:=by simp[evP,pT,evSs,maxEv]
 have h2:cT pT.threads=0:=by simp[pT,cT,cSs]
 rw[h1,h2];rfl
def uS:TUnit:=⟨[3],0,[⟨3,[⟨2,0,0,noX,0,[],[]⟩,⟨1,1,0,⟨5,0,[],[⟨2,0,[],[]⟩,⟨2,2,[],[]⟩]⟩,0,[],[]⟩]⟩]⟩
def nS0:Names:=⟨[[120]],[],[[116]],[[[97],[98],[99]]]⟩
theorem chS:zah7 (pS [120] [116] [97] [98] [99])=.inl (uS,nS0):=by kernel_rfl
theorem cT0:zah7 pT=.inr (63,[116]):=by kernel_rfl
theorem rUS:zamx uS=true:=by
 unfold zamx;have:zadv uS (nmsU uS)=pS [120] [120] [120] [120] [120]:=by kernel_rfl
 rw[this,rS nm_x nm_x nm_x nm_x nm_x];rfl
theorem zayh:qaK=some true:=by
 rw[qaK,zaaa];unfold qaK_f;have e1:=zapf (pS [120] [116] [97] [98] [99]) (by decide) (by decide) (by decide);have e2:=zapf pT (by decide) (by decide) (by decide);have e3:=zasu uS (by decide) (by decide);rw[zabd,rS nm_x nm_t nm_a nm_b nm_c,chS] at e1;rw[zabd,rT,cT0] at e2;rw[rUS] at e3;show Option.bind (qal (pS [120] [116] [97] [98] [99])) _=_;rw[e1,Option.bind_some];show Option.bind (qal pT) _=_;rw[e2,Option.bind_some];show Option.bind (qam uS) _=_;rw[e3];rfl
end Lift.A9
namespace Lift.A9
open Go Go.RowKit Lift Go.IntWalk Lift.Fn Lift.A3
set_option linter.unusedVariables false
set_option linter.unusedSimpArgs false
structure St where
 e:Int
 nm:Nm
 rs:List Nm
def regD (n:Names) (s:Nm) (t:St):Int×St:=
 bif t.e != 0 then (0,t) else bif thing n s then (0,⟨65,s,t.rs⟩) else bif decide (plc t.rs s<0) then (bif decide ((t.rs.length:Int)≥8) then (0,⟨66,s,t.rs⟩) else (t.rs.length,⟨t.e,t.nm,t.rs++[s]⟩)) else (plc t.rs s,t)
def objD (n:Names) (k:Int) (s:Nm) (t:St):Int×St:=
 bif t.e != 0 then (0,t) else bif !thing n s then (0,⟨64,s,t.rs⟩) else bif decide (plK n k s<0) then (0,⟨65,s,t.rs⟩) else (plK n k s,t)
mutual
def exD (n:Names):TExpr→St→TExpr×St
 |⟨k,m,s,l⟩,t=>bif k==2 then (let i:=regD n s t; let a:=exDs n l i.2; (⟨k,i.1,[],a.1⟩,a.2)) else (let a:=exDs n l t; (⟨k,m,[],a.1⟩,a.2))
def exDs (n:Names):List TExpr→St→List TExpr×St
 |[],t=>([],t)
 |x::l,t=>let a:=exD n x t; let b:=exDs n l a.2; (a.1::b.1,b.2)
end
theorem zayw (n:Names) (x:TExpr) (t:St):exD n x t=bif x.kind==2 then (⟨x.kind,(regD n x.name t).1,[],(exDs n x.args (regD n x.name t).2).1⟩,(exDs n x.args (regD n x.name t).2).2) else (⟨x.kind,x.num,[],(exDs n x.args t).1⟩,(exDs n x.args t).2):=by
 cases x; rw[exD]
def regDO (n:Names) (b:Bool) (s:Nm) (t:St):Int×St:=bif b then regD n s t else (0,t)
def objDO (n:Names) (b:Bool) (k:Int) (s:Nm) (t:St):Int×St:=bif b then objD n k s t else (0,t)
def exDO (n:Names) (b:Bool) (x:TExpr) (t:St):TExpr×St:=bif b then exD n x t else (⟨0,0,[],[]⟩,t)
mutual
def acD (n:Names):TStmt→St→TAct×St
 |⟨k,r,nm,x,c,th,el⟩,t=>
  let a:=regDO n (shp k).reg r t
  let b:=objDO n (shp k).name k nm a.2
  let y:=exDO n (shp k).expr x b.2
  let z:=acDs n th y.2
  let q:=acDs n el z.2
  (⟨k,a.1,b.1,y.1,c,z.1,q.1⟩,q.2)
def acDs (n:Names):List TStmt→St→List TAct×St
 |[],t=>([],t)
 |x::l,t=>bif t.e==0 then (let a:=acD n x t; let b:=acDs n l a.2; (a.1::b.1,b.2)) else ([],t)
end
theorem zayn (n:Names) (x:TStmt) (t:St):acD n x t =
    (let a:=regDO n (shp x.kind).reg x.reg t
     let b:=objDO n (shp x.kind).name x.kind x.name a.2
     let y:=exDO n (shp x.kind).expr x.expr b.2
     let z:=acDs n x.then_ y.2
     let q:=acDs n x.else_ z.2
     (⟨x.kind,a.1,b.1,y.1,x.count,z.1,q.1⟩,q.2)):=by
  cases x; rw[acD]
theorem zah5 (e:Int) (s:Nm) (e0:Int) (s0:Nm) (c m t:List Nm) (R:List (List Nm)) (rs:List Nm) :
  qbv e s e0 s0 c m t R rs=some (bif e0==0 then (e,s,c,m,t,R,rs) else (e0,s0,c,m,t,R,rs)):=by
 rw[qbv,zaaa];unfold qbv_f;cases e0==0<;>rfl
theorem zaul (n:Names) (s:Nm) (e0:Int) (s0:Nm) (rs:List Nm) (hc:n.cells.length≤100000000) (hm:n.mutexes.length≤100000000) (ht:n.threads.length≤100000000) :
  qbu s e0 s0 n.cells n.mutexes n.threads n.regs rs=some (thing n s,e0,s0,n.cells,n.mutexes,n.threads,n.regs,rs):=by
 rw[qbu,zaaa];unfold qbu_f thing;rw[plcR1 _ _ (by omega),plcR1 _ _ (by omega),plcR1 _ _ (by omega)];simp only[Option.bind_some,zaa8,cor]
structure Nok (n:Names):Prop where
 c:n.cells.length≤100000000
 m:n.mutexes.length≤100000000
 t:n.threads.length≤100000000
theorem regD1 (n:Names) (hn:Nok n) (s:Nm) (t:St) (h:t.rs.length≤8) :
  qbt s t.e t.nm n.cells n.mutexes n.threads n.regs t.rs=some ((regD n s t).1,(regD n s t).2.e,(regD n s t).2.nm,n.cells,n.mutexes,n.threads,n.regs,(regD n s t).2.rs):=by
 rw[qbt,zaaa];unfold qbt_f regD;cases he:t.e != 0 with
 |true=>rfl
 |false=>
  have e0:(t.e==0)=true:=by simpa [bne] using he
  simp only[cond_false,zaul n s t.e t.nm t.rs hn.c hn.m hn.t,Option.bind_some];cases thing n s with
  |true=>simp only[cond_true,zah5,e0,Option.bind_some]
  |false=>
   simp only[cond_false];rw[plcR1 _ _ (by omega),Option.bind_some];cases decide (plc t.rs s<0) with
   |false=>rfl
   |true=>
    simp only[cond_true];cases decide ((t.rs.length:Int)≥8) with
    |true=>simp only[cond_true,zah5,e0,Option.bind_some]
    |false=>
     simp only[cond_false];rw[decide_eq_true (by simp only[List.length_cons,List.length_nil]; omega)];rfl
theorem zais (n:Names) (s:Nm) (t:St) (h:t.rs.length≤8):(regD n s t).2.rs.length≤8:=by
 unfold regD;cases t.e != 0 with
 |true=>exact h
 |false=>
 cases thing n s with
 |true=>exact h
 |false=>
 cases decide (plc t.rs s<0) with
 |false=>exact h
 |true=>
  by_cases h8:(t.rs.length:Int)≥8
  ·rw[decide_eq_true h8]; exact h
  ·rw[decide_eq_false h8];show (t.rs++[s]).length≤8;simp;omega
theorem objD1 (n:Names) (hn:Nok n) (k:Int) (s:Nm) (t:St) :
  qbs k s t.e t.nm n.cells n.mutexes n.threads n.regs t.rs=some ((objD n k s t).1,(objD n k s t).2.e,(objD n k s t).2.nm,n.cells,n.mutexes,n.threads,n.regs,(objD n k s t).2.rs):=by
 rw[qbs,zaaa];unfold qbs_f objD;cases he:t.e != 0 with
 |true=>rfl
 |false=>
  have e0:(t.e==0)=true:=by simpa [bne] using he
  simp only[cond_false,zaul n s t.e t.nm t.rs hn.c hn.m hn.t,Option.bind_some];cases thing n s with
  |false=>simp only[Bool.not_false,cond_true,zah5,e0,Option.bind_some]
  |true=>
   simp only[Bool.not_true,cond_false];rw[plcR1 n.cells s (by have:=hn.c; omega),plcR1 n.mutexes s (by have:=hn.m; omega),plcR1 n.threads s (by have:=hn.t; omega)];simp only[Option.bind_some,zah5,e0,cond_true];unfold plK needK;cases k==2 with
   |true=>cases h:decide (plc n.cells s<0)<;>simp[h]
   |false=>
   cases k==3 with
   |true=>cases h:decide (plc n.cells s<0)<;>simp[h]
   |false=>
   cases k==4 with
   |true=>cases h:decide (plc n.cells s<0)<;>simp[h]
   |false=>
   cases k==5 with
   |true=>cases h:decide (plc n.mutexes s<0)<;>simp[h]
   |false=>
   cases k==6 with
   |true=>cases h:decide (plc n.mutexes s<0)<;>simp[h]
   |false=>
    cases k==7<;>cases k==8<;>cases h:decide (plc n.threads s<0)<;>simp[h]
theorem zang (n:Names) (k:Int) (s:Nm) (t:St):(objD n k s t).2.rs=t.rs:=by
 unfold objD;cases t.e != 0<;>cases thing n s<;>cases decide (plK n k s<0)<;>rfl
mutual
theorem zafd (n:Names):∀ (x:TExpr) (t:St),t.rs.length≤8→(exD n x t).2.rs.length≤8
 |⟨k,m,s,l⟩,t,h=>by
  rw[exD];cases k==2 with
  |true=>exact zals n l _ (zais n s t h)
  |false=>exact zals n l _ h
theorem zals (n:Names):∀ (l:List TExpr) (t:St),t.rs.length≤8→(exDs n l t).2.rs.length≤8
 |[],t,h=>by rw[exDs]; exact h
 |x::l,t,h=>by rw[exDs]; exact zals n l _ (zafd n x t h)
end
theorem zawk (n:Names) (t:St):exDs n [] t=([],t):=by rw[exDs]
theorem zaun (n:Names) (x:TExpr) (l:List TExpr) (t:St):exDs n (x::l) t=((exD n x t).1::(exDs n l (exD n x t).2).1,(exDs n l (exD n x t).2).2):=by rw[exDs]
theorem exD1 (n:Names) (hn:Nok n):∀ (k f:Nat) (x:TExpr) (t:St),nE x≤k→k<f→k≤100000000→t.rs.length≤8 →
  qbq_i f x t.e t.nm n.cells n.mutexes n.threads n.regs t.rs =
   some ((exD n x t).1.kind,(exD n x t).1.num,(exD n x t).1.name,(exD n x t).2.e,(exD n x t).2.nm,(exD n x t).1.args,n.cells,n.mutexes,n.threads,n.regs,(exD n x t).2.rs):=by
 intro k;induction k with
 |zero=>intro f x t h; have:=nE_eq x; omega
 |succ k ih=>
  intro f x t h hf hb hrs;obtain ⟨f,rfl⟩:∃ q,f=q+1:=⟨f-1,by omega⟩;have hx:=nE_eq x;have hl:=zadh x.args
  have e5:∀ (t:St) (a3 a4:Int) (a5:List UInt8) (a7 a8:Int) (a9:List UInt8) (a10 a11:Int) (a12:List UInt8),t.rs.length≤8 →
    qbq_l5 (qbq_i f) 0 t.e t.nm a3 a4 a5 x.args a7 a8 a9 a10 a11 a12 n.cells n.mutexes n.threads n.regs t.rs [] =
    some ((exDs n x.args t).2.e,(exDs n x.args t).2.nm,a7,a8,a9,a10,a11,a12,n.cells,n.mutexes,n.threads,n.regs,(exDs n x.args t).2.rs,(exDs n x.args t).1):=by
   intro t a3 a4 a5 a7 a8 a9 a10 a11 a12 hrs;rw[qbq_l5,zaaa]
   have := zaa1 (σ := St × List TExpr) x.args (fun r s => s.1.rs.length ≤ 8 ∧ s.2.length + r.length = x.args.length)
    (fun r s=>((exDs n r s.1).2.e,(exDs n r s.1).2.nm,a7,a8,a9,a10,a11,a12,n.cells,n.mutexes,n.threads,n.regs,(exDs n r s.1).2.rs,s.2++(exDs n r s.1).1))
    (fun m i s=>qbq_i5 (qbq_i f) m i s.1.e s.1.nm a3 a4 a5 x.args a7 a8 a9 a10 a11 a12 n.cells n.mutexes n.threads n.regs s.1.rs s.2)
    (fun m i s h0 h _=>by
     simp only[qbq_i5,qbq_t5,decide_eq_false h,cond_false,zawk,List.append_nil])
    (fun m i s y r h0 h hy hm hI=>by
     have hy1:=zadc hm;obtain ⟨i1,i2⟩:=hI;simp only[List.length_cons] at i2;refine Or.inl ⟨((exD n y s.1).2,s.2++[(exD n y s.1).1]),⟨zafd n y s.1 i1,by simp; omega⟩,?_,by rw[zaun]; simp⟩;simp only[qbq_i5,qbq_t5,decide_eq_true h,decide_eq_true h0,cond_true,hy,Option.bind_some];rw[ih f y s.1 (by omega) (by omega) (by omega) i1];simp only[Option.bind_some,List.length_cons,List.length_nil,zaav];rw[decide_eq_true (by omega),cond_true,i64_in (i+1) (by omega)])
    fuel (t,[]) (by unfold fuel; omega) ⟨hrs,by simp⟩
   simp only[List.nil_append] at this;exact this
  show qbq_f (qbq_i f) x t.e t.nm n.cells n.mutexes n.threads n.regs t.rs=_;unfold qbq_f;rw[zayw];cases hk:x.kind==2 with
  |true=>
   simp only[cond_true];rw[regD1 n hn x.name t hrs];simp only[Option.bind_some];rw[e5 (regD n x.name t).2 _ _ _ _ _ _ _ _ _ (zais n x.name t hrs)];rfl
  |false=>
   simp only[cond_false];rw[e5 t _ _ _ _ _ _ _ _ _ hrs];rfl
theorem exDX (n:Names) (hn:Nok n) (x:TExpr) (t:St) (h:nE x≤100000000) (hr:t.rs.length≤8):qbq x t.e t.nm n.cells n.mutexes n.threads n.regs t.rs =
   some ((exD n x t).1.kind,(exD n x t).1.num,(exD n x t).1.name,(exD n x t).2.e,(exD n x t).2.nm,(exD n x t).1.args,n.cells,n.mutexes,n.threads,n.regs,(exD n x t).2.rs):=by
 rw[qbq,zaaa,exD1 n hn (nE x) fuel x t (Nat.le_refl _) (by unfold fuel; omega) h hr]
end Lift.A9
namespace Lift.A9
open Go Go.RowKit Lift Go.IntWalk Lift.Fn Lift.A3
set_option linter.unusedVariables false
set_option linter.unusedSimpArgs false
theorem zau5 (n:Names) (b:Bool) (s:Nm) (t:St) (h:t.rs.length≤8):(regDO n b s t).2.rs.length≤8:=by
 cases b with
 |true=>exact zais n s t h
 |false=>exact h
theorem zavr (n:Names) (b:Bool) (k:Int) (s:Nm) (t:St):(objDO n b k s t).2.rs=t.rs:=by
 cases b with
 |true=>exact zang n k s t
 |false=>rfl
theorem zavs (n:Names) (b:Bool) (x:TExpr) (t:St) (h:t.rs.length≤8):(exDO n b x t).2.rs.length≤8:=by
 cases b with
 |true=>exact zafd n x t h
 |false=>exact h
theorem zagq (n:Names) (t:St):acDs n [] t=([],t):=by rw[acDs]
theorem zafm (n:Names) (x:TStmt) (l:List TStmt) (t:St):acDs n (x::l) t=bif t.e==0 then ((acD n x t).1::(acDs n l (acD n x t).2).1,(acDs n l (acD n x t).2).2) else ([],t):=by rw[acDs]
mutual
theorem zaru (n:Names):∀ (x:TStmt) (t:St),t.rs.length≤8→(acD n x t).2.rs.length≤8
 |⟨k,r,nm,x,c,th,el⟩,t,h=>by
  rw[acD];refine zacn n el _ (zacn n th _ (zavs n _ x _ ?_));rw[zavr];exact zau5 n _ r t h
theorem zacn (n:Names):∀ (l:List TStmt) (t:St),t.rs.length≤8→(acDs n l t).2.rs.length≤8
 |[],t,h=>by rw[zagq]; exact h
 |x::l,t,h=>by
  rw[zafm];cases t.e==0 with
  |true=>exact zacn n l _ (zaru n x t h)
  |false=>exact h
end
abbrev AdF:=List TStmt→Int→List UInt8→List (List UInt8)→List (List UInt8)→List (List UInt8)→List (List (List UInt8))→List (List UInt8)→Option (Int×(List UInt8)×(List TAct)×(List (List UInt8))×(List (List UInt8))×(List (List UInt8))×(List (List (List UInt8)))×(List (List UInt8)))
def adOut (n:Names) (r:List TAct×St):Int×(List UInt8)×(List TAct)×(List (List UInt8))×(List (List UInt8))×(List (List UInt8))×(List (List (List UInt8)))×(List (List UInt8)):=(r.2.e,r.2.nm,r.1,n.cells,n.mutexes,n.threads,n.regs,r.2.rs)
def adR (n:Names) (R:AdF) (l:List TStmt):Prop:=∀ t:St,t.rs.length≤8→R l t.e t.nm n.cells n.mutexes n.threads n.regs t.rs=some (adOut n (acDs n l t))
set_option maxHeartbeats 1000000 in
theorem zayy (n:Names) (hn:Nok n) (R:AdF) (rec) (a0:List TStmt) (i:Int) (t:St) (acc:List TAct) (y:TStmt) (h:i<(a0.length:Int)) (h0:0≤i) (hy:a0[i.toNat]? = some y) (hE:nE y.expr≤100000000) (ha:acc.length≤100000000) (hi:i≤100000000) (hrs:t.rs.length≤8) (hk:inR y.kind=true)
  (ht:adR n R y.then_) (ho:adR n R y.else_) (he:t.e=0) :
  qbp_t3 R rec a0 i t.e t.nm n.cells n.mutexes n.threads n.regs t.rs acc=rec a0 (i+1) (acD n y t).2.e (acD n y t).2.nm n.cells n.mutexes n.threads n.regs (acD n y t).2.rs (acc++[(acD n y t).1]):=by
 have hsz:∀ st:TAct,decide ((acc.length+[st].length)*136≤140737488355328∧acc.length+[st].length≤9223372036854775807)=true:=by
  intro st;rw[List.length_cons,List.length_nil];exact decide_eq_true (by omega)
 have e0:(t.e==0)=true:=by rw[he]; rfl
 unfold qbp_t3;rw[zayn];simp only[decide_eq_true h,decide_eq_true h0,cond_true,hy,Option.bind_some,zaav,zasd _ hk,sFld,e0,i64_in (i+1) (by omega)];cases h1:(shp y.kind).reg with
 |true=>
  have g1:=regD1 n hn y.reg t hrs;have l1:=zais n y.reg t hrs;simp only[regDO,cond_true];rw[g1];simp only[Option.bind_some];generalize (regD n y.reg t).2=t1 at l1 ⊢;cases h2:(shp y.kind).name with
  |true=>
   have g2:=objD1 n hn y.kind y.name t1;have l2:(objD n y.kind y.name t1).2.rs.length≤8:=by rw[zang]; exact l1
   simp only[objDO,cond_true];rw[g2];simp only[Option.bind_some];generalize (objD n y.kind y.name t1).2=t2 at l2 ⊢;cases h3:(shp y.kind).expr with
   |true=>
    have g3:=exDX n hn y.expr t2 hE l2;have l3:=zafd n y.expr t2 l2;simp only[exDO,cond_true];rw[g3];simp only[Option.bind_some,zaav];generalize (exD n y.expr t2).2=t3 at l3 ⊢;rw[ht t3 l3];simp only[Option.bind_some,adOut];rw[ho _ (zacn n _ _ l3)];simp only[Option.bind_some,adOut,hsz,cond_true]
   |false=>
    simp only[exDO,cond_false];rw[ht t2 l2];simp only[Option.bind_some,adOut];rw[ho _ (zacn n _ _ l2)];simp only[Option.bind_some,adOut,hsz,cond_true]
  |false=>
   simp only[objDO,cond_false];cases h3:(shp y.kind).expr with
   |true=>
    have g3:=exDX n hn y.expr t1 hE l1;have l3:=zafd n y.expr t1 l1;simp only[exDO,cond_true];rw[g3];simp only[Option.bind_some,zaav];generalize (exD n y.expr t1).2=t3 at l3 ⊢;rw[ht t3 l3];simp only[Option.bind_some,adOut];rw[ho _ (zacn n _ _ l3)];simp only[Option.bind_some,adOut,hsz,cond_true]
   |false=>
    simp only[exDO,cond_false];rw[ht t1 l1];simp only[Option.bind_some,adOut];rw[ho _ (zacn n _ _ l1)];simp only[Option.bind_some,adOut,hsz,cond_true]
 |false=>
  simp only[regDO,cond_false];cases h2:(shp y.kind).name with
  |true=>
   have g2:=objD1 n hn y.kind y.name t;have l2:(objD n y.kind y.name t).2.rs.length≤8:=by rw[zang]; exact hrs
   simp only[objDO,cond_true];rw[g2];simp only[Option.bind_some];generalize (objD n y.kind y.name t).2=t2 at l2 ⊢;cases h3:(shp y.kind).expr with
   |true=>
    have g3:=exDX n hn y.expr t2 hE l2;have l3:=zafd n y.expr t2 l2;simp only[exDO,cond_true];rw[g3];simp only[Option.bind_some,zaav];generalize (exD n y.expr t2).2=t3 at l3 ⊢;rw[ht t3 l3];simp only[Option.bind_some,adOut];rw[ho _ (zacn n _ _ l3)];simp only[Option.bind_some,adOut,hsz,cond_true]
   |false=>
    simp only[exDO,cond_false];rw[ht t2 l2];simp only[Option.bind_some,adOut];rw[ho _ (zacn n _ _ l2)];simp only[Option.bind_some,adOut,hsz,cond_true]
  |false=>
   simp only[objDO,cond_false];cases h3:(shp y.kind).expr with
   |true=>
    have g3:=exDX n hn y.expr t hE hrs;have l3:=zafd n y.expr t hrs;simp only[exDO,cond_true];rw[g3];simp only[Option.bind_some,zaav];generalize (exD n y.expr t).2=t3 at l3 ⊢;rw[ht t3 l3];simp only[Option.bind_some,adOut];rw[ho _ (zacn n _ _ l3)];simp only[Option.bind_some,adOut,hsz,cond_true]
   |false=>
    simp only[exDO,cond_false];rw[ht t hrs];simp only[Option.bind_some,adOut];rw[ho _ (zacn n _ _ hrs)];simp only[Option.bind_some,adOut,hsz,cond_true]
theorem zaxe {l:List TStmt} (h:sFs l=true):∀ y∈l,inR y.kind=true∧sFs y.then_=true∧sFs y.else_=true:=by
 rw[zanh,List.all_eq_true] at h;intro y hy;have:=h y hy;rw[sF_eq] at this;simp only[Bool.and_eq_true] at this;obtain ⟨h1,_,h3,h4⟩:=this;unfold sOk at h1;simp only[Bool.and_eq_true] at h1;exact ⟨h1.1.1.1.1.1.1,h3,h4⟩
theorem ad1 (n:Names) (hn:Nok n):∀ (k f:Nat) (l:List TStmt),nSs l≤k→k<f→k≤100000000→sFs l=true→adR n (qbp_i f) l:=by
 intro k;induction k with
 |zero=>
  intro f l h hf _ _ t ht;obtain ⟨f,rfl⟩:∃ q,f=q+1:=⟨f-1,by omega⟩;have hl:=zabv l;obtain rfl:l=[]:=List.eq_nil_of_length_eq_zero (by omega);show qbp_f (qbp_i f) [] t.e t.nm n.cells n.mutexes n.threads n.regs t.rs=_;unfold qbp_f;rw[qbp_l3,zaaa,zagq];rfl
 |succ k ih=>
  intro f l h hf hb hs t hrs;obtain ⟨f,rfl⟩:∃ q,f=q+1:=⟨f-1,by omega⟩;have hl:=zabv l;have hall:=zaxe hs;show qbp_f (qbp_i f) l t.e t.nm n.cells n.mutexes n.threads n.regs t.rs=_;unfold qbp_f;rw[qbp_l3,zaaa]
  have := zaa1 (σ := St × List TAct) l (fun r s => s.1.rs.length ≤ 8 ∧ s.2.length + r.length = l.length)
   (fun r s=>adOut n (s.2++(acDs n r s.1).1,(acDs n r s.1).2))
   (fun m i s=>qbp_i3 (qbp_i f) m l i s.1.e s.1.nm n.cells n.mutexes n.threads n.regs s.1.rs s.2)
   (fun m i s h0 h _=>by
    simp only[qbp_i3,qbp_t3,decide_eq_false h,cond_false,Option.bind_some,zagq,List.append_nil,adOut])
   (fun m i s y r h0 h hy hm hI=>by
    have hy1:=zadz hm;have hy2:=nS_eq y;obtain ⟨i1,i2⟩:=hI;simp only[List.length_cons] at i2;obtain ⟨q1,q2,q3⟩:=hall y hm;by_cases he:s.1.e=0
    ·have st := zayy n hn (qbp_i f) (qbp_i3 (qbp_i f) m) l i s.1 s.2 y h h0 hy (by omega) (by omega) (by omega) i1 q1
      (ih f y.then_ (by omega) (by omega) (by omega) q2) (ih f y.else_ (by omega) (by omega) (by omega) q3) he
     refine Or.inl ⟨((acD n y s.1).2,s.2++[(acD n y s.1).1]),⟨zaru n y s.1 i1,by simp; omega⟩,?_,?_⟩
     ·exact st
     ·rw[zafm,he];simp
    ·refine Or.inr ?_;have e0:(s.1.e==0)=false:=by rw[beq_eq_false_iff_ne]; exact he
     rw[zafm,e0];simp only[qbp_i3,qbp_t3,decide_eq_true h,cond_true,e0,Option.bind_some,cond_false,adOut,List.append_nil])
   fuel (t,[]) (by unfold fuel; omega) ⟨hrs,by simp⟩
  simp only[List.nil_append] at this;rw[this];rfl
theorem adX (n:Names) (hn:Nok n) (l:List TStmt) (h:nSs l≤100000000) (hs:sFs l=true) (t:St) (hr:t.rs.length≤8) :
  qbp l t.e t.nm n.cells n.mutexes n.threads n.regs t.rs=some (adOut n (acDs n l t)):=by
 rw[qbp,zaaa];exact ad1 n hn (nSs l) fuel l (Nat.le_refl _) (by unfold fuel; omega) h hs t hr
end Lift.A9
namespace Lift.A9
open Go Go.RowKit Lift Go.IntWalk Lift.Fn Lift.A3
set_option linter.unusedVariables false
set_option linter.unusedSimpArgs false
theorem zaur (n:Names) (s:Nm) (t:St) (h:t.e≠0):(regD n s t).2=t:=by
 unfold regD;have:(t.e != 0)=true:=by simpa [bne] using h
 rw[this];rfl
theorem zat4 (n:Names) (k:Int) (s:Nm) (t:St) (h:t.e≠0):(objD n k s t).2=t:=by
 unfold objD;have:(t.e != 0)=true:=by simpa [bne] using h
 rw[this];rfl
mutual
theorem zapt (n:Names):∀ (x:TExpr) (t:St),t.e≠0→(exD n x t).2=t
 |⟨k,m,s,l⟩,t,h=>by
  rw[exD];cases k==2 with
  |true=>
   show (exDs n l (regD n s t).2).2=t;rw[zaur n s t h];exact zafv n l t h
  |false=>exact zafv n l t h
theorem zafv (n:Names):∀ (l:List TExpr) (t:St),t.e≠0→(exDs n l t).2=t
 |[],t,h=>by rw[exDs]
 |x::l,t,h=>by
  rw[exDs];show (exDs n l (exD n x t).2).2=t;rw[zapt n x t h];exact zafv n l t h
end
theorem zau8 (n:Names) (l:List TStmt) (t:St) (h:t.e≠0):acDs n l t=([],t):=by
 cases l with
 |nil=>rw[zagq]
 |cons x l=>
  have:(t.e==0)=false:=by rw[beq_eq_false_iff_ne]; exact h
  rw[zafm,this];rfl
def Ag {α:Type} (nm:Nm) (r:(α×List Nm)⊕(Int×Nm)) (q:α×St):Prop:=match r with
 |.inl y=>q=(y.1,⟨0,nm,y.2⟩)
 |.inr e=>q.2.e=e.1∧q.2.nm=e.2∧e.1≠0
theorem regAg (n:Names) (s:Nm) (nm:Nm) (rs:List Nm):Ag nm (regM (thing n) rs s) (regD n s ⟨0,nm,rs⟩):=by
 unfold regM regD;have e:((⟨0,nm,rs⟩:St).e != 0)=false:=rfl;rw[e];cases thing n s with
 |true=>
  show (65:Int)=65∧s=s∧(65:Int)≠0;exact ⟨rfl,rfl,by decide⟩
 |false=>
  simp only[cond_false];cases decide (plc rs s<0) with
  |false=>rfl
  |true=>
   simp only[cond_true];by_cases h:8≤rs.length
   ·rw[decide_eq_true h,decide_eq_true (by omega)];show (66:Int)=66∧s=s∧(66:Int)≠0;exact ⟨rfl,rfl,by decide⟩
   ·rw[decide_eq_false h,decide_eq_false (by omega)];rfl
theorem objAg (n:Names) (k:Int) (s:Nm) (nm:Nm) (rs:List Nm) (h:needK k≠0):match objN n k s with
  |.inl i=>objD n k s ⟨0,nm,rs⟩=(i,⟨0,nm,rs⟩)
  |.inr e=>(objD n k s ⟨0,nm,rs⟩).2.e=e.1∧(objD n k s ⟨0,nm,rs⟩).2.nm=e.2∧e.1≠0:=by
 unfold objN objD;have hk:(needK k==0)=false:=by rw[beq_eq_false_iff_ne]; exact h
 rw[hk];simp only[cond_false];cases thing n s with
 |false=>
  show (64:Int)=64∧s=s∧(64:Int)≠0;exact ⟨rfl,rfl,by decide⟩
 |true=>
  cases decide (plK n k s<0) with
  |true=>
   show (65:Int)=65∧s=s∧(65:Int)≠0;exact ⟨rfl,rfl,by decide⟩
  |false=>rfl
mutual
theorem exAg (n:Names):∀ (x:TExpr) (nm:Nm) (rs:List Nm),Ag nm (exM (thing n) x rs) (exD n x ⟨0,nm,rs⟩)
 |⟨k,m,s,l⟩,nm,rs=>by
  rw[exM,exD];cases k==2 with
  |true=>
   simp only[cond_true];have h1:=regAg n s nm rs;revert h1;cases regM (thing n) rs s with
   |inr e=>
    rintro ⟨a,b,c⟩
    have hd:(exDs n l (regD n s ⟨0,nm,rs⟩).2).2=(regD n s ⟨0,nm,rs⟩).2:=zafv n l _ (by rw[a]; exact c);show (exDs n l (regD n s ⟨0,nm,rs⟩).2).2.e=e.1∧_;exact ⟨by rw[hd]; exact a,by show (exDs n l (regD n s ⟨0,nm,rs⟩).2).2.nm=e.2; rw[hd]; exact b,c⟩
   |inl y=>
    intro h1;have h1:regD n s ⟨0,nm,rs⟩=(y.1,⟨0,nm,y.2⟩):=h1;rw[h1];have h2:=exsAg n l nm y.2;revert h2;simp only;cases exMs (thing n) l y.2 with
    |inr e=>exact fun h=>h
    |inl z=>
     intro h2;have h2:exDs n l ⟨0,nm,y.2⟩=(z.1,⟨0,nm,z.2⟩):=h2;show (_,_)=_;rw[h2]
  |false=>
   simp only[cond_false];have h2:=exsAg n l nm rs;revert h2;cases exMs (thing n) l rs with
   |inr e=>exact fun h=>h
   |inl z=>
    intro h2;have h2:exDs n l ⟨0,nm,rs⟩=(z.1,⟨0,nm,z.2⟩):=h2;show (_,_)=_;rw[h2]
theorem exsAg (n:Names):∀ (l:List TExpr) (nm:Nm) (rs:List Nm),Ag nm (exMs (thing n) l rs) (exDs n l ⟨0,nm,rs⟩)
 |[],nm,rs=>by rw[exMs,exDs]; rfl
 |x::l,nm,rs=>by
  rw[exMs,exDs];have h1:=exAg n x nm rs;revert h1;cases exM (thing n) x rs with
  |inr e=>
   rintro ⟨a,b,c⟩
   have hd:(exDs n l (exD n x ⟨0,nm,rs⟩).2).2=(exD n x ⟨0,nm,rs⟩).2:=zafv n l _ (by rw[a]; exact c);show (exDs n l (exD n x ⟨0,nm,rs⟩).2).2.e=e.1∧_;exact ⟨by rw[hd]; exact a,by show (exDs n l (exD n x ⟨0,nm,rs⟩).2).2.nm=e.2; rw[hd]; exact b,c⟩
  |inl y=>
   intro h1;have h1:exD n x ⟨0,nm,rs⟩=(y.1,⟨0,nm,y.2⟩):=h1;rw[h1];have h2:=exsAg n l nm y.2;revert h2;simp only;cases exMs (thing n) l y.2 with
   |inr e=>exact fun h=>h
   |inl z=>
    intro h2;have h2:exDs n l ⟨0,nm,y.2⟩=(z.1,⟨0,nm,z.2⟩):=h2;show (_,_)=_;rw[h2]
end
end Lift.A9
namespace Lift.A9
open Go Go.RowKit Lift Go.IntWalk Lift.Fn Lift.A3
set_option linter.unusedVariables false
set_option linter.unusedSimpArgs false
theorem zasv (n:Names) (b:Bool) (k:Int) (s:Nm) (t:St) (h:t.e≠0):(objDO n b k s t).2=t:=by
 cases b with
 |true=>exact zat4 n k s t h
 |false=>rfl
theorem zaoc (n:Names) (b:Bool) (x:TExpr) (t:St) (h:t.e≠0):(exDO n b x t).2=t:=by
 cases b with
 |true=>exact zapt n x t h
 |false=>rfl
theorem zact (n:Names) (l:List TStmt) (t:St) (h:t.e≠0):(acDs n l t).2=t:=by rw[zau8 n l t h]
theorem zav9 {x:TStmt} (h:sOk x=true):inR x.kind=true∧(shp x.kind).reg=!(x.reg==[])∧(shp x.kind).name=!(needK x.kind==0)∧(shp x.kind).expr=!(x.expr.kind==0):=by
 unfold sOk at h;simp only[Bool.and_eq_true] at h;obtain ⟨⟨⟨⟨⟨⟨h1,h2⟩,_⟩,h4⟩,_⟩,_⟩,_⟩:=h;refine ⟨h1,?_,zavm h1,?_⟩
 ·unfold isOpt at h2;cases hb:(shp x.kind).reg with
  |true=>
   rw[hb] at h2;simp only[Bool.true_and,Bool.not_true,Bool.false_and,Bool.or_false] at h2;cases he:x.reg==[] with
   |false=>rfl
   |true=>
    have:=eq_of_beq he;rw[this,zaxh] at h2;cases h2
  |false=>
   rw[hb] at h2;simp only[Bool.false_and,Bool.not_false,Bool.true_and,Bool.false_or] at h2;rw[h2];rfl
 ·cases hb:(shp x.kind).expr with
  |true=>
   rw[hb] at h4;simp only[Bool.true_and,Bool.not_true,Bool.false_and,Bool.or_false,bne] at h4;exact h4.symm
  |false=>
   rw[hb] at h4;simp only[Bool.false_and,Bool.not_false,Bool.true_and,Bool.false_or,none_,Bool.and_eq_true] at h4;rw[h4.1.1.1];rfl
theorem zay1 (n:Names) (s:Nm) (nm:Nm) (rs:List Nm):Ag nm (regO (thing n) rs s) (regDO n (!(s==[])) s ⟨0,nm,rs⟩):=by
 unfold regO;cases s==[] with
 |true=>rfl
 |false=>exact regAg n s nm rs
theorem exOAg (n:Names) (x:TExpr) (nm:Nm) (rs:List Nm):Ag nm (exO (thing n) x rs) (exDO n (!(x.kind==0)) x ⟨0,nm,rs⟩):=by
 unfold exO;cases x.kind==0 with
 |true=>rfl
 |false=>exact exAg n x nm rs
theorem zayj (n:Names) (k:Int) (s:Nm) (nm:Nm) (rs:List Nm):match objN n k s with
  |.inl i=>objDO n (!(needK k==0)) k s ⟨0,nm,rs⟩=(i,⟨0,nm,rs⟩)
  |.inr e=>(objDO n (!(needK k==0)) k s ⟨0,nm,rs⟩).2.e=e.1∧(objDO n (!(needK k==0)) k s ⟨0,nm,rs⟩).2.nm=e.2∧e.1≠0:=by
 cases hk:needK k==0 with
 |true=>
  unfold objN;rw[hk];rfl
 |false=>exact objAg n k s nm rs (by simpa using hk)
mutual
theorem acAg (n:Names):∀ (x:TStmt) (nm:Nm) (rs:List Nm),sF x=true→Ag nm (acN (thing n) (objN n) x rs) (acD n x ⟨0,nm,rs⟩)
 |⟨k,r,s,x,c,th,el⟩,nm,rs,h=>by
  rw[sF_eq] at h;simp only[Bool.and_eq_true] at h;obtain ⟨h1,_,h3,h4⟩:=h;obtain ⟨_,f1,f2,f3⟩:=zav9 h1;simp only at f1 f2 f3;rw[acN,acD,f1,f2,f3];have hA:=zay1 n r nm rs;revert hA;cases regO (thing n) rs r with
  |inr e=>
   rintro ⟨a,b,c0⟩
   generalize regDO n (!(r==[])) r ⟨0,nm,rs⟩=qa at a b ⊢;have c':qa.2.e≠0:=by rw[a]; exact c0
   have d:(acDs n el (acDs n th (exDO n (!(x.kind==0)) x (objDO n (!(needK k==0)) k s qa.2).2).2).2).2=qa.2:=by
    rw[zasv n _ k s qa.2 c',zaoc n _ x qa.2 c',zact n th qa.2 c',zact n el qa.2 c']
   show (acDs n el (acDs n th (exDO n (!(x.kind==0)) x (objDO n (!(needK k==0)) k s qa.2).2).2).2).2.e=e.1∧(acDs n el (acDs n th (exDO n (!(x.kind==0)) x (objDO n (!(needK k==0)) k s qa.2).2).2).2).2.nm=e.2∧e.1≠0;rw[d];exact ⟨a,b,c0⟩
  |inl y=>
   intro hA;have hA:regDO n (!(r==[])) r ⟨0,nm,rs⟩=(y.1,⟨0,nm,y.2⟩):=hA;rw[hA];have hB:=zayj n k s nm y.2;revert hB;simp only;cases objN n k s with
   |inr e=>
    simp only;rintro ⟨a,b,c0⟩
    generalize objDO n (!(needK k==0)) k s ⟨0,nm,y.2⟩=qa at a b ⊢;have c':qa.2.e≠0:=by rw[a]; exact c0
    have d:(acDs n el (acDs n th (exDO n (!(x.kind==0)) x qa.2).2).2).2=qa.2:=by
     rw[zaoc n _ x qa.2 c',zact n th qa.2 c',zact n el qa.2 c']
    show (acDs n el (acDs n th (exDO n (!(x.kind==0)) x qa.2).2).2).2.e=e.1∧(acDs n el (acDs n th (exDO n (!(x.kind==0)) x qa.2).2).2).2.nm=e.2∧e.1≠0;rw[d];exact ⟨a,b,c0⟩
   |inl i=>
    simp only;intro hB;rw[hB];have hC:=exOAg n x nm y.2;revert hC;simp only;cases exO (thing n) x y.2 with
    |inr e=>
     rintro ⟨a,b,c0⟩
     generalize exDO n (!(x.kind==0)) x ⟨0,nm,y.2⟩=qa at a b ⊢;have c':qa.2.e≠0:=by rw[a]; exact c0
     have d:(acDs n el (acDs n th qa.2).2).2=qa.2:=by
      rw[zact n th qa.2 c',zact n el qa.2 c']
     show (acDs n el (acDs n th qa.2).2).2.e=e.1∧(acDs n el (acDs n th qa.2).2).2.nm=e.2∧e.1≠0;rw[d];exact ⟨a,b,c0⟩
    |inl z=>
     intro hC;have hC:exDO n (!(x.kind==0)) x ⟨0,nm,y.2⟩=(z.1,⟨0,nm,z.2⟩):=hC;rw[hC];have hD:=acsAg n th nm z.2 h3;revert hD;simp only;cases acNs (thing n) (objN n) th z.2 with
     |inr e=>
      rintro ⟨a,b,c0⟩
      generalize acDs n th ⟨0,nm,z.2⟩=qa at a b ⊢;have c':qa.2.e≠0:=by rw[a]; exact c0
      have d:(acDs n el qa.2).2=qa.2:=zact n el qa.2 c';show (acDs n el qa.2).2.e=e.1∧(acDs n el qa.2).2.nm=e.2∧e.1≠0;rw[d];exact ⟨a,b,c0⟩
     |inl p=>
      intro hD;have hD:acDs n th ⟨0,nm,z.2⟩=(p.1,⟨0,nm,p.2⟩):=hD;rw[hD];have hE:=acsAg n el nm p.2 h4;revert hE;simp only;cases acNs (thing n) (objN n) el p.2 with
      |inr e=>exact fun h=>h
      |inl q=>
       intro hE;have hE:acDs n el ⟨0,nm,p.2⟩=(q.1,⟨0,nm,q.2⟩):=hE;show (_,_)=_;rw[hE]
theorem acsAg (n:Names):∀ (l:List TStmt) (nm:Nm) (rs:List Nm),sFs l=true→Ag nm (acNs (thing n) (objN n) l rs) (acDs n l ⟨0,nm,rs⟩)
 |[],nm,rs,_=>by rw[zai2,zagq]; rfl
 |x::l,nm,rs,h=>by
  rw[sFs,Bool.and_eq_true] at h;rw[zajl,zafm];have e0:((⟨0,nm,rs⟩:St).e==0)=true:=rfl;rw[e0,cond_true];have h1:=acAg n x nm rs h.1;revert h1;cases acN (thing n) (objN n) x rs with
  |inr e=>
   rintro ⟨a,b,c0⟩
   generalize acD n x ⟨0,nm,rs⟩=qa at a b ⊢;have c':qa.2.e≠0:=by rw[a]; exact c0
   have d:(acDs n l qa.2).2=qa.2:=zact n l qa.2 c';show (acDs n l qa.2).2.e=e.1∧(acDs n l qa.2).2.nm=e.2∧e.1≠0;rw[d];exact ⟨a,b,c0⟩
  |inl y=>
   intro h1;have h1:acD n x ⟨0,nm,rs⟩=(y.1,⟨0,nm,y.2⟩):=h1;rw[h1];have h2:=acsAg n l nm y.2 h.2;revert h2;simp only;cases acNs (thing n) (objN n) l y.2 with
   |inr e=>exact fun h=>h
   |inl z=>
    intro h2;have h2:acDs n l ⟨0,nm,y.2⟩=(z.1,⟨0,nm,z.2⟩):=h2;show (_,_)=_;rw[h2]
end
end Lift.A9
namespace Lift.A9
open Go Go.RowKit Lift Go.IntWalk Lift.Fn Lift.A3
set_option linter.unusedVariables false
set_option linter.unusedSimpArgs false
theorem zarr (y : Nm) : ∀ a b : List Nm, plc (a ++ b) y = bif a.any (· == y) then plc a y else bif decide (plc b y < 0) then -1 else a.length + plc b y
 |[],b=>by
  rw[List.nil_append,List.any_nil,cond_false];have:=zaoa b y;cases h:decide (plc b y<0) with
  |true=>rw[decide_eq_true_eq] at h; rw[cond_true]; omega
  |false=>rw[cond_false]; simp
 |x::a,b=>by
  rw[List.cons_append,zae8,zae8,zarr y a b,List.any_cons];cases hx:x==y with
  |true=>rfl
  |false=>
   simp only[cond_false,Bool.false_or];cases ha:a.any (·==y) with
   |true=>rfl
   |false=>
    simp only[cond_false];cases hb:decide (plc b y<0) with
    |true=>rfl
    |false=>
     rw[decide_eq_false_iff_not] at hb;simp only[cond_false,List.length_cons];rw[decide_eq_false (by omega),cond_false];omega
theorem zayt {l:List Nm} {i:Nat} {y:Nm} {r:List Nm} (h:l=l.take i++y::r) (hi:i<l.length):decide (plc l y<(i:Int))=(l.take i).any (·==y):=by
 have hl:(l.take i).length=i:=by simp; omega
 rw[h,zarr];have e0:plc (y::r) y=0:=by rw[zae8,beq_self_eq_true,cond_true]
 rw[e0];have hh:(l.take i++y::r).take i=l.take i:=by rw[← h]
 rw[hh];have hr:=zaoa (l.take i) y;cases (l.take i).any (·==y) with
 |true=>rw[cond_true]; exact decide_eq_true (by omega)
 |false=>
  have z:decide ((0:Int)<0)=false:=rfl;simp only[cond_false,z];exact decide_eq_false (by omega)
def dupS (seen r:List Nm) (s:Int×Nm):Int×Nm:=bif s.1 != 0 then s else match dupM seen r with|some x=>(63,x)|none=>s
theorem zaxc (all:List Nm) (h:all.length≤100000000) (s:Int×Nm) (c m t:List Nm) (R:List (List Nm)) (rs:List Nm) :
  qbr_l24 0 s.1 s.2 all c m t R rs=some ((dupS [] all s).1,(dupS [] all s).2,c,m,t,R,rs):=by
 rw[qbr_l24,zaaa]
 have := zanm all (fun i r _ => all = all.take i ++ r) (fun i r s => ((dupS (all.take i) r s).1, (dupS (all.take i) r s).2, c, m, t, R, rs))
  (fun f i s=>qbr_i24 f i s.1 s.2 all c m t R rs)
  (fun f i s h _=>by
   have h':¬ ((i:Int)<(all.length:Int)):=by omega
   simp only[qbr_i24,qbr_t24,decide_eq_false h',cond_false,dupS,dupM];cases s.1 != 0<;>rfl)
  (fun f i s y r hi hy hm hI=>by
   have h':((i:Int)<(all.length:Int)):=by omega
   have ht:all.take (i+1)=all.take i++[y]:=by
    rw[List.take_add_one,hy]; rfl
   have hI2:all=all.take (i+1)++r:=by rw[ht,List.append_assoc]; exact hI
   simp only[qbr_i24,qbr_t24,decide_eq_true h',cond_true,decide_eq_true (Int.natCast_nonneg i),Int.toNat_natCast,hy,Option.bind_some,Bool.true_and];rw[plcR1 all y (by omega),Option.bind_some,zayt hI hi,i64_in ((i:Int)+1) (by omega)];cases ha:(all.take i).any (·==y) with
   |false=>
    refine Or.inl ⟨s,hI2,rfl,?_⟩;unfold dupS;rw[dupM,ha,ht];rfl
   |true=>
    rw[cond_true,zah5,Option.bind_some];refine Or.inl ⟨bif s.1==0 then (63,y) else s,hI2,?_,?_⟩
    ·cases s.1==0<;>rfl
    ·unfold dupS;rw[dupM,ha,cond_true];cases hs:s.1==0 with
     |true=>simp only[bne,hs,Bool.not_true,cond_false,cond_true]; rfl
     |false=>simp only[bne,hs,Bool.not_false,cond_false,cond_true])
  all.length fuel 0 s (by omega) (by unfold fuel; omega) (by simp)
 rw[List.drop_zero,List.take_zero] at this;exact this
def hdE (n:Names):Int:=match headN n with|some e=>e.1|none=>0
def hdN (n:Names):Nm:=match headN n with|some e=>e.2|none=>[]
theorem zays (p:TProg) (h1:p.cells.length≤10000000) (h2:p.mutexes.length≤10000000) (h3:p.threads.length≤10000000) :
  qbr p 0 [] [] [] [] [] []=some (hdE (zaan p),hdN (zaan p),(zaan p).cells,(zaan p).mutexes,(zaan p).threads,[],[]):=by
 rw[qbr,zaaa];unfold qbr_f
 have e2 := zaa1 (σ := List Nm) p.cells (fun r s => s.length + r.length = p.cells.length) (fun r s => ((0 : Int), ([] : List UInt8), p.cells, p.mutexes, p.threads, s ++ r.map (·.name), ([] : List Nm), ([] : List Nm), ([] : List (List Nm)), ([] : List Nm)))
  (fun m i s=>qbr_i2 m i 0 [] p.cells p.mutexes p.threads s [] [] [] [])
  (fun m i s h0 h _=>by simp only[qbr_i2,qbr_t2,decide_eq_false h,cond_false,List.map_nil,List.append_nil])
  (fun m i s y r h0 h hy hm hI=>by
   simp only[List.length_cons] at hI;refine Or.inl ⟨s++[y.name],by simp; omega,?_,by simp⟩;simp only[qbr_i2,qbr_t2,decide_eq_true h,decide_eq_true h0,cond_true,hy,Option.bind_some,List.length_cons,List.length_nil];rw[decide_eq_true (by omega),cond_true,i64_in (i+1) (by omega)])
  fuel [] (by unfold fuel; omega) (by simp)
 simp only[List.nil_append] at e2
 have e7 := zaa1 (σ := List Nm) p.threads (fun r s => s.length + r.length = p.threads.length) (fun r s => ((0 : Int), ([] : List UInt8), p.cells.map (·.name), p.mutexes, s ++ r.map (·.name), ([] : List (List Nm)), ([] : List Nm)))
  (fun m i s=>qbr_i7 m i 0 [] p.cells p.mutexes p.threads (p.cells.map (·.name)) p.mutexes s [] [])
  (fun m i s h0 h _=>by simp only[qbr_i7,qbr_t7,decide_eq_false h,cond_false,List.map_nil,List.append_nil])
  (fun m i s y r h0 h hy hm hI=>by
   simp only[List.length_cons] at hI;refine Or.inl ⟨s++[y.name],by simp; omega,?_,by simp⟩;simp only[qbr_i7,qbr_t7,decide_eq_true h,decide_eq_true h0,cond_true,hy,Option.bind_some,List.length_cons,List.length_nil];rw[decide_eq_true (by omega),cond_true,i64_in (i+1) (by omega)])
  fuel [] (by unfold fuel; omega) (by simp)
 simp only[List.nil_append] at e7;rw[qbr_l2,zaaa,e2];simp only[Option.bind_some,List.nil_append];rw[qbr_l7,zaaa,e7];simp only[Option.bind_some,zah5];have hd:=fun s:Int×Nm=>zaxc ((p.cells.map (·.name)++p.mutexes)++p.threads.map (·.name)) (by simp; omega) s (p.cells.map (·.name)) p.mutexes (p.threads.map (·.name)) [] []
 rw[decide_eq_true (by simp only[List.length_nil]; omega),cond_true];have c1:(p.cells.map (·.name)).length=p.cells.length:=by simp
 have c3:(p.threads.map (·.name)).length=p.threads.length:=by simp
 have b0 : ∀ s : Int × Nm, (bif decide ((p.cells.map (·.name)).length * 16 ≤ 140737488355328 ∧ (p.cells.map (·.name)).length ≤ 9223372036854775807) then
   bif decide (((p.cells.map (·.name)).length + p.mutexes.length) * 16 ≤ 140737488355328 ∧ (p.cells.map (·.name)).length + p.mutexes.length ≤ 9223372036854775807) then
    bif decide (((p.cells.map (·.name) ++ p.mutexes).length + (p.threads.map (·.name)).length) * 16 ≤ 140737488355328 ∧ (p.cells.map (·.name) ++ p.mutexes).length + (p.threads.map (·.name)).length ≤ 9223372036854775807) then
     (qbr_l24 0 s.1 s.2 (p.cells.map (·.name)++p.mutexes++p.threads.map (·.name)) (p.cells.map (·.name)) p.mutexes (p.threads.map (·.name)) [] []).bind fun y3=>some (y3.1,y3.2.1,y3.2.2.1,y3.2.2.2.1,y3.2.2.2.2.1,y3.2.2.2.2.2.1,y3.2.2.2.2.2.2)
    else none
   else none
  else none)=some ((dupS [] (allP (zaan p)) s).1,(dupS [] (allP (zaan p)) s).2,p.cells.map (·.name),p.mutexes,p.threads.map (·.name),[],[]):=by
  intro s;rw[decide_eq_true (by omega),cond_true,decide_eq_true (by omega),cond_true,decide_eq_true (by rw[List.length_append]; omega),cond_true,hd s];unfold allP zaan;rw[List.append_assoc];rfl
 unfold hdE hdN headN zaan zabg;simp only[c1,c3];have e0:((p.threads.length:Int)==0)=(p.threads.length==0):=by
  rw[Bool.eq_iff_iff]; simp only[beq_iff_eq]; omega
 rw[e0];cases ht0:p.threads.length==0 with
 |true=>rfl
 |false=>
  simp only[cond_false];have big:∀ l:List Nm,decide ((l.length:Int)>8)=decide (8<l.length):=by
   intro l; rw[Bool.eq_iff_iff,decide_eq_true_eq,decide_eq_true_eq]; omega
  have b1:decide ((p.threads.length:Int)>8)=decide (8<p.threads.length):=by have:=big (p.threads.map (·.name)); rw[c3] at this; exact this
  have b2:decide ((p.cells.length:Int)>8)=decide (8<p.cells.length):=by have:=big (p.cells.map (·.name)); rw[c1] at this; exact this
  have b3:=big p.mutexes;rw[b1,b2,b3];by_cases h8:8<p.threads.length
  ·rw[decide_eq_true h8];have q:(decide ((0:Int)≤8)&&true)=true:=rfl;rw[q];simp only[cond_true];rw[List.getElem?_eq_getElem (by rw[c3]; exact h8)];rfl
  rw[decide_eq_false h8];simp only[cond_false];by_cases h8c:8<p.cells.length
  ·rw[decide_eq_true h8c];have q:(decide ((0:Int)≤8)&&true)=true:=rfl;rw[q];simp only[cond_true];rw[List.getElem?_eq_getElem (by rw[c1]; exact h8c)];rfl
  rw[decide_eq_false h8c];simp only[cond_false];by_cases h8m:8<p.mutexes.length
  ·rw[decide_eq_true h8m];have q:(decide ((0:Int)≤8)&&true)=true:=rfl;rw[q];simp only[cond_true];rw[List.getElem?_eq_getElem h8m];rfl
  rw[decide_eq_false h8m];simp only[cond_false];have:=b0 (0,[]);simp only[c1,c3] at this;have z:((0:Int) != 0)=false:=rfl;simp only[z,cond_false];rw[this];unfold dupS zaan;simp only[z,cond_false];cases dupM [] (allP ⟨p.cells.map (·.name),p.mutexes,p.threads.map (·.name),[]⟩)<;>rfl
end Lift.A9
namespace Lift.A9
open Go Go.RowKit Lift Go.IntWalk Lift.Fn Lift.A3
set_option linter.unusedVariables false
set_option linter.unusedSimpArgs false
structure SC where
 e:Int
 nm:Nm
 R:List (List Nm)
 B:List TBody
def nmR (p:TProg) (R:List (List Nm)):Names:=⟨p.cells.map (·.name),p.mutexes,p.threads.map (·.name),R⟩
def thrD (p:TProg):List TThread→SC→SC
 |[],s=>s
 |t::l,s=>bif s.e==0 then thrD p l ⟨(acDs (nmR p s.R) t.body ⟨s.e,s.nm,[]⟩).2.e,(acDs (nmR p s.R) t.body ⟨s.e,s.nm,[]⟩).2.nm,s.R++[(acDs (nmR p s.R) t.body ⟨s.e,s.nm,[]⟩).2.rs],s.B++[⟨(acDs (nmR p s.R) t.body ⟨s.e,s.nm,[]⟩).2.rs.length,(acDs (nmR p s.R) t.body ⟨s.e,s.nm,[]⟩).1⟩]⟩ else s
theorem thrAg (p:TProg):∀ (l:List TThread) (nm:Nm) (R:List (List Nm)) (B:List TBody),(∀ t∈l,sFs t.body=true)→match thrN (zaan p) l with
  |.inl z=>thrD p l ⟨0,nm,R,B⟩=⟨0,nm,R++z.map (·.2),B++z.map (fun y=>⟨y.2.length,y.1⟩)⟩
  |.inr e=>(thrD p l ⟨0,nm,R,B⟩).e=e.1∧(thrD p l ⟨0,nm,R,B⟩).nm=e.2∧e.1≠0
 |[],nm,R,B,_=>by rw[thrN,thrD]; simp
 |t::l,nm,R,B,h=>by
  rw[thrN];have e0:((⟨0,nm,R,B⟩:SC).e==0)=true:=rfl;have h1:Ag nm (acNs (thing (zaan p)) (objN (zaan p)) t.body []) (acDs (nmR p R) t.body ⟨0,nm,[]⟩):=acsAg (nmR p R) t.body nm [] (h t (by simp));rw[thrD,e0,cond_true];revert h1;simp only;generalize acDs (nmR p R) t.body ⟨0,nm,[]⟩=qa;cases acNs (thing (zaan p)) (objN (zaan p)) t.body [] with
  |inr e=>
   rintro ⟨a,b,c0⟩
   have d:∀ (l:List TThread) (s:SC),s.e≠0→thrD p l s=s:=by
    intro l s hs;cases l with
    |nil=>rw[thrD]
    |cons t l=>
     have:(s.e==0)=false:=by rw[beq_eq_false_iff_ne]; exact hs
     rw[thrD,this];rfl
   rw[d l _ (by show qa.2.e≠0; rw[a]; exact c0)];exact ⟨a,b,c0⟩
  |inl y=>
   intro h1;have h1:qa=(y.1,⟨0,nm,y.2⟩):=h1;rw[h1];have h2:=thrAg p l nm (R++[y.2]) (B++[⟨y.2.length,y.1⟩]) (fun t ht=>h t (by simp[ht]));revert h2;simp only;cases thrN (zaan p) l with
   |inr e=>exact fun h=>h
   |inl z=>
    intro h2;simp only at h2 ⊢;rw[h2];simp
def cform (q:TUnit×Names×Int×Nm):Int×Int×(List UInt8)×(List Int)×(List TBody)×(List (List UInt8))×(List (List UInt8))×(List (List UInt8))×(List (List (List UInt8))):=
 (q.1.mutexes,q.2.2.1,q.2.2.2,q.1.cells,q.1.threads,q.2.1.cells,q.2.1.mutexes,q.2.1.threads,q.2.1.regs)
theorem zav3 {n:Names} {e:Int×Nm} (h:headN n=some e):e.1≠0:=by
 unfold headN at h;revert h;cases n.threads.length==0<;>cases zabg n.threads<;>cases zabg n.cells<;>cases zabg n.mutexes<;>simp only[cond_true,cond_false]<;>try (intro h; cases h; simp)
 cases dupM [] (allP n) with
 |none=>intro h; cases h
 |some s=>intro h; cases h; simp
theorem zauo {p:TProg} (h:zaca p=0):pOk p=true:=by
 unfold zaca at h;cases hp:pOk p with
 |true=>rfl
 |false=>rw[hp] at h; simp at h
theorem zawe {p:TProg} (h:pOk p=true):∀ t∈p.threads,isNm t.name=true∧sFs t.body=true:=by
 unfold pOk at h;simp only[Bool.and_eq_true,List.all_eq_true] at h;exact h.2.2
theorem zato (p:TProg) (h:nT p.threads≤100000000) (h1:p.cells.length≤10000000) (h2:p.mutexes.length≤10000000) (h3:p.threads.length≤10000000):qbo p=some (cform (zabd p)):=by
 rw[qbo,zaaa];unfold qbo_f zabd;have hl:=zacr p.threads;rw[zadb,zawb p h (by omega) (by omega),Option.bind_some];cases hr:zaca p != 0 with
 |true=>rfl
 |false=>
  have hr0:zaca p=0:=by simpa [bne] using hr
  have hok:=zawe (zauo hr0);simp only[cond_false];rw[zays p h1 h2 h3];simp only[Option.bind_some];generalize hE:hdE (zaan p)=E;generalize hN:hdN (zaan p)=N
  have e8 := zaa1 (σ := List Int) p.cells (fun r s => s.length + r.length = p.cells.length) (fun r s => (p.cells, p.mutexes, p.threads, (0 : Int), E, N, (p.mutexes.length : Int), (zaan p).cells, (zaan p).mutexes, (zaan p).threads, ([] : List (List Nm)), ([] : List Nm), s ++ r.map (·.init)))
   (fun m i s=>qbo_i8 m i p.cells p.mutexes p.threads 0 E N p.mutexes.length (zaan p).cells (zaan p).mutexes (zaan p).threads [] [] s)
   (fun m i s h0 h _=>by simp only[qbo_i8,qbo_t8,decide_eq_false h,cond_false,List.map_nil,List.append_nil])
   (fun m i s y r h0 h hy hm hI=>by
    simp only[List.length_cons] at hI;refine Or.inl ⟨s++[y.init],by simp; omega,?_,by simp⟩;simp only[qbo_i8,qbo_t8,decide_eq_true h,decide_eq_true h0,cond_true,hy,Option.bind_some,List.length_cons,List.length_nil];rw[decide_eq_true (by omega),cond_true,i64_in (i+1) (by omega)])
   fuel [] (by unfold fuel; omega) (by simp)
  simp only[List.nil_append] at e8;rw[qbo_l8,zaaa,e8];simp only[Option.bind_some]
  have e12 := zaa1 (σ := SC) p.threads (fun r s => s.R.length + r.length ≤ p.threads.length ∧ s.B.length + r.length ≤ p.threads.length)
   (fun r s=>((0:Int),(thrD p r s).e,(thrD p r s).nm,(p.mutexes.length:Int),(zaan p).cells,(zaan p).mutexes,(zaan p).threads,(thrD p r s).R,p.cells.map (·.init),(thrD p r s).B))
   (fun m i s=>qbo_i12 m i p.cells p.mutexes p.threads 0 s.e s.nm p.mutexes.length (zaan p).cells (zaan p).mutexes (zaan p).threads s.R (p.cells.map (·.init)) s.B)
   (fun m i s h0 h _=>by simp only[qbo_i12,qbo_t12,decide_eq_false h,cond_false,Option.bind_some,thrD])
   (fun m i s y r h0 h hy hm hI=>by
    simp only[List.length_cons] at hI;have hb:=zadr hm;cases he:s.e==0 with
    |false=>
     refine Or.inr ?_;rw[thrD,he];simp only[qbo_i12,qbo_t12,decide_eq_true h,cond_true,he,cond_false,Option.bind_some]
    |true=>
     have ha:=adX (nmR p s.R) ⟨by simp[nmR]; omega,by simp[nmR]; omega,by simp[nmR]; omega⟩ y.body (by omega) (hok y hm).2 ⟨s.e,s.nm,[]⟩ (by simp);refine Or.inl ⟨⟨(acDs (nmR p s.R) y.body ⟨s.e,s.nm,[]⟩).2.e,(acDs (nmR p s.R) y.body ⟨s.e,s.nm,[]⟩).2.nm,s.R++[(acDs (nmR p s.R) y.body ⟨s.e,s.nm,[]⟩).2.rs],s.B++[⟨(acDs (nmR p s.R) y.body ⟨s.e,s.nm,[]⟩).2.rs.length,(acDs (nmR p s.R) y.body ⟨s.e,s.nm,[]⟩).1⟩]⟩,by simp; omega,?_,by rw[thrD,he]; rfl⟩;simp only[qbo_i12,qbo_t12,decide_eq_true h,decide_eq_true h0,cond_true,hy,he,Option.bind_some];have ha':qbp y.body s.e s.nm (zaan p).cells (zaan p).mutexes (zaan p).threads s.R []=some (adOut (nmR p s.R) (acDs (nmR p s.R) y.body ⟨s.e,s.nm,[]⟩)):=ha;rw[ha'];simp only[Option.bind_some,adOut,List.length_cons,List.length_nil,nmR];rw[decide_eq_true (by omega),cond_true,decide_eq_true (by omega),cond_true,i64_in (i+1) (by omega)];rfl)
   fuel ⟨E,N,[],[]⟩ (by unfold fuel; omega) (by simp)
  rw[qbo_l12,zaaa,e12];simp only[Option.bind_some];rw[zanq];cases hh:headN (zaan p) with
  |some e=>
   unfold hdE at hE;unfold hdN at hN;rw[hh] at hE hN;simp only at hE hN;have hne:E≠0:=by rw[← hE]; exact zav3 hh
   have hb:(E==0)=false:=by rw[beq_eq_false_iff_ne]; exact hne
   have hd:thrD p p.threads ⟨E,N,[],[]⟩=⟨E,N,[],[]⟩:=by
    cases p.threads with
    |nil=>rw[thrD]
    |cons t l=>rw[thrD,hb]; rfl
   rw[hd];simp only[bne,hb,Bool.not_false,cond_true];rw[← hE,← hN];rfl
  |none=>
   unfold hdE at hE;unfold hdN at hN;rw[hh] at hE hN;simp only at hE hN;rw[← hE,← hN];have ht:=thrAg p p.threads [] [] [] (fun t ht=>(hok t ht).2);revert ht;cases thrN (zaan p) p.threads with
   |inr e=>
    rintro ⟨a,b,c0⟩
    have hb:(e.1==0)=false:=by rw[beq_eq_false_iff_ne]; exact c0
    rw[a,b];simp only[bne,hb,Bool.not_false,cond_true];rfl
   |inl z=>
    intro ht;simp only at ht;rw[ht];simp only[List.nil_append];rfl
end Lift.A9
namespace Lift.A9
open Go Go.RowKit Lift Go.IntWalk Lift.Fn Lift.A3
set_option linter.unusedVariables false
set_option linter.unusedSimpArgs false
theorem zal6 (l:List Nm) (h:l.length≤1000000000000):qaJ l l=some true:=by
 rw[qaJ,zaaa];unfold qaJ_f;rw[show ((l.length:Int) != (l.length:Int))=false by simp,cond_false,qaJ_l4,zaaa]
 have hL := zacy (fun _ : Nm => true) l () (fun m i => qaJ_i4 m l l i)
  (fun m i h0 h=>by simp only[qaJ_i4,qaJ_t4,decide_eq_false h,cond_false])
  (fun m i a h0 h ha ma=>by
   simp only[qaJ_i4,qaJ_t4,decide_eq_true h,decide_eq_true h0,cond_true,ha,Option.bind_some,beq_self_eq_true,Bool.not_true,cond_false];rw[i64_in (i+1) (by omega)])
  fuel (by unfold fuel; omega)
 rw[hL];have:l.all (fun _=>true)=true:=by simp
 rw[this];rfl
theorem zayk (n:Names) (hc:n.cells.length≤100000000) (hm:n.mutexes.length≤100000000) (ht:n.threads.length≤100000000) (hr:n.regs.length≤100000000) (hR:∀ l∈n.regs,l.length≤100000000):qaH n n=some true:=by
 rw[qaH,zaaa];unfold qaH_f;rw[zal6 _ (by omega),zal6 _ (by omega),zal6 _ (by omega)];simp only[Option.bind_some,Bool.not_true,cond_false];rw[show ((n.regs.length:Int) != (n.regs.length:Int))=false by simp];simp only[cond_false]
 have hL := zacy (fun _ : List Nm => true) n.regs () (fun m i => qaH_i7 m i n.cells n.mutexes n.threads n.regs n.cells n.mutexes n.threads n.regs)
  (fun m i h0 h=>by simp only[qaH_i7,qaH_t7,decide_eq_false h,cond_false])
  (fun m i a h0 h ha ma=>by
   have:=hR a ma;simp only[qaH_i7,qaH_t7,decide_eq_true h,decide_eq_true h0,cond_true,ha,Option.bind_some];rw[zal6 a (by omega)];simp only[Option.bind_some,Bool.not_true,cond_false];rw[i64_in (i+1) (by omega)])
  fuel (by unfold fuel; omega)
 rw[qaH_l7,zaaa,hL];have:n.regs.all (fun _=>true)=true:=by simp
 rw[this];rfl
theorem actsR:∀ (k f:Nat) (l:List TAct),nAs l≤k→k<f→k≤100000000→qaI_i f l l=some true:=by
 intro k;induction k with
 |zero=>
  intro f l h hf _;obtain ⟨f,rfl⟩:∃ q,f=q+1:=⟨f-1,by omega⟩;have hl:=zah2 l;obtain rfl:l=[]:=List.eq_nil_of_length_eq_zero (by omega);show qaI_f (qaI_i f) [] []=_;unfold qaI_f;rw[qaI_l4,zaaa];rfl
 |succ k ih=>
  intro f l h hf hb;obtain ⟨f,rfl⟩:∃ q,f=q+1:=⟨f-1,by omega⟩;have hl:=zah2 l;show qaI_f (qaI_i f) l l=_;unfold qaI_f;rw[show ((l.length:Int) != (l.length:Int))=false by simp,cond_false,qaI_l4,zaaa]
  have hL := zacy (fun _ : TAct => true) l () (fun m i => qaI_i4 (qaI_i f) m l l i)
   (fun m i h0 h=>by simp only[qaI_i4,qaI_t4,decide_eq_false h,cond_false])
   (fun m i a h0 h ha ma=>by
    have h5:=zanl ma;have h6:=nA_eq a;have nb:∀ x:Int,(x != x)=false:=by intro x; simp
    simp only[qaI_i4,qaI_t4,decide_eq_true h,decide_eq_true h0,cond_true,ha,Option.bind_some,zaav];rw[zakm a.expr a.expr (by omega),zank,ih f a.then_ (by omega) (by omega) (by omega),ih f a.else_ (by omega) (by omega) (by omega)];simp only[Option.bind_some,nb,Bool.not_true,cond_false];rw[i64_in (i+1) (by omega)])
   fuel (by unfold fuel; omega)
  rw[hL];have:l.all (fun _=>true)=true:=by simp
  rw[this];rfl
theorem zayb (u:TUnit) (h:nB u.threads≤100000000) (hc:u.cells.length≤100000000):qaG u u=some true:=by
 rw[qaG,zaaa];unfold qaG_f;have nb:∀ x:Int,(x != x)=false:=by intro x; simp
 have hl:=zamc u.threads;simp only[nb,Option.bind_some,cond_false]
 have hL := zacy (fun _ : Int => true) u.cells (u.cells, u.mutexes, u.threads, u.cells, u.mutexes, u.threads) (fun m i => qaG_i4 m i u.cells u.mutexes u.threads u.cells u.mutexes u.threads)
  (fun m i h0 h=>by simp only[qaG_i4,qaG_t4,decide_eq_false h,cond_false])
  (fun m i a h0 h ha ma=>by
   simp only[qaG_i4,qaG_t4,decide_eq_true h,decide_eq_true h0,cond_true,ha,Option.bind_some,nb,cond_false];rw[i64_in (i+1) (by omega)])
  fuel (by unfold fuel; omega)
 have e1:u.cells.all (fun _=>true)=true:=by simp
 rw[qaG_l4,zaaa,hL,e1];simp only[cond_true,Option.bind_some]
 have hL2 := zacy (fun _ : TBody => true) u.threads () (fun m i => qaG_i9 m i u.cells u.mutexes u.threads u.cells u.mutexes u.threads)
  (fun m i h0 h=>by simp only[qaG_i9,qaG_t9,decide_eq_false h,cond_false])
  (fun m i a h0 h ha ma=>by
   have hb:=zaqh ma;simp only[qaG_i9,qaG_t9,decide_eq_true h,decide_eq_true h0,cond_true,ha,Option.bind_some,nb,cond_false];rw[qaI,zaaa,actsR (nAs a.acts) fuel a.acts (Nat.le_refl _) (by unfold fuel; omega) (by omega)];simp only[Option.bind_some,Bool.not_true,cond_false];rw[i64_in (i+1) (by omega)])
  fuel (by unfold fuel; omega)
 have e2:u.threads.all (fun _=>true)=true:=by simp
 rw[qaG_l9,zaaa,hL2,e2];rfl
mutual
theorem exM_n (th:Nm→Bool):∀ (x:TExpr) (rs:List Nm) (y:TExpr×List Nm),exM th x rs=.inl y→nE y.1=nE x
 |⟨k,n,s,l⟩,rs,y,h=>by
  rw[exM] at h;cases hk:k==2 with
  |true=>
   rw[hk,cond_true] at h;cases hr:regM th rs s with
   |inr e=>rw[hr] at h; cases h
   |inl r=>
    rw[hr] at h;simp only at h;cases hz:exMs th l r.2 with
    |inr e=>rw[hz] at h; cases h
    |inl z=>rw[hz] at h; cases h; simp only[nE,zap8 th l r.2 z hz]
  |false=>
   rw[hk,cond_false] at h;cases hz:exMs th l rs with
   |inr e=>rw[hz] at h; cases h
   |inl z=>rw[hz] at h; cases h; simp only[nE,zap8 th l rs z hz]
theorem zap8 (th:Nm→Bool):∀ (l:List TExpr) (rs:List Nm) (y:List TExpr×List Nm),exMs th l rs=.inl y→nEs y.1=nEs l
 |[],rs,y,h=>by rw[exMs] at h; cases h; rfl
 |x::l,rs,y,h=>by
  rw[exMs] at h;cases hx:exM th x rs with
  |inr e=>rw[hx] at h; cases h
  |inl z=>
   rw[hx] at h;simp only at h;cases hz:exMs th l z.2 with
   |inr e=>rw[hz] at h; cases h
   |inl q=>rw[hz] at h; cases h; simp only[nEs,exM_n th x rs z hx,zap8 th l z.2 q hz]
end
theorem exO_n {th:Nm→Bool} {x:TExpr} {rs:List Nm} {y:TExpr×List Nm} (h:exO th x rs=.inl y):nE y.1≤nE x:=by
 unfold exO at h;cases hk:x.kind==0 with
 |true=>
  rw[hk] at h;cases h;have:=nE_eq x;simp only[nE,nEs];omega
 |false=>rw[hk] at h; exact Nat.le_of_eq (exM_n th x rs y h)
mutual
theorem acN_n (tf:Nm→Bool) (ob:Int→Nm→Int⊕(Int×Nm)):∀ (x:TStmt) (rs:List Nm) (y:TAct×List Nm),acN tf ob x rs=.inl y→nA y.1≤nS x
 |⟨k,r,nm,x,c,t,o⟩,rs,y,h=>by
  rw[acN] at h;cases h1:regO tf rs r with
  |inr e=>rw[h1] at h; cases h
  |inl a=>
   rw[h1] at h;simp only at h;cases h2:ob k nm with
   |inr e=>rw[h2] at h; cases h
   |inl b=>
    rw[h2] at h;simp only at h;cases h3:exO tf x a.2 with
    |inr e=>rw[h3] at h; cases h
    |inl z=>
     rw[h3] at h;simp only at h;cases h4:acNs tf ob t z.2 with
     |inr e=>rw[h4] at h; cases h
     |inl p=>
      rw[h4] at h;simp only at h;cases h5:acNs tf ob o p.2 with
      |inr e=>rw[h5] at h; cases h
      |inl q=>
       rw[h5] at h;cases h;have e1:=exO_n h3;have e2:=zamo tf ob t z.2 p h4;have e3:=zamo tf ob o p.2 q h5;simp only[nA,nS];omega
theorem zamo (tf:Nm→Bool) (ob:Int→Nm→Int⊕(Int×Nm)):∀ (l:List TStmt) (rs:List Nm) (y:List TAct×List Nm),acNs tf ob l rs=.inl y→nAs y.1≤nSs l
 |[],rs,y,h=>by rw[zai2] at h; cases h; simp[nAs]
 |x::l,rs,y,h=>by
  rw[zajl] at h;cases h1:acN tf ob x rs with
  |inr e=>rw[h1] at h; cases h
  |inl a=>
   rw[h1] at h;simp only at h;cases h2:acNs tf ob l a.2 with
   |inr e=>rw[h2] at h; cases h
   |inl b=>
    rw[h2] at h;cases h;have e1:=acN_n tf ob x rs a h1;have e2:=zamo tf ob l a.2 b h2;simp only[nAs,nSs];omega
end
theorem zavd (n : Names) : ∀ (l : List TThread) (z : List (List TAct × List Nm)), thrN n l = .inl z → nB (z.map fun y => ⟨y.2.length, y.1⟩) ≤ nT l ∧ z.length = l.length ∧ ∀ y ∈ z, y.2.length ≤ 8
 |[],z,h=>by rw[thrN] at h; cases h; simp[nB,nT]
 |t::l,z,h=>by
  rw[thrN] at h;cases h1:acNs (thing n) (objN n) t.body [] with
  |inr e=>rw[h1] at h; cases h
  |inl a=>
   rw[h1] at h;simp only at h;cases h2:thrN n l with
   |inr e=>rw[h2] at h; cases h
   |inl b=>
    rw[h2] at h;cases h;have e1:=zamo _ _ t.body [] a h1;obtain ⟨e2,e3,e4⟩:=zavd n l b h2;have e5:=zacc (thing n) (objN n) t.body [] a (by simp) h1;refine ⟨by simp only[List.map_cons,nB,nT]; omega,by simp[e3],?_⟩;intro y hy;rcases List.mem_cons.1 hy with rfl|hy
    ·exact e5
    ·exact e4 y hy
theorem zawi (p:TProg) (h:nT p.threads≤100000000) (h1:p.cells.length≤10000000) (h2:p.mutexes.length≤10000000) :
  nB (zabd p).1.threads≤100000000∧(zabd p).1.cells.length≤100000000∧(zabd p).2.1.cells.length≤100000000∧(zabd p).2.1.mutexes.length≤100000000∧(zabd p).2.1.threads.length≤100000000∧(zabd p).2.1.regs.length≤100000000∧∀ l∈(zabd p).2.1.regs,l.length≤100000000:=by
 have hl:=zacr p.threads;unfold zabd;cases zaca p != 0 with
 |true=>simp[unit0,zajx,nB]
 |false=>
  rw[cond_false,zanq];cases headN (zaan p) with
  |some e=>simp[outC,unit0,zajx,nB]
  |none=>
   cases hz:thrN (zaan p) p.threads with
   |inr e=>simp[outC,unit0,zajx,nB]
   |inl z=>
    obtain ⟨e1,e2,e3⟩:=zavd _ _ z hz;simp only[outC];refine ⟨by omega,by simp; omega,by simp; omega,by omega,by simp; omega,by simp; omega,?_⟩;intro l hm;rw[List.mem_map] at hm;obtain ⟨y,hy,rfl⟩:=hm;have:=e3 y hy;omega
theorem zaou (p:TProg) (h:nT p.threads≤100000000) (h1:p.cells.length≤10000000) (h2:p.mutexes.length≤10000000) (h3:p.threads.length≤10000000):qaF p=some true:=by
 rw[qaF,zaaa];unfold qaF_f;obtain ⟨q1,q2,q3,q4,q5,q6,q7⟩:=zawi p h h1 h2;rw[zayh,zadb,zaw1 p h (by omega) (by omega),zato p h h1 h2 h3];simp only[Option.bind_some,zadb];rw[zapf p h (by omega) (by omega),zaxz p p h (by omega) (by omega),zaw4];simp only[Option.bind_some,cform];have s1:=zayb (zabd p).1 q1 q2;have s2:=zayk (zabd p).2.1 q3 q4 q5 q6 q7;have m1:TUnit.mk (zabd p).1.cells (zabd p).1.mutexes (zabd p).1.threads=(zabd p).1:=rfl;have m2:Names.mk (zabd p).2.1.cells (zabd p).2.1.mutexes (zabd p).2.1.threads (zabd p).2.1.regs=(zabd p).2.1:=rfl;rw[m1,m2,s1,s2];simp
end Lift.A9
namespace Lift.A9
open Go Go.RowKit Lift Go.IntWalk Lift.Fn Lift.A3
set_option linter.unusedVariables false
theorem zaba {u:Uni} {c:TV u.U} {cs:List (TV u.U)} {N:Nat} (h:SizedL u (c::cs) N):∃ a b,Sized u c a∧SizedL u cs b∧a+b+1≤N:=by
 cases h with
 |cons _ _ a b _ h1 h2 h3=>exact ⟨a,b,h1,h2,h3⟩
mutual
theorem szE:∀ (x:TExpr) (N:Nat),Sized J6.kk.u ⟨.st 60,x⟩ N→nE x≤N
 |⟨k,n,m,l⟩,N,h=>by
  have h1:SizedL J6.kk.u [⟨.int .i64,k⟩,⟨.int .i64,n⟩,⟨.str,m⟩,⟨.slc (.st 60),l⟩] N:=h.st_inv;obtain ⟨a1,b1,_,h1,e1⟩:=zaba h1;obtain ⟨a2,b2,_,h2,e2⟩:=zaba h1;obtain ⟨a3,b3,_,h3,e3⟩:=zaba h2;obtain ⟨a4,b4,s4,h4,e4⟩:=zaba h3;have:=szEs l a4 s4.slc_inv;rw[nE];omega
theorem szEs:∀ (l:List TExpr) (N:Nat),SizedL J6.kk.u (l.map (TV.mk (.st 60))) N→nEs l≤N
 |[],N,h=>by simp[nEs]
 |x::l,N,h=>by
  obtain ⟨a,b,h1,h2,e⟩:=zaba h;have:=szE x a h1;have:=szEs l b h2;rw[nEs];omega
end
mutual
theorem szS:∀ (x:TStmt) (N:Nat),Sized J6.kk.u ⟨.st 62,x⟩ N→nS x≤N
 |⟨k,r,m,⟨k',n',m',l'⟩,c,t,o⟩,N,h=>by
  have h1:SizedL J6.kk.u [⟨.int .i64,k⟩,⟨.str,r⟩,⟨.str,m⟩,⟨.int .i64,k'⟩,⟨.int .i64,n'⟩,⟨.str,m'⟩,⟨.slc (.st 60),l'⟩,⟨.int .i64,c⟩,⟨.slc (.st 62),t⟩,⟨.slc (.st 62),o⟩] N:=h.st_inv;obtain ⟨a1,b1,_,h1,e1⟩:=zaba h1;obtain ⟨a2,b2,_,h2,e2⟩:=zaba h1;obtain ⟨a3,b3,_,h3,e3⟩:=zaba h2;obtain ⟨a4,b4,_,h4,e4⟩:=zaba h3;obtain ⟨a5,b5,_,h5,e5⟩:=zaba h4;obtain ⟨a6,b6,_,h6,e6⟩:=zaba h5;obtain ⟨a7,b7,s7,h7,e7⟩:=zaba h6;obtain ⟨a8,b8,_,h8,e8⟩:=zaba h7;obtain ⟨a9,b9,s9,h9,e9⟩:=zaba h8;obtain ⟨a10,b10,s10,h10,e10⟩:=zaba h9;have:=szEs l' a7 s7.slc_inv;have:=szSs t a9 s9.slc_inv;have:=szSs o a10 s10.slc_inv;rw[nS,nE];omega
theorem szSs:∀ (l:List TStmt) (N:Nat),SizedL J6.kk.u (l.map (TV.mk (.st 62))) N→nSs l≤N
 |[],N,h=>by simp[nSs]
 |x::l,N,h=>by
  obtain ⟨a,b,h1,h2,e⟩:=zaba h;have:=szS x a h1;have:=szSs l b h2;rw[nSs];omega
end
theorem szT:∀ (l:List TThread) (N:Nat),SizedL J6.kk.u (l.map (TV.mk (.st 51))) N→nT l≤N
 |[],N,h=>by simp[nT]
 |⟨m,t⟩::l,N,h=>by
  obtain ⟨a,b,h1,h2,e⟩:=zaba h;have h3:SizedL J6.kk.u [⟨.str,m⟩,⟨.slc (.st 62),t⟩] a:=h1.st_inv;obtain ⟨a1,b1,_,h3,e1⟩:=zaba h3;obtain ⟨a2,b2,s2,h4,e2⟩:=zaba h3;have:=szSs t a2 s2.slc_inv;have:=szT l b h2;rw[nT];show 1+nSs t+nT l≤N;omega
structure SmallP (y:TProg):Prop where
 t:nT y.threads≤2000000
 c:y.cells.length≤2000000
 m:y.mutexes.length≤2000000
theorem smallP (y:TProg) (h:Sized J6.kk.u ⟨.st 26,y⟩ 1048576):SmallP y:=by
 obtain ⟨c,m,t⟩:=y;have h1:SizedL J6.kk.u [⟨.slc (.st 48),c⟩,⟨.slc .str,m⟩,⟨.slc (.st 51),t⟩] 1048576:=h.st_inv;obtain ⟨a1,b1,s1,h1,e1⟩:=zaba h1;obtain ⟨a2,b2,s2,h2,e2⟩:=zaba h1;obtain ⟨a3,b3,s3,h3,e3⟩:=zaba h2;have:=szT t a3 s3.slc_inv;have q1:c.length≤a1:=s1.slc_len;have q2:m.length≤a2:=s2.slc_len;exact ⟨by show nT t≤_; omega,by show c.length≤_; omega,by show m.length≤_; omega⟩
structure SmallU (y:TUnit):Prop where
 t:nB y.threads≤2000000
 c:y.cells.length≤2000000
theorem checkSays2 (p:TProg) (h:SmallP p):qaF p=some true:=zaou p (by have:=h.t; omega) (by have:=h.c; omega) (by have:=h.m; omega) (by have:=h.t; have:=zacr p.threads; omega)
end Lift.A9
