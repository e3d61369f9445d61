/-
  DERIVED. A function's code, evaluated: regions, calls, loops. Conditions: none.
-/
import Derived.Test.YtcmhkcpheehlhaaGreatDoorLiftAB
import Derived.Laws.CopyRow
import Derived.Laws.IdiomCopy
import Derived.MapKept
set_option linter.unusedVariables false
set_option linter.unusedSimpArgs false
set_option linter.unusedSectionVars false
namespace Lift
open Go Go.RowKit
section
variable {K:Kit} {V:Env} {B:Base} {G:Nat->Option Obj} {tm:Nat->Option (PV K.u.U)} {S:Nat->Option (Ob K.u.U)} {β:Nat->Gh} {w:World}
def newβ (rn:List (RowNow K.u.U)) (β:Nat->Gh) (id:Nat):Gh:=match rn with
 |[]=>β id
 |x::r=>if x.ann.id=id then (match x.src with|some i=>β i|none=>Gh.of (.slice none 0 0)) else newβ r β id
def RowNow.was {U:Nat->Type} (x:RowNow U):Ob U:=match x.o with
 |none=>.row x.ann.T x.ver x.ann.e x.l
 |some (i,cs)=>.opn x.ann.T x.ver x.ann.e x.l i cs
theorem zad8 {U:Nat->Type} (x:RowNow U):x.was.isP=false/\x.was.live=true/\x.was.isRow=true/\x.was.now x.ver=some ⟨x.ann.e,x.l⟩:=by
 unfold RowNow.was;split<;>simp[Ob.isP,Ob.live,Ob.isRow]
theorem zaz5 {U:Nat->Type} {x:RowNow U} (h:x.o=none):x.was=.row x.ann.T x.ver x.ann.e x.l:=by
 unfold RowNow.was; rw[h]
theorem zaf7 {U:Nat->Type} {S:Nat->Option (Ob U)} {fc:Bool} {objs:List Nat} {rn:List (RowNow U)} (x:RowNow U) :
  (rowOb S fc objs rn x).isP=false/\(rowOb S fc objs rn x).live=true/\(rowOb S fc objs rn x).isRow=true/\(rowOb S fc objs rn x).may 0/\(rowOb S fc objs rn x).now 0=some ⟨x.ann.e,x.l⟩:=by
 unfold rowOb;split<;>simp[Ob.isP,Ob.live,Ob.isRow,Ob.may]
theorem zama {fc:Bool} {r:RowAnn} {x:RowNow K.u.U} (h:zakq tm S fc r=some x):x.ann=r/\(x.o=none\/fc=true)/\((x.src=none/\x.l=[]/\x.o=none/\locPV tm S r.loc=some (.k (.slice none 0 0))) \/
  ∃ id,x.src=some id/\(locPV tm S r.loc=some (.oslc id x.ver)\/∃ k,locPV tm S r.loc=some (.win id x.ver k))/\S id=some x.was):=by
 unfold zakq at h;split at h
 ·rename_i hl;simp only[qk] at h;subst h;exact ⟨rfl,.inl rfl,.inl ⟨rfl,rfl,rfl,hl⟩⟩
 ·rename_i id v k hl;split at h
  ·rename_i T v' e l hS;split at h
   ·rename_i he;subst he;split at h
    ·rename_i hh;obtain ⟨rfl,rfl⟩:=hh;simp only[qk] at h;subst h;exact ⟨rfl,.inl rfl,.inr ⟨id,rfl,.inr ⟨k,hl⟩,hS⟩⟩
    ·cases h
   ·cases h
  ·rename_i T v' e l i cs hS;cases fc with
   |false=>cases h
   |true=>
    rw[qg] at h;split at h
    ·rename_i he;subst he;split at h
     ·rename_i hh;obtain ⟨rfl,rfl⟩:=hh;simp only[qk] at h;subst h;exact ⟨rfl,.inr rfl,.inr ⟨id,rfl,.inr ⟨k,hl⟩,hS⟩⟩
     ·cases h
    ·cases h
  ·cases h
 ·rename_i id v hl;split at h
  ·rename_i T v' e l hS;split at h
   ·rename_i he;subst he;split at h
    ·rename_i hh;obtain ⟨rfl,rfl⟩:=hh;simp only[qk] at h;subst h;exact ⟨rfl,.inl rfl,.inr ⟨id,rfl,.inl hl,hS⟩⟩
    ·cases h
   ·cases h
  ·rename_i T v' e l i cs hS;cases fc with
   |false=>cases h
   |true=>
    rw[qg] at h;split at h
    ·rename_i he;subst he;split at h
     ·rename_i hh;obtain ⟨rfl,rfl⟩:=hh;simp only[qk] at h;subst h;exact ⟨rfl,.inr rfl,.inr ⟨id,rfl,.inl hl,hS⟩⟩
     ·cases h
    ·cases h
  ·cases h
 ·cases h
theorem zak3 {fc : Bool} : ∀ {rs : List RowAnn} {rn : List (RowNow K.u.U)}, zadr tm S fc rs = some rn -> rn.map (·.ann) = rs /\ ∀ x ∈ rn, (x.o = none \/ fc = true) /\ ((x.src = none /\ x.l = [] /\ x.o = none /\ locPV tm S x.ann.loc = some (.k (.slice none 0 0))) \/
  ∃ id,x.src=some id/\(locPV tm S x.ann.loc=some (.oslc id x.ver)\/∃ k,locPV tm S x.ann.loc=some (.win id x.ver k))/\S id=some x.was)
 |[],rn,h=>by simp[zadr] at h; subst h; exact ⟨rfl,fun x hx=>by cases hx⟩
 |r::rs,rn,h=>by
  simp only[zadr,qb] at h;obtain ⟨y,h1,ys,h2,h3⟩:=h;simp at h3;subst h3;obtain ⟨i1,i2⟩:=zak3 h2;obtain ⟨e,hh⟩:=zama h1;refine ⟨by simp[i1,e],fun x hx=>?_⟩;cases hx with
  |head=>subst e; exact hh
  |tail _ hx=>exact i2 x hx
theorem zac4:∀ {rn:List (RowNow K.u.U)} {id c:Nat},renOf rn id=some c->∃ x∈rn,x.src=some id/\x.ann.id=c
 |[],_,_,h=>by cases h
 |x::r,id,c,h=>by
  simp only[renOf] at h;split at h
  ·rename_i hx;cases h;exact ⟨x,by simp,hx,rfl⟩
  ·obtain ⟨y,h1,h2,h3⟩:=zac4 h;exact ⟨y,by simp[h1],h2,h3⟩
theorem zanw:∀ {rn:List (RowNow K.u.U)} {loc:Loc} {c:Nat},atLoc rn loc=some c->∃ x∈rn,x.ann.loc=loc/\x.ann.id=c
 |[],_,_,h=>by cases h
 |x::r,loc,c,h=>by
  simp only[atLoc] at h;split at h
  ·rename_i hx;cases h;exact ⟨x,by simp,hx,rfl⟩
  ·obtain ⟨y,h1,h2,h3⟩:=zanw h;exact ⟨y,by simp[h1],h2,h3⟩
theorem zacb : ∀ {rn : List (RowNow K.u.U)}, (rn.map (·.ann.id)).Nodup -> ∀ {x : RowNow K.u.U}, x ∈ rn -> newβ rn β x.ann.id = (match x.src with | some i => β i | none => Gh.of (.slice none 0 0))
 |y::r,hn,x,hx=>by
  simp only[xn,List.nodup_cons] at hn;simp only[newβ];cases hx with
  |head=>rw[if_pos rfl]
  |tail _ hx=>
   rw[if_neg (fun e=>hn.1 (by rw[e]; exact xx hx))];exact zacb hn.2 hx
theorem zarn : ∀ {rn : List (RowNow K.u.U)} {id : Nat}, id ∉ rn.map (·.ann.id) -> newβ rn β id = β id
 |[],_,_=>rfl
 |y::r,id,h=>by
  simp only[xn,List.mem_cons,not_or] at h;simp only[newβ];rw[if_neg (fun e=>h.1 e.symm)];exact zarn h.2
theorem zaa7 {α:Type}:∀ {l:List (Nat×α)} {i:Nat} {x:α},look l i=some x->(i,x)∈l
 |(j,y)::r,i,x,h=>by
  rw[zaaf] at h;split at h
  ·rename_i e; subst e; cases h; simp
  ·simp[zaa7 h]
theorem zadx {α : Type} : ∀ {l : List (Nat × α)} {i : Nat} {x : α}, (l.map (·.1)).Nodup -> (i, x) ∈ l -> look l i = some x
 |(j,y)::r,i,x,hn,h=>by
  simp only[xn,List.nodup_cons] at hn;rw[zaaf];cases h with
  |head=>simp
  |tail _ h=>
   rw[if_neg (fun e=>hn.1 (by rw[<-e]; exact xx (f:=Prod.fst) h))];exact zadx hn.2 h
theorem zah8 {α:Type} {u:List (Nat×α)} {id:Nat} (h:id∉u.map (·.1)):look u id=none:=by
 induction u with
 |nil=>rfl
 |cons z u ih=>
  obtain ⟨k,o⟩:=z;simp only[xn,List.mem_cons,not_or] at h;rw[zaaf,if_neg h.1];exact ih h.2
theorem zafl {fc : Bool} {objs : List Nat} {rn : List (RowNow K.u.U)} : ∀ {ids : List Nat} {obs : List (Nat × Ob K.u.U)}, zadz S fc objs rn ids = some obs -> obs.map (·.1) = ids /\ ∀ x ∈ obs,
  (∃ bT cs,S x.1=some (.blk bT cs)/\x.2=.blk bT (zacp S fc objs rn x.1 0 cs))\/∃ o,S x.1=some o/\o.kept=true/\x.2=o
 |[],obs,h=>by simp[zadz] at h; subst h; simp
 |id::r,obs,h=>by
  simp only[zadz] at h;split at h
  ·rename_i bT cs hS;simp only[qb] at h;obtain ⟨xs,h1,h2⟩:=h;simp at h2;subst h2;obtain ⟨i1,i2⟩:=zafl h1;refine ⟨by simp[i1],fun x hx=>?_⟩;cases hx with
   |head=>exact .inl ⟨bT,cs,hS,rfl⟩
   |tail _ hx=>exact i2 x hx
  ·rename_i s p hS;simp only[qb] at h;obtain ⟨xs,h1,h2⟩:=h;simp at h2;subst h2;obtain ⟨i1,i2⟩:=zafl h1;refine ⟨by simp[i1],fun x hx=>?_⟩;cases hx with
   |head=>exact .inr ⟨_,hS,rfl,rfl⟩
   |tail _ hx=>exact i2 x hx
  ·rename_i kt e l hS;simp only[qb] at h;obtain ⟨xs,h1,h2⟩:=h;simp at h2;subst h2;obtain ⟨i1,i2⟩:=zafl h1;refine ⟨by simp[i1],fun x hx=>?_⟩;cases hx with
   |head=>exact .inr ⟨_,hS,rfl,rfl⟩
   |tail _ hx=>exact i2 x hx
  ·cases h
theorem zais {fc:Bool} {objs:List Nat} {rn:List (RowNow K.u.U)}:∀ {ss:List Nat} {s:Nat} {p:PV K.u.U},look (zafj tm S fc objs rn ss) s=some p->∃ q,tm s=some q/\p=zae1 S fc objs rn s q
 |[],s,p,h=>by simp[zafj,look] at h
 |t::ss,s,p,h=>by
  simp only[zafj] at h;cases hq:tm t with
  |none=>rw[hq] at h; exact zais h
  |some q=>
   rw[hq] at h;simp only[zaaf] at h;split at h
   ·rename_i e;subst e;simp at h;exact ⟨q,hq,h.symm⟩
   ·exact zais h
structure Moves (K:Kit) (G:Nat->Option Obj) (S:Nat->Option (Ob K.u.U)) (β:Nat->Gh) (S':Nat->Option (Ob K.u.U)) (β':Nat->Gh) (objs:List Nat) (rn:List (RowNow K.u.U)):Prop where
 ob:∀ id∈objs,∃ ob ob',S id=some ob/\ob.isP=true/\S' id=some ob'/\β' id=β id
 row:∀ x∈rn,∀ i,x.src=some i->S i=some x.was/\(∃ ob',S' x.ann.id=some ob'/\ob'.may 0/\ob'.now 0=some ⟨x.ann.e,x.l⟩)/\β' x.ann.id=β i/\(β i).v.oneCell'=true
 frz:∀ id ver e l,S id=some (.frz ver e l)->TRel K.u G ⟨.slc e,l⟩ (β id).v
mutual
theorem zajv {fc:Bool} {S':Nat->Option (Ob K.u.U)} {β':Nat->Gh} {objs:List Nat} {rn:List (RowNow K.u.U)} (hM:Moves K G S β S' β' objs rn):∀ (p:PV K.u.U) {v:Value},PRel K G S β p v->PRel K G S' β' (zaap S fc objs rn p) v
 |.t c,v,hp=>by simp only[zaap,PRel] at hp ⊢; exact hp
 |.junk,v,hp=>by simp only[zaap,PRel]
 |.ub,v,hp=>by simp only[zaap,PRel]
 |.k c,v,hp=>by simp only[zaap,PRel] at hp ⊢; exact hp
 |.rptr c o,v,hp=>by simp only[zaap,PRel] at hp ⊢; exact hp
 |.ptr id off,v,hp=>by
  simp only[zaap];split
  ·rename_i hm;have hm:id∈objs:=by simpa using hm
   obtain ⟨ob,ob',l1,l2,l3,l4⟩:=hM.ob id hm;simp only[PRel] at hp ⊢;obtain ⟨o1,ob0,o2,o3⟩:=hp;refine ⟨o1,ob',l3,fun _=>?_⟩;rw[l4];rw[l1] at o2; cases o2;exact o3 l2
  ·simp only[PRel]
 |.bslc id n,v,hp=>by simp only[zaap,PRel]
 |.selfp id,v,hp=>by
  simp only[zaap];split
  ·rename_i hm;have hm:id∈objs:=by simpa using hm
   obtain ⟨ob,ob',l1,l2,l3,l4⟩:=hM.ob id hm;simp only[PRel] at hp ⊢;obtain ⟨o1,hp|⟨ob0,o2,o3⟩⟩:=hp
   ·exact ⟨o1,.inl hp⟩
   refine ⟨o1,.inr ⟨ob',l3,fun _=>?_⟩⟩;rw[l4];rw[l1] at o2; cases o2;exact o3 l2
  ·simp only[PRel]
 |.oslc id ver,v,hp=>by
  simp only[zaap];split
  ·rename_i c hc;split
   ·rename_i T v' e l hS;split
    ·rename_i hv;subst hv;obtain ⟨x,hx,x1,rfl⟩:=zac4 hc;obtain ⟨m1,⟨ob',m2,mm,_⟩,m3,m4⟩:=hM.row x hx id x1;simp only[PRel] at hp ⊢;obtain ⟨o1,ob,o2,_,o3⟩:=hp;rw[hS] at o2; cases o2;exact ⟨o1,_,m2,mm,fun _ _=>by rw[m3]; exact o3 _ zabc⟩
    ·simp only[PRel]
   ·rename_i T v' e l i cs hS;split
    ·rename_i hv;subst hv;obtain ⟨x,hx,x1,rfl⟩:=zac4 hc;obtain ⟨m1,⟨ob',m2,mm,_⟩,m3,m4⟩:=hM.row x hx id x1;simp only[PRel] at hp ⊢;obtain ⟨o1,ob,o2,_,o3⟩:=hp;rw[hS] at o2; cases o2;exact ⟨o1,_,m2,mm,fun _ _=>by rw[m3]; exact o3 _ zadp⟩
    ·simp only[PRel]
   ·simp only[PRel]
  ·split
   ·split
    ·rename_i v' e l hS;split
     ·rename_i hv;subst hv;simp only[PRel] at hp ⊢;obtain ⟨o1,ob,o2,_,o3⟩:=hp;rw[hS] at o2; cases o2;rw[o3 _ zalj];exact hM.frz _ _ _ _ hS
     ·simp only[PRel]
    ·simp only[PRel]
   ·simp only[PRel]
 |.eptr id ver i off,v,hp=>by
  simp only[zaap];split
  ·rename_i c hc;have key:∀ ob0:Ob K.u.U,S id=some ob0->ob0.now ver=none\/(∃ y,ob0.now ver=some y/\∃ T cs j,ob0=.row T ver y.1 y.2\/ob0=.opn T ver y.1 y.2 j cs)->ob0.now ver≠none->PRel K G S' β' (.eptr c 0 i off) v:=by
    intro ob0 hS hk hne;obtain ⟨x,hx,x1,rfl⟩:=zac4 hc;obtain ⟨m1,⟨ob',m2,mm,mn⟩,m3,m4⟩:=hM.row x hx id x1;simp only[PRel] at hp ⊢;obtain ⟨o1,ob,o2,_,o3⟩:=hp;rw[hS] at o2;cases o2;rw[hS] at m1;simp only[qk] at m1;subst m1;refine ⟨o1,_,m2,mm,fun y hy=>?_⟩;rw[mn] at hy;cases hy;have hw:=(zad8 x).2.2.2;have hv:x.ver=ver:=by
     rcases hk with h|⟨y,_,T,cs,j,h|h⟩
     ·exact absurd h hne
     ·unfold RowNow.was at h;split at h
      ·injection h with _ h2 _ _
      ·injection h
     ·unfold RowNow.was at h;split at h
      ·injection h
      ·injection h with _ h2 _ _ _ _
    rw[hv] at hw;rw[m3];exact o3 _ hw
   split
   ·rename_i T v' e l hS;split
    ·rename_i hv;subst hv;exact key _ hS (.inr ⟨_,zabc,T,[],0,.inl rfl⟩) (by rw[zabc]; exact Option.some_ne_none _)
    ·simp only[PRel]
   ·rename_i T v' e l k cs hS;split
    ·rename_i hv;subst hv;exact key _ hS (.inr ⟨_,zadp,T,cs,k,.inr rfl⟩) (by rw[zadp]; exact Option.some_ne_none _)
    ·simp only[PRel]
   ·simp only[PRel]
  ·simp only[PRel]
 |.win id ver i,v,hp=>by
  simp only[zaap];split
  ·rename_i c hc;have key:∀ ob0:Ob K.u.U,S id=some ob0->ob0.now ver=none\/(∃ y,ob0.now ver=some y/\∃ T cs j,ob0=.row T ver y.1 y.2\/ob0=.opn T ver y.1 y.2 j cs)->ob0.now ver≠none->PRel K G S' β' (.win c 0 i) v:=by
    intro ob0 hS hk hne;obtain ⟨x,hx,x1,rfl⟩:=zac4 hc;obtain ⟨m1,⟨ob',m2,mm,mn⟩,m3,m4⟩:=hM.row x hx id x1;simp only[PRel] at hp ⊢;obtain ⟨o1,ob,o2,_,o3⟩:=hp;rw[hS] at o2;cases o2;rw[hS] at m1;simp only[qk] at m1;subst m1;refine ⟨o1,_,m2,mm,fun y hy=>?_⟩;rw[mn] at hy;cases hy;have hw:=(zad8 x).2.2.2;have hv:x.ver=ver:=by
     rcases hk with h|⟨y,_,T,cs,j,h|h⟩
     ·exact absurd h hne
     ·unfold RowNow.was at h;split at h
      ·injection h with _ h2 _ _
      ·injection h
     ·unfold RowNow.was at h;split at h
      ·injection h
      ·injection h with _ h2 _ _ _ _
    rw[hv] at hw;rw[m3];exact o3 _ hw
   split
   ·rename_i T v' e l hS;split
    ·rename_i hv;subst hv;exact key _ hS (.inr ⟨_,zabc,T,[],0,.inl rfl⟩) (by rw[zabc]; exact Option.some_ne_none _)
    ·simp only[PRel]
   ·rename_i T v' e l k cs hS;split
    ·rename_i hv;subst hv;exact key _ hS (.inr ⟨_,zadp,T,cs,k,.inr rfl⟩) (by rw[zadp]; exact Option.some_ne_none _)
    ·simp only[PRel]
   ·simp only[PRel]
  ·simp only[PRel]
 |.agg l,v,hp=>by
  simp only[zaap,PRel] at hp ⊢;obtain ⟨vs,h1,h2,h3⟩:=hp;exact ⟨vs,h1,zaew hM l h2,h3⟩
 |.tup l,v,hp=>by
  simp only[zaap,PRel] at hp ⊢;obtain ⟨vs,h1,h2⟩:=hp;exact ⟨vs,h1,zaew hM l h2⟩
 |.clo f l,v,hp=>by
  simp only[zaap,PRel] at hp ⊢;obtain ⟨vs,h1,h2⟩:=hp;exact ⟨vs,h1,zaew hM l h2⟩
 |.ifc T p,v,hp=>by
  simp only[zaap,PRel] at hp ⊢;obtain ⟨x,h1,h2⟩:=hp;exact ⟨x,h1,zajv hM p h2⟩
theorem zaew {fc:Bool} {S':Nat->Option (Ob K.u.U)} {β':Nat->Gh} {objs:List Nat} {rn:List (RowNow K.u.U)} (hM:Moves K G S β S' β' objs rn):∀ (l:List (PV K.u.U)) {vs:List Value},PsRel K G S β l vs->PsRel K G S' β' (zab7 S fc objs rn l) vs
 |[],vs,hp=>by simp only[zab7,PsRel] at hp ⊢; exact hp
 |p::l,vs,hp=>by
  simp only[zab7,PsRel] at hp ⊢;obtain ⟨u,r,h1,h2,h3⟩:=hp;exact ⟨u,r,h1,zajv hM p h2,zaew hM l h3⟩
end
theorem zayw {i:Nat}:∀ (l:List (RowNow K.u.U)),(l.filterMap (·.src)).Nodup->∀ x∈l,∀ y∈l,x.src=some i->y.src=some i->x=y:=by
 intro l;induction l with
 |nil=>intro _ x hx; cases hx
 |cons z l ih=>
  intro hnd x hx y hy h1 h2;rw[List.filterMap_cons] at hnd;have sub:z.src=some i->i∉l.filterMap (·.src):=fun hz=>by
   rw[hz] at hnd;exact (List.nodup_cons.1 hnd).1
  have tl:(l.filterMap (·.src)).Nodup:=by
   cases hz:z.src with
   |none=>rw[hz] at hnd; exact hnd
   |some k=>rw[hz] at hnd; exact (List.nodup_cons.1 hnd).2
  cases hx with
  |head=>cases hy with
   |head=>rfl
   |tail _ hy=>exact absurd (List.mem_filterMap.2 ⟨y,hy,h2⟩) (sub h1)
  |tail _ hx=>cases hy with
   |head=>exact absurd (List.mem_filterMap.2 ⟨x,hx,h1⟩) (sub h2)
   |tail _ hy=>exact ih tl x hx y hy h1 h2
structure Masked (K:Kit) (V:Env) (B:Base) (G:Nat->Option Obj) (S:Nat->Option (Ob K.u.U)) (β:Nat->Gh) (w:World) (fc:Bool) (A:Ann) (σ':St K.u.U) (rn:List (RowNow K.u.U)) (β':Nat->Gh):Prop where
 inv:Inv K V B G (look σ'.st) β' w
 ids:σ'.st.map (·.1)=A.objs++rn.map (·.ann.id)
 nodup:(A.objs++rn.map (·.ann.id)).Nodup
 srcs:(rn.filterMap (·.src)).Nodup
 obj:∀ id∈A.objs,β' id=β id/\∃ ob ob',S id=some ob/\ob.isP=true/\look σ'.st id=some ob'/\ob'.isP=true/\ob.live=true
 row:∀ x∈rn,x.o=none->(∃ ob,look σ'.st x.ann.id=some ob/\ob=.row x.ann.T 0 x.ann.e x.l)/\(x.src=none/\β' x.ann.id=Gh.of (.slice none 0 0)\/∃ i,x.src=some i/\β' x.ann.id=β i/\S i=some (.row x.ann.T x.ver x.ann.e x.l))
 opn:fc=false->∀ x∈rn,x.o=none
 anns:rn.map (·.ann)=A.rows
theorem zam7 {fc:Bool} {A:Ann} {σ':St K.u.U} {rn:List (RowNow K.u.U)} (h:mask tm S fc A=some (σ',rn)) (hI:Inv K V B G S β w) {vals:Nat->Option Value} (hT:∀ s p,tm s=some p->∃ v,vals s=some v/\PRel K G S β p v) :
  ∃ β',Masked K V B G S β w fc A σ' rn β'/\∀ s p,look σ'.tm s=some p->∃ v,vals s=some v/\PRel K G (look σ'.st) β' p v:=by
 unfold mask at h;simp only[qb] at h;obtain ⟨rn',h1,obs,h2,h3⟩:=h;split at h3
 ·rename_i hd;simp only[qk,xa] at h3;obtain ⟨rfl,rfl⟩:=h3;obtain ⟨hd1,hd2,hd3,hd4⟩:=hd;have nd1:=zabe hd1;have nd2:=zabe hd2;obtain ⟨ndo,ndr,ndx⟩:=List.nodup_append.1 nd1;obtain ⟨hanns,hrn⟩:=zak3 h1;obtain ⟨hob1,hob2⟩:=zafl h2;have hidsE:(obs++zacd S fc A.objs rn').map (·.1)=A.objs++rn'.map (·.ann.id):=by simp[hob1,zacd]
  have hids:((obs++zacd S fc A.objs rn').map (·.1)).Nodup:=by rw[hidsE]; exact nd1
  have notrow:∀ id∈A.objs,id∉rn'.map (·.ann.id):=fun id hi hm=>ndx id hi id hm rfl
  have bobj:∀ id∈A.objs,newβ rn' β id=β id:=fun id hi=>zarn (notrow id hi)
  have lrow:∀ x∈rn',look (obs++zacd S fc A.objs rn') x.ann.id=some (rowOb S fc A.objs rn' x):=fun x hx=>
   zadx hids (xu.2 (.inr (List.mem_map.2 ⟨x,hx,rfl⟩)))
  have lobj:∀ id∈A.objs,∃ ob,look (obs++zacd S fc A.objs rn') id=some ob/\((∃ bT cs,S id=some (.blk bT cs)/\ob=.blk bT (zacp S fc A.objs rn' id 0 cs))\/∃ o,S id=some o/\o.kept=true/\ob=o):=by
   intro id hi;rw[<-hob1] at hi;obtain ⟨x,hx,rfl⟩:=List.mem_map.1 hi;exact ⟨x.2,zadx hids (xu.2 (.inl hx)),hob2 x hx⟩
  have rowone:∀ x∈rn',(newβ rn' β x.ann.id).v.oneCell'=true:=by
   intro x hx;rw[zacb ndr hx];rcases (hrn x hx).2 with ⟨e1,_,_,e3⟩|⟨id,e1,e2,e3⟩
   ·rw[e1]; rfl
   ·rw[e1];have hob:=hI.obs id _ e3;unfold RowNow.was at hob;split at hob
    ·obtain ⟨_,_,hown,_⟩:=hob;rcases hown.2 with ⟨hv,_⟩|⟨_,_,_,_,hv,_⟩<;>(simp only[hv]; rfl)
    ·obtain ⟨_,_,_,_,_,_,_,_,_,_,_,_,_,_,hown,_⟩:=hob;rcases hown.2 with ⟨hv,_⟩|⟨_,_,_,_,hv,_⟩<;>(simp only[hv]; rfl)
  have hM:Moves K G S β (look (obs++zacd S fc A.objs rn')) (newβ rn' β) A.objs rn':=by
   refine ⟨fun id hi=>?_,fun x hx i hi=>?_,fun id ver e l hS=>hI.obs id _ hS⟩
   ·obtain ⟨ob,l1,l2⟩:=lobj id hi;rcases l2 with ⟨_,cs,m1,_⟩|⟨o,m1,m2,_⟩
    ·exact ⟨_,ob,m1,rfl,l1,bobj id hi⟩
    ·exact ⟨_,ob,m1,(Ob.kept_facts m2).1,l1,bobj id hi⟩
   ·rcases (hrn x hx).2 with ⟨e1,_,_⟩|⟨id,e1,e2,e3⟩
    ·rw[e1] at hi; cases hi
    ·rw[e1] at hi;cases hi;have hb:newβ rn' β x.ann.id=β i:=by rw[zacb ndr hx,e1]
     exact ⟨e3,⟨_,lrow x hx,(zaf7 x).2.2.2.1,(zaf7 x).2.2.2.2⟩,hb,by rw[<-hb]; exact rowone x hx⟩
  -- the value of a row
  have rowval:∀ x∈rn',∀ v,(∃ p,locPV tm S x.ann.loc=some p/\p.isWin=false/\PRel K G S β p v)->v=(newβ rn' β x.ann.id).v:=by
   intro x hx v ⟨p,hp,hpw,hv⟩;rw[zacb ndr hx];rcases (hrn x hx).2 with ⟨e1,_,_,e3⟩|⟨id,e1,e2,e3⟩
   ·rw[e3] at hp; cases hp;simp only[PRel] at hv;rw[e1]; exact hv.1
   ·have e2:locPV tm S x.ann.loc=some (.oslc id x.ver):=by
     rcases e2 with e2|⟨k,e2⟩
     ·exact e2
     ·rw[e2] at hp; cases hp; cases hpw
    rw[e2] at hp; cases hp;simp only[PRel] at hv;obtain ⟨_,ob,o1,_,o2⟩:=hv;rw[e3] at o1; cases o1;rw[e1]; exact o2 _ (zad8 x).2.2.2
  have oslcNew:∀ x∈rn',PRel K G (look (obs++zacd S fc A.objs rn')) (newβ rn' β) (.oslc x.ann.id 0) (newβ rn' β x.ann.id).v:=by
   intro x hx;simp only[PRel];exact ⟨rowone x hx,_,lrow x hx,(zaf7 x).2.2.2.1,fun _ _=>trivial⟩
  have pv:∀ loc p v,locPV tm S loc=some p->PRel K G S β p v->PRel K G (look (obs++zacd S fc A.objs rn')) (newβ rn' β) (zage S fc A.objs rn' loc p) v:=by
   intro loc p v hl hp;unfold zage;split
   ·rename_i c hc hpw;obtain ⟨x,hx,rfl,rfl⟩:=zanw hc;rw[rowval x hx v ⟨p,hl,hpw,hp⟩];exact oslcNew x hx
   ·exact zajv hM p hp
  have cells:∀ id bT (all:List (PV K.u.U)),S id=some (.blk bT all)->∀ (l:List (PV K.u.U)) (j:Nat) (vs:List Value),(∀ k p,l[k]? = some p->all[j+k]? = some p)->PsRel K G S β l vs ->
    PsRel K G (look (obs++zacd S fc A.objs rn')) (newβ rn' β) (zacp S fc A.objs rn' id j l) vs:=by
   intro id bT all hS l;induction l with
   |nil=>intro j vs _ h; simpa [PsRel,zacp] using h
   |cons p l ih=>
    intro j vs hj h;simp only[PsRel] at h;obtain ⟨u,rr,rfl,q1,q2⟩:=h;simp only[zacp,PsRel];refine ⟨u,rr,rfl,pv _ p u (by simp only[locPV,hS]; simpa using hj 0 p (by simp)) q1,ih (j+1) rr (fun k q hk=>?_) q2⟩;have:=hj (k+1) q (by simpa using hk);rw[show j+1+k=j+(k+1) by omega];exact this
  have src:∀ id ob,look (obs++zacd S fc A.objs rn') id=some ob->(id∈A.objs/\∃ ob0,S id=some ob0/\ob0.isP=true/\ob0.live=true)\/∃ x∈rn',id=x.ann.id/\ob=rowOb S fc A.objs rn' x:=by
   intro id ob hl;rcases xu.1 (zaa7 hl) with hm|hm
   ·refine .inl ⟨by rw[<-hob1]; exact xx (f:=Prod.fst) hm,?_⟩;rcases hob2 _ hm with ⟨_,cs,m1,_⟩|⟨o,m1,m2,_⟩
    ·exact ⟨_,m1,rfl,rfl⟩
    ·exact ⟨_,m1,(Ob.kept_facts m2).1,(Ob.kept_facts m2).2⟩
   ·obtain ⟨x,hx,he⟩:=List.mem_map.1 hm;simp only[xa] at he;exact .inr ⟨x,hx,he.1.symm,he.2.symm⟩
  have bsrc:∀ id ob b,look (obs++zacd S fc A.objs rn') id=some ob->ob.has (newβ rn' β id) b->∃ i ob0,S i=some ob0/\ob0.live=true/\ob0.has (β i) b /\
    ((id∈A.objs/\i=id/\ob0.isP=true)\/∃ x∈rn',id=x.ann.id/\x.src=some i/\ob0.isP=false):=by
   intro id ob b hl hb;rcases src id ob hl with ⟨hm,ob0,m1,m2,m3⟩|⟨x,hx,rfl,rfl⟩
   ·rw[bobj id hm] at hb;refine ⟨id,ob0,m1,m3,?_,.inl ⟨hm,rfl,m2⟩⟩;rcases hb with hb|⟨hr,hb⟩
    ·exact .inl hb
    ·exfalso;obtain ⟨ob1,l1,l2⟩:=lobj id hm;rw[hl] at l1;cases l1;rcases l2 with ⟨bT,cs,_,rfl⟩|⟨o,_,n2,rfl⟩
     ·cases hr
     ·cases ob<;>first|(cases hr; done)|(cases n2; done)
   ·rw[zacb ndr hx] at hb;rcases (hrn x hx).2 with ⟨e1,_,_⟩|⟨i,e1,e2,e3⟩
    ·rw[e1] at hb;rcases hb with hb|⟨_,hb⟩
     ·simp[blkOf] at hb
     ·simp at hb
    ·rw[e1] at hb;refine ⟨i,_,e3,(zad8 x).2.1,?_,.inr ⟨x,hx,rfl,e1,(zad8 x).1⟩⟩;rcases hb with hb|⟨_,hb⟩
     ·exact .inl hb
     ·exact .inr ⟨(zad8 x).2.2.1,hb⟩
  have subs:∀ s (all:List (PV K.u.U)),tm s=some (.agg all)->∀ (l:List (PV K.u.U)) (j:Nat) (vs:List Value),(∀ k p,l[k]? = some p->all[j+k]? = some p)->PsRel K G S β l vs ->
    PsRel K G (look (obs++zacd S fc A.objs rn')) (newβ rn' β) (zad1 S fc A.objs rn' s j l) vs:=by
   intro s all hS l;induction l with
   |nil=>intro j vs _ h; simpa [PsRel,zad1] using h
   |cons p l ih=>
    intro j vs hj h;simp only[PsRel] at h;obtain ⟨u,rr,rfl,q1,q2⟩:=h;simp only[zad1,PsRel];refine ⟨u,rr,rfl,pv _ p u (by simp only[locPV,hS]; simpa using hj 0 p (by simp)) q1,ih (j+1) rr (fun k q hk=>?_) q2⟩;have:=hj (k+1) q (by simpa using hk);rw[show j+1+k=j+(k+1) by omega];exact this
  have pvS:∀ s p v,tm s=some p->PRel K G S β p v->PRel K G (look (obs++zacd S fc A.objs rn')) (newβ rn' β) (zae1 S fc A.objs rn' s p) v:=by
   intro s p v hs hp;unfold zae1;split
   ·rename_i l;simp only[PRel] at hp ⊢;obtain ⟨vs,h1,h2,h3⟩:=hp;exact ⟨vs,h1,subs s l hs l 0 vs (fun k p hk=>by simpa using hk) h2,h3⟩
   ·exact pv (.slot s) _ v hs hp
  refine ⟨newβ rn' β,⟨⟨hI.gok,fun id ob hl=>?_,fun id ob b hl hlv hb=>?_,fun id id' ob ob' b hl hl' hlv hlv' hb hb'=>?_,hI.os,hI.tape,hI.output,hI.size,hI.low,hI.gl,hI.env,hI.n0,hI.hh,fun id ob hp hl hP=>?_,fun id ob x0 hk hl hx0=>?_⟩,hidsE,nd1,nd2,fun id hi=>?_,fun x hx ho=>⟨⟨_,lrow x hx,by unfold rowOb; rw[ho]⟩,?_⟩,fun hf x hx=>(hrn x hx).1.resolve_right (by rw[hf]; simp),hanns⟩,fun s p hs=>?_⟩
  ·rcases src id ob hl with ⟨hm,_⟩|⟨x,hx,rfl,rfl⟩
   ·obtain ⟨ob1,l1,l2⟩:=lobj id hm;rw[hl] at l1;cases l1;rcases l2 with ⟨bT,cs,m1,rfl⟩|⟨o,m1,m2,rfl⟩
    ·obtain ⟨b,vs,q1,q2,q3,q4⟩:=hI.obs id _ m1;exact ⟨b,vs,by rw[bobj id hm]; exact q1,q2,cells id bT cs m1 cs 0 vs (fun k p hk=>by simpa using hk) q3,q4⟩
    ·exact (hI.obs id _ m1).keptO m2 (by rw[bobj id hm])
   ·rcases (hrn x hx).2 with ⟨e1,e2,e0,_⟩|⟨i,e1,e2,e3⟩
    ·unfold rowOb;rw[e0];refine ⟨[],?_,?_,?_⟩
     ·rw[zacb ndr hx,e1,e2]; exact .nil
     ·rw[zacb ndr hx,e1,e2]; exact World.ownsZ_nil _ _ _ _
     ·rw[zacb ndr hx,e1]; intro b hb; simp at hb
    ·have hob:=hI.obs i _ e3;unfold RowNow.was at hob;unfold rowOb;split at hob
     ·rename_i ho;rw[ho];show ∃ vals,_;rw[zacb ndr hx,e1];exact hob
     ·rename_i k cs ho;rw[ho];obtain ⟨vals,cvs,F1,F3,a1,a2,a3,a4,a5,a6,a7,a8,a9,a10,a11,a12⟩:=hob;refine ⟨vals,cvs,F1,F3,?_⟩;rw[zacb ndr hx,e1];exact ⟨a1,a2,a3,a4,a5,a6,a7,a8,zaew hM cs a9,a10,a11,a12⟩
  ·obtain ⟨i,ob0,m1,m2,m3,_⟩:=bsrc id ob b hl hb;exact hI.own i ob0 b m1 m2 m3
  ·obtain ⟨i,ob0,m1,m2,m3,m4⟩:=bsrc id ob b hl hb;obtain ⟨i',ob0',m1',m2',m3',m4'⟩:=bsrc id' ob' b hl' hb';have hii:=hI.inj i i' ob0 ob0' b m1 m1' m2 m2' m3 m3';subst hii;rw[m1] at m1';cases m1';rcases m4 with ⟨_,rfl,p1⟩|⟨x,hx,rfl,x1,p1⟩<;>rcases m4' with ⟨_,rfl,p2⟩|⟨y,hy,rfl,y1,p2⟩
   ·rfl
   ·rw[p1] at p2; cases p2
   ·rw[p1] at p2; cases p2
   ·rw[zayw rn' nd2 x hx y hy x1 y1]
  ·rcases src id ob hl with ⟨hm,ob0,m1,m2,m3⟩|⟨x,hx,rfl,rfl⟩
   ·rw[bobj id hm];exact hI.pin id ob0 hp m1 m2
   ·rw[(zaf7 x).1] at hP;cases hP
  ·rcases src id ob hl with ⟨hm,_⟩|⟨x,hx,rfl,rfl⟩
   ·have:=qy.1 hd3 id hm;rw[hk] at this;cases this
   ·have h4:=qy.1 hd4 x hx;rw[hk] at h4;simp only[xf,Bool.false_or,qd,beq_iff_eq] at h4;obtain ⟨h5,h6⟩:=h4;have h6:=qx h6;rw[zacb ndr hx,h5];rcases (hrn x hx).2 with ⟨e1,_⟩|⟨i,e1,_,e3⟩
    ·rw[e1] at h5; cases h5
    ·rw[e1] at h5;cases h5;have hw:=(zad8 x).2.2.2;rw[h6] at hw;exact hI.pinr _ _ _ hk e3 hw
  ·obtain ⟨ob,l1,l2⟩:=lobj id hi;refine ⟨bobj id hi,?_⟩;rcases l2 with ⟨_,cs,m1,rfl⟩|⟨o,m1,m2,rfl⟩
   ·exact ⟨_,_,m1,rfl,l1,rfl,rfl⟩
   ·exact ⟨_,_,m1,(Ob.kept_facts m2).1,l1,(Ob.kept_facts m2).1,(Ob.kept_facts m2).2⟩
  ·rcases (hrn x hx).2 with ⟨e1,_,_⟩|⟨i,e1,e2,e3⟩
   ·exact .inl ⟨e1,by rw[zacb ndr hx,e1]⟩
   ·exact .inr ⟨i,e1,by rw[zacb ndr hx,e1],by rw[e3,zaz5 ho]⟩
  ·obtain ⟨q,q1,rfl⟩:=zais hs;obtain ⟨v,v1,v2⟩:=hT s q q1;exact ⟨v,v1,pvS s q v q1 v2⟩
 ·cases h3
end
section
variable {K:Kit} {V:Env} {B:Base} {G:Nat->Option Obj} {S S':Nat->Option (Ob K.u.U)} {β β':Nat->Gh} {w:World} {φ:Ren}
theorem zae3 {id:Nat} {o:Ob K.u.U}:(renO φ id o).isP=o.isP:=by cases o<;>rfl
theorem zafg {id:Nat} {o:Ob K.u.U}:(renO φ id o).live=o.live:=by cases o<;>rfl
theorem zaml {id ver:Nat} {o:Ob K.u.U} (h:o.may ver):(renO φ id o).may ((φ id).2+ver):=by
 cases o<;>simp only[renO,Ob.may] at h ⊢<;>omega
theorem zaj3 {id ver:Nat} {o:Ob K.u.U}:(renO φ id o).now ((φ id).2+ver)=o.now ver:=by
 have e:∀ v,Nat.beq ((φ id).2+v) ((φ id).2+ver)=Nat.beq v ver:=fun v=>by
  rw[Bool.eq_iff_iff,Nat.beq_eq,Nat.beq_eq];omega
 cases o<;>simp only[renO,Ob.now,e]
mutual
theorem PRel.ren (h:∀ n ob,S n=some ob->S' (φ n).1=some (renO φ n ob)/\β' (φ n).1=β n):∀ (p:PV K.u.U) {v:Value},PRel K G S β p v->PRel K G S' β' (renP φ p) v
 |.t c,v,hp=>by simp only[renP,PRel] at hp ⊢; exact hp
 |.junk,v,hp=>by simp only[renP,PRel]
 |.ub,v,hp=>by simp only[renP,PRel] at hp ⊢; exact hp
 |.k c,v,hp=>by simp only[renP,PRel] at hp ⊢; exact hp
 |.rptr c o,v,hp=>by simp only[renP,PRel] at hp ⊢; exact hp
 |.ptr id off,v,hp=>by
  simp only[renP,PRel] at hp ⊢;obtain ⟨h0,ob,h1,h2⟩:=hp;obtain ⟨h3,h4⟩:=h id ob h1;exact ⟨h0,_,h3,fun hl=>by rw[h4]; exact h2 (by rw[<-hl,zae3])⟩
 |.bslc id n,v,hp=>by
  simp only[renP,PRel] at hp ⊢;obtain ⟨h0,ob,h1,h2⟩:=hp;obtain ⟨h3,h4⟩:=h id ob h1;exact ⟨h0,_,h3,fun hl=>by rw[h4]; exact h2 (by rw[<-hl,zae3])⟩
 |.selfp id,v,hp=>by
  simp only[renP,PRel] at hp ⊢;obtain ⟨h0,hp|⟨ob,h1,h2⟩⟩:=hp
  ·exact ⟨h0,.inl hp⟩
  obtain ⟨h3,h4⟩:=h id ob h1;exact ⟨h0,.inr ⟨_,h3,fun hl=>by rw[h4]; exact h2 (by rw[<-hl,zae3])⟩⟩
 |.oslc id ver,v,hp=>by
  simp only[renP,PRel] at hp ⊢;obtain ⟨h0,ob,h1,hm,h2⟩:=hp;obtain ⟨h3,h4⟩:=h id ob h1;exact ⟨h0,_,h3,zaml hm,fun x hx=>by rw[h4]; rw[zaj3] at hx; exact h2 x hx⟩
 |.eptr id ver i off,v,hp=>by
  simp only[renP,PRel] at hp ⊢;obtain ⟨h0,ob,h1,hm,h2⟩:=hp;obtain ⟨h3,h4⟩:=h id ob h1;exact ⟨h0,_,h3,zaml hm,fun x hx=>by rw[h4]; rw[zaj3] at hx; exact h2 x hx⟩
 |.win id ver i,v,hp=>by
  simp only[renP,PRel] at hp ⊢;obtain ⟨h0,ob,h1,hm,h2⟩:=hp;obtain ⟨h3,h4⟩:=h id ob h1;exact ⟨h0,_,h3,zaml hm,fun x hx=>by rw[h4]; rw[zaj3] at hx; exact h2 x hx⟩
 |.agg l,v,hp=>by
  simp only[renP,PRel] at hp ⊢;obtain ⟨vs,h1,h2,h3⟩:=hp;exact ⟨vs,h1,PsRel.ren h l h2,h3⟩
 |.tup l,v,hp=>by
  simp only[renP,PRel] at hp ⊢;obtain ⟨vs,h1,h2⟩:=hp;exact ⟨vs,h1,PsRel.ren h l h2⟩
 |.clo f l,v,hp=>by
  simp only[renP,PRel] at hp ⊢;obtain ⟨vs,h1,h2⟩:=hp;exact ⟨vs,h1,PsRel.ren h l h2⟩
 |.ifc T p,v,hp=>by
  simp only[renP,PRel] at hp ⊢;obtain ⟨x,h1,h2⟩:=hp;exact ⟨x,h1,PRel.ren h p h2⟩
theorem PsRel.ren (h:∀ n ob,S n=some ob->S' (φ n).1=some (renO φ n ob)/\β' (φ n).1=β n):∀ (l:List (PV K.u.U)) {vs:List Value},PsRel K G S β l vs->PsRel K G S' β' (renPs φ l) vs
 |[],vs,hp=>by simp only[renPs,PsRel] at hp ⊢; exact hp
 |p::l,vs,hp=>by
  simp only[renPs,PsRel] at hp ⊢;obtain ⟨u,r,h1,h2,h3⟩:=hp;exact ⟨u,r,h1,PRel.ren h p h2,PsRel.ren h l h3⟩
end
theorem ObRel.ren (h:∀ n ob,S n=some ob->S' (φ n).1=some (renO φ n ob)/\β' (φ n).1=β n) {n:Nat} {ob:Ob K.u.U} (hn:S n=some ob) (ho:ObRel K G S β w n ob):ObRel K G S' β' w (φ n).1 (renO φ n ob):=by
 obtain ⟨_,hb⟩:=h n ob hn;cases ob with
 |blk bT cs=>
  obtain ⟨b,vs,h1,h2,h3,h4⟩:=ho;exact ⟨b,vs,by rw[hb]; exact h1,h2,PsRel.ren h cs h3,h4⟩
 |row T ver e l=>
  show ∃ vals,_;rw[hb];exact ho
 |frz ver e l=>
  show TRel K.u G ⟨.slc e,l⟩ (β' (φ n).1).v;rw[hb];exact ho
 |sit s pos=>
  obtain ⟨b,h1,h2⟩:=ho;exact ⟨b,by rw[hb]; exact h1,h2⟩
 |mp kt e l=>
  obtain ⟨b,es,clock,h1,h2⟩:=ho;exact ⟨b,es,clock,by rw[hb]; exact h1,h2⟩
 |fmp kt e l=>
  show TRel K.u G ⟨.map kt e,l⟩ (β' (φ n).1).v;rw[hb];exact ho
 |opn T ver e l i cs=>
  obtain ⟨vals,cvs,F1,F3,a1,a2,a3,a4,a5,a6,a7,a8,a9,a10,a11,a12⟩:=ho;refine ⟨vals,cvs,F1,F3,?_⟩;rw[hb];exact ⟨a1,a2,a3,a4,a5,a6,a7,a8,PsRel.ren h cs a9,a10,a11,a12⟩
 |dead=>trivial
theorem zafu : ∀ {st : List (Nat × Ob K.u.U)}, (st.map fun x => (φ x.1).1).Nodup -> ∀ {n : Nat} {ob : Ob K.u.U}, look st n = some ob -> look (renSt φ st) (φ n).1 = some (renO φ n ob)
 |(m,o)::r,hn,n,ob,h=>by
  simp only[xn,List.nodup_cons] at hn;have e:renSt φ ((m,o)::r)=((φ m).1,renO φ m o)::renSt φ r:=rfl;rw[e,zaaf];rw[zaaf] at h;by_cases hh:n=m
  ·subst hh;simp at h;subst h;simp
  ·rw[if_neg hh] at h;rw[if_neg (fun he=>hn.1 (by rw[<-he]; exact List.mem_map.2 ⟨(n,ob),zaa7 h,rfl⟩))];exact zafu hn.2 h
theorem zafp {st:List (Nat×Ob K.u.U)} {i:Nat} {ob':Ob K.u.U} (h:look (renSt φ st) i=some ob'):∃ n ob,(n,ob)∈st/\(φ n).1=i/\ob'=renO φ n ob:=by
 have:=zaa7 h;simp only[renSt,List.mem_map,xa] at this;obtain ⟨⟨n,ob⟩,h1,h2,h3⟩:=this;exact ⟨n,ob,h1,h2,h3.symm⟩
def renβ (φ:Ren) (β:Nat->Gh):List Nat->Nat->Gh
 |[],_=>Gh.of undef
 |n::r,i=>if (φ n).1=i then β n else renβ φ β r i
theorem zah9 : ∀ {ids : List Nat}, (ids.map fun n => (φ n).1).Nodup -> ∀ {n : Nat}, n ∈ ids -> renβ φ β ids (φ n).1 = β n
 |m::r,hn,n,h=>by
  simp only[xn,List.nodup_cons] at hn;simp only[renβ];cases h with
  |head=>rw[if_pos rfl]
  |tail _ h=>
   rw[if_neg (fun e=>hn.1 (by rw[e]; exact List.mem_map.2 ⟨n,h,rfl⟩))];exact zah9 hn.2 h
theorem zaeb {n:Nat} {ob:Ob K.u.U} {g:Gh} {b:Nat}:(renO φ n ob).has g b↔ob.has g b:=by
 cases ob<;>exact Iff.rfl
theorem Inv.rebase {st : List (Nat × Ob K.u.U)} (hI : Inv K V B G (look st) β w) (hn : (st.map fun x => (φ x.1).1).Nodup) (hk : (st.map (·.1)).Nodup) :
  Inv K V ⟨w,G,fun b=>∃ id ob,look st id=some ob/\ob.live=true/\ob.has (β id) b,fun i=>(renβ φ β (st.map (·.1)) i).v,[]⟩ G (look (renSt φ st)) (renβ φ β (st.map (·.1))) w /\
  ∀ n ob,look st n=some ob->look (renSt φ st) (φ n).1=some (renO φ n ob)/\renβ φ β (st.map (·.1)) (φ n).1=β n:=by
 have hn':((st.map (·.1)).map fun n=>(φ n).1).Nodup:=by rw[List.map_map]; exact hn
 have mv:∀ n ob,look st n=some ob->look (renSt φ st) (φ n).1=some (renO φ n ob)/\renβ φ β (st.map (·.1)) (φ n).1=β n:=fun n ob h=>
  ⟨zafu hn h,zah9 hn' (xx (f:=Prod.fst) (zaa7 h))⟩
 have back:∀ i ob',look (renSt φ st) i=some ob'->∃ n ob,look st n=some ob/\(φ n).1=i/\ob'=renO φ n ob:=fun i ob' h=>by
  obtain ⟨n,ob,h1,h2,h3⟩:=zafp h;exact ⟨n,ob,zadx hk h1,h2,h3⟩
 have hlt:∀ n ob b,look st n=some ob->ob.live=true->ob.has (β n) b->b<w.heap.size:=fun n ob b h1 h2 h3=>hI.block_lt h1 h2 h3
 refine ⟨⟨hI.gok,fun i ob' h=>?_,fun i ob' b h hl hb=>?_,fun i j ob1 ob2 b h1 h2 hl1 hl2 hb1 hb2=>?_,rfl,rfl,rfl,qz _,fun _ _ _=>rfl,fun _ _ _=>rfl,hI.env,Nat.le_trans hI.n0 hI.size,fun k ⟨id,ob,h1,h2,h3⟩=>?_,fun _ _ _ _ _=>rfl,fun _ _ _ _ _ _=>rfl⟩,mv⟩
 ·obtain ⟨n,ob,h1,rfl,rfl⟩:=back i ob' h;exact ObRel.ren mv h1 (hI.obs n ob h1)
 ·obtain ⟨n,ob,h1,rfl,rfl⟩:=back i ob' h;rw[zafg] at hl;rw[(mv n ob h1).2,zaeb] at hb;exact ⟨(hI.own n ob b h1 hl hb).1,.inr ⟨n,ob,h1,hl,hb⟩⟩
 ·obtain ⟨n,o1,a1,rfl,rfl⟩:=back i ob1 h1;obtain ⟨m,o2,a2,rfl,rfl⟩:=back j ob2 h2;rw[zafg] at hl1 hl2;rw[(mv n o1 a1).2,zaeb] at hb1;rw[(mv m o2 a2).2,zaeb] at hb2;rw[hI.inj n m o1 o2 b a1 a2 hl1 hl2 hb1 hb2]
 ·rcases (hI.own id ob k h1 h2 h3).2 with h|h
  ·exact Nat.le_trans hI.n0 h
  ·exact hI.hh k h
theorem zaiw {ty:Ty} {p:PV K.u.U} {c:TV K.u.U} {v:Value} (h:p.asOne K.u ty=some c) (hp:PRel K G S β p v):TRel K.u G c v/\c.t=ty:=by
 unfold PV.asOne at h;split at h
 ·rename_i l;split at h
  ·rename_i n;simp only[qb] at h;obtain ⟨cs,h1,x,h2,h3⟩:=h;simp at h3;subst h3;simp only[PRel] at hp;obtain ⟨vs,rfl,h5,_⟩:=hp;obtain ⟨j1,_⟩:=zac8 (G':=G) (fun t p c v hc hp=>zabx hc hp) h1 h5;refine ⟨.st n x vs ?_,rfl⟩;rw[K.u.make_ok n cs x h2];exact j1
  ·cases h
 ·exact zabx h hp
mutual
theorem Sh.fill_fit:∀ {s:Sh} {p:PV K.u.U} {ls r:List (TV K.u.U)},s.fit K.u p=some ls->(s.fill (ls++r)).2=r/\∀ {v:Value},PRel K G S β p v->PRel K G S β (s.fill (ls++r)).1 v
 |.t ty,p,ls,r,h=>by
  simp only[Sh.fit,qb] at h;obtain ⟨c,h1,h2⟩:=h;cases h2;exact ⟨rfl,fun hp=>by simp only[List.singleton_append,Sh.fill,PRel]; exact (zaiw h1 hp).1⟩
 |.junk,p,ls,r,h=>by
  simp only[Sh.fit] at h;cases h;exact ⟨rfl,fun _=>by simp only[qu,Sh.fill,PRel]⟩
 |.nil,p,ls,r,h=>by
  unfold Sh.fit at h;split at h<;>first|(cases h; done)|skip
  all_goals first
   |(cases h; exact ⟨rfl,fun hp=>hp⟩)
   |(simp_all; done)
   |(exfalso; simp_all; done)
 |.fnc f,p,ls,r,h=>by
  unfold Sh.fit at h;split at h
  all_goals first
   |(cases h; done)
   |(simp_all; done)
   |skip
  rename_i f' g a b heq;cases heq;split at h
  ·rename_i hh;obtain ⟨rfl,ha,hb⟩:=hh;cases h;refine ⟨rfl,fun hp=>?_⟩;have ea:a=#[]:=Array.eq_empty_of_size_eq_zero ha;have eb:b=#[]:=Array.eq_empty_of_size_eq_zero hb;subst ea eb;exact hp
  ·cases h
 |.selfp i,p,ls,r,h=>by
  unfold Sh.fit at h;split at h
  all_goals first
   |(cases h; done)
   |(simp_all; done)
   |skip
  ·rename_i i1 i2 heq;cases heq;split at h
   ·rename_i hh;subst hh;cases h;exact ⟨rfl,fun hp=>hp⟩
   ·cases h
  ·rename_i i1 i2 heq;cases heq;split at h
   ·rename_i hh;subst hh;cases h;refine ⟨rfl,fun hp=>?_⟩;simp only[PRel] at hp;show PRel K G S β (.selfp _) _;simp only[PRel];exact ⟨hp.1,.inr hp.2⟩
   ·cases h
  ·rename_i heq;cases heq;cases h;refine ⟨rfl,fun hp=>?_⟩;simp only[PRel] at hp;show PRel K G S β (.selfp _) _;simp only[PRel];exact ⟨by rw[hp.1]; rfl,.inl hp.1⟩
 |.ptr i o,p,ls,r,h=>by
  unfold Sh.fit at h;split at h
  all_goals first
   |(cases h; done)
   |(simp_all; done)
   |skip
  rename_i i1 o1 i2 o2 heq;cases heq;split at h
  ·rename_i hh;obtain ⟨rfl,rfl⟩:=hh;cases h;exact ⟨rfl,fun hp=>hp⟩
  ·cases h
 |.oslc i,p,ls,r,h=>by
  unfold Sh.fit at h;split at h
  all_goals first
   |(cases h; done)
   |(simp_all; done)
   |skip
  rename_i i1 i2 heq;cases heq;split at h
  ·rename_i hh;subst hh;cases h;exact ⟨rfl,fun hp=>hp⟩
  ·cases h
 |.rptr ty o,p,ls,r,h=>by
  unfold Sh.fit at h;split at h
  all_goals first
   |(cases h; done)
   |(simp_all; done)
   |skip
  rename_i i1 o1 i2 o2 heq;cases heq;split at h
  ·rename_i hh;obtain ⟨rfl,rfl⟩:=hh;cases h;exact ⟨rfl,fun hp=>hp⟩
  ·cases h
 |.eptr id0 o,p,ls,r,h=>by
  unfold Sh.fit at h;split at h
  all_goals first
   |(cases h; done)
   |(simp_all; done)
   |skip
  rename_i i1 o1 i2 k2 o2 heq;cases heq;split at h
  ·rename_i hh;obtain ⟨rfl,rfl⟩:=hh;cases h;exact ⟨rfl,fun hp=>hp⟩
  ·cases h
 |.win id0,p,ls,r,h=>by
  unfold Sh.fit at h;split at h
  all_goals first
   |(cases h; done)
   |(simp_all; done)
   |skip
  rename_i i1 i2 k2 heq;cases heq;split at h
  ·rename_i hh;subst hh;cases h;exact ⟨rfl,fun hp=>hp⟩
  ·cases h
 |.agg ss,p,ls,r,h=>by
  unfold Sh.fit at h;split at h
  all_goals first
   |(cases h; done)
   |(simp_all; done)
   |skip
  rename_i ss' l heq;cases heq;obtain ⟨h1,h2⟩:=Sh.fills_fits (r:=r) h;refine ⟨h1,fun {v} hp=>?_⟩;simp only[Sh.fill,PRel] at hp ⊢;obtain ⟨vs,e1,e2,e3⟩:=hp;exact ⟨vs,e1,h2 e2,e3⟩
 |.tup ss,p,ls,r,h=>by
  unfold Sh.fit at h;split at h
  all_goals first
   |(cases h; done)
   |(simp_all; done)
   |skip
  rename_i ss' l heq;cases heq;obtain ⟨h1,h2⟩:=Sh.fills_fits (r:=r) h;refine ⟨h1,fun {v} hp=>?_⟩;simp only[Sh.fill,PRel] at hp ⊢;obtain ⟨vs,e1,e2⟩:=hp;exact ⟨vs,e1,h2 e2⟩
 |.clo f ss,p,ls,r,h=>by
  unfold Sh.fit at h;split at h
  all_goals first
   |(cases h; done)
   |(simp_all; done)
   |skip
  rename_i f' ss' g l heq;cases heq;split at h
  ·rename_i hh;subst hh;obtain ⟨h1,h2⟩:=Sh.fills_fits (r:=r) h;refine ⟨h1,fun {v} hp=>?_⟩;simp only[Sh.fill,PRel] at hp ⊢;obtain ⟨vs,e1,e2⟩:=hp;exact ⟨vs,e1,h2 e2⟩
  ·cases h
 |.ifc T s,p,ls,r,h=>by
  unfold Sh.fit at h;split at h
  all_goals first
   |(cases h; done)
   |(simp_all; done)
   |skip
  rename_i T1 s1 T' q heq;cases heq;split at h
  ·rename_i hh;subst hh;obtain ⟨h1,h2⟩:=Sh.fill_fit (r:=r) h;refine ⟨h1,fun {v} hp=>?_⟩;simp only[Sh.fill,PRel] at hp ⊢;obtain ⟨x,e1,e2⟩:=hp;exact ⟨x,e1,h2 e2⟩
  ·cases h
theorem Sh.fills_fits:∀ {ss:List Sh} {ps:List (PV K.u.U)} {ls r:List (TV K.u.U)},Sh.fits K.u ss ps=some ls->(Sh.fills ss (ls++r)).2=r/\∀ {vs:List Value},PsRel K G S β ps vs->PsRel K G S β (Sh.fills ss (ls++r)).1 vs
 |[],[],ls,r,h=>by
  simp only[Sh.fits] at h; cases h;exact ⟨rfl,fun hp=>hp⟩
 |s::ss,p::ps,ls,r,h=>by
  simp only[Sh.fits,qb] at h;obtain ⟨a,h1,b,h2,h3⟩:=h;cases h3;obtain ⟨i1,i2⟩:=Sh.fill_fit (r:=b++r) h1;obtain ⟨j1,j2⟩:=Sh.fills_fits (r:=r) h2;simp only[Sh.fills,qq,i1];refine ⟨j1,fun {vs} hp=>?_⟩;simp only[PsRel] at hp ⊢;obtain ⟨u,rr,e1,e2,e3⟩:=hp;exact ⟨u,rr,e1,i2 e2,j2 e3⟩
 |[],_::_,ls,r,h=>by simp[Sh.fits] at h
 |_::_,[],ls,r,h=>by simp[Sh.fits] at h
end
end
section
variable {K:Kit} {V:Env} {B:Base} {G:Nat->Option Obj} {S S':Nat->Option (Ob K.u.U)} {β β':Nat->Gh} {w:World}
def zadg (K:Kit) (ob ob':Ob K.u.U):Prop:=
 ob=ob'\/(∃ bT cs cs',ob=.blk bT cs/\ob'=.blk bT cs'/\∀ G S β vs,PsRel K G S β cs vs->PsRel K G S β cs' vs) \/
  ∃ T v e l i cs cs',ob=.opn T v e l i cs/\ob'=.opn T v e l i cs'/\∀ G S β vs,PsRel K G S β cs vs->PsRel K G S β cs' vs
theorem OSh.fit_norm {s:OSh} {o:Ob K.u.U} {ls r:List (TV K.u.U)} (h:s.fit K.u o=some ls):(s.fill (ls++r)).2=r/\zadg K o (s.fill (ls++r)).1:=by
 unfold OSh.fit at h;split at h
 ·rename_i bT ss bT' l;split at h
  ·rename_i hb;subst hb;refine ⟨(Sh.fills_fits (r:=r) (G:=fun _=>none) (S:=fun _=>none) (β:=fun _=>Gh.of undef) h).1,.inr (.inl ⟨_,l,_,rfl,rfl,fun G S β vs hp=>?_⟩)⟩;exact (Sh.fills_fits (r:=r) h).2 hp
  ·cases h
 ·split at h
  ·rename_i hh;obtain ⟨rfl,rfl⟩:=hh;cases h;exact ⟨rfl,.inl rfl⟩
  ·cases h
 ·cases h;exact ⟨rfl,.inl rfl⟩
 ·split at h
  ·rename_i hh;obtain ⟨rfl,rfl⟩:=hh;cases h;exact ⟨rfl,.inl rfl⟩
  ·cases h
 ·split at h
  ·rename_i hh;obtain ⟨rfl,rfl⟩:=hh;simp only[qb,qk] at h;obtain ⟨a,h1,rfl⟩:=h;refine ⟨(Sh.fills_fits (r:=r) (G:=fun _=>none) (S:=fun _=>none) (β:=fun _=>Gh.of undef) h1).1,.inr (.inr ⟨_,_,_,_,_,_,_,rfl,rfl,fun G S β vs hp=>?_⟩)⟩;exact (Sh.fills_fits (r:=r) h1).2 hp
  ·cases h
 ·cases h
theorem zaj0:∀ {ss:List OSh} {os:List (Nat×Ob K.u.U)} {ls r:List (TV K.u.U)},obFit K.u ss os=some ls ->
  (zadn ss (os.map (·.1)) (ls++r)).map (·.1)=os.map (·.1)/\∀ id,(look os id=none/\look (zadn ss (os.map (·.1)) (ls++r)) id=none)\/∃ ob ob',look os id=some ob/\look (zadn ss (os.map (·.1)) (ls++r)) id=some ob'/\zadg K ob ob'
 |[],[],ls,r,h=>⟨rfl,fun id=>.inl ⟨rfl,rfl⟩⟩
 |s::ss,(i,o)::os,ls,r,h=>by
  simp only[obFit,qb] at h;obtain ⟨a,h1,b,h2,h3⟩:=h;cases h3;obtain ⟨i1,i2⟩:=OSh.fit_norm (r:=b++r) h1;obtain ⟨j1,j2⟩:=zaj0 (r:=r) h2;simp only[xn,zadn,qq,i1];refine ⟨by rw[j1],fun id=>?_⟩;rw[zaaf,zaaf];by_cases hh:id=i
  ·rw[if_pos hh,if_pos hh];exact .inr ⟨_,_,rfl,rfl,i2⟩
  ·rw[if_neg hh,if_neg hh];exact j2 id
 |[],_::_,ls,r,h=>by simp[obFit] at h
 |_::_,[],ls,r,h=>by simp[obFit] at h
theorem zajn {tm:Nat->Option (PV K.u.U)} {σ:St K.u.U}:∀ {ss:List Sh} {is:List Nat} {ls r:List (TV K.u.U)},tmFit K.u tm S σ ss is=some ls ->
  (zadm ss is (ls++r)).2=r/\∀ i p',look (zadm ss is (ls++r)).1 i=some p' ->
   (∃ ty c p,tm i=some p/\p.asVal K.u S ty=some c/\p'=.t c/\∀ id∈owned [p],id∈wants tm ss is) \/
   (∃ p,look σ.tm i=some p/\∀ G S β v,PRel K G S β p v->PRel K G S β p' v)
 |[],[],ls,r,h=>by
  simp only[tmFit] at h; cases h;exact ⟨rfl,fun i p' hp=>by simp[zadm,look] at hp⟩
 |s::ss,i::is,ls,r,h=>by
  simp only[tmFit,qb] at h;obtain ⟨a,h1,b,h2,h3⟩:=h;cases h3;obtain ⟨j1,j2⟩:=zajn (r:=r) h2;have hw:∀ id∈wants tm ss is,id∈wants tm (s::ss) (i::is):=fun id hid=>by
   simp only[wants]; exact xu.2 (.inr hid)
  have key:(s.fill (a++(b++r))).2=b++r/\((∃ ty c p,tm i=some p/\p.asVal K.u S ty=some c/\(s.fill (a++(b++r))).1=.t c/\∀ id∈owned [p],id∈wants tm (s::ss) (i::is)) \/
    (∃ p,look σ.tm i=some p/\∀ G S β v,PRel K G S β p v->PRel K G S β (s.fill (a++(b++r))).1 v)):=by
   split at h1
   ·rename_i ty;simp only[qb] at h1;obtain ⟨p,h4,c,h5,h6⟩:=h1;cases h6;refine ⟨rfl,.inl ⟨ty,c,p,h4,h5,rfl,fun id hid=>?_⟩⟩;simp only[wants,h4];exact xu.2 (.inl hid)
   ·simp only[qb] at h1;obtain ⟨p,h4,h5⟩:=h1;refine ⟨(Sh.fill_fit (r:=b++r) (G:=fun _=>none) (S:=fun _=>none) (β:=fun _=>Gh.of undef) h5).1,.inr ⟨p,h4,fun G S β v hp=>?_⟩⟩;exact (Sh.fill_fit (r:=b++r) h5).2 hp
  obtain ⟨k1,k2⟩:=key;simp only[zadm,qq,k1];refine ⟨j1,fun i' p' hp=>?_⟩;rw[zaaf] at hp;by_cases hh:i'=i
  ·rw[if_pos hh] at hp;cases hp;subst hh;exact k2
  ·rw[if_neg hh] at hp;rcases j2 i' p' hp with ⟨ty,c,p,q1,q2,q3,q4⟩|q
   ·exact .inl ⟨ty,c,p,q1,q2,q3,fun id hid=>hw id (q4 id hid)⟩
   ·exact .inr q
 |[],_::_,ls,r,h=>by simp[tmFit] at h
 |_::_,[],ls,r,h=>by simp[tmFit] at h
theorem zadg.facts {ob ob':Ob K.u.U} (h:zadg K ob ob'):ob'.isP=ob.isP/\ob'.live=ob.live/\(∀ v,ob.may v->ob'.may v)/\∀ v,ob'.now v=ob.now v:=by
 rcases h with rfl|⟨_,cs,cs',rfl,rfl,_⟩|⟨_,_,_,_,_,cs,cs',rfl,rfl,_⟩
 ·exact ⟨rfl,rfl,fun _ h=>h,fun _=>rfl⟩
 ·exact ⟨rfl,rfl,fun _ h=>h,fun _=>rfl⟩
 ·exact ⟨rfl,rfl,fun _ h=>h,fun _=>rfl⟩
theorem zadg.has {ob ob':Ob K.u.U} (h:zadg K ob ob') {g:Gh} {b:Nat}:ob'.has g b->ob.has g b:=by
 rcases h with rfl|⟨_,cs,cs',rfl,rfl,_⟩|⟨_,_,_,_,_,cs,cs',rfl,rfl,_⟩
 ·exact fun h=>h
 ·exact fun h=>h
 ·exact fun h=>h
theorem zadg.comp {st st':List (Nat×Ob K.u.U)} (h:∀ id,(look st id=none/\look st' id=none)\/∃ ob ob',look st id=some ob/\look st' id=some ob'/\zadg K ob ob'):Comp K G G (look st) β (look st') β:=by
 refine ⟨fun _ _ h=>h,fun id ob hid=>?_⟩;rcases h id with ⟨h1,_⟩|⟨o,o',h1,h2,h3⟩
 ·rw[hid] at h1; cases h1
 ·rw[hid] at h1;cases h1;obtain ⟨f1,f2,f3,f4⟩:=h3.facts;exact ⟨o',h2,fun hp=>⟨by rw[<-f1]; exact hp,rfl⟩,f3,fun ver x' hm hx=>⟨x',by rw[<-f4]; exact hx,rfl,rfl,rfl⟩⟩
theorem Inv.norm {st st':List (Nat×Ob K.u.U)} (hI:Inv K V B G (look st) β w) (h:∀ id,(look st id=none/\look st' id=none)\/∃ ob ob',look st id=some ob/\look st' id=some ob'/\zadg K ob ob'):Inv K V B G (look st') β w:=by
 have hc:=zadg.comp (G:=G) (β:=β) h;have hg:w.grownBy w none:=⟨rfl,rfl,rfl,qz _,fun _ _ _=>rfl⟩;have back:∀ id ob',look st' id=some ob'->∃ ob,look st id=some ob/\zadg K ob ob':=fun id ob' hid=>by
  rcases h id with ⟨_,h1⟩|⟨o,o',h1,h2,h3⟩
  ·rw[hid] at h1; cases h1
  ·rw[hid] at h2; cases h2; exact ⟨o,h1,h3⟩
 refine ⟨hI.gok,fun id ob' hid=>?_,fun id ob' b hid hl hb=>?_,fun id id' ob1 ob2 b h1 h2 hl1 hl2 hb1 hb2=>?_,hI.os,hI.tape,hI.output,hI.size,hI.low,hI.gl,hI.env,hI.n0,hI.hh,fun id ob' hp hid hP=>?_,zad3 hc hI.pinr fun id ob' _ _ hid _=>by obtain ⟨ob,h1,_⟩:=back id ob' hid; exact ⟨ob,h1⟩⟩
 ·obtain ⟨ob,h1,h2⟩:=back id ob' hid;have:=(hI.obs id ob h1).over hc rfl hg (fun _ _ _=>by simp);rcases h2 with rfl|⟨_,cs,cs',rfl,rfl,h3⟩|⟨_,_,_,_,_,cs,cs',rfl,rfl,h3⟩
  ·exact this
  ·obtain ⟨b,vs,q1,q2,q3,q4⟩:=this;exact ⟨b,vs,q1,q2,h3 _ _ _ _ q3,q4⟩
  ·obtain ⟨vals,cvs,F1,F3,a1,a2,a3,a4,a5,a6,a7,a8,a9,a10,a11,a12⟩:=this;exact ⟨vals,cvs,F1,F3,a1,a2,a3,a4,a5,a6,a7,a8,h3 _ _ _ _ a9,a10,a11,a12⟩
 ·obtain ⟨ob,h1,h2⟩:=back id ob' hid;exact hI.own id ob b h1 (by rw[<-h2.facts.2.1]; exact hl) (h2.has hb)
 ·obtain ⟨o1,a1,a2⟩:=back id ob1 h1;obtain ⟨o2,b1,b2⟩:=back id' ob2 h2;exact hI.inj id id' o1 o2 b a1 b1 (by rw[<-a2.facts.2.1]; exact hl1) (by rw[<-b2.facts.2.1]; exact hl2) (a2.has hb1) (b2.has hb2)
 ·obtain ⟨ob,h1,h2⟩:=back id ob' hid;exact hI.pin id ob hp h1 (by rw[<-h2.facts.1]; exact hP)
theorem zalw {α:Type} {l m:List (Nat×α)}:zahv l (look m)=look (l++m):=by
 funext i;rw[zab6];unfold zahv;cases look l i<;>simp
theorem zadv {sh:StSh} {tm:Nat->Option (PV K.u.U)} {st:List (Nat×Ob K.u.U)} {ls:List (TV K.u.U)} (h:enter K.u sh tm (look st)=some ls) (hI:Inv K V B G (look st) β w)
  {vals:Nat->Option Value} (hT:∀ s p,tm s=some p->∃ v,vals s=some v/\PRel K G (look st) β p v) :
  ∃ G' β',Inv K V B G' (look (sh.fill ls).st) β' w/\∀ s p,look (sh.fill ls).tm s=some p->∃ v,vals s=some v/\PRel K G' (look (sh.fill ls).st) β' p v:=by
 unfold enter at h;simp only[qb] at h;obtain ⟨⟨σ',rn⟩,h1,h2⟩:=h;split at h2
 ·rename_i hids;simp only[qb] at h2;obtain ⟨a,ha,b,hb,h3⟩:=h2;cases h3;rw[zalw] at h1;obtain ⟨hI1,hc1⟩:=hI.settle (wants tm sh.tm sh.slots);obtain ⟨β',hM,hT'⟩:=zam7 h1 hI1 (vals:=vals) (fun s p hs=>by
   obtain ⟨v,v1,v2⟩:=hT s p hs;exact ⟨v,v1,v2.over hc1⟩)
  obtain ⟨t1,t2⟩:=zajn (r:=b) ha;simp only at hids hb;have ob:=(zaj0 (r:=[]) hb).2;rw[hids,xj] at ob;have hst:(sh.fill (a++b)).st=zadn sh.st sh.ids b:=by simp only[StSh.fill,t1]
  have htm:(sh.fill (a++b)).tm=(zadm sh.tm sh.slots (a++b)).1:=rfl;have hI2:Inv K V B (Lift.settle K G (look st) β w (wants tm sh.tm sh.slots)) (look (sh.fill (a++b)).st) β' w:=by rw[hst]; exact hM.inv.norm ob
  refine ⟨_,β',hI2,fun s p hs=>?_⟩;rw[htm] at hs;rcases t2 s p hs with ⟨ty,c,q,q1,q2,rfl,q4⟩|⟨q,q1,q2⟩
  ·obtain ⟨v,v1,v2⟩:=hT s q q1;refine ⟨v,v1,?_⟩;simp only[PRel];exact (zaip hc1.g (hI.rowsSettled (wants tm sh.tm sh.slots)) q4 q2 v2).1
  ·obtain ⟨v,v1,v2⟩:=hT' s q q1;refine ⟨v,v1,?_⟩;rw[hst];exact q2 _ _ _ _ (v2.over (zadg.comp ob))
 ·cases h2
end
def ResPV (K:Kit) (G:Nat->Option Obj) (S:Nat->Option (Ob K.u.U)) (β:Nat->Gh):List (PV K.u.U)->Value->Prop
 |[p],v=>PRel K G S β p v
 |l,v=>∃ vs:List Value,v=.tuple vs.toArray/\PsRel K G S β l vs
def endOf (o:StSh) (v:Value):Ending:=bif o.isPan then .panicked [{ v:=v,recovered:=false }] else .returned v
theorem zago {o:StSh} (h:o.isPan=false) (v:Value):endOf o v=.returned v:=by unfold endOf; rw[h]; rfl
theorem zak1 {o:StSh} (h:o.isPan=true) (v:Value):endOf o v=.panicked [{ v:=v,recovered:=false }]:=by unfold endOf; rw[h]; rfl
def zaa6 (K:Kit) (V:Env) (f:FuncId) (sh:StSh) (outs:List StSh) (ls:List (TV K.u.U)) (j:Nat) (rs:List (TV K.u.U)):Prop:=
 ∀ (B:Base) (G:Nat->Option Obj) (β:Nat->Gh) (w:World) (args:List Value) o,outs[j]? = some o->B.w0=w ->
  Inv K V B G (look (sh.fill ls).st) β w->PsRel K G (look (sh.fill ls).st) β ((sh.fill ls).tm.map (·.2)) args ->
  Calls K.P f args.toArray w fun e w'=>∃ G' β' v,e=endOf o v/\Inv K V B G' (look (o.fill rs).st) β' w'/\ResPV K G' (look (o.fill rs).st) β' ((o.fill rs).tm.map (·.2)) v
def zaad (K:Kit) (V:Env) (f:FuncId) (m:Mode K.u.U):Prop:=
 ∀ ls j rs,(m.sum ls).val=some (j,rs)->zaa6 K V f m.sh m.outs ls j rs
def zabo (P:Program) (f:FuncId):Bool:=match P.funcs[f]? with
 | some fn => !(fn.name == "runtime.NumGoroutine") && fn.body.isSome
 |none=>false
structure KitOk (K:Kit) (V:Env):Prop extends EqOk K where
 modes:∀ f m,m∈K.modes f->zabo K.P f=true/\zaad K V f m
 mixed:K.P.follows .mixedOrders=true
section
variable {K:Kit} {V:Env} {B:Base} {R:Type}
variable {G G':Nat->Option Obj} {S:Nat->Option (Ob K.u.U)} {st:List (Nat×Ob K.u.U)} {β β':Nat->Gh} {w w':World} {c:PV K.u.U->Ups K.u.U->Option R} {r:R}
theorem zacf {P:Program} {f:FuncId} {args:Array Value} (h:zabo P f=true):(callFunc f args).run P w=.ok (.enter f args) w:=by
 unfold zabo at h;cases hf:P.funcs[f]? with
 |none=>simp[hf] at h
 |some fn=>
  simp only[hf,qd,Bool.not_eq_true'] at h;obtain ⟨h1,h2⟩:=h;have h3:fn.body.isNone=false:=by simpa using h2
  simp only[callFunc,Sem.run_bind,run_program,Result.andThen_ok,hf,h1,xg,if_false,h3,Sem.run_pure]
theorem TRel.scalar {u:Uni} {G G':Nat->Option Obj} {c:TV u.U} {v:Value} (h:TRel u G c v) (hs:zacl c.t=true):TRel u G' c v:=by
 cases h with
 |slc=>simp[zacl] at hs
 |nil=>simp[zacl] at hs
 |st=>simp[zacl] at hs
 |map=>simp[zacl] at hs
 |mnil=>simp[zacl] at hs
 |int=>exact .int _ _
 |bool=>exact .bool _
 |str=>exact .str _
 |fn=>exact .fn _
 |noErr=>exact .noErr
 |anErr=>exact .anErr _ _
mutual
theorem PRel.scalar:∀ (p:PV K.u.U) {v:Value},zacr p=true->PRel K G S β p v->PRel K G' S β p v
 |.t c,v,hs,hp=>by simp only[PRel] at hp ⊢; exact hp.scalar (by simpa [zacr] using hs)
 |.junk,v,hs,hp=>by simp only[PRel]
 |.ub,v,hs,hp=>by simp only[PRel] at hp ⊢; exact hp
 |.k c,v,hs,hp=>by simp only[PRel] at hp ⊢; exact hp
 |.ptr id off,v,hs,hp=>by simp only[PRel] at hp ⊢; exact hp
 |.selfp id,v,hs,hp=>by simp only[PRel] at hp ⊢; exact hp
 |.bslc id n,v,hs,hp=>by simp only[PRel] at hp ⊢; exact hp
 |.oslc id ver,v,hs,hp=>by simp only[PRel] at hp ⊢; exact hp
 |.eptr id ver i off,v,hs,hp=>by simp only[PRel] at hp ⊢; exact hp
 |.win id ver i,v,hs,hp=>by simp only[PRel] at hp ⊢; exact hp
 |.rptr c off,v,hs,hp=>by simp[zacr] at hs
 |.agg l,v,hs,hp=>by
  simp only[PRel] at hp ⊢;obtain ⟨vs,h1,h2,h3⟩:=hp;exact ⟨vs,h1,PsRel.scalar l (by simpa [zacr] using hs) h2,h3⟩
 |.tup l,v,hs,hp=>by
  simp only[PRel] at hp ⊢;obtain ⟨vs,h1,h2⟩:=hp;exact ⟨vs,h1,PsRel.scalar l (by simpa [zacr] using hs) h2⟩
 |.clo f l,v,hs,hp=>by
  simp only[PRel] at hp ⊢;obtain ⟨vs,h1,h2⟩:=hp;exact ⟨vs,h1,PsRel.scalar l (by simpa [zacr] using hs) h2⟩
 |.ifc T p,v,hs,hp=>by
  simp only[PRel] at hp ⊢;obtain ⟨x,h1,h2⟩:=hp;exact ⟨x,h1,PRel.scalar p (by simpa [zacr] using hs) h2⟩
theorem PsRel.scalar:∀ (l:List (PV K.u.U)) {vs:List Value},zab8 l=true->PsRel K G S β l vs->PsRel K G' S β l vs
 |[],vs,hs,hp=>by simp only[PsRel] at hp ⊢; exact hp
 |p::l,vs,hs,hp=>by
  simp only[zab8,qd] at hs;simp only[PsRel] at hp ⊢;obtain ⟨u,r,h1,h2,h3⟩:=hp;exact ⟨u,r,h1,PRel.scalar p hs.1 h2,PsRel.scalar l hs.2 h3⟩
end
theorem ObRel.scalar {i:Nat} {ob:Ob K.u.U} (hs:zaj4 K.u ob=true) (h:ObRel K G S β w i ob):ObRel K G' S β w i ob:=by
 cases ob with
 |blk bT cs=>
  obtain ⟨b,vs,h1,h2,h3,h4⟩:=h;exact ⟨b,vs,h1,h2,PsRel.scalar cs hs h3,h4⟩
 |row T ver e l=>
  obtain ⟨vals,h1,h2⟩:=h;refine ⟨vals,h1.closed (fun d hd=>?_),h2⟩;simp only[List.mem_map] at hd;obtain ⟨y,_,rfl⟩:=hd;exact hs
 |frz ver e l=>cases hs
 |fmp kt e l=>cases hs
 |opn T v e l i cs=>cases hs
 |mp kt e l=>
  obtain ⟨b,es,clock,h1,h2,h3,h4⟩:=h;simp only[zaj4,qd] at hs;have key:∀ (t:Ty) (f:kt.den K.u.U×e.den K.u.U->t.den K.u.U),zacl t=true->∀ (l:List (kt.den K.u.U×e.den K.u.U)) (vs:List Value),TsRel K.u G (l.map fun x=>⟨t,f x⟩) vs->TsRel K.u G' (l.map fun x=>⟨t,f x⟩) vs:=by
   intro t f ht l;induction l with
   |nil=>intro vs h; cases h; exact .nil
   |cons a l ih=>
    intro vs h;simp only[xn] at h ⊢;cases h with
    |cons _ _ v vs h1 h2=>exact .cons _ _ _ _ (h1.scalar ht) (ih vs h2)
  exact ⟨b,es,clock,h1,h2,key kt _ hs.1 l _ h3,key e _ hs.2 l _ h4⟩
 |sit s pos=>exact h
 |dead=>trivial
theorem ObRel.keep {i:Nat} {ob:Ob K.u.U} (h:ObRel K G S β w i ob) (hb:ob.live=true->∀ b,ob.has (β i) b->w'.heap[b]? = w.heap[b]?):ObRel K G S β w' i ob:=by
 cases ob with
 |blk bT cs=>
  obtain ⟨b,vs,h1,h2,h3,h4⟩:=h;exact ⟨b,vs,h1,by rw[hb rfl b (.inl (by simp[h1,blkOf]))]; exact h2,h3,h4⟩
 |row T ver e l=>
  obtain ⟨vals,h1,⟨h2,h3⟩,h7⟩:=h;refine ⟨vals,h1.over (fun _ _ h=>h) (fun b hbF=>hb rfl b (.inr ⟨rfl,hbF⟩)),⟨h2,?_⟩,h7⟩;rcases h3 with h3|⟨g,cap,cur,fz,hv,h4,h5,h6⟩
  ·exact .inl h3
  ·exact .inr ⟨g,cap,cur,fz,hv,h4,by rw[hb rfl g (.inl (by simp[hv,blkOf]))]; exact h5,h6⟩
 |frz ver e l=>exact h
 |fmp kt e l=>exact h
 |opn T v e l j cs=>
  obtain ⟨vals,cvs,F1,F3,a1,a2,a3,a4,a5,a6,a7,a8,a9,a10,⟨h2,h3⟩,a12⟩:=h;refine ⟨vals,cvs,F1,F3,a1,a2,a3,a4,a5,a6.over (fun _ _ h=>h) (fun b hbF=>hb rfl b (.inr ⟨rfl,by rw[a1]; simp[hbF]⟩)),a7.over (fun _ _ h=>h) (fun b hbF=>hb rfl b (.inr ⟨rfl,by rw[a1]; simp[hbF]⟩)),a8,a9,a10,⟨h2,?_⟩,a12⟩;rcases h3 with h3|⟨g,cap,cur,fz,hv,h4,h5,h6⟩
  ·exact .inl h3
  ·exact .inr ⟨g,cap,cur,fz,hv,h4,by rw[hb rfl g (.inl (by simp[hv,blkOf]))]; exact h5,h6⟩
 |mp kt e l=>
  obtain ⟨b,es,clock,h1,h2,h3⟩:=h;exact ⟨b,es,clock,h1,by rw[hb rfl b (.inl (by simp[h1,blkOf]))]; exact h2,h3⟩
 |sit s pos=>
  obtain ⟨b,h1,h2⟩:=h;exact ⟨b,h1,by rw[hb rfl b (.inl (by simp[h1,blkOf]))]; exact h2⟩
 |dead=>trivial
theorem zaiq:∀ {l:List (Nat×Nat×Nat)} {i:Nat} {x:Nat×Nat},zacu l i=some x->(i,x)∈l
 |(n,y)::r,i,x,h=>by
  simp only[zacu] at h;cases hb:Nat.beq n i with
  |true=>rw[hb] at h; cases qx hb; simp at h; subst h; simp
  |false=>rw[hb] at h; simp[zaiq h]
theorem PsRel.of_get {l:List (PV K.u.U)} {vs:List Value} (hl:l.length=vs.length) (h:∀ (i:Nat) (p:PV K.u.U),l[i]? = some p->∃ v,vs[i]? = some v/\PRel K G S β p v):PsRel K G S β l vs:=by
 induction l generalizing vs with
 |nil=>cases vs with
  |nil=>simp[PsRel]
  |cons=>simp at hl
 |cons p l ih=>
  cases vs with
  |nil=>simp at hl
  |cons v vs=>
   simp only[PsRel];obtain ⟨v',h1,h2⟩:=h 0 p rfl;simp at h1;subst h1;exact ⟨_,_,rfl,h2,ih (by simpa using hl) (fun i q hq=>by simpa using h (i+1) q (by simpa using hq))⟩
theorem zahq {S : Nat -> Option (Ob K.u.U)} {tm : Nat -> Option (PV K.u.U)} {σ : St K.u.U} : ∀ {ss : List Sh} {is : List Nat} {ls r : List (TV K.u.U)}, tmFit K.u tm S σ ss is = some ls -> (zadm ss is (ls ++ r)).1.map (·.1) = is
 |[],[],ls,r,h=>rfl
 |s::ss,i::is,ls,r,h=>by
  simp only[tmFit,qb] at h;obtain ⟨a,h1,b,h2,h3⟩:=h;cases h3;simp only[zadm,xn,qq];congr 1;have key:(s.fill (a++(b++r))).2=b++r:=by
   split at h1
   ·simp only[qb] at h1;obtain ⟨p,_,c,_,h6⟩:=h1;cases h6;rfl
   ·simp only[qb] at h1;obtain ⟨p,_,h5⟩:=h1;exact (Sh.fill_fit (r:=b++r) (G:=fun _=>none) (S:=fun _=>none) (β:=fun _=>Gh.of undef) h5).1
  rw[key];exact zahq h2
 |[],_::_,ls,r,h=>by simp[tmFit] at h
 |_::_,[],ls,r,h=>by simp[tmFit] at h
theorem zaex {sh:StSh} {tm:Nat->Option (PV K.u.U)} {S:Nat->Option (Ob K.u.U)} {ls:List (TV K.u.U)} (h:enter K.u sh tm S=some ls):(sh.fill ls).tm.map (·.1)=sh.slots:=by
 unfold enter at h;simp only[qb] at h;obtain ⟨x,_,h2⟩:=h;split at h2
 ·simp only[qb] at h2;obtain ⟨a,ha,b,_,h3⟩:=h2;cases h3;exact zahq ha
 ·cases h2
theorem zaee {α : Type} : ∀ {l : List (Nat × α)} {k : Nat}, l.map (·.1) = List.range' k l.length -> ∀ {i : Nat} {p : α}, (l.map (·.2))[i]? = some p -> look l (k + i) = some p
 |(j,x)::r,k,h,i,p,hp=>by
  simp only[xn,qe,List.range'_succ,xh] at h;obtain ⟨rfl,h⟩:=h;rw[zaaf];cases i with
  |zero=>simp at hp ⊢; exact hp
  |succ i=>
   rw[if_neg (by omega)];rw[show j+(i+1)=j+1+i by omega];exact zaee h (by simpa using hp)
def Both (st:List (Nat×Ob K.u.U)) (ids:List Nat) (i:Nat) (ob:Ob K.u.U):Prop:=look st i=some ob/\look (frzs K.u (look st) ids++st) i=some ob
structure CameOk (K:Kit) (V:Env) (B:Base) (G:Nat->Option Obj) (st:List (Nat×Ob K.u.U)) (β:Nat->Gh) (w:World) (m:Mode K.u.U) (ps:List (PV K.u.U)) (args:List Value) (x:Came K.u.U) (G1:Nat->Option Obj) (Bc:Base) (βc:Nat->Gh):Prop where
 w0:Bc.w0=w
 g0:Bc.G0=G1
 inv:Inv K V Bc G1 (look (m.sh.fill x.ls).st) βc w
 rel:PsRel K G1 (look (m.sh.fill x.ls).st) βc ((m.sh.fill x.ls).tm.map (·.2)) args
 own:∀ b,Bc.H b->G1 b=none/\(B.w0.heap.size<=b\/B.H b)/\∃ i ob,Both st (wants (fun i=>ps[i]?) m.sh.tm m.sh.slots) i ob/\ob.live=true/\ob.has (β i) b/\i∈x.env.map (·.2)++x.rows.map (·.2.1)
 bl:∀ n id,look x.bl n=some id->Bc.pv n=(β id).v/\∃ ob,Both st (wants (fun i=>ps[i]?) m.sh.tm m.sh.slots) id ob/\ob.isP=true
 rows:∀ n id ver,zacu x.rows n=some (id,ver)->Bc.pv n=(β id).v/\∃ T e l,Both st (wants (fun i=>ps[i]?) m.sh.tm m.sh.slots) id (.row T ver e l)
theorem zajm {ids:List Nat} {i:Nat} {ob:Ob K.u.U} (h:look (frzs K.u (look st) ids++st) i=some ob) (hl:ob.live=true):look st i=some ob:=by
 rw[zae7 rfl] at h;split at h
 ·simp only[xw] at h;obtain ⟨ob0,h1,rfl⟩:=h;rw[zamc hl];exact h1
 ·exact h
theorem zau0 {m:Mode K.u.U} {ps:List (PV K.u.U)} {args:List Value} {x:Came K.u.U} (h:come K.u m ps (look st)=some x) (hI:Inv K V B G (look st) β w) (hp:PsRel K G (look st) β ps args) :
  ∃ Bc βc,CameOk K V B G st β w m ps args x (Lift.settle K G (look st) β w (wants (fun i=>ps[i]?) m.sh.tm m.sh.slots)) Bc βc:=by
 unfold come at h;simp only[qb] at h;obtain ⟨env,henv,⟨σ',rn⟩,hm,h⟩:=h;split at h
 ·rename_i hc;obtain ⟨c1,c2,c3,c4,c5⟩:=hc;simp only[qb,qk] at h;obtain ⟨a,ha,b,hb,rfl⟩:=h;rw[zalw] at hm;simp only at c1 hb ha;obtain ⟨hI1,hc1⟩:=hI.settle (wants (fun i=>ps[i]?) m.sh.tm m.sh.slots);obtain ⟨β',hM,hT'⟩:=zam7 hm hI1 (vals:=fun i=>args[i]?) (fun s p hs=>by
   obtain ⟨v,v1,v2⟩:=hp.get s hs;exact ⟨v,v1,v2.over hc1⟩)
  have hnd:(σ'.st.map fun x=>(inRen env x.1).1).Nodup:=by
   have e:(σ'.st.map fun x=>(inRen env x.1).1)=(renSt (inRen env) σ'.st).map (·.1):=by simp[renSt]
   rw[e,c1]; exact zabe c3
  have hkd:(σ'.st.map (·.1)).Nodup:=by rw[hM.ids]; exact hM.nodup
  obtain ⟨hIr,mv⟩:=Inv.rebase hM.inv hnd hkd;have ob:=(zaj0 (r:=[]) hb).2;rw[c1,xj] at ob;obtain ⟨t1,t2⟩:=zajn (r:=b) ha;have hst:(m.sh.fill (a++b)).st=zadn m.sh.st m.sh.ids b:=by simp only[StSh.fill,t1]
  have htm:(m.sh.fill (a++b)).tm=(zadm m.sh.tm m.sh.slots (a++b)).1:=rfl;have hsl:=zahq (r:=b) ha;refine ⟨_,_,rfl,rfl,by rw[hst]; exact hIr.norm ob,?_,?_,fun n id hn=>?_,fun n id ver hn=>?_⟩
  ·refine PsRel.of_get ?_ (fun i p hip=>?_)
   ·have h1:((m.sh.fill (a++b)).tm.map (·.2)).length=m.sh.slots.length:=by rw[<-hsl,htm]; simp
    rw[h1,c2,List.length_range,hp.length]
   ·have hln:((m.sh.fill (a++b)).tm).length=ps.length:=by
     have:=congrArg List.length hsl;rw[List.length_map,<-htm] at this;rw[this,c2,List.length_range]
    have hlk:=zaee (k:=0) (l:=(m.sh.fill (a++b)).tm) (by rw[hln,htm,hsl,c2,<-List.range_eq_range']) hip;rw[Nat.zero_add,htm] at hlk;rw[hst];rcases t2 i p hlk with ⟨ty,cc,q,q1,q2,rfl,q4⟩|⟨q,q1,q2⟩
    ·obtain ⟨v,v1,v2⟩:=hp.get i q1;refine ⟨v,v1,?_⟩;simp only[PRel];exact (zaip hc1.g (hI.rowsSettled (wants (fun i=>ps[i]?) m.sh.tm m.sh.slots)) q4 q2 v2).1
    ·have e:∃ q0,look σ'.tm i=some q0/\q=renP (inRen env) q0:=by
      have:=zaa7 q1;simp only[renTm,List.mem_map,xa] at this;obtain ⟨⟨i',q0⟩,z1,rfl,rfl⟩:=this;have lk:∀ (l:List (Nat×PV K.u.U)),look (renTm (inRen env) l) i'=(look l i').map (renP (inRen env)):=by
       intro l;induction l with
       |nil=>rfl
       |cons y l ih=>
        obtain ⟨k,y⟩:=y;have e:renTm (inRen env) ((k,y)::l)=(k,renP (inRen env) y)::renTm (inRen env) l:=rfl;rw[e,zaaf,zaaf,ih];split<;>rfl
      rw[lk] at q1;simp only[xw] at q1;obtain ⟨q2,y1,y2⟩:=q1;exact ⟨q2,y1,y2.symm⟩
     obtain ⟨q0,z1,rfl⟩:=e;obtain ⟨v,v1,v2⟩:=hT' i q0 z1;refine ⟨v,v1,?_⟩;exact q2 _ _ _ _ ((v2.ren mv).over (zadg.comp ob))
  ·rintro bb ⟨id,o,h1,h2,h3⟩
   obtain ⟨g1,g2⟩:=hM.inv.own id o bb h1 h2 h3;refine ⟨g1,g2,?_⟩;have hid:id∈σ'.st.map (·.1):=xx (f:=Prod.fst) (zaa7 h1);rw[hM.ids] at hid;rcases xu.1 hid with hid|hid
   ·obtain ⟨e1,o0,o1,f1,f2,f3,f4,hl0⟩:=hM.obj id hid;rw[e1] at h3;have h3:o0.has (β id) bb:=by
     rcases h3 with h3|⟨h3,_⟩
     ·exact .inl h3
     ·rw[h1] at f3;cases f3;cases o<;>first|(cases h3; done)|(cases f4; done)
    refine ⟨id,o0,⟨zajm f1 hl0,f1⟩,hl0,h3,xu.2 (.inl ?_)⟩;simp only[zag9,List.mem_filterMap] at hid;obtain ⟨n,n1,n2⟩:=hid;exact List.mem_map.2 ⟨(n,id),zaa7 n2,rfl⟩
   ·obtain ⟨y,y1,rfl⟩:=List.mem_map.1 hid;rcases (hM.row y y1 (hM.opn rfl y y1)).2 with ⟨e1,e2⟩|⟨i,e1,e2,e3⟩
    ·rw[e2] at h3;rcases h3 with h3|⟨_,h3⟩
     ·simp[blkOf] at h3
     ·simp at h3
    ·rw[e2] at h3;have h3:(Ob.row y.ann.T y.ver y.ann.e y.l:Ob K.u.U).has (β i) bb:=by
      rcases h3 with h3|⟨_,h3⟩
      ·exact .inl h3
      ·exact .inr ⟨rfl,h3⟩
     refine ⟨i,_,⟨zajm e3 rfl,e3⟩,rfl,h3,xu.2 (.inr ?_)⟩;exact List.mem_map.2 ⟨(y.ann.id-zag8,i,y.ver),List.mem_filterMap.2 ⟨y,y1,by rw[e1]⟩,rfl⟩
  ·have hm0:=zaa7 hn;have hm1:=hm0;simp only[blsOf,List.mem_filterMap,xw,xa] at hm0;obtain ⟨n',n1,id',n2,rfl,rfl⟩:=hm0;have hid:id'∈(zag9 m.sh env).objs:=by
    simp only[zag9,List.mem_filterMap];exact ⟨n',n1,n2⟩
   obtain ⟨e1,o0,o1,f1,f2,f3,f4,hl0⟩:=hM.obj id' hid;have hb1:=qy.1 c4 _ hm1;simp only at hb1;have hb2:=qx hb1;refine ⟨?_,o0,⟨zajm f1 hl0,f1⟩,f2⟩;show (renβ (inRen env) β' (σ'.st.map (·.1)) n').v=(β id').v;rw[<-e1,<-(mv id' o1 f3).2,hb2]
  ·have:=zaiq hn;simp only[zaw5,List.mem_filterMap] at this;obtain ⟨y,y1,y2⟩:=this;cases hsrc:y.src with
   |none=>rw[hsrc] at y2; cases y2
   |some i=>
    rw[hsrc] at y2;simp only[qk,xa] at y2;obtain ⟨hn0,rfl,rfl⟩:=y2;rcases (hM.row y y1 (hM.opn rfl y y1)).2 with ⟨e1,_⟩|⟨i',e1,e2,e3⟩
    ·rw[hsrc] at e1; cases e1
    ·rw[hsrc] at e1; cases e1;refine ⟨?_,_,_,_,zajm e3 rfl,e3⟩;have hb2:=qx (qy.1 c5 _ y1);obtain ⟨⟨o,f3,_⟩,_⟩:=hM.row y y1 (hM.opn rfl y y1);show (renβ (inRen env) β' (σ'.st.map (·.1)) n).v=(β i).v;rw[<-e2,<-(mv _ o f3).2,hb2,hn0]
 ·cases h
end
section
variable {K:Kit} {V:Env} {B:Base} {R:Type}
variable {G G1 Gb:Nat->Option Obj} {st stb:List (Nat×Ob K.u.U)} {β β':Nat->Gh} {w w':World} {c:PV K.u.U->Ups K.u.U->Option R} {r:R}
theorem Inv.merge {x:Came K.u.U} {Bc:Base} {β2:Nat->Gh} {G2 Gf:Nat->Option Obj} {τ:St K.u.U} {d:Nat} {fz:List (Nat×Ob K.u.U)} {p:PV K.u.U} {up:List (Nat×Ob K.u.U)}
  (hw0:Bc.w0=w) (hIb:Inv K V B Gb (look (fz++st)) β w) (hstn:∀ i,look st i=none->look (fz++st) i=none)
  (hown:∀ b,Bc.H b->(B.w0.heap.size<=b\/B.H b)/\∃ i ob,look (fz++st) i=some ob/\ob.live=true/\ob.has (β i) b/\i∈x.env.map (·.2)++x.rows.map (·.2.1))
  (hbl:∀ n id,look x.bl n=some id->Bc.pv n=(β id).v/\∃ ob,look (fz++st) id=some ob/\ob.isP=true)
  (hrows:∀ n id ver,zacu x.rows n=some (id,ver)->Bc.pv n=(β id).v/\∃ T e l,look (fz++st) id=some (.row T ver e l)/\look st id=some (.row T ver e l))
  (hw:went K.u x d (look st) τ fz=some (p,up)) (hI2:Inv K V Bc G2 (look τ.st) β2 w')
  (hgf:∀ k o,Gb k=some o->Gf k=some o) (hgok:∀ k o,Gf k=some o->w'.heap[k]? = some o)
  (hob:∀ n ob,look τ.st n=some ob->ObRel K Gf (look τ.st) β2 w' n ob)
  (hnone:∀ b,(w.heap.size<=b\/Bc.H b)->G2 b=none->Gf b=none)
  (hkeep:∀ b,b<w.heap.size->¬ Bc.H b->Gf b=Gb b) :
  p=renP (zacm K.u x d) (resOf τ.tm)/\∃ β'',Inv K V B Gf (look (up++st)) β'' w'/\Comp K Gb Gf (look (fz++st)) β (look (up++st)) β''/\∀ q v,PRel K Gf (look τ.st) β2 q v->PRel K Gf (look (up++st)) β'' (renP (zacm K.u x d) q) v:=by
 unfold went at hw;split at hw
 ·rename_i hc;obtain ⟨d1,d2,d3,d4,d5⟩:=hc;simp only[qk,xa] at hw;obtain ⟨rfl,rfl⟩:=hw;refine ⟨rfl,?_⟩;generalize hψ:zacm K.u x d=ψ at *;have hnd:(τ.st.map fun x=>(ψ x.1).1).Nodup:=zabe d1;have hkd:(τ.st.map (·.1)).Nodup:=zabe d2;have hnd':((τ.st.map (·.1)).map fun n=>(ψ n).1).Nodup:=by rw[List.map_map]; exact hnd
  generalize hX:x.env.map (·.2)++x.rows.map (·.2.1)=X at *;have hstN:renSt ψ τ.st++(deads K.u.U X++fz)++st=renSt ψ τ.st++(deads K.u.U X++(fz++st)):=by simp[qq]
  rw[hstN];generalize hsb:fz++st=sb at *
  -- the new objects
  have img:∀ n ob,look τ.st n=some ob->look (renSt ψ τ.st++(deads K.u.U X++sb)) (ψ n).1=some (renO ψ n ob):=fun n ob h=>by
   rw[zab6,zafu hnd h]; rfl
  have back:∀ i ob',look (renSt ψ τ.st) i=some ob'->∃ n ob,look τ.st n=some ob/\(ψ n).1=i/\ob'=renO ψ n ob:=fun i ob' h=>by
   obtain ⟨n,ob,h1,h2,h3⟩:=zafp h;exact ⟨n,ob,zadx hkd h1,h2,h3⟩
  have cases3:∀ i ob',look (renSt ψ τ.st++(deads K.u.U X++sb)) i=some ob'->(∃ n ob,look τ.st n=some ob/\(ψ n).1=i/\ob'=renO ψ n ob)\/(look (renSt ψ τ.st) i=none/\i∈X/\ob'=.dead)\/(look (renSt ψ τ.st) i=none/\i∉X/\look sb i=some ob'):=by
   intro i ob' h;rw[zab6] at h;cases hl:look (renSt ψ τ.st) i with
   |some o=>
    rw[hl] at h;simp at h;subst h;exact .inl (back i o hl)
   |none=>
    rw[hl] at h;simp only[Option.none_or] at h;rw[zafm] at h;split at h
    ·cases h; exact .inr (.inl ⟨rfl,by assumption,rfl⟩)
    ·exact .inr (.inr ⟨rfl,by assumption,h⟩)
  let β'':Nat->Gh:=fun i=>match look (renSt ψ τ.st) i with
   |some _=>renβ ψ β2 (τ.st.map (·.1)) i
   |none=>β i
  have bimg:∀ n ob,look τ.st n=some ob->β'' (ψ n).1=β2 n:=fun n ob h=>by
   show (match look (renSt ψ τ.st) (ψ n).1 with|some _=>_|none=>_)=_;rw[zafu hnd h];exact zah9 hnd' (xx (f:=Prod.fst) (zaa7 h))
  have both:∀ i,look (renSt ψ τ.st) i=none->β'' i=β i:=fun i h=>by
   show (match look (renSt ψ τ.st) i with|some _=>_|none=>_)=_;rw[h]
  have mv:∀ n ob,look τ.st n=some ob->look (renSt ψ τ.st++(deads K.u.U X++sb)) (ψ n).1=some (renO ψ n ob)/\β'' (ψ n).1=β2 n:=fun n ob h=>⟨img n ob h,bimg n ob h⟩
  -- what the numbers are
  have num:∀ n ob,look τ.st n=some ob->(ob.isP=true/\∃ id,look x.bl n=some id/\ψ n=(id,0)/\zaai<=n)\/(ob.isP=false/\∃ id ver,zacu x.rows n=some (id,ver)/\ψ n=(id,bif zab5 n then ver else ver+1))\/(ob.isP=false/\look sb (ψ n).1=none/\zab5 (ψ n).1=false):=by
   intro n ob h;have h4:=qy.1 d4 _ (zaa7 h);simp only[qd,beq_iff_eq,Bool.or_eq_true,Bool.not_eq_true'] at h4;obtain ⟨h4,h5⟩:=h4;have hpsi:ψ n=zacm K.u x d n:=by rw[hψ]
   cases hb:look x.bl n with
   |some id=>
    rw[hb] at h4;have hP:ob.isP=true:=h4.symm;refine .inl ⟨hP,id,rfl,by rw[hpsi]; simp only[zacm,hb],?_⟩;rcases h5 with h5|h5
    ·rw[hP] at h5; cases h5
    ·exact Nat.le_of_ble_eq_true h5
   |none=>
    rw[hb] at h4;have hP:ob.isP=false:=h4.symm;cases hr:zacu x.rows n with
    |some y=>
     obtain ⟨id,ver⟩:=y;exact .inr (.inl ⟨hP,id,ver,rfl,by rw[hpsi]; simp only[zacm,hb,hr]⟩)
    |none=>
     have hkn:zab5 n=false:=by
      cases hkk:zab5 n with
      |false=>rfl
      |true=>
       have h6:=qy.1 d5 _ (zaa7 h);simp only[zaho,hkk,qg,hr] at h6;cases h6
     refine .inr (.inr ⟨hP,?_,?_⟩);rotate_left
     ·have h6:=qy.1 d5 _ (zaa7 h);simp only[zaho,hkn,qf,hb,hr,Option.isSome_none,Bool.false_or,Bool.not_eq_true'] at h6;rw[hpsi]; exact h6
     have:n∈zai0 K.u x (τ.st.map (·.1)):=by
      simp only[zai0,List.mem_filter,qd,hb,hr];exact ⟨xx (f:=Prod.fst) (zaa7 h),rfl,rfl⟩
     have:=qy.1 d3 _ this;exact hstn _ (by simpa using this)
  have sizes:w.heap.size<=w'.heap.size:=by have:=hI2.size; rw[hw0] at this; exact this
  have low:∀ k,k<w.heap.size->¬ Bc.H k->w'.heap[k]? = w.heap[k]? := fun k hk hn=>by have:=hI2.low k (by rw[hw0]; exact hk) hn; rw[hw0] at this; exact this
  have notH:∀ k,k<B.w0.heap.size->¬ B.H k->¬ Bc.H k:=fun k hk hn hh=>by
   rcases (hown k hh).1 with h|h
   ·omega
   ·exact hn h
  have imgown:∀ n ob b,look τ.st n=some ob->ob.live=true->ob.has (β2 n) b->G2 b=none/\(w.heap.size<=b\/Bc.H b):=fun n ob b h1 h2 h3=>by
   have:=hI2.own n ob b h1 h2 h3;rw[hw0] at this;exact this
  -- other live ones
  have other:∀ i ob b,i∉X->look sb i=some ob->ob.live=true->ob.has (β i) b->b<w.heap.size/\¬ Bc.H b:=by
   intro i ob b hi h1 h2 h3;refine ⟨hIb.block_lt h1 h2 h3,fun hh=>?_⟩;obtain ⟨_,j,ob2,j1,j2,j3,j4⟩:=hown b hh;have:=hIb.inj i j ob ob2 b h1 j1 h2 j2 h3 j3;subst this;exact hi j4
  have hcomp:Comp K Gb Gf (look sb) β (look (renSt ψ τ.st++(deads K.u.U X++sb))) β'':=by
   refine ⟨hgf,fun i ob hi=>?_⟩;cases hl:look (renSt ψ τ.st) i with
   |some o'=>
    obtain ⟨n,o,h1,rfl,rfl⟩:=back i o' hl;refine ⟨_,img n o h1,?_⟩;rcases num n o h1 with ⟨hP,id,b1,b2,b3⟩|⟨hP,id,ver,b1,b2⟩|⟨hP,b1,_⟩
    ·obtain ⟨p1,o0,p2,p3⟩:=hbl n id b1;have e1:(ψ n).1=id:=by rw[b2]
     rw[e1] at hi;rw[hi] at p2;cases p2;refine ⟨fun _=>⟨p3,?_⟩,fun v _=>?_,fun ver x' _ hx=>?_⟩
     ·rw[bimg n o h1,hI2.pin n o b3 h1 hP,p1,e1]
     ·cases o<;>first|trivial|cases hP
     ·cases o<;>first|(cases hx; done)|(cases hP; done)
    ·obtain ⟨hpv,T,e,l,p1,p1s⟩:=hrows n id ver b1;have e1:(ψ n).1=id:=by rw[b2]
     cases hkk:zab5 n with
     |true=>
      rw[hkk,qg] at b2;have e2:(ψ n).2=ver:=by rw[b2]
      rw[e1] at hi;rw[hi] at p1;cases p1;have h6:=qy.1 d5 _ (zaa7 h1);simp only[zaho,hkk,qg,b1,p1s] at h6;have hlen:∀ (x':(e:Ty)×List (e.den K.u.U)),o.now 0=some x'->l.length=x'.2.length:=fun x' hx'=>by
       have hv:=hI2.pinr n o x' hkk h1 hx';obtain ⟨_,_,q2,_⟩:=hIb.obs id _ hi;have hs2:∃ a cap,(β id).v=.slice a l.length cap:=by
        rcases q2.2 with ⟨hv,hn⟩|⟨g,cap,cur,fz,hvv,_⟩
        ·exact ⟨none,0,by rw[hv,hn]⟩
        ·exact ⟨_,_,hvv⟩
       have hs3:∃ a cap,(β2 n).v=.slice a x'.2.length cap:=by
        have ho:=hI2.obs n _ h1;rcases zahk hx' with ⟨T',rfl⟩|rfl|⟨T',i',cs',rfl⟩
        ·obtain ⟨_,_,q2,_⟩:=ho;rcases q2.2 with ⟨hv,hn⟩|⟨g,cap,cur,fz,hvv,_⟩
         ·exact ⟨none,0,by rw[hv,hn]⟩
         ·exact ⟨_,_,hvv⟩
        ·have ho:TRel K.u _ ⟨.slc x'.1,x'.2⟩ (β2 n).v:=ho;rcases ho.slc_inv with ⟨z1,p,z2⟩|⟨b,off,cap,cur,T,fz,vals,z1,_⟩
         ·exact ⟨p,0,by rw[z1,z2]; rfl⟩
         ·exact ⟨_,_,z1⟩
        ·obtain ⟨_,_,_,_,_,_,_,_,_,_,_,_,_,_,q2,_⟩:=ho;rcases q2.2 with ⟨hv,hn⟩|⟨g,cap,cur,fz,hvv,_⟩
         ·exact ⟨none,0,by rw[hv,hn]⟩
         ·exact ⟨_,_,hvv⟩
       obtain ⟨a,cap,z1⟩:=hs2;obtain ⟨a',cap',z2⟩:=hs3;rw[hv,hpv,z1] at z2;simp only[Value.slice.injEq] at z2;exact z2.2.1
      have hval:∀ (x':(e:Ty)×List (e.den K.u.U)),o.now 0=some x'->(β'' (ψ n).1).v=(β id).v:=fun x' hx'=>by
       rw[bimg n o h1,hI2.pinr n o x' hkk h1 hx',hpv]
      rw[e1] at hval;refine ⟨(fun h=>by rw[zae3,hP] at h; cases h),fun v hv=>?_,fun u x' hm hx=>?_⟩
      ·cases o with
       |row T' v' e' l'=>simp only[renO,Ob.may] at hv ⊢; omega
       |frz v' e' l'=>simp only[renO,Ob.may] at hv ⊢; omega
       |opn T' v' e' l' i' cs'=>simp only[renO,Ob.may] at hv ⊢; omega
       |_=>trivial
      ·simp only[Ob.may] at hm;cases o with
       |row T' v' e' l'=>
        obtain ⟨rfl,rfl⟩:=zace hx;have hv0:v'=0:=by omega
        subst hv0;rw[e1];exact ⟨⟨e,l⟩,by rw[e2,Nat.add_zero]; exact zabc,qx h6,hlen _ zabc,hval _ zabc⟩
       |frz v' e' l'=>
        obtain ⟨rfl,rfl⟩:=zahu hx;have hv0:v'=0:=by omega
        subst hv0;rw[e1];exact ⟨⟨e,l⟩,by rw[e2,Nat.add_zero]; exact zabc,qx h6,hlen _ zalj,hval _ zalj⟩
       |opn T' v' e' l' i' cs'=>cases h6
       |_=>cases hx
     |false=>
     rw[hkk,qf] at b2;have e2:(ψ n).2=ver+1:=by rw[b2]
     rw[e1] at hi;rw[hi] at p1;cases p1;refine ⟨(fun h=>by rw[zae3,hP] at h; cases h),fun v hv=>?_,fun u x' hm hx=>?_⟩
     ·cases o with
      |row T' v' e' l'=>simp only[renO,Ob.may] at hv ⊢; omega
      |frz v' e' l'=>simp only[renO,Ob.may] at hv ⊢; omega
      |opn T' v' e' l' i' cs'=>simp only[renO,Ob.may] at hv ⊢; omega
      |_=>trivial
     ·cases o with
      |row T' v' e' l'=>obtain ⟨rfl,_⟩:=zace hx; simp only[Ob.may] at hm; omega
      |frz v' e' l'=>obtain ⟨rfl,_⟩:=zahu hx; simp only[Ob.may] at hm; omega
      |opn T' v' e' l' i' cs'=>obtain ⟨rfl,_⟩:=zahp hx; simp only[Ob.may] at hm; omega
      |_=>cases hx
    ·rw[hi] at b1; cases b1
   |none=>
    by_cases hx:i∈X
    ·exact ⟨.dead,by rw[zab6,hl,Option.none_or,zafm,if_pos hx],(fun h=>by cases h),(fun _ _=>trivial),(fun _ _ _ h=>by cases h)⟩
    ·refine ⟨ob,by rw[zab6,hl,Option.none_or,zafm,if_neg hx]; exact hi,?_,fun _ h=>h,?_⟩
     ·rw[both i hl]; exact fun h=>⟨h,rfl⟩
     ·rw[both i hl]; exact fun _ x' _ h=>⟨x',h,rfl,rfl,rfl⟩
  have hlow2:∀ k,k<B.w0.heap.size->¬ B.H k->w'.heap[k]? = w.heap[k]? := fun k hk hn=>low k (Nat.lt_of_lt_of_le hk hIb.size) (notH k hk hn)
  have hg:w.grownBy w none:=⟨rfl,rfl,rfl,qz _,fun _ _ _=>rfl⟩
  refine ⟨β'', ⟨hgok, fun i ob' hi => ?_, fun i ob' b hi hl hb => ?_, fun i j ob1 ob2 b hi hj hl1 hl2 hb1 hb2 => ?_, ?_, ?_, ?_, Nat.le_trans hIb.size sizes, fun k hk hn => (hlow2 k hk hn).trans (hIb.low k hk hn),
   fun k hk hn=>?_,hI2.env,hIb.n0,hIb.hh,fun i ob' hp hi hP=>?_,zad3 hcomp hIb.pinr fun i ob' x' hk hi hx'=>?_⟩,hcomp,fun q v hq=>hq.ren mv⟩
  ·rcases cases3 i ob' hi with ⟨n,ob,h1,rfl,rfl⟩|⟨_,_,rfl⟩|⟨h1,h2,h3⟩
   ·exact ObRel.ren mv h1 (hob n ob h1)
   ·trivial
   ·have:=(hIb.obs i ob' h3).over hcomp (both i h1) hg (fun _ _ _=>by simp);refine this.keep (fun hl b hb=>?_);rw[both i h1] at hb;obtain ⟨o1,o2⟩:=other i ob' b h2 h3 hl hb;exact low b o1 o2
  ·rcases cases3 i ob' hi with ⟨n,ob,h1,rfl,rfl⟩|⟨_,_,rfl⟩|⟨h1,h2,h3⟩
   ·rw[zafg] at hl;rw[bimg n ob h1,zaeb] at hb;obtain ⟨o1,o2⟩:=imgown n ob b h1 hl hb;refine ⟨hnone b o2 o1,?_⟩;rcases o2 with o2|o2
    ·exact .inl (Nat.le_trans hIb.size o2)
    ·exact (hown b o2).1
   ·cases hl
   ·rw[both i h1] at hb;obtain ⟨o1,o2⟩:=other i ob' b h2 h3 hl hb;obtain ⟨o3,o4⟩:=hIb.own i ob' b h3 hl hb;exact ⟨by rw[hkeep b o1 o2]; exact o3,o4⟩
  ·have key:∀ i ob' b,look (renSt ψ τ.st++(deads K.u.U X++sb)) i=some ob'->ob'.live=true->ob'.has (β'' i) b ->
     (∃ n ob,look τ.st n=some ob/\ob.live=true/\ob.has (β2 n) b/\(ψ n).1=i/\(w.heap.size<=b\/Bc.H b))\/(look sb i=some ob'/\ob'.has (β i) b/\b<w.heap.size/\¬ Bc.H b):=by
    intro i ob' b hi hl hb;rcases cases3 i ob' hi with ⟨n,ob,h1,rfl,rfl⟩|⟨_,_,rfl⟩|⟨h1,h2,h3⟩
    ·rw[zafg] at hl;rw[bimg n ob h1,zaeb] at hb;exact .inl ⟨n,ob,h1,hl,hb,rfl,(imgown n ob b h1 hl hb).2⟩
    ·cases hl
    ·rw[both i h1] at hb;obtain ⟨o1,o2⟩:=other i ob' b h2 h3 hl hb;exact .inr ⟨h3,hb,o1,o2⟩
   rcases key i ob1 b hi hl1 hb1 with ⟨n,o,a1,a2,a3,a4,a5⟩|⟨a1,a2,a3,a4⟩<;>rcases key j ob2 b hj hl2 hb2 with ⟨n',o',b1,b2,b3,b4,b5⟩|⟨b1,b2,b3,b4⟩
   ·have:=hI2.inj n n' o o' b a1 b1 a2 b2 a3 b3;subst this;rw[<-a4,b4]
   ·rcases a5 with h|h
    ·omega
    ·exact absurd h b4
   ·rcases b5 with h|h
    ·omega
    ·exact absurd h a4
   ·exact hIb.inj i j ob1 ob2 b a1 b1 hl1 hl2 a2 b2
  ·rw[hI2.os,hw0]; exact hIb.os
  ·rw[hI2.tape,hw0]; exact hIb.tape
  ·rw[hI2.output,hw0]; exact hIb.output
  ·rw[hkeep k (Nat.lt_of_lt_of_le hk hIb.size) (notH k hk hn)];exact hIb.gl k hk hn
  ·rcases cases3 i ob' hi with ⟨n,ob,h1,rfl,rfl⟩|⟨_,_,rfl⟩|⟨h1,h2,h3⟩
   ·rw[zae3] at hP;rw[bimg n ob h1];rcases num n ob h1 with ⟨_,id,b1,b2,b3⟩|⟨hP',_⟩|⟨hP',_,_⟩
    ·obtain ⟨p1,o0,p2,p3⟩:=hbl n id b1;rw[hI2.pin n ob b3 h1 hP,p1];have e1:(ψ n).1=id:=by rw[b2]
     rw[e1] at hp ⊢;exact hIb.pin id o0 hp p2 p3
    ·rw[hP] at hP'; cases hP'
    ·rw[hP] at hP'; cases hP'
   ·cases hP
   ·rw[both i h1];exact hIb.pin i ob' hp h3 hP
  ·rcases cases3 i ob' hi with ⟨n,ob,h1,rfl,rfl⟩|⟨_,_,rfl⟩|⟨h1,h2,h3⟩
   ·rcases num n ob h1 with ⟨hP,id,b1,b2,b3⟩|⟨hP,id,ver,b1,b2⟩|⟨hP,_,b1⟩
    ·obtain ⟨_,o0,p2,_⟩:=hbl n id b1;rw[show (ψ n).1=id by rw[b2]];exact ⟨o0,p2⟩
    ·obtain ⟨_,T,e,l,p1,_⟩:=hrows n id ver b1;rw[show (ψ n).1=id by rw[b2]];exact ⟨_,p1⟩
    ·rw[b1] at hk; cases hk
   ·cases hx'
   ·exact ⟨ob',h3⟩
 ·cases hw
theorem zasq {τ:St K.u.U} (h:zaj8 K.u τ=true):(∀ n ob,look τ.st n=some ob->zaj4 K.u ob=true)/\zab8 (τ.tm.map (·.2))=true:=by
 unfold zaj8 at h;simp only[qd] at h;refine ⟨fun n ob hn=>qy.1 h.2 _ (zaa7 hn),?_⟩;have:∀ (l:List (Nat×PV K.u.U)),(l.all fun x=>zacr x.2)=true->zab8 (l.map (·.2))=true:=by
  intro l;induction l with
  |nil=>intro _; rfl
  |cons a l ih=>intro h; simp only[xv,qd] at h; simp only[xn,zab8,qd]; exact ⟨h.1,ih h.2⟩
 exact this _ h.1
theorem zaox {G':Nat->Option Obj} {S':Nat->Option (Ob K.u.U)} {τ:St K.u.U} {v:Value} (h:ResPV K G' S' β (τ.tm.map (·.2)) v):PRel K G' S' β (resOf τ.tm) v:=by
 unfold resOf;split
 ·rename_i i p heq;rw[heq] at h;exact h
 ·rename_i hne;cases hl:τ.tm with
  |nil=>
   rw[hl] at h;obtain ⟨vs,rfl,h2⟩:=h;simp only[PRel];exact ⟨vs,rfl,h2⟩
  |cons a l=>
   cases l with
   |nil=>exact absurd hl (hne _ _)
   |cons b l=>
    rw[hl] at h;obtain ⟨vs,rfl,h2⟩:=h;simp only[PRel];exact ⟨vs,rfl,h2⟩
theorem ResPV.scalar {G G':Nat->Option Obj} {S':Nat->Option (Ob K.u.U)} {l:List (PV K.u.U)} {v:Value} (h:ResPV K G S' β l v) (hs:zab8 l=true):ResPV K G' S' β l v:=by
 cases l with
 |nil=>obtain ⟨vs,rfl,h2⟩:=h; exact ⟨vs,rfl,PsRel.scalar _ hs h2⟩
 |cons a l=>
  cases l with
  |nil=>simp only[zab8,qd] at hs; exact PRel.scalar _ hs.1 h
  |cons b l=>obtain ⟨vs,rfl,h2⟩:=h; exact ⟨vs,rfl,PsRel.scalar _ hs h2⟩
theorem zagt {f:FuncId} (hcal:zabo K.P f=true) {ps:List (PV K.u.U)} {d:Nat} {args:List Value} (hI:Inv K V B G (look st) β w) (hp:PsRel K G (look st) β ps args) {N NP:Value->World->Prop} (hN:Next K V B G st β c r N) {pc:PV K.u.U->Ups K.u.U->Option R} (hP:Next K V B G st β pc r NP) :
  ∀ {ms:List (Mode K.u.U)},(∀ m∈ms,zaad K V f m)->K.callMsP (look st) ps d c pc ms=some r->Calls K.P f args.toArray w fun e w'=>(∃ v,e=.returned v/\N v w')\/∃ v,e=.panicked [{ v:=v,recovered:=false }]/\NP v w'
 |[],_,h=>by simp[Kit.callMsP] at h
 |m::ms,hms,h=>by
  simp only[Kit.callMsP] at h;cases hpre:zad9 m.sh.tm ps with
  |false=>rw[hpre] at h; exact zagt hcal hI hp hN hP (fun m hm=>hms m (by simp[hm])) h
  |true=>
   rw[hpre] at h;simp only[qg,Tr.on_eq,qb] at h;obtain ⟨x,hx,⟨j,rs⟩,hj,o,ho,⟨p,up⟩,hw,h⟩:=h;simp only at hw h ho;obtain ⟨Bc,βc,hC⟩:=zau0 hx hI hp;obtain ⟨hI1,hc1⟩:=hI.settle (wants (fun i=>ps[i]?) m.sh.tm m.sh.slots);refine (hms m (by simp) x.ls j rs hj Bc _ βc w args o ho hC.w0 hC.inv hC.rel).mono fun e w' ⟨G2,β2,v,he,hI2,hr⟩=>?_
   suffices key:∃ p' up' G' β'',(bif o.isPan then pc p' up' else c p' up')=some r/\Inv K V B G' (look (up'++st)) β'' w'/\Comp K G G' (look st) β (look (up'++st)) β''/\PRel K G' (look (up'++st)) β'' p' v by
    obtain ⟨p',up',G',β'',k1,k2,k3,k4⟩:=key;cases hpn:o.isPan with
    |true=>
     rw[hpn,qg] at k1;exact .inr ⟨v,he.trans (zak1 hpn v),hP p' up' v w' G' β'' k1 k2 k3 k4⟩
    |false=>
     rw[hpn,qf] at k1;exact .inl ⟨v,he.trans (zago hpn v),hN p' up' v w' G' β'' k1 k2 k3 k4⟩
   have hG2:∀ k,k<w.heap.size->¬ Bc.H k->G2 k=Lift.settle K G (look st) β w (wants (fun i=>ps[i]?) m.sh.tm m.sh.slots) k:=fun k hk hn=>by
    have:=hI2.gl k (by rw[hC.w0]; exact hk) hn;rw[hC.g0] at this;exact this
   have hlow:∀ k,k<w.heap.size->¬ Bc.H k->w'.heap[k]? = w.heap[k]? := fun k hk hn=>by have:=hI2.low k (by rw[hC.w0]; exact hk) hn; rw[hC.w0] at this; exact this
   split at hw
   ·rename_i hs;obtain ⟨s1,s2⟩:=zasq hs;have hGH:∀ k o,G k=some o->¬ Bc.H k:=fun k o hk hh=>by
     have h1:=(hC.own k hh).1;rw[hc1.g k o hk] at h1;cases h1
    obtain ⟨rfl,β'',m1,m2,m3⟩:=Inv.merge (fz:=[]) (Gf:=G) hC.w0 (by simpa using hI) (fun _ h=>by simpa using h) (fun b hb=>by
      obtain ⟨_,h2,i,ob,h3,h4⟩:=hC.own b hb;exact ⟨h2,i,ob,by simpa using h3.1,h4⟩) (fun n id hn=>by
      obtain ⟨h1,ob,h2,h3⟩:=hC.bl n id hn;exact ⟨h1,ob,by simpa using h2.1,h3⟩) (fun n id ver hn=>by
      obtain ⟨h0,T,e,l,h1⟩:=hC.rows n id ver hn;exact ⟨h0,T,e,l,by simpa using h1.1,h1.1⟩) hw hI2 (fun _ _ h=>h) (fun k o hk=>by
      have h1:=hI.gok k o hk;rw[hlow k (Array.getElem?_eq_some_iff.1 h1).1 (hGH k o hk)];exact h1) (fun n ob hn=>(hI2.obs n ob hn).scalar (s1 n ob hn)) (fun b hb _=>by
      rcases hb with hb|hb
      ·exact hI.none_of_ge hb
      ·cases hk:G b with
       |none=>rfl
       |some o=>exact absurd hb (hGH b o hk)) (fun _ _ _=>rfl)
    exact ⟨_,up,G,β'',h,m1,by simpa using m2,m3 _ _ (zaox (hr.scalar s2))⟩
   ·obtain ⟨rfl,β'',m1,m2,m3⟩:=Inv.merge (fz:=frzs K.u (look st) (wants (fun i=>ps[i]?) m.sh.tm m.sh.slots)) (Gf:=G2) hC.w0 hI1 (fun i hi=>by rw[zae7 rfl,hi]; split<;>rfl) (fun b hb=>by
      obtain ⟨_,h2,i,ob,h3,h4⟩:=hC.own b hb;exact ⟨h2,i,ob,h3.2,h4⟩) (fun n id hn=>by
      obtain ⟨h1,ob,h2,h3⟩:=hC.bl n id hn;exact ⟨h1,ob,h2.2,h3⟩) (fun n id ver hn=>by
      obtain ⟨h0,T,e,l,h1⟩:=hC.rows n id ver hn;exact ⟨h0,T,e,l,h1.2,h1.1⟩) hw hI2 (fun k o hk=>by
      have h1:=hI1.gok k o hk;rw[hG2 k (Array.getElem?_eq_some_iff.1 h1).1 (fun hh=>by rw[(hC.own k hh).1] at hk; cases hk)];exact hk) hI2.gok (fun n ob hn=>hI2.obs n ob hn) (fun b hb h=>h) hG2
    exact ⟨_,up,G2,β'',h,m1,hc1.trans m2,m3 _ _ (zaox hr)⟩
theorem zarx {S : Nat -> Option (Ob K.u.U)} {ps : List (PV K.u.U)} {d : Nat} : ∀ {ms : List (Mode K.u.U)}, K.callMs S ps d c ms = some r -> K.callMsP S ps d c (fun _ _ => none) ms = some r
 |[],h=>by simp[Kit.callMs] at h
 |m::ms,h=>by
  simp only[Kit.callMs] at h;simp only[Kit.callMsP];cases hpre:zad9 m.sh.tm ps with
  |false=>rw[hpre] at h; exact zarx h
  |true=>
   rw[hpre] at h;simp only[qg,Tr.on_eq,qb] at h ⊢;obtain ⟨x,hx,jr,hj,o,ho,h⟩:=h;cases hpn:o.isPan with
   |true=>rw[hpn] at h; cases h
   |false=>
    rw[hpn,qf] at h;simp only[qb] at h;obtain ⟨y,hy,h⟩:=h;exact ⟨x,hx,jr,hj,o,ho,y,hy,by rw[hpn]; exact h⟩
theorem zarj {f:FuncId} (hcal:zabo K.P f=true) {ps:List (PV K.u.U)} {d:Nat} {args:List Value} (hI:Inv K V B G (look st) β w) (hp:PsRel K G (look st) β ps args) {N:Value->World->Prop} (hN:Next K V B G st β c r N)
  {ms:List (Mode K.u.U)} (hms:∀ m∈ms,zaad K V f m) (h:K.callMs (look st) ps d c ms=some r):Calls K.P f args.toArray w fun e w'=>∃ v,e=.returned v/\N v w':=
 (zagt hcal hI hp hN (NP:=fun _ _=>False) (pc:=fun _ _=>none) (fun _ _ _ _ _ _ h=>by cases h) hms (zarx h)).mono fun _ _ h=>by
  rcases h with h|⟨_,_,h⟩
  ·exact h
  ·exact h.elim
theorem zame (hK:KitOk K V) (hI:Inv K V B G (look st) β w) {f:FuncId} {ps:List (PV K.u.U)} {d:Option Nat} {args:List Value} (h:K.callF (look st) f ps d c=some r) (hp:PsRel K G (look st) β ps args)
  {N:Value->World->Prop} (hN:Next K V B G st β c r N):zabo K.P f=true/\Calls K.P f args.toArray w fun e w'=>∃ v,e=.returned v/\N v w':=by
 have key:∀ d,K.callMs (look st) ps d c (K.modes f)=some r->zabo K.P f=true/\Calls K.P f args.toArray w fun e w'=>∃ v,e=.returned v/\N v w':=by
  intro d h;have hcal:zabo K.P f=true:=by
   cases hm:K.modes f with
   |nil=>rw[hm] at h; simp[Kit.callMs] at h
   |cons m ms=>exact (hK.modes f m (by rw[hm]; simp)).1
  exact ⟨hcal,zarj hcal hI hp hN (fun m hm=>(hK.modes f m hm).2) h⟩
 cases d with
 |none=>exact key 999 h
 |some d=>exact key d h
theorem zaqk (hK:KitOk K V) (hI:Inv K V B G (look st) β w) {f:FuncId} {ps:List (PV K.u.U)} {d:Option Nat} {args:List Value} {pc:PV K.u.U->Ups K.u.U->Option R} (h:K.callFP (look st) f ps d c pc=some r) (hp:PsRel K G (look st) β ps args)
  {N NP:Value->World->Prop} (hN:Next K V B G st β c r N) (hP:Next K V B G st β pc r NP):zabo K.P f=true/\Calls K.P f args.toArray w fun e w'=>(∃ v,e=.returned v/\N v w')\/∃ v,e=.panicked [{ v:=v,recovered:=false }]/\NP v w':=by
 have key:∀ d,K.callMsP (look st) ps d c pc (K.modes f)=some r->zabo K.P f=true/\Calls K.P f args.toArray w fun e w'=>(∃ v,e=.returned v/\N v w')\/∃ v,e=.panicked [{ v:=v,recovered:=false }]/\NP v w':=by
  intro d h;have hcal:zabo K.P f=true:=by
   cases hm:K.modes f with
   |nil=>rw[hm] at h; simp[Kit.callMsP] at h
   |cons m ms=>exact (hK.modes f m (by rw[hm]; simp)).1
  exact ⟨hcal,zagt hcal hI hp hN hP (fun m hm=>(hK.modes f m hm).2) h⟩
 cases d with
 |none=>exact key 999 h
 |some d=>exact key d h
end
section
variable {K:Kit} {V:Env} {B:Base} {R:Type}
variable {G G':Nat->Option Obj} {S:Nat->Option (Ob K.u.U)} {st:List (Nat×Ob K.u.U)} {β:Nat->Gh} {w w':World} {c:PV K.u.U->Ups K.u.U->Option R} {r:R}
variable {N:Value->World->Prop}
theorem zass (hI:Inv K V B G (look st) β w) {p:PV K.u.U} {n:Nat} (h:p.lenOf (look st)=some n) (hs:∀ s,p≠.t ⟨.str,s⟩) {x:Value} (hx:PRel K G (look st) β p x):∃ a cap,x=.slice a n cap:=by
 unfold PV.lenOf at h;split at h
 ·exact absurd rfl (hs _)
 ·simp at h;subst h;simp only[PRel] at hx;rcases hx.slc_inv with ⟨rfl,p,rfl⟩|⟨b,off,cap,_,_,_,_,rfl,_⟩
  ·exact ⟨p,0,rfl⟩
  ·exact ⟨_,_,rfl⟩
 ·simp at h;subst h;simp only[PRel] at hx;exact ⟨none,0,hx.1⟩
 ·rename_i id ver;simp only[xw,qb] at h;obtain ⟨x0,⟨ob,h1,h2⟩,rfl⟩:=h;simp only[PRel] at hx;obtain ⟨_,ob',h3,_,h4⟩:=hx;rw[h1] at h3;cases h3;rw[h4 _ h2];have hc:=zaj5 hI h1 h2;rcases hc with ⟨hv,p,hn⟩|⟨g,off,cap,hv,_⟩
  ·rw[hv]; exact ⟨p,0,hn⟩
  ·exact ⟨_,_,hv⟩
 ·rename_i id ver i;simp only[xw,qb] at h;obtain ⟨x0,⟨ob,h1,h2⟩,rfl⟩:=h;simp only[PRel] at hx;obtain ⟨_,ob',h3,_,h4⟩:=hx;rw[h1] at h3;cases h3;obtain ⟨_,b,o,n,cap,_,rfl⟩:=h4 _ h2;exact ⟨_,_,rfl⟩
 ·rename_i id m;split at h
  ·rename_i T cs hS;simp only[qk] at h;subst h;simp only[PRel] at hx;obtain ⟨_,ob,h3,h4⟩:=hx;rw[hS] at h3;cases h3;obtain ⟨b,_,hv⟩:=h4 rfl;exact ⟨_,_,hv⟩
  ·cases h
 ·cases h
theorem zaxa {α:Type} (a b:List α) (n:Nat):(a++b).take (a.length+n)=a++b.take n:=by
 induction a with
 |nil=>simp
 |cons x a ih=>rw[qe,show a.length+1+n=(a.length+n)+1 by omega,qp,List.take_succ_cons,ih]; rfl
theorem zav7 {α:Type} (a b:List α) (n:Nat):(a++b).drop (a.length+n)=b.drop n:=by
 induction a with
 |nil=>simp
 |cons x a ih=>rw[qe,show a.length+1+n=(a.length+n)+1 by omega,qp,List.drop_succ_cons,ih]
theorem zaps {P:Program} (w:World) (dT sT ty elem:TypeId) (g o dLen dCap:Nat) (a:Addr) (sLen sCap:Nat) (cur:Array Value) (t:TypeId) (cs:List Value) (es n:Nat) (fz:Nat×Nat)
  (hu:P.underlying dT=some (.slice elem)) (hs:(P.info? elem).map (·.size)=some es)
  (hg:w.heap[g]? = some (.cells cur t fz)) (hz:okFz fz cur.size) (hn:Nat.min sLen dLen=n) (hc:cs.length=n*es)
  (hsrc:∀ j v,cs[j]? = some v->w.cell? (a.add j)=some v) (hfit:o+cs.length<=cur.size) (h1:∀ v∈cs,v.oneCell'=true) :
  (Builtin.copy_ #[dT,sT] ty #[.slice (some ⟨g,o,none⟩) dLen dCap,.slice (some a) sLen sCap]).run P w =
   .ok (goInt n) (w.setRow g (cur.toList.take o++cs++cur.toList.drop (o+cs.length)).toArray):=by
 have hl:=run_loadCells_list (P:=P) w a cs hsrc;have hst:=zacg P g o t fz cs 0 cur w hg hz (by simpa using hfit) h1;rw[hc] at hl;cases hq:P.info? elem with
 |none=>simp[hq] at hs
 |some i=>
  have hi:i.size=es:=by simpa [hq] using hs
  simp[Builtin.copy_,run_underlying hu,Builtin.lenOf,Builtin.firstCells,Go.sizeOf,Go.typeInfo,hq,hi,hn,hl,hst]
theorem zaoc {P : Program} (w : World) (dT sT ty elem : TypeId) (d a : Option Addr) (dLen dCap sLen sCap : Nat) (es : Nat) (hu : P.underlying dT = some (.slice elem)) (hs : (P.info? elem).map (·.size) = some es) (hn : Nat.min sLen dLen = 0) :
  (Builtin.copy_ #[dT,sT] ty #[.slice d dLen dCap,.slice a sLen sCap]).run P w=.ok (goInt 0) w:=by
 cases hq:P.info? elem with
 |none=>simp[hq] at hs
 |some i=>
  have hl:∀ (x:Addr),(loadCells x 0).run P w=.ok #[] w:=fun x=>by simpa using run_loadCells_list (P:=P) w x [] (by simp)
  cases d<;>cases a<;>simp[Builtin.copy_,run_underlying hu,Builtin.lenOf,Builtin.firstCells,Go.sizeOf,Go.typeInfo,hq,hn,storeCells,hl]
theorem zaq8 {S:Nat->Option (Ob K.u.U)} {id:Nat} {T:TypeId} {v:Nat} {e:Ty} {l:List (e.den K.u.U)} (hp:K.u.plainTy e=true) (h:ObRel K G S β w id (.row T v e l)) :
  (β id).F=[]/\∃ vals,TsRel K.u G (l.map (TV.mk e)) vals/\w.ownsZ 0 T (K.u.size e) (β id).v l.length (vals.flatMap fun x=>x.cells.toList):=by
 obtain ⟨vals,h1,h2,_⟩:=h;obtain ⟨a,b⟩:=h1.toTsL hp;exact ⟨a,vals,b,h2⟩
theorem zalr {S:Nat->Option (Ob K.u.U)} {id:Nat} {T:TypeId} {v:Nat} {e:Ty} {l:List (e.den K.u.U)} (hF:(β id).F=[]) {vals:List Value} (h1:TsRel K.u G (l.map (TV.mk e)) vals)
  (h2:w.ownsZ 0 T (K.u.size e) (β id).v l.length (vals.flatMap fun x=>x.cells.toList)):ObRel K G S β w id (.row T v e l):=
 ⟨vals,by rw[hF]; exact .ofTsL h1,h2,fun b hb=>by rw[hF] at hb; cases hb⟩
theorem zauw (hN:Next K V B G st β c r N) (hI:Inv K V B G (look st) β w) {id ver:Nat} {T T' ty E E':TypeId} {e:Ty} {l m:List (e.den K.u.U)} {q:PV K.u.U} {x y:Value}
  (hu:K.P.underlying T=some (.slice E)) (hS:look st id=some (.row E' ver e l)) (hs1:(K.P.info? E).map (·.size)=some (K.u.size e)) (hx:PRel K G (look st) β (.oslc id ver) x)
  (hq:q.deepRow K.u (look st)=none) (hpl:K.u.plainTy e=true) (hm:q.asOwn K.u (look st) (.slc e)=some ⟨.slc e,m⟩) (hy:PRel K G (look st) β q y)
  (h:c (.t ⟨.int .i64,(min m.length l.length:Nat)⟩) [(id,.row E' ver e (m.take l.length++l.drop m.length))]=some r) :
  ∃ v w',(Builtin.copy_ #[T,T'] ty #[x,y]).run K.P w=.ok v w'/\N v w':=by
 simp only[PRel] at hx;obtain ⟨_,ob,h1,_,h2⟩:=hx;rw[hS] at h1;cases h1;rw[h2 _ zabc];obtain ⟨hF0,vals,hT,hown⟩:=zaq8 hpl (hI.obs id _ hS);obtain ⟨_,hyS⟩:=zaik hI hq hm hy;have hup:upd β id (β id) id=β id:=by simp[upd]
 have hlv:l.length=vals.length:=by simpa using hT.length
 have hsz:∀ (l:List (e.den K.u.U)) (vs:List Value),TsRel K.u G (l.map (TV.mk e)) vs->(vs.flatMap fun x=>x.cells.toList).length=vs.length*K.u.size e:=fun l vs h=>zaea vs h.sizes
 have ftake:∀ (n:Nat) (l:List (e.den K.u.U)) (vs:List Value),TsRel K.u G (l.map (TV.mk e)) vs->((vs.take n).flatMap fun x=>x.cells.toList)=(vs.flatMap fun x=>x.cells.toList).take (n*K.u.size e)/\((vs.drop n).flatMap fun x=>x.cells.toList)=(vs.flatMap fun x=>x.cells.toList).drop (n*K.u.size e):=by
  intro n l vs h;have hle:=h.sizes;clear h;induction vs generalizing n with
  |nil=>simp
  |cons v vs ih=>
   have hv:v.cells.toList.length=K.u.size e:=by simpa using hle v (by simp)
   cases n with
   |zero=>simp
   |succ n=>
    obtain ⟨i1,i2⟩:=ih n (fun x hx=>hle x (by simp[hx]));have e1:(n+1)*K.u.size e=v.cells.toList.length+n*K.u.size e:=by rw[hv,Nat.succ_mul]; omega
    rw[List.take_succ_cons,List.drop_succ_cons,List.flatMap_cons,List.flatMap_cons,i1,i2,e1];exact ⟨(zaxa _ _ _).symm,(zav7 _ _ _).symm⟩
 have hc:Comp K G G (look st) β (look ((id,.row E' ver e (m.take l.length++l.drop m.length))::st)) (upd β id (β id)):=
  Comp.cons (fun _ _ h=>h) (fun ob h0=>by
   rw[hS] at h0; cases h0;exact ⟨fun hp=>by simp[Ob.isP] at hp,fun _ h=>h,fun ver' x' hm he=>by obtain ⟨rfl,rfl⟩:=zace he; exact ⟨⟨e,l⟩,zabc,rfl,by simp; omega,rfl⟩⟩)
 -- nothing goes over
 have none_goes:min m.length l.length=0->∀ a b dl dc sl sc,(β id).v=.slice a dl dc->y=.slice b sl sc->dl=l.length->sl=m.length->∃ v w',(Builtin.copy_ #[T,T'] ty #[(β id).v,y]).run K.P w=.ok v w'/\N v w':=by
  intro h0 a b dl dc sl sc ea eb e1 e2;subst e1 e2;have hrun:=zaoc (P:=K.P) w T T' ty E a b l.length dc m.length sc (K.u.size e) hu hs1 h0;rw[ea,eb];refine ⟨_,w,hrun,?_⟩;have hl:m.take l.length++l.drop m.length=l:=by
   rcases Nat.eq_zero_or_pos m.length with hz|hz
   ·rw[qt hz]; simp
   ·have:l.length=0:=by omega
    rw[qt this]; simp
  rw[h0,hl] at h;rw[hl] at hc;refine hN _ [(id,_)] _ w G (upd β id (β id)) h (hI.one (row:=none) ⟨rfl,rfl,rfl,qz _,fun _ _ _=>rfl⟩ (fun k hk=>by cases hk) (fun _ b' hb'=>.inl ⟨_,hS,rfl,hb'⟩) hc (fun _=>⟨_,hS⟩) ?_) hc (by simp only[PRel,goInt]; exact .int _ _);exact zalr (by rw[hup]; exact hF0) hT (by rw[hup]; exact hown)
 rcases hown.2 with ⟨hv,hn⟩|⟨g,cap,cur,fz,hvv,hbase,hh,hncap,hcm,hcs,htake⟩
 ·rcases hyS with ⟨hm0,p,hy0⟩|⟨b,off,cap,valm,hy0,_⟩
  ·exact none_goes (by rw[hn]; omega) none p 0 0 0 0 hv hy0 hn.symm (by rw[hm0]; rfl)
  ·exact none_goes (by rw[hn]; omega) none _ 0 0 _ _ hv hy0 hn.symm rfl
 ·rcases hyS with ⟨hm0,p,hy0⟩|⟨b,off,capm,valm,hy0,hcapm,hTm,hcell,hlen,hone⟩
  ·exact none_goes (by rw[hm0]; simp) _ p _ _ 0 0 hvv hy0 rfl (by rw[hm0]; rfl)
  ·have hlm:m.length=valm.length:=by simpa using hTm.length
   have hfm:=hsz m valm hTm;have hfl:=hsz l vals hT;have hml:min m.length l.length*K.u.size e<=valm.length*K.u.size e:=xz _ (by omega);have hll:min m.length l.length*K.u.size e<=l.length*K.u.size e:=xz _ (by omega);have hlc:l.length*K.u.size e<=cap*K.u.size e:=xz _ hncap;have hcl:((valm.take l.length).flatMap fun x=>x.cells.toList).length=min m.length l.length*K.u.size e:=by
    rw[(ftake l.length m valm hTm).1,xy,hfm,<-hlm];rcases Nat.le_total m.length l.length with hle|hle
    ·have:m.length*K.u.size e<=l.length*K.u.size e:=xz _ hle;rw[Nat.min_eq_left hle,Nat.min_eq_right this]
    ·have:l.length*K.u.size e<=m.length*K.u.size e:=xz _ hle;rw[Nat.min_eq_right hle,Nat.min_eq_left this]
   have hrun := zaps (P := K.P) w T T' ty E g 0 l.length cap ⟨b, off, none⟩ m.length capm cur E' ((valm.take l.length).flatMap fun x => x.cells.toList) (K.u.size e) (min m.length l.length) fz hu hs1 hh hbase rfl hcl
    (fun j u hj=>by
     rw[zaca];refine hcell j u ?_;rw[(ftake l.length m valm hTm).1,List.getElem?_take] at hj;split at hj
     ·exact hj
     ·cases hj)
    (by rw[hcl]; omega)
    (fun u hu=>hone u (by rw[(ftake l.length m valm hTm).1] at hu; exact List.mem_of_mem_take hu))
   rw[hvv,hy0];refine ⟨_,_,hrun,?_⟩
   refine hN _ [(id, _)] _ _ G (upd β id (β id)) h (hI.one (row := some g) zad7 (fun k hk => ⟨_, hS, rfl, .inl (by cases hk; simp [hvv, blkOf])⟩)
    (fun _ b' hb'=>.inl ⟨_,hS,rfl,hb'⟩) hc (fun _=>⟨_,hS⟩) ?_) hc (by simp only[PRel,goInt]; exact .int _ _)
   refine zalr (vals:=valm.take l.length++vals.drop m.length) (by rw[hup]; exact hF0) ?_ ?_
   ·rw[List.map_append,List.map_take,List.map_drop];exact (hTm.take _).append (hT.drop _)
   ·have hnl:(m.take l.length++l.drop m.length).length=l.length:=by simp; omega
    have hmul:m.length*K.u.size e=min m.length l.length*K.u.size e\/l.length*K.u.size e<=m.length*K.u.size e:=by
     rcases Nat.le_total m.length l.length with hle|hle
     ·left; rw[Nat.min_eq_left hle]
     ·right; exact xz _ hle
    rw[hnl,List.flatMap_append,(ftake m.length l vals hT).2];have hvl:vals.length*K.u.size e=l.length*K.u.size e:=by rw[hlv]
    have hminl:l.length<=m.length->min m.length l.length*K.u.size e=l.length*K.u.size e:=fun hle=>by rw[Nat.min_eq_right hle]
    have hsum:min m.length l.length*K.u.size e+(l.length*K.u.size e-m.length*K.u.size e)=l.length*K.u.size e:=by
     rcases Nat.le_total m.length l.length with hle|hle
     ·have:m.length*K.u.size e<=l.length*K.u.size e:=xz _ hle;rw[Nat.min_eq_left hle]; omega
     ·have:=hminl hle;have:l.length*K.u.size e<=m.length*K.u.size e:=xz _ hle;omega
    refine ⟨by rw[qc,hcl,List.length_drop,hfl,hvl]; exact hsum,.inr ⟨g,cap,_,fz,by simp[upd,hvv],?_,setRow_heap w g cur _ E' fz hh,hncap,hcm,?_,?_⟩⟩
    ·have ee:(cur.toList.take 0++((valm.take l.length).flatMap fun x=>x.cells.toList)++cur.toList.drop (0+((valm.take l.length).flatMap fun x=>x.cells.toList).length)).toArray.size=cur.size:=by
      simp only[List.size_toArray,qc,xy,List.length_drop,xm,hcl];omega
     rw[ee]; exact hbase
    ·simp only[List.size_toArray,qc,xy,List.length_drop,xm,hcl];omega
    ·simp only[List.take_zero,qu,Nat.zero_add];rw[List.take_append,hcl,List.take_of_length_le (by rw[hcl]; exact hll)];congr 1;rw[<-htake,List.drop_take];rcases Nat.le_total m.length l.length with hle|hle
     ·rw[Nat.min_eq_left hle]
     ·have:l.length*K.u.size e<=m.length*K.u.size e:=xz _ hle;rw[hminl hle,Nat.sub_self,show l.length*K.u.size e-m.length*K.u.size e=0 by omega];simp
theorem zawq (hN:Next K V B G st β c r N) (hI:Inv K V B G (look st) β w) {d:Nat} {b:Builtin} {argT:Array TypeId} {ty:TypeId} {cs:Array Bool} {ps:List (PV K.u.U)} {args:List Value} (h:K.blt d (look st) b argT ps c=some r)
  (hp:PsRel K G (look st) β ps args):∃ v w',(builtin b argT ty cs args.toArray).run K.P w=.ok (.value v) w'/\N v w':=by
 unfold Kit.blt at h;split at h
 ·rename_i p;simp only[PsRel] at hp;obtain ⟨x,_,rfl,hx,rfl⟩:=hp;cases hT:argT[0]? with
  |none=>simp[hT] at h
  |some T=>
   simp only[hT,qa] at h;split at h
   ·rename_i hu;split at h
    ·rename_i s;simp only[PRel] at hx;rw[hx.str_inv];refine ⟨_,w,?_,hN.plain hI h (by simp only[PRel]; exact .int _ _)⟩;have hs:(⟨s.toArray⟩:ByteArray).size=s.length:=by simp[ByteArray.size]
     simp only[builtin,Builtin.len_,hT,List.getElem?_toArray,List.getElem?_cons_zero,Sem.run_bind,run_underlying hu,Result.andThen_ok,Sem.run_pure,goInt,hs]
    ·cases h
   ·rename_i E hu;split at h
    ·cases h
    ·rename_i hne;simp only[qb] at h;obtain ⟨n,hn,h⟩:=h;obtain ⟨a,cap,rfl⟩:=zass hI hn (fun s=>hne s) hx;refine ⟨_,w,?_,hN.plain hI h (by simp only[PRel]; exact .int _ _)⟩;simp[builtin,Builtin.len_,hT,run_underlying hu,goInt]
   ·cases h
 ·rename_i k x k' y;simp only[PsRel] at hp;obtain ⟨u,_,rfl,hu,v,_,rfl,hv,rfl⟩:=hp;simp only[PRel] at hu hv;rw[hu.int_inv,hv.int_inv];refine ⟨_,w,?_,hN.plain hI h (by simp only[PRel]; exact .int _ _)⟩;simp[builtin,run_min_int2]
 ·rename_i k x k' y;simp only[PsRel] at hp;obtain ⟨u,_,rfl,hu,v,_,rfl,hv,rfl⟩:=hp;simp only[PRel] at hu hv;rw[hu.int_inv,hv.int_inv];refine ⟨_,w,?_,hN.plain hI h (by simp only[PRel]; exact .int _ _)⟩;simp[builtin,run_max_int2]
 ·rename_i p s;simp only[PsRel] at hp;obtain ⟨u,_,rfl,hu,v,_,rfl,hv,rfl⟩:=hp;simp only[PRel] at hv;rw[hv.str_inv];obtain ⟨v',w',h1,h2⟩:=zap2 (ty:=ty) hN hI h hu;exact ⟨v',w',by simp[builtin,h1],h2⟩
 ·rename_i p q _;simp only[PsRel] at hp;obtain ⟨u,_,rfl,hu,v,_,rfl,hv,rfl⟩:=hp;obtain ⟨v',w',h1,h2⟩:=zaqd (ty:=ty) hN hI h hu hv;exact ⟨v',w',by simp[builtin,h1],h2⟩
 ·rename_i id ver q;simp only[PsRel] at hp;obtain ⟨u,_,rfl,hu,v,_,rfl,hv,rfl⟩:=hp;split at h
  ·rename_i T T' hargs;have harg:argT=#[T,T']:=by rw[<-Array.toArray_toList (xs:=argT),hargs]
   subst harg;split at h
   ·rename_i E E' vv e l hun hS;split at h
    ·rename_i e' m hm;split at h
     ·rename_i he;subst he;split at h
      ·rename_i hs;obtain ⟨hq,hpl,rfl,hs1⟩:=hs;obtain ⟨v',w',h1,h2⟩:=zauw (ty:=ty) (T':=T') hN hI hun hS hs1 hu hq hpl hm hv h;exact ⟨v',w',by simp[builtin,h1],h2⟩
      ·cases h
     ·cases h
    ·cases h
   ·cases h
  ·cases h
 ·cases h
theorem zav6 {z:Value} {n es:Nat} (hz:z.cells.size=es) (h0:0<es):(madeCells z.cells (n*es)).toList=(List.replicate n z).flatMap fun x=>x.cells.toList:=by
 apply List.ext_getElem?;intro j;rw[Go.Great.flat_get h0 _ (fun v hv=>by rw[List.eq_of_mem_replicate hv]; exact hz)];by_cases hj:j<n*es
 ·have h1:j / es<n:=(Nat.div_lt_iff_lt_mul h0).2 hj;have h2:j % es<z.cells.size:=by rw[hz]; exact Nat.mod_lt _ h0
  simp[madeCells,hj,h1,hz,getElem!_pos z.cells (j % es) h2,getElem?_pos z.cells (j % es) h2]
 ·have h1:n<=j / es:=(Nat.le_div_iff_mul_le h0).2 (by omega);simp[madeCells,hj,h1]
theorem zan2 {e:Ty} {E:TypeId} {z:e.den K.u.U} (h:K.zero e E=some z):∃ i zv,K.P.info? E=some i/\i.zero=some zv/\TRel K.u G ⟨e,z⟩ zv:=by
 unfold Kit.zero at h;cases hi:K.P.info? E with
 |none=>simp[hi] at h
 |some i=>
  cases hz:i.zero with
  |none=>simp[hi,hz] at h
  |some zv=>
   refine ⟨i,zv,rfl,hz,?_⟩;simp only[hi,hz,qa] at h;split at h
   ·split at h
    ·rename_i cs;simp only[qb] at h;obtain ⟨ps,h1,cs',h2,h3⟩:=h;obtain ⟨hr,_⟩:=zah0 (K:=K) (G:=G) (S:=fun _=>none) (β:=fun _=>Gh.of .nilFunc) h1;obtain ⟨hT,_⟩:=zac8 (G':=G) (fun t p c v hc hp=>zabx hc hp) h2 hr;rw[<-K.u.make_ok _ _ _ h3] at hT;have:=TRel.st (u:=K.u) (G:=G) _ z _ hT;simpa using this
    ·cases h
   ·simp only[qb] at h;obtain ⟨p,h1,c,h2,h3⟩:=h;have hr:=zaiv (K:=K) (G:=G) (S:=fun _=>none) (β:=fun _=>Gh.of .nilFunc) h1;obtain ⟨hT,_⟩:=zabx h2 hr;rw[zaht h3] at hT;exact hT
theorem zap0 (hN:Next K V B G st β c r N) (hI:Inv K V B G (look st) β w) {d:Option Nat} {src dst E:TypeId} {p:PV K.u.U} (hE:K.P.underlying dst=some (.slice E)) (h:K.toBytes d (look st) src E p c=some r)
  {x:Value} (hx:PRel K G (look st) β p x):∃ v w',(convert src dst x).run K.P w=.ok v w'/\N v w':=by
 unfold Kit.toBytes at h;split at h
 ·rename_i d s;split at h
  ·rename_i hd h8 hs;by_cases hb:Nat.blt d zaai=true/\s.length<=zabf/\s.length<=maxLen
   ·obtain ⟨hdp,hb⟩:=hb;simp only[hdp,hb,decide_true,qg,and_self,Bool.and_self] at h;simp only[PRel] at hx;rw[hx.str_inv];have hsz:(⟨s.toArray⟩:ByteArray).size=s.length:=by simp[ByteArray.size]
    refine ⟨_,_,Go.Lib.run_convert_string_bytes (P:=K.P) w src dst E ⟨s.toArray⟩ hs hE h8,?_⟩;refine zadu (e:=.int .u8) (E:=E) (l:=[]) (m:=ofStr s) (vals:=[]) (ids:=[]) (F0:=[]) hN hI .nil (World.ownsZ_nil _ _ _ _) (fun b hb=>by cases hb) (.inl ⟨hd,rfl,rfl,by simpa using hdp⟩) (by simp) (by simpa [deads] using h) _ _ _ [] (.ofTsL (zail s)) (fun b hb=>by cases hb) ?_ zapy (fun b hb=>?_)
    ·rw[zamn];have:=zaso (w:=w) (e:=E) (s:=⟨s.toArray⟩) (by rw[hsz]; exact hb.2);have hol:(ofStr s).length=s.length:=by simp[ofStr]
     simpa [hol,hsz,Uni.size] using this
    ·right;simp only[blkOf,qk] at hb;omega
   ·have:(Nat.blt d zaai&&decide (s.length<=zabf/\s.length<=maxLen))=false:=by
     cases hq:(Nat.blt d zaai&&decide (s.length<=zabf/\s.length<=maxLen)) with
     |false=>rfl
     |true=>simp only[qd,qj] at hq; exact absurd hq hb
    rw[this] at h; cases h
  ·cases h
 ·cases h
theorem zane (hN:Next K V B G st β c r N) (hI:Inv K V B G (look st) β w) {T E:TypeId} {e:Ty} {i:TypeInfo} {d:Nat} {x y:Int} {z:e.den K.u.U} (hd:look st d=none) (hu:K.P.underlying T=some (.slice E)) (hi:K.P.info? E=some i)
  (hs:Nat.blt d zaai=true/\K.u.plainTy e=true/\i.size=K.u.size e/\0<i.size) (hz:K.zero e E=some z)
  (h:(bif decide (0<=x)&&(decide (x=y)&&decide (y.toNat*i.bytes<=zabf/\y.toNat<=maxLen)) then c (.oslc d 0) [(d,.row E 0 e (List.replicate x.toNat z))] else none)=some r) :
  ∃ v w',(Instr.makeSlice T (.int .i64 x) (.int .i64 y)).run K.P w=.ok v w'/\N v w':=by
 obtain ⟨hdp,_,hs⟩:=hs;by_cases hc:0<=x/\x=y/\y.toNat*i.bytes<=zabf/\y.toNat<=maxLen
 ·obtain ⟨h0,rfl,h2,h3⟩:=hc;simp only[h0,h2,h3,decide_true,Bool.and_self,qg,and_self] at h;obtain ⟨i',zv,hi',hzv,hT⟩:=zan2 (G:=G) hz;rw[hi] at hi';cases hi';have hx:x=(x.toNat:Int):=by omega
  have hby:(i.bytes:Int)*x<=281474976710656:=by
   have:i.bytes*x.toNat<=281474976710656:=by rw[Nat.mul_comm]; simp[zabf] at h2; omega
   rw[hx];rw[<-Int.natCast_mul];omega
  have hrun:=run_make (P:=K.P) w T E i zv hu hi hzv .i64 .i64 x x h0 (Int.le_refl _) hby (by simp[maxLen] at h3; omega);refine ⟨_,_,hrun,?_⟩;have hsz:=hT.size;simp only at hsz;have:=zaqj hN hI (E:=E) (cs:=madeCells zv.cells (x.toNat*i.size)) (vals:=List.replicate x.toNat zv) hd hdp h (by
    rw[List.map_replicate];generalize x.toNat=n;induction n with
    |zero=>exact .nil
    |succ n ih=>exact .cons _ _ _ _ hT ih) (by rw[hs.1]; exact zav6 hsz (by rw[<-hs.1]; exact hs.2)) (by simpa using h3)
  simpa using this
 ·have:(decide (0<=x)&&(decide (x=y)&&decide (y.toNat*i.bytes<=zabf/\y.toNat<=maxLen)))=false:=by
   simp only[Bool.and_eq_false_iff,ya];omega
  rw[this] at h; cases h
theorem zaj1 {P:Program} {T E:TypeId} {n cap sz:Nat} {k k':IntKind} {a:Option Addr} (hu:P.underlying T=some (.slice E)) (hs:szT P E=some sz) (hc:n<=cap) :
  (Instr.sliceAt T (.slice a n cap) none (some (.int k n)) (some (.int k' n))).run P w=.ok (.slice (if n=0 then a else a.map (·.add (0*sz))) n n) w:=by
 have e1:(n:Int)<=(cap:Int):=by omega
 have hb:(Instr.sliceBounds true n cap none (some (.int k n)) (some (.int k' n))).run P w=.ok (0,n,n) w:=by
  simp[Instr.sliceBounds,Instr.sliceBound,asIntOf,hc]
 simp[Instr.sliceAt,Instr.slice,run_underlying hu,hb,zaby hs]
theorem zaut {P:Program} {T E:TypeId} {n cap sz a:Nat} {k k' k'':IntKind} {g:Addr} (hu:P.underlying T=some (.slice E)) (hs:szT P E=some sz) (hc:n<=cap) (ha:a<n) :
  (Instr.sliceAt T (.slice (some g) n cap) (some (.int k a)) (some (.int k' ((a:Int)+1))) (some (.int k'' ((a:Int)+1)))).run P w=.ok (.slice (some (g.add (a*sz))) 1 1) w:=by
 have hb:(Instr.sliceBounds true n cap (some (.int k a)) (some (.int k' ((a:Int)+1))) (some (.int k'' ((a:Int)+1)))).run P w=.ok (a,a+1,a+1) w:=by
  have e0:(0:Int)<=(a:Int):=by omega
  have e1:(0:Int)<=(a:Int)+1:=by omega
  have e2:(a:Int)+1<=(cap:Int):=by omega
  have e3:(a:Int)<=(a:Int)+1:=by omega
  have e4:((a:Int)+1).toNat=a+1:=by omega
  have e5:a+1<=cap:=by omega
  simp[Instr.sliceBounds,Instr.sliceBound,asIntOf,e0,e1,e2,e3,e4,e5]
 simp[Instr.sliceAt,Instr.slice,run_underlying hu,hb,zaby hs]
theorem zasy (hN:Next K V B G st β c r N) (hI:Inv K V B G (look st) β w) {T E:TypeId} {id ver:Nat} {e:Ty} {l:List (e.den K.u.U)} {a b d:Int} {k k' k'':IntKind} {x:Value} (hx:PRel K G (look st) β (.oslc id ver) x)
  (hS:(look st id).bind (·.now ver)=some ⟨e,l⟩) (hu:K.P.underlying T=some (.slice E)) (hs:szT K.P E=some (K.u.size e))
  (hh:(bif decide (0<=a)&&(decide (a<l.length)&&(decide (b=a+1)&&decide (d=a+1))) then c (.win id ver a.toNat) [] else none)=some r) :
  ∃ v,(Instr.sliceAt T x (some (.int k a)) (some (.int k' b)) (some (.int k'' d))).run K.P w=.ok v w/\N v w:=by
 by_cases hc:0<=a/\a<(l.length:Int)/\b=a+1/\d=a+1
 ·obtain ⟨c1,c2,rfl,rfl⟩:=hc;simp only[c1,c2,decide_true,Bool.and_self,qg] at hh;simp only[PRel] at hx;obtain ⟨_,ob,h3,hm,h4⟩:=hx;rw[h3,qa] at hS;have hv:=h4 _ hS;rcases zaj5 hI h3 hS with ⟨hn,_⟩|⟨g,off0,cap,hvv,hcap⟩
  ·simp only at hn; rw[hn] at c2; simp at c2; omega
  ·simp only at hvv hcap;rw[hv,hvv];have e1:a=((a.toNat:Nat):Int):=by omega
   have hr:=zaut (P:=K.P) (w:=w) (n:=l.length) (cap:=cap) (a:=a.toNat) (k:=k) (k':=k') (k'':=k'') (g:=⟨g,off0,none⟩) hu hs hcap (by omega);rw[<-e1] at hr;refine ⟨_,hr,hN.plain hI hh ?_⟩;simp only[PRel];refine ⟨rfl,_,h3,hm,fun x' he=>?_⟩;rw[hS] at he; cases he;exact ⟨by simp only; omega,g,off0,_,cap,hvv,by rw[zaca]⟩
 ·have:(decide (0<=a)&&(decide (a<(l.length:Int))&&(decide (b=a+1)&&decide (d=a+1))))=false:=by
   cases hq:(decide (0<=a)&&(decide (a<(l.length:Int))&&(decide (b=a+1)&&decide (d=a+1)))) with
   |false=>rfl
   |true=>simp only[qd,qj] at hq; exact absurd hq hc
  rw[this] at hh; cases hh
theorem zark (hN:Next K V B G st β c r N) (hI:Inv K V B G (look st) β w) {T:TypeId} {p lo h m:PV K.u.U} (hh:K.window (look st) T p lo h m c=some r)
  {x u y z:Value} (hx:PRel K G (look st) β p x) (hu':PRel K G (look st) β lo u) (hy:PRel K G (look st) β h y) (hz:PRel K G (look st) β m z) :
  ∃ v,(Instr.sliceAt T x (some u) (some y) (some z)).run K.P w=.ok v w/\N v w:=by
 unfold Kit.window at hh;split at hh
 ·rename_i k a k' b k'' d;simp only[PRel] at hu' hy hz;rw[hu'.int_inv,hy.int_inv,hz.int_inv];split at hh
  ·rename_i E hu;split at hh
   ·rename_i id ver;split at hh
    ·rename_i e l hS;split at hh
     ·rename_i hs;exact zasy hN hI hx hS hu hs hh
     ·cases hh
    ·cases hh
   ·cases hh
  ·cases hh
 ·cases hh
theorem zauf (hN:Next K V B G st β c r N) (hI:Inv K V B G (look st) β w) {T:TypeId} {p h m:PV K.u.U} (hh:K.clip (look st) T p h m c=some r)
  {x y z:Value} (hx:PRel K G (look st) β p x) (hy:PRel K G (look st) β h y) (hz:PRel K G (look st) β m z) :
  ∃ v,(Instr.sliceAt T x none (some y) (some z)).run K.P w=.ok v w/\N v w:=by
 unfold Kit.clip at hh;split at hh
 ·rename_i k a k' b;simp only[PRel] at hy hz;rw[hy.int_inv,hz.int_inv];split at hh
  ·rename_i E hu;split at hh
   ·rename_i e s;simp only[qb] at hh;obtain ⟨n,hn,hh⟩:=hh;split at hh
    ·rename_i hne;subst hne;by_cases hc:a=(s.length:Int)/\b=(s.length:Int)
     ·obtain ⟨rfl,rfl⟩:=hc;simp only[decide_true,Bool.and_self,qg] at hh;simp only[PRel] at hx;rcases hx.slc_inv with ⟨rfl,q,rfl⟩|⟨b,off,cap,cur,TT,fz,vals,rfl,hcap,hG,hT,hL⟩
      ·have:=zaj1 (P:=K.P) (w:=w) (n:=0) (cap:=0) (k:=k) (k':=k') (a:=q) hu hn (qz _);rw[if_pos rfl] at this;exact ⟨_,this,hN.plain hI hh (by simp only[PRel]; exact .nil e q)⟩
      ·have:=zaj1 (P:=K.P) (w:=w) (n:=s.length) (cap:=cap) (k:=k) (k':=k') (a:=some ⟨b,off,none⟩) hu hn hcap;refine ⟨_,this,hN.plain hI hh ?_⟩;simp only[PRel];have ea:(if s.length=0 then some (⟨b,off,none⟩:Addr) else (some (⟨b,off,none⟩:Addr)).map (·.add (0*K.u.size e)))=some ⟨b,off,none⟩:=by
        split
        ·rfl
        ·simp[zaca]
       rw[ea];exact .slc e s b off s.length cur TT fz vals (qz _) hG hT hL
     ·have:(decide (a=(s.length:Int))&&decide (b=(s.length:Int)))=false:=by
       rw[Bool.and_eq_false_iff,ya,ya]; exact Classical.not_and_iff_not_or_not.1 hc
      rw[this] at hh; cases hh
    ·cases hh
   ·rename_i id ver;split at hh
    ·rename_i E' v e l hS;split at hh
     ·rename_i hcc;obtain ⟨rfl,rfl,hn⟩:=hcc;by_cases hc:a=(l.length:Int)/\b=(l.length:Int)
      ·obtain ⟨rfl,rfl⟩:=hc;simp only[decide_true,Bool.and_self,qg] at hh;simp only[PRel] at hx;obtain ⟨_,ob,h1,_,h2⟩:=hx;rw[hS] at h1;cases h1;rw[h2 _ zabc];obtain ⟨vals,hT,hown,hap⟩:=hI.obs id _ hS;have main:=zadu (m:=[]) (ids:=[]) hN hI hT hown hap (.inr ⟨_,_,_,hS,Nat.lt_succ_self _,rfl,rfl⟩) (by simp) (by rw[xj]; exact hh);rcases hown.2 with ⟨hv,hn0⟩|⟨g,cap,cur,fz,hvv,hbase,hg,hncap,hcm,hcs,htake⟩
       ·have hr:=zaj1 (P:=K.P) (w:=w) (n:=0) (cap:=0) (k:=k) (k':=k') (a:=none) hu hn (qz _);rw[if_pos rfl] at hr;rw[hv,hn0];refine ⟨_,hr,main _ w [] [] (by simpa using HsRel.nil) (fun b hb=>by cases hb) (by simpa [hv,hn0] using hown) ⟨rfl,rfl,rfl,qz _,fun _ _ _=>rfl⟩ (fun b hb=>by cases hb)⟩
       ·have hr:=zaj1 (P:=K.P) (w:=w) (n:=l.length) (cap:=cap) (k:=k) (k':=k') (a:=some ⟨g,0,none⟩) hu hn hncap;have ea:(if l.length=0 then some (⟨g,0,none⟩:Addr) else (some (⟨g,0,none⟩:Addr)).map (·.add (0*K.u.size e)))=some ⟨g,0,none⟩:=by
         split
         ·rfl
         ·simp[zaca]
        rw[ea] at hr;rw[hvv];refine ⟨_,hr,main _ w [] [] (by simpa using HsRel.nil) (fun b hb=>by cases hb) ?_ ⟨rfl,rfl,rfl,qz _,fun _ _ _=>rfl⟩ (fun b hb=>.inl (by rw[hvv]; exact hb))⟩;refine ⟨by simpa using hown.1,.inr ⟨g,l.length,cur,fz,rfl,hbase,hg,qz _,by omega,Nat.le_trans (xz _ hncap) hcs,?_⟩⟩;simpa using htake
      ·have:(decide (a=(l.length:Int))&&decide (b=(l.length:Int)))=false:=by
        rw[Bool.and_eq_false_iff,ya,ya]; exact Classical.not_and_iff_not_or_not.1 hc
       rw[this] at hh; cases hh
     ·cases hh
    ·cases hh
   ·cases hh
  ·cases hh
 ·cases hh
end
open Go.MapKept
theorem zaqa {α:Type} [BEq α] [LawfulBEq α] (a b:α):(a==b)=(b==a):=by
 by_cases h:a=b
 ·subst h; rfl
 ·rw[beq_eq_false_iff_ne.2 h,beq_eq_false_iff_ne.2 (Ne.symm h)]
theorem zauq {α β:Type} [BEq α] (y:α×β) (l:List (α×β)) (x:α):mapAt (y::l) x=bif y.1==x then some y.2 else mapAt l x:=by
 unfold mapAt;rw[List.find?_cons];cases y.1==x<;>rfl
theorem zaev {α β : Type} [BEq α] [LawfulBEq α] (enc : α -> Value) (d : TypeDesc) (hs : ∀ a b, Instr.sameNow d (enc a) (enc b) = some (a == b)) (q : α) : ∀ (l : List (α × β)) (es : List MapEntry) (i : Nat), es.map (·.key) = l.map (fun x => enc x.1) ->
  (mapAt l q=none/\Instr.findNow d (enc q) es i=some none/\∀ v,zaau q v l=l++[(q,v)]) \/
  ∃ j y ent,l[j]? = some y/\y.1=q/\es[j]? = some ent/\mapAt l q=some y.2/\Instr.findNow d (enc q) es i=some (some (i+j,ent.val))/\∀ v,zaau q v l=l.set j (q,v)
 |[],es,i,h=>by
  have:es=[]:=by simpa using h
  subst this;exact .inl ⟨rfl,rfl,fun v=>rfl⟩
 |y::l,[],i,h=>by cases h
 |y::l,ent::es,i,h=>by
  simp only[xn,xh] at h;obtain ⟨h1,h2⟩:=h;have hn:Instr.findNow d (enc q) (ent::es) i=match some (q==y.1) with
   |some true=>some (some (i,ent.val))
   |some false=>Instr.findNow d (enc q) es (i+1)
   |none=>none:=by
   show (match Instr.sameNow d (enc q) ent.key with
    |some true=>_|some false=>_|none=>_)=_
   rw[h1,hs]
  rw[hn,zauq];cases hb:y.1==q with
  |true=>
   have e:y.1=q:=by simpa using hb
   rw[zaqa,hb];exact .inr ⟨0,y,ent,rfl,e,rfl,rfl,rfl,fun v=>by
    show (bif y.1==q then (q,v)::l else y::zaau q v l)=_;rw[hb]; rfl⟩
  |false=>
   rw[zaqa,hb];have hset:∀ v,zaau q v (y::l)=y::zaau q v l:=fun v=>by
    show (bif y.1==q then (q,v)::l else y::zaau q v l)=_;rw[hb]; rfl
   rcases zaev enc d hs q l es (i+1) h2 with ⟨a,b,c⟩|⟨j,z,ent',a1,a2,a3,a4,a5,a6⟩
   ·exact .inl ⟨a,b,fun v=>by rw[hset,c v]; rfl⟩
   ·refine .inr ⟨j+1,z,ent',a1,a2,a3,a4,?_,fun v=>by rw[hset,a6 v]; rfl⟩;show Instr.findNow d (enc q) es (i+1)=_;rw[a5];congr 3;omega
section
variable {K:Kit} {V:Env} {B:Base} {R:Type}
variable {G:Nat->Option Obj} {st:List (Nat×Ob K.u.U)} {β:Nat->Gh} {w:World} {c:PV K.u.U->Ups K.u.U->Option R} {r:R} {N:Value->World->Prop}
theorem zaqc (k : IntKind) {β : Type} : ∀ {l : List (Int × β)} {vs : List Value}, TsRel K.u G (l.map fun x => (⟨.int k, x.1⟩ : TV K.u.U)) vs -> vs = l.map (fun x => Value.int k x.1)
 |[],vs,h=>by cases h; rfl
 |x::l,vs,h=>by
  simp only[xn] at h;cases h with
  |cons _ _ v vs h1 h2=>rw[h1.int_inv,zaqc k h2]; rfl
theorem zar7 {β : Type} : ∀ {l : List (List UInt8 × β)} {vs : List Value}, TsRel K.u G (l.map fun x => (⟨.str, x.1⟩ : TV K.u.U)) vs -> vs = l.map (fun x => Value.string ⟨x.1.toArray⟩)
 |[],vs,h=>by cases h; rfl
 |x::l,vs,h=>by
  simp only[xn] at h;cases h with
  |cons _ _ v vs h1 h2=>rw[h1.str_inv,zar7 h2]; rfl
theorem zaq0 (k:IntKind) (a b:Int):Instr.sameNow (.int k) (.int k a) (.int k b)=some (a==b):=by simp[Instr.sameNow]
theorem zarq (a b:List UInt8):Instr.sameNow .string (.string ⟨a.toArray⟩) (.string ⟨b.toArray⟩)=some (a==b):=by
 simp only[Instr.sameNow];congr 1;by_cases h:a=b
 ·subst h;rw[(bytes_beq (⟨a.toArray⟩:ByteArray) ⟨a.toArray⟩).2 rfl];simp
 ·rw[beq_eq_false_iff_ne.2 h];cases hb:((⟨a.toArray⟩:ByteArray)==⟨b.toArray⟩) with
  |false=>rfl
  |true=>
   have:=(bytes_beq _ _).1 hb;exact absurd (by simpa using this) h
theorem zamv {k e : Ty} {d : TypeDesc} (hk : keyTy k d = true) {l : List (k.den K.u.U × e.den K.u.U)} {es : List MapEntry} (h1 : TsRel K.u G (l.map fun x => ⟨k, x.1⟩) (es.map (·.key))) {q : TV K.u.U} {v : Value} (hq : TRel K.u G q v)
  {o:Option (e.den K.u.U)} (ho:zai2 k e l q=some o):IsKey d v/\(∀ y l',zagi k e l q y=some l'->∃ x:k.den K.u.U,q=⟨k,x⟩ /\
   ((Instr.findNow d v es 0=some none/\o=none/\l'=l++[(x,y)])\/∃ j z ent,l[j]? = some z/\es[j]? = some ent/\o=some z.2/\Instr.findNow d v es 0=some (some (j,ent.val))/\l'=l.set j (x,y)/\ent.key=v)) /\
   ((Instr.findNow d v es 0=some none/\o=none)\/∃ j z ent,l[j]? = some z/\es[j]? = some ent/\o=some z.2/\Instr.findNow d v es 0=some (some (j,ent.val))):=by
 unfold zai2 at ho;split at ho
 ·rename_i k l k' n;split at ho
  ·rename_i hh;subst hh;simp only[qk] at ho;cases d<;>try cases hk
   rename_i kd;have hkk:k'=kd:=of_decide_eq_true hk;subst hkk;have hv:=hq.int_inv;subst hv;have hks:=zaqc (K:=K) (G:=G) k' h1;refine ⟨rfl,?_,?_⟩
   ·intro y l' hp;unfold zagi at hp;simp only[if_true,qk] at hp;refine ⟨n,rfl,?_⟩;rcases zaev (fun a=>Value.int k' a) (.int k') (zaq0 k') n l es 0 hks with ⟨a,b,c⟩|⟨j,z,ent,a1,a2,a3,a4,a5,a6⟩
    ·exact .inl ⟨b,by rw[<-ho]; exact a,by rw[<-hp]; exact c y⟩
    ·refine .inr ⟨j,z,ent,a1,a3,by rw[<-ho]; exact a4,by rw[a5,Nat.zero_add],by rw[<-hp]; exact a6 y,?_⟩;have:=congrArg (·[j]?) hks;simp only[List.getElem?_map,a1,a3,Option.map_some,qk] at this;rw[this,a2]
   ·rcases zaev (fun a=>Value.int k' a) (.int k') (zaq0 k') n l es 0 hks with ⟨a,b,c⟩|⟨j,z,ent,a1,a2,a3,a4,a5,a6⟩
    ·exact .inl ⟨b,by rw[<-ho]; exact a⟩
    ·exact .inr ⟨j,z,ent,a1,a3,by rw[<-ho]; exact a4,by rw[a5,Nat.zero_add]⟩
  ·cases ho
 ·rename_i l s;simp only[qk] at ho;cases d<;>try cases hk
  have hv:=hq.str_inv;subst hv;have hks:=zar7 (K:=K) (G:=G) h1;refine ⟨trivial,?_,?_⟩
  ·intro y l' hp;unfold zagi at hp;simp only[qk] at hp;refine ⟨s,rfl,?_⟩;rcases zaev (fun a:List UInt8=>Value.string ⟨a.toArray⟩) .string zarq s l es 0 hks with ⟨a,b,c⟩|⟨j,z,ent,a1,a2,a3,a4,a5,a6⟩
   ·exact .inl ⟨b,by rw[<-ho]; exact a,by rw[<-hp]; exact c y⟩
   ·refine .inr ⟨j,z,ent,a1,a3,by rw[<-ho]; exact a4,by rw[a5,Nat.zero_add],by rw[<-hp]; exact a6 y,?_⟩;have:=congrArg (·[j]?) hks;simp only[List.getElem?_map,a1,a3,Option.map_some,qk] at this;rw[this,a2]
  ·rcases zaev (fun a:List UInt8=>Value.string ⟨a.toArray⟩) .string zarq s l es 0 hks with ⟨a,b,c⟩|⟨j,z,ent,a1,a2,a3,a4,a5,a6⟩
   ·exact .inl ⟨b,by rw[<-ho]; exact a⟩
   ·exact .inr ⟨j,z,ent,a1,a3,by rw[<-ho]; exact a4,by rw[a5,Nat.zero_add]⟩
 ·cases ho
def MapIs (K:Kit) (G:Nat->Option Obj) (w:World) (k e:Ty) (l:List (k.den K.u.U×e.den K.u.U)) (v:Value):Prop:=
 (l=[]/\v=.map none)\/∃ b es clock,v=.map (some b)/\w.heap[b]? = some (.map es clock)/\TsRel K.u G (l.map fun x=>⟨k,x.1⟩) (es.toList.map (·.key))/\TsRel K.u G (l.map fun x=>⟨e,x.2⟩) (es.toList.map (·.val))
theorem zatm (hI:Inv K V B G (look st) β w) {k e:Ty} {l:List (k.den K.u.U×e.den K.u.U)} {v:Value} (h:TRel K.u G ⟨.map k e,l⟩ v):MapIs K G w k e l v:=by
 rcases h.map_inv with h|⟨b,es,clock,h1,h2,h3⟩
 ·exact .inl h
 ·exact .inr ⟨b,es,clock,h1,hI.gok _ _ h2,h3⟩
theorem zawf (hI:Inv K V B G (look st) β w) {id:Nat} {m:(k:Ty)×(e:Ty)×List (k.den K.u.U×e.den K.u.U)} (hm:(look st id).bind Ob.mapOf=some m) {v:Value} (h:PRel K G (look st) β (.ptr id 0) v):MapIs K G w m.1 m.2.1 m.2.2 v:=by
 simp only[PRel] at h;obtain ⟨_,ob,h1,h2⟩:=h;rw[h1,qa] at hm;have hv:=h2 (zaot hm);rcases zani hm with rfl|rfl
 ·obtain ⟨b,es,clock,g1,g2,g3⟩:=hI.obs id _ h1;rw[g1] at hv;exact .inr ⟨b,es,clock,hv,g2,g3⟩
 ·have ht:=hI.obs id _ h1;have e0:zabk (β id).v 0=(β id).v:=by
   rcases TRel.map_inv (show TRel K.u G ⟨.map m.1 m.2.1,m.2.2⟩ (β id).v from ht) with ⟨_,h3⟩|⟨b,_,_,h3,_⟩<;>rw[h3]<;>rfl
  rw[hv,e0];exact zatm hI ht
theorem zaly {T:TypeId} {t:TypeId×TypeId×Ty×Ty} (h:K.mapTys T=some t):∃ d,K.P.underlying T=some (.map t.1 t.2.1)/\K.P.underlying t.1=some d/\keyTy t.2.2.1 d=true:=by
 unfold Kit.mapTys at h;split at h
 ·rename_i KT ET hu;split at h
  ·rename_i k e d h1 h2 h3;split at h
   ·rename_i hk;cases h;exact ⟨d,hu,h3,hk⟩
   ·cases h
  ·cases h
 ·cases h
theorem TsRel.get2 {cs:List (TV K.u.U)} {vs:List Value} (h:TsRel K.u G cs vs) {i:Nat} {c:TV K.u.U} {v:Value} (hc:cs[i]? = some c) (hv:vs[i]? = some v):TRel K.u G c v:=by
 obtain ⟨v',h1,h2⟩:=h.get i hc;rw[hv] at h1;cases h1;exact h2
theorem zar3 (hN:Next K V B G st β c r N) (hI:Inv K V B G (look st) β w) {T:TypeId} {t:TypeId×TypeId×Ty×Ty} (ht:K.mapTys T=some t) {k e:Ty} {l:List (k.den K.u.U×e.den K.u.U)} (ek:t.2.2.1=k) {x y:Value}
  (hm:MapIs K G w k e l x) {q:TV K.u.U} (hq:TRel K.u G q y) {z:e.den K.u.U} (hz:K.zero e t.2.1=some z) {o:Option (e.den K.u.U)} (ho:zai2 k e l q=some o) {ok:Bool}
  (h:(bif ok then c (.tup [.t ⟨e,o.getD z⟩,.t ⟨.bool,o.isSome⟩]) [] else c (.t ⟨e,o.getD z⟩) [])=some r) :
  ∃ v,(Instr.lookup T x y ok).run K.P w=.ok v w/\N v w:=by
 obtain ⟨d,u1,u2,hk⟩:=zaly ht;subst ek;obtain ⟨i,zv,i1,i2,i3⟩:=zan2 (G:=G) hz;have hzero:(zeroValue t.2.1).run K.P w=.ok zv w:=by simp[zeroValue,typeInfo,i1,i2]
 have fin:∀ v,TRel K.u G ⟨e,o.getD z⟩ v->N (if ok then .tuple #[v,.bool o.isSome] else v) w:=by
  intro v hv;cases ok with
  |true=>
   refine hN.plain hI h ?_;simp only[PRel,PsRel];exact ⟨_,rfl,_,_,rfl,hv,_,_,rfl,.bool _,rfl⟩
  |false=>
   refine hN.plain hI h ?_;simp only[PRel];exact hv
 rcases hm with ⟨rfl,rfl⟩|⟨b,es,clock,rfl,hb,hks,hvs⟩
 ·obtain ⟨hkey,_,hf⟩:=zamv (es:=[]) hk (l:=[]) .nil hq ho;rcases hf with ⟨f1,rfl⟩|⟨j,_,_,f1,_⟩
  ·refine ⟨_,?_,fin zv i3⟩;have hfind:=run_findKey (w:=w) u2 f1;have hchk:=run_checkKey (w:=w) u2 hkey true 9999;simp[Instr.lookup,run_underlying u1,hchk,hfind,hzero]
  ·simp at f1
 ·obtain ⟨hkey,_,hf⟩:=zamv hk hks hq ho;have hchk:=run_checkKey (w:=w) u2 hkey es.isEmpty 9999;rcases hf with ⟨f1,rfl⟩|⟨j,y',ent,f1,f2,rfl,f3⟩
  ·refine ⟨_,?_,fin zv i3⟩;have hfind:=run_findKey (w:=w) u2 f1;simp[Instr.lookup,run_underlying u1,run_getObj_map hb,hchk,hfind,hzero]
  ·refine ⟨_,?_,fin ent.val (hvs.get2 (i:=j) (by rw[List.getElem?_map,f1]; rfl) (by rw[List.getElem?_map,f2]; rfl))⟩;have hfind:=run_findKey (w:=w) u2 f3;simp[Instr.lookup,run_underlying u1,run_getObj_map hb,hchk,hfind]
theorem zap1 (hN:Next K V B G st β c r N) (hI:Inv K V B G (look st) β w) {d:Nat} {k e:Ty} (hd:look st d=none) (hdp:Nat.blt d zaai=true) (h:c (.ptr d 0) [(d,.mp k e [])]=some r) :
  N (.map (some w.heap.size)) (w.alloc (.map #[] 0)):=by
 refine hN.made hI (x:=.map (some w.heap.size)) hd h (fun b hb=>by simpa [blkOf] using hb.symm) (by simpa using hdp) (fun hc=>?_) ?_
 ·exact ⟨w.heap.size,#[],0,by simp[upd],heap_alloc_new _ _,.nil,.nil⟩
 ·simp only[PRel];exact ⟨rfl,_,zabq,fun _=>by simp[upd,zabk]⟩
theorem zapu {U:Nat->Type} {k e:Ty} {l l':List (k.den U×e.den U)} {q:TV U} {v:e.den U} (h:zagi k e l q v=some l'):∃ o,zai2 k e l q=some o:=by
 obtain ⟨tq,xq⟩:=q;cases k<;>cases tq<;>simp_all[zagi,zai2]
theorem zaia (hN:Next K V B G st β c r N) (hI:Inv K V B G (look st) β w) {T:TypeId} {t:TypeId×TypeId×Ty×Ty} (ht:K.mapTys T=some t) {id:Nat} {k e:Ty} {l l':List (k.den K.u.U×e.den K.u.U)} (ek:t.2.2.1=k)
  (hS:look st id=some (.mp k e l)) {x y z:Value} (hx:PRel K G (look st) β (.ptr id 0) x) {q:TV K.u.U} (hq:TRel K.u G q y) {v:e.den K.u.U} (hv:TRel K.u G ⟨e,v⟩ z) (hp:zagi k e l q v=some l')
  (h:c .junk [(id,.mp k e l')]=some r) (res:Value):∃ w',(Instr.mapUpdate T x y z).run K.P w=.ok () w'/\N res w':=by
 obtain ⟨d,u1,u2,hk⟩:=zaly ht;subst ek;simp only[PRel] at hx;obtain ⟨_,ob,h1,h2⟩:=hx;rw[hS] at h1;cases h1;have hxv:=h2 rfl;obtain ⟨b,es,clock,g1,hb,hks,hvs⟩:=hI.obs id _ hS;rw[g1] at hxv;have hxv:x=.map (some b):=hxv;subst hxv;obtain ⟨o,ho⟩:=zapu hp;obtain ⟨hkey,hput,_⟩:=zamv hk hks hq ho;obtain ⟨xk,rfl,hput2⟩:=hput v l' hp;clear hput;have hchk:=run_checkKey (w:=w) u2 hkey false 9999;have hblt:=(Array.getElem?_eq_some_iff.1 hb).1
 have go : ∀ (es' : Array MapEntry) (clock' : Nat), TsRel K.u G (l'.map fun x => ⟨t.2.2.1, x.1⟩) (es'.toList.map (·.key)) -> TsRel K.u G (l'.map fun x => ⟨e, x.2⟩) (es'.toList.map (·.val)) ->
   N res { w with heap:=w.heap.setIfInBounds b (.map es' clock') }:=by
  intro es' clock' a1 a2
  have hc:Comp K G G (look st) β (look ((id,.mp t.2.2.1 e l')::st)) (upd β id (β id)):=
   Comp.cons (fun _ _ h=>h) (fun ob h0=>by rw[hS] at h0; cases h0; exact ⟨fun _=>⟨rfl,rfl⟩,fun _ _=>trivial,fun _ _ _ he=>by cases he⟩)
  refine hN _ _ _ _ G (upd β id (β id)) h (hI.one (row:=some b) ⟨rfl,rfl,rfl,by simp,fun k _ hk=>by
    rw[Array.getElem?_setIfInBounds_ne (fun e=>hk (by simp[e]))]⟩ (fun k hk=>⟨_,hS,rfl,.inl (by cases hk; simp[g1,blkOf])⟩)
   (fun _ b' hb'=>.inl ⟨_,hS,rfl,hb'⟩) hc (fun _=>⟨_,hS⟩) ?_) hc ?_
  ·exact ⟨b,es',clock',by simp[upd,g1],by simp[hblt],a1,a2⟩
  ·simp only[PRel]
 rcases hput2 with ⟨f1,_,rfl⟩|⟨j,y',ent,f1,f2,_,f3,rfl,f4⟩
 ·have hfind:=run_findKey (w:=w) u2 f1;refine ⟨_,by simp[Instr.mapUpdate,run_underlying u1,run_getObj_map hb,hchk,hfind,run_setObj_map _ hb]; rfl,go _ _ ?_ ?_⟩
  ·rw[Array.toList_push,List.map_append,List.map_append];exact hks.append (.cons _ _ _ _ hq .nil)
  ·rw[Array.toList_push,List.map_append,List.map_append];exact hvs.append (.cons _ _ _ _ hv .nil)
 ·have hfind:=run_findKey (w:=w) u2 f3;have hj:es[j]? = some ent:=by simpa using f2
  have hjl:j<es.size:=(Array.getElem?_eq_some_iff.1 hj).1;have hmod:(es.modify j fun e=>{ e with key:=y,val:=z }).toList=es.toList.set j { ent with key:=y,val:=z }:=by
   apply List.ext_getElem?;intro i;rw[Array.toList_modify,List.getElem?_modify,List.getElem?_set];by_cases hi:j=i
   ·subst hi;simp only[if_true];rw[f2];simp[hjl]
   ·simp[hi]
  have hset:∀ (f:MapEntry->Value) (l:List MapEntry) (x:MapEntry),(l.set j x).map f=(l.map f).set j (f x):=fun f l x=>by rw[List.map_set]
  refine ⟨_,by simp[Instr.mapUpdate,run_underlying u1,run_getObj_map hb,hchk,hfind,hj,f4,run_keyThatStays hkey,run_setObj_map _ hb]; rfl,go _ _ ?_ ?_⟩
  ·rw[hmod,List.map_set,List.map_set];exact hks.set j hq
  ·rw[hmod,List.map_set,List.map_set];exact hvs.set j hv
end
end Lift
namespace Lift
open Go Go.RowKit
section
variable {K:Kit} {V:Env} {B:Base} {R:Type}
variable {G:Nat->Option Obj} {st:List (Nat×Ob K.u.U)} {β:Nat->Gh} {w:World} {c:PV K.u.U->Ups K.u.U->Option R} {r:R}
theorem zal2 {tm:Nat->Option (PV K.u.U)} {a:Act} (ht:TmOk K G (look st) β tm a) {o:Option Operand} {q:Option (PV K.u.U)} (h:evOpt K tm o=some q) :
  (q=none/\o.map a.eval=none)\/∃ p v,q=some p/\o.map a.eval=some v/\PRel K G (look st) β p v:=by
 cases o with
 |none=>simp[evOpt] at h; subst h; exact .inl ⟨rfl,rfl⟩
 |some x=>
  simp only[evOpt,xw] at h;obtain ⟨p,h1,rfl⟩:=h;exact .inr ⟨p,_,rfl,rfl,zaae ht h1⟩
theorem zamt (hK:KitOk K V) (hI:Inv K V B G (look st) β w) {tm:Nat->Option (PV K.u.U)} {a:Act} (ht:TmOk K G (look st) β tm a) {o:Oper} {next:Act->World->Prop} {Q:Exit->Act->World->Prop}
  {f:FuncId} {args:Array Operand} {ps:List (PV K.u.U)} (hps:evs K tm args.toList=some ps) (h:K.callF (look st) f ps o.dst c=some r)
  (hrun:∀ (hc:zabo K.P f=true),(execOp a.eval o).run K.P w=.ok (.enter f (args.map a.eval)) w)
  (hN:Next K V B G st β c r fun v w'=>next (a.put o.dst v) w'):o.wp K.P a w next Q:=by
 obtain ⟨h1,h2⟩:=zame hK hI h (zaci ht hps) hN;unfold Oper.wp;rw[hrun h1,Oper.upon_enter];have e:(args.map a.eval)=(args.toList.map a.eval).toArray:=by
  apply Array.ext';simp
 rw[e];exact h2.mono fun e w' ⟨v,he,hv⟩=>by subst he; exact hv
theorem zayi (hK:KitOk K V) (hI:Inv K V B G (look st) β w) {tm:Nat->Option (PV K.u.U)} {a:Act} (ht:TmOk K G (look st) β tm a) {o:Oper} {next:Act->World->Prop} {Q:Exit->Act->World->Prop}
  {f:FuncId} {args:Array Operand} {ps cs:List (PV K.u.U)} {vs:List Value} (hps:evs K tm args.toList=some ps) (hcs:PsRel K G (look st) β cs vs) (h:K.callF (look st) f (ps++cs) o.dst c=some r)
  (hrun:∀ (hc:zabo K.P f=true),(execOp a.eval o).run K.P w=.ok (.enter f (args.map a.eval++vs.toArray)) w)
  (hN:Next K V B G st β c r fun v w'=>next (a.put o.dst v) w'):o.wp K.P a w next Q:=by
 obtain ⟨h1,h2⟩:=zame hK hI h ((zaci ht hps).append hcs) hN;unfold Oper.wp;rw[hrun h1,Oper.upon_enter];have e:(args.map a.eval++vs.toArray)=(args.toList.map a.eval++vs).toArray:=by
  apply Array.ext';simp
 rw[e];exact h2.mono fun e w' ⟨v,he,hv⟩=>by subst he; exact hv
theorem zag2 (hK:KitOk K V) (hI:Inv K V B G (look st) β w) {tm:Nat->Option (PV K.u.U)} {a:Act} (ht:TmOk K G (look st) β tm a) {o:Oper} (h:K.step o tm (look st) c=some r) {next:Act->World->Prop} {Q:Exit->Act->World->Prop}
  (hN:Next K V B G st β c r fun v w'=>next (a.put o.dst v) w'):o.wp K.P a w next Q:=by
 have hNs:=hN;unfold Kit.step at h;split at h
 ·rename_i x ho;simp only[qb] at h;obtain ⟨p,h1,h2⟩:=h;exact zaam (by simp[execOp,ho]) (hN.plain hI h2 (zaae ht h1))
 ·rename_i x ho;simp only[qb] at h;obtain ⟨p,h1,h2⟩:=h;exact zaam (by simp[execOp,ho]) (hN.plain hI h2 (zaae ht h1))
 ·rename_i x y z ho;split at h
  ·rename_i b hb;have hx:=zaae ht hb;simp only[PRel] at hx;have hx:=hx.bool_inv;cases b with
   |true=>
    simp only[qg,qb] at h;obtain ⟨p,h1,h2⟩:=h;exact zaam (by simp[execOp,ho,hx,asBool]) (hN.plain hI h2 (zaae ht h1))
   |false=>
    simp only[qf,qb] at h;obtain ⟨p,h1,h2⟩:=h;exact zaam (by simp[execOp,ho,hx,asBool]) (hN.plain hI h2 (zaae ht h1))
  ·cases h
 ·rename_i T ho;split at h
  ·rename_i d hd;split at h
   ·rename_i hS hdp;simp only[qb] at h;obtain ⟨vs,h1,ps,h2,h3⟩:=h;obtain ⟨i,z,hi,hz,hzv⟩:=zand h1;obtain ⟨hr,h1c⟩:=zah0 (K:=K) (G:=G) (S:=look st) (β:=β) h2;refine zaam (w':=w.alloc (.cells vs.toArray T)) ?_ (zaqw hN hI (T:=T) hS hdp h3 hr h1c);subst hzv;simp[execOp,ho,Instr.alloc,zeroValue,typeInfo,hi,hz,newVar,newRow]
   ·cases h
  ·cases h
 ·rename_i T x ho;split at h
  ·rename_i d hd;split at h
   ·rename_i hS hdp;simp only[qb] at h;obtain ⟨p,h1,ps,h2,h3⟩:=h;obtain ⟨hr,h1c⟩:=(zaae ht h1).cellsOf h2;refine zaam (w':=w.alloc (.cells ((a.eval x).cells.toList).toArray T)) ?_ (zaqw hN hI (T:=T) hS hdp h3 hr h1c);simp[execOp,ho,Instr.box,newVar,newRow]
   ·cases h
  ·cases h
 ·rename_i T ps ho;split at h
  ·rename_i fs hu;split at h
   ·rename_i hall;simp only[qb] at h;obtain ⟨qs,h1,vs,h2,zs,h3,cs,h4,h5⟩:=h;obtain ⟨y,hy1,hy2⟩:=zas1 hN hI ht hu hall h1 h2 h3 h4 h5;exact zaam (by simp only[execOp,ho,Sem.run_bind,hy1,Result.andThen_ok,Sem.run_pure]) hy2
   ·cases h
  ·cases h
 ·rename_i T n ps ho;split at h
  ·rename_i d hd;split at h
   ·rename_i E hS hu;split at h
    ·rename_i e i _ hi;split at h
     ·rename_i hs;simp only[qb] at h;obtain ⟨qs,h1,h2⟩:=h;obtain ⟨y,w',hy1,hy2⟩:=zamy hN hI ht hS hu hi hs h1 h2;exact zaam (by simp only[execOp,ho,Sem.run_bind,hy1,Result.andThen_ok,Sem.run_pure]) hy2
     ·cases h
    ·rename_i i _ hi;split at h
     ·rename_i hs;simp only[qb] at h;obtain ⟨qs,h1,h2⟩:=h;split at h2
      ·rename_i hp;obtain ⟨y,w',hy1,hy2⟩:=zan6 hN hI ht hS hu hi hs h1 hp h2;exact zaam (by simp only[execOp,ho,Sem.run_bind,hy1,Result.andThen_ok,Sem.run_pure]) hy2
      ·cases h2
     ·cases h
    ·cases h
   ·cases h
  ·cases h
 ·rename_i T x ho;cases hx:ev K tm x with
  |none=>rw[hx] at h; cases h
  |some q=>
   rw[hx] at h;obtain ⟨y,hy1,hy2⟩:=zat8 hN hI (zaae ht hx) h;exact zaam (by simp only[execOp,ho,Sem.run_bind,hy1,Result.andThen_ok,Sem.run_pure]) hy2
 ·rename_i T x y ho;split at h
  ·rename_i id off hx;split at h
   ·rename_i cs hS;simp only[qb] at h;obtain ⟨q,h1,ys,h2,n,h3,h⟩:=h;split at h
    ·rename_i hl;simp only[qb] at h;obtain ⟨cs',h4,h5⟩:=h;obtain ⟨w',hy1,hy2⟩:=zav2 hN hI hS (zaae ht hx) (zaae ht h1) h2 h3 hl h4 h5;exact zah4 (by simp only[execOp,ho,Sem.run_bind,hy1,Result.andThen_ok,Sem.run_pure]) hy2
    ·cases h
   ·cases h
  ·rename_i id ver i off hx;split at h
   ·rename_i E v e l hS;split at h
    ·rename_i hv;subst hv;simp only[qb] at h;obtain ⟨q,h1,ys,h2,n,h3,h⟩:=h;split at h
     ·rename_i hl;cases hpl:K.u.plainTy e with
      |true=>
       rw[hpl,qg] at h;simp only[qb] at h;obtain ⟨ws,h4,x0,h5,cs,h6,x',h7,h8⟩:=h;obtain ⟨w',hy1,hy2⟩:=zav9 hN hI hS (zaae ht hx) (zaae ht h1) h2 h3 hl h4 h5 h6 h7 h8;exact zah4 (by simp only[execOp,ho,Sem.run_bind,hy1,Result.andThen_ok,Sem.run_pure]) hy2
      |false=>
       rw[hpl,qf] at h;unfold Kit.storeD at h;split at h
       ·rename_i ws h4;split at h
        ·rename_i hd;simp only[qb] at h;obtain ⟨x0,h5,cs,h6,x',h7,h8⟩:=h;obtain ⟨w',hy1,hy2⟩:=zaul hN hI hS (zaae ht hx) (zaae ht h1) h2 h3 hl h4 hd h5 h6 h7 h8;exact zah4 (by simp only[execOp,ho,Sem.run_bind,hy1,Result.andThen_ok,Sem.run_pure]) hy2
        ·cases h
       ·simp only[qb] at h;obtain ⟨ws,h4,x0,h5,cs,h6,x',h7,h8⟩:=h;obtain ⟨w',hy1,hy2⟩:=zau9 hN hI hS (zaae ht hx) (zaae ht h1) h2 h3 hl h4 h5 h6 h7 h8;exact zah4 (by simp only[execOp,ho,Sem.run_bind,hy1,Result.andThen_ok,Sem.run_pure]) hy2
     ·cases h
    ·cases h
   ·rename_i E v e l i' cs hS;split at h
    ·rename_i hv;subst hv;cases hb:Nat.beq i i' with
     |false=>rw[hb] at h; cases h
     |true=>
      have hii:=qx hb;subst hii;rw[hb,qg] at h;simp only[qb] at h;obtain ⟨q,h1,ys,h2,n,h3,h⟩:=h;split at h
      ·rename_i hl;simp only[qb] at h;obtain ⟨cs',h4,h5⟩:=h;obtain ⟨w',hy1,hy2⟩:=zavl hN hI hS (zaae ht hx) (zaae ht h1) h2 h3 hl h4 h5;exact zah4 (by simp only[execOp,ho,Sem.run_bind,hy1,Result.andThen_ok,Sem.run_pure]) hy2
      ·cases h
    ·cases h
   ·cases h
  ·cases h
 ·rename_i x ho;split at h
  ·rename_i id off hx;split at h
   ·rename_i cs hS;have hp:=zaae ht hx;have hp0:=hp;simp only[PRel] at hp;obtain ⟨_,ob,h1,h2⟩:=hp;rw[hS] at h1;cases h1;have hu:=h2 rfl;obtain ⟨b,vs,hb,_⟩:=hI.obs id _ hS;simp[hb,zabk] at hu;refine zaam ?_ (hN.plain hI h hp0);simp[execOp,ho,hu]
   ·cases h
  ·rename_i v off hx;have hp:=zaae ht hx;have hp0:=hp;simp only[PRel] at hp;obtain ⟨b,o',_,_,_,_,hu,_⟩:=hp;refine zaam ?_ (hN.plain hI h hp0);simp[execOp,ho,hu]
  ·rename_i id ver i off hx;have hp:=zaae ht hx;have hp0:=hp;simp only[PRel] at hp;obtain ⟨⟨b,o',hu⟩,_⟩:=hp;refine zaam ?_ (hN.plain hI h hp0);simp[execOp,ho,hu]
  ·cases h
 ·rename_i op T x y ty ho;simp only[qb] at h;obtain ⟨p,h1,q,h2,h3⟩:=h;have hcmp:∃ pv z,(fun p=>c p []) pv=some r/\PRel K G (look st) β pv z/\(do eqGuard op T x y (a.eval x) (a.eval y); binOp op T (a.eval x) (a.eval y)).run K.P w=.ok z w:=by
   rcases zaqy (w:=w) (G:=G) (S:=look st) (β:=β) (ox:=x) (oy:=y) id h3 (zaae ht h1) (zaae ht h2) with ⟨v,z,hv,hz,hrun⟩|h3
   ·exact ⟨v,z,hv,hz,hrun⟩
   ·obtain ⟨v,z,hv,hz,hrun⟩:=zau7 (w:=w) (G:=G) (S:=look st) (β:=β) hK.toEqOk (ox:=x) (oy:=y) id h3 (zaae ht h1) (zaae ht h2);exact ⟨.t v,z,hv,by simp only[PRel]; exact hz,hrun⟩
  obtain ⟨pv,z,hv,hz,hrun⟩:=hcmp;refine zaam ?_ (hN.plain hI hv hz);have e:execOp a.eval o=(do let z <-(do eqGuard op T x y (a.eval x) (a.eval y); binOp op T (a.eval x) (a.eval y)); pure (.value z)):=by simp only[execOp,ho]
  rw[e,Sem.run_bind,hrun];rfl
 ·rename_i op T x ho;simp only[qb] at h;obtain ⟨p,h1,h3⟩:=h;obtain ⟨v,z,hv,hz,hrun⟩:=zayt (w:=w) (G:=G) (S:=look st) (β:=β) h3 (zaae ht h1);refine zaam ?_ (hN.plain hI hv (by simp only[PRel]; exact hz));simp only[execOp,ho,Sem.run_bind,hrun,Result.andThen_ok,Sem.run_pure]
 ·rename_i src dst x ho;split at h
  ·rename_i E hE;simp only[qb] at h;obtain ⟨p,h1,h3⟩:=h;obtain ⟨v,w',hrun,hv⟩:=zap0 hN hI hE h3 (zaae ht h1);exact zaam (by simp only[execOp,ho,Sem.run_bind,hrun,Result.andThen_ok,Sem.run_pure]) hv
  ·simp only[qb] at h;obtain ⟨p,h1,h3⟩:=h;obtain ⟨v,z,hv,hz,hrun⟩:=zat7 hI h3 (zaae ht h1);refine zaam ?_ (hN.plain hI hv (by simp only[PRel]; exact hz));simp only[execOp,ho,Sem.run_bind,hrun,Result.andThen_ok,Sem.run_pure]
 ·rename_i T x lo hi ho;simp only[qb] at h;obtain ⟨p,h1,l,h2,hh,h3,h4⟩:=h;obtain ⟨z,hz1,hz2⟩:=zaw0 hN hI h4 (zaae ht h1) (zal2 ht h2) (zal2 ht h3);exact zaam (by simp only[execOp,ho,Sem.run_bind,Option.map_none,hz1,Result.andThen_ok,Sem.run_pure]) hz2
 ·rename_i T x lo hi mx ho;simp only[qb] at h;obtain ⟨p,h1,l,h0,hh,h2,m,h3,h4⟩:=h;obtain ⟨z,hz1,hz2⟩:=zark hN hI h4 (zaae ht h1) (zaae ht h0) (zaae ht h2) (zaae ht h3);exact zaam (by simp only[execOp,ho,Sem.run_bind,Option.map_none,Option.map_some,hz1,Result.andThen_ok,Sem.run_pure]) hz2
 ·rename_i T x hi mx ho;simp only[qb] at h;obtain ⟨p,h1,hh,h2,m,h3,h4⟩:=h;obtain ⟨z,hz1,hz2⟩:=zauf hN hI h4 (zaae ht h1) (zaae ht h2) (zaae ht h3);exact zaam (by simp only[execOp,ho,Sem.run_bind,Option.map_none,Option.map_some,hz1,Result.andThen_ok,Sem.run_pure]) hz2
 ·rename_i T x f ho;split at h
  ·rename_i fs hu;split at h
   ·rename_i fd hf;split at h
    ·rename_i n hs;cases hx:ev K tm x with
     |none=>rw[hx] at h; cases h
     |some q=>
      rw[hx] at h;obtain ⟨y,hy1,hy2⟩:=zash hN hI (zaae ht hx) hu hf hs h;exact zaam (by simp only[execOp,ho,Sem.run_bind,hy1,Result.andThen_ok,Sem.run_pure]) hy2
    ·cases h
   ·cases h
  ·cases h
 ·rename_i T x ix ho;split at h
  ·rename_i E hu;split at h
   ·rename_i n hs;split at h
    ·rename_i k i hi;have hiv:=zaae ht hi;simp only[PRel] at hiv;have hiv:=hiv.int_inv;split at h
     ·rename_i e l hx;split at h
      ·rename_i hn;subst hn;have hxr:=zaae ht hx;simp only[PRel] at hxr;obtain ⟨y,hy1,hy2⟩:=zasj (k:=k) hN hI hxr hu hs h;exact zaam (by simp only[execOp,ho,Sem.run_bind,hiv,hy1,Result.andThen_ok,Sem.run_pure]) hy2
      ·cases h
     ·rename_i id ver hx;split at h
      ·rename_i e l hS;split at h
       ·rename_i hn;subst hn;obtain ⟨y,hy1,hy2⟩:=zavw (k:=k) hN hI (zaae ht hx) hS hu hs h;exact zaam (by simp only[execOp,ho,Sem.run_bind,hiv,hy1,Result.andThen_ok,Sem.run_pure]) hy2
       ·cases h
      ·cases h
     ·rename_i id ver m hx;split at h
      ·rename_i e l hS;split at h
       ·rename_i hn;subst hn;obtain ⟨y,hy1,hy2⟩:=zawg (k:=k) hN hI (zaae ht hx) hS hu hs h;exact zaam (by simp only[execOp,ho,Sem.run_bind,hiv,hy1,Result.andThen_ok,Sem.run_pure]) hy2
       ·cases h
      ·cases h
     ·rename_i id m hx;split at h
      ·rename_i bT cs hS;split at h
       ·rename_i hn;subst hn;obtain ⟨y,hy1,hy2⟩:=zau5 (k:=k) hN hI (zaae ht hx) hS hu hs h;exact zaam (by simp only[execOp,ho,Sem.run_bind,hiv,hy1,Result.andThen_ok,Sem.run_pure]) hy2
       ·cases h
      ·cases h
     ·cases h
    ·cases h
   ·cases h
  ·cases h
 ·rename_i T x ix ho;split at h
  ·rename_i s k i hu hx hi;have hiv:=zaae ht hi;simp only[PRel] at hiv;have hiv:=hiv.int_inv;have hxv:=zaae ht hx;simp only[PRel] at hxv;have hxv:=hxv.str_inv;by_cases h0:0<=i
   ·simp only[h0,decide_true,qg,qb] at h;obtain ⟨b,hb,h⟩:=h;refine zaam ?_ (hN.plain hI h (by simp only[PRel]; exact .int _ _));simp only[execOp,ho,Sem.run_bind,hiv,hxv,zapt hu h0 hb,Result.andThen_ok,Sem.run_pure]
   ·simp only[h0,decide_false,qf] at h; cases h
  ·cases h
 ·rename_i T x f ho;split at h
  ·rename_i fs hu;split at h
   ·rename_i fd v hf hx;cases hfl:v.t.flat with
    |true=>rw[hfl] at h; cases h
    |false=>
     rw[hfl,qf] at h;simp only[qb] at h;obtain ⟨p,h1,h2⟩:=h;have hxv:=zaae ht hx;simp only[PRel] at hxv;have hst:∃ xs,a.eval x=.agg xs:=by
      obtain ⟨t,z⟩:=v;cases t<;>simp[Ty.flat] at hfl;obtain ⟨vs,e,_⟩:=hxv.st_inv;exact ⟨_,e⟩
     obtain ⟨xs,e⟩:=hst;rw[e] at hxv;obtain ⟨y,h4,h5⟩:=zas7 (st:=st) (β:=β) (w:=w) h1 hxv hfl;refine zaam (v:=y) ?_ (hN.plain hI h2 h5);simp[execOp,ho,Instr.field,Sem.run_bind,run_underlying hu,hf,e,asAgg,h4]
   ·cases h
  ·cases h
 ·rename_i x i ho;split at h
  ·rename_i l hx;simp only[qb] at h;obtain ⟨p,h1,h2⟩:=h;have hxv:=zaae ht hx;simp only[PRel] at hxv;obtain ⟨vs,hv,hl⟩:=hxv;obtain ⟨v,hv1,hv2⟩:=hl.get i h1;refine zaam ?_ (hN.plain hI h2 hv2);simp[execOp,ho,Instr.extract,hv,hv1]
  ·cases h
 ·rename_i T x ho;split at h
  ·rename_i d s hd hu hx;split at h
   ·rename_i hS hdp;have hxv:=zaae ht hx;simp only[PRel] at hxv;have hxv:=hxv.str_inv;refine zaam (w':=w.alloc (.stringIter ⟨s.toArray⟩ 0)) ?_ (zax9 hN hI hS hdp h);simp[execOp,ho,Instr.range,run_underlying hu,hxv]
   ·cases h
  ·cases h
 ·rename_i x ho;split at h
  ·rename_i id hx;split at h
   ·rename_i s pos hS;obtain ⟨y,w',hy1,hy2⟩:=zaue (ty:=o.type) hN hI (zaae ht hx) hS h;exact zaam (by simp only[execOp,ho,Sem.run_bind,hy1,Result.andThen_ok,Sem.run_pure]) hy2
   ·cases h
  ·cases h
 ·rename_i T ho;split at h
  ·rename_i d hd;split at h
   ·rename_i hS hdp;simp only[qb] at h;obtain ⟨t,h1,h⟩:=h;refine zaam (w':=w.alloc (.map #[] 0)) ?_ (zap1 hN hI hS hdp h);simp[execOp,ho,run_makeMap]
   ·cases h
  ·cases h
 ·rename_i T x y z ho;split at h
  ·rename_i id hx;split at h
   ·rename_i k e l hS;simp only[qb] at h;obtain ⟨t,h1,h⟩:=h;split at h
    ·rename_i hh;split at h
     ·rename_i q hy;simp only[qb] at h;obtain ⟨p,h2,v,h3,v',h4,l',h5,h⟩:=h;obtain ⟨hv,_⟩:=zaiw h3 (zaae ht h2);rw[zaht h4] at hv;have hyv:=zaae ht hy;simp only[PRel] at hyv;obtain ⟨w',hy1,hy2⟩:=zaia hN hI h1 hh.1 hS (zaae ht hx) hyv hv h5 h undef;exact zah4 (by simp only[execOp,ho,Sem.run_bind,hy1,Result.andThen_ok,Sem.run_pure]) hy2
     ·cases h
    ·cases h
   ·cases h
  ·cases h
 ·rename_i T x y z ho;split at h
  ·rename_i id hx;split at h
   ·rename_i k e l hS;simp only[qb] at h;obtain ⟨t,h1,h⟩:=h;split at h
    ·rename_i hh;split at h
     ·rename_i q hy;simp only[qb] at h;obtain ⟨p,h2,v,h3,v',h4,l',h5,h⟩:=h;obtain ⟨hv,_⟩:=zaiw h3 (zaae ht h2);rw[zaht h4] at hv;have hyv:=zaae ht hy;simp only[PRel] at hyv;obtain ⟨w',hy1,hy2⟩:=zaia hN hI h1 hh.1 hS (zaae ht hx) hyv hv h5 h undef;exact zah4 (by simp only[execOp,ho,Sem.run_bind,hy1,Result.andThen_ok,Sem.run_pure]) hy2
     ·cases h
    ·cases h
   ·cases h
  ·cases h
 ·rename_i T x y ok ho;simp only[qb] at h;obtain ⟨t,h1,m,hm,h⟩:=h;split at h
  ·rename_i hh;split at h
   ·rename_i q hy;simp only[qb] at h;obtain ⟨z,hz,g,hg,h⟩:=h;have hyv:=zaae ht hy;simp only[PRel] at hyv;have hmi:MapIs K G w m.1 m.2.1 m.2.2 (a.eval x):=by
     split at hm
     ·rename_i id hx;exact zawf hI hm (zaae ht hx)
     ·rename_i k e l hx;cases hm;have hxv:=zaae ht hx;simp only[PRel] at hxv;exact zatm hI hxv
     ·cases hm
    obtain ⟨v,hv1,hv2⟩:=zar3 hN hI h1 hh.1 hmi hyv hz hg h;exact zaam (by simp only[execOp,ho,Sem.run_bind,hv1,Result.andThen_ok,Sem.run_pure]) hv2
   ·cases h
  ·cases h
 ·rename_i f first caps ho
  split at h
  ·rename_i hf;have ef:=Array.eq_empty_of_size_eq_zero hf;subst ef;simp only[qb] at h;obtain ⟨ps,h1,h2⟩:=h;have hps:=zaci ht h1;have e:(caps.toList.map a.eval).toArray=caps.map a.eval:=by apply Array.ext'; simp
   split at h2
   ·simp only[PsRel] at hps;rw[hps] at e;refine zaam ?_ (hN.plain hI h2 (by simp only[PRel]; exact ⟨rfl,rfl⟩));simp[execOp,ho,Instr.makeFunc,<-e]
   ·rename_i p ps;refine zaam ?_ (hN.plain hI h2 (by simp only[PRel]; exact ⟨_,rfl,hps⟩));simp[execOp,ho,Instr.makeFunc,<-e]
  ·cases h
 ·rename_i T x ho;split at h
  ·cases h
  ·rename_i td hni hu;simp only[qb] at h;obtain ⟨p,h1,h2⟩:=h;have hp:=zaae ht h1;refine zaam (v:=.iface T (a.eval x)) ?_ (hN.plain hI h2 (by simp only[PRel]; exact ⟨_,rfl,hp⟩));cases td<;>first|(exact absurd rfl (hni _))|simp[execOp,ho,Instr.makeInterface,run_underlying hu]
  ·cases h
 ·rename_i x xT T ok ho;split at h
  ·rename_i T' p d hx hu;have hxv:=zaae ht hx;simp only[PRel] at hxv;obtain ⟨y,hv,hy⟩:=hxv;split at h
   ·cases h
   ·rename_i hni;split at h
    ·rename_i e;subst e;cases ok with
     |true=>
      rw[qg] at h;refine zaam (v:=.tuple #[y,.bool true]) ?_ (hN.plain hI h (by simp only[PRel,PsRel]; exact ⟨[y,.bool true],rfl,y,_,rfl,hy,_,_,rfl,.bool true,rfl⟩));cases d<;>first|(exact absurd rfl (hni _))|simp[execOp,ho,Instr.typeAssert,run_underlying hu,hv]
     |false=>
      rw[qf] at h;refine zaam (v:=y) ?_ (hN.plain hI h hy);cases d<;>first|(exact absurd rfl (hni _))|simp[execOp,ho,Instr.typeAssert,run_underlying hu,hv]
    ·cases h
  ·cases h
 ·rename_i T n m ho;split at h
  ·rename_i d hd;split at h
   ·rename_i E hS hu;split at h
    ·rename_i e i x y _ hi hx hy;split at h
     ·rename_i hs;simp only[qb] at h;obtain ⟨z,hz,h⟩:=h;have hxv:=zaae ht hx;have hyv:=zaae ht hy;simp only[PRel] at hxv hyv;have hxv:=hxv.int_inv;have hyv:=hyv.int_inv;obtain ⟨v,w',hv1,hv2⟩:=zane hN hI hS hu hi hs hz h;exact zaam (by simp only[execOp,ho,Sem.run_bind,hxv,hyv,hv1,Result.andThen_ok,Sem.run_pure]) hv2
     ·cases h
    ·cases h
   ·cases h
  ·cases h
 ·rename_i cl ho;split at h
  ·rename_i b hcl;split at h
   ·rename_i d hd;simp only[qb] at h;obtain ⟨ps,h1,h2⟩:=h;obtain ⟨v,w',hv1,hv2⟩:=zawq (ty:=o.type) (cs:=cl.args.map fun|.const _=>true|_=>false) hN hI h2 (zaci ht h1);refine zaam ?_ hv2;have e:(cl.args.toList.map a.eval).toArray=cl.args.map a.eval:=by apply Array.ext'; simp
    rw[e] at hv1;simp only[execOp,ho,resolve,hcl,Sem.run_bind,Sem.run_pure,Result.andThen_ok,invoke];exact hv1
   ·cases h
  ·rename_i f hcl;simp only[qb] at h;obtain ⟨ps,h1,h2⟩:=h;refine zamt hK hI ht h1 h2 (fun hc=>?_) hN;simp[execOp,ho,resolve,hcl,Act.eval,Deferred.ofValue,invoke,zacf hc]
  ·rename_i x hne hcl;split at h
   ·rename_i f cs hx;simp only[qb] at h;obtain ⟨ps,h1,h2⟩:=h;have hxv:=zaae ht hx;simp only[PRel] at hxv;obtain ⟨vs,hv,hvs⟩:=hxv;refine zayi hK hI ht h1 hvs h2 (fun hc=>?_) hN;simp[execOp,ho,resolve,hcl,hv,Deferred.ofValue,invoke,zacf hc]
   ·rename_i f hx;simp only[qb] at h;obtain ⟨ps,h1,h2⟩:=h;have hxv:=zaae ht hx;simp only[PRel] at hxv;have hxv:=hxv.fn_inv;refine zamt hK hI ht h1 h2 (fun hc=>?_) hN;simp[execOp,ho,resolve,hcl,hxv,Deferred.ofValue,invoke,zacf hc]
   ·rename_i f fst cap hx;split at h
    ·rename_i hh;simp only[qb] at h;obtain ⟨ps,h1,h2⟩:=h;have hxv:=zaae ht hx;simp only[PRel] at hxv;have ea:=Array.eq_empty_of_size_eq_zero hh.1;have eb:=Array.eq_empty_of_size_eq_zero hh.2;subst ea eb;refine zamt hK hI ht h1 h2 (fun hc=>?_) hN;simp[execOp,ho,resolve,hcl,hxv.1,Deferred.ofValue,invoke,zacf hc]
    ·cases h
   ·cases h
  ·cases h
 ·cases h
theorem zaky (hK:KitOk K V) (hI:Inv K V B G (look st) β w) {tm:Nat->Option (PV K.u.U)} {a:Act} {o:Oper} {next:Act->World->Prop} {Q:Exit->Act->World->Prop} {pc:PV K.u.U->Ups K.u.U->Option R}
  {f:FuncId} {args:Array Value} {ps:List (PV K.u.U)} {vs:List Value} (hps:PsRel K G (look st) β ps vs) (hargs:args=vs.toArray) (h:K.callFP (look st) f ps o.dst c pc=some r)
  (hrun:∀ (hc:zabo K.P f=true),(execOp a.eval o).run K.P w=.ok (.enter f args) w)
  (hN:Next K V B G st β c r fun v w'=>next (a.put o.dst v) w') (hP:Next K V B G st β pc r fun v w'=>Q (.panic [{ v:=v,recovered:=false }]) a w'):o.wp K.P a w next Q:=by
 obtain ⟨h1,h2⟩:=zaqk hK hI h hps hN hP;unfold Oper.wp;rw[hrun h1,Oper.upon_enter,hargs];exact h2.mono fun e w' he=>by
  rcases he with ⟨v,he,hv⟩|⟨v,he,hv⟩
  ·subst he; exact hv
  ·subst he; exact hv
theorem zalo (hK:KitOk K V) (hI:Inv K V B G (look st) β w) {tm:Nat->Option (PV K.u.U)} {a:Act} (ht:TmOk K G (look st) β tm a) {o:Oper} {pc:PV K.u.U->Ups K.u.U->Option R} (h:K.stepP o tm (look st) c pc=some r) {next:Act->World->Prop} {Q:Exit->Act->World->Prop}
  (hN:Next K V B G st β c r fun v w'=>next (a.put o.dst v) w') (hP:Next K V B G st β pc r fun v w'=>Q (.panic [{ v:=v,recovered:=false }]) a w'):o.wp K.P a w next Q:=by
 unfold Kit.stepP at h;split at h
 ·rename_i x ho;split at h
  ·rename_i T p hx;have hxv:=zaae ht hx;have hxv0:=hxv;simp only[PRel] at hxv;obtain ⟨y,hv,hy⟩:=hxv;have:=hP (.ifc T p) [] _ w G β h (by simpa using hI) (by simpa using Comp.refl) hxv0;unfold Oper.wp;have e:(execOp a.eval o).run K.P w=.halt (.panic (.iface T y)) w:=by
    simp only[execOp,ho,hv,Instr.panic];rfl
   rw[e,Oper.upon_panic,<-hv];exact this
  ·cases h
 ·rename_i cl ho;split at h
  ·rename_i f hcl;simp only[qb] at h;obtain ⟨ps,h1,h2⟩:=h;refine zaky hK hI (tm:=tm) (zaci ht h1) (args:=cl.args.map a.eval) (by apply Array.ext'; simp) h2 (fun hc=>?_) hN hP;simp[execOp,ho,resolve,hcl,Act.eval,Deferred.ofValue,invoke,zacf hc]
  ·rename_i x hne hcl;split at h
   ·rename_i f cs hx;simp only[qb] at h;obtain ⟨ps,h1,h2⟩:=h;have hxv:=zaae ht hx;simp only[PRel] at hxv;obtain ⟨vs,hv,hvs⟩:=hxv;refine zaky hK hI (tm:=tm) ((zaci ht h1).append hvs) (args:=cl.args.map a.eval++vs.toArray) (by apply Array.ext'; simp) h2 (fun hc=>?_) hN hP;simp[execOp,ho,resolve,hcl,hv,Deferred.ofValue,invoke,zacf hc]
   ·rename_i f fst cap hx;split at h
    ·rename_i hh;simp only[qb] at h;obtain ⟨ps,h1,h2⟩:=h;have hxv:=zaae ht hx;simp only[PRel] at hxv;have ea:=Array.eq_empty_of_size_eq_zero hh.1;have eb:=Array.eq_empty_of_size_eq_zero hh.2;subst ea eb;refine zaky hK hI (tm:=tm) (zaci ht h1) (args:=cl.args.map a.eval) (by apply Array.ext'; simp) h2 (fun hc=>?_) hN hP;simp[execOp,ho,resolve,hcl,hxv.1,Deferred.ofValue,invoke,zacf hc]
    ·cases h
   ·exact zag2 hK hI ht h hN
  ·exact zag2 hK hI ht h hN
 ·exact zag2 hK hI ht h hN
end
section
variable (K:Kit)
def footO (o:Oper) (tm:Nat->Option (PV K.u.U)):List Nat:=match o.op with
 |.fieldAddr _ x _=>match ev K tm x with
  |some (.eptr _ _ _ _)=>[]
  |_=>PV.idsL (o.op.operands.toList.filterMap (ev K tm))
 |.nilCheck x=>match ev K tm x with
  |some (.eptr _ _ _ _)=>[]
  |_=>PV.idsL (o.op.operands.toList.filterMap (ev K tm))
 |.move _=>[]
 |.assign _=>[]
 |_=>PV.idsL (o.op.operands.toList.filterMap (ev K tm))
def foot (o:Oper) (tm:Nat->Option (PV K.u.U)):List Nat:=footO K o tm++(o.dst.toList++match o.op,o.dst with
 |.load _ _,some d=>(List.range 4).map (zab3 d)
 |_,_=>[])
variable {K} {R:Type} {tm tm':Nat->Option (PV K.u.U)} {S S':Nat->Option (Ob K.u.U)} {c:PV K.u.U->Ups K.u.U->Option R}
theorem zaec {U:Nat->Type} {l:List (PV U)} {p:PV U} (hp:p∈l) {id:Nat} (hid:id∈p.ids):id∈PV.idsL l:=by
 induction l with
 |nil=>cases hp
 |cons q l ih=>
  simp only[PV.idsL,xu];cases hp with
  |head=>exact .inl hid
  |tail _ hp=>exact .inr (ih hp)
def PV.isE {U:Nat->Type}:PV U->Bool
 |.eptr _ _ _ _=>true
 |_=>false
def Op.shifts:Op->Option Operand
 |.fieldAddr _ x _=>some x
 |.nilCheck x=>some x
 |_=>none
def Op.quiet:Op->Bool
 |.move _=>true
 |.assign _=>true
 |_=>false
theorem zaj2 {o:Oper} {x:Operand} {p:PV K.u.U} {id:Nat} (hq:Op.quiet o.op=false) (hs:∀ y q,Op.shifts o.op=some y->ev K tm y=some q->q.isE=false) (hx:x∈o.op.operands.toList) (hp:ev K tm x=some p) (hid:id∈p.ids):id∈foot K o tm:=by
 unfold foot;have e:footO K o tm=PV.idsL (o.op.operands.toList.filterMap (ev K tm)):=by
  unfold footO;split
  ·rename_i y f ho;split
   ·rename_i hy;have:=hs y _ (by rw[ho]; rfl) hy;cases this
   ·rw[ho]
  ·rename_i y ho;split
   ·rename_i hy;have:=hs y _ (by rw[ho]; rfl) hy;cases this
   ·rw[ho]
  ·rename_i y ho;rw[ho] at hq;cases hq
  ·rename_i y ho;rw[ho] at hq;cases hq
  ·rfl
 rw[e];exact xu.2 (.inl (zaec (List.mem_filterMap.2 ⟨x,hx,hp⟩) hid))
theorem zaen:∀ {ps:List (PV K.u.U)} {id:Nat},id∈owned ps->id∈PV.idsL ps
 |[],id,h=>by cases h
 |p::ps,id,h=>by
  simp only[PV.idsL,xu];cases p with
  |oslc id' ver=>
   simp only[owned,List.mem_cons] at h;rcases h with rfl|h
   ·exact .inl (by simp[PV.ids])
   ·exact .inr (zaen h)
  |agg m=>
   simp only[owned,xu,List.mem_filterMap] at h;rcases h with ⟨x,hx,hx2⟩|h
   ·split at hx2
    ·cases hx2; exact .inl (by simp only[PV.ids]; exact zaec hx (by simp[PV.ids]))
    ·cases hx2; exact .inl (by simp only[PV.ids]; exact zaec hx (by simp[PV.ids]))
    ·cases hx2
   ·exact .inr (zaen h)
  |ptr id' off=>
   simp only[owned,List.mem_cons] at h;rcases h with rfl|h
   ·exact .inl (by simp[PV.ids])
   ·exact .inr (zaen h)
  |_=>exact .inr (zaen (by simpa [owned] using h))
theorem zagv {ids:List Nat} (h:∀ id∈ids,S id=S' id):frzs K.u S ids=frzs K.u S' ids:=by
 induction ids with
 |nil=>rfl
 |cons i ids ih=>
  unfold frzs at ih ⊢;rw[List.filterMap_cons,List.filterMap_cons,h i (by simp),ih (fun id hid=>h id (by simp[hid]))]
theorem zarz {U:Nat->Type} {l:List (PV U)} {id:Nat} (h:id∈PV.idsL l):∃ p∈l,id∈p.ids:=by
 induction l with
 |nil=>simp[PV.idsL] at h
 |cons q l ih=>
  simp only[PV.idsL,xu] at h;rcases h with h|h
  ·exact ⟨q,by simp,h⟩
  ·obtain ⟨p,h1,h2⟩:=ih h; exact ⟨p,by simp[h1],h2⟩
theorem zaxv {U:Nat->Type} {l m:List (PV U)}:PV.idsL (l++m)=PV.idsL l++PV.idsL m:=by
 induction l with
 |nil=>rfl
 |cons q l ih=>simp only[qp,PV.idsL,ih,qq]
theorem zaes {p:PV K.u.U} {t:Ty} (h:∀ id∈p.ids,S id=S' id):p.asOwn K.u S t=p.asOwn K.u S' t:=by
 cases p with
 |ptr id off=>
  cases off with
  |zero=>unfold PV.asOwn; simp only[]; rw[h _ (by simp[PV.ids])]
  |succ n=>rfl
 |_=>first|rfl|(unfold PV.asOwn; simp only[]; rw[h _ (by simp[PV.ids])])
theorem zahz {f g:Ty->PV K.u.U->Option (TV K.u.U)}:∀ {ts:List Ty} {ps:List (PV K.u.U)},(∀ t,∀ p∈ps,f t p=g t p)->zabj f ts ps=zabj g ts ps
 |[],[],_=>rfl
 |t::ts,p::ps,h=>by
  simp only[zabj];rw[h t p (by simp),zahz (fun t q hq=>h t q (by simp[hq]))]
 |[],_::_,_=>rfl
 |_::_,[],_=>rfl
theorem zalu {p:PV K.u.U} {t:Ty} (h:∀ id∈p.ids,S id=S' id):p.asVal K.u S t=p.asVal K.u S' t:=by
 cases p with
 |agg l=>
  unfold PV.asVal;cases t<;>try rfl
  (try simp only[])
  rw[zahz (fun t q hq=>zaes (fun id hid=>h id (by simp only[PV.ids]; exact zaec hq hid)))]
 |_=>unfold PV.asVal; exact zaes h
theorem zak5 {p:PV K.u.U} {t:Ty} (h:∀ id∈p.ids,S id=S' id):zagq K.u S t p=zagq K.u S' t p:=by
 cases p with
 |oslc id ver=>
  unfold zagq;cases t<;>first|rfl|(simp only[]; rw[h id (by simp[PV.ids])])
 |_=>cases t<;>first|rfl|(unfold zagq; split<;>first|rfl|simp_all)
theorem zasm {u:Uni} {q:PV u.U} {ys:List (PV u.U)} (h:q.cellsOf u=some ys):∀ p∈ys,∀ id∈p.ids,id∈q.ids:=by
 intro p hp id hid;cases q with
 |agg l=>simp only[PV.cellsOf,qk] at h; subst h; simp only[PV.ids]; exact zaec hp hid
 |t v=>
  simp only[PV.cellsOf,qk] at h;subst h;obtain ⟨d,_,rfl⟩:=List.mem_map.1 hp;simp[PV.ids] at hid
 |tup l=>simp[PV.cellsOf] at h
 |junk=>simp[PV.cellsOf] at h
 |_=>simp only[PV.cellsOf,qk] at h; subst h; simp only[List.mem_singleton] at hp; subst hp; exact hid
theorem zags:∀ {ts:List Ty} {ps:List (PV K.u.U)},(∀ p∈ps,∀ id∈p.ids,S id=S' id)->zab9 K.u S ts ps=zab9 K.u S' ts ps
 |[],[],_=>rfl
 |t::ts,p::ps,h=>by
  simp only[zab9];rw[zak5 (h p (by simp)),zags (fun q hq=>h q (by simp[hq]))]
 |[],_::_,_=>rfl
 |_::_,[],_=>rfl
theorem zapq {p:PV K.u.U} {t:Ty} (h:∀ id∈p.ids,S id=S' id):zahf K.u S t p=zahf K.u S' t p:=by
 unfold zahf;cases t with
 |st n=>
  simp only[];cases p with
  |agg l=>simp only[]; rw[zags (fun q hq id hid=>h id (by simp only[PV.ids]; exact zaec hq hid))]
  |_=>rfl
 |_=>exact zak5 h
theorem zai7 {t:Ty}:∀ {ps:List (PV K.u.U)},(∀ p∈ps,∀ id∈p.ids,S id=S' id)->zad6 K.u S t ps=zad6 K.u S' t ps
 |[],_=>rfl
 |p::ps,h=>by
  simp only[zad6];rw[zapq (h p (by simp)),zai7 (fun q hq=>h q (by simp[hq]))]
theorem zas2 {E:TypeId} {sz n:Nat} {qs:List (PV K.u.U)} (h:∀ p∈qs,∀ id∈p.ids,S id=S' id):K.deeps S E sz n qs=K.deeps S' E sz n qs:=by
 unfold Kit.deeps Kit.deepsAt;simp only[zai7 h]
theorem zaki {p:PV K.u.U} (h:∀ id∈p.ids,S id=S' id):p.deepRow K.u S=p.deepRow K.u S':=by
 cases p with
 |oslc id ver=>unfold PV.deepRow; simp only[]; rw[h id (by simp[PV.ids])]
 |_=>rfl
theorem zasf {d:Option Nat} {T:TypeId} {id ver i off:Nat} (h:S id=S' id) (hd:∀ j,d=some j->∀ k,k<4->S (zab3 j k)=S' (zab3 j k)):K.loadE S d T id ver i off c=K.loadE S' d T id ver i off c:=by
 unfold Kit.loadE;rw[h];cases d with
 |none=>rfl
 |some d=>
  have e:((List.range 4).all fun k=>(S (zab3 d k)).isNone)=((List.range 4).all fun k=>(S' (zab3 d k)).isNone):=by
   rw[Bool.eq_iff_iff,qy,qy];constructor
   ·intro g k hk; rw[<-hd d rfl k (List.mem_range.1 hk)]; exact g k hk
   ·intro g k hk; rw[hd d rfl k (List.mem_range.1 hk)]; exact g k hk
  simp only[e]
theorem zas3 {p:PV K.u.U} (h:∀ id∈p.ids,S id=S' id):p.lenOf S=p.lenOf S':=by
 cases p with
 |oslc id ver=>unfold PV.lenOf; (try simp only[]); rw[h id (by simp[PV.ids])]
 |bslc id n=>unfold PV.lenOf; (try simp only[]); rw[h id (by simp[PV.ids])]
 |win id ver i=>unfold PV.lenOf; (try simp only[]); rw[h id (by simp[PV.ids])]
 |t v=>obtain ⟨t,x⟩:=v; cases t<;>rfl
 |_=>unfold PV.lenOf; first|rfl|(split<;>first|rfl|simp_all)
theorem zau4 {p:PV K.u.U} {src dst:TypeId} {c:TV K.u.U->Option R} (h:∀ id∈p.ids,S id=S' id):K.conv S src dst p c=K.conv S' src dst p c:=by
 have ha:∀ t,p.asOwn K.u S t=p.asOwn K.u S' t:=fun t=>by
  cases p with
  |agg l=>rfl
  |_=>exact zaes h
 unfold Kit.conv;simp only[ha]
theorem zapx {d:Option Nat} {src E:TypeId} {p:PV K.u.U} (hd:∀ i,d=some i->S i=S' i):K.toBytes d S src E p c=K.toBytes d S' src E p c:=by
 unfold Kit.toBytes;cases d with
 |none=>rfl
 |some i=>
  have e:=hd i rfl;cases p with
  |t v=>obtain ⟨t,x⟩:=v; cases t<;>first|rfl|(simp only[]; rw[e])
  |_=>rfl
theorem zav3 {T:TypeId} {p:PV K.u.U} {lo hi:Option (PV K.u.U)} (h:∀ id∈p.ids,S id=S' id):K.slc S T p lo hi c=K.slc S' T p lo hi c:=by
 unfold Kit.slc;cases p with
 |oslc id ver=>(try simp only[]); rw[h id (by simp[PV.ids]),zagv (S:=S) (S':=S') (ids:=[id]) (fun i hi=>by simp at hi; subst hi; exact h i (by simp[PV.ids]))]
 |t v=>obtain ⟨t,x⟩:=v; cases t<;>first|rfl|(split<;>rfl)
 |_=>first|rfl|(split<;>rfl)
theorem zauh {T:TypeId} {p h m:PV K.u.U} (hp:∀ id∈p.ids,S id=S' id):K.clip S T p h m c=K.clip S' T p h m c:=by
 unfold Kit.clip;split
 ·split
  ·cases p with
   |oslc id ver=>(try simp only[]); rw[hp id (by simp[PV.ids])]
   |t v=>obtain ⟨t,x⟩:=v; cases t<;>rfl
   |_=>rfl
  ·rfl
 ·rfl
theorem zap3 {d:Nat} {argT:Array TypeId} {p q:PV K.u.U} (hp:∀ id∈p.ids,S id=S' id) (hq:∀ id∈q.ids,S id=S' id) (hd:S d=S' d):K.appendP d S argT p q c=K.appendP d S' argT p q c:=by
  have ha:∀ t,q.asOwn K.u S t=q.asOwn K.u S' t:=fun t=>by
    cases q with
    |agg l=>rfl
    |_=>exact zaes hq
  unfold Kit.appendP;simp only[ha,hd];cases p with
  |oslc id ver=>(try simp only[]); rw[hp id (by simp[PV.ids])]
  |k v=>
    have:∀ (X:Option R) (F F':Nat->Nat->Option R),(match (PV.k v:PV K.u.U) with|.k (.slice none 0 0)=>X|.oslc id ver=>F id ver|_=>none)=(match (PV.k v:PV K.u.U) with|.k (.slice none 0 0)=>X|.oslc id ver=>F' id ver|_=>none):=by
      intro X F F';split<;>first|rfl|simp_all
    repeat' split
    all_goals first|rfl|simp_all
  | _ => repeat' split
         all_goals first|rfl|simp_all
theorem zapv {d qid:Nat} {argT:Array TypeId} {p:PV K.u.U} (hp:∀ id∈p.ids,S id=S' id) (hq:S qid=S' qid) (hd:S d=S' d):K.appendD d S argT p qid c=K.appendD d S' argT p qid c:=by
  unfold Kit.appendD;simp only[hd,hq];cases p with
  |oslc id ver=>(try simp only[]); rw[hp id (by simp[PV.ids])]
  |k v=>
    repeat' split
    all_goals first|rfl|simp_all
  | _ => repeat' split
         all_goals first|rfl|simp_all
theorem zaql {T:TypeId} {p lo h m:PV K.u.U} (hp:∀ id∈p.ids,S id=S' id):K.window S T p lo h m c=K.window S' T p lo h m c:=by
 unfold Kit.window;split
 ·split
  ·cases p with
   |oslc id ver=>(try simp only[]); rw[hp id (by simp[PV.ids])]
   |_=>rfl
  ·rfl
 ·rfl
theorem zapw {d id ver i qid:Nat} {argT:Array TypeId} (h1:S id=S' id) (h2:S qid=S' qid) (hd:S d=S' d):K.appendW d S argT id ver i qid c=K.appendW d S' argT id ver i qid c:=by
 unfold Kit.appendW;simp only[h1,h2,hd]
theorem zaqo {d:Nat} {argT:Array TypeId} {p q:PV K.u.U} (hp:∀ id∈p.ids,S id=S' id) (hq:∀ id∈q.ids,S id=S' id) (hd:S d=S' d):K.append d S argT p q c=K.append d S' argT p q c:=by
 unfold Kit.append;rw[<-zaki hq];split
 ·rename_i id ver i hw;have e:p=.win id ver i:=by
   unfold PV.winOf at hw;split at hw
   ·cases hw; rfl
   ·cases hw
  subst e;split
  ·rename_i qid qver;have e2:=hq qid (by simp[PV.ids]);rw[zapw (hp id (by simp[PV.ids])) e2 hd,e2]
  ·rfl
 ·cases hr:q.deepRow K.u S with
  |none=>exact zap3 hp hq hd
  |some qid=>
   refine zapv hp (hq qid ?_) hd;unfold PV.deepRow at hr;split at hr
   ·split at hr
    ·split at hr
     ·cases hr; simp[PV.ids]
     ·cases hr
    ·cases hr
   ·cases hr
theorem zap4 {d:Nat} {argT:Array TypeId} {p:PV K.u.U} {s:List UInt8} (hp:∀ id∈p.ids,S id=S' id) (hd:S d=S' d):K.appendS d S argT p s c=K.appendS d S' argT p s c:=by
  unfold Kit.appendS;simp only[hd];cases p with
  |oslc id ver=>(try simp only[]); rw[hp id (by simp[PV.ids])]
  |k v=>
    repeat' split
    all_goals first|rfl|simp_all
  | _ => repeat' split
         all_goals first|rfl|simp_all
theorem zawd {d:Nat} {b:Builtin} {argT:Array TypeId} {ps:List (PV K.u.U)} (h:∀ p∈ps,∀ id∈p.ids,S id=S' id) (hd:S d=S' d):K.blt d S b argT ps c=K.blt d S' b argT ps c:=by
 unfold Kit.blt;split
 ·rename_i p;split
  ·rfl
  ·split
   ·rfl
   ·rw[zas3 (h p (by simp))]
  ·rfl
 ·rfl
 ·rfl
 ·rename_i p s;exact zap4 (h p (by simp)) hd
 ·rename_i p q _;exact zaqo (h p (by simp)) (h q (by simp)) hd
 ·rename_i id ver q;have ha:∀ t,q.asOwn K.u S t=q.asOwn K.u S' t:=fun t=>by
   cases q with
   |agg l=>rfl
   |_=>exact zaes (h _ (by simp))
  have hi:S id=S' id:=h (.oslc id ver) (by simp) id (by simp[PV.ids]);simp only[ha,hi,zaki (S:=S) (S':=S') (h q (by simp))]
 ·rfl
theorem zafi:∀ {l:List Operand},(∀ x∈l,ev K tm x=ev K tm' x)->evs K tm l=evs K tm' l
 |[],_=>rfl
 |x::l,h=>by simp only[evs]; rw[h x (by simp),zafi (fun y hy=>h y (by simp[hy]))]
theorem zalg:∀ {l:List Operand} {ps:List (PV K.u.U)},evs K tm l=some ps->∀ p∈ps,∃ x∈l,ev K tm x=some p
 |[],ps,h,p,hp=>by simp[evs] at h; subst h; cases hp
 |x::l,ps,h,p,hp=>by
  simp only[evs,qb] at h;obtain ⟨q,h1,qs,h2,h3⟩:=h;simp at h3;subst h3;cases hp with
  |head=>exact ⟨x,by simp,h1⟩
  |tail _ hp=>obtain ⟨y,hy,he⟩:=zalg h2 p hp; exact ⟨y,by simp[hy],he⟩
theorem zalz:∀ {l:List (Nat×Operand)},(∀ x∈l,ev K tm x.2=ev K tm' x.2)->zipEv K tm l=zipEv K tm' l
 |[],_=>rfl
 |(i,x)::l,h=>by simp only[zipEv]; rw[h (i,x) (by simp),zalz (fun y hy=>h y (by simp[hy]))]
theorem zamb:∀ {fs:List Find} {acc env:List (Nat×Nat)},zaef tm S fs acc=some env->∀ x∈acc,x∈env
 |[],acc,env,h,x,hx=>by simp[zaef] at h; subst h; exact hx
 |f::fs,acc,env,h,x,hx=>by
  simp only[zaef] at h;split at h
  ·exact zamb h x (by simp[hx])
  ·cases h
theorem zakk : ∀ {fs : List Find} {acc env : List (Nat × Nat)}, zaef tm S fs acc = some env -> (∀ id ∈ env.map (·.2), S id = S' id) -> zaef tm S' fs acc = some env
 |[],acc,env,h,_=>by simpa [zaef] using h
 |f::fs,acc,env,h,hS=>by
  simp only[zaef] at h ⊢;split at h
  ·rename_i id off heq;have e:zam1 tm S' acc f.loc=zam1 tm S acc f.loc:=by
    cases f.loc with
    |slot s=>rfl
    |sub s j=>rfl
    |here n=>rfl
    |cell n j=>
     simp only[zam1];cases hl:look acc n with
     |none=>rfl
     |some i=>
      simp only[qa];rw[hS i (List.mem_map.2 ⟨(n,i),zamb h (n,i) (by simp[zaa7 hl]),rfl⟩)]
   rw[e,heq];exact zakk h hS
  ·cases h
mutual
theorem zaf3 {objs : List Nat} {rn : List (RowNow K.u.U)} (h : ∀ i ∈ rn.filterMap (·.src), S i = S' i) : ∀ (p : PV K.u.U), zaap S false objs rn p = zaap S' false objs rn p
 |.t v=>by simp only[zaap]
 |.junk=>by simp only[zaap]
 |.ub=>by simp only[zaap]
 |.k v=>by simp only[zaap]
 |.rptr v o=>by simp only[zaap]
 |.ptr id off=>by simp only[zaap]
 |.selfp id=>by simp only[zaap]
 |.bslc id n=>by simp only[zaap]
 |.eptr id ver i off=>by
  simp only[zaap];cases hr:renOf rn id with
  |none=>rfl
  |some cc=>
   obtain ⟨x,h1,h2,_⟩:=zac4 hr;rw[h id (List.mem_filterMap.2 ⟨x,h1,h2⟩)]
 |.win id ver i=>by
  simp only[zaap];cases hr:renOf rn id with
  |none=>rfl
  |some cc=>
   obtain ⟨x,h1,h2,_⟩:=zac4 hr;rw[h id (List.mem_filterMap.2 ⟨x,h1,h2⟩)]
 |.oslc id ver=>by
  simp only[zaap];cases hr:renOf rn id with
  |none=>rfl
  |some cc=>
   obtain ⟨x,h1,h2,_⟩:=zac4 hr;rw[h id (List.mem_filterMap.2 ⟨x,h1,h2⟩)]
 |.agg l=>by simp only[zaap]; rw[zac3 h l]
 |.tup l=>by simp only[zaap]; rw[zac3 h l]
 |.clo f l=>by simp only[zaap]; rw[zac3 h l]
 |.ifc T p=>by simp only[zaap]; rw[zaf3 h p]
theorem zac3 {objs : List Nat} {rn : List (RowNow K.u.U)} (h : ∀ i ∈ rn.filterMap (·.src), S i = S' i) : ∀ (l : List (PV K.u.U)), zab7 S false objs rn l = zab7 S' false objs rn l
 |[]=>by simp only[zab7]
 |p::l=>by simp only[zab7]; rw[zaf3 h p,zac3 h l]
end
theorem zahx {objs:List Nat} {rn:List (RowNow K.u.U)} (h:∀ i∈rn.filterMap (·.src),S i=S' i) {loc:Loc} {p:PV K.u.U}:zage S false objs rn loc p=zage S' false objs rn loc p:=by
 unfold zage;rw[zaf3 h p]
theorem zajl {objs : List Nat} {rn : List (RowNow K.u.U)} (h : ∀ i ∈ rn.filterMap (·.src), S i = S' i) {s : Nat} : ∀ {l : List (PV K.u.U)} {j : Nat}, zad1 S false objs rn s j l = zad1 S' false objs rn s j l
 |[],j=>rfl
 |p::l,j=>by simp only[zad1]; rw[zahx h,zajl h]
theorem zaoq {objs:List Nat} {rn:List (RowNow K.u.U)} (h:∀ i∈rn.filterMap (·.src),S i=S' i) {s:Nat} {p:PV K.u.U}:zae1 S false objs rn s p=zae1 S' false objs rn s p:=by
 unfold zae1;cases p<;>first|(simp only[zajl h]; done)|exact zahx h
theorem zaid {objs : List Nat} {rn : List (RowNow K.u.U)} (h : ∀ i ∈ rn.filterMap (·.src), S i = S' i) {id : Nat} : ∀ {l : List (PV K.u.U)} {j : Nat}, zacp S false objs rn id j l = zacp S' false objs rn id j l
 |[],j=>rfl
 |p::l,j=>by simp only[zacp]; rw[zahx h,zaid h]
theorem zakc {objs : List Nat} {rn : List (RowNow K.u.U)} (h : ∀ i ∈ rn.filterMap (·.src), S i = S' i) : ∀ {ids : List Nat}, (∀ i ∈ ids, S i = S' i) -> zadz S false objs rn ids = zadz S' false objs rn ids
 |[],_=>rfl
 |id::ids,hi=>by
  simp only[zadz];rw[<-hi id (by simp),zakc h (fun i h=>hi i (by simp[h]))];cases S id with
  |none=>rfl
  |some o=>cases o<;>simp only[zaid h]
theorem zaks {objs : List Nat} {rn : List (RowNow K.u.U)} (h : ∀ i ∈ rn.filterMap (·.src), S i = S' i) : ∀ {ss : List Nat}, zafj tm S false objs rn ss = zafj tm S' false objs rn ss
 |[]=>rfl
 |s::ss=>by
  simp only[zafj];rw[zaks h];cases tm s with
  |none=>rfl
  |some p=>simp only[zaoq h]
theorem zakd {env : List (Nat × Nat)} (he : ∀ id ∈ env.map (·.2), S id = S' id) : ∀ {rs : List RowAnn} {rn : List (RowNow K.u.U)}, (∀ r ∈ rs, ∀ id j, r.loc = .cell id j -> id ∈ env.map (·.2)) -> zadr tm S false rs = some rn -> (∀ i ∈ rn.filterMap (·.src), S i = S' i) -> zadr tm S' false rs = some rn
 |[],rn,_,h,_=>by simpa [zadr] using h
 |r::rs,rn,hl,h,hs=>by
  simp only[zadr,qb] at h;obtain ⟨x,h1,xs,h2,h3⟩:=h;cases h3;have hlp:locPV tm S' r.loc=locPV tm S r.loc:=by
   cases hc:r.loc with
   |slot s=>rfl
   |sub s j=>rfl
   |here n=>rfl
   |cell id j=>simp only[locPV]; rw[he id (hl r (by simp) id j hc)]
  have h1':zakq tm S' false r=some x:=by
   obtain ⟨e,_,hh⟩:=zama h1;unfold zakq at h1 ⊢;rw[hlp];rcases hh with ⟨e1,_,_,e3⟩|⟨id,e1,e2,e3⟩
   ·rw[e3] at h1 ⊢; exact h1
   ·have:=hs id (by simp[e1]);rcases e2 with e2|⟨k,e2⟩ <;>
    ·rw[e2] at h1 ⊢;simp only at h1 ⊢;rw[<-this];exact h1
  simp only[zadr,qb];refine ⟨x,h1',xs,zakd he (fun r hr=>hl r (by simp[hr])) h2 (fun i hi=>hs i ?_),rfl⟩;rw[List.filterMap_cons];cases x.src<;>simp_all
theorem zaug {env : List (Nat × Nat)} (he : ∀ id ∈ env.map (·.2), S id = S' id) {A : Ann} {x : St K.u.U × List (RowNow K.u.U)} (hl : ∀ r ∈ A.rows, ∀ id j, r.loc = .cell id j -> id ∈ env.map (·.2)) (ho : ∀ i ∈ A.objs, S i = S' i)
  (h:mask tm S false A=some x) (hs:∀ i∈x.2.filterMap (·.src),S i=S' i):mask tm S' false A=some x:=by
 unfold mask at h ⊢;simp only[qb] at h ⊢;obtain ⟨rn,h1,obs,h2,h3⟩:=h;have hx:x.2=rn:=by
  split at h3
  ·cases h3; rfl
  ·cases h3
 rw[hx] at hs;refine ⟨rn,zakd he hl h1 hs,obs,by rw[<-zakc hs ho]; exact h2,?_⟩;have ero:zacd S' false A.objs rn=zacd S false A.objs rn:=by
  unfold zacd rowOb;refine List.map_congr_left (fun y _=>?_);split
  ·rfl
  ·rw[zac3 hs]
 rw[<-zaks (S:=S) hs,ero];exact h3
theorem zakr : ∀ {ss : List Sh} {is : List Nat} {ps : List (PV K.u.U)} {id : Nat}, id ∈ wants (fun i => ps[i]?) ss is -> id ∈ PV.idsL ps
 |[],_,ps,id,h=>by simp[wants] at h
 |_::_,[],ps,id,h=>by simp[wants] at h
 |s::ss,i::is,ps,id,h=>by
  simp only[wants,xu] at h;rcases h with h|h
  ·split at h
   ·split at h
    ·rename_i p hp;exact zaec (List.mem_of_getElem? hp) (by have:=zaen h; simpa [PV.idsL] using this)
    ·cases h
   ·cases h
  ·exact zakr h
theorem zalq {σ : St K.u.U} {ps : List (PV K.u.U)} (h : ∀ id ∈ PV.idsL ps, S id = S' id) : ∀ {ss : List Sh} {is : List Nat}, tmFit K.u (fun i => ps[i]?) S σ ss is = tmFit K.u (fun i => ps[i]?) S' σ ss is
 |[],[]=>rfl
 |s::ss,i::is=>by
  simp only[tmFit];rw[zalq h];congr 1;split
  ·cases hp:ps[i]? with
   |none=>rfl
   |some p=>simp only[qa]; rw[zalu (fun id hid=>h id (zaec (List.mem_of_getElem? hp) hid))]
  ·rfl
 |[],_::_=>rfl
 |_::_,[]=>rfl
theorem zaua {m:Mode K.u.U} {ps:List (PV K.u.U)} {x:Came K.u.U} (h:come K.u m ps S=some x) (hp:∀ id∈PV.idsL ps,S id=S' id) (hx:∀ id∈x.env.map (·.2)++x.rows.map (·.2.1),S id=S' id):come K.u m ps S'=some x:=by
 unfold come at h ⊢;simp only[qb] at h ⊢;obtain ⟨env,h1,y,h2,h3⟩:=h;have h4:=h3;split at h4
 ·rename_i hc;simp only[qb,qk] at h4;obtain ⟨a,ha,b,hb,rfl⟩:=h4;simp only at hx;have he:∀ id∈env.map (·.2),S id=S' id:=fun id hid=>hx id (xu.2 (.inl hid))
  have hw:frzs K.u S (wants (fun i=>ps[i]?) m.sh.tm m.sh.slots)=frzs K.u S' (wants (fun i=>ps[i]?) m.sh.tm m.sh.slots):=zagv (fun id hid=>hp id (zakr hid));have lo:∀ {i:Nat},S i=S' i->zahv (frzs K.u S (wants (fun i=>ps[i]?) m.sh.tm m.sh.slots)) S i=zahv (frzs K.u S' (wants (fun i=>ps[i]?) m.sh.tm m.sh.slots)) S' i:=fun {i} h=>by
   unfold zahv;rw[hw,h]
  refine ⟨env,zakk h1 he,y,?_,?_⟩
  ·refine zaug (env:=env) (fun id hid=>lo (he id hid)) (fun r hr id j hl=>?_) (fun i hi=>lo (he i ?_)) h2 (fun i hi=>lo (hx i (xu.2 (.inr ?_))))
   ·simp only[zag9,List.mem_map] at hr;obtain ⟨r0,_,rfl⟩:=hr;simp only[zavi] at hl;split at hl
    ·cases hl
    ·split at hl
     ·rename_i n j' id' hlk;cases hl;exact List.mem_map.2 ⟨_,zaa7 hlk,rfl⟩
     ·cases hl
    ·cases hl
    ·cases hl
   ·simp only[zag9,List.mem_filterMap] at hi;obtain ⟨n,_,hn⟩:=hi;exact List.mem_map.2 ⟨_,zaa7 hn,rfl⟩
   ·simp only[List.mem_filterMap] at hi;obtain ⟨z,z1,z2⟩:=hi;exact List.mem_map.2 ⟨(z.ann.id-zag8,i,z.ver),List.mem_filterMap.2 ⟨z,z1,by rw[z2]⟩,rfl⟩
  ·rw[if_pos hc];simp only[qb,qk];exact ⟨a,by rw[<-zalq hp]; exact ha,b,hb,rfl⟩
 ·cases h4
theorem zam0 {x:Came K.u.U} {d:Nat} {τ:St K.u.U} {fz:List (Nat×Ob K.u.U)} {y:PV K.u.U×List (Nat×Ob K.u.U)} (h:went K.u x d S τ fz=some y):(∀ id∈x.env.map (·.2)++x.rows.map (·.2.1),id∈y.2.map (·.1))/\∀ n∈τ.st.map (·.1),(zacm K.u x d n).1∈y.2.map (·.1):=by
 unfold went at h;split at h
 ·cases h;refine ⟨fun id hid=>?_,fun n hn=>?_⟩
  ·simp only[List.map_append,xu];refine .inr (.inl ?_);simp only[deads,List.map_map];exact List.mem_map.2 ⟨id,hid,rfl⟩
  ·simp only[List.map_append,xu];refine .inl ?_;obtain ⟨z,z1,rfl⟩:=List.mem_map.1 hn;simp only[renSt,List.map_map];exact List.mem_map.2 ⟨z,z1,rfl⟩
 ·cases h
theorem zau3 {x:Came K.u.U} {d:Nat} {τ:St K.u.U} {fz:List (Nat×Ob K.u.U)} {y:PV K.u.U×List (Nat×Ob K.u.U)} (h:went K.u x d S τ fz=some y) (hs:∀ id∈y.2.map (·.1),S id=S' id):went K.u x d S' τ fz=some y:=by
 have hu:=(zam0 h).2;have h0:=h;unfold went at h ⊢;have e:((zai0 K.u x (τ.st.map (·.1))).all fun n=>(S (zacm K.u x d n).1).isNone)=((zai0 K.u x (τ.st.map (·.1))).all fun n=>(S' (zacm K.u x d n).1).isNone):=by
  have:∀ (l:List Nat),(∀ n∈l,n∈τ.st.map (·.1))->(l.all fun n=>(S (zacm K.u x d n).1).isNone)=(l.all fun n=>(S' (zacm K.u x d n).1).isNone):=by
   intro l;induction l with
   |nil=>intro _; rfl
   |cons n l ih=>
    intro hn;simp only[xv];rw[ih (fun m hm=>hn m (by simp[hm])),hs _ (hu n (hn n (by simp)))]
  exact this _ (fun n hn=>by simp only[zai0,List.mem_filter] at hn; exact hn.1)
 have hr:=(zam0 h0).1;have e2:(τ.st.all fun z=>zaho K.u x d S z)=(τ.st.all fun z=>zaho K.u x d S' z):=by
  congr 1;funext z;unfold zaho;cases hl:zacu x.rows z.1 with
  |none=>rfl
  |some q=>
   obtain ⟨id,ver⟩:=q;simp only[];rw[hs id (hr id (xu.2 (.inr (List.mem_map.2 ⟨_,zaiq hl,rfl⟩))))]
 rw[<-e,<-e2];exact h
theorem zahs {ps : List (PV K.u.U)} {d : Nat} {y : PV K.u.U × Ups K.u.U} : ∀ {ms : List (Mode K.u.U)}, (K.callMs S ps d (fun p up => some (p, up)) ms) = some y -> (∀ id ∈ PV.idsL ps, S id = S' id) -> (∀ id ∈ y.2.map (·.1), S id = S' id) ->
  (K.callMs S' ps d (fun p up=>some (p,up)) ms)=some y
 |[],h,_,_=>by simp[Kit.callMs] at h
 |m::ms,h,hp,hu=>by
  simp only[Kit.callMs] at h ⊢;cases hpre:zad9 m.sh.tm ps with
  |false=>rw[hpre] at h; exact zahs h hp hu
  |true=>
   rw[hpre] at h;simp only[qg,Tr.on_eq,qb] at h ⊢;obtain ⟨x,hx,r,hr,o,ho,h⟩:=h;cases hpn:o.isPan with
   |true=>rw[hpn] at h; cases h
   |false=>
   rw[hpn,qf] at h;simp only[qb] at h;obtain ⟨z,hz,h⟩:=h;have hzy:z=y:=by obtain ⟨z1,z2⟩:=z; obtain ⟨y1,y2⟩:=y; simpa using h
   subst hzy;refine ⟨x,zaua hx hp (fun id hid=>hu id ((zam0 hz).1 id hid)),r,hr,o,ho,?_⟩;rw[hpn,qf];simp only[qb];refine ⟨z,?_,h⟩;rw[<-zagv (S:=S) (fun id hid=>hp id (zakr hid))];exact zau3 hz hu
theorem zaga {f : FuncId} {ps : List (PV K.u.U)} {d : Option Nat} {y : PV K.u.U × Ups K.u.U} (h : (K.callF S f ps d fun p up => some (p, up)) = some y) (hp : ∀ id ∈ PV.idsL ps, S id = S' id) (hu : ∀ id ∈ y.2.map (·.1), S id = S' id) :
  (K.callF S' f ps d fun p up=>some (p,up))=some y:=by
 cases d with
 |none=>exact zahs h hp hu
 |some d=>exact zahs h hp hu
theorem zase {o:Oper} (hnc:∀ cl x,o.op=.call cl->cl.callee≠.value x) (h1:∀ x∈o.op.operands.toList,ev K tm x=ev K tm' x) (h2:∀ id∈foot K o tm,S id=S' id):K.step o tm S c=K.step o tm' S' c:=by
 have hdst:∀ d,o.dst=some d->S d=S' d:=fun d hd=>h2 d (by simp[foot,hd])
 cases hq:Op.quiet o.op with
 |true=>
  unfold Kit.step;cases ho:o.op with
  |move x=>simp only[]; rw[h1 x (by simp[ho,Op.operands])]
  |assign x=>simp only[]; rw[h1 x (by simp[ho,Op.operands])]
  |_=>rw[ho] at hq; first|done|cases hq
 |false=>
 by_cases he:∃ x p,Op.shifts o.op=some x/\ev K tm x=some p/\p.isE=true
 ·obtain ⟨x,p,e1,e2,e3⟩:=he;cases p with
  |eptr id ver i off=>
   unfold Kit.step;cases ho:o.op with
   |fieldAddr T y f=>
    rw[ho] at e1;cases e1
    (try simp only[])
    rw[<-h1 x (by simp[ho,Op.operands]),e2]
   |nilCheck y=>
    rw[ho] at e1;cases e1
    (try simp only[])
    rw[<-h1 x (by simp[ho,Op.operands]),e2]
   |_=>rw[ho] at e1; first|done|cases e1
  |_=>cases e3
 have hsh:∀ y q,Op.shifts o.op=some y->ev K tm y=some q->q.isE=false:=fun y q h1 h2=>by
  cases hq:q.isE with
  |false=>rfl
  |true=>exact absurd ⟨y,q,h1,h2,hq⟩ he
 have one:∀ {x:Operand} {p:PV K.u.U},x∈o.op.operands.toList->ev K tm x=some p->∀ id∈p.ids,S id=S' id:=fun hx hp id hid=>h2 id (zaj2 hq hsh hx hp hid)
 have lstL:∀ {l:List Operand} {ps:List (PV K.u.U)},(∀ x∈l,x∈o.op.operands.toList)->evs K tm l=some ps->∀ id∈PV.idsL ps,S id=S' id:=fun hl hps id hid=>by
  obtain ⟨p,hp,hi⟩:=zarz hid;obtain ⟨x,hx,he⟩:=zalg hps p hp;exact h2 id (zaj2 hq hsh (hl x hx) he hi)
 have lst:∀ {l:List Operand} {ps:List (PV K.u.U)},(∀ x∈l,x∈o.op.operands.toList)->evs K tm l=some ps->∀ p∈ps,∀ id∈p.ids,S id=S' id:=fun hl hps p hp id hid=>by
  obtain ⟨x,hx,he⟩:=zalg hps p hp;exact one (hl x hx) he id hid
 unfold Kit.step;cases ho:o.op with
 |move x=>simp only[]; rw[h1 x (by simp[ho,Op.operands])]
 |assign x=>simp only[]; rw[h1 x (by simp[ho,Op.operands])]
 |pick x y z=>simp only[]; rw[h1 x (by simp[ho,Op.operands]),h1 y (by simp[ho,Op.operands]),h1 z (by simp[ho,Op.operands])]
 |alloc T=>
  (try simp only[])
  cases hd:o.dst with
  |none=>rfl
  |some d=>(try simp only[]); rw[hdst d hd]
 |box T x=>
  (try simp only[])
  cases hd:o.dst with
  |none=>rfl
  |some d=>(try simp only[]); rw[hdst d hd,h1 x (by simp[ho,Op.operands])]
 |build T ps=>
  (try simp only[])
  rw[zalz (fun y hy=>h1 y.2 (by simp only[ho,Op.operands]; exact xx hy))]
 |buildSlice T n ps=>
  (try simp only[])
  cases hd:o.dst with
  |none=>rfl
  |some d=>
   (try simp only[])
   rw[hdst d hd];have hl:∀ x∈ps.toList.map (·.2),x∈o.op.operands.toList:=fun x hx=>by simp only[ho,Op.operands]; exact hx
   rw[<-zafi (tm:=tm) (fun x hx=>h1 x (hl x hx))];cases hq:evs K tm (ps.toList.map (·.2)) with
   |none=>rfl
   |some qs=>
    simp only[qa];have:∀ ts,zabj (PV.asVal K.u S) ts qs=zabj (PV.asVal K.u S') ts qs:=fun ts=>zahz (fun t p hp=>zalu (lst hl hq p hp))
    have hfz:frzs K.u S (owned qs)=frzs K.u S' (owned qs):=zagv (fun id hid=>lstL hl hq id (zaen hid));simp only[this,hfz,zas2 (S:=S) (S':=S') (lst hl hq)]
 |load T x=>
  (try simp only[])
  rw[<-h1 x (by simp[ho,Op.operands])];cases hx:ev K tm x with
  |none=>rfl
  |some p=>
   cases p with
   |eptr id ver i off=>
    have e:=one (by simp[ho,Op.operands]) hx id (by simp[PV.ids]);refine zasf e (fun d hd k hk=>h2 _ ?_);unfold foot;rw[ho,hd];exact xu.2 (.inr (xu.2 (.inr (List.mem_map.2 ⟨k,List.mem_range.2 hk,rfl⟩))))
   |_=>first|rfl|((try simp only[]); rw[one (by simp[ho,Op.operands]) hx _ (by simp[PV.ids])])
 |store T x y=>
  (try simp only[])
  rw[<-h1 x (by simp[ho,Op.operands]),<-h1 y (by simp[ho,Op.operands])];cases hx:ev K tm x with
  |none=>rfl
  |some p=>
   cases p with
   |eptr id ver i off=>
    have e:=one (x:=x) (by simp[ho,Op.operands]) hx id (by simp[PV.ids]);simp only[e];cases hy:ev K tm y with
    |none=>rfl
    |some q=>
     simp only[qa];cases hc:q.cellsOf K.u with
     |none=>rfl
     |some ys=>
      simp only[qa];have:∀ ts,zab9 K.u S ts ys=zab9 K.u S' ts ys:=fun ts=>zags (fun p hp id hid=>one (x:=y) (by simp[ho,Op.operands]) hy id (zasm hc p hp id hid))
      simp only[Kit.storeD,this]
   |_=>first|rfl|((try simp only[]); rw[one (x:=x) (by simp[ho,Op.operands]) hx _ (by simp[PV.ids])])
 |nilCheck x=>
  (try simp only[])
  rw[<-h1 x (by simp[ho,Op.operands])];cases hx:ev K tm x with
  |none=>rfl
  |some p=>cases p<;>first|rfl|((try simp only[]); rw[one (by simp[ho,Op.operands]) hx _ (by simp[PV.ids])])
 |binOp op T x y ty=>simp only[]; rw[h1 x (by simp[ho,Op.operands]),h1 y (by simp[ho,Op.operands])]
 |unOp op T x=>simp only[]; rw[h1 x (by simp[ho,Op.operands])]
 |convert s d x=>
  (try simp only[])
  rw[<-h1 x (by simp[ho,Op.operands])];cases hx:ev K tm x with
  |none=>simp only[xb]
  |some p=>
   simp only[qa];split
   ·exact zapx (fun i hi=>hdst i hi)
   ·exact zau4 (one (by simp[ho,Op.operands]) hx)
 |slice T x lo hi mx=>
  cases mx with
  |some mx=>
   cases lo with
   |some lo=>
    cases hi with
    |none=>rfl
    |some hi=>
     (try simp only[])
     rw[<-h1 x (by simp[ho,Op.operands]),<-h1 lo (by simp[ho,Op.operands]),<-h1 hi (by simp[ho,Op.operands]),<-h1 mx (by simp[ho,Op.operands])];cases hx:ev K tm x with
     |none=>rfl
     |some p=>simp only[qa,zaql (one (x:=x) (by simp[ho,Op.operands]) hx)]
   |none=>
    cases hi with
    |none=>rfl
    |some hi=>
     (try simp only[])
     rw[<-h1 x (by simp[ho,Op.operands]),<-h1 hi (by simp[ho,Op.operands]),<-h1 mx (by simp[ho,Op.operands])];cases hx:ev K tm x with
     |none=>rfl
     |some p=>simp only[qa,zauh (one (x:=x) (by simp[ho,Op.operands]) hx)]
  |none=>
   (try simp only[])
   rw[<-h1 x (by simp[ho,Op.operands])];have hlo:evOpt K tm lo=evOpt K tm' lo:=by
    cases lo with
    |none=>rfl
    |some y=>simp only[evOpt]; rw[h1 y (by simp[ho,Op.operands])]
   have hhi:evOpt K tm hi=evOpt K tm' hi:=by
    cases hi with
    |none=>rfl
    |some y=>simp only[evOpt]; rw[h1 y (by simp[ho,Op.operands])]
   rw[hlo,hhi];cases hx:ev K tm x with
   |none=>rfl
   |some p=>simp only[qa,zav3 (one (x:=x) (by simp[ho,Op.operands]) hx)]
 |fieldAddr T x f=>
  (try simp only[])
  rw[<-h1 x (by simp[ho,Op.operands])];cases hx:ev K tm x with
  |none=>rfl
  |some p=>cases p<;>first|rfl|((try simp only[]); rw[one (by simp[ho,Op.operands]) hx _ (by simp[PV.ids])])
 |indexAddr T x ix=>
  (try simp only[])
  rw[<-h1 x (by simp[ho,Op.operands]),<-h1 ix (by simp[ho,Op.operands])];cases hx:ev K tm x with
  |none=>rfl
  |some p=>cases p with
   |oslc id ver=>(try simp only[]); rw[one (x:=x) (by simp[ho,Op.operands]) hx _ (by simp[PV.ids])]
   |bslc id m=>(try simp only[]); rw[one (x:=x) (by simp[ho,Op.operands]) hx _ (by simp[PV.ids])]
   |win id ver m=>(try simp only[]); rw[one (x:=x) (by simp[ho,Op.operands]) hx _ (by simp[PV.ids])]
   |t v=>
    obtain ⟨t,z⟩:=v;cases t<;>first|rfl|(repeat' split)<;>first|rfl|simp_all
   |_=>rfl
 |index T x ix=>simp only[]; rw[h1 x (by simp[ho,Op.operands]),h1 ix (by simp[ho,Op.operands])]
 |field T x f=>simp only[]; rw[h1 x (by simp[ho,Op.operands])]
 |extract x i=>simp only[]; rw[h1 x (by simp[ho,Op.operands])]
 |range T x=>
  (try simp only[])
  rw[<-h1 x (by simp[ho,Op.operands])];cases hd:o.dst with
  |none=>rfl
  |some d=>
   have:=hdst d hd
   (repeat' split)<;>simp_all
 |next x b=>
  cases b with
  |false=>rfl
  |true=>
   (try simp only[])
   rw[<-h1 x (by simp[ho,Op.operands])];cases hx:ev K tm x with
   |none=>rfl
   |some p=>cases p with
    |ptr id off=>
     have:=one (x:=x) (by simp[ho,Op.operands]) hx id (by simp[PV.ids]);cases off with
     |zero=>(try simp only[]); rw[this]
     |succ n=>rfl
    |_=>rfl
 |makeMap T rs=>
  cases rs with
  |some x=>rfl
  |none=>
   (try simp only[])
   cases hd:o.dst with
   |none=>rfl
   |some d=>(try simp only[]); rw[hdst d hd]
 |insert T x y z=>
  (try simp only[])
  rw[<-h1 x (by simp[ho,Op.operands]),<-h1 y (by simp[ho,Op.operands]),<-h1 z (by simp[ho,Op.operands])];cases hx:ev K tm x with
  |none=>rfl
  |some p=>cases p with
   |ptr id off=>
    have:=one (x:=x) (by simp[ho,Op.operands]) hx id (by simp[PV.ids]);cases off with
    |zero=>(try simp only[]); rw[this]
    |succ n=>rfl
   |_=>rfl
 |mapUpdate T x y z=>
  (try simp only[])
  rw[<-h1 x (by simp[ho,Op.operands]),<-h1 y (by simp[ho,Op.operands]),<-h1 z (by simp[ho,Op.operands])];cases hx:ev K tm x with
  |none=>rfl
  |some p=>cases p with
   |ptr id off=>
    have:=one (x:=x) (by simp[ho,Op.operands]) hx id (by simp[PV.ids]);cases off with
    |zero=>(try simp only[]); rw[this]
    |succ n=>rfl
   |_=>rfl
 |lookup T x y ok=>
  (try simp only[])
  rw[<-h1 x (by simp[ho,Op.operands]),<-h1 y (by simp[ho,Op.operands])];cases hx:ev K tm x with
  |none=>rfl
  |some p=>cases p with
   |ptr id off=>
    have:=one (x:=x) (by simp[ho,Op.operands]) hx id (by simp[PV.ids]);cases off with
    |zero=>(try simp only[]); rw[this]
    |succ n=>rfl
   |t v=>
    obtain ⟨t,z⟩:=v;cases t<;>rfl
   |_=>rfl
 |makeInterface T x=>simp only[]; rw[h1 x (by simp[ho,Op.operands])]
 |typeAssert x xT T ok=>(try simp only[]); rw[h1 x (by simp[ho,Op.operands])]
 |makeSlice T n m=>
  (try simp only[])
  cases hd:o.dst with
  |none=>rfl
  |some d=>(try simp only[]); rw[hdst d hd,h1 n (by simp[ho,Op.operands]),h1 m (by simp[ho,Op.operands])]
 |call cl=>
  (try simp only[])
  have hl:∀ x∈cl.args.toList,x∈o.op.operands.toList:=fun x hx=>by simp only[ho,Op.operands,Call.operands,Array.toList_append]; exact xu.2 (.inr hx)
  rw[<-zafi (tm:=tm) (tm':=tm') (fun x hx=>h1 x (hl x hx))];cases hcl:cl.callee with
  |value x=>exact absurd hcl (hnc cl x ho)
  |invoke _ _=>rfl
  |builtin b=>
   cases hd:o.dst with
   |none=>rfl
   |some d=>
    cases hq:evs K tm cl.args.toList with
    |none=>rfl
    |some ps=>simp only[qa]; exact zawd (lst hl hq) (hdst d hd)
 |makeFunc fn first caps=>
  cases fn with
  |func f=>
   (try simp only[])
   rw[zafi (tm:=tm) (tm':=tm') (fun x hx=>h1 x (by simp only[ho,Op.operands,Array.toList_append]; exact xu.2 (.inr hx)))]
  |_=>rfl
 |_=>rfl
theorem zagu {o : Oper} {y : PV K.u.U × Ups K.u.U} (h : (K.step o tm S fun p up => some (p, up)) = some y) (h1 : ∀ x ∈ o.op.operands.toList, ev K tm x = ev K tm' x) (h2 : ∀ id ∈ foot K o tm, S id = S' id) (h3 : ∀ id ∈ y.2.map (·.1), S id = S' id) :
  (K.step o tm' S' fun p up=>some (p,up))=some y:=by
 by_cases hnc:∀ cl x,o.op=.call cl->cl.callee≠.value x
 ·rw[<-zase hnc h1 h2]; exact h
 ·have:∃ cl x,o.op=.call cl/\cl.callee=.value x:=by
   apply Classical.byContradiction;intro hn;exact hnc (fun cl x a b=>hn ⟨cl,x,a,b⟩)
  obtain ⟨cl,x,ho,hcl⟩:=this;have hl:∀ x∈cl.args.toList,x∈o.op.operands.toList:=fun x hx=>by simp only[ho,Op.operands,Call.operands,Array.toList_append]; exact xu.2 (.inr hx)
  have hx:ev K tm x=ev K tm' x:=h1 x (by simp[ho,Op.operands,Call.operands,hcl]);have he:=zafi (tm:=tm) (tm':=tm') (fun x hx=>h1 x (hl x hx));have hids:∀ ps,evs K tm cl.args.toList=some ps->∀ id∈PV.idsL ps,S id=S' id:=fun ps hps id hid=>by
   obtain ⟨p,hp,hi⟩:=zarz hid;obtain ⟨z,hz,hze⟩:=zalg hps p hp;exact h2 id (zaj2 (by rw[ho]; rfl) (by intro y q hy; rw[ho] at hy; cases hy) (hl z hz) hze hi)
  unfold Kit.step at h ⊢;rw[ho] at h ⊢;simp only[hcl] at h ⊢;cases x with
  |func f=>
   simp only[qb] at h ⊢;obtain ⟨ps,q1,q2⟩:=h;exact ⟨ps,by rw[<-he]; exact q1,zaga q2 (hids ps q1) h3⟩
  |_=>
   simp only at h ⊢;rw[<-hx];split at h
   ·rename_i f cs hxx;simp only[qb] at h ⊢;obtain ⟨ps,q1,q2⟩:=h;try simp only[qb]
    refine ⟨ps,by rw[<-he]; exact q1,zaga q2 (fun id hid=>?_) h3⟩;rw[zaxv,xu] at hid;rcases hid with hid|hid
    ·exact hids ps q1 id hid
    ·exact h2 id (zaj2 (by rw[ho]; rfl) (by intro y q hy; rw[ho] at hy; cases hy) (by simp[ho,Op.operands,Call.operands,hcl]) hxx (by simpa [PV.ids] using hid))
   ·rename_i f hxx;try rw[hxx]
    simp only[qb] at h ⊢;obtain ⟨ps,q1,q2⟩:=h;exact ⟨ps,by rw[<-he]; exact q1,zaga q2 (hids ps q1) h3⟩
   ·rename_i f fst cap hxx;try rw[hxx]
    try simp only at h ⊢
    split at h
    ·rename_i hh;rw[if_pos hh];simp only[qb] at h ⊢;obtain ⟨ps,q1,q2⟩:=h;exact ⟨ps,by rw[<-he]; exact q1,zaga q2 (hids ps q1) h3⟩
    ·cases h
   ·cases h
end
section
variable {K:Kit} {R R':Type} {tm:Nat->Option (PV K.u.U)} {S:Nat->Option (Ob K.u.U)}
theorem zaas {b:Bool} {x y:Option R} {f:R->Option R'}:(bif b then x else y).bind f=bif b then x.bind f else y.bind f:=by cases b<;>rfl
theorem zaa1 {p:Prop} [Decidable p] {x y:Option R} {f:R->Option R'}:(if p then x else y).bind f=if p then x.bind f else y.bind f:=by split<;>rfl
theorem zah6 {p:Prop} [Decidable p] {x:p->Option R} {y:¬ p->Option R} {f:R->Option R'}:(if h:p then x h else y h).bind f=if h:p then (x h).bind f else (y h).bind f:=by split<;>rfl
theorem zaxm {op:BinOp} {T:TypeId} {p q:PV K.u.U} {c:TV K.u.U->Option R} {f:R->Option R'}:(K.bin op T p q c).bind f=K.bin op T p q fun v=>(c v).bind f:=by
 unfold Kit.bin;split
 ·split
  ·simp only[zaas,xb]
  ·simp only[zaas,xb]
  ·simp only[zaa1,xb];congr 1;unfold zare;split<;>simp only[zaas,xb]
 ·unfold zarm;split<;>simp only[zaas,xb]
 ·split
  ·split<;>simp only[xb]
  ·rfl
 ·simp only[zah6,xb];split
  ·split<;>simp only[xb]
  ·rfl
 ·rfl
theorem zaxc {l:Bool} {op:BinOp} {T:TypeId} {p q:PV K.u.U} {c:TV K.u.U->Option R} {f:R->Option R'}:(K.bin2 l op T p q c).bind f=K.bin2 l op T p q fun v=>(c v).bind f:=by
 unfold Kit.bin2;split
 ·split<;>simp only[xb]
 ·exact zaxm
theorem zast {l:Bool} {op:BinOp} {T:TypeId} {p q:PV K.u.U} {c:PV K.u.U->Option R} {els:Option R} {f:R->Option R'}:(K.cmpNil l op T p q c els).bind f=K.cmpNil l op T p q (fun v=>(c v).bind f) (els.bind f):=by
 unfold Kit.cmpNil;repeat' split
 all_goals simp only[zaas,xb]
theorem zaz1 {op:UnOp} {p:PV K.u.U} {c:TV K.u.U->Option R} {f:R->Option R'}:(K.un op p c).bind f=K.un op p fun v=>(c v).bind f:=by
 unfold Kit.un;split<;>rfl
theorem zav8 {src dst:TypeId} {p:PV K.u.U} {c:TV K.u.U->Option R} {f:R->Option R'}:(K.conv S src dst p c).bind f=K.conv S src dst p fun v=>(c v).bind f:=by
 unfold Kit.conv;repeat' split
 all_goals first|rfl|simp_all
theorem zax3 {T:TypeId} {p:PV K.u.U} {lo hi:Option (PV K.u.U)} {c:PV K.u.U->Ups K.u.U->Option R} {f:R->Option R'}:(K.slc S T p lo hi c).bind f=K.slc S T p lo hi fun p up=>(c p up).bind f:=by
 unfold Kit.slc;repeat' split
 all_goals simp only[qw,zaas,zaa1,xb]
theorem zavs {T:TypeId} {p h m:PV K.u.U} {c:PV K.u.U->Ups K.u.U->Option R} {f:R->Option R'}:(K.clip S T p h m c).bind f=K.clip S T p h m fun p up=>(c p up).bind f:=by
 unfold Kit.clip;repeat' split
 all_goals simp only[qw,zaas,zaa1,xb]
theorem zasg {T:TypeId} {p lo h m:PV K.u.U} {c:PV K.u.U->Ups K.u.U->Option R} {f:R->Option R'}:(K.window S T p lo h m c).bind f=K.window S T p lo h m fun p up=>(c p up).bind f:=by
 unfold Kit.window;repeat' split
 all_goals simp only[qw,zaas,zaa1,xb]
theorem zaqn {d id ver i qid:Nat} {argT:Array TypeId} {c:PV K.u.U->Ups K.u.U->Option R} {f:R->Option R'}:(K.appendW d S argT id ver i qid c).bind f=K.appendW d S argT id ver i qid fun p up=>(c p up).bind f:=by
 unfold Kit.appendW;repeat' split
 all_goals simp only[qw,zaas,zaa1,xb]
theorem zasn {E:TypeId} {id v i off n:Nat} {e:Ty} {l:List (e.den K.u.U)} {ys:List (PV K.u.U)} {c:PV K.u.U->Ups K.u.U->Option R} {f:R->Option R'}:(K.storeD S E id v i off n e l ys c).bind f=K.storeD S E id v i off n e l ys fun p up=>(c p up).bind f:=by
 unfold Kit.storeD;split<;>simp only[qw,zaa1,xb]
theorem zart {d:Nat} {argT:Array TypeId} {p q:PV K.u.U} {c:PV K.u.U->Ups K.u.U->Option R} {f:R->Option R'}:(K.appendP d S argT p q c).bind f=K.appendP d S argT p q fun p up=>(c p up).bind f:=by
 unfold Kit.appendP;split
 ·split
  ·split
   ·split
    ·split
     ·split
      ·split
       ·simp only[zaas,zaa1,xb]
       ·rfl
      ·split
       ·simp only[zaas,zaa1,zah6,xb]
       ·rfl
      ·rfl
     ·rfl
    ·rfl
   ·rfl
  ·rfl
 ·rfl
theorem zard {d qid:Nat} {argT:Array TypeId} {p:PV K.u.U} {c:PV K.u.U->Ups K.u.U->Option R} {f:R->Option R'}:(K.appendD d S argT p qid c).bind f=K.appendD d S argT p qid fun p up=>(c p up).bind f:=by
 unfold Kit.appendD;repeat' split
 all_goals first|rfl|(simp only[zaas,zaa1,zah6,xb]; done)|simp_all
theorem zas5 {d:Nat} {argT:Array TypeId} {p q:PV K.u.U} {c:PV K.u.U->Ups K.u.U->Option R} {f:R->Option R'}:(K.append d S argT p q c).bind f=K.append d S argT p q fun p up=>(c p up).bind f:=by
 unfold Kit.append;split
 ·split
  ·split
   ·exact zaqn
   ·rfl
  ·rfl
 ·split
  ·exact zard
  ·exact zart
theorem zar2 {d:Nat} {argT:Array TypeId} {p:PV K.u.U} {s:List UInt8} {c:PV K.u.U->Ups K.u.U->Option R} {f:R->Option R'}:(K.appendS d S argT p s c).bind f=K.appendS d S argT p s fun p up=>(c p up).bind f:=by
 unfold Kit.appendS;repeat' split
 all_goals first|rfl|(simp only[zaas,zaa1,xb]; done)|simp_all
theorem zaqe {d:Option Nat} {src E:TypeId} {p:PV K.u.U} {c:PV K.u.U->Ups K.u.U->Option R} {f:R->Option R'}:(K.toBytes d S src E p c).bind f=K.toBytes d S src E p fun p up=>(c p up).bind f:=by
 unfold Kit.toBytes;repeat' split
 all_goals first|rfl|(simp only[zaas,zaa1,xb]; done)|simp_all
theorem zau2 {d:Option Nat} {T:TypeId} {id ver i off:Nat} {c:PV K.u.U->Ups K.u.U->Option R} {f:R->Option R'}:(K.loadE S d T id ver i off c).bind f=K.loadE S d T id ver i off fun p up=>(c p up).bind f:=by
 unfold Kit.loadE;cases d<;>(split<;>simp only[qw,zaa1,zaas,xb])
theorem zaye {d:Nat} {b:Builtin} {argT:Array TypeId} {ps:List (PV K.u.U)} {c:PV K.u.U->Ups K.u.U->Option R} {f:R->Option R'}:(K.blt d S b argT ps c).bind f=K.blt d S b argT ps fun p up=>(c p up).bind f:=by
 unfold Kit.blt;split
 ·split
  ·split<;>rfl
  ·split
   ·rfl
   ·simp only[qw]
  ·rfl
 ·rfl
 ·rfl
 ·exact zar2
 ·exact zas5
 ·repeat' split
  all_goals first|rfl|(simp only[zah6,zaa1,xb]; done)
 ·rfl
theorem zalt {ps : List (PV K.u.U)} {d : Nat} {c : PV K.u.U -> Ups K.u.U -> Option R} {f : R -> Option R'} : ∀ {ms : List (Mode K.u.U)}, (K.callMs S ps d c ms).bind f = K.callMs S ps d (fun p up => (c p up).bind f) ms
 |[]=>rfl
 |m::ms=>by
  simp only[Kit.callMs,zaas,qw,Tr.on_eq,xb];rw[zalt]
theorem zan1 {g:FuncId} {ps:List (PV K.u.U)} {d:Option Nat} {c:PV K.u.U->Ups K.u.U->Option R} {f:R->Option R'}:(K.callF S g ps d c).bind f=K.callF S g ps d fun p up=>(c p up).bind f:=by
 cases d<;>exact zalt
theorem zagz {o:Oper} {c:PV K.u.U->Ups K.u.U->Option R} {f:R->Option R'}:(K.step o tm S c).bind f=K.step o tm S fun p up=>(c p up).bind f:=by
  unfold Kit.step;cases ho:o.op with
  |pick x y z=>(try simp only[]); split<;>first|rfl|simp only[zaas,qw]
  | alloc T => (try simp only []); repeat' split
               all_goals simp only[qw,xb]
  | box T x => (try simp only []); repeat' split
               all_goals simp only[qw,xb]
  |build T ps=>(try simp only[]); split<;>simp only[qw,zaa1,xb]
  | buildSlice T n ps => (try simp only []); repeat' split
                         all_goals first
                           |rfl
                           |(rw[qw]; congr 1; funext qs; split<;>first|rfl|simp only[qw])
  |load T x=>
    (try simp only[])
    split
    · split
      · split<;>simp only[qw,xb]
      · rfl
    · simp only[qw]
    · exact zau2
    · rfl
  |store T x y=>
    (try simp only[])
    split
    · split<;>simp only[qw,zaa1,xb]
    · split<;>simp only[qw,zaa1,zaas,xb,zasn]
    · rfl
  | nilCheck x => (try simp only []); repeat' split
                  all_goals rfl
  |binOp op T x y ty=>simp only[qw,zast,zaxc]
  |unOp op T x=>simp only[qw,zaz1]
  |convert s d x=>
    (try simp only[])
    split
    · simp only[qw,zaqe]
    · simp only[qw,zav8]
  |slice T x lo hi mx=>cases mx<;>cases lo<;>cases hi<;>simp only[qw,zax3,zavs,zasg,xb]
  |fieldAddr T x f=>
    (try simp only[])
    repeat' split
    all_goals first|rfl|simp_all
  |indexAddr T x ix=>
    (try simp only[])
    split
    · split
      · split
        · split
          · simp only[zaa1,zaas,qw,xb]
          · split<;>simp only[zaa1,zaas,qw,xb]
          · split<;>simp only[zaa1,zaas,qw,xb]
          · split<;>first|rfl|simp only[zaa1,zaas,qw,xb]
          · rfl
        · rfl
      · rfl
    · rfl
  |index T x ix=>(try simp only[]); split<;>simp only[zaas,qw,xb]
  |field T x f=>
    (try simp only[])
    split
    · split<;>simp only[zaas,qw,xb]
    · rfl
  |extract x i=>(try simp only[]); split<;>simp only[qw,xb]
  | range T x => (try simp only []); repeat' split
                 all_goals rfl
  |next x b=>
    cases b with
    |false=>rfl
    |true=>
      (try simp only[])
      split
      · split<;>simp only[zaas,xb]
      · rfl
  |makeFunc fn first caps=>
    cases fn with
    |func f=>
      (try simp only[])
      split
      · simp only[qw]
        congr 1;funext ps;cases ps<;>rfl
      · rfl
    |_=>rfl
  |makeMap T rs=>
    cases rs with
    |some x=>rfl
    |none=>
      (try simp only[])
      repeat' split
      all_goals simp only[qw,xb]
  |insert T x y z=>
    (try simp only[])
    split
    · split
      · simp only[qw,zaa1,xb]
        congr 1;funext t;split
        · split<;>simp only[qw,xb]
        · rfl
      · rfl
    · rfl
  |mapUpdate T x y z=>
    (try simp only[])
    split
    · split
      · simp only[qw,zaa1,xb]
        congr 1;funext t;split
        · split<;>simp only[qw,xb]
        · rfl
      · rfl
    · rfl
  |lookup T x y ok=>
    simp only[qw];congr 1;funext t;congr 1;funext m;split
    · split
      · simp only[qw,zaas]
      · rfl
    · rfl
  |makeInterface T x=>(try simp only[]); split<;>simp only[qw,xb]
  |typeAssert x xT T ok=>
    (try simp only[])
    split
    · split
      · rfl
      · simp only[zaa1,zaas,xb]
    · rfl
  |makeSlice T n m=>
    (try simp only[])
    repeat' split
    all_goals simp only[zaa1,zaas,qw,xb]
  |call cl=>
    (try simp only[])
    split
    · split<;>simp only[qw,zaye,xb]
    · simp only[qw,zan1]
    · split<;>simp only[qw,zan1,zaa1,xb]
    · rfl
  |_=>first|rfl|simp only[qw]
theorem zadh {o:Oper} {c:PV K.u.U->Ups K.u.U->Option R}:K.step o tm S c=(K.step o tm S fun p up=>some (p,up)).bind fun x=>c x.1 x.2:=by
 rw[zagz];rfl
end
end Lift
