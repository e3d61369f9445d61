/-
  DERIVED. The Lean functions answer as the laws say. Conditions: as each theorem says.
-/
import Derived.Test.YtnjaffjkdeelhaaGreatDoorLawA
set_option linter.unusedVariables false
set_option linter.unusedSimpArgs false
set_option linter.unusedSectionVars false
namespace Lift.A9
open Go Go.RowKit Lift Go.IntWalk Lift.Fn Lift.A3
set_option linter.unusedVariables false
set_option linter.unusedSimpArgs false
theorem zar6 {n:Names} (h:headN n=none):n.threads.length≠0∧n.threads.length≤8∧n.cells.length≤8∧n.mutexes.length≤8:=by
 unfold headN zaa9 at h;cases h1:n.threads.length==0 with
 |true=>rw[h1] at h; cases h
 |false=>
  by_cases h2:8<n.threads.length
  ·rw[h1,decide_eq_true h2] at h; cases h
  ·by_cases h3:8<n.cells.length
   ·rw[h1,decide_eq_false h2,decide_eq_true h3] at h; cases h
   ·by_cases h4:8<n.mutexes.length
    ·rw[h1,decide_eq_false h2,decide_eq_false h3,decide_eq_true h4] at h; cases h
    ·exact ⟨by simpa using h1,by omega,by omega,by omega⟩
theorem zapu {n:Names} {e:Int×Nm}:∀ (l:List TThread),(∀ t∈l,sFs t.body=true)→thrN n l=.inr e→e.1≠0
 |[],_,h=>by rw[thrN] at h; cases h
 |t::l,hs,h=>by
  rw[thrN] at h;have ag:=acsAg n t.body [] [] (hs t (by simp));cases h1:acNs (thing n) (objN n) t.body [] with
  |inr q=>
   rw[h1] at h ag;cases h;exact ag.2.2
  |inl y=>
   rw[h1] at h;simp only at h;cases h2:thrN n l with
   |inr q=>
    rw[h2] at h;cases h;exact zapu l (fun t ht=>hs t (by simp[ht])) h2
   |inl z=>rw[h2] at h; cases h
theorem zaij {n:Names}:∀ (l:List TThread) (z:List (List TAct×List Nm)),thrN n l=.inl z→z.length=l.length∧∀ (i:Nat) (t:TThread) (y:List TAct×List Nm),l[i]? = some t→z[i]? = some y→acNs (thing n) (objN n) t.body []=.inl y
 |[],z,h=>by rw[thrN] at h; cases h; exact ⟨rfl,fun i t y h=>by simp at h⟩
 |t::l,z,h=>by
  rw[thrN] at h;cases h1:acNs (thing n) (objN n) t.body [] with
  |inr q=>rw[h1] at h; cases h
  |inl y=>
   rw[h1] at h;simp only at h;cases h2:thrN n l with
   |inr q=>rw[h2] at h; cases h
   |inl b=>
    rw[h2] at h;cases h;obtain ⟨a1,a2⟩:=zaij l b h2;refine ⟨by simp[a1],fun i t' y' ht hy=>?_⟩;cases i with
    |zero=>simp at ht hy; subst ht; subst hy; exact h1
    |succ i=>simp at ht hy; exact a2 i t' y' ht hy
theorem zant (p:TProg) (hs:∀ t∈p.threads,sFs t.body=true) (z:List (List TAct×List Nm)) (h:thrN (zaa1 p) p.threads=.inl z) :
  zaar ⟨p.cells.map (·.init),p.mutexes.length,z.map fun y=>⟨y.2.length,y.1⟩⟩ ⟨p.cells.map (·.name),p.mutexes,p.threads.map (·.name),z.map (·.2)⟩=p:=by
 obtain ⟨hl,ha⟩:=zaij p.threads z h;obtain ⟨c,m,t⟩:=p;unfold zaar;simp only at ha hl ⊢;have e1:((c.map (·.init)).zip (c.map (·.name))).map (fun z=>TCell.mk z.2 z.1)=c:=by
  clear ha hs h hl;induction c with
  |nil=>rfl
  |cons x c ih=>simp only[List.map_cons,List.zip_cons_cons]; rw[ih]
 have e2:(((z.map fun y=>TBody.mk y.2.length y.1).zip ((t.map (·.name)).zip (z.map (·.2)))).map fun q=>TThread.mk q.2.1 (nSts ⟨c.map (·.name),m,t.map (·.name),q.2.2⟩ q.1.acts))=t:=by
  apply List.ext_getElem?;intro i;by_cases hi:i<t.length
  ·have hz:i<z.length:=by omega
   have hA:=ha i t[i] z[i] (List.getElem?_eq_getElem hi) (List.getElem?_eq_getElem hz);let u:TUnit:=⟨c.map (·.init),m.length,z.map fun y=>⟨y.2.length,y.1⟩⟩
   have hf:Fit u (zaa1 ⟨c,m,t⟩):=⟨by simp[u,zaa1],by simp[u,zaa1],by simp[u,zaa1,hl]⟩;have B:=zaff u (zaa1 ⟨c,m,t⟩) hf t[i].body [] z[i] (hs t[i] (List.getElem_mem hi)) hA;have b:=B.b z[i].2 (List.prefix_refl _);have hzip:((z.map fun y=>TBody.mk y.2.length y.1).zip ((t.map (·.name)).zip (z.map (·.2))))[i]? = some (⟨z[i].2.length,z[i].1⟩,(t[i].name,z[i].2)):=by
    rw[List.getElem?_zip_eq_some];refine ⟨by simp[hz],?_⟩;rw[List.getElem?_zip_eq_some];exact ⟨by simp[hi],by simp[hz]⟩
   rw[List.getElem?_map,hzip,List.getElem?_eq_getElem hi];simp only[Option.map_some];have b':nSts ⟨c.map (·.name),m,t.map (·.name),z[i].2⟩ z[i].1=t[i].body:=b;rw[b']
  ·rw[List.getElem?_eq_none (by simp; omega),List.getElem?_eq_none (by omega)]
 rw[e1,e2]
theorem zavx (u:TUnit) (n1 n2:Names) (h1:n1.threads.length=u.threads.length) (h2:n1.regs.length=u.threads.length) (h3:n2.threads.length=u.threads.length) (h4:n2.regs.length=u.threads.length) :
  (evP (zaar u n1)).map evD=(evP (zaar u n2)).map evD:=by
 have key:∀ n:Names,n.threads.length=u.threads.length→n.regs.length=u.threads.length→(evP (zaar u n)).map evD=u.threads.flatMap fun t=>(evSs (plAs t.acts) 1).map evD:=by
  intro n a b;unfold evP zaar;simp only;have key2:∀ (l:List TBody) (x:List (Nm×List Nm)),x.length=l.length→(((l.zip x).map fun z=>TThread.mk z.2.1 (nSts ⟨n.cells,n.mutexes,n.threads,z.2.2⟩ z.1.acts)).flatMap fun t=>evSs t.body 1).map evD=l.flatMap fun t=>(evSs (plAs t.acts) 1).map evD:=by
   intro l;induction l with
   |nil=>intro x _; rfl
   |cons t l ih=>
    intro x hx;cases x with
    |nil=>cases hx
    |cons y x=>
     simp only[List.zip_cons_cons,List.map_cons,List.flatMap_cons,List.map_append];rw[ih x (by simpa using hx),zah4]
  exact key2 _ _ (by simp[a,b])
 rw[key n1 h1 h2,key n2 h3 h4]
theorem zaxq (n:Nat):(xs n).length=n:=by simp[xs]
theorem zasd (p:TProg) (hr:zabh p=0) (hh:headN (zaa1 p)=none) (z:List (List TAct×List Nm)) (h:thrN (zaa1 p) p.threads=.inl z) :
  zadq ⟨p.cells.map (·.init),p.mutexes.length,z.map fun y=>⟨y.2.length,y.1⟩⟩=true:=by
 have hok:=zanl hr;have hbody:=zaou hok;have hpb:=zant p (fun t ht=>(hbody t ht).2) z h;obtain ⟨t0,t8,c8,m8⟩:=zar6 hh;have t0:p.threads.length≠0:=by simpa [zaa1] using t0
 have t8:p.threads.length≤8:=by simpa [zaa1] using t8
 have c8:p.cells.length≤8:=by simpa [zaa1] using c8
 have m8:p.mutexes.length≤8:=m8;obtain ⟨hl,ha⟩:=zaij p.threads z h;obtain ⟨_,_,hz8⟩:=zao2 _ _ z h;generalize hu:(⟨p.cells.map (·.init),p.mutexes.length,z.map fun y=>⟨y.2.length,y.1⟩⟩:TUnit)=u at hpb ⊢;have uc:u.cells=p.cells.map (·.init):=by rw[← hu]
 have um:u.mutexes=p.mutexes.length:=by rw[← hu]
 have ut:u.threads=z.map fun y=>⟨y.2.length,y.1⟩:=by rw[← hu]
 have hf:Fit u (zaa1 p):=⟨by simp[uc,zaa1],by simp[um,zaa1],by simp[ut,zaa1,hl]⟩;have hbad:zaef u=false:=by
  unfold zaef;rw[uc,um,ut];simp only[List.length_map,Bool.or_eq_false_iff,decide_eq_false_iff_not];omega
 have hregs:u.threads.all (fun t=>!zadd t)=true:=by
  rw[ut,List.all_map,List.all_eq_true];intro y hy;have:=hz8 y hy;simp only[Function.comp,zadd,Bool.not_eq_true',Bool.or_eq_false_iff,decide_eq_false_iff_not];omega
 unfold zadq;rw[hbad,hregs];simp only[cond_false,cond_true]
 -- the program of x's is right too
 have hev:(evP (zaar u (nmsU u))).map evD=(evP p).map evD:=by
  have:=zavx u (nmsU u) ⟨p.cells.map (·.name),p.mutexes,p.threads.map (·.name),z.map (·.2)⟩ (by simp[nmsU,zaxq]) (by simp[nmsU]) (by simp[ut,hl]) (by simp[ut]);rw[this,hpb]
 have hp:pOk (zaar u (nmsU u))=true:=by
  unfold pOk at hok ⊢;simp only[Bool.and_eq_true,List.all_eq_true] at hok ⊢;obtain ⟨k1,k2,k3⟩:=hok;refine ⟨?_,?_,?_⟩
  ·intro c hc;unfold zaar nmsU at hc;simp only[List.mem_map] at hc;obtain ⟨q,hq,rfl⟩:=hc;obtain ⟨i,hi⟩:=List.mem_iff_getElem?.1 hq;obtain ⟨g1,g2⟩:=zad9 hi;have hx:q.2=[120]:=by
    have:=List.mem_of_getElem? g2;rw[xs,List.mem_replicate] at this;exact this.2
   have hin:=List.mem_of_getElem? g1;rw[uc,List.mem_map] at hin;obtain ⟨c0,hc0,e⟩:=hin;have:=k1 c0 hc0;unfold cOk at this ⊢;simp only[Bool.and_eq_true] at this ⊢;rw[hx,← e];exact ⟨⟨nm_x,this.1.2⟩,this.2⟩
  ·intro x hx;unfold zaar nmsU at hx;simp only at hx;rw[xs,List.mem_replicate] at hx;rw[hx.2,nm_x]
  ·intro t ht;unfold zaar nmsU at ht;simp only[List.mem_map] at ht;obtain ⟨q,hq,rfl⟩:=ht;obtain ⟨i,hi⟩:=List.mem_iff_getElem?.1 hq;obtain ⟨g1,g2⟩:=zad9 hi;obtain ⟨g3,g4⟩:=zad9 g2;have hx:q.2.1=[120]:=by
    have:=List.mem_of_getElem? g3;rw[xs,List.mem_replicate] at this;exact this.2
   rw[List.getElem?_map,g1] at g4;have hr4:q.2.2=xs q.1.regs.toNat:=(Option.some.inj g4).symm;rw[ut,List.getElem?_map] at g1;cases hzi:z[i]? with
   |none=>rw[hzi] at g1; cases g1
   |some y=>
    rw[hzi] at g1;have e1:q.1=⟨y.2.length,y.1⟩:=(Option.some.inj g1).symm;have hiz:i<z.length:=(List.getElem?_eq_some_iff.1 hzi).1;have hit:i<p.threads.length:=by omega
    have hA:=ha i p.threads[i] y (List.getElem?_eq_getElem hit) hzi;have B:=zaff u (zaa1 p) hf p.threads[i].body [] y (hbody _ (List.getElem_mem hit)).2 hA;have r:=B.r y.2.length (by omega);refine ⟨by rw[hx]; exact nm_x,?_⟩;rw[hr4,e1];exact r
 have hc:(cT (zaar u (nmsU u)).threads:Int)=(cT p.threads:Int):=by
  rw[← lenP,← lenP];exact congrArg _ (zaws hev)
 unfold zabh at hr ⊢;rw[hp,zatf hev,hc];have hok':pOk p=true:=hok;rw[hok'] at hr;rw[hr];rfl
theorem zan4 (p:TProg) (h:nT p.threads≤100000000) (h1:p.cells.length≤10000000) (h2:p.mutexes.length≤10000000):qaG p=some true:=by
 rw[qaG,zaaa];unfold qaG_f;rw[zaxj,zadw,zap5 p h (by omega) (by omega)];simp only[Option.bind_some,Bool.not_true,cond_false];have hn:=zau2 p h h1 h2;cases hr:zabh p != 0 with
 |true=>
  have e:zacc p=(unit0,zah3,zabh p,[]):=by unfold zacc; rw[hr]; rfl
  rw[e];simp only[hr];rfl
 |false=>
  have hr0:zabh p=0:=by simpa [bne] using hr
  have hbody:=zaou (zanl hr0);have e:zacc p=outC (zage p):=by unfold zacc; rw[hr]; rfl
  rw[e] at hn ⊢;rw[zanh] at hn ⊢;cases hh:headN (zaa1 p) with
  |some er=>
   rw[hh] at hn;have:(er.1 != 0)=true:=by simpa [bne] using zavl hh
   simp only[outC,this];rfl
  |none=>
   rw[hh] at hn;simp only at hn ⊢;cases hz:thrN (zaa1 p) p.threads with
   |inr er=>
    have:(er.1 != 0)=true:=by simpa [bne] using zapu p.threads (fun t ht=>(hbody t ht).2) hz
    simp only[outC,this];rfl
   |inl z=>
    rw[hz] at hn;have hR:=zasd p hr0 hh z hz;have hP:=zant p (fun t ht=>(hbody t ht).2) z hz;obtain ⟨hl,_⟩:=zaij p.threads z hz;simp only[outC] at hn ⊢;generalize hu:(⟨p.cells.map (·.init),p.mutexes.length,z.map fun y=>⟨y.2.length,y.1⟩⟩:TUnit)=u at hn hR hP ⊢;generalize hw:(⟨p.cells.map (·.name),p.mutexes,p.threads.map (·.name),z.map (·.2)⟩:Names)=n at hn hP ⊢;have hfit:unfit u n=false:=by
     rw[← hu,← hw];unfold unfit;simp[hl]
    have hrf:(u.threads.zip n.regs).all zaf5=true:=by
     rw[← hu,← hw];simp only;rw[List.all_eq_true];intro q hq;obtain ⟨i,hi⟩:=List.mem_iff_getElem?.1 hq;obtain ⟨g1,g2⟩:=zad9 hi;rw[List.getElem?_map] at g1 g2;cases hzi:z[i]? with
     |none=>rw[hzi] at g1; cases g1
     |some y=>
      rw[hzi] at g1 g2;have a1:=Option.some.inj g1;have a2:=Option.some.inj g2;unfold zaf5;rw[← a1,← a2];simp
    have hB:backV u n=(0,p.cells,p.mutexes,p.threads):=by
     unfold backV;rw[hR,hfit,hrf,hP,hr];rfl
    have z0:((0:Int) != 0)=false:=rfl;simp only[z0,cond_false];have b1:nB u.threads≤100000000:=by rw[← hu]; exact hn.1
    have b2:u.cells.length≤100000000:=by rw[← hu]; exact hn.2.1
    rw[zaie u b1 b2,zash u n b1 b2,hB,hR];simp only[Option.bind_some,zadw];rw[zawv p p h (by omega) (by omega),zawq];rfl
end Lift.A9
namespace Lift.A9
open Go Go.RowKit Lift Go.IntWalk Lift.Fn Lift.A3
set_option linter.unusedVariables false
set_option linter.unusedSimpArgs false
def ren (old other:List Nm) (s:Nm):Nm:=bif decide (plc old s<0) then s else atL other (plc old s)
end Lift.A9
namespace Lift.A9
open Go Go.RowKit Lift Go.IntWalk Lift.Fn Lift.A3
set_option linter.unusedVariables false
set_option linter.unusedSimpArgs false
structure RN (f:Nm→Nm) (P:Nm→Prop):Prop where
 inj:∀ a b,P a→P b→f a=f b→a=b
structure NP (P:Nm→Prop) (n:Names):Prop where
 c:∀ s∈n.cells,P s
 m:∀ s∈n.mutexes,P s
 t:∀ s∈n.threads,P s
end Lift.A9
namespace Lift.A9
open Go Go.RowKit Lift Go.IntWalk Lift.Fn Lift.A3
set_option linter.unusedVariables false
set_option linter.unusedSimpArgs false
end Lift.A9
namespace Lift.A9
open Go Go.RowKit Lift Go.IntWalk Lift.Fn Lift.A3
set_option linter.unusedVariables false
theorem zaa5 {u:Uni} {c:TV u.U} {cs:List (TV u.U)} {N:Nat} (h:SizedL u (c::cs) N):∃ a b,Sized u c a∧SizedL u cs b∧a+b+1≤N:=by
 cases h with
 |cons _ _ a b _ h1 h2 h3=>exact ⟨a,b,h1,h2,h3⟩
mutual
theorem szE:∀ (x:TExpr) (N:Nat),Sized J6.kk.u ⟨.st 60,x⟩ N→nE x≤N
 |⟨k,n,m,l⟩,N,h=>by
  have h1:SizedL J6.kk.u [⟨.int .i64,k⟩,⟨.int .i64,n⟩,⟨.str,m⟩,⟨.slc (.st 60),l⟩] N:=h.st_inv;obtain ⟨a1,b1,_,h1,e1⟩:=zaa5 h1;obtain ⟨a2,b2,_,h2,e2⟩:=zaa5 h1;obtain ⟨a3,b3,_,h3,e3⟩:=zaa5 h2;obtain ⟨a4,b4,s4,h4,e4⟩:=zaa5 h3;have:=szEs l a4 s4.slc_inv;rw[nE];omega
theorem szEs:∀ (l:List TExpr) (N:Nat),SizedL J6.kk.u (l.map (TV.mk (.st 60))) N→nEs l≤N
 |[],N,h=>by simp[nEs]
 |x::l,N,h=>by
  obtain ⟨a,b,h1,h2,e⟩:=zaa5 h;have:=szE x a h1;have:=szEs l b h2;rw[nEs];omega
end
mutual
theorem szS:∀ (x:TStmt) (N:Nat),Sized J6.kk.u ⟨.st 62,x⟩ N→nS x≤N
 |⟨k,r,m,⟨k',n',m',l'⟩,c,t,o⟩,N,h=>by
  have h1:SizedL J6.kk.u [⟨.int .i64,k⟩,⟨.str,r⟩,⟨.str,m⟩,⟨.int .i64,k'⟩,⟨.int .i64,n'⟩,⟨.str,m'⟩,⟨.slc (.st 60),l'⟩,⟨.int .i64,c⟩,⟨.slc (.st 62),t⟩,⟨.slc (.st 62),o⟩] N:=h.st_inv;obtain ⟨a1,b1,_,h1,e1⟩:=zaa5 h1;obtain ⟨a2,b2,_,h2,e2⟩:=zaa5 h1;obtain ⟨a3,b3,_,h3,e3⟩:=zaa5 h2;obtain ⟨a4,b4,_,h4,e4⟩:=zaa5 h3;obtain ⟨a5,b5,_,h5,e5⟩:=zaa5 h4;obtain ⟨a6,b6,_,h6,e6⟩:=zaa5 h5;obtain ⟨a7,b7,s7,h7,e7⟩:=zaa5 h6;obtain ⟨a8,b8,_,h8,e8⟩:=zaa5 h7;obtain ⟨a9,b9,s9,h9,e9⟩:=zaa5 h8;obtain ⟨a10,b10,s10,h10,e10⟩:=zaa5 h9;have:=szEs l' a7 s7.slc_inv;have:=szSs t a9 s9.slc_inv;have:=szSs o a10 s10.slc_inv;rw[nS,nE];omega
theorem szSs:∀ (l:List TStmt) (N:Nat),SizedL J6.kk.u (l.map (TV.mk (.st 62))) N→nSs l≤N
 |[],N,h=>by simp[nSs]
 |x::l,N,h=>by
  obtain ⟨a,b,h1,h2,e⟩:=zaa5 h;have:=szS x a h1;have:=szSs l b h2;rw[nSs];omega
end
theorem szT:∀ (l:List TThread) (N:Nat),SizedL J6.kk.u (l.map (TV.mk (.st 51))) N→nT l≤N
 |[],N,h=>by simp[nT]
 |⟨m,t⟩::l,N,h=>by
  obtain ⟨a,b,h1,h2,e⟩:=zaa5 h;have h3:SizedL J6.kk.u [⟨.str,m⟩,⟨.slc (.st 62),t⟩] a:=h1.st_inv;obtain ⟨a1,b1,_,h3,e1⟩:=zaa5 h3;obtain ⟨a2,b2,s2,h4,e2⟩:=zaa5 h3;have:=szSs t a2 s2.slc_inv;have:=szT l b h2;rw[nT];show 1+nSs t+nT l≤N;omega
structure SmallP (y:TProg):Prop where
 t:nT y.threads≤2000000
 c:y.cells.length≤2000000
 m:y.mutexes.length≤2000000
theorem smallP (y:TProg) (h:Sized J6.kk.u ⟨.st 26,y⟩ 1048576):SmallP y:=by
 obtain ⟨c,m,t⟩:=y;have h1:SizedL J6.kk.u [⟨.slc (.st 48),c⟩,⟨.slc .str,m⟩,⟨.slc (.st 51),t⟩] 1048576:=h.st_inv;obtain ⟨a1,b1,s1,h1,e1⟩:=zaa5 h1;obtain ⟨a2,b2,s2,h2,e2⟩:=zaa5 h1;obtain ⟨a3,b3,s3,h3,e3⟩:=zaa5 h2;have:=szT t a3 s3.slc_inv;have q1:c.length≤a1:=s1.slc_len;have q2:m.length≤a2:=s2.slc_len;exact ⟨by show nT t≤_; omega,by show c.length≤_; omega,by show m.length≤_; omega⟩
structure SmallU (y:TUnit):Prop where
 t:nB y.threads≤2000000
 c:y.cells.length≤2000000
theorem checkBack2 (p:TProg) (h:SmallP p):qaG p=some true:=zan4 p (by have:=h.t; omega) (by have:=h.c; omega) (by have:=h.m; omega)
end Lift.A9
