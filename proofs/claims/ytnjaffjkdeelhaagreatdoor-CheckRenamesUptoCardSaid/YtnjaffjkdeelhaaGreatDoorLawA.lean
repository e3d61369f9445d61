/-
  DERIVED. The Lean functions answer as the laws say. Conditions: as each theorem says.
-/
import Derived.Test.YtnjaffjkdeelhaaGreatDoorWalk
import Derived.IntWalk
set_option linter.unusedVariables false
set_option linter.unusedSimpArgs false
set_option linter.unusedSectionVars false
namespace Lift.A3
open Go Go.RowKit Lift Go.IntWalk Lift.Fn
set_option linter.unusedVariables false
set_option linter.unusedSimpArgs false
theorem zaci {α σ:Type} (l:List α) (body:α→σ→Option σ) (L:Nat→Int→σ→Option σ)
  (h0:∀ n i s,0≤i→¬ i<(l.length:Int)→L (n+1) i s=some s)
  (h1:∀ n i s (x:α),0≤i→i<(l.length:Int)→l[i.toNat]? = some x→L (n+1) i s=(body x s).bind fun s'=>L n (i+1) s') :
  ∀ (k n:Nat) (i:Int) (s:σ),0≤i→l.length-i.toNat≤k→k<n→L n i s=(l.drop i.toNat).foldlM (fun s x=>body x s) s:=by
 intro k;induction k with
 |zero=>
  intro n i s hi hk hn;obtain ⟨n,rfl⟩:∃ q,n=q+1:=⟨n-1,by omega⟩;rw[h0 n i s hi (by omega),List.drop_eq_nil_of_le (by omega)];rfl
 |succ k ih=>
  intro n i s hi hk hn;obtain ⟨n,rfl⟩:∃ q,n=q+1:=⟨n-1,by omega⟩;by_cases c:i<(l.length:Int)
  ·have hlt:i.toNat<l.length:=by omega
   rw[h1 n i s l[i.toNat] hi c (List.getElem?_eq_getElem hlt),List.drop_eq_getElem_cons hlt,List.foldlM_cons];congr 1;funext s';rw[ih n (i+1) s' (by omega) (by omega) (by omega)];congr 2;omega
  ·rw[h0 n i s hi c,List.drop_eq_nil_of_le (by omega)];rfl
inductive Ev where
 |s (x:TStmt) (d:Int)
 |e (x:TExpr) (d:Int)
mutual
def evE:TExpr→Int→List Ev
 |⟨k,n,m,l⟩,d=>.e ⟨k,n,m,l⟩ d::evEs l (d+1)
def evEs:List TExpr→Int→List Ev
 |[],_=>[]
 |x::l,d=>evE x d++evEs l d
end
def zaan (x:TExpr):Bool:=(x.kind != 0)||decide (0<x.args.length)
mutual
def evS:TStmt→Int→List Ev
 |⟨k,r,m,x,c,t,o⟩,d=>.s ⟨k,r,m,x,c,t,o⟩ d::((if zaan x then evE x 1 else [])++(evSs t (d+1)++evSs o (d+1)))
def evSs:List TStmt→Int→List Ev
 |[],_=>[]
 |x::l,d=>evS x d++evSs l d
end
def evP (p:TProg):List Ev:=p.threads.flatMap fun t=>evSs t.body 1
mutual
def nE:TExpr→Nat
 |⟨_,_,_,l⟩=>1+nEs l
def nEs:List TExpr→Nat
 |[]=>0
 |x::l=>nE x+nEs l
end
mutual
def nS:TStmt→Nat
 |⟨_,_,_,x,_,t,o⟩=>1+nE x+nSs t+nSs o
def nSs:List TStmt→Nat
 |[]=>0
 |x::l=>nS x+nSs l
end
def nT:List TThread→Nat
 |[]=>0
 |t::l=>1+nSs t.body+nT l
theorem nE_eq (x:TExpr):nE x=1+nEs x.args:=by cases x; simp[nE]
theorem nS_eq (x:TStmt):nS x=1+nE x.expr+nSs x.then_+nSs x.else_:=by cases x; simp[nS]
theorem evE_eq (x:TExpr) (d:Int):evE x d=.e x d::evEs x.args (d+1):=by cases x; simp[evE]
theorem evS_eq (x:TStmt) (d:Int):evS x d=.s x d::((if zaan x.expr then evE x.expr 1 else [])++(evSs x.then_ (d+1)++evSs x.else_ (d+1))):=by cases x; simp[evS]
theorem zadf:∀ l:List TExpr,l.length≤nEs l
 |[]=>by simp[nEs]
 |x::l=>by have:=zadf l; have:=nE_eq x; simp only[nEs,List.length_cons]; omega
theorem zab5:∀ l:List TStmt,l.length≤nSs l
 |[]=>by simp[nSs]
 |x::l=>by have:=zab5 l; have:=nS_eq x; simp only[nSs,List.length_cons]; omega
theorem zac6:∀ l:List TThread,l.length≤nT l
 |[]=>by simp[nT]
 |x::l=>by have:=zac6 l; simp only[nT,List.length_cons]; omega
theorem zadj:∀ {l:List TExpr} {x:TExpr},x∈l→nE x≤nEs l
 |y::l,x,h=>by
  simp only[nEs];cases h with
  |head=>omega
  |tail _ h=>have:=zadj h; omega
theorem zaev:∀ {l:List TStmt} {x:TStmt},x∈l→nS x≤nSs l
 |y::l,x,h=>by
  simp only[nSs];cases h with
  |head=>omega
  |tail _ h=>have:=zaev h; omega
theorem zaef:∀ {l:List TThread} {x:TThread},x∈l→nSs x.body<nT l
 |y::l,x,h=>by
  simp only[nT];cases h with
  |head=>omega
  |tail _ h=>have:=zaef h; omega
theorem zanx : ∀ (l : List TExpr) (d : Int), evEs l d = l.flatMap fun x => evE x d
 |[],d=>by simp[evEs]
 |x::l,d=>by simp[evEs,zanx l d]
theorem zan2 : ∀ (l : List TStmt) (d : Int), evSs l d = l.flatMap fun x => evS x d
 |[],d=>by simp[evSs]
 |x::l,d=>by simp[evSs,zan2 l d]
theorem zadg {α β σ : Type} (f : α → List β) (g : σ → β → Option σ) : ∀ (l : List α) (s : σ), (l.flatMap f).foldlM g s = l.foldlM (fun s x => (f x).foldlM g s) s
 |[],s=>rfl
 |x::l,s=>by
  rw[List.flatMap_cons,List.foldlM_append,List.foldlM_cons];congr 1;funext s';exact zadg f g l s'
theorem zacp {α β:Type} (o:Option (α×β)):(o.bind fun y=>some (y.1,y.2))=o:=by cases o<;>rfl
theorem zaay (x:TExpr):TExpr.mk x.kind x.num x.name x.args=x:=by cases x; rfl
theorem zawx (x:TStmt):TStmt.mk x.kind x.reg x.name (TExpr.mk x.expr.kind x.expr.num x.expr.name x.expr.args) x.count x.then_ x.else_=x:=by
 obtain ⟨k,r,n,⟨_,_,_,_⟩,c,t,o⟩:=x;rfl
theorem zalm (x:TStmt):TStmt.mk x.kind x.reg x.name x.expr x.count x.then_ x.else_=x:=by cases x; rfl
theorem zad1 (x:TProg):TProg.mk x.cells x.mutexes x.threads=x:=by cases x; rfl
def atEv {σ:Type} (g:TStmt→Int→σ→Option σ) (h:TExpr→Int→σ→Option σ) (s:σ):Ev→Option σ
 |.s x d=>g x d s
 |.e x d=>h x d s
structure WalksE {σ:Type} (h:TExpr→Int→σ→Option σ) (F:Nat→TExpr→Int→σ→Option σ):Prop where
 step:∀ n x d s,(d:Int)+1≤4611686018427387904→-4611686018427387904≤d→x.args.length≤4611686018427387904→F (n+1) x d s=(h x d s).bind fun s'=>x.args.foldlM (fun s y=>F n y (d+1) s) s'
theorem zapg {σ:Type} {g:TStmt→Int→σ→Option σ} {h:TExpr→Int→σ→Option σ} {F:Nat→TExpr→Int→σ→Option σ} (hW:WalksE h F) :
  ∀ (k n:Nat) (x:TExpr) (d:Int) (s:σ),nE x≤k→k<n→0≤d→d+k≤1000000000000000000→F n x d s=(evE x d).foldlM (atEv g h) s:=by
 intro k;induction k with
 |zero=>intro n x d s hk; have:=nE_eq x; omega
 |succ k ih=>
  intro n x d s hk hn h0 hd;obtain ⟨n,rfl⟩:∃ q,n=q+1:=⟨n-1,by omega⟩;have hx:=nE_eq x;have hl:=zadf x.args;rw[hW.step n x d s (by omega) (by omega) (by omega),evE_eq,List.foldlM_cons];show _=(h x d s).bind _;congr 1;funext s';rw[zanx,zadg];have:∀ (l:List TExpr) (s:σ),(∀ y∈l,nE y≤k)→l.foldlM (fun s y=>F n y (d+1) s) s=l.foldlM (fun s y=>(evE y (d+1)).foldlM (atEv g h) s) s:=by
   intro l;induction l with
   |nil=>intro s _; rfl
   |cons y l ihl=>
    intro s hy;rw[List.foldlM_cons,List.foldlM_cons,ih n y (d+1) s (hy y (by simp)) (by omega) (by omega) (by omega)];congr 1;funext s';exact ihl s' (fun z hz=>hy z (by simp[hz]))
  exact this _ _ (fun y hy=>by have:=zadj hy; omega)
structure WalksS {σ:Type} (g:TStmt→Int→σ→Option σ) (E:TExpr→Int→σ→Option σ) (F:Nat→List TStmt→Int→σ→Option σ):Prop where
 step:∀ n l d s,(d:Int)+1≤4611686018427387904→-4611686018427387904≤d→l.length≤4611686018427387904→F (n+1) l d s=l.foldlM (fun s x=>(g x d s).bind fun s1=>(if zaan x.expr then E x.expr 1 s1 else some s1).bind fun s2=>(F n x.then_ (d+1) s2).bind fun s3=>F n x.else_ (d+1) s3) s
theorem zapz {σ:Type} {g:TStmt→Int→σ→Option σ} {h:TExpr→Int→σ→Option σ} {E:TExpr→Int→σ→Option σ} {F:Nat→List TStmt→Int→σ→Option σ}
  (hE:∀ x s,nE x≤100000000000000000→E x 1 s=(evE x 1).foldlM (atEv g h) s) (hW:WalksS g E F) :
  ∀ (k n:Nat) (l:List TStmt) (d:Int) (s:σ),nSs l≤k→k<n→0≤d→d+k≤100000000000000000→F n l d s=(evSs l d).foldlM (atEv g h) s:=by
 intro k;induction k with
 |zero=>
  intro n l d s hk hn h0 hd;obtain ⟨n,rfl⟩:∃ q,n=q+1:=⟨n-1,by omega⟩;have hl:=zab5 l;obtain rfl:l=[]:=List.eq_nil_of_length_eq_zero (by omega);rw[hW.step n [] d s (by omega) (by omega) (by simp)];simp[evSs]
 |succ k ih=>
  intro n l d s hk hn h0 hd;obtain ⟨n,rfl⟩:∃ q,n=q+1:=⟨n-1,by omega⟩;have hl:=zab5 l;rw[hW.step n l d s (by omega) (by omega) (by omega),zan2,zadg]
  have : ∀ (l : List TStmt) (s : σ), (∀ y ∈ l, nS y ≤ k + 1) → l.foldlM (fun s x => (g x d s).bind fun s1 => (if zaan x.expr then E x.expr 1 s1 else some s1).bind fun s2 => (F n x.then_ (d + 1) s2).bind fun s3 => F n x.else_ (d + 1) s3) s =
    l.foldlM (fun s y=>(evS y d).foldlM (atEv g h) s) s:=by
   intro l;induction l with
   |nil=>intro s _; rfl
   |cons y l ihl=>
    intro s hy;have hy1:=hy y (by simp);have hy2:=nS_eq y;rw[List.foldlM_cons,List.foldlM_cons];have e:∀ s,((g y d s).bind fun s1=>(if zaan y.expr then E y.expr 1 s1 else some s1).bind fun s2=>(F n y.then_ (d+1) s2).bind fun s3=>F n y.else_ (d+1) s3)=(evS y d).foldlM (atEv g h) s:=by
     intro s;rw[evS_eq,List.foldlM_cons];show _=(g y d s).bind _;congr 1;funext s1;rw[List.foldlM_append];have e1:(if zaan y.expr then E y.expr 1 s1 else some s1)=(if zaan y.expr then evE y.expr 1 else []).foldlM (atEv g h) s1:=by
      split
      ·exact hE _ _ (by omega)
      ·rfl
     rw[e1];congr 1;funext s2;rw[List.foldlM_append];rw[ih n y.then_ (d+1) s2 (by omega) (by omega) (by omega) (by omega)];congr 1;funext s3;exact ih n y.else_ (d+1) s3 (by omega) (by omega) (by omega) (by omega)
    rw[e];congr 1;funext s';exact ihl s' (fun z hz=>hy z (by simp[hz]))
  exact this _ _ (fun y hy=>by have:=zaev hy; omega)
end Lift.A3
namespace Lift.A3
open Go Go.RowKit Lift Go.IntWalk Lift.Fn
set_option linter.unusedVariables false
set_option linter.unusedSimpArgs false
theorem wE : WalksE (fun (x : TExpr) (d : Int) (s : Bool) => qbJ x d s) (fun (n : Nat) (x : TExpr) (d : Int) (s : Bool) => qac_i n x d s) where
 step:=by
  intro n x d s hd1 hd2 hl;show qac_f (qac_i n) x d s=_;unfold qac_f;rw[zaay];congr 1;funext y0
  have hL := zaci (σ := Bool) x.args (fun y s => qac_i n y (d + 1) s) (fun m i s => qac_i3 (qac_i n) m d x.args (x.args.length : Int) i s)
   (fun m i s h0 h=>by simp only[qac_i3,qac_t3,decide_eq_false h,cond_false])
   (fun m i s y h0 h hy=>by
    simp only[qac_i3,qac_t3,decide_eq_true h,decide_eq_true h0,cond_true,hy,Option.bind_some,zaay];rw[i64_in (i+1) (by omega),i64_in (d+1) (by omega)])
   x.args.length fuel 0 y0 (by omega) (by omega) (by unfold fuel; omega)
  try simp only at hL
  rw[qac_l3,zaaa,hL];simp[zacp]
theorem wEx (x:TExpr) (s:Bool) (hx:nE x≤100000000000000000):qac x 1 s=(evE x 1).foldlM (atEv (fun (x:TStmt) (d:Int) (s:Bool)=>qbI x d s) (fun (x:TExpr) (d:Int) (s:Bool)=>qbJ x d s)) s:=by
 rw[qac,zaaa];exact zapg (g:=(fun (x:TStmt) (d:Int) (s:Bool)=>qbI x d s)) wE (nE x) fuel x 1 s (Nat.le_refl _) (by unfold fuel; omega) (by omega) (by omega)
theorem wS : WalksS (fun (x : TStmt) (d : Int) (s : Bool) => qbI x d s) (fun (x : TExpr) (d : Int) (s : Bool) => qac x d s) (fun (n : Nat) (l : List TStmt) (d : Int) (s : Bool) => qai_i n l d s) where
 step:=by
  intro n l d s hd1 hd2 hl;show qai_f (qai_i n) l d s=_;unfold qai_f
  have hL := zaci (σ := Bool) l (fun x s => (qbI x d s).bind fun s1 => (if zaan x.expr then qac x.expr 1 s1 else some s1).bind fun s2 => (qai_i n x.then_ (d + 1) s2).bind fun s3 => qai_i n x.else_ (d + 1) s3)
   (fun m i s=>qai_i2 (qai_i n) m d l (l.length:Int) i s)
   (fun m i s h0 h=>by simp only[qai_i2,qai_t2,decide_eq_false h,cond_false])
   (fun m i s y h0 h hy=>by
    have e:(bif TExpr.kind (TStmt.expr y) != (0:Int) then some true else some (decide ((↑(List.length (TExpr.args (TStmt.expr y))):Int)>(0:Int))))=some (zaan y.expr):=by
     unfold zaan;cases (y.expr.kind != 0)
     ·simp
     ·rfl
    simp only[qai_i2,qai_t2,decide_eq_true h,decide_eq_true h0,cond_true,hy,Option.bind_some,zaay,zalm,e];rw[i64_in (i+1) (by omega),i64_in (d+1) (by omega)];cases zaan y.expr<;>simp[Option.bind_assoc])
   l.length fuel 0 s (by omega) (by omega) (by unfold fuel; omega)
  try simp only at hL
  rw[qai_l2,zaaa,hL];simp[zacp]
theorem wSt (l:List TStmt) (s:Bool) (hl:nSs l≤10000000000000000):qai l 1 s=(evSs l 1).foldlM (atEv (fun (x:TStmt) (d:Int) (s:Bool)=>qbI x d s) (fun (x:TExpr) (d:Int) (s:Bool)=>qbJ x d s)) s:=by
 rw[qai,zaaa];exact zapz (g:=(fun (x:TStmt) (d:Int) (s:Bool)=>qbI x d s)) (h:=(fun (x:TExpr) (d:Int) (s:Bool)=>qbJ x d s)) (fun x s hx=>wEx x s hx) wS (nSs l) fuel l 1 s (Nat.le_refl _) (by unfold fuel; omega) (by omega) (by omega)
theorem wP (p:TProg) (s:Bool) (hl:nT p.threads≤10000000000000000):qaf p s=(evP p).foldlM (atEv (fun (x:TStmt) (d:Int) (s:Bool)=>qbI x d s) (fun (x:TExpr) (d:Int) (s:Bool)=>qbJ x d s)) s:=by
 rw[qaf,zaaa];unfold qaf_f;have hn:=zac6 p.threads
 have hL := zaci (σ := Bool) p.threads (fun t s => qai t.body 1 s) (fun m i s => qaf_i2 m p.threads (p.threads.length : Int) i s)
  (fun m i s h0 h=>by simp only[qaf_i2,qaf_t2,decide_eq_false h,cond_false])
  (fun m i s y h0 h hy=>by
   simp only[qaf_i2,qaf_t2,decide_eq_true h,decide_eq_true h0,cond_true,hy,Option.bind_some];rw[i64_in (i+1) (by omega)])
  p.threads.length fuel 0 s (by omega) (by omega) (by unfold fuel; omega)
 try simp only at hL
 rw[qaf_l2,zaaa,hL];unfold evP;rw[zadg];have:∀ (l:List TThread) (s:Bool),(∀ t∈l,nSs t.body≤10000000000000000)→l.foldlM (fun s t=>qai t.body 1 s) s=l.foldlM (fun s t=>(evSs t.body 1).foldlM (atEv (fun (x:TStmt) (d:Int) (s:Bool)=>qbI x d s) (fun (x:TExpr) (d:Int) (s:Bool)=>qbJ x d s)) s) s:=by
  intro l;induction l with
  |nil=>intro s _; rfl
  |cons t l ih=>
   intro s ht;rw[List.foldlM_cons,List.foldlM_cons,wSt t.body s (ht t (by simp))];congr 1;funext s';exact ih s' (fun z hz=>ht z (by simp[hz]))
 rw[Int.toNat_zero,List.drop_zero,this _ _ (fun t ht=>by have:=zaef ht; omega)];simp[zacp]
theorem wE_1 : WalksE (fun (x : TExpr) (d : Int) (s : Int) => qbE x d s) (fun (n : Nat) (x : TExpr) (d : Int) (s : Int) => qad_i n x d s) where
 step:=by
  intro n x d s hd1 hd2 hl;show qad_f (qad_i n) x d s=_;unfold qad_f;rw[zaay];congr 1;funext y0
  have hL := zaci (σ := Int) x.args (fun y s => qad_i n y (d + 1) s) (fun m i s => qad_i3 (qad_i n) m d x.args (x.args.length : Int) i s)
   (fun m i s h0 h=>by simp only[qad_i3,qad_t3,decide_eq_false h,cond_false])
   (fun m i s y h0 h hy=>by
    simp only[qad_i3,qad_t3,decide_eq_true h,decide_eq_true h0,cond_true,hy,Option.bind_some,zaay];rw[i64_in (i+1) (by omega),i64_in (d+1) (by omega)])
   x.args.length fuel 0 y0 (by omega) (by omega) (by unfold fuel; omega)
  try simp only at hL
  rw[qad_l3,zaaa,hL];simp[zacp]
theorem wEx_1 (x:TExpr) (s:Int) (hx:nE x≤100000000000000000):qad x 1 s=(evE x 1).foldlM (atEv (fun (x:TStmt) (d:Int) (s:Int)=>qbD x d s) (fun (x:TExpr) (d:Int) (s:Int)=>qbE x d s)) s:=by
 rw[qad,zaaa];exact zapg (g:=(fun (x:TStmt) (d:Int) (s:Int)=>qbD x d s)) wE_1 (nE x) fuel x 1 s (Nat.le_refl _) (by unfold fuel; omega) (by omega) (by omega)
theorem wS_1 : WalksS (fun (x : TStmt) (d : Int) (s : Int) => qbD x d s) (fun (x : TExpr) (d : Int) (s : Int) => qad x d s) (fun (n : Nat) (l : List TStmt) (d : Int) (s : Int) => qaj_i n l d s) where
 step:=by
  intro n l d s hd1 hd2 hl;show qaj_f (qaj_i n) l d s=_;unfold qaj_f
  have hL := zaci (σ := Int) l (fun x s => (qbD x d s).bind fun s1 => (if zaan x.expr then qad x.expr 1 s1 else some s1).bind fun s2 => (qaj_i n x.then_ (d + 1) s2).bind fun s3 => qaj_i n x.else_ (d + 1) s3)
   (fun m i s=>qaj_i2 (qaj_i n) m d l (l.length:Int) i s)
   (fun m i s h0 h=>by simp only[qaj_i2,qaj_t2,decide_eq_false h,cond_false])
   (fun m i s y h0 h hy=>by
    have e:(bif TExpr.kind (TStmt.expr y) != (0:Int) then some true else some (decide ((↑(List.length (TExpr.args (TStmt.expr y))):Int)>(0:Int))))=some (zaan y.expr):=by
     unfold zaan;cases (y.expr.kind != 0)
     ·simp
     ·rfl
    simp only[qaj_i2,qaj_t2,decide_eq_true h,decide_eq_true h0,cond_true,hy,Option.bind_some,zaay,zalm,e];rw[i64_in (i+1) (by omega),i64_in (d+1) (by omega)];cases zaan y.expr<;>simp[Option.bind_assoc])
   l.length fuel 0 s (by omega) (by omega) (by unfold fuel; omega)
  try simp only at hL
  rw[qaj_l2,zaaa,hL];simp[zacp]
theorem wSt_1 (l:List TStmt) (s:Int) (hl:nSs l≤10000000000000000):qaj l 1 s=(evSs l 1).foldlM (atEv (fun (x:TStmt) (d:Int) (s:Int)=>qbD x d s) (fun (x:TExpr) (d:Int) (s:Int)=>qbE x d s)) s:=by
 rw[qaj,zaaa];exact zapz (g:=(fun (x:TStmt) (d:Int) (s:Int)=>qbD x d s)) (h:=(fun (x:TExpr) (d:Int) (s:Int)=>qbE x d s)) (fun x s hx=>wEx_1 x s hx) wS_1 (nSs l) fuel l 1 s (Nat.le_refl _) (by unfold fuel; omega) (by omega) (by omega)
theorem wP_1 (p:TProg) (s:Int) (hl:nT p.threads≤10000000000000000):qag p s=(evP p).foldlM (atEv (fun (x:TStmt) (d:Int) (s:Int)=>qbD x d s) (fun (x:TExpr) (d:Int) (s:Int)=>qbE x d s)) s:=by
 rw[qag,zaaa];unfold qag_f;have hn:=zac6 p.threads
 have hL := zaci (σ := Int) p.threads (fun t s => qaj t.body 1 s) (fun m i s => qag_i2 m p.threads (p.threads.length : Int) i s)
  (fun m i s h0 h=>by simp only[qag_i2,qag_t2,decide_eq_false h,cond_false])
  (fun m i s y h0 h hy=>by
   simp only[qag_i2,qag_t2,decide_eq_true h,decide_eq_true h0,cond_true,hy,Option.bind_some];rw[i64_in (i+1) (by omega)])
  p.threads.length fuel 0 s (by omega) (by omega) (by unfold fuel; omega)
 try simp only at hL
 rw[qag_l2,zaaa,hL];unfold evP;rw[zadg];have:∀ (l:List TThread) (s:Int),(∀ t∈l,nSs t.body≤10000000000000000)→l.foldlM (fun s t=>qaj t.body 1 s) s=l.foldlM (fun s t=>(evSs t.body 1).foldlM (atEv (fun (x:TStmt) (d:Int) (s:Int)=>qbD x d s) (fun (x:TExpr) (d:Int) (s:Int)=>qbE x d s)) s) s:=by
  intro l;induction l with
  |nil=>intro s _; rfl
  |cons t l ih=>
   intro s ht;rw[List.foldlM_cons,List.foldlM_cons,wSt_1 t.body s (ht t (by simp))];congr 1;funext s';exact ih s' (fun z hz=>ht z (by simp[hz]))
 rw[Int.toNat_zero,List.drop_zero,this _ _ (fun t ht=>by have:=zaef ht; omega)];simp[zacp]
theorem wE_2 : WalksE (fun (x : TExpr) (d : Int) (s : Int) => qbB x d s) (fun (n : Nat) (x : TExpr) (d : Int) (s : Int) => qae_i n x d s) where
 step:=by
  intro n x d s hd1 hd2 hl;show qae_f (qae_i n) x d s=_;unfold qae_f;rw[zaay];congr 1;funext y0
  have hL := zaci (σ := Int) x.args (fun y s => qae_i n y (d + 1) s) (fun m i s => qae_i3 (qae_i n) m d x.args (x.args.length : Int) i s)
   (fun m i s h0 h=>by simp only[qae_i3,qae_t3,decide_eq_false h,cond_false])
   (fun m i s y h0 h hy=>by
    simp only[qae_i3,qae_t3,decide_eq_true h,decide_eq_true h0,cond_true,hy,Option.bind_some,zaay];rw[i64_in (i+1) (by omega),i64_in (d+1) (by omega)])
   x.args.length fuel 0 y0 (by omega) (by omega) (by unfold fuel; omega)
  try simp only at hL
  rw[qae_l3,zaaa,hL];simp[zacp]
theorem wEx_2 (x:TExpr) (s:Int) (hx:nE x≤100000000000000000):qae x 1 s=(evE x 1).foldlM (atEv (fun (x:TStmt) (d:Int) (s:Int)=>qbA x d s) (fun (x:TExpr) (d:Int) (s:Int)=>qbB x d s)) s:=by
 rw[qae,zaaa];exact zapg (g:=(fun (x:TStmt) (d:Int) (s:Int)=>qbA x d s)) wE_2 (nE x) fuel x 1 s (Nat.le_refl _) (by unfold fuel; omega) (by omega) (by omega)
theorem wS_2 : WalksS (fun (x : TStmt) (d : Int) (s : Int) => qbA x d s) (fun (x : TExpr) (d : Int) (s : Int) => qae x d s) (fun (n : Nat) (l : List TStmt) (d : Int) (s : Int) => qak_i n l d s) where
 step:=by
  intro n l d s hd1 hd2 hl;show qak_f (qak_i n) l d s=_;unfold qak_f
  have hL := zaci (σ := Int) l (fun x s => (qbA x d s).bind fun s1 => (if zaan x.expr then qae x.expr 1 s1 else some s1).bind fun s2 => (qak_i n x.then_ (d + 1) s2).bind fun s3 => qak_i n x.else_ (d + 1) s3)
   (fun m i s=>qak_i2 (qak_i n) m d l (l.length:Int) i s)
   (fun m i s h0 h=>by simp only[qak_i2,qak_t2,decide_eq_false h,cond_false])
   (fun m i s y h0 h hy=>by
    have e:(bif TExpr.kind (TStmt.expr y) != (0:Int) then some true else some (decide ((↑(List.length (TExpr.args (TStmt.expr y))):Int)>(0:Int))))=some (zaan y.expr):=by
     unfold zaan;cases (y.expr.kind != 0)
     ·simp
     ·rfl
    simp only[qak_i2,qak_t2,decide_eq_true h,decide_eq_true h0,cond_true,hy,Option.bind_some,zaay,zalm,e];rw[i64_in (i+1) (by omega),i64_in (d+1) (by omega)];cases zaan y.expr<;>simp[Option.bind_assoc])
   l.length fuel 0 s (by omega) (by omega) (by unfold fuel; omega)
  try simp only at hL
  rw[qak_l2,zaaa,hL];simp[zacp]
theorem wSt_2 (l:List TStmt) (s:Int) (hl:nSs l≤10000000000000000):qak l 1 s=(evSs l 1).foldlM (atEv (fun (x:TStmt) (d:Int) (s:Int)=>qbA x d s) (fun (x:TExpr) (d:Int) (s:Int)=>qbB x d s)) s:=by
 rw[qak,zaaa];exact zapz (g:=(fun (x:TStmt) (d:Int) (s:Int)=>qbA x d s)) (h:=(fun (x:TExpr) (d:Int) (s:Int)=>qbB x d s)) (fun x s hx=>wEx_2 x s hx) wS_2 (nSs l) fuel l 1 s (Nat.le_refl _) (by unfold fuel; omega) (by omega) (by omega)
theorem wP_2 (p:TProg) (s:Int) (hl:nT p.threads≤10000000000000000):qah p s=(evP p).foldlM (atEv (fun (x:TStmt) (d:Int) (s:Int)=>qbA x d s) (fun (x:TExpr) (d:Int) (s:Int)=>qbB x d s)) s:=by
 rw[qah,zaaa];unfold qah_f;have hn:=zac6 p.threads
 have hL := zaci (σ := Int) p.threads (fun t s => qak t.body 1 s) (fun m i s => qah_i2 m p.threads (p.threads.length : Int) i s)
  (fun m i s h0 h=>by simp only[qah_i2,qah_t2,decide_eq_false h,cond_false])
  (fun m i s y h0 h hy=>by
   simp only[qah_i2,qah_t2,decide_eq_true h,decide_eq_true h0,cond_true,hy,Option.bind_some];rw[i64_in (i+1) (by omega)])
  p.threads.length fuel 0 s (by omega) (by omega) (by unfold fuel; omega)
 try simp only at hL
 rw[qah_l2,zaaa,hL];unfold evP;rw[zadg];have:∀ (l:List TThread) (s:Int),(∀ t∈l,nSs t.body≤10000000000000000)→l.foldlM (fun s t=>qak t.body 1 s) s=l.foldlM (fun s t=>(evSs t.body 1).foldlM (atEv (fun (x:TStmt) (d:Int) (s:Int)=>qbA x d s) (fun (x:TExpr) (d:Int) (s:Int)=>qbB x d s)) s) s:=by
  intro l;induction l with
  |nil=>intro s _; rfl
  |cons t l ih=>
   intro s ht;rw[List.foldlM_cons,List.foldlM_cons,wSt_2 t.body s (ht t (by simp))];congr 1;funext s';exact ih s' (fun z hz=>ht z (by simp[hz]))
 rw[Int.toNat_zero,List.drop_zero,this _ _ (fun t ht=>by have:=zaef ht; omega)];simp[zacp]
end Lift.A3
namespace Lift.A3
open Go Go.RowKit Lift Go.IntWalk Lift.Fn
set_option linter.unusedVariables false
set_option linter.unusedSimpArgs false
theorem zaxp {α σ ρ:Type} (l:List α) (I:List α→σ→Prop) (P:List α→σ→ρ) (L:Nat→Int→σ→Option ρ)
  (h0:∀ n i s,0≤i→¬ i<(l.length:Int)→I [] s→L (n+1) i s=some (P [] s))
  (h1:∀ n i s x r,0≤i→i<(l.length:Int)→l[i.toNat]? = some x→x∈l→I (x::r) s→(∃ s',I r s'∧L (n+1) i s=L n (i+1) s'∧P (x::r) s=P r s')∨L (n+1) i s=some (P (x::r) s)) :
  ∀ (k n:Nat) (i:Int) (s:σ),0≤i→l.length-i.toNat≤k→k<n→I (l.drop i.toNat) s→L n i s=some (P (l.drop i.toNat) s):=by
 intro k;induction k with
 |zero=>
  intro n i s hi hk hn hI;obtain ⟨n,rfl⟩:∃ q,n=q+1:=⟨n-1,by omega⟩;rw[List.drop_eq_nil_of_le (by omega)] at hI ⊢;exact h0 n i s hi (by omega) hI
 |succ k ih=>
  intro n i s hi hk hn hI;obtain ⟨n,rfl⟩:∃ q,n=q+1:=⟨n-1,by omega⟩;by_cases c:i<(l.length:Int)
  ·have hlt:i.toNat<l.length:=by omega
   rw[List.drop_eq_getElem_cons hlt] at hI ⊢;rcases h1 n i s l[i.toNat] _ hi c (List.getElem?_eq_getElem hlt) (List.getElem_mem hlt) hI with ⟨s',i1,e1,e2⟩|e
   ·have e:(i+1).toNat=i.toNat+1:=by omega
    rw[e1,ih n (i+1) s' (by omega) (by omega) (by omega) (by rw[e]; exact i1),e2,e]
   ·exact e
  ·rw[List.drop_eq_nil_of_le (by omega)] at hI ⊢;exact h0 n i s hi c hI
theorem zaa7 {α σ ρ:Type} (l:List α) (I:List α→σ→Prop) (P:List α→σ→ρ) (L:Nat→Int→σ→Option ρ)
  (h0:∀ n i s,0≤i→¬ i<(l.length:Int)→I [] s→L (n+1) i s=some (P [] s))
  (h1:∀ n i s x r,0≤i→i<(l.length:Int)→l[i.toNat]? = some x→x∈l→I (x::r) s→(∃ s',I r s'∧L (n+1) i s=L n (i+1) s'∧P (x::r) s=P r s')∨L (n+1) i s=some (P (x::r) s))
  (n:Nat) (s:σ) (hn:l.length<n) (hI:I l s):L n 0 s=some (P l s):=by
 have:=zaxp l I P L h0 h1 l.length n 0 s (by omega) (by omega) hn;rw[Int.toNat_zero,List.drop_zero] at this;exact this hI
mutual
theorem lenE:∀ (x:TExpr) (d:Int),(evE x d).length=nE x
 |⟨k,n,m,l⟩,d=>by simp[evE,nE,lenEs l (d+1)]; omega
theorem lenEs:∀ (l:List TExpr) (d:Int),(evEs l d).length=nEs l
 |[],d=>by simp[evEs,nEs]
 |x::l,d=>by simp[evEs,nEs,lenE x d,lenEs l d]
end
mutual
def cS:TStmt→Nat
 |⟨_,_,_,x,_,t,o⟩=>1+(if zaan x then nE x else 0)+cSs t+cSs o
def cSs:List TStmt→Nat
 |[]=>0
 |x::l=>cS x+cSs l
end
def cT:List TThread→Nat
 |[]=>0
 |t::l=>cSs t.body+cT l
theorem cS_eq (x:TStmt):cS x=1+(if zaan x.expr then nE x.expr else 0)+cSs x.then_+cSs x.else_:=by cases x; simp[cS]
mutual
theorem lenS:∀ (x:TStmt) (d:Int),(evS x d).length=cS x
 |⟨k,r,m,x,c,t,o⟩,d=>by
  have h1:=lenSs t (d+1);have h2:=lenSs o (d+1);have h3:=lenE x 1;simp only[evS,cS,List.length_cons,List.length_append,h1,h2];split<;>simp[h3]<;>omega
theorem lenSs:∀ (l:List TStmt) (d:Int),(evSs l d).length=cSs l
 |[],d=>by simp[evSs,cSs]
 |x::l,d=>by simp[evSs,cSs,lenS x d,lenSs l d]
end
mutual
theorem cS_le:∀ x:TStmt,cS x≤nS x
 |⟨k,r,m,x,c,t,o⟩=>by
  have h1:=zae0 t;have h2:=zae0 o;simp only[cS,nS];split<;>omega
theorem zae0:∀ l:List TStmt,cSs l≤nSs l
 |[]=>by simp[cSs]
 |x::l=>by have:=cS_le x; have:=zae0 l; simp only[cSs,nSs]; omega
end
theorem cT_le:∀ l:List TThread,cT l≤nT l
 |[]=>by simp[cT]
 |x::l=>by have:=zae0 x.body; have:=cT_le l; simp only[cT,nT]; omega
theorem lenP : ∀ (l : List TThread), (l.flatMap fun t => evSs t.body 1).length = cT l
 |[]=>rfl
 |t::l=>by simp only[List.flatMap_cons,List.length_append,lenSs,lenP l,cT]
theorem zal4:∀ (l:List Ev) (s:Int),0≤s→s+l.length≤1000000000000000000 →
  l.foldlM (atEv (fun (x:TStmt) (d:Int) (s:Int)=>qbA x d s) (fun (x:TExpr) (d:Int) (s:Int)=>qbB x d s)) s=some (s+l.length)
 |[],s,_,_=>by simp
 |e::l,s,h0,h=>by
  simp only[List.length_cons] at h;have e1:atEv (fun (x:TStmt) (d:Int) (s:Int)=>qbA x d s) (fun (x:TExpr) (d:Int) (s:Int)=>qbB x d s) s e=some (s+1):=by
   cases e with
   |s x d=>show qbA x d s=_; rw[qbA,zaaa]; unfold qbA_f; rw[i64_in (s+1) (by omega)]
   |e x d=>show qbB x d s=_; rw[qbB,zaaa]; unfold qbB_f; rw[i64_in (s+1) (by omega)]
  rw[List.foldlM_cons,e1];show List.foldlM _ (s+1) l=_;rw[zal4 l (s+1) (by omega) (by omega),List.length_cons];congr 1;omega
theorem zava (p:TProg) (h:nT p.threads≤10000000000000000):qbz p=some (cT p.threads:Int):=by
 rw[qbz,zaaa];unfold qbz_f;have hc:=cT_le p.threads;have hl:=lenP p.threads;rw[zad1,wP_2 p 0 h,zal4 _ 0 (by omega) (by unfold evP; rw[hl]; omega),Option.bind_some];unfold evP;rw[hl];simp
theorem zalu (x:TExpr):qbo x=some (zaan x):=by
 rw[qbo,zaaa];unfold qbo_f zaan;cases (x.kind != 0)
 ·simp
 ·rfl
theorem zaum:∀ (k n:Nat) (x:TExpr),nE x≤k→k<n→k≤100000000000000000→qa8_i n x=some (nE x:Int):=by
 intro k;induction k with
 |zero=>intro n x h; have:=nE_eq x; omega
 |succ k ih=>
  intro n x h hn hb;obtain ⟨n,rfl⟩:∃ q,n=q+1:=⟨n-1,by omega⟩;have hx:=nE_eq x;have hl:=zadf x.args;show qa8_f (qa8_i n) x=_;unfold qa8_f
  have hL := zaci (σ := Int) x.args (fun y s => (qa8_i n y).bind fun c => some (IntKind.i64.wrap (s + c)))
   (fun m i s=>qa8_i3 (qa8_i n) m s i x.kind x.num x.name x.args)
   (fun m i s h0 h=>by simp only[qa8_i3,qa8_t3,decide_eq_false h,cond_false])
   (fun m i s y h0 h hy=>by
    simp only[qa8_i3,qa8_t3,decide_eq_true h,decide_eq_true h0,cond_true,hy,Option.bind_some,Option.bind_assoc];rw[i64_in (i+1) (by omega)])
   x.args.length fuel 0 1 (by omega) (by omega) (by unfold fuel; omega)
  rw[qa8_l3,zaaa,hL,Int.toNat_zero,List.drop_zero];have:∀ (l:List TExpr) (s:Int),0≤s→s+nEs l≤1000000000000000000→(∀ y∈l,nE y≤k)→l.foldlM (fun s y=>(qa8_i n y).bind fun c=>some (IntKind.i64.wrap (s+c))) s=some (s+nEs l):=by
   intro l;induction l with
   |nil=>intro s _ _ _; simp[nEs]
   |cons y l ihl=>
    intro s h0 hs hy;simp only[nEs] at hs;rw[List.foldlM_cons,ih n y (hy y (by simp)) (by omega) (by omega),Option.bind_some,i64_in (s+nE y) (by omega)];show List.foldlM _ (s+(nE y:Int)) l=_;rw[ihl (s+nE y) (by omega) (by omega) (fun z hz=>hy z (by simp[hz]))];simp only[nEs];congr 1;omega
  rw[this x.args 1 (by omega) (by omega) (fun y hy=>by have:=zadj hy; omega),Option.bind_some,hx];simp
theorem zaqi (x:TExpr) (h:nE x≤10000000000000000):qa8 x=some (nE x:Int):=by
 rw[qa8,zaaa];exact zaum (nE x) fuel x (Nat.le_refl _) (by unfold fuel; omega) (by omega)
theorem zauh:∀ (k n:Nat) (l:List TStmt),nSs l≤k→k<n→k≤10000000000000000→qbh_i n l=some (cSs l:Int):=by
 intro k;induction k with
 |zero=>
  intro n l h hn _;obtain ⟨n,rfl⟩:∃ q,n=q+1:=⟨n-1,by omega⟩;have hl:=zab5 l;obtain rfl:l=[]:=List.eq_nil_of_length_eq_zero (by omega);show qbh_f (qbh_i n) []=_;unfold qbh_f;rw[qbh_l3,zaaa];rfl
 |succ k ih=>
  intro n l h hn hb;obtain ⟨n,rfl⟩:∃ q,n=q+1:=⟨n-1,by omega⟩;have hl:=zab5 l;have hcl:=zae0 l;show qbh_f (qbh_i n) l=_;unfold qbh_f
  have hL := zaa7 (σ := Int) l (fun r s => 0 ≤ s ∧ s + cSs r ≤ 1000000000000000000) (fun r s => s + (cSs r : Int))
   (fun m i s=>qbh_i3 (qbh_i n) m l s i)
   (fun m i s h0 h hI=>by
    simp only[qbh_i3,qbh_t3,decide_eq_false h,cond_false,cSs];congr 1;omega)
   (fun m i s y r h0 h hy hm hI=>by
    have hy1:=zaev hm;have hy2:=nS_eq y;have hy3:=cS_eq y;have t1:=zae0 y.then_;have t2:=zae0 y.else_;obtain ⟨c1,c2⟩:=hI;simp only[cSs] at c2;refine Or.inl ⟨s+cS y,⟨by omega,by omega⟩,?_,by simp only[cSs]; omega⟩;simp only[qbh_i3,qbh_t3,decide_eq_true h,decide_eq_true h0,hy,Option.bind_some,zaay,zalu,cond_true];rw[ih n y.then_ (by omega) (by omega) (by omega),ih n y.else_ (by omega) (by omega) (by omega),zaqi y.expr (by omega)];simp only[Option.bind_some];cases hb2:zaan y.expr with
    |true=>
     rw[hb2,if_pos rfl] at hy3;rw[cond_true,i64_in (s+1) (by omega),i64_in (s+1+nE y.expr) (by omega),i64_in (s+1+nE y.expr+cSs y.then_) (by omega),i64_in (s+1+nE y.expr+cSs y.then_+cSs y.else_) (by omega),i64_in (i+1) (by omega)];congr 1;omega
    |false=>
     rw[hb2,if_neg (by simp)] at hy3;rw[cond_false,i64_in (s+1) (by omega),i64_in (s+1+cSs y.then_) (by omega),i64_in (s+1+cSs y.then_+cSs y.else_) (by omega),i64_in (i+1) (by omega)];congr 1;omega)
   fuel 0 (by unfold fuel; omega) ⟨by omega,by omega⟩
  rw[qbh_l3,zaaa,hL];simp
theorem zavz (p:TProg) (h:nT p.threads≤10000000000000000):qa6 p=some (cT p.threads:Int):=by
 rw[qa6,zaaa];unfold qa6_f;have hl:=zac6 p.threads;have hc:=cT_le p.threads
 have hL := zaa7 (σ := Int) p.threads (fun r s => 0 ≤ s ∧ s + cT r ≤ 1000000000000000000) (fun r s => s + (cT r : Int))
   (fun m i s=>qa6_i3 m s i p.cells p.mutexes p.threads)
   (fun m i s h0 h hI=>by
    simp only[qa6_i3,qa6_t3,decide_eq_false h,cond_false,cT];congr 1;omega)
   (fun m i s y r h0 h hy hm hI=>by
    have hy1:=zaef hm;obtain ⟨c1,c2⟩:=hI;simp only[cT] at c2;refine Or.inl ⟨s+cSs y.body,⟨by omega,by omega⟩,?_,by simp only[cT]; omega⟩;simp only[qa6_i3,qa6_t3,decide_eq_true h,decide_eq_true h0,hy,Option.bind_some,cond_true];rw[qbh,zaaa,zauh (nSs y.body) fuel y.body (Nat.le_refl _) (by unfold fuel; omega) (by omega),Option.bind_some,i64_in (s+cSs y.body) (by omega),i64_in (i+1) (by omega)])
   fuel 0 (by unfold fuel; omega) ⟨by omega,by omega⟩
 rw[qa6_l3,zaaa,hL];simp
def evD:Ev→Int
 |.s _ d=>d
 |.e _ d=>d
def maxEv (l:List Ev) (s:Int):Int:=l.foldl (fun s e=>max s (evD e)) s
theorem zah7 (a b:Int):(if a>b then a else b)=max b a:=by
 rw[Int.max_def];split<;>split<;>omega
theorem zafy (a b:List Ev) (s:Int):maxEv (a++b) s=maxEv b (maxEv a s):=by
 unfold maxEv;rw[List.foldl_append]
theorem zair:∀ (a:List Ev) (s:Int),s≤maxEv a s
 |[],s=>Int.le_refl _
 |e::a,s=>by
  have:=zair a (max s (evD e));show s≤maxEv a (max s (evD e));omega
theorem zanp:∀ (a:List Ev) (s t:Int),maxEv a (max s t)=max s (maxEv a t)
 |[],s,t=>rfl
 |e::a,s,t=>by
  show maxEv a (max (max s t) (evD e))=max s (maxEv a (max t (evD e)));rw[← zanp a s];congr 1;omega
theorem zagq (a:List Ev) (s:Int) (h:0≤s):maxEv a s=max s (maxEv a 0):=by
 rw[← zanp a s 0];congr 1;omega
mutual
def dE:TExpr→Nat
 |⟨_,_,_,l⟩=>1+dEs l
def dEs:List TExpr→Nat
 |[]=>0
 |x::l=>max (dE x) (dEs l)
end
theorem dE_eq (x:TExpr):dE x=1+dEs x.args:=by cases x; simp[dE]
mutual
theorem dE_le:∀ x:TExpr,dE x≤nE x
 |⟨_,_,_,l⟩=>by have:=zau4 l; simp only[dE,nE]; omega
theorem zau4:∀ l:List TExpr,dEs l≤nEs l
 |[]=>by simp[dEs]
 |x::l=>by have:=dE_le x; have:=zau4 l; simp only[dEs,nEs]; omega
end
mutual
theorem maxE:∀ (x:TExpr) (d s:Int),maxEv (evE x d) s=max s (d-1+dE x)
 |⟨k,n,m,l⟩,d,s=>by
  rw[evE];show maxEv (evEs l (d+1)) (max s d)=_;rw[maxEs l (d+1) (max s d) (by omega),dE];omega
theorem maxEs:∀ (l:List TExpr) (d s:Int),d-1≤s→maxEv (evEs l d) s=max s (d-1+dEs l)
 |[],d,s,h=>by
  rw[evEs,dEs];show s=_;omega
 |x::l,d,s,h=>by
  rw[evEs,zafy,maxE x d s,maxEs l d _ (by omega),dEs];omega
end
theorem zan8 : ∀ (l : List Ev) (s : Int), l.foldlM (atEv (fun (x : TStmt) (d : Int) (s : Int) => qbD x d s) (fun (x : TExpr) (d : Int) (s : Int) => qbE x d s)) s = some (maxEv l s)
 |[],s=>rfl
 |e::l,s=>by
  have e1:atEv (fun (x:TStmt) (d:Int) (s:Int)=>qbD x d s) (fun (x:TExpr) (d:Int) (s:Int)=>qbE x d s) s e=some (max s (evD e)):=by
   cases e with
   |s x d=>show qbD x d s=_; rw[qbD,zaaa]; unfold qbD_f; rw[zah7]; rfl
   |e x d=>show qbE x d s=_; rw[qbE,zaaa]; unfold qbE_f; rw[zah7]; rfl
  rw[List.foldlM_cons,e1];exact zan8 l _
theorem zav9 (p:TProg) (h:nT p.threads≤10000000000000000):qbC p=some (maxEv (evP p) 0):=by
 rw[qbC,zaaa];unfold qbC_f;rw[zad1,wP_1 p 0 h,zan8];rfl
theorem zavh:∀ (k n:Nat) (x:TExpr),nE x≤k→k<n→k≤100000000000000000→qa9_i n x=some (dE x:Int):=by
 intro k;induction k with
 |zero=>intro n x h; have:=nE_eq x; omega
 |succ k ih=>
  intro n x h hn hb;obtain ⟨n,rfl⟩:∃ q,n=q+1:=⟨n-1,by omega⟩;have hx:=nE_eq x;have hl:=zadf x.args;have hd:=dE_eq x;have hd2:=dE_le x;show qa9_f (qa9_i n) x=_;unfold qa9_f
  have hL := zaa7 (σ := Int) x.args (fun r s => 0 ≤ s) (fun r s => max s (dEs r : Int))
   (fun m i s=>qa9_i3 (qa9_i n) m s i x.kind x.num x.name x.args)
   (fun m i s h0 h hI=>by
    simp only[qa9_i3,qa9_t3,decide_eq_false h,cond_false,dEs];congr 1;omega)
   (fun m i s y r h0 h hy hm hI=>by
    have hy1:=zadj hm;have hI':0≤s:=hI;refine Or.inl ⟨max s (dE y),(by show 0≤max s (dE y:Int); omega),?_,by simp only[dEs]; omega⟩;simp only[qa9_i3,qa9_t3,decide_eq_true h,decide_eq_true h0,cond_true,hy,Option.bind_some];rw[ih n y (by omega) (by omega) (by omega),Option.bind_some,i64_in (i+1) (by omega),zah7])
   fuel 0 (by unfold fuel; omega) (Int.le_refl _)
  rw[qa9_l3,zaaa,hL,Option.bind_some,i64_in _ (by omega),hd];congr 1;omega
theorem zaq5 (x:TExpr) (h:nE x≤10000000000000000):qa9 x=some (maxEv (evE x 1) 0):=by
 rw[qa9,zaaa,zavh (nE x) fuel x (Nat.le_refl _) (by unfold fuel; omega) (by omega),maxE];congr 1;omega
theorem maxS (y:TStmt) (d s:Int) (h:0≤s):maxEv (evS y d) s=max (max (if zaan y.expr then max (max s d) (maxEv (evE y.expr 1) 0) else max s d) (maxEv (evSs y.then_ (d+1)) 0)) (maxEv (evSs y.else_ (d+1)) 0):=by
 rw[evS_eq];show maxEv (_++(_++_)) (max s d)=_;have g:=zair;rw[zafy,zafy];cases zaan y.expr with
 |true=>
  rw[if_pos rfl,if_pos rfl,zagq (evE y.expr 1) _ (by omega),zagq (evSs y.then_ _) _ (by omega),zagq (evSs y.else_ _) _ (by omega)]
 |false=>
  rw[if_neg (by simp),if_neg (by simp)];show maxEv _ (maxEv _ (max s d))=_;rw[zagq (evSs y.then_ _) _ (by omega),zagq (evSs y.else_ _) _ (by omega)]
theorem zavs:∀ (k n:Nat) (l:List TStmt) (d:Int),nSs l≤k→k<n→0≤d→d+k≤10000000000000001→qbi_i n l d=some (maxEv (evSs l d) 0):=by
 intro k;induction k with
 |zero=>
  intro n l d h hn _ _;obtain ⟨n,rfl⟩:∃ q,n=q+1:=⟨n-1,by omega⟩;have hl:=zab5 l;obtain rfl:l=[]:=List.eq_nil_of_length_eq_zero (by omega);show qbi_f (qbi_i n) [] d=_;unfold qbi_f;rw[qbi_l3,zaaa,evSs];rfl
 |succ k ih=>
  intro n l d h hn hd hb;obtain ⟨n,rfl⟩:∃ q,n=q+1:=⟨n-1,by omega⟩;have hl:=zab5 l;show qbi_f (qbi_i n) l d=_;unfold qbi_f
  have hL := zaa7 (σ := Int) l (fun r s => 0 ≤ s) (fun r s => maxEv (evSs r d) s)
   (fun m i s=>qbi_i3 (qbi_i n) m l d s i)
   (fun m i s h0 h hI=>by
    simp only[qbi_i3,qbi_t3,decide_eq_false h,cond_false,evSs];rfl)
   (fun m i s y r h0 h hy hm hI=>by
    have hy1:=zaev hm;have hy2:=nS_eq y;have hI':0≤s:=hI;have hg:=zair (evS y d) s;refine Or.inl ⟨maxEv (evS y d) s,(by show 0≤maxEv (evS y d) s; omega),?_,by simp only[evSs,zafy]⟩;simp only[qbi_i3,qbi_t3,decide_eq_true h,decide_eq_true h0,hy,Option.bind_some,zaay,zalu,cond_true];rw[i64_in (d+1) (by omega),ih n y.then_ (d+1) (by omega) (by omega) (by omega) (by omega),ih n y.else_ (d+1) (by omega) (by omega) (by omega) (by omega),zaq5 y.expr (by omega),i64_in (i+1) (by omega)];simp only[Option.bind_some,zah7];rw[maxS y d s hI'];cases zaan y.expr<;>rfl)
   fuel 0 (by unfold fuel; omega) (Int.le_refl _)
  rw[qbi_l3,zaaa,hL];rfl
theorem zaxg (p:TProg) (h:nT p.threads≤10000000000000000):qa7 p=some (maxEv (evP p) 0):=by
 rw[qa7,zaaa];unfold qa7_f;have hl:=zac6 p.threads
 have hL := zaa7 (σ := Int) p.threads (fun r s => 0 ≤ s) (fun r s => maxEv (r.flatMap fun t => evSs t.body 1) s)
   (fun m i s=>qa7_i3 m s i p.cells p.mutexes p.threads)
   (fun m i s h0 h hI=>by
    simp only[qa7_i3,qa7_t3,decide_eq_false h,cond_false];rfl)
   (fun m i s y r h0 h hy hm hI=>by
    have hy1:=zaef hm;have hI':0≤s:=hI;have hg:=zair (evSs y.body 1) s;refine Or.inl ⟨maxEv (evSs y.body 1) s,(by show 0≤maxEv (evSs y.body 1) s; omega),?_,by simp only[List.flatMap_cons,zafy]⟩;simp only[qa7_i3,qa7_t3,decide_eq_true h,decide_eq_true h0,hy,Option.bind_some,cond_true];rw[qbi,zaaa,zavs (nSs y.body) fuel y.body 1 (Nat.le_refl _) (by unfold fuel; omega) (by omega) (by omega),Option.bind_some,i64_in (i+1) (by omega),zah7,← zagq _ s hI'])
   fuel 0 (by unfold fuel; omega) (Int.le_refl _)
 rw[qa7_l3,zaaa,hL];rfl
end Lift.A3
namespace Lift.A3
open Go Go.RowKit Lift Go.IntWalk Lift.Fn
set_option linter.unusedVariables false
set_option linter.unusedSimpArgs false
end Lift.A3
namespace Lift.A3
open Go Go.RowKit Lift Go.IntWalk Lift.Fn
set_option linter.unusedVariables false
set_option linter.unusedSimpArgs false
def two {α:Type} (f:α→α→Bool):List α→List α→Bool
 |[],[]=>true
 |x::l,y::r=>f x y&&two f l r
 |_,_=>false
theorem zaru {α:Type} (f:α→α→Bool):∀ (l r:List α),l.length≠r.length→two f l r=false
 |[],[],h=>absurd rfl h
 |[],_::_,_=>rfl
 |_::_,[],_=>rfl
 |x::l,y::r,h=>by
  rw[two,zaru f l r (by simpa using h),Bool.and_false]
theorem zar2 {α : Type} (f : α → α → Bool) : ∀ (l r : List α), l.length = r.length → two f l r = (l.zip r).all fun p => f p.1 p.2
 |[],[],h=>rfl
 |x::l,y::r,h=>by
  rw[two,zar2 f l r (by simpa using h),List.zip_cons_cons,List.all_cons]
theorem zavu {α τ:Type} (f:α→α→Bool) (l r:List α) (e:τ) (L:Nat→Int→Option (Bool⊕τ)) (hlen:l.length=r.length)
  (h0:∀ n i,0≤i→¬ i<(l.length:Int)→L (n+1) i=some (.inr e))
  (h1:∀ n i x y,0≤i→i<(l.length:Int)→l[i.toNat]? = some x→r[i.toNat]? = some y→x∈l→y∈r→L (n+1) i=bif f x y then L n (i+1) else some (.inl false))
  (n:Nat) (hn:l.length<n):L n 0=some (bif two f l r then .inr e else .inl false):=by
 have hz:(l.zip r).length=l.length:=by rw[List.length_zip]; omega
 have := zaa7 (σ := Unit) (l.zip r) (fun _ _ => True) (fun q _ => (bif q.all fun p => f p.1 p.2 then .inr e else .inl false : Bool ⊕ τ)) (fun m i _ => L m i)
  (fun m i s h h' _=>h0 m i h (by rw[← hz]; exact h'))
  (fun m i s p q h h' hp hm _=>by
   obtain ⟨x,y⟩:=p;obtain ⟨e1,e2⟩:=List.getElem?_zip_eq_some.1 hp;have:=h1 m i x y h (by rw[← hz]; exact h') e1 e2 (List.mem_of_getElem? e1) (List.mem_of_getElem? e2);cases hf:f x y with
   |true=>
    rw[hf,cond_true] at this;exact Or.inl ⟨(),trivial,this,by rw[List.all_cons,hf,Bool.true_and]⟩
   |false=>
    rw[hf,cond_false] at this;refine Or.inr ?_;rw[List.all_cons,hf,Bool.false_and];exact this)
  n () (by omega) trivial
 rw[zar2 f l r hlen];exact this
mutual
def sE:TExpr→TExpr→Bool
 |⟨k,n,m,l⟩,⟨k',n',m',l'⟩=>k==k'&&(n==n'&&(m==m'&&sEs l l'))
def sEs:List TExpr→List TExpr→Bool
 |[],[]=>true
 |x::l,y::r=>sE x y&&sEs l r
 |_,_=>false
end
theorem zarr:∀ l r,sEs l r=two sE l r
 |[],[]=>by simp[sEs,two]
 |[],_::_=>by simp[sEs,two]
 |_::_,[]=>by simp[sEs,two]
 |x::l,y::r=>by rw[sEs,two,zarr l r]
theorem sE_eq (x y:TExpr):sE x y=(x.kind==y.kind&&(x.num==y.num&&(x.name==y.name&&two sE x.args y.args))):=by
 cases x; cases y; rw[sE,zarr]
mutual
def sS:TStmt→TStmt→Bool
 |⟨k,r,m,x,c,t,o⟩,⟨k',r',m',x',c',t',o'⟩=>k==k'&&(r==r'&&(m==m'&&(c==c'&&(sE x x'&&(sSs t t'&&sSs o o')))))
def sSs:List TStmt→List TStmt→Bool
 |[],[]=>true
 |x::l,y::r=>sS x y&&sSs l r
 |_,_=>false
end
def sT (x y:TThread):Bool:=x.name==y.name&&two sS x.body y.body
mutual
theorem zar1:∀ x,sE x x=true
 |⟨k,n,m,l⟩=>by rw[sE,zapa l]; simp
theorem zapa:∀ l,sEs l l=true
 |[]=>by rw[sEs]
 |x::l=>by rw[sEs,zar1 x,zapa l]; rfl
end
theorem bcomm {α:Type} [BEq α] [LawfulBEq α] (a b:α):(a==b)=(b==a):=by
 by_cases h:a=b
 ·subst h; rfl
 ·rw[beq_false_of_ne h,beq_false_of_ne (Ne.symm h)]
theorem zav0:∀ (k n:Nat) (x y:TExpr),nE x≤k→k<n→k≤100000000→qbg_i n x y=some (sE x y):=by
 intro k;induction k with
 |zero=>intro n x y h; have:=nE_eq x; omega
 |succ k ih=>
  intro n x y h hn hb;obtain ⟨n,rfl⟩:∃ q,n=q+1:=⟨n-1,by omega⟩;have hx:=nE_eq x;have hl:=zadf x.args;show qbg_f (qbg_i n) x y=_;unfold qbg_f;rw[sE_eq];cases h1:x.kind==y.kind with
  |false=>simp[bne,h1]
  |true=>
  cases h2:x.num==y.num with
  |false=>simp[bne,h1,h2]
  |true=>
  cases h3:x.name==y.name with
  |false=>simp[bne,h1,h2,h3]
  |true=>
  by_cases h4:x.args.length=y.args.length
  ·have h4':((x.args.length:Int)==(y.args.length:Int))=true:=by rw[h4]; simp
   simp only[bne,h1,h2,h3,h4',Bool.not_true,cond_false,Option.bind_some,Bool.true_and]
   have hL := zavu sE x.args y.args () (fun m i => qbg_i4 (qbg_i n) m i x.kind x.num x.name x.args y.kind y.num y.name y.args) h4
    (fun m i h0 h=>by
     simp only[qbg_i4,qbg_t4,decide_eq_false h,cond_false])
    (fun m i a b h0 h ha hb' ma mb=>by
     have:=zadj ma;simp only[qbg_i4,qbg_t4,decide_eq_true h,decide_eq_true h0,cond_true,ha,hb',Option.bind_some];rw[ih n a b (by omega) (by omega) (by omega),Option.bind_some,i64_in (i+1) (by omega)];cases sE a b<;>rfl)
    fuel (by unfold fuel; omega)
   rw[qbg_l4,zaaa,hL];cases two sE x.args y.args<;>rfl
  ·have h4':((x.args.length:Int)==(y.args.length:Int))=false:=by
    rw[beq_eq_false_iff_ne]; omega
   simp only[bne,h1,h2,h3,h4',Bool.not_true,Bool.not_false,cond_false,cond_true,Option.bind_some,Bool.true_and];rw[zaru sE _ _ h4]
theorem zare (x y:TExpr) (h:nE x≤100000000):qbg x y=some (sE x y):=by
 rw[qbg,zaaa,zav0 (nE x) fuel x y (Nat.le_refl _) (by unfold fuel; omega) (by omega)]
end Lift.A3
namespace Lift.A3
open Go Go.RowKit Lift Go.IntWalk Lift.Fn
set_option linter.unusedVariables false
set_option linter.unusedSimpArgs false
end Lift.A3
namespace Lift.A3
open Go Go.RowKit Lift Go.IntWalk Lift.Fn
set_option linter.unusedVariables false
set_option linter.unusedSimpArgs false
end Lift.A3
namespace Lift.A1P
open Go Go.RowKit Lift Go.IntWalk
namespace Sp
def isRune (r:Int):Bool:=decide (0≤r∧r≤1114111∧(r<55296∨r>57343))
def letter (r:Int):Bool:=isRune r&&decide ((65≤r∧r≤90)∨r=95∨(97≤r∧r≤122)∨192≤r)
def digit (r:Int):Bool:=decide (48≤r∧r≤57)
def blank (r:Int):Bool:=decide (r=9∨r=10∨r=13∨r=32)
def long (r:Int):Int:=if r<128 then 1 else if r<2048 then 2 else if r<65536 then 3 else 4
def enc (r:Int):List Int:=
 if r<128 then [r] else if r<2048 then [192+r / 64,128+r % 64] else if r<65536 then [224+r / 4096,128+r / 64 % 64,128+r % 64]
 else [240+r / 262144,128+r / 4096 % 64,128+r / 64 % 64,128+r % 64]
def dc (t:List UInt8) (p:Nat):Nat×Nat:=Utf8.decode ⟨t.toArray⟩ p
def bad (t:List UInt8) (p:Nat):Bool:=decide ((dc t p).1=65533)&&!(((t.take (min t.length (p+3))).drop p)==[239,191,189])
def at1 (t:List UInt8) (p:Int):Int:=if bad t p.toNat then 0 else ((dc t p.toNat).1:Int)
def at2 (t:List UInt8) (p:Int):Int:=if bad t p.toNat then 0 else ((dc t p.toNat).2:Int)
def on (s:Spot) (r n:Int):Spot:=if r=10 then ⟨s.rune,s.at_+n,s.line+1,1⟩ else ⟨s.rune,s.at_+n,s.line,s.col+1⟩
def spotsFrom (t:List UInt8):Nat→List Spot→Spot→List Spot×Spot
 |0,acc,s=>(acc,s)
 | n + 1, acc, s => if s.at_ < t.length then (if bad t s.at_.toNat then (acc, s) else
   spotsFrom t n (acc++[⟨at1 t s.at_,s.at_,s.line,s.col⟩]) (on ⟨at1 t s.at_,s.at_,s.line,s.col⟩ (at1 t s.at_) (at2 t s.at_))) else (acc,s)
def cont (t:List UInt8) (p:Int):Nat→Int→Int→Option Int
 |0,r,_=>some r
 |k+1,r,i=>match t[(p+i).toNat]? with
  |none=>none
  |some d=>if d.toNat<128∨191<d.toNat then none else cont t p k (64*r+d.toNat-128) (i+1)
def ended (s:Spot):Spot:=⟨-1,s.at_,s.line,s.col⟩
def spots1 (t:List UInt8):List Spot:=(spotsFrom t t.length [] ⟨0,0,1,1⟩).1
def spots2 (t:List UInt8):Spot:=ended (spotsFrom t t.length [] ⟨0,0,1,1⟩).2
def runes1 (t:List UInt8):List Spot:=if 4000<t.length then [] else if (spots2 t).at_<t.length then [] else spots1 t
def runes2 (t:List UInt8):Fault:=if 4000<t.length then ⟨10,4000,[]⟩ else if (spots2 t).at_<t.length then ⟨11,(spots2 t).at_,[]⟩ else ⟨0,0,[]⟩
def same (a b:List Spot):Bool:=decide (a=b)
end Sp
namespace Sp
def by_ (l:List UInt8) (k:Nat):Nat:=(l.getD k 0).toNat
def ct (l:List UInt8) (k:Nat):Bool:=decide (k<l.length)&&(by_ l k / 64==2)
def dl (l:List UInt8):Nat×Nat:=
 if by_ l 0<0x80 then (by_ l 0,1)
 else if by_ l 0 / 32 == 6 && ct l 1 then
  if (by_ l 0 % 32)*64+by_ l 1 % 64≥0x80 then ((by_ l 0 % 32)*64+by_ l 1 % 64,2) else (65533,1)
 else if by_ l 0 / 16 == 14 && ct l 1 && ct l 2 then
  if (by_ l 0 % 16)*4096+(by_ l 1 % 64)*64+by_ l 2 % 64≥0x800&&Utf8.valid (((by_ l 0 % 16)*4096+(by_ l 1 % 64)*64+by_ l 2 % 64:Nat):Int) then ((by_ l 0 % 16)*4096+(by_ l 1 % 64)*64+by_ l 2 % 64,3) else (65533,1)
 else if by_ l 0 / 8 == 30 && ct l 1 && ct l 2 && ct l 3 then
  if (by_ l 0 % 8)*262144+(by_ l 1 % 64)*4096+(by_ l 2 % 64)*64+by_ l 3 % 64≥0x10000&&Utf8.valid (((by_ l 0 % 8)*262144+(by_ l 1 % 64)*4096+(by_ l 2 % 64)*64+by_ l 3 % 64:Nat):Int) then ((by_ l 0 % 8)*262144+(by_ l 1 % 64)*4096+(by_ l 2 % 64)*64+by_ l 3 % 64,4) else (65533,1)
 else (65533,1)
def badl (l:List UInt8):Bool:=decide ((dl l).1=65533)&&!(l.take 3==[239,191,189])
theorem zarl (t:List UInt8) (q k:Nat):by_ (t.drop q) k=(t.getD (q+k) 0).toNat:=by
 simp[by_,List.getD_eq_getElem?_getD]
theorem dc_eq (t:List UInt8) (q:Nat):dc t q=dl (t.drop q):=by
 have hb:∀ k,((⟨t.toArray⟩:ByteArray).get! (q+k)).toNat=by_ (t.drop q) k:=by
  intro k;rw[zarl];simp[ByteArray.get!,List.getD_eq_getElem?_getD,getElem!_def];cases t[q+k]?<;>rfl
 have hs:(⟨t.toArray⟩:ByteArray).size=t.length:=by simp[ByteArray.size]
 have hc:∀ k,(decide (q+k<t.length)&&((by_ (t.drop q) k) / 64==2))=ct (t.drop q) k:=by
  intro k;unfold ct;have:(q+k<t.length)↔(k<(t.drop q).length):=by simp; omega
  simp only[this]
 unfold dc Utf8.decode;simp only[hb,hs,hc];unfold dl;rfl
theorem bad_eq (t:List UInt8) (q:Nat):bad t q=badl (t.drop q):=by
 unfold bad badl;rw[dc_eq];congr 2;have:(t.take (min t.length (q+3))).drop q=(t.drop q).take 3:=by
  have h1:t.take (min t.length (q+3))=t.take (q+3):=by
   rcases Nat.le_total t.length (q+3) with h|h
   ·rw[Nat.min_eq_left h,List.take_of_length_le h,List.take_of_length_le (Nat.le_refl _)]
   ·rw[Nat.min_eq_right h]
  rw[h1,List.drop_take];simp
 rw[this]
end Sp
namespace Sp
theorem take3 (l:List UInt8):(l.take 3==[239,191,189])=decide (3≤l.length∧by_ l 0=239∧by_ l 1=191∧by_ l 2=189):=by
 have e:∀ (a b:UInt8),(a==b)=decide (a.toNat=b.toNat):=fun a b=>by
  rw[Bool.eq_iff_iff]; simp[UInt8.toNat_inj]
 match l with
 |[]=>simp[by_]
 |[a]=>simp[by_]
 |[a,b]=>simp[by_]
 |a::b::c::r=>
  have:List.take 3 (a::b::c::r)=[a,b,c]:=rfl;rw[this];rw[Bool.eq_iff_iff];simp[by_,← UInt8.toNat_inj]
theorem get_by {t:List UInt8} {p:Int} {j:Nat} (hp:0≤p) (h:p+j<t.length):∃ x,t[(p+j).toNat]? = some x∧x.toNat=by_ (t.drop p.toNat) j:=by
 have hlt:(p+j).toNat<t.length:=by omega
 refine ⟨t[(p+j).toNat],List.getElem?_eq_getElem hlt,?_⟩;rw[zarl];have:p.toNat+j=(p+j).toNat:=by omega
 rw[this,List.getD_eq_getElem?_getD,List.getElem?_eq_getElem hlt];rfl
theorem zaes {t:List UInt8} {p:Int} {j k:Nat} {r:Int} (hp:0≤p) (h:p+j<t.length) :
  cont t p (k+1) r j=if by_ (t.drop p.toNat) j<128∨191<by_ (t.drop p.toNat) j then none else cont t p k (64*r+by_ (t.drop p.toNat) j-128) (j+1:Nat):=by
 obtain ⟨x,h1,h2⟩:=get_by hp h;simp only[cont,h1,h2];rfl
theorem cont1 {t:List UInt8} {p:Int} {r:Int} (hp:0≤p) (h:p+2≤t.length):cont t p 1 r 1 =
  if by_ (t.drop p.toNat) 1<128∨191<by_ (t.drop p.toNat) 1 then none else some (64*r+by_ (t.drop p.toNat) 1-128):=by
 have:=zaes (t:=t) (k:=0) (r:=r) (j:=1) hp (by omega);simpa [cont] using this
theorem cont2 {t:List UInt8} {p:Int} {r:Int} (hp:0≤p) (h:p+3≤t.length):cont t p 2 r 1 =
  if by_ (t.drop p.toNat) 1<128∨191<by_ (t.drop p.toNat) 1 then none else if by_ (t.drop p.toNat) 2<128∨191<by_ (t.drop p.toNat) 2 then none else some (64*(64*r+by_ (t.drop p.toNat) 1-128)+by_ (t.drop p.toNat) 2-128):=by
 have h1:=zaes (t:=t) (k:=1) (r:=r) (j:=1) hp (by omega);have h2:=zaes (t:=t) (k:=0) (r:=64*r+by_ (t.drop p.toNat) 1-128) (j:=2) hp (by omega);rw[show ((1:Nat):Int)=1 from rfl] at h1;rw[h1];rw[show (1+1:Nat)=2 from rfl,h2];rfl
theorem cont3 {t:List UInt8} {p:Int} {r:Int} (hp:0≤p) (h:p+4≤t.length):cont t p 3 r 1 =
  if by_ (t.drop p.toNat) 1<128∨191<by_ (t.drop p.toNat) 1 then none else if by_ (t.drop p.toNat) 2<128∨191<by_ (t.drop p.toNat) 2 then none else
  if by_ (t.drop p.toNat) 3<128∨191<by_ (t.drop p.toNat) 3 then none else some (64*(64*(64*r+by_ (t.drop p.toNat) 1-128)+by_ (t.drop p.toNat) 2-128)+by_ (t.drop p.toNat) 3-128):=by
 have h1:=zaes (t:=t) (k:=2) (r:=r) (j:=1) hp (by omega);have h2:=zaes (t:=t) (k:=1) (r:=64*r+by_ (t.drop p.toNat) 1-128) (j:=2) hp (by omega);have h3:=zaes (t:=t) (k:=0) (r:=64*(64*r+by_ (t.drop p.toNat) 1-128)+by_ (t.drop p.toNat) 2-128) (j:=3) hp (by omega);rw[show ((1:Nat):Int)=1 from rfl] at h1;rw[h1];rw[show (1+1:Nat)=2 from rfl,h2];rw[show (2+1:Nat)=3 from rfl,h3];rfl
end Sp
def ansA (n b0 b1 b2 b3:Nat):Int×Int:=
 let ok (r:Int) (k:Int):Int×Int:=if (0≤r∧r≤1114111∧(r<55296∨r>57343))∧Sp.long r=k then (r,k) else (0,0)
 if 240≤b0 then (if n<4 then (0,0) else if b1<128∨191<b1 then (0,0) else if b2<128∨191<b2 then (0,0) else if b3<128∨191<b3 then (0,0) else ok (64*(64*(64*(b0-240)+b1-128)+b2-128)+b3-128) 4)
 else if 224≤b0 then (if n<3 then (0,0) else if b1<128∨191<b1 then (0,0) else if b2<128∨191<b2 then (0,0) else ok (64*(64*(b0-224)+b1-128)+b2-128) 3)
 else if 192≤b0 then (if n<2 then (0,0) else if b1<128∨191<b1 then (0,0) else ok (64*(b0-192)+b1-128) 2)
 else if 128≤b0 then (0,0) else (b0,1)
theorem zaha (r:Int):Utf8.valid r=true↔(0≤r∧r<55296)∨(57344≤r∧r≤1114111):=by
 unfold Utf8.valid;simp only[Bool.or_eq_true,Bool.and_eq_true,decide_eq_true_eq]
theorem zaql (l:List UInt8) (hl:0<l.length):ansA l.length (Sp.by_ l 0) (Sp.by_ l 1) (Sp.by_ l 2) (Sp.by_ l 3)=if Sp.badl l then (0,0) else (((Sp.dl l).1:Int),((Sp.dl l).2:Int)):=by
 have hb:∀ k,Sp.by_ l k<256:=fun k=>(l.getD k 0).toNat_lt
 have h0:=hb 0;have h1:=hb 1;have h2:=hb 2;have h3:=hb 3;unfold Sp.badl;rw[Sp.take3];obtain ⟨D,hD⟩:∃ D,D=Sp.dl l:=⟨_,rfl⟩;rw[← hD];unfold Sp.dl Sp.ct at hD;generalize Sp.by_ l 0=b0 at *;generalize Sp.by_ l 1=b1 at *;generalize Sp.by_ l 2=b2 at *;generalize Sp.by_ l 3=b3 at *;generalize l.length=n at *;clear hb;have small:∀ r:Int,r<128→Sp.long r=1:=fun r h=>by unfold Sp.long; rw[if_pos h]
 have two:∀ r:Int,128≤r→r<2048→Sp.long r=2:=fun r h h'=>by unfold Sp.long; rw[if_neg (by omega),if_pos h']
 have three:∀ r:Int,2048≤r→r<65536→Sp.long r=3:=fun r h h'=>by unfold Sp.long; rw[if_neg (by omega),if_neg (by omega),if_pos h']
 have four:∀ r:Int,65536≤r→Sp.long r=4:=fun r h=>by unfold Sp.long; rw[if_neg (by omega),if_neg (by omega),if_neg (by omega)]
 simp only[Bool.and_eq_true,decide_eq_true_eq,beq_iff_eq,zaha,ge_iff_le] at hD;simp only[Bool.and_eq_true,decide_eq_true_eq,Bool.not_eq_true',decide_eq_false_iff_not];have good:∀ (r k:Nat),D=(r,k)→¬ (r=65533∧¬ (3≤n∧b0=239∧b1=191∧b2=189))→(if D.1=65533∧¬ (3≤n∧b0=239∧b1=191∧b2=189) then ((0:Int),(0:Int)) else (↑D.1,↑D.2))=((r:Int),(k:Int)):=by
  intro r k h1 h2;rw[h1];exact if_neg h2
 have badd:D=(65533,1)→¬ (3≤n∧b0=239∧b1=191∧b2=189)→(if D.1=65533∧¬ (3≤n∧b0=239∧b1=191∧b2=189) then ((0:Int),(0:Int)) else (↑D.1,↑D.2))=(0,0):=by
  intro h1 h2;rw[h1];exact if_pos ⟨rfl,h2⟩
 unfold ansA;by_cases k0:b0<128
 ·rw[if_neg (by omega),if_neg (by omega),if_neg (by omega),if_neg (by omega)];rw[if_pos k0] at hD;rw[good _ _ hD (by omega)];rfl
 rw[if_neg k0] at hD;by_cases k1:b0<192
 ·rw[if_neg (by omega),if_neg (by omega),if_neg (by omega),if_pos (by omega)];rw[if_neg (by omega),if_neg (by omega),if_neg (by omega)] at hD;rw[badd hD (by omega)]
 by_cases k2:b0<224
 ·rw[if_neg (by omega),if_neg (by omega),if_pos (by omega)];by_cases c1:n<2
  ·rw[if_neg (by omega),if_neg (by omega),if_neg (by omega)] at hD;rw[if_pos c1,badd hD (by omega)]
  rw[if_neg c1];by_cases c2:b1<128∨191<b1
  ·rw[if_neg (by omega),if_neg (by omega),if_neg (by omega)] at hD;rw[if_pos c2,badd hD (by omega)]
  rw[if_neg c2];rw[if_pos (by omega)] at hD;by_cases c3:128≤b0 % 32*64+b1 % 64
  ·rw[if_pos c3] at hD;rw[good _ _ hD (by omega)];have:=two (64*((b0:Int)-192)+b1-128) (by omega) (by omega);show (if _ then _ else _)=_;rw[if_pos ⟨by omega,this⟩];simp only[Prod.mk.injEq];omega
  ·rw[if_neg c3] at hD;rw[badd hD (by omega)];show (if _ then _ else _)=_;rw[if_neg];intro hh;have:=small (64*((b0:Int)-192)+b1-128) (by omega);omega
 by_cases k3:b0<240
 ·rw[if_neg (by omega),if_pos (by omega)];by_cases c1:n<3
  ·rw[if_neg (by omega),if_neg (by omega),if_neg (by omega)] at hD;rw[if_pos c1,badd hD (by omega)]
  rw[if_neg c1];by_cases c2:b1<128∨191<b1
  ·rw[if_neg (by omega),if_neg (by omega),if_neg (by omega)] at hD;rw[if_pos c2,badd hD (by omega)]
  rw[if_neg c2];by_cases c3:b2<128∨191<b2
  ·rw[if_neg (by omega),if_neg (by omega),if_neg (by omega)] at hD;rw[if_pos c3,badd hD (by omega)]
  rw[if_neg c3];rw[if_neg (by omega),if_pos (by omega)] at hD;have hv:(64*(64*((b0:Int)-224)+b1-128)+b2-128)=((b0 % 16*4096+b1 % 64*64+b2 % 64:Nat):Int):=by omega
  show (if _ then _ else _)=_;rw[hv];obtain ⟨N,hN⟩:∃ N,N=b0 % 16*4096+b1 % 64*64+b2 % 64:=⟨_,rfl⟩;rw[← hN] at hD ⊢;by_cases c4:2048≤N∧(0≤(N:Int)∧(N:Int)<55296∨57344≤(N:Int)∧(N:Int)≤1114111)
  ·rw[if_pos c4] at hD;have h5:=three (N:Int) (by omega) (by omega);rw[good N 3 hD (by omega),if_pos (And.intro (by omega) h5)];exact Prod.ext rfl rfl
  ·rw[if_neg c4] at hD;rw[badd hD (by omega),if_neg];intro hh;by_cases c5:N<128
   ·have:=small (N:Int) (by omega); omega
   by_cases c6:N<2048
   ·have:=two (N:Int) (by omega) (by omega); omega
   ·omega
 ·rw[if_pos (by omega)];by_cases c1:n<4
  ·rw[if_neg (by omega),if_neg (by omega),if_neg (by omega)] at hD;rw[if_pos c1,badd hD (by omega)]
  rw[if_neg c1];by_cases c2:b1<128∨191<b1
  ·rw[if_neg (by omega),if_neg (by omega),if_neg (by omega)] at hD;rw[if_pos c2,badd hD (by omega)]
  rw[if_neg c2];by_cases c3:b2<128∨191<b2
  ·rw[if_neg (by omega),if_neg (by omega),if_neg (by omega)] at hD;rw[if_pos c3,badd hD (by omega)]
  rw[if_neg c3];by_cases c3':b3<128∨191<b3
  ·rw[if_neg (by omega),if_neg (by omega),if_neg (by omega)] at hD;rw[if_pos c3',badd hD (by omega)]
  rw[if_neg c3'];rw[if_neg (by omega),if_neg (by omega)] at hD;have hv:(64*(64*(64*((b0:Int)-240)+b1-128)+b2-128)+b3-128)=(((b0-240)*262144+(b1-128)*4096+(b2-128)*64+(b3-128):Nat):Int):=by omega
  show (if _ then _ else _)=_;rw[hv];by_cases k4:b0<248
  ·rw[if_pos (by omega)] at hD;have hm:b0 % 8*262144+b1 % 64*4096+b2 % 64*64+b3 % 64=(b0-240)*262144+(b1-128)*4096+(b2-128)*64+(b3-128):=by omega
   rw[hm] at hD;obtain ⟨N,hN⟩:∃ N,N=(b0-240)*262144+(b1-128)*4096+(b2-128)*64+(b3-128):=⟨_,rfl⟩;rw[← hN] at hD ⊢;by_cases c4:65536≤N∧(0≤(N:Int)∧(N:Int)<55296∨57344≤(N:Int)∧(N:Int)≤1114111)
   ·rw[if_pos c4] at hD;have h5:=four (N:Int) (by omega);rw[good N 4 hD (by omega),if_pos (And.intro (by omega) h5)];exact Prod.ext rfl rfl
   ·rw[if_neg c4] at hD;rw[badd hD (by omega),if_neg];intro hh;by_cases c5:N<128
    ·have:=small (N:Int) (by omega); omega
    by_cases c6:N<2048
    ·have:=two (N:Int) (by omega) (by omega); omega
    by_cases c7:N<65536
    ·have:=three (N:Int) (by omega) (by omega); omega
    ·omega
  ·rw[if_neg (by omega)] at hD;rw[badd hD (by omega),if_neg];intro hh;omega
def zaew (t:List UInt8) (s:Spot):Prop:=t.length≤4000∧0≤s.at_∧s.at_≤t.length∧1≤s.line∧s.line≤s.at_+1∧1≤s.col∧s.col≤s.at_+1
noncomputable def zaav (t:List UInt8) (l:List Spot) (s:Spot):List Spot×Spot:=Sp.spotsFrom t (t.length-s.at_.toNat) l s
namespace Sp
theorem dl_pos (l:List UInt8) (h:0<l.length):1≤(dl l).2∧(dl l).2≤4∧(dl l).2≤l.length:=by
 unfold dl ct;simp only[Bool.and_eq_true,decide_eq_true_eq];repeat' split
 all_goals simp only
 all_goals omega
theorem ansA_ok (n b0 b1 b2 b3:Nat) (h:b0<256):ansA n b0 b1 b2 b3=(0,0)∨(isRune (ansA n b0 b1 b2 b3).1=true∧long (ansA n b0 b1 b2 b3).1=(ansA n b0 b1 b2 b3).2):=by
 unfold ansA;simp only;by_cases a1:240≤b0
 ·rw[if_pos a1];repeat' split
  all_goals first|exact .inl rfl|(rename_i hc; exact .inr ⟨by simpa only[isRune,decide_eq_true_eq] using hc.1,hc.2⟩)
 rw[if_neg a1];by_cases a2:224≤b0
 ·rw[if_pos a2];repeat' split
  all_goals first|exact .inl rfl|(rename_i hc; exact .inr ⟨by simpa only[isRune,decide_eq_true_eq] using hc.1,hc.2⟩)
 rw[if_neg a2];by_cases a3:192≤b0
 ·rw[if_pos a3];repeat' split
  all_goals first|exact .inl rfl|(rename_i hc; exact .inr ⟨by simpa only[isRune,decide_eq_true_eq] using hc.1,hc.2⟩)
 rw[if_neg a3];by_cases a4:128≤b0
 ·rw[if_pos a4]; exact .inl rfl
 rw[if_neg a4];exact .inr ⟨by simp only[isRune,decide_eq_true_eq]; omega,by unfold long; rw[if_pos (by omega)]⟩
theorem good_at {t:List UInt8} {p:Int} (hp:0≤p) (h:p<t.length) (hb:bad t p.toNat=false):isRune (at1 t p)=true∧long (at1 t p)=at2 t p∧1≤at2 t p∧at2 t p≤4∧p+at2 t p≤t.length ∧
  at1 t p=(dc t p.toNat).1∧at2 t p=(dc t p.toNat).2:=by
 have hl:0<(t.drop p.toNat).length:=by simp; omega
 obtain ⟨h1,h2,h3⟩:=dl_pos _ hl;have h4:=zaql _ hl;rw[← bad_eq,hb,← dc_eq] at h4;rw[← dc_eq] at h1 h2 h3;have hlen:((t.drop p.toNat).length:Int)=t.length-p:=by simp; omega
 unfold at1 at2;rw[hb];simp only[Bool.false_eq_true,if_false] at h4 ⊢;rcases ansA_ok (t.drop p.toNat).length (by_ (t.drop p.toNat) 0) (by_ (t.drop p.toNat) 1) (by_ (t.drop p.toNat) 2) (by_ (t.drop p.toNat) 3) ((t.drop p.toNat).getD 0 0).toNat_lt with h5|⟨h5,h6⟩
 ·rw[h4] at h5;simp only[Prod.mk.injEq] at h5;omega
 ·rw[h4] at h5 h6;exact ⟨h5,h6,by omega,by omega,by omega,by simp⟩
theorem bad_at {t:List UInt8} {p:Int} (hb:bad t p.toNat=true):at1 t p=0∧at2 t p=0:=by
 unfold at1 at2;simp[hb]
theorem fuel (t:List UInt8):∀ (n m:Nat) (l:List Spot) (s:Spot),0≤s.at_→t.length-s.at_.toNat≤n→t.length-s.at_.toNat≤m→spotsFrom t n l s=spotsFrom t m l s:=by
 intro n;induction n with
 |zero=>
  intro m l s h0 h1 h2;have hc:¬ s.at_<t.length:=by omega
  cases m with
  |zero=>rfl
  |succ m=>simp only[spotsFrom,if_neg hc]
 |succ n ih=>
  intro m l s h0 h1 h2;by_cases hc:s.at_<t.length
  ·cases m with
   |zero=>omega
   |succ m=>
    simp only[spotsFrom,if_pos hc];cases hb:bad t s.at_.toNat with
    |true=>rfl
    |false=>
     simp only[Bool.false_eq_true,if_false];obtain ⟨g1,g2,g3,g4,g5,_⟩:=good_at h0 hc hb;have ha:∀ x:Spot,(on x (at1 t s.at_) (at2 t s.at_)).at_=x.at_+at2 t s.at_:=fun x=>by unfold on; split<;>rfl
     refine ih m _ _ ?_ ?_ ?_<;>rw[ha]<;>simp only<;>omega
  ·cases m with
   |zero=>simp only[spotsFrom,if_neg hc]
   |succ m=>simp only[spotsFrom,if_neg hc]
end Sp
theorem zaga {t:List UInt8} {l:List Spot} {s:Spot} (h:¬ s.at_<t.length):zaav t l s=(l,s):=by
 unfold zaav;cases t.length-s.at_.toNat with
 |zero=>rfl
 |succ n=>simp only[Sp.spotsFrom,if_neg h]
theorem zamo {t:List UInt8} {l:List Spot} {s:Spot} (hb:Sp.bad t s.at_.toNat=true):zaav t l s=(l,s):=by
 unfold zaav;cases t.length-s.at_.toNat with
 |zero=>rfl
 |succ n=>simp only[Sp.spotsFrom,hb,if_true]; split<;>rfl
def here (t:List UInt8) (s:Spot):Spot:=⟨Sp.at1 t s.at_,s.at_,s.line,s.col⟩
def after (t:List UInt8) (s:Spot):Spot:=Sp.on (here t s) (Sp.at1 t s.at_) (Sp.at2 t s.at_)
theorem zalc (t:List UInt8) (s:Spot):(after t s).at_=s.at_+Sp.at2 t s.at_:=by
 unfold after Sp.on here;split<;>rfl
theorem zakv {t:List UInt8} {l:List Spot} {s:Spot} (h0:0≤s.at_) (h:s.at_<t.length) (hb:Sp.bad t s.at_.toNat=false):zaav t l s=zaav t (l++[here t s]) (after t s):=by
 unfold zaav;obtain ⟨n,hn⟩:∃ n,t.length-s.at_.toNat=n+1:=⟨t.length-s.at_.toNat-1,by omega⟩;obtain ⟨g1,g2,g3,g4,g5,_⟩:=Sp.good_at h0 h hb;rw[hn];simp only[Sp.spotsFrom,if_pos h,hb,Bool.false_eq_true,if_false];have ha:=zalc t s;exact Sp.fuel t _ _ _ _ (by unfold after here at ha; omega) (by unfold after here at ha; omega) (Nat.le_refl _)
theorem zajz {t:List UInt8} {s:Spot} (h:zaew t s) (hlt:s.at_<t.length) (hb:Sp.bad t s.at_.toNat=false):zaew t (after t s):=by
 obtain ⟨h1,h2,h3,h4,h5,h6,h7⟩:=h;obtain ⟨g1,g2,g3,g4,g5,_⟩:=Sp.good_at h2 hlt hb;unfold zaew after Sp.on here;split<;>simp only<;>omega
theorem zau8 (t:List UInt8):∀ (n:Nat) (l:List Spot) (s s':Spot),Sp.ended s=Sp.ended s'→(Sp.spotsFrom t n l s).1=(Sp.spotsFrom t n l s').1∧Sp.ended (Sp.spotsFrom t n l s).2=Sp.ended (Sp.spotsFrom t n l s').2:=by
 intro n l s s' h;obtain ⟨r,a,b,c⟩:=s;obtain ⟨r',a',b',c'⟩:=s';simp only[Sp.ended,Spot.mk.injEq,true_and] at h;obtain ⟨rfl,rfl,rfl⟩:=h;cases n with
 |zero=>exact ⟨rfl,rfl⟩
 |succ n=>
  simp only[Sp.spotsFrom];split
  ·split
   ·exact ⟨rfl,rfl⟩
   ·exact ⟨rfl,rfl⟩
  ·exact ⟨rfl,rfl⟩
theorem zanv (t:List UInt8) (l:List Spot) (r r' a b c:Int):(zaav t l ⟨r,a,b,c⟩).1=(zaav t l ⟨r',a,b,c⟩).1∧(zaav t l ⟨r,a,b,c⟩).2.at_=(zaav t l ⟨r',a,b,c⟩).2.at_ ∧
  (zaav t l ⟨r,a,b,c⟩).2.line=(zaav t l ⟨r',a,b,c⟩).2.line∧(zaav t l ⟨r,a,b,c⟩).2.col=(zaav t l ⟨r',a,b,c⟩).2.col:=by
 have:=zau8 t (t.length-a.toNat) l ⟨r,a,b,c⟩ ⟨r',a,b,c⟩ rfl;unfold zaav;obtain ⟨h1,h2⟩:=this;simp only[Sp.ended,Spot.mk.injEq,true_and] at h2;exact ⟨h1,h2.1,h2.2.1,h2.2.2⟩
end Lift.A1P
namespace Lift.A1P
open Go Go.RowKit Lift Go.IntWalk Lift.Fn
theorem zag4 {a b:Bool} (h:a=true↔b=true):some a=some b:=by rw[Bool.eq_iff_iff.2 h]
theorem zapu (r:Int):qbq r=some (Sp.digit r):=by
 rw[qbq,zaaa];unfold qbq_f;simp only[cond_eq_ite];split;all_goals refine zag4 ?_
 all_goals simp only[Sp.digit,decide_eq_true_eq,decide_eq_false_iff_not,Bool.false_eq_true,false_iff,Bool.not_eq_true] at *
 all_goals omega
theorem zaui (r:Int):qbp r=some (Sp.blank r):=by
 rw[qbp,zaaa];unfold qbp_f;simp only[cond_eq_ite];repeat' split
 all_goals refine zag4 ?_
 all_goals simp only[Sp.blank,beq_iff_eq,decide_eq_true_eq,decide_eq_false_iff_not,Bool.false_eq_true,false_iff,true_iff,Bool.not_eq_true] at *
 all_goals omega
theorem zax9 (r:Int):qaO r=some (Sp.blank r):=by
 rw[← zaui,qaO,qbp,zaaa,zaaa];rfl
theorem zayf (r:Int):qbP r=some (Sp.isRune r):=by
 rw[qbP,zaaa];unfold qbP_f;simp only[cond_eq_ite];repeat' split
 all_goals refine zag4 ?_
 all_goals simp only[Sp.isRune,beq_iff_eq,decide_eq_true_eq,decide_eq_false_iff_not,Bool.false_eq_true,false_iff,true_iff,Bool.not_eq_true] at *
 all_goals omega
theorem zaxx (r:Int):qbu r=some (Sp.isRune r):=by
 rw[qbu,zaaa];unfold qbu_f;simp only[cond_eq_ite];repeat' split
 ·simp only[decide_eq_true_eq] at *;rw[zayf,i32_in r (by omega)];rfl
 all_goals refine zag4 ?_
 all_goals simp only[Sp.isRune,beq_iff_eq,decide_eq_true_eq,decide_eq_false_iff_not,Bool.false_eq_true,false_iff,true_iff,Bool.not_eq_true] at *
 all_goals omega
theorem zar5 (r:Int):qaQ r=some (Sp.isRune r):=by
 rw[qaQ,zaaa];unfold qaQ_f;simp only[cond_eq_ite];repeat' split
 all_goals refine zag4 ?_
 all_goals simp only[Sp.isRune,beq_iff_eq,decide_eq_true_eq,decide_eq_false_iff_not,Bool.false_eq_true,false_iff,true_iff,Bool.not_eq_true] at *
 all_goals omega
theorem zawz (r:Int):qbr r=some (Sp.letter r):=by
 rw[qbr,zaaa];unfold qbr_f;simp only[cond_eq_ite,zaxx,Option.bind_some];repeat' split
 all_goals refine zag4 ?_
 all_goals simp only[Sp.letter,Sp.isRune,beq_iff_eq,Bool.and_eq_true,decide_eq_true_eq,decide_eq_false_iff_not,Bool.false_eq_true,false_iff,true_iff,Bool.not_eq_true] at *
 all_goals omega
theorem long2 (r:Int):qaT r=some (Sp.long r):=by
 rw[qaT,zaaa];unfold qaT_f Sp.long;simp only[cond_eq_ite,decide_eq_true_eq];repeat' split
 all_goals rfl
theorem len1 (r:Int) (h:Sp.isRune r=true):qbO r=some (Sp.long r):=by
 simp only[Sp.isRune,decide_eq_true_eq] at h;rw[qbO,zaaa];unfold qbO_f Sp.long;simp only[cond_eq_ite,decide_eq_true_eq];repeat' split
 all_goals first|rfl|omega
theorem atLq (t:List UInt8) (p:Int) (m:Int) (hp:0≤p) (hm:p+m≤t.length) (ht:t.length≤4000) (h4:m≤4):∀ (k n:Nat) (r i:Int),1≤i→(m-i).toNat=k→i≤m→k<n→0≤r→r<64 ^ (i.toNat)*64 →
  qaN_i18 n t p m r i=some (match Sp.cont t p k r i with|none=>.inl (0,0)|some x=>.inr (m,x)):=by
 intro k;induction k with
 |zero=>
  intro n r i h1 hk him hn h0 hr;obtain ⟨n,rfl⟩:∃ q,n=q+1:=⟨n-1,by omega⟩;have c:¬ i<m:=by omega
  simp only[qaN_i18,qaN_t18,c,decide_false,cond_false,Sp.cont]
 |succ k ih=>
  intro n r i h1 hk him hn h0 hr;obtain ⟨n,rfl⟩:∃ q,n=q+1:=⟨n-1,by omega⟩;have c:i<m:=by omega
  have hi:i=1∨i=2∨i=3:=by omega
  have hr':r≤64*64*64*64:=by
   rcases hi with rfl|rfl|rfl<;>simp at hr<;>omega
  have hlt:(p+i).toNat<t.length:=by omega
  have h0':0≤p+i:=by omega
  simp only[qaN_i18,qaN_t18,Sp.cont];rw[i64_in (p+i) (by omega)];simp only[c,h0',decide_true,cond_true,List.getElem?_eq_getElem hlt,Option.bind_some];generalize t[(p+i).toNat]=d;have hb:d.toNat<256:=d.toNat_lt;rw[i64_in (d.toNat:Int) (by omega)];by_cases c1:d.toNat<128
  ·have:((d.toNat:Int)<128):=by omega
   simp only[c1,this,true_or,if_true,decide_true,cond_true]
  ·by_cases c2:191<d.toNat
   ·have e1:¬ ((d.toNat:Int)<128):=by omega
    have e2:((d.toNat:Int)>191):=by omega
    simp only[c2,e1,e2,or_true,if_true,decide_true,decide_false,cond_true,cond_false]
   ·have e1:¬ ((d.toNat:Int)<128):=by omega
    have e2:¬ ((d.toNat:Int)>191):=by omega
    simp only[c1,c2,e1,e2,or_self,if_false,decide_false,cond_false];rw[i64_in (64*r) (by omega),i64_in (64*r+d.toNat) (by omega),i64_in (64*r+d.toNat-128) (by omega),i64_in (i+1) (by omega)];refine ih n _ _ (by omega) (by omega) (by omega) (by omega) (by omega) ?_;rcases hi with rfl|rfl|rfl<;>simp at hr ⊢<;>omega
theorem atLq' (t:List UInt8) (p m r:Int) (hp:0≤p) (hm:p+m≤t.length) (ht:t.length≤4000) (h4:m≤4) (h1:1≤m) (h0:0≤r) (hr:r≤255) :
  qaN_l18 t p m r 1=some (match Sp.cont t p (m-1).toNat r 1 with|none=>.inl (0,0)|some x=>.inr (m,x)):=by
 rw[qaN_l18,zaaa];exact atLq t p m hp hm ht h4 _ fuel _ _ (by omega) rfl h1 (by unfold fuel; omega) h0 (by simp; omega)
theorem at2_ (t:List UInt8) (p:Int) (hp:0≤p) (h:p<t.length) (h4:t.length≤4000):qaN t p =
  some (Sp.at1 t p,Sp.at2 t p):=by
 have main:qaN t p=some (ansA (t.drop p.toNat).length (Sp.by_ (t.drop p.toNat) 0) (Sp.by_ (t.drop p.toNat) 1) (Sp.by_ (t.drop p.toNat) 2) (Sp.by_ (t.drop p.toNat) 3)):=by
  obtain ⟨x,h1,h2⟩:=Sp.get_by (t:=t) (j:=0) hp (by omega);have hb:x.toNat<256:=x.toNat_lt;have hl:((t.drop p.toNat).length:Int)=t.length-p:=by simp; omega
  rw[show p+(0:Nat)=p by omega] at h1;have h1':t[Int.toNat p]? = some x:=h1;rw[qaN,zaaa];unfold qaN_f;rw[h1',i64_in (t.length-p) (by omega)];simp only[Option.bind_some];rw[i64_in (x.toNat:Int) (by omega),i64_in ((x.toNat:Int)-240) (by omega),i64_in ((x.toNat:Int)-224) (by omega),i64_in ((x.toNat:Int)-192) (by omega)];simp only[cond_eq_ite,decide_eq_true_eq,Bool.not_eq_true',bne_iff_ne,ne_eq];rw[if_pos hp]
  have fin : ∀ (c : Option Int) (k : Int) (a : Int × Int), (match c with | none => a = (0, 0) | some r => a = if (0 ≤ r ∧ r ≤ 1114111 ∧ (r < 55296 ∨ r > 57343)) ∧ Sp.long r = k then (r, k) else (0, 0)) →
    ((some (match c with|none=>Sum.inl ((0:Int),(0:Int))|some x=>Sum.inr (k,x)):Option ((Int×Int)⊕(Int×Int))).bind fun y1=>
     match y1 with
     |.inl y2=>some ((Prod.fst y2),(Prod.snd y2))
     |.inr y2=>
      Option.bind (qaQ (Prod.snd y2)) fun y3=>
      if y3=false then
       some (((0:Int)),((0:Int)))
      else
       Option.bind (qaT (Prod.snd y2)) fun y4=>
       if ¬ y4=Prod.fst y2 then
        some (((0:Int)),((0:Int)))
       else
        some ((Prod.snd y2),(Prod.fst y2)))=some a:=by
   intro c k a hh;cases c with
   |none=>simp only at hh; subst hh; rfl
   |some r=>
    simp only at hh;subst hh;simp only[Option.bind_some,zar5,long2,Sp.isRune,decide_eq_false_iff_not];by_cases q1:(0≤r∧r≤1114111∧(r<55296∨r>57343))
    ·by_cases q2:Sp.long r=k
     ·simp only[q1,q2,not_true_eq_false,if_false,true_and,if_true]
     ·simp only[q1,q2,not_true_eq_false,if_false,true_and,not_false_eq_true,if_true]
    ·rw[if_pos q1,if_neg (fun hh=>q1 hh.1)]
  by_cases a1:240≤x.toNat
  ·rw[if_pos (show (x.toNat:Int)≥240 by omega)];by_cases a2:(t.drop p.toNat).length<4
   ·rw[if_pos (show (t.length:Int)-p<4 by omega)];simp only[ansA,← h2,a1,a2,if_true]
   ·rw[if_neg (show ¬ (t.length:Int)-p<4 by omega),atLq' t p 4 _ hp (by omega) h4 (by omega) (by omega) (by omega) (by omega)];refine fin _ _ _ ?_;rw[show ((4:Int)-1).toNat=3 from rfl,Sp.cont3 hp (by omega)];simp only[ansA,← h2,a1,a2,if_true,if_false];by_cases q1:Sp.by_ (t.drop p.toNat) 1<128∨191<Sp.by_ (t.drop p.toNat) 1
    ·simp only[q1,if_true]
    by_cases q2:Sp.by_ (t.drop p.toNat) 2<128∨191<Sp.by_ (t.drop p.toNat) 2
    ·simp only[q1,q2,if_true,if_false]
    by_cases q3:Sp.by_ (t.drop p.toNat) 3<128∨191<Sp.by_ (t.drop p.toNat) 3
    ·simp only[q1,q2,q3,if_true,if_false]
    simp only[q1,q2,q3,if_false]
  ·rw[if_neg (show ¬ (x.toNat:Int)≥240 by omega)];by_cases b1:224≤x.toNat
   ·rw[if_pos (show (x.toNat:Int)≥224 by omega)];by_cases a2:(t.drop p.toNat).length<3
    ·rw[if_pos (show (t.length:Int)-p<3 by omega)];simp only[ansA,← h2,a1,b1,a2,if_true,if_false]
    ·rw[if_neg (show ¬ (t.length:Int)-p<3 by omega),atLq' t p 3 _ hp (by omega) h4 (by omega) (by omega) (by omega) (by omega)];refine fin _ _ _ ?_;rw[show ((3:Int)-1).toNat=2 from rfl,Sp.cont2 hp (by omega)];simp only[ansA,← h2,a1,b1,a2,if_true,if_false];by_cases q1:Sp.by_ (t.drop p.toNat) 1<128∨191<Sp.by_ (t.drop p.toNat) 1
     ·simp only[q1,if_true]
     by_cases q2:Sp.by_ (t.drop p.toNat) 2<128∨191<Sp.by_ (t.drop p.toNat) 2
     ·simp only[q1,q2,if_true,if_false]
     simp only[q1,q2,if_false]
   ·rw[if_neg (show ¬ (x.toNat:Int)≥224 by omega)];by_cases c1:192≤x.toNat
    ·rw[if_pos (show (x.toNat:Int)≥192 by omega)];by_cases a2:(t.drop p.toNat).length<2
     ·rw[if_pos (show (t.length:Int)-p<2 by omega)];simp only[ansA,← h2,a1,b1,c1,a2,if_true,if_false]
     ·rw[if_neg (show ¬ (t.length:Int)-p<2 by omega),atLq' t p 2 _ hp (by omega) h4 (by omega) (by omega) (by omega) (by omega)];refine fin _ _ _ ?_;rw[show ((2:Int)-1).toNat=1 from rfl,Sp.cont1 hp (by omega)];simp only[ansA,← h2,a1,b1,c1,a2,if_true,if_false];by_cases q1:Sp.by_ (t.drop p.toNat) 1<128∨191<Sp.by_ (t.drop p.toNat) 1
      ·simp only[q1,if_true]
      simp only[q1,if_false]
    ·rw[if_neg (show ¬ (x.toNat:Int)≥192 by omega)];by_cases d1:128≤x.toNat
     ·rw[if_pos (show (x.toNat:Int)≥128 by omega)];simp only[ansA,← h2,a1,b1,c1,d1,if_true,if_false]
     ·rw[if_neg (show ¬ (x.toNat:Int)≥128 by omega),if_neg (show ¬ (t.length:Int)-p<1 by omega),atLq' t p 1 _ hp (by omega) h4 (by omega) (by omega) (by omega) (by omega)];refine fin (Sp.cont t p ((1:Int)-1).toNat (x.toNat:Int) 1) 1 _ ?_;have r1:(0≤(x.toNat:Int)∧(x.toNat:Int)≤1114111∧((x.toNat:Int)<55296∨(x.toNat:Int)>57343)):=by omega
      have r2:Sp.long (x.toNat:Int)=1:=by unfold Sp.long; rw[if_pos (by omega)]
      rw[show ((1:Int)-1).toNat=0 from rfl];simp only[Sp.cont,ansA,← h2,a1,b1,c1,d1,if_false];rw[if_pos (And.intro r1 r2)]
 rw[main,zaql _ (by simp; omega)];unfold Sp.at1 Sp.at2;rw[Sp.bad_eq,Sp.dc_eq];split<;>rfl
theorem on2 (s:Spot) (r n:Int) (h1:-9000≤s.at_∧s.at_≤9000∧-9000≤s.line∧s.line≤9000∧-9000≤s.col∧s.col≤9000∧0≤n∧n≤4):qaU s r n=some (Sp.on s r n):=by
 rw[qaU,zaaa];unfold qaU_f Sp.on;rw[i64_in (s.at_+n) (by omega),i64_in (s.line+1) (by omega),i64_in (s.col+1) (by omega)];simp only[cond_eq_ite,beq_iff_eq];split<;>rfl
theorem zahk {t:List UInt8} {s:Spot} (h:zaew t s):0≤s.at_∧s.at_≤t.length∧t.length≤4000∧1≤s.line∧s.line≤s.at_+1∧1≤s.col∧s.col≤s.at_+1:=
 ⟨h.2.1,h.2.2.1,h.1,h.2.2.2.1,h.2.2.2.2.1,h.2.2.2.2.2.1,h.2.2.2.2.2.2⟩
theorem zayi (t:List UInt8) (a1 a2 a3 a4:Int):∀ (k n:Nat) (c1 c2 c3 c4:Int) (l:List Spot),t.length-c2.toNat≤k→k<n→zaew t ⟨c1,c2,c3,c4⟩→(l.length:Int)≤c2 →
  qaV_i3 n t a1 a2 a3 a4 c1 c2 c3 c4 l=some (a1,a2,a3,a4,(zaav t l ⟨c1,c2,c3,c4⟩).2.rune,(zaav t l ⟨c1,c2,c3,c4⟩).2.at_,(zaav t l ⟨c1,c2,c3,c4⟩).2.line,(zaav t l ⟨c1,c2,c3,c4⟩).2.col,(zaav t l ⟨c1,c2,c3,c4⟩).1):=by
 intro k;induction k with
 |zero=>
  intro n c1 c2 c3 c4 l hk hn hok hl;obtain ⟨n,rfl⟩:∃ q,n=q+1:=⟨n-1,by omega⟩;have:=zahk hok;simp only at this;have c:¬ c2<t.length:=by omega
  rw[zaga (s:=⟨c1,c2,c3,c4⟩) c];simp only[qaV_i3,qaV_t3,c,decide_false,cond_false]
 |succ k ih=>
  intro n c1 c2 c3 c4 l hk hn hok hl;obtain ⟨n,rfl⟩:∃ q,n=q+1:=⟨n-1,by omega⟩;obtain ⟨h2,h3,h1,h4,h5,h6,h7⟩:=zahk hok;simp only at h2 h3 h4 h5 h6 h7;simp only[qaV_i3,qaV_t3];by_cases c:c2<t.length
  ·rw[at2_ t c2 h2 c h1];simp only[c,decide_true,cond_true,Option.bind_some];cases hb:Sp.bad t c2.toNat with
   |true=>
    have:=(Sp.bad_at hb).2;rw[zamo (s:=⟨c1,c2,c3,c4⟩) hb];simp only[this,beq_self_eq_true,cond_true]
   |false=>
    obtain ⟨g1,g2,g3,g4,g5,_⟩:=Sp.good_at h2 c hb;have e0:(Sp.at2 t c2==0)=false:=by rw[beq_eq_false_iff_ne]; omega
    rw[zakv (s:=⟨c1,c2,c3,c4⟩) h2 c hb];have hk':=zajz hok c hb;have haf:=zalc t ⟨c1,c2,c3,c4⟩;simp only at haf;rw[e0,cond_false,on2 _ _ _ (by simp only; omega),cond_eq_ite,if_pos,Option.bind_some]
    ·show qaV_i3 n t a1 a2 a3 a4 (after t ⟨c1,c2,c3,c4⟩).rune (after t ⟨c1,c2,c3,c4⟩).at_ (after t ⟨c1,c2,c3,c4⟩).line (after t ⟨c1,c2,c3,c4⟩).col (l++[here t ⟨c1,c2,c3,c4⟩])=_;refine ih n _ _ _ _ _ ?_ (by omega) hk' ?_
     ·omega
     ·simp only[List.length_append,List.length_cons,List.length_nil];omega
    ·simp only[decide_eq_true_eq,List.length_cons,List.length_nil]; omega
  ·simp only[c,decide_false,cond_false];rw[zaga (s:=⟨c1,c2,c3,c4⟩) c]
theorem zawu (t:List UInt8) (h:t.length≤4000):qaV t=some (Sp.spots2 t,Sp.spots1 t):=by
 rw[qaV,zaaa];unfold qaV_f;rw[qaV_l3,zaaa,zayi t _ _ _ _ t.length fuel 0 0 1 1 [] (by simp) (by unfold fuel; omega) (by unfold zaew; simp only; omega) (by simp)];rfl
theorem goneL (s:List UInt8) (a1 a2 a3 a4:Int):∀ (k n:Nat) (c2 c3 c4:Int) (pos:Nat) (l:List Spot),s.length-c2.toNat≤k→k<n→zaew s ⟨-1,c2,c3,c4⟩→(l.length:Int)≤c2→(pos:Int)=c2 →
  qbt_i4 n s a1 a2 a3 a4 (-1) c2 c3 c4 s pos l=some (if (zaav s l ⟨-1,c2,c3,c4⟩).2.at_<s.length then
   .inl (-1,(zaav s l ⟨-1,c2,c3,c4⟩).2.at_,(zaav s l ⟨-1,c2,c3,c4⟩).2.line,(zaav s l ⟨-1,c2,c3,c4⟩).2.col,(zaav s l ⟨-1,c2,c3,c4⟩).1)
   else .inr (a1,a2,a3,a4,-1,(zaav s l ⟨-1,c2,c3,c4⟩).2.at_,(zaav s l ⟨-1,c2,c3,c4⟩).2.line,(zaav s l ⟨-1,c2,c3,c4⟩).2.col,(zaav s l ⟨-1,c2,c3,c4⟩).1)):=by
 intro k;induction k with
 |zero=>
  intro n c2 c3 c4 pos l hk hn hok hl hp;obtain ⟨n,rfl⟩:∃ q,n=q+1:=⟨n-1,by omega⟩;have:=zahk hok;simp only at this;have c:¬ c2<s.length:=by omega
  have c':¬ pos<s.length:=by omega
  rw[zaga (s:=⟨-1,c2,c3,c4⟩) c,if_neg c];simp only[qbt_i4,qbt_t4,c',decide_false,cond_false]
 |succ k ih=>
  intro n c2 c3 c4 pos l hk hn hok hl hp;obtain ⟨n,rfl⟩:∃ q,n=q+1:=⟨n-1,by omega⟩;obtain ⟨h2,h3,h1,h4,h5,h6,h7⟩:=zahk hok;simp only at h2 h3 h4 h5 h6 h7;have hq:pos=c2.toNat:=by omega
  simp only[qbt_i4,qbt_t4];by_cases c:c2<s.length
  ·have hlt:pos<s.length:=by omega
   have hdc:Utf8.decode ⟨s.toArray⟩ pos=Sp.dc s c2.toNat:=by rw[hq]; rfl
   rw[hdc];rw[i64_in ((pos:Int)+3) (by omega)];have hmin:(if (pos:Int)+3<(s.length:Int) then (pos:Int)+3 else (s.length:Int))=(min s.length (c2.toNat+3):Nat):=by
    split<;>omega
   rw[hmin];have hslice:List.drop (Int.toNat (pos:Int)) (List.take (Int.toNat ((min s.length (c2.toNat+3):Nat):Int)) s)=(s.take (min s.length (c2.toNat+3))).drop c2.toNat:=by
    rw[Int.toNat_natCast,Int.toNat_natCast,hq]
   rw[hslice];have hbnd:(decide ((0:Int)≤(pos:Int))&&(decide ((pos:Int)≤(min s.length (c2.toNat+3):Nat))&&decide (((min s.length (c2.toNat+3):Nat):Int)≤(s.length:Int))))=true:=by
    simp only[Bool.and_eq_true,decide_eq_true_eq]; omega
   rw[hbnd];have hbad:Sp.bad s c2.toNat=(decide ((Sp.dc s c2.toNat).1=65533)&&!(((s.take (min s.length (c2.toNat+3))).drop c2.toNat)==[239,191,189])):=rfl;simp only[hlt,decide_true,cond_true];cases hb:Sp.bad s c2.toNat with
   |true=>
    rw[hb] at hbad;have hbad:=hbad.symm;simp only[Bool.and_eq_true,decide_eq_true_eq] at hbad;have e1:(((Sp.dc s c2.toNat).1:Int)==65533)=true:=by rw[beq_iff_eq]; omega
    rw[e1,hbad.2];simp only[cond_true];rw[zamo (s:=⟨-1,c2,c3,c4⟩) hb,if_pos c]
   |false=>
    obtain ⟨g1,g2,g3,g4,g5,g6,g7⟩:=Sp.good_at h2 c hb;rw[zakv (s:=⟨-1,c2,c3,c4⟩) h2 c hb];generalize hR:(some (ite ((zaav s (l++[here s ⟨-1,c2,c3,c4⟩]) (after s ⟨-1,c2,c3,c4⟩)).2.at_<(s.length:Int)) _ _):Option _)=R;have hk':=zajz hok c hb;have haf:=zalc s ⟨-1,c2,c3,c4⟩;simp only at haf;have hrune:Sp.isRune ((Sp.dc s c2.toNat).1:Int)=true:=by rw[← g6]; exact g1
    have hlong:Sp.long ((Sp.dc s c2.toNat).1:Int)=Sp.at2 s c2:=by rw[← g6]; exact g2
    have hr:(0:Int)≤(Sp.dc s c2.toNat).1∧((Sp.dc s c2.toNat).1:Int)≤1114111:=by
     simp only[Sp.isRune,decide_eq_true_eq] at hrune; omega
    rw[len1 _ hrune,hlong,Option.bind_some];rw[i64_in ((Sp.dc s c2.toNat).1:Int) (by omega),i64_in (c2+Sp.at2 s c2) (by omega),i64_in (c3+1) (by omega),i64_in (c4+1) (by omega)];have hhere:here s ⟨-1,c2,c3,c4⟩=⟨((Sp.dc s c2.toNat).1:Int),c2,c3,c4⟩:=by unfold here; rw[g6]
    have go:∀ (b3 b4:Int),(after s ⟨-1,c2,c3,c4⟩).line=b3→(after s ⟨-1,c2,c3,c4⟩).col=b4 →
      qbt_i4 n s a1 a2 a3 a4 (-1) (c2+Sp.at2 s c2) b3 b4 s (pos+(Sp.dc s c2.toNat).2) (l++[⟨((Sp.dc s c2.toNat).1:Int),c2,c3,c4⟩]) =
       R:=by
     intro b3 b4 e3 e4;rw[← hR];have hk2:zaew s ⟨-1,c2+Sp.at2 s c2,b3,b4⟩:=by
      obtain ⟨q1,q2,q3,q4,q5,q6,q7⟩:=hk';rw[haf] at q2 q3 q5 q7;rw[e3] at q4 q5;rw[e4] at q6 q7;exact ⟨q1,q2,q3,q4,q5,q6,q7⟩
     have heta:after s ⟨-1,c2,c3,c4⟩=⟨(after s ⟨-1,c2,c3,c4⟩).rune,c2+Sp.at2 s c2,b3,b4⟩:=by
      rw[← haf,← e3,← e4]
     rw[ih n _ _ _ _ _ (by omega) (by omega) hk2 (by simp only[List.length_append,List.length_cons,List.length_nil]; omega) (by omega)];rw[hhere,heta];obtain ⟨y1,y2,y3,y4⟩:=zanv s (l++[⟨((Sp.dc s c2.toNat).1:Int),c2,c3,c4⟩]) (-1) (after s ⟨-1,c2,c3,c4⟩).rune (c2+Sp.at2 s c2) b3 b4;rw[y1,y2,y3,y4]
    have main:(bif decide ((List.length l+List.length [Spot.mk ((Sp.dc s c2.toNat).1:Int) c2 c3 c4])*(32:Nat)≤(140737488355328:Nat)∧List.length l+List.length [Spot.mk ((Sp.dc s c2.toNat).1:Int) c2 c3 c4]≤(9223372036854775807:Nat)) then
       bif ((Sp.dc s c2.toNat).1:Int)==(10:Int) then
        qbt_i4 n s a1 a2 a3 a4 (-1) (c2+Sp.at2 s c2) (c3+1) 1 s (pos+(Sp.dc s c2.toNat).2) (l++[⟨((Sp.dc s c2.toNat).1:Int),c2,c3,c4⟩])
       else
        qbt_i4 n s a1 a2 a3 a4 (-1) (c2+Sp.at2 s c2) c3 (c4+1) s (pos+(Sp.dc s c2.toNat).2) (l++[⟨((Sp.dc s c2.toNat).1:Int),c2,c3,c4⟩])
      else none)=R:=by
     have hlen1:((List.length l+List.length [Spot.mk ((Sp.dc s c2.toNat).1:Int) c2 c3 c4])*(32:Nat)≤(140737488355328:Nat)∧List.length l+List.length [Spot.mk ((Sp.dc s c2.toNat).1:Int) c2 c3 c4]≤(9223372036854775807:Nat)):=by
      simp only[List.length_cons,List.length_nil]; omega
     rw[decide_eq_true hlen1,cond_true];cases e10:(((Sp.dc s c2.toNat).1:Int)==10) with
     |true=>
      have:Sp.at1 s c2=10:=by rw[g6]; exact beq_iff_eq.1 e10
      exact go _ _ (by simp[after,here,Sp.on,this]) (by simp[after,here,Sp.on,this])
     |false=>
      have:¬ Sp.at1 s c2=10:=by rw[g6]; exact beq_eq_false_iff_ne.1 e10
      exact go _ _ (by simp[after,here,Sp.on,this]) (by simp[after,here,Sp.on,this])
    cases e1:(((Sp.dc s c2.toNat).1:Int)==65533) with
    |true=>
     rw[hb] at hbad;have e2:decide ((Sp.dc s c2.toNat).1=65533)=true:=by
      have:=beq_iff_eq.1 e1;rw[decide_eq_true_eq]; omega
     rw[e2,Bool.true_and] at hbad;rw[← hbad];simp only[cond_true,cond_false];exact main
    |false=>
     simp only[cond_false];exact main
  ·have hlt:¬ pos<s.length:=by omega
   simp only[hlt,decide_false,cond_false];rw[zaga (s:=⟨-1,c2,c3,c4⟩) c,if_neg c]
theorem gone1 (t:List UInt8) (h:t.length≤4000):qbt t=some (Sp.spots2 t,Sp.spots1 t):=by
 have g:zaav t [] ⟨0,0,1,1⟩=Sp.spotsFrom t t.length [] ⟨0,0,1,1⟩:=rfl;obtain ⟨y1,y2,y3,y4⟩:=zanv t [] (-1) 0 0 1 1;rw[g] at y1 y2 y3 y4;have e2:(⟨-1,(zaav t [] ⟨-1,0,1,1⟩).2.at_,(zaav t [] ⟨-1,0,1,1⟩).2.line,(zaav t [] ⟨-1,0,1,1⟩).2.col⟩:Spot)=Sp.spots2 t:=by
  rw[y2,y3,y4]; rfl
 have e1:(zaav t [] ⟨-1,0,1,1⟩).1=Sp.spots1 t:=y1;rw[qbt,zaaa];unfold qbt_f;rw[qbt_l4,zaaa,goneL t _ _ _ _ t.length fuel 0 1 1 0 [] (by simp) (by unfold fuel; omega) (by unfold zaew; simp only; omega) (by simp) (by simp),Option.bind_some];split
 ·rename_i y heq;split at heq
  ·cases heq;simp only[e1,e2]
  ·cases heq
 ·rename_i y heq;split at heq
  ·cases heq
  ·cases heq;simp only[e1,e2]
theorem zanf (t:List UInt8):qaS t=some (Sp.runes2 t,Sp.runes1 t):=by
 rw[qaS,zaaa];unfold qaS_f Sp.runes1 Sp.runes2;simp only[cond_eq_ite,decide_eq_true_eq];by_cases h:4000<t.length
 ·rw[if_pos (show (t.length:Int)>4000 by omega),if_pos h,if_pos h]
 ·rw[if_neg (show ¬ (t.length:Int)>4000 by omega),if_neg h,if_neg h,zawu t (by omega),Option.bind_some];by_cases h2:(Sp.spots2 t).at_<t.length
  ·rw[if_pos h2,if_pos h2,if_pos h2]
  ·rw[if_neg h2,if_neg h2,if_neg h2]
theorem zarn (t:List UInt8):qbs t=some (Sp.runes2 t,Sp.runes1 t):=by
 rw[qbs,zaaa];unfold qbs_f Sp.runes1 Sp.runes2;simp only[cond_eq_ite,decide_eq_true_eq];by_cases h:4000<t.length
 ·rw[if_pos (show (t.length:Int)>4000 by omega),if_pos h,if_pos h]
 ·rw[if_neg (show ¬ (t.length:Int)>4000 by omega),if_neg h,if_neg h,gone1 t (by omega),Option.bind_some];by_cases h2:(Sp.spots2 t).at_<t.length
  ·rw[if_pos h2,if_pos h2,if_pos h2]
  ·rw[if_neg h2,if_neg h2,if_neg h2]
end Lift.A1P
namespace Lift.A1P
open Go Go.RowKit Lift Go.IntWalk Lift.Fn
theorem zatp (l:List Int):(bytesOf l).length=l.length:=by simp[bytesOf]
def encB (r:Int):List UInt8:=bytesOf (Sp.enc r)
def encs (rs:List Int):List UInt8:=rs.flatMap encB
theorem zaa5 (r:Int) (rs:List Int):encs (r::rs)=encB r++encs rs:=rfl
theorem zaak (a b:List Int):encs (a++b)=encs a++encs b:=by simp[encs]
theorem zabr (n:Nat) (h:n<256):(UInt8.ofNat n).toNat=n:=by
 simp[UInt8.toNat_ofNat'];omega
theorem zaej (r:Int):(encB r).length=(Sp.long r).toNat:=by
 unfold encB Sp.enc Sp.long;rw[zatp];repeat' split
 all_goals rfl
theorem by0 (a:UInt8) (l:List UInt8):Sp.by_ (a::l) 0=a.toNat:=rfl
theorem by1 (a b:UInt8) (l:List UInt8):Sp.by_ (a::b::l) 1=b.toNat:=rfl
theorem by2 (a b c:UInt8) (l:List UInt8):Sp.by_ (a::b::c::l) 2=c.toNat:=rfl
theorem by3 (a b c d:UInt8) (l:List UInt8):Sp.by_ (a::b::c::d::l) 3=d.toNat:=rfl
theorem zakd {l:List UInt8} {r k:Nat} (h:Sp.dl l=(r,k)) (h2:r≠65533∨(3≤l.length∧Sp.by_ l 0=239∧Sp.by_ l 1=191∧Sp.by_ l 2=189)):Sp.badl l=false:=by
 unfold Sp.badl;rw[h,Sp.take3];rcases h2 with h2|h2
 ·simp[h2]
 ·simp[h2]
theorem zaul (r:Int) (rest:List UInt8) (h:Sp.isRune r=true):Sp.dl (encB r++rest)=(r.toNat,(Sp.long r).toNat)∧Sp.badl (encB r++rest)=false:=by
 simp only[Sp.isRune,decide_eq_true_eq] at h;by_cases a1:r<128
 ·have e:encB r++rest=UInt8.ofNat r.toNat::rest:=by simp[encB,bytesOf,Sp.enc,a1]
  have hl:(Sp.long r).toNat=1:=by unfold Sp.long; rw[if_pos a1]; rfl
  rw[e,hl];have hd:Sp.dl (UInt8.ofNat r.toNat::rest)=(r.toNat,1):=by
   unfold Sp.dl;rw[by0,zabr _ (by omega),if_pos (by omega)]
  exact ⟨hd,zakd hd (.inl (by omega))⟩
 by_cases a2:r<2048
 ·have e:encB r++rest=UInt8.ofNat (192+r.toNat / 64)::UInt8.ofNat (128+r.toNat % 64)::rest:=by
   unfold encB Sp.enc bytesOf;rw[if_neg a1,if_pos a2];simp only[List.map_cons,List.map_nil,List.cons_append,List.nil_append];rw[show (192+r / 64).toNat=192+r.toNat / 64 by omega,show (128+r % 64).toNat=128+r.toNat % 64 by omega]
  have hl:(Sp.long r).toNat=2:=by unfold Sp.long; rw[if_neg a1,if_pos a2]; rfl
  rw[e,hl];have hd:Sp.dl (UInt8.ofNat (192+r.toNat / 64)::UInt8.ofNat (128+r.toNat % 64)::rest)=(r.toNat,2):=by
   unfold Sp.dl Sp.ct;rw[by0,by1,zabr _ (by omega),zabr _ (by omega)];simp only[List.length_cons,Bool.and_eq_true,decide_eq_true_eq,beq_iff_eq];rw[if_neg (by omega),if_pos (by omega),if_pos (by omega)];rw[show (192+r.toNat / 64) % 32*64+(128+r.toNat % 64) % 64=r.toNat by omega]
  exact ⟨hd,zakd hd (.inl (by omega))⟩
 by_cases a3:r<65536
 ·have e:encB r++rest=UInt8.ofNat (224+r.toNat / 4096)::UInt8.ofNat (128+r.toNat / 64 % 64)::UInt8.ofNat (128+r.toNat % 64)::rest:=by
   unfold encB Sp.enc bytesOf;rw[if_neg a1,if_neg a2,if_pos a3];simp only[List.map_cons,List.map_nil,List.cons_append,List.nil_append];rw[show (224+r / 4096).toNat=224+r.toNat / 4096 by omega,show (128+r / 64 % 64).toNat=128+r.toNat / 64 % 64 by omega,show (128+r % 64).toNat=128+r.toNat % 64 by omega]
  have hl:(Sp.long r).toNat=3:=by unfold Sp.long; rw[if_neg a1,if_neg a2,if_pos a3]; rfl
  rw[e,hl];have hd:Sp.dl (UInt8.ofNat (224+r.toNat / 4096)::UInt8.ofNat (128+r.toNat / 64 % 64)::UInt8.ofNat (128+r.toNat % 64)::rest)=(r.toNat,3):=by
   unfold Sp.dl Sp.ct;rw[by0,by1,by2,zabr _ (by omega),zabr _ (by omega),zabr _ (by omega)];simp only[List.length_cons,Bool.and_eq_true,decide_eq_true_eq,beq_iff_eq,zaha,ge_iff_le];have hv:(224+r.toNat / 4096) % 16*4096+(128+r.toNat / 64 % 64) % 64*64+(128+r.toNat % 64) % 64=r.toNat:=by omega
   rw[hv,if_neg (by omega),if_neg (by omega),if_pos (by omega),if_pos (by omega)]
  refine ⟨hd,zakd hd ?_⟩;simp only[List.length_cons,by0,by1,by2];rw[zabr _ (by omega),zabr _ (by omega),zabr _ (by omega)];omega
 ·have e:encB r++rest=UInt8.ofNat (240+r.toNat / 262144)::UInt8.ofNat (128+r.toNat / 4096 % 64)::UInt8.ofNat (128+r.toNat / 64 % 64)::UInt8.ofNat (128+r.toNat % 64)::rest:=by
   unfold encB Sp.enc bytesOf;rw[if_neg a1,if_neg a2,if_neg a3];simp only[List.map_cons,List.map_nil,List.cons_append,List.nil_append];rw[show (240+r / 262144).toNat=240+r.toNat / 262144 by omega,show (128+r / 4096 % 64).toNat=128+r.toNat / 4096 % 64 by omega,show (128+r / 64 % 64).toNat=128+r.toNat / 64 % 64 by omega,show (128+r % 64).toNat=128+r.toNat % 64 by omega]
  have hl:(Sp.long r).toNat=4:=by unfold Sp.long; rw[if_neg a1,if_neg a2,if_neg a3]; rfl
  rw[e,hl];have hd:Sp.dl (UInt8.ofNat (240+r.toNat / 262144)::UInt8.ofNat (128+r.toNat / 4096 % 64)::UInt8.ofNat (128+r.toNat / 64 % 64)::UInt8.ofNat (128+r.toNat % 64)::rest)=(r.toNat,4):=by
   unfold Sp.dl Sp.ct;rw[by0,by1,by2,by3,zabr _ (by omega),zabr _ (by omega),zabr _ (by omega),zabr _ (by omega)];simp only[List.length_cons,Bool.and_eq_true,decide_eq_true_eq,beq_iff_eq,zaha,ge_iff_le];have hv:(240+r.toNat / 262144) % 8*262144+(128+r.toNat / 4096 % 64) % 64*4096+(128+r.toNat / 64 % 64) % 64*64+(128+r.toNat % 64) % 64=r.toNat:=by omega
   rw[hv,if_neg (by omega),if_neg (by omega),if_neg (by omega),if_pos (by omega),if_pos (by omega)]
  exact ⟨hd,zakd hd (.inl (by omega))⟩
theorem zacq {n:Int} {a:UInt8} (h:n.toNat=a.toNat):UInt8.ofNat n.toNat=a:=by
 rw[h]; simp
theorem zayg {l:List UInt8} (h:1<l.length):∃ a b r,l=a::b::r:=by
 match l,h with
 |a::b::r,_=>exact ⟨a,b,r,rfl⟩
theorem zavw {l:List UInt8} (h:2<l.length):∃ a b c r,l=a::b::c::r:=by
 match l,h with
 |a::b::c::r,_=>exact ⟨a,b,c,r,rfl⟩
theorem zaxm {l:List UInt8} (h:3<l.length):∃ a b c d r,l=a::b::c::d::r:=by
 match l,h with
 |a::b::c::d::r,_=>exact ⟨a,b,c,d,r,rfl⟩
theorem zavr (l:List UInt8) (hl:l≠[]) (hb:Sp.badl l=false):Sp.isRune ((Sp.dl l).1:Int)=true∧∃ rest,l=encB ((Sp.dl l).1:Int)++rest:=by
 have hlen:0<l.length:=by cases l with|nil=>exact absurd rfl hl|cons _ _=>simp
 have hr:Sp.isRune ((Sp.dl l).1:Int)=true:=by
  have h4:=zaql _ hlen;obtain ⟨h1,h2,h3⟩:=Sp.dl_pos _ hlen;rw[hb] at h4;simp only[Bool.false_eq_true,if_false] at h4;rcases Sp.ansA_ok l.length (Sp.by_ l 0) (Sp.by_ l 1) (Sp.by_ l 2) (Sp.by_ l 3) (l.getD 0 0).toNat_lt with h5|⟨h5,h6⟩
  ·rw[h4] at h5;simp only[Prod.mk.injEq] at h5;omega
  ·rw[h4] at h5;exact h5
 refine ⟨hr,?_⟩;have hg:¬ ((Sp.dl l).1=65533∧¬ (3≤l.length∧Sp.by_ l 0=239∧Sp.by_ l 1=191∧Sp.by_ l 2=189)):=by
  unfold Sp.badl at hb;rw[Sp.take3] at hb;intro hh;simp[hh.1] at hb;exact hh.2 hb
 obtain ⟨D,hD⟩:∃ D,D=Sp.dl l:=⟨_,rfl⟩;rw[← hD] at hg ⊢;unfold Sp.dl Sp.ct at hD;simp only[Bool.and_eq_true,decide_eq_true_eq,beq_iff_eq,zaha,ge_iff_le] at hD;have hb0:Sp.by_ l 0<256:=(l.getD 0 0).toNat_lt;have hb1:Sp.by_ l 1<256:=(l.getD 1 0).toNat_lt;have hb2:Sp.by_ l 2<256:=(l.getD 2 0).toNat_lt;have hb3:Sp.by_ l 3<256:=(l.getD 3 0).toNat_lt;by_cases k0:Sp.by_ l 0<128
 ·rw[if_pos k0] at hD;rw[hD];match l,hlen with
  |a::l,_=>
   rw[by0] at *;refine ⟨l,?_⟩;unfold encB Sp.enc bytesOf;rw[if_pos (by simp only; omega)];simp
 rw[if_neg k0] at hD;by_cases k1:Sp.by_ l 0 / 32=6∧1<l.length∧Sp.by_ l 1 / 64=2
 ·rw[if_pos k1] at hD;by_cases k2:128≤Sp.by_ l 0 % 32*64+Sp.by_ l 1 % 64
  ·rw[if_pos k2] at hD;rw[hD];obtain ⟨a,b,l,rfl⟩:=zayg k1.2.1
   next=>
    rw[by0,by1] at *;refine ⟨l,?_⟩;unfold encB Sp.enc bytesOf;rw[if_neg (by simp only; omega),if_pos (by simp only; omega)];simp only[List.map_cons,List.map_nil,List.cons_append,List.nil_append];rw[zacq (a:=a) (by omega),zacq (a:=b) (by omega)]
  ·rw[if_neg k2] at hD;rw[hD] at hg;have hg':=Classical.byContradiction fun hh=>hg ⟨rfl,hh⟩
   omega
 rw[if_neg k1] at hD;by_cases k2:(Sp.by_ l 0 / 16=14∧1<l.length∧Sp.by_ l 1 / 64=2)∧2<l.length∧Sp.by_ l 2 / 64=2
 ·rw[if_pos k2] at hD;by_cases k3:2048≤Sp.by_ l 0 % 16*4096+Sp.by_ l 1 % 64*64+Sp.by_ l 2 % 64∧(0≤((Sp.by_ l 0 % 16*4096+Sp.by_ l 1 % 64*64+Sp.by_ l 2 % 64:Nat):Int)∧((Sp.by_ l 0 % 16*4096+Sp.by_ l 1 % 64*64+Sp.by_ l 2 % 64:Nat):Int)<55296∨57344≤((Sp.by_ l 0 % 16*4096+Sp.by_ l 1 % 64*64+Sp.by_ l 2 % 64:Nat):Int)∧((Sp.by_ l 0 % 16*4096+Sp.by_ l 1 % 64*64+Sp.by_ l 2 % 64:Nat):Int)≤1114111)
  ·rw[if_pos k3] at hD;rw[hD];obtain ⟨a,b,c,l,rfl⟩:=zavw k2.2.1
   next=>
    rw[by0,by1,by2] at *;refine ⟨l,?_⟩;unfold encB Sp.enc bytesOf;rw[if_neg (by simp only; omega),if_neg (by simp only; omega),if_pos (by simp only; omega)];simp only[List.map_cons,List.map_nil,List.cons_append,List.nil_append];rw[zacq (a:=a) (by omega),zacq (a:=b) (by omega),zacq (a:=c) (by omega)]
  ·rw[if_neg k3] at hD;rw[hD] at hg;have hg':=Classical.byContradiction fun hh=>hg ⟨rfl,hh⟩
   omega
 rw[if_neg k2] at hD;by_cases k3:((Sp.by_ l 0 / 8=30∧1<l.length∧Sp.by_ l 1 / 64=2)∧2<l.length∧Sp.by_ l 2 / 64=2)∧3<l.length∧Sp.by_ l 3 / 64=2
 ·rw[if_pos k3] at hD;by_cases k4:65536≤Sp.by_ l 0 % 8*262144+Sp.by_ l 1 % 64*4096+Sp.by_ l 2 % 64*64+Sp.by_ l 3 % 64∧(0≤((Sp.by_ l 0 % 8*262144+Sp.by_ l 1 % 64*4096+Sp.by_ l 2 % 64*64+Sp.by_ l 3 % 64:Nat):Int)∧((Sp.by_ l 0 % 8*262144+Sp.by_ l 1 % 64*4096+Sp.by_ l 2 % 64*64+Sp.by_ l 3 % 64:Nat):Int)<55296∨57344≤((Sp.by_ l 0 % 8*262144+Sp.by_ l 1 % 64*4096+Sp.by_ l 2 % 64*64+Sp.by_ l 3 % 64:Nat):Int)∧((Sp.by_ l 0 % 8*262144+Sp.by_ l 1 % 64*4096+Sp.by_ l 2 % 64*64+Sp.by_ l 3 % 64:Nat):Int)≤1114111)
  ·rw[if_pos k4] at hD;rw[hD];obtain ⟨a,b,c,d,l,rfl⟩:=zaxm k3.2.1
   next=>
    rw[by0,by1,by2,by3] at *;refine ⟨l,?_⟩;unfold encB Sp.enc bytesOf;rw[if_neg (by simp only; omega),if_neg (by simp only; omega),if_neg (by simp only; omega)];simp only[List.map_cons,List.map_nil,List.cons_append,List.nil_append];rw[zacq (a:=a) (by omega),zacq (a:=b) (by omega),zacq (a:=c) (by omega),zacq (a:=d) (by omega)]
  ·rw[if_neg k4] at hD;rw[hD] at hg;have hg':=Classical.byContradiction fun hh=>hg ⟨rfl,hh⟩
   omega
 ·rw[if_neg k3] at hD;rw[hD] at hg;have hg':=Classical.byContradiction fun hh=>hg ⟨rfl,hh⟩
  omega
def put:List Int→Spot→List Spot×Spot
 |[],s=>([],s)
 |r::rs,s=>(⟨r,s.at_,s.line,s.col⟩::(put rs (Sp.on ⟨r,s.at_,s.line,s.col⟩ r (Sp.long r))).1,(put rs (Sp.on ⟨r,s.at_,s.line,s.col⟩ r (Sp.long r))).2)
theorem on_at (s:Spot) (r n:Int):(Sp.on s r n).at_=s.at_+n:=by unfold Sp.on; split<;>rfl
theorem zalj : ∀ (rs : List Int) (s : Spot), (put rs s).1.map (·.rune) = rs
 |[],_=>rfl
 |r::rs,s=>by simp only[put,List.map_cons]; rw[zalj rs]
theorem zar8 (rs:List Int) (s:Spot):(put rs s).1.length=rs.length:=by
 have:=congrArg List.length (zalj rs s);simpa using this
theorem zaek (r:Int):1≤Sp.long r:=by unfold Sp.long; (repeat' split)<;>omega
theorem zaqf:∀ (rs:List Int) (s:Spot),(put rs s).2.at_=s.at_+(encs rs).length
 |[],s=>by simp[put,encs]
 |r::rs,s=>by
  simp only[put];rw[zaqf rs,on_at,zaa5,List.length_append,zaej];have:=zaek r;simp only;omega
theorem zash:∀ (rs:List Int) (s:Spot) (k:Nat) (x:Spot),(put rs s).1[k]? = some x→x.at_=s.at_+(encs (rs.take k)).length
 |[],s,k,x=>by simp[put]
 |r::rs,s,0,x=>by
  intro h;simp only[put,List.getElem?_cons_zero,Option.some.injEq] at h;subst h;simp[encs]
 |r::rs,s,k+1,x=>by
  intro h;simp only[put,List.getElem?_cons_succ] at h;rw[zash rs _ k x h,on_at,List.take_succ_cons,zaa5,List.length_append,zaej];have:=zaek r;simp only;omega
theorem zap2 (t:List UInt8):∀ (rs:List Int) (n:Nat) (acc:List Spot) (s:Spot) (rest:List UInt8),rs.all Sp.isRune=true→0≤s.at_→t.drop s.at_.toNat=encs rs++rest→(rest=[]∨Sp.badl rest=true) →
  t.length-s.at_.toNat≤n→Sp.spotsFrom t n acc s=(acc++(put rs s).1,(put rs s).2)
 |[],n,acc,s,rest=>by
  intro _ h0 hd hr hn;simp only[encs,List.flatMap_nil,List.nil_append] at hd;simp only[put,List.append_nil];cases n with
  |zero=>rfl
  |succ n=>
   simp only[Sp.spotsFrom];by_cases hc:s.at_<t.length
   ·rw[if_pos hc];have hne:t.drop s.at_.toNat≠[]:=by
     intro hh;have:=congrArg List.length hh;simp at this;omega
    rcases hr with rfl|hr
    ·exact absurd hd hne
    ·rw[if_pos];rw[Sp.bad_eq,hd];exact hr
   ·rw[if_neg hc]
 |r::rs,n,acc,s,rest=>by
  intro ha h0 hd hr hn;simp only[List.all_cons,Bool.and_eq_true] at ha;rw[zaa5,List.append_assoc] at hd;obtain ⟨h1,h2⟩:=zaul r (encs rs++rest) ha.1;have hlen:=congrArg List.length hd;have hl:=zaek r;have hel:=zaej r;simp only[List.length_drop,List.length_append] at hlen;have hc:s.at_<t.length:=by omega
  have hb:Sp.bad t s.at_.toNat=false:=by rw[Sp.bad_eq,hd]; exact h2
  have hr':0≤r:=by
   have:=ha.1;simp only[Sp.isRune,decide_eq_true_eq] at this;exact this.1
  have e1:Sp.at1 t s.at_=r:=by
   unfold Sp.at1;rw[hb,Sp.dc_eq,hd,h1];simp;omega
  have e2:Sp.at2 t s.at_=Sp.long r:=by
   unfold Sp.at2;rw[hb,Sp.dc_eq,hd,h1];simp;omega
  obtain ⟨n,rfl⟩:∃ m,n=m+1:=⟨n-1,by omega⟩;simp only[Sp.spotsFrom,if_pos hc,hb,Bool.false_eq_true,if_false];rw[e1,e2];have hat:=on_at ⟨r,s.at_,s.line,s.col⟩ r (Sp.long r);simp only at hat;rw[zap2 t rs n _ _ rest ha.2 (by rw[hat]; omega) ?_ hr (by rw[hat]; omega)]
  ·simp only[put,List.append_assoc,List.cons_append,List.nil_append]
  ·rw[hat,show (s.at_+Sp.long r).toNat=s.at_.toNat+(encB r).length by omega,← List.drop_drop,hd,List.drop_left]
def s0:Spot:=⟨0,0,1,1⟩
theorem zans (rs:List Int) (rest:List UInt8) (ha:rs.all Sp.isRune=true) (hr:rest=[]∨Sp.badl rest=true):Sp.spots1 (encs rs++rest)=(put rs s0).1∧Sp.spots2 (encs rs++rest)=Sp.ended (put rs s0).2:=by
 have:=zap2 (encs rs++rest) rs (encs rs++rest).length [] s0 rest ha (by simp[s0]) (by simp[s0]) hr (by omega);unfold Sp.spots1 Sp.spots2;unfold s0 at this ⊢;rw[this];simp
theorem zal8:∀ (n:Nat) (t:List UInt8),t.length≤n→∃ rs rest,t=encs rs++rest∧rs.all Sp.isRune=true∧(rest=[]∨Sp.badl rest=true)
 |0,t,h=>⟨[],[],by cases t<;>simp_all[encs],rfl,.inl rfl⟩
 |n+1,t,h=>by
  by_cases h0:t=[]
  ·exact ⟨[],[],by simp[h0,encs],rfl,.inl rfl⟩
  cases hb:Sp.badl t with
  |true=>exact ⟨[],t,by simp[encs],rfl,.inr hb⟩
  |false=>
   obtain ⟨h1,rest,h2⟩:=zavr t h0 hb;have hl:=zaej ((Sp.dl t).1:Int);have hp:=zaek ((Sp.dl t).1:Int);have hlen:rest.length≤n:=by
    have:=congrArg List.length h2;rw[List.length_append] at this;omega
   obtain ⟨rs,r2,h3,h4,h5⟩:=zal8 n rest hlen;refine ⟨((Sp.dl t).1:Int)::rs,r2,?_,?_,h5⟩
   ·rw[zaa5,List.append_assoc,← h3]; exact h2
   ·simp[h1,h4]
theorem zao7 (s:Spot):(Sp.ended s).at_=s.at_:=rfl
theorem zalp (rs:List Int) (ha:rs.all Sp.isRune=true) (hl:(encs rs).length≤4000):Sp.runes1 (encs rs)=(put rs s0).1∧Sp.runes2 (encs rs)=⟨0,0,[]⟩:=by
 obtain ⟨h1,h2⟩:=zans rs [] ha (.inl rfl);rw[List.append_nil] at h1 h2;have h3:=zaqf rs s0;unfold Sp.runes1 Sp.runes2;rw[h1,h2,zao7,h3];have h5:¬ (s0.at_+((encs rs).length:Int)<(encs rs).length):=by simp[s0]
 have h4:¬ 4000<(encs rs).length:=by omega
 simp only[if_neg h4,if_neg h5,and_self]
theorem zau2 (rs:List Int) (rest:List UInt8) (ha:rs.all Sp.isRune=true) (hne:rest≠[]) (hb:Sp.badl rest=true) (hl:(encs rs++rest).length≤4000):Sp.runes1 (encs rs++rest)=[]∧Sp.runes2 (encs rs++rest)=⟨11,(encs rs).length,[]⟩:=by
 obtain ⟨h1,h2⟩:=zans rs rest ha (.inr hb);have h3:=zaqf rs s0;have hpos:0<rest.length:=by cases rest with|nil=>exact absurd rfl hne|cons _ _=>simp
 unfold Sp.runes1 Sp.runes2;rw[h2,zao7,h3];have h5:(s0.at_+((encs rs).length:Int)<(encs rs++rest).length):=by simp[s0]; omega
 have h4:¬ 4000<(encs rs++rest).length:=by omega
 simp only[if_neg h4,if_pos h5];simp[s0]
theorem zakr (t:List UInt8):(Sp.runes1 t=[]∧Sp.runes2 t=⟨10,4000,[]⟩) ∨
  (t.length≤4000∧∃ rs rest,t=encs rs++rest∧rs.all Sp.isRune=true∧rest≠[]∧Sp.badl rest=true∧Sp.runes1 t=[]∧Sp.runes2 t=⟨11,(encs rs).length,[]⟩) ∨
  (t.length≤4000∧∃ rs,t=encs rs∧rs.all Sp.isRune=true∧Sp.runes1 t=(put rs s0).1∧Sp.runes2 t=⟨0,0,[]⟩):=by
 by_cases h:4000<t.length
 ·left;unfold Sp.runes1 Sp.runes2;rw[if_pos h,if_pos h];exact ⟨rfl,rfl⟩
 right;obtain ⟨rs,rest,h1,h2,h3⟩:=zal8 t.length t (Nat.le_refl _);by_cases h0:rest=[]
 ·right;subst h0;rw[List.append_nil] at h1;subst h1;obtain ⟨q1,q2⟩:=zalp rs h2 (by omega);exact ⟨by omega,rs,rfl,h2,q1,q2⟩
 ·left;have hb:Sp.badl rest=true:=by rcases h3 with h3|h3; exact absurd h3 h0; exact h3
  subst h1;obtain ⟨q1,q2⟩:=zau2 rs rest h2 h0 hb (by omega);exact ⟨by omega,rs,rest,rfl,h2,h0,hb,q1,q2⟩
end Lift.A1P
namespace Lift.A1P
open Go Go.RowKit Lift Go.IntWalk Lift.Fn
def goesR (r:Int):Bool:=Sp.letter r||Sp.digit r
theorem goes1 (r:Int) (h:0≤r∧r≤1114111):qaz r=some (goesR r):=by
 rw[qaz,zaaa];unfold qaz_f goesR;rw[i64_in r (by omega),zawz,zapu,Option.bind_some,Option.bind_some];cases Sp.letter r<;>rfl
theorem zagd {r:Int} (h:Sp.isRune r=true):0≤r∧r≤1114111:=by
 simp only[Sp.isRune,decide_eq_true_eq] at h;omega
theorem zam6 (t:List UInt8) (p:Nat) (r:Int) (l:List UInt8) (hd:t.drop p=encB r++l) (hr:Sp.isRune r=true):Utf8.decode ⟨t.toArray⟩ p=(r.toNat,(Sp.long r).toNat):=by
 have h1:=Sp.dc_eq t p;unfold Sp.dc at h1;rw[h1,hd];exact (zaul r l hr).1
theorem zaeu (ds rs:List Int):(encs (ds++rs)).drop (encs ds).length=encs rs:=by
 rw[zaak,List.drop_left]
theorem zagu (ds rs:List Int) (r:Int):(encs ds).length<(encs (ds++r::rs)).length:=by
 rw[zaak,zaa5,List.length_append,List.length_append,zaej];have:=zaek r;omega
theorem zalg (ds:List Int) (r:Int):(encs (ds++[r])).length=(encs ds).length+(Sp.long r).toNat:=by
 rw[zaak,zaa5,List.length_append,List.length_append,zaej];simp[encs]
theorem wordL:∀ (rs ds:List Int) (n:Nat),rs.all Sp.isRune=true→rs.length<n→(encs (ds++rs)).length≤9000000 →
  qaE_i2 n (encs (ds++rs)) (encs (ds++rs)) (encs ds).length=some (if rs.all goesR then .inr (encs (ds++rs)) else .inl (encs (ds++rs.takeWhile goesR)))
 |[],ds,n,_,hn,hl=>by
  obtain ⟨n,rfl⟩:∃ q,n=q+1:=⟨n-1,by simp at hn; omega⟩;simp only[List.append_nil,qaE_i2,qaE_t2];simp
 |r::rs,ds,n,ha,hn,hl=>by
  obtain ⟨n,rfl⟩:∃ q,n=q+1:=⟨n-1,by simp at hn; omega⟩;simp only[List.all_cons,Bool.and_eq_true] at ha;have hlt:=zagu ds rs r;have hd:Utf8.decode ⟨(encs (ds++r::rs)).toArray⟩ (encs ds).length=(r.toNat,(Sp.long r).toNat):=zam6 _ _ r (encs rs) (by rw[zaeu,zaa5]) ha.1;have hr:=zagd ha.1;simp only[qaE_i2,qaE_t2,hd,hlt,decide_true,cond_true];rw[show ((r.toNat:Nat):Int)=r by omega,goes1 r hr,Option.bind_some];cases hg:goesR r with
  |false=>
   have hb:(decide ((0:Int)≤0)&&(decide ((0:Int)≤((encs ds).length:Int))&&decide (((encs ds).length:Int)≤((encs (ds++r::rs)).length:Int))))=true:=by
    simp only[Bool.and_eq_true,decide_eq_true_eq]; omega
   simp only[Bool.not_false,cond_true,hb,List.all_cons,hg,Bool.false_and,Bool.false_eq_true,if_false,List.takeWhile_cons,List.append_nil,List.drop_zero,Int.toNat_natCast];rw[zaak,List.take_left]
  |true=>
   have ih:=wordL rs (ds++[r]) n ha.2 (by simp at hn; omega) (by simpa using hl);rw[List.append_assoc,List.singleton_append,zalg] at ih;simp only[Bool.not_true,cond_false,ih,List.all_cons,hg,Bool.true_and,List.takeWhile_cons,if_true,List.append_assoc,List.singleton_append]
theorem zaqr {p:Int→Bool} {l:List Int} (h:l.all p=true):l.takeWhile p=l:=by
 induction l with
 |nil=>rfl
 |cons a l ih=>
  simp only[List.all_cons,Bool.and_eq_true] at h;rw[List.takeWhile_cons,if_pos h.1,ih h.2]
theorem zab1 (rs:List Int):rs.length≤(encs rs).length:=by
 induction rs with
 |nil=>simp
 |cons r l ih=>
  rw[zaa5,List.length_append,zaej,List.length_cons];have:=zaek r;omega
theorem word1 (rs:List Int) (ha:rs.all Sp.isRune=true) (hl:(encs rs).length≤9000000):qaE (encs rs)=some (encs (rs.takeWhile goesR)):=by
 rw[qaE,zaaa];unfold qaE_f;have:=wordL rs [] fuel ha (by have:=zab1 rs; unfold fuel; omega) (by simpa using hl);simp only[List.nil_append] at this;rw[qaE_l2,zaaa,show (0:Nat)=(encs []).length from rfl,this];cases hg:rs.all goesR with
 |true=>simp only[if_true,Option.bind_some,zaqr hg]
 |false=>simp
def skip:Bool→List Int→List Int
 |_,[]=>[]
 |true,r::rs=>skip (r != 10) rs
 |false,r::rs=>if r=35 then skip true rs else if Sp.blank r then skip false rs else r::rs
theorem zasg:∀ (rs ds:List Int) (c:Bool) (n:Nat),rs.all Sp.isRune=true→rs.length<n →
  qaB_i3 n (encs (ds++rs)) c (encs (ds++rs)) (encs ds).length=some (if skip c rs=[] then .inr (encs (ds++rs)) else .inl (((encs (ds++rs)).length:Int)-(encs (skip c rs)).length))
 |[],ds,c,n,_,hn=>by
  obtain ⟨n,rfl⟩:∃ q,n=q+1:=⟨n-1,by simp at hn; omega⟩;simp only[List.append_nil,qaB_i3,qaB_t3];cases c<;>simp[skip]
 |r::rs,ds,c,n,ha,hn=>by
  obtain ⟨n,rfl⟩:∃ q,n=q+1:=⟨n-1,by simp at hn; omega⟩;simp only[List.all_cons,Bool.and_eq_true] at ha;have hlt:=zagu ds rs r;have hd:Utf8.decode ⟨(encs (ds++r::rs)).toArray⟩ (encs ds).length=(r.toNat,(Sp.long r).toNat):=zam6 _ _ r (encs rs) (by rw[zaeu,zaa5]) ha.1;have hr:=zagd ha.1;have ih:=fun c=>zasg rs (ds++[r]) c n ha.2 (by simp at hn; omega)
  simp only[List.append_assoc,List.singleton_append,zalg] at ih;simp only[qaB_i3,qaB_t3,hd,hlt,decide_true,cond_true];rw[show ((r.toNat:Nat):Int)=r by omega];cases c with
  |true=>
   rw[cond_true,ih];rfl
  |false=>
   rw[cond_false];by_cases h35:r=35
   ·have:(r==35)=true:=by simp[h35]
    rw[this,cond_true,ih];simp only[skip,h35,if_true]
   ·have:(r==35)=false:=by simp[h35]
    rw[this,cond_false,i64_in r (by omega),zaui,Option.bind_some];cases hb:Sp.blank r with
    |true=>
     simp only[Bool.not_true,cond_false,ih,skip,h35,if_false,hb,if_true]
    |false=>
     have hne:skip false (r::rs)=r::rs:=by simp[skip,h35,hb]
     rw[hne];simp only[Bool.not_false,cond_true,if_neg (List.cons_ne_nil r rs)];congr 2;rw[zaak,List.length_append];omega
theorem zar9 (rs:List Int) (ha:rs.all Sp.isRune=true) (hl:(encs rs).length≤9000000):qaB (encs rs)=some (((encs rs).length:Int)-(encs (skip false rs)).length):=by
 rw[qaB,zaaa];unfold qaB_f;have:=zasg rs [] false fuel ha (by have:=zab1 rs; unfold fuel; omega);simp only[List.nil_append] at this;rw[qaB_l3,zaaa,show (0:Nat)=(encs []).length from rfl,this];by_cases hs:skip false rs=[]
 ·rw[if_pos hs,hs]; simp[encs]
 ·rw[if_neg hs]; simp
theorem zax3 (l:List (List UInt8)) (x:List UInt8) (hl:l.length≤4000):∀ (k n:Nat) (i:Int),0≤i→l.length-i.toNat≤k→k<n →
  ∃ r,qby_i2 n l x l.length i=some r∧((l.drop i.toNat).contains x=match r with|.inl j=>decide (0≤j)|.inr _=>false):=by
 intro k;have fin:∀ (n:Nat) (i:Int),0≤i→¬ i<l.length→∃ r,qby_i2 (n+1) l x l.length i=some r∧((l.drop i.toNat).contains x=match r with|.inl j=>decide (0≤j)|.inr _=>false):=by
  intro n i h0 c;refine ⟨.inr (),?_,?_⟩
  ·simp only[qby_i2,qby_t2,c,decide_false,cond_false]
  ·rw[List.drop_eq_nil_of_le (by omega)]; rfl
 induction k with
 |zero=>
  intro n i h0 hk hn;obtain ⟨n,rfl⟩:∃ q,n=q+1:=⟨n-1,by omega⟩;exact fin n i h0 (by omega)
 |succ k ih=>
  intro n i h0 hk hn;obtain ⟨n,rfl⟩:∃ q,n=q+1:=⟨n-1,by omega⟩;by_cases c:i<l.length
  ·have ha:i.toNat<l.length:=by omega
   rw[List.drop_eq_getElem_cons ha];simp only[qby_i2,qby_t2,c,h0,decide_true,cond_true,List.getElem?_eq_getElem ha,Option.bind_some,List.contains_cons];cases hx:(x==l[i.toNat]) with
   |true=>exact ⟨.inl i,rfl,by simp[h0]⟩
   |false=>
    rw[i64_in (i+1) (by omega)];obtain ⟨r,h1,h2⟩:=ih n (i+1) (by omega) (by omega) (by omega);refine ⟨r,h1,?_⟩;rw[show (i+1).toNat=i.toNat+1 by omega] at h2;rw[Bool.false_or,h2]
  ·exact fin n i h0 c
theorem zaoc (l:List (List UInt8)) (x:List UInt8) (hl:l.length≤4000):qbx l x=some (l.contains x):=by
 obtain ⟨r,h1,h2⟩:=zax3 l x hl l.length fuel 0 (by omega) (by omega) (by unfold fuel; omega);simp only[Int.toNat_zero,List.drop_zero] at h2;rw[qbx,zaaa];unfold qbx_f;rw[qby,zaaa];unfold qby_f;rw[qby_l2,zaaa,h1,h2];cases r with
 |inl j=>simp
 |inr u=>simp
def ones:List UInt8:=[61,60,62,33,43,45,42,47,37,59,123,125,40,41]
def twos:List (List UInt8):=[[58,61],[60,45],[61,61],[33,61],[60,61],[62,61],[38,38],[124,124]]
def sgn (t:List UInt8):List UInt8:=if 1<t.length∧twos.contains (t.take 2)=true then t.take 2 else if ones.contains (t.headD 0)=true then t.take 1 else []
theorem zavq:∀ i:Fin 256,Lib.contains ones [UInt8.ofNat i.val]=ones.contains (UInt8.ofNat i.val):=by decide +kernel
theorem zav4 (b:UInt8):Lib.contains ones [b]=ones.contains b:=by
 have:=zavq ⟨b.toNat,b.toNat_lt⟩;simpa using this
theorem sign1 (b:UInt8) (t:List UInt8) (hl:(b::t).length≤9000000):qaC (b::t)=some (sgn (b::t)):=by
 rw[qaC,zaaa];unfold qaC_f;have ht:List.take 1 (b::t)=[b]:=rfl;have hc:strings_Contains ones [b]=some (ones.contains b):=by
  rw[strings_Contains,zaaa];unfold zadv;rw[decide_eq_true (by decide),cond_true,zav4]
 have hc':strings_Contains [61,60,62,33,43,45,42,47,37,59,123,125,40,41] [b]=some (ones.contains b):=hc;have b1:(decide ((0:Int)≤0)&&(decide ((0:Int)≤1)&&decide ((1:Int)≤((b::t).length:Int))))=true:=by
  simp only[Bool.and_eq_true,decide_eq_true_eq,List.length_cons]; omega
 simp only[List.drop_zero,ht,b1,cond_true,hc',Option.bind_some];unfold sgn;by_cases h1:1<(b::t).length
 ·have h1':decide (((b::t).length:Int)>1)=true:=decide_eq_true (by omega);have b2:(decide ((0:Int)≤0)&&(decide ((0:Int)≤2)&&decide ((2:Int)≤((b::t).length:Int))))=true:=by
   simp only[Bool.and_eq_true,decide_eq_true_eq]; omega
  have hc2:=zaoc twos ((b::t).take 2) (by decide);have hc2':qbx [[58,61],[60,45],[61,61],[33,61],[60,61],[62,61],[38,38],[124,124]] ((b::t).take 2)=some (twos.contains ((b::t).take 2)):=hc2;rw[h1',cond_true,b2,cond_true,hc2',Option.bind_some];cases h2:twos.contains ((b::t).take 2) with
  |true=>rw[if_pos ⟨h1,rfl⟩]; rfl
  |false=>
   rw[if_neg (fun hh=>by cases hh.2)];cases h3:ones.contains b with
   |true=>simp only[List.headD_cons,h3,if_true]; rfl
   |false=>simp only[List.headD_cons,h3,Bool.false_eq_true,if_false]; rfl
 ·have h1':decide (((b::t).length:Int)>1)=false:=decide_eq_false (by omega);rw[h1',cond_false,if_neg (fun hh=>h1 hh.1)];cases h3:ones.contains b with
  |true=>simp only[List.headD_cons,h3,if_true]; rfl
  |false=>simp only[List.headD_cons,h3,Bool.false_eq_true,if_false]; rfl
end Lift.A1P
namespace Lift.A1P
open Go Go.RowKit Lift Go.IntWalk Lift.Fn
def tens:List UInt8:=[48,49,50,51,52,53,54,55,56,57]
def numS (t:List UInt8):Int×Bool:=
 if 1<t.length∧(t.headD 0).toNat=48 then (0,false) else if Lib.trimS t tens≠[] then (0,false) else if (zaa2 t).2=true then ((zaa2 t).1,false) else ((zaa2 t).1,decide ((zaa2 t).1≤2147483647))
theorem zawr (t:List UInt8) (hl:t.length≤9000000):qaA t=some (numS t):=by
 rw[qaA,zaaa];unfold qaA_f numS;have hT:zac1 t [48,49,50,51,52,53,54,55,56,57]=some (Lib.trimS t tens):=by
  rw[zac1,zaaa];unfold zafd;rw[decide_eq_true (show _∧_ by constructor; omega; decide)];rfl
 have hA:zacz t=some (zaa2 t):=by
  rw[zacz,zaaa];unfold zafi;rw[decide_eq_true (by omega)];rfl
 have rest:(bif !Lib.trimS t tens==[] then some ((0:Int),false) else bif !(zaa2 t).2 then some ((zaa2 t).1,decide ((zaa2 t).1≤2147483647)) else some ((zaa2 t).1,false)) =
   some (if Lib.trimS t tens≠[] then (0,false) else if (zaa2 t).2=true then ((zaa2 t).1,false) else ((zaa2 t).1,decide ((zaa2 t).1≤2147483647))):=by
  by_cases h:Lib.trimS t tens=[]
  ·rw[if_neg (fun hh=>hh h),h];cases (zaa2 t).2<;>rfl
  ·rw[if_pos h];have:(Lib.trimS t tens==[])=false:=by simpa using h
   rw[this]; rfl
 rw[hT,hA];by_cases h1:1<t.length
 ·rw[decide_eq_true (show (t.length:Int)>1 by omega),cond_true];match t,h1 with
  |b::t,h1=>
   simp only[List.getElem?_cons_zero,Option.bind_some];by_cases h2:b.toNat=48
   ·have:(((b.toNat:Nat):Int)==48)=true:=by rw[beq_iff_eq]; omega
    rw[this,cond_true,if_pos (show 1<(b::t).length∧((b::t).headD 0).toNat=48 from ⟨h1,h2⟩)]
   ·have:(((b.toNat:Nat):Int)==48)=false:=by rw[beq_eq_false_iff_ne]; omega
    rw[this,cond_false,if_neg (show ¬ (1<(b::t).length∧((b::t).headD 0).toNat=48) from fun hh=>h2 hh.2)];exact rest
 ·rw[decide_eq_false (show ¬ (t.length:Int)>1 by omega),cond_false,if_neg (show ¬ (1<t.length∧(t.headD 0).toNat=48) from fun hh=>h1 hh.1)];simp only[Option.bind_some];exact rest
theorem zayc:qay=qay_f:=by rw[qay,zaaa]
noncomputable def words:List (List UInt8):=qay_f.getD []
theorem zav8:qay=some words:=by rw[zayc]; rfl
theorem zauz:∀ (rs ds:List Int) (n:Nat),rs.all Sp.isRune=true→rs.length≤n→Lib.runeCountFrom ⟨(encs (ds++rs)).toArray⟩ n (encs ds).length=rs.length
 |[],ds,n,_,_=>by
  cases n with
  |zero=>rfl
  |succ n=>simp[Lib.runeCountFrom,ByteArray.size]
 |r::rs,ds,n,ha,hn=>by
  obtain ⟨n,rfl⟩:∃ q,n=q+1:=⟨n-1,by simp at hn; omega⟩;simp only[List.all_cons,Bool.and_eq_true] at ha;have hlt:=zagu ds rs r;have hd:Utf8.decode ⟨(encs (ds++r::rs)).toArray⟩ (encs ds).length=(r.toNat,(Sp.long r).toNat):=zam6 _ _ r (encs rs) (by rw[zaeu,zaa5]) ha.1;have ih:=zauz rs (ds++[r]) n ha.2 (by simp at hn; omega);simp only[List.append_assoc,List.singleton_append,zalg] at ih;simp only[Lib.runeCountFrom,hd];rw[if_pos (by simpa [ByteArray.size] using hlt),ih,List.length_cons];omega
theorem zaxu (rs:List Int) (ha:rs.all Sp.isRune=true) (hl:(encs rs).length≤9000000):zaa3 (encs rs)=some (rs.length:Int):=by
 rw[zaa3,zaaa];unfold zabs Lib.runeCount;rw[decide_eq_true (by omega),cond_true];have:=zauz rs [] (encs rs).length ha (zab1 rs);simp only[List.nil_append] at this;have hs:(⟨(encs rs).toArray⟩:ByteArray).size=(encs rs).length:=by simp[ByteArray.size]
 rw[hs,show (0:Nat)=(encs []).length from rfl,this]
theorem zawy (r:Int) (rs:List Int) (hr:Sp.isRune r=true):zaa1 (encs (r::rs))=some (r,Sp.long r):=by
 rw[zaa1,zaaa];unfold zabo Lib.decodeGo;have hp:=zaek r;have hs:¬ (⟨(encs (r::rs)).toArray⟩:ByteArray).size=0:=by
  have:=zagu [] rs r;simp only[List.nil_append] at this;simp[ByteArray.size];intro hh;rw[hh] at this;simp at this
 have hd:Utf8.decode ⟨(encs (r::rs)).toArray⟩ 0=(r.toNat,(Sp.long r).toNat):=zam6 _ 0 r (encs rs) (by rw[List.drop_zero,zaa5]) hr;have h0:=zagd hr;rw[if_neg hs,hd];simp only;rw[show ((r.toNat:Nat):Int)=r by omega,show (((Sp.long r).toNat:Nat):Int)=Sp.long r by omega]
noncomputable def tokR (rs:List Int):Token×Int:=
  bif goesR (rs.headD 0) then
    (bif Sp.digit (rs.headD 0) then (bif (numS (encs (rs.takeWhile goesR))).2 then (⟨2,encs (rs.takeWhile goesR),(numS (encs (rs.takeWhile goesR))).1,0⟩,0) else (⟨1,encs (rs.takeWhile goesR),0,0⟩,22))
     else bif words.contains (encs (rs.takeWhile goesR)) then (⟨4,encs (rs.takeWhile goesR),0,0⟩,0)
     else bif decide (16<(rs.takeWhile goesR).length) then (⟨1,encs (rs.takeWhile goesR),0,0⟩,21) else (⟨1,encs (rs.takeWhile goesR),0,0⟩,0))
  else bif sgn (encs rs)==[] then (⟨0,[],0,0⟩,20) else (⟨3,sgn (encs rs),0,0⟩,0)
theorem zai6 {p:Int→Bool} {rs:List Int} (ha:rs.all Sp.isRune=true):(rs.takeWhile p).all Sp.isRune=true:=by
 rw[List.all_eq_true] at ha ⊢;intro r hr;exact ha r ((List.takeWhile_sublist _).subset hr)
theorem zaov (p:Int→Bool) (rs:List Int):(encs (rs.takeWhile p)).length≤(encs rs).length:=by
 have:encs rs=encs (rs.takeWhile p)++encs (rs.dropWhile p):=by rw[← zaak,List.takeWhile_append_dropWhile]
 rw[this,List.length_append];omega
theorem zaxw (rs:List Int) (hne:rs≠[]) (ha:rs.all Sp.isRune=true) (hl:(encs rs).length≤9000000):qaD (encs rs)=some (tokR rs):=by
 match rs,hne with
 |r::rs,_=>
  have ha':=ha;simp only[List.all_cons,Bool.and_eq_true] at ha';have hr:=zagd ha'.1;have hw:=word1 (r::rs) ha hl;have hwl:=zaov goesR (r::rs);rw[qaD,zaaa];unfold qaD_f tokR;rw[zawy r rs ha'.1,Option.bind_some];simp only;rw[goes1 r hr,Option.bind_some];simp only[List.headD_cons];cases hg:goesR r with
  |false=>
   obtain ⟨b,t,hbt⟩:∃ b t,encs (r::rs)=b::t:=by
    cases he:encs (r::rs) with
    |nil=>
     have:=zagu [] rs r;simp only[List.nil_append,he] at this;simp[encs] at this
    |cons b t=>exact ⟨b,t,rfl⟩
   have hs:=sign1 b t (by rw[← hbt]; exact hl);rw[← hbt] at hs;simp only[Bool.not_false,cond_true,cond_false,hs,Option.bind_some];cases (sgn (encs (r::rs))==[])<;>rfl
  |true=>
   simp only[Bool.not_true,cond_false,cond_true,hw,Option.bind_some];rw[i64_in r (by omega),zapu,Option.bind_some];cases hd:Sp.digit r with
   |true=>
    rw[cond_true,cond_true,zawr _ (by omega),Option.bind_some];cases (numS (encs ((r::rs).takeWhile goesR))).2<;>rfl
   |false=>
    rw[cond_false,cond_false,zav8,Option.bind_some,zaoc _ _ (by decide),Option.bind_some];cases words.contains (encs ((r::rs).takeWhile goesR)) with
    |true=>rfl
    |false=>
     rw[cond_false,cond_false,zaxu _ (zai6 ha) (by omega),Option.bind_some];have:decide ((((r::rs).takeWhile goesR).length:Int)>16)=decide (16<((r::rs).takeWhile goesR).length):=by
      rw[Bool.eq_iff_iff,decide_eq_true_eq,decide_eq_true_eq]; omega
     rw[this];cases decide (16<((r::rs).takeWhile goesR).length)<;>rfl
noncomputable def restR (rs:List Int):List Int:=bif goesR (rs.headD 0) then rs.dropWhile goesR else rs.drop (sgn (encs rs)).length
theorem zagj {r:Int} {rs:List Int} {b:UInt8} {t:List UInt8} (hr:Sp.isRune r=true) (h:encs (r::rs)=b::t) (hb:b.toNat<128):encB r=[b]∧t=encs rs:=by
 rw[zaa5] at h;simp only[Sp.isRune,decide_eq_true_eq] at hr;by_cases a1:r<128
 ·have e:encB r=[UInt8.ofNat r.toNat]:=by simp[encB,bytesOf,Sp.enc,a1]
  rw[e] at h ⊢;simp only[List.singleton_append,List.cons.injEq] at h;exact ⟨by rw[h.1],h.2.symm⟩
 ·exfalso;have hh:∀ x l,encB r=UInt8.ofNat x::l→128≤x→x<256→False:=by
   intro x l he h1 h2;rw[he,List.cons_append,List.cons.injEq] at h;have:=congrArg UInt8.toNat h.1;rw[zabr _ h2] at this;omega
  unfold encB Sp.enc bytesOf at hh;rw[if_neg a1] at hh;by_cases a2:r<2048
  ·rw[if_pos a2] at hh;exact hh _ _ rfl (by omega) (by omega)
  ·rw[if_neg a2] at hh;by_cases a3:r<65536
   ·rw[if_pos a3] at hh;exact hh _ _ rfl (by omega) (by omega)
   ·rw[if_neg a3] at hh;exact hh _ _ rfl (by omega) (by omega)
end Lift.A1P
namespace Lift.A1P
open Go Go.RowKit Lift Go.IntWalk Lift.Fn
theorem zaa4:∀ (l:List Int) (c:Bool),∃ ds,l=ds++skip c l
 |[],c=>⟨[],by cases c<;>rfl⟩
 |r::l,true=>by
  obtain ⟨ds,h⟩:=zaa4 l (r != 10);exact ⟨r::ds,by simp only[skip,List.cons_append]; rw[← h]⟩
 |r::l,false=>by
  simp only[skip];split
  ·obtain ⟨ds,h⟩:=zaa4 l true;exact ⟨r::ds,by rw[List.cons_append,← h]⟩
  ·split
   ·obtain ⟨ds,h⟩:=zaa4 l false;exact ⟨r::ds,by rw[List.cons_append,← h]⟩
   ·exact ⟨[],rfl⟩
theorem zanh:∀ x∈twos,x.length=2∧x.all (fun b=>decide (b.toNat<128))=true:=by decide
theorem zaw9:∀ b∈ones,b.toNat<128:=by decide
theorem zatm (r:Int) (rs:List Int):∃ b t,encs (r::rs)=b::t:=by
 cases he:encs (r::rs) with
 |nil=>
  have:=zagu [] rs r;simp only[List.nil_append,he] at this;simp[encs] at this
 |cons b t=>exact ⟨b,t,rfl⟩
theorem zajy (r:Int) (rs:List Int) (ha:(r::rs).all Sp.isRune=true) (h:sgn (encs (r::rs))≠[]):encs ((r::rs).take (sgn (encs (r::rs))).length)=sgn (encs (r::rs))∧0<(sgn (encs (r::rs))).length:=by
 refine ⟨?_,List.length_pos_iff.2 h⟩;simp only[List.all_cons,Bool.and_eq_true] at ha;obtain ⟨b,t,hbt⟩:=zatm r rs;rw[hbt] at h ⊢;unfold sgn at h ⊢;by_cases h1:1<(b::t).length∧twos.contains ((b::t).take 2)=true
 ·rw[if_pos h1];have hm:(b::t).take 2∈twos:=by simpa using h1.2
  obtain ⟨hl,hall⟩:=zanh _ hm;match t,hl with
  |c::t,_=>
   simp only[List.take_succ_cons,List.take_zero,List.all_cons,List.all_nil,Bool.and_true,Bool.and_eq_true,decide_eq_true_eq] at hall;obtain ⟨e1,e2⟩:=zagj ha.1 hbt hall.1;match rs,ha.2,e2 with
   |[],_,e2=>simp[encs] at e2
   |r2::rs,ha2,e2=>
    simp only[List.all_cons,Bool.and_eq_true] at ha2;obtain ⟨e3,_⟩:=zagj ha2.1 e2.symm hall.2;show encs [r,r2]=[b,c];rw[zaa5,zaa5,e1,e3];rfl
 ·rw[if_neg h1] at h ⊢;by_cases h2:ones.contains ((b::t).headD 0)=true
  ·rw[if_pos h2];have hb:b∈ones:=by simpa using h2
   obtain ⟨e1,_⟩:=zagj ha.1 hbt (zaw9 b hb);show encs [r]=[b];rw[zaa5,e1];rfl
  ·rw[if_neg h2] at h;exact absurd rfl h
theorem zamw (r:Int) (rs:List Int) (ha:(r::rs).all Sp.isRune=true) (h0:(tokR (r::rs)).2=0):∃ ds,ds≠[]∧r::rs=ds++restR (r::rs)∧encs ds=(tokR (r::rs)).1.text:=by
 unfold tokR at h0 ⊢;unfold restR;simp only[List.headD_cons] at h0 ⊢;cases hg:goesR r with
 |true=>
  refine ⟨(r::rs).takeWhile goesR,by simp[hg],(List.takeWhile_append_dropWhile).symm,?_⟩;simp only[cond_true];cases Sp.digit r with
  |true=>
   cases (numS (encs ((r::rs).takeWhile goesR))).2<;>rfl
  |false=>
   cases words.contains (encs ((r::rs).takeWhile goesR)) with
   |true=>rfl
   |false=>cases decide (16<((r::rs).takeWhile goesR).length)<;>rfl
 |false=>
  rw[hg] at h0;simp only[cond_false] at h0 ⊢;cases hs:(sgn (encs (r::rs))==[]) with
  |true=>rw[hs] at h0; simp at h0
  |false=>
   have hne:sgn (encs (r::rs))≠[]:=by simpa using hs
   obtain ⟨h1,h2⟩:=zajy r rs ha hne;refine ⟨(r::rs).take (sgn (encs (r::rs))).length,?_,(List.take_append_drop _ _).symm,h1⟩;intro hh;have:=congrArg List.length hh;simp only[List.length_take,List.length_nil,List.length_cons] at this;omega
noncomputable def toks:Nat→Int→List Int→(Int×Int)⊕List Token
 |0,_,_=>.inr []
 |_+1,_,[]=>.inr []
 | n + 1, p, r :: rs => bif (tokR (r :: rs)).2 != 0 then .inl ((tokR (r :: rs)).2, p) else
   match toks n (p+(encs (r::rs)).length-(encs (skip false (restR (r::rs)))).length) (skip false (restR (r::rs))) with
   |.inl e=>.inl e
   |.inr l=>.inr (⟨(tokR (r::rs)).1.kind,(tokR (r::rs)).1.text,(tokR (r::rs)).1.num,p⟩::l)
theorem zabb {ds rs:List Int} (h:(ds++rs).all Sp.isRune=true):rs.all Sp.isRune=true:=by
 rw[List.all_append,Bool.and_eq_true] at h;exact h.2
theorem zawt (a2 a3:Int) (a4:List UInt8):∀ (k n:Nat) (rs ds:List Int) (out:List Token),rs.length≤k→k<n→(ds++rs).all Sp.isRune=true→(encs (ds++rs)).length≤4000→out.length≤(encs ds).length →
  qax_i6 n (encs (ds++rs)) ((encs ds).length:Int) a2 a3 a4 out=some (match toks k ((encs ds).length:Int) rs with|.inl e=>.inl (e.1,e.2,[])|.inr l=>.inr (encs (ds++rs),a2,a3,a4,out++l)):=by
 intro k;have fin:∀ (n k:Nat) (ds:List Int) (out:List Token),qax_i6 (n+1) (encs (ds++[])) ((encs ds).length:Int) a2 a3 a4 out=some (match toks k ((encs ds).length:Int) [] with|.inl e=>.inl (e.1,e.2,[])|.inr l=>.inr (encs (ds++[]),a2,a3,a4,out++l)):=by
  intro n k ds out;have:toks k ((encs ds).length:Int) []=.inr []:=by cases k<;>rfl
  rw[this];simp only[List.append_nil,qax_i6,qax_t6];have:decide (((encs ds).length:Int)<((encs ds).length:Int))=false:=decide_eq_false (by omega);rw[this,cond_false]
 induction k with
 |zero=>
  intro n rs ds out hk hn ha hl ho;obtain ⟨n,rfl⟩:∃ q,n=q+1:=⟨n-1,by omega⟩;match rs,hk with
  |[],_=>exact fin n 0 ds out
 |succ k ih=>
  intro n rs ds out hk hn ha hl ho;obtain ⟨n,rfl⟩:∃ q,n=q+1:=⟨n-1,by omega⟩;match rs,hk,ha,hl with
  |[],_,_,_=>exact fin n (k+1) ds out
  |r::rs,hk,ha,hl=>
   have har:=zabb ha;have hlt:=zagu ds rs r;have hlen:(encs (ds++r::rs)).length=(encs ds).length+(encs (r::rs)).length:=by rw[zaak,List.length_append]
   simp only[qax_i6,qax_t6];have b0:decide (((encs ds).length:Int)<((encs (ds++r::rs)).length:Int))=true:=decide_eq_true (by omega);have b1:(decide ((0:Int)≤((encs ds).length:Int))&&(decide (((encs ds).length:Int)≤((encs (ds++r::rs)).length:Int))&&decide (((encs (ds++r::rs)).length:Int)≤((encs (ds++r::rs)).length:Int))))=true:=by
    simp only[Bool.and_eq_true,decide_eq_true_eq]; omega
   have hd:List.drop (Int.toNat ((encs ds).length:Int)) (List.take (Int.toNat ((encs (ds++r::rs)).length:Int)) (encs (ds++r::rs)))=encs (r::rs):=by
    rw[Int.toNat_natCast,Int.toNat_natCast,List.take_length,zaeu]
   rw[b0,cond_true,b1,cond_true,hd,zaxw _ (List.cons_ne_nil _ _) har (by omega),Option.bind_some];simp only[toks];cases hc:((tokR (r::rs)).2 != 0) with
   |true=>rfl
   |false=>
    have h0:(tokR (r::rs)).2=0:=by simpa using hc
    obtain ⟨es,hes,hsp,htx⟩:=zamw r rs har h0;obtain ⟨fs,hfs⟩:=zaa4 (restR (r::rs)) false;have hall:((ds++es)++restR (r::rs)).all Sp.isRune=true:=by rw[List.append_assoc,← hsp]; exact ha
    have hres:=zabb hall;have l1:(encs (r::rs)).length=(encs es).length+(encs (restR (r::rs))).length:=by
     conv=>lhs; rw[hsp]
     rw[zaak,List.length_append]
    have l2:(encs (restR (r::rs))).length=(encs fs).length+(encs (skip false (restR (r::rs)))).length:=by
     conv=>lhs; rw[hfs]
     rw[zaak,List.length_append]
    have hes1:1≤(encs es).length:=by
     have:=zab1 es;have:0<es.length:=List.length_pos_iff.2 hes;omega
    rw[← htx];simp only[cond_false];rw[decide_eq_true (show _∧_ by simp only[List.length_cons,List.length_nil]; omega),cond_true,i64_in (((encs ds).length:Int)+(encs es).length) (by omega)];have b2:(decide ((0:Int)≤((encs ds).length:Int)+(encs es).length)&&(decide (((encs ds).length:Int)+(encs es).length≤((encs (ds++r::rs)).length:Int))&&decide (((encs (ds++r::rs)).length:Int)≤((encs (ds++r::rs)).length:Int))))=true:=by
     simp only[Bool.and_eq_true,decide_eq_true_eq]; omega
    have hd2:List.drop (Int.toNat (((encs ds).length:Int)+(encs es).length)) (List.take (Int.toNat ((encs (ds++r::rs)).length:Int)) (encs (ds++r::rs)))=encs (restR (r::rs)):=by
     have e:ds++r::rs=(ds++es)++restR (r::rs):=by rw[List.append_assoc,← hsp]
     have e2:(((encs ds).length:Int)+(encs es).length).toNat=(encs (ds++es)).length:=by rw[zaak,List.length_append]; omega
     rw[Int.toNat_natCast,List.take_length,e2,e,zaeu]
    rw[b2,cond_true,hd2,zar9 _ hres (by omega),Option.bind_some];have hat:IntKind.wrap IntKind.i64 (((encs ds).length:Int)+(encs es).length+(((encs (restR (r::rs))).length:Int)-(encs (skip false (restR (r::rs)))).length))=((encs (ds++es++fs)).length:Int):=by
     rw[i64_in _ (by omega),zaak,zaak,List.length_append,List.length_append];omega
    have hp:((encs ds).length:Int)+(encs (r::rs)).length-(encs (skip false (restR (r::rs)))).length=((encs (ds++es++fs)).length:Int):=by
     rw[zaak,zaak,List.length_append,List.length_append];omega
    have hT:ds++r::rs=(ds++es++fs)++skip false (restR (r::rs)):=by
     rw[List.append_assoc,← hfs,List.append_assoc,← hsp]
    have hk':(skip false (restR (r::rs))).length≤k:=by
     have q1:=congrArg List.length hsp;have q2:=congrArg List.length hfs;have q3:0<es.length:=List.length_pos_iff.2 hes;simp only[List.length_append,List.length_cons] at q1 q2 hk;omega
    rw[hat,hp]
    have:=ih n (skip false (restR (r::rs))) (ds++es++fs) (out++[⟨(tokR (r::rs)).1.kind,encs es,(tokR (r::rs)).1.num,((encs ds).length:Int)⟩]) hk' (by omega) (by rw[← hT]; exact ha) (by rw[← hT]; exact hl) (by
     rw[zaak,zaak];simp only[List.length_append,List.length_cons,List.length_nil];omega)
    rw[← hT] at this;rw[this];cases toks k ((encs (ds++es++fs)).length:Int) (skip false (restR (r::rs))) with
    |inl e=>rfl
    |inr l=>simp only[List.append_assoc,List.singleton_append]
theorem zai0:∀ (k:Nat) (p:Int) (rs:List Int),rs.all Sp.isRune=true→∀ l,toks k p rs=.inr l→l.length≤rs.length
 |0,p,rs,_,l,h=>by simp only[toks,Sum.inr.injEq] at h; subst h; simp
 |k+1,p,[],_,l,h=>by simp only[toks,Sum.inr.injEq] at h; subst h; simp
 |k+1,p,r::rs,ha,l,h=>by
  simp only[toks] at h;cases hc:((tokR (r::rs)).2 != 0) with
  |true=>rw[hc] at h; simp at h
  |false=>
   rw[hc] at h;have h0:(tokR (r::rs)).2=0:=by simpa using hc
   obtain ⟨es,hes,hsp,_⟩:=zamw r rs ha h0;obtain ⟨fs,hfs⟩:=zaa4 (restR (r::rs)) false;have q1:=congrArg List.length hsp;have q2:=congrArg List.length hfs;have q3:0<es.length:=List.length_pos_iff.2 hes;simp only[List.length_append,List.length_cons] at q1 q2;simp only[cond_false] at h;have hs:(skip false (restR (r::rs))).all Sp.isRune=true:=zabb (ds:=es++fs) (by rw[List.append_assoc,← hfs,← hsp]; exact ha);split at h
   ·cases h
   ·rename_i l' hl';simp only[Sum.inr.injEq] at h;subst h;have:=zai0 k _ _ hs l' hl';simp only[List.length_cons];omega
theorem zank (rs:List Int) (ha:rs.all Sp.isRune=true) (hl:(encs rs).length≤4000):qax (encs rs)=some (match toks rs.length (((encs rs).length:Int)-(encs (skip false rs)).length) (skip false rs) with
  |.inl e=>(⟨e.1,e.2,[]⟩,[])
  |.inr l=>(⟨0,0,[]⟩,l++[⟨5,[],0,((encs rs).length:Int)⟩])):=by
 obtain ⟨fs,hfs⟩:=zaa4 rs false;obtain ⟨q1,q2⟩:=zalp rs ha hl;have hsk:((encs rs).length:Int)-(encs (skip false rs)).length=((encs fs).length:Int):=by
  have:(encs rs).length=(encs fs).length+(encs (skip false rs)).length:=by
   conv=>lhs; rw[hfs]
   rw[zaak,List.length_append]
  omega
 have hL:=zawt 0 0 [] rs.length fuel (skip false rs) fs [] (by have:=congrArg List.length hfs; rw[List.length_append] at this; omega) (by have:=zab1 rs; unfold fuel; omega) (by rw[← hfs]; exact ha) (by rw[← hfs]; exact hl) (by simp);rw[← hfs] at hL;rw[qax,zaaa];unfold qax_f;rw[zarn,q1,q2,Option.bind_some];simp only[bne_self_eq_false,cond_false];rw[zar9 rs ha (by omega),Option.bind_some,hsk,qax_l6,zaaa,hL,Option.bind_some];have hlen:=zai0 rs.length ((encs fs).length:Int) (skip false rs) (zabb (ds:=fs) (by rw[← hfs]; exact ha));cases ht:toks rs.length ((encs fs).length:Int) (skip false rs) with
 |inl e=>rfl
 |inr l=>
  have hl2:=hlen l ht;have h3:(skip false rs).length≤rs.length:=by
   have:=congrArg List.length hfs;rw[List.length_append] at this;omega
  have h4:=zab1 rs;simp only[List.nil_append];rw[decide_eq_true (show _∧_ by simp only[List.length_cons,List.length_nil]; omega),cond_true]
end Lift.A1P
namespace Lift.A1P
open Go Go.RowKit Lift Go.IntWalk Lift.Fn
theorem zawg:qaZ=some words:=by
 rw[qaZ,zaaa];rfl
end Lift.A1P
namespace Lift.A1P
open Go Go.RowKit Lift Go.IntWalk Lift.Fn
def whole (w:List Int) (t:Token):Prop:=w≠[]∧w.all Sp.isRune=true∧tokR w=(t,0)∧t.text=encs w
theorem zaod {w:List Int} (h:goesR (w.headD 0)=true):(tokR w).1.text=encs (w.takeWhile goesR):=by
 unfold tokR;rw[h,cond_true];cases Sp.digit (w.headD 0) with
 |true=>cases (numS (encs (w.takeWhile goesR))).2<;>rfl
 |false=>
  cases words.contains (encs (w.takeWhile goesR)) with
  |true=>rfl
  |false=>cases decide (16<(w.takeWhile goesR).length)<;>rfl
end Lift.A1P
namespace Lift.A1P
open Go Go.RowKit Lift Go.IntWalk Lift.Fn
end Lift.A1P
namespace Lift.A1P
open Go Go.RowKit Lift Go.IntWalk Lift.Fn
theorem zapp:∀ (l:List UInt8) (acc u:Nat),Lib.parseUint10 acc l=.ok u→acc*10 ^ l.length≤u
 |[],acc,u,h=>by
  simp only[Lib.parseUint10] at h;injection h with h
  simp[h]
 |c::r,acc,u,h=>by
  simp only[Lib.parseUint10] at h;split at h
  ·split at h
   ·cases h
   ·split at h
    ·cases h
    ·have:=zapp r _ u h;rw[List.length_cons,Nat.pow_succ];refine Nat.le_trans ?_ this;rw[show acc*(10 ^ r.length*10)=(acc*10)*10 ^ r.length by rw[Nat.mul_comm (10 ^ r.length) 10,← Nat.mul_assoc]];exact Nat.mul_le_mul_right _ (by omega)
  ·cases h
end Lift.A1P
namespace Lift.A1P
open Go Go.RowKit Lift Go.IntWalk Lift.Fn
theorem zavo (x:List UInt8):sgn (sgn x)=sgn x:=by
 by_cases k1:1<x.length∧twos.contains (x.take 2)=true
 ·have e:sgn x=x.take 2:=by unfold sgn; rw[if_pos k1]
  rw[e];have hl:(x.take 2).length=2:=by rw[List.length_take]; omega
  have ht:(x.take 2).take 2=x.take 2:=by rw[List.take_take]; rfl
  unfold sgn;rw[if_pos ⟨by omega,by rw[ht]; exact k1.2⟩,ht]
 ·by_cases k2:ones.contains (x.headD 0)=true
  ·have e:sgn x=x.take 1:=by unfold sgn; rw[if_neg k1,if_pos k2]
   rw[e];match x,k2 with
   |[],k2=>exact absurd k2 (by decide)
   |b::x,k2=>
    show sgn [b]=[b];unfold sgn;rw[if_neg (fun hh=>by have:=hh.1; simp at this)];exact if_pos k2
  ·have e:sgn x=[]:=by unfold sgn; rw[if_neg k1,if_neg k2]
   rw[e];decide
theorem alone (a:Int) (rs:List Int) (ha:(a::rs).all Sp.isRune=true) (h0:(tokR (a::rs)).2=0):∃ ds,whole ds (tokR (a::rs)).1∧a::rs=ds++restR (a::rs):=by
 cases hg:goesR a with
 |true=>
  have ht:=zaod (w:=a::rs) hg;have hd:((a::rs).takeWhile goesR).headD 0=a:=by rw[List.takeWhile_cons,if_pos hg]; rfl
  have htt:((a::rs).takeWhile goesR).takeWhile goesR=(a::rs).takeWhile goesR:=zaqr List.all_takeWhile;refine ⟨(a::rs).takeWhile goesR,⟨by simp[hg],zai6 ha,?_,ht⟩,?_⟩
  ·refine Prod.ext ?_ ?_
   ·show (tokR ((a::rs).takeWhile goesR)).1=_;unfold tokR;rw[hd,htt,List.headD_cons,hg];rfl
   ·show (tokR ((a::rs).takeWhile goesR)).2=0;rw[← h0];unfold tokR;rw[hd,htt,List.headD_cons,hg];rfl
  ·unfold restR;rw[List.headD_cons,hg];exact (List.takeWhile_append_dropWhile).symm
 |false=>
  have hc:(sgn (encs (a::rs))==[])=false:=by
   unfold tokR at h0;rw[List.headD_cons,hg,cond_false] at h0;cases hc:(sgn (encs (a::rs))==[]) with
   |true=>rw[hc] at h0; simp at h0
   |false=>rfl
  have hne:sgn (encs (a::rs))≠[]:=by simpa using hc
  obtain ⟨h1,h2⟩:=zajy a rs ha hne;have htok:tokR (a::rs)=(⟨3,sgn (encs (a::rs)),0,0⟩,0):=by
   unfold tokR;rw[List.headD_cons,hg,cond_false,hc,cond_false]
  obtain ⟨n,hn⟩:∃ n,(sgn (encs (a::rs))).length=n+1:=⟨(sgn (encs (a::rs))).length-1,by omega⟩;have htk:(a::rs).take (sgn (encs (a::rs))).length=a::rs.take n:=by rw[hn]; rfl
  refine ⟨(a::rs).take (sgn (encs (a::rs))).length,⟨by rw[htk]; exact List.cons_ne_nil _ _,?_,?_,?_⟩,?_⟩
  ·rw[List.all_eq_true] at ha ⊢;exact fun r hr=>ha r (List.mem_of_mem_take hr)
  ·rw[htok];rw[htk] at h1 ⊢;unfold tokR;rw[List.headD_cons,hg,cond_false,h1,zavo,hc,cond_false]
  ·rw[htok,h1]
  ·unfold restR;rw[List.headD_cons,hg,cond_false,List.take_append_drop]
end Lift.A1P
namespace Lift.A1P
open Go Go.RowKit Lift Go.IntWalk Lift.Fn
theorem zage (t:List UInt8) (h:(Sp.runes2 t).code≠0):qax t=some (⟨(Sp.runes2 t).code,(Sp.runes2 t).at_,(Sp.runes2 t).name⟩,[]):=by
 rw[qax,zaaa];unfold qax_f;rw[zarn,Option.bind_some];have:((Sp.runes2 t).code != 0)=true:=by simp[h]
 simp only[this,cond_true]
end Lift.A1P
namespace Lift.A1P
open Go Go.RowKit Lift Go.IntWalk Lift.Fn
theorem zau6 (r:Int):qaP r=some (Sp.digit r):=by
 rw[← zapu,qaP,qbq,zaaa,zaaa];rfl
theorem zar7 (r:Int):qaR r=some (Sp.letter r):=by
 rw[qaR,zaaa];unfold qaR_f;simp only[cond_eq_ite,zar5,Option.bind_some];repeat' split
 all_goals refine zag4 ?_
 all_goals simp only[Sp.letter,Sp.isRune,beq_iff_eq,Bool.and_eq_true,decide_eq_true_eq,decide_eq_false_iff_not,Bool.false_eq_true,false_iff,true_iff,Bool.not_eq_true] at *
 all_goals omega
theorem zagp (ds:List Int) (r:Int) (es:List Int):∃ s,((put (ds++r::es) s0).1)[ds.length]? = some s∧s.rune=r∧s.at_=((encs ds).length:Int):=by
 have hl:ds.length<(put (ds++r::es) s0).1.length:=by rw[zar8,List.length_append,List.length_cons]; omega
 refine ⟨_,List.getElem?_eq_getElem hl,?_,?_⟩
 ·have h:=congrArg (fun l=>l[ds.length]?) (zalj (ds++r::es) s0);simp only[List.getElem?_map,List.getElem?_eq_getElem hl,Option.map_some] at h;rw[List.getElem?_append_right (Nat.le_refl _)] at h;simpa using h
 ·have h:=zash (ds++r::es) s0 ds.length _ (List.getElem?_eq_getElem hl);rw[h,List.take_left];simp[s0]
theorem zadm (rs:List Int):(put rs s0).1.length=rs.length:=zar8 rs s0
theorem runL:∀ (es ds:List Int) (n:Nat),es.length<n→(ds++es).length≤9000000 →
  qa2_i2 n (put (ds++es) s0).1 (ds.length:Int)=some ((ds.length:Int)+((es.takeWhile goesR).length:Int))
 |[],ds,n,hn,hl=>by
  obtain ⟨n,rfl⟩:∃ q,n=q+1:=⟨n-1,by simp at hn; omega⟩;simp only[qa2_i2,qa2_t2,zadm,List.append_nil];rw[decide_eq_false (by omega),cond_false];simp
 |r::es,ds,n,hn,hl=>by
  obtain ⟨n,rfl⟩:∃ q,n=q+1:=⟨n-1,by simp at hn; omega⟩;obtain ⟨s,h1,h2,_⟩:=zagp ds r es;simp only[qa2_i2,qa2_t2,zadm];rw[decide_eq_true (by rw[List.length_append,List.length_cons]; omega),cond_true,decide_eq_true (by omega),cond_true,Int.toNat_natCast,h1,Option.bind_some,zar7,Option.bind_some,h2];simp only[Option.bind_some,zau6,h2,cond_true];rw[List.length_append,List.length_cons] at hl;have ih:=runL es (ds++[r]) n (by simp at hn; omega) (by rw[List.append_assoc,List.singleton_append,List.length_append,List.length_cons]; omega);rw[List.append_assoc,List.singleton_append,List.length_append,List.length_cons,List.length_nil] at ih;rw[i64_in ((ds.length:Int)+1) (by omega)];rw[show ((ds.length+(0+1):Nat):Int)=(ds.length:Int)+1 by omega] at ih;rw[List.takeWhile_cons];unfold goesR at ih ⊢;cases hL:Sp.letter r with
  |true=>
   simp only[Bool.not_true,cond_false,ih,Bool.true_or,if_true,List.length_cons];congr 1;omega
  |false=>
   cases hD:Sp.digit r with
   |true=>
    simp only[Bool.not_true,Bool.not_false,cond_true,cond_false,ih,Bool.or_true,if_true,List.length_cons];congr 1;omega
   |false=>
    simp only[Bool.not_false,cond_true,Bool.or_self,Bool.false_eq_true,if_false,List.length_nil];congr 1
theorem zaw3 (es ds:List Int) (hl:(ds++es).length≤9000000):qa2 (put (ds++es) s0).1 (ds.length:Int)=some ((ds.length:Int)+((es.takeWhile goesR).length:Int)):=by
 rw[qa2,zaaa];unfold qa2_f;rw[qa2_l2,zaaa,runL es ds fuel (by rw[List.length_append] at hl; unfold fuel; omega) hl];rfl
theorem part1 (ds w es:List Int) (hw:w≠[]):qa1 (put (ds++(w++es)) s0).1 (encs (ds++(w++es))) (ds.length:Int) ((ds.length:Int)+(w.length:Int))=some (encs w):=by
 obtain ⟨a,w',rfl⟩:∃ a w',w=a::w':=by
  cases w with
  |nil=>exact absurd rfl hw
  |cons a w=>exact ⟨a,w,rfl⟩
 obtain ⟨s,h1,_,h3⟩:=zagp ds a (w'++es);have hlen:(encs (ds++(a::w'++es))).length=(encs ds).length+((encs (a::w')).length+(encs es).length):=by
  rw[zaak,zaak,List.length_append,List.length_append]
 rw[qa1,zaaa];unfold qa1_f;rw[zadm];have htake:(encs (ds++(a::w'++es))).drop (encs ds).length=encs (a::w')++encs es:=by
  rw[zaak,List.drop_left,zaak]
 cases es with
 |nil=>
  rw[decide_eq_false (by rw[List.append_nil,List.length_append]; omega),cond_false,decide_eq_true (by omega),cond_true,Int.toNat_natCast];rw[List.cons_append,h1,Option.bind_some,h3];rw[List.cons_append] at hlen htake;rw[show (decide ((0:Int)≤((encs ds).length:Int))&&(decide (((encs ds).length:Int)≤((encs (ds++a::(w'++[]))).length:Int))&&decide (((encs (ds++a::(w'++[]))).length:Int)≤((encs (ds++a::(w'++[]))).length:Int))))=true by
   simp only[Bool.and_eq_true,decide_eq_true_eq]; omega]
  rw[cond_true,Int.toNat_natCast,Int.toNat_natCast,List.take_length,htake];simp[encs]
 |cons b es=>
  obtain ⟨s2,g1,_,g3⟩:=zagp (ds++(a::w')) b es;rw[List.append_assoc,List.length_append] at g1;rw[decide_eq_true (by simp only[List.length_append,List.length_cons]; omega),cond_true,decide_eq_true (by omega),cond_true];rw[show ((ds.length:Int)+((a::w').length:Int)).toNat=ds.length+(a::w').length by omega,g1,Option.bind_some,decide_eq_true (by omega),cond_true,Int.toNat_natCast];rw[List.cons_append,h1,Option.bind_some,h3,g3,zaak ds (a::w'),List.length_append];rw[List.cons_append] at hlen htake;rw[show (decide ((0:Int)≤((encs ds).length:Int))&&(decide (((encs ds).length:Int)≤(((encs ds).length+(encs (a::w')).length:Nat):Int))&&decide ((((encs ds).length+(encs (a::w')).length:Nat):Int)≤((encs (ds++a::(w'++b::es))).length:Int))))=true by
   simp only[Bool.and_eq_true,decide_eq_true_eq]; omega]
  rw[cond_true,Int.toNat_natCast,Int.toNat_natCast,List.drop_take,htake,show (encs ds).length+(encs (a::w')).length-(encs ds).length=(encs (a::w')).length by omega,List.take_left]
theorem inL (l:List (List UInt8)) (x:List UInt8) (hl:l.length≤4000):∀ (k n:Nat) (i:Int),0≤i→l.length-i.toNat≤k→k<n →
  qaW_i2 n l x i=some (if (l.drop i.toNat).contains x then .inl true else .inr ()):=by
 intro k;have fin:∀ (n:Nat) (i:Int),0≤i→¬ i<l.length→qaW_i2 (n+1) l x i=some (if (l.drop i.toNat).contains x then .inl true else .inr ()):=by
  intro n i h0 c;rw[List.drop_eq_nil_of_le (by omega)];simp only[qaW_i2,qaW_t2,c,decide_false,cond_false,List.contains_nil,Bool.false_eq_true,if_false]
 induction k with
 |zero=>
  intro n i h0 hk hn;obtain ⟨n,rfl⟩:∃ q,n=q+1:=⟨n-1,by omega⟩;exact fin n i h0 (by omega)
 |succ k ih=>
  intro n i h0 hk hn;obtain ⟨n,rfl⟩:∃ q,n=q+1:=⟨n-1,by omega⟩;by_cases c:i<l.length
  ·have ha:i.toNat<l.length:=by omega
   rw[List.drop_eq_getElem_cons ha];simp only[qaW_i2,qaW_t2,c,h0,decide_true,cond_true,List.getElem?_eq_getElem ha,Option.bind_some,List.contains_cons];rw[i64_in (i+1) (by omega)];cases hx:(l[i.toNat]==x) with
   |true=>
    have:(x==l[i.toNat])=true:=by rw[beq_iff_eq] at hx ⊢; exact hx.symm
    rw[cond_true,this,Bool.true_or,if_pos rfl]
   |false=>
    have:(x==l[i.toNat])=false:=by rw[beq_eq_false_iff_ne] at hx ⊢; exact fun h=>hx h.symm
    rw[cond_false,this,Bool.false_or,ih n (i+1) (by omega) (by omega) (by omega),show (i+1).toNat=i.toNat+1 by omega]
  ·exact fin n i h0 c
theorem in1 (l:List (List UInt8)) (x:List UInt8) (hl:l.length≤4000):qaW l x=some (l.contains x):=by
 rw[qaW,zaaa];unfold qaW_f;rw[qaW_l2,zaaa,inL l x hl l.length fuel 0 (by omega) (by omega) (by unfold fuel; omega),Int.toNat_zero,List.drop_zero];cases l.contains x<;>rfl
def signs:List (List UInt8):=twos++ones.map (fun b=>[b])
theorem zax2 (text:List UInt8) (at_:Nat) (ha:at_≤text.length) (ht:text.length≤9000000):∀ (k n:Nat) (i:Int),0≤i→signs.length-i.toNat≤k→k<n →
  qa3_i3 n text at_ i signs=some (match (signs.drop i.toNat).find? (fun s=>decide (s.length≤(text.drop at_).length)&&((text.drop at_).take s.length==s)) with|some s=>.inl s|none=>.inr ()):=by
 have hs:signs.length=22:=rfl;intro k;have fin:∀ (n:Nat) (i:Int),0≤i→¬ i<signs.length→qa3_i3 (n+1) text at_ i signs=some (match (signs.drop i.toNat).find? (fun s=>decide (s.length≤(text.drop at_).length)&&((text.drop at_).take s.length==s)) with|some s=>.inl s|none=>.inr ()):=by
  intro n i h0 c;have hd:signs.drop i.toNat=[]:=List.drop_eq_nil_of_le (by omega);rw[hd];simp only[qa3_i3,qa3_t3,c,decide_false,cond_false,List.find?_nil]
 induction k with
 |zero=>
  intro n i h0 hk hn;obtain ⟨n,rfl⟩:∃ q,n=q+1:=⟨n-1,by omega⟩;exact fin n i h0 (by omega)
 |succ k ih=>
  intro n i h0 hk hn;obtain ⟨n,rfl⟩:∃ q,n=q+1:=⟨n-1,by omega⟩;by_cases c:i<signs.length
  ·have hi:i.toNat<signs.length:=by omega
   have hsl:∀ s∈signs,s.length≤2:=by decide
   have h2:=hsl signs[i.toNat] (List.getElem_mem hi);rw[List.drop_eq_getElem_cons hi,List.find?_cons,List.length_drop];simp only[qa3_i3,qa3_t3,c,h0,decide_true,cond_true,Bool.and_self,List.getElem?_eq_getElem hi,Option.bind_some];rw[i64_in ((text.length:Int)-(at_:Int)) (by omega),i64_in ((at_:Int)+(signs[i.toNat].length:Int)) (by omega),i64_in (i+1) (by omega)];have ih':=ih n (i+1) (by omega) (by omega) (by omega);rw[show (i+1).toNat=i.toNat+1 by omega,List.length_drop] at ih';by_cases hle:signs[i.toNat].length≤text.length-at_
   ·rw[decide_eq_true (show (text.length:Int)-(at_:Int)≥(signs[i.toNat].length:Int) by omega),cond_true,decide_eq_true hle,Bool.true_and];have b1:(decide ((0:Int)≤(at_:Int))&&(decide ((at_:Int)≤(at_:Int)+(signs[i.toNat].length:Int))&&decide ((at_:Int)+(signs[i.toNat].length:Int)≤(text.length:Int))))=true:=by
     simp only[Bool.and_eq_true,decide_eq_true_eq]; omega
    have hd:List.drop (Int.toNat (at_:Int)) (List.take (Int.toNat ((at_:Int)+(signs[i.toNat].length:Int))) text)=(text.drop at_).take signs[i.toNat].length:=by
     rw[Int.toNat_natCast,show ((at_:Int)+(signs[i.toNat].length:Int)).toNat=at_+signs[i.toNat].length by omega,List.drop_take,show at_+signs[i.toNat].length-at_=signs[i.toNat].length by omega]
    rw[b1,cond_true,hd];cases hq:((text.drop at_).take signs[i.toNat].length==signs[i.toNat]) with
    |true=>simp only[cond_true]
    |false=>simp only[cond_false]; exact ih'
   ·rw[decide_eq_false (show ¬ (text.length:Int)-(at_:Int)≥(signs[i.toNat].length:Int) by omega),cond_false,decide_eq_false hle,Bool.false_and];exact ih'
  ·exact fin n i h0 c
theorem zao2 (L:List (List UInt8)) (m:Nat) (hL:∀ s∈L,s.length=m) (d:List UInt8):L.find? (fun s=>decide (s.length≤d.length)&&(d.take s.length==s))=if m≤d.length∧L.contains (d.take m)=true then some (d.take m) else none:=by
 induction L with
 |nil=>simp
 |cons s L ih=>
  have hs:=hL s (by simp);have ih':=ih (fun x hx=>hL x (by simp[hx]));rw[List.find?_cons,hs,ih',List.contains_cons];by_cases hm:m≤d.length
  ·rw[decide_eq_true hm,Bool.true_and];cases hq:(d.take m==s) with
   |true=>
    have:d.take m=s:=by simpa using hq
    rw[this];exact (if_pos ⟨hm,rfl⟩).symm
   |false=>simp only[Bool.false_or]
  ·rw[decide_eq_false hm,Bool.false_and,if_neg (fun h=>hm h.1),if_neg (fun h=>hm h.1)]
theorem zawj (b:UInt8):(ones.map (fun b=>[b])).contains [b]=ones.contains b:=by
 simp only[ones,List.map_cons,List.map_nil,List.contains_cons,List.contains_nil];have:∀ c:UInt8,([b]==[c])=(b==c):=fun c=>by
  rw[Bool.eq_iff_iff];simp
 simp only[this]
theorem zavn (d:List UInt8):signs.find? (fun s=>decide (s.length≤d.length)&&(d.take s.length==s))=if sgn d=[] then none else some (sgn d):=by
 unfold signs;rw[List.find?_append,zao2 twos 2 (fun s hs=>(zanh s hs).1),zao2 (ones.map fun b=>[b]) 1 (by intro s hs; obtain ⟨b,_,rfl⟩:=List.mem_map.1 hs; rfl)];unfold sgn;by_cases h1:1<d.length∧twos.contains (d.take 2)=true
 ·have hne:d.take 2≠[]:=by
   intro h;have:=congrArg List.length h;rw[List.length_take,List.length_nil] at this;omega
  rw[if_pos (show 2≤d.length∧twos.contains (d.take 2)=true from ⟨by omega,h1.2⟩),if_pos h1,if_neg hne];rfl
 ·rw[if_neg (show ¬ (2≤d.length∧twos.contains (d.take 2)=true) from fun h=>h1 ⟨by omega,h.2⟩),if_neg h1];cases d with
  |nil=>
   rw[if_neg (by simp)];have:ones.contains (([]:List UInt8).headD 0)=false:=by decide
   rw[this]; rfl
  |cons b d=>
   have ht:(b::d).take 1=[b]:=rfl;rw[ht,zawj,List.headD_cons];cases ones.contains b with
   |true=>rw[if_pos ⟨by simp,rfl⟩]; rfl
   |false=>rw[if_neg (by simp)]; rfl
theorem sign2 (text:List UInt8) (at_:Nat) (ha:at_≤text.length) (ht:text.length≤9000000):qa3 text at_=some (sgn (text.drop at_)):=by
 rw[qa3,zaaa];unfold qa3_f;have hs:qa4=some signs:=by rw[qa4,zaaa]; rfl
 have hsl:signs.length=22:=rfl;rw[hs,Option.bind_some,qa3_l3,zaaa,zax2 text at_ ha ht 22 fuel 0 (by omega) (by omega) (by unfold fuel; omega),Int.toNat_zero,List.drop_zero,zavn];by_cases h:sgn (text.drop at_)=[]
 ·rw[if_pos h,h]; rfl
 ·rw[if_neg h]; rfl
end Lift.A1P
namespace Lift.A1P
open Go Go.RowKit Lift Go.IntWalk Lift.Fn
def dig (c:UInt8):Bool:=decide (48≤c.toNat∧c.toNat≤57)
theorem zawc:∀ i:Fin 256,tens.contains (UInt8.ofNat i.val)=dig (UInt8.ofNat i.val):=by decide +kernel
theorem zawi (c:UInt8):tens.contains c=dig c:=by
 have:=zawc ⟨c.toNat,c.toNat_lt⟩;simpa using this
theorem zaeh {α:Type} {p:α→Bool}:∀ {l:List α},l.dropWhile p=[]↔l.all p=true
 |[]=>by simp
 |a::l=>by
  rw[List.dropWhile_cons,List.all_cons];cases p a with
  |true=>simp only[if_true,Bool.true_and]; exact zaeh
  |false=>simp
theorem zahz {α:Type} {p:α→Bool}:∀ {l:List α} {a:α} {r:List α},l.dropWhile p=a::r→p a=false
 |[],_,_,h=>by simp at h
 |b::l,a,r,h=>by
  rw[List.dropWhile_cons] at h;cases hb:p b with
  |true=>rw[hb,if_pos rfl] at h; exact zahz h
  |false=>
   rw[hb,if_neg (by decide)] at h;cases h;exact hb
theorem zapq (t:List UInt8):Lib.trimS t tens=[]↔t.all dig=true:=by
 have hp:(fun c=>tens.contains c)=dig:=funext zawi;unfold Lib.trimS Lib.trimLeftS Lib.trimRightS;rw[hp];constructor
 ·intro h;rw[zaeh] at h;cases hm:t.reverse.dropWhile dig with
  |nil=>
   rw[zaeh] at hm;simpa using hm
  |cons a r=>
   have ha:=zahz hm;rw[hm,List.all_eq_true] at h;have:=h a (by simp);rw[ha] at this;cases this
 ·intro h;have:t.reverse.dropWhile dig=[]:=zaeh.2 (by simpa using h);rw[this];rfl
def dvl:Nat→List UInt8→Nat
 |acc,[]=>acc
 |acc,c::r=>dvl (acc*10+(c.toNat-48)) r
theorem zakx:∀ (l:List UInt8) (acc k:Nat),l.all dig=true→acc<10 ^ k→k+l.length≤18→Lib.parseUint10 acc l=.ok (dvl acc l)∧dvl acc l<10 ^ (k+l.length)
 |[],acc,k,_,h,_=>⟨rfl,by rw[List.length_nil,Nat.add_zero]; exact h⟩
 |c::r,acc,k,ha,h,hk=>by
  simp only[List.all_cons,Bool.and_eq_true] at ha;have hc:48≤c.toNat∧c.toNat≤57:=by simpa [dig] using ha.1
  simp only[List.length_cons] at hk;have hacc:acc<100000000000000000:=Nat.lt_of_lt_of_le h (Nat.le_trans (Nat.pow_le_pow_right (by decide) (show k≤17 by omega)) (by decide));have h1:acc*10+(c.toNat-48)<10 ^ (k+1):=by rw[Nat.pow_succ]; omega
  clear h;obtain ⟨q1,q2⟩:=zakx r (acc*10+(c.toNat-48)) (k+1) ha.2 h1 (by omega);refine ⟨?_,?_⟩
  ·simp only[Lib.parseUint10];rw[if_pos hc,if_neg (by omega),if_neg (by omega),q1];rfl
  ·rw[List.length_cons,show k+(r.length+1)=k+1+r.length by omega];exact q2
theorem zar3 (t:List UInt8) (ht:t.length≤10):∀ (k n:Nat) (i:Int) (acc:Nat),0≤i→i≤t.length→t.length-i.toNat≤k→k<n→acc<10 ^ i.toNat →
  qa0_i5 n t (acc:Int) i=some (if (t.drop i.toNat).all dig then .inr ((dvl acc (t.drop i.toNat):Nat):Int) else .inl (0,false)):=by
 intro k;have fin:∀ (n:Nat) (i:Int) (acc:Nat),0≤i→¬ i<t.length→qa0_i5 (n+1) t (acc:Int) i=some (if (t.drop i.toNat).all dig then .inr ((dvl acc (t.drop i.toNat):Nat):Int) else .inl (0,false)):=by
  intro n i acc h0 c;have hd:t.drop i.toNat=[]:=List.drop_eq_nil_of_le (by omega);rw[hd,List.all_nil,if_pos rfl];simp only[qa0_i5,qa0_t5,c,decide_false,cond_false];rfl
 induction k with
 |zero=>
  intro n i acc h0 hi hk hn ha;obtain ⟨n,rfl⟩:∃ q,n=q+1:=⟨n-1,by omega⟩;exact fin n i acc h0 (by omega)
 |succ k ih=>
  intro n i acc h0 hi hk hn ha;obtain ⟨n,rfl⟩:∃ q,n=q+1:=⟨n-1,by omega⟩;by_cases c:i<t.length
  ·have hx:i.toNat<t.length:=by omega
   rw[List.drop_eq_getElem_cons hx,List.all_cons];simp only[qa0_i5,qa0_t5,c,h0,decide_true,cond_true,List.getElem?_eq_getElem hx,Option.bind_some];generalize t[i.toNat]=b;have hb:=b.toNat_lt;by_cases hd:48≤b.toNat∧b.toNat≤57
   ·have e1:dig b=true:=by simp[dig,hd]
    have hacc:acc<1000000000:=Nat.lt_of_lt_of_le ha (Nat.le_trans (Nat.pow_le_pow_right (by decide) (show i.toNat≤9 by omega)) (by decide));have ha':acc*10+(b.toNat-48)<10 ^ (i.toNat+1):=by rw[Nat.pow_succ]; omega
    clear ha;rw[decide_eq_false (show ¬ ((b.toNat:Nat):Int)<48 by omega),cond_false,decide_eq_false (show ¬ ((b.toNat:Nat):Int)>57 by omega),cond_false,e1,Bool.true_and];rw[i64_in ((b.toNat:Nat):Int) (by omega),i64_in (10*(acc:Int)) (by omega),i64_in (10*(acc:Int)+((b.toNat:Nat):Int)) (by omega),i64_in (10*(acc:Int)+((b.toNat:Nat):Int)-48) (by omega),i64_in (i+1) (by omega)];have:=ih n (i+1) (acc*10+(b.toNat-48)) (by omega) (by omega) (by omega) (by omega) (by rw[show (i+1).toNat=i.toNat+1 by omega]; exact ha');rw[show ((acc*10+(b.toNat-48):Nat):Int)=10*(acc:Int)+((b.toNat:Nat):Int)-48 by omega,show (i+1).toNat=i.toNat+1 by omega] at this;rw[this];rfl
   ·have e1:dig b=false:=by simp only[dig,decide_eq_false_iff_not]; exact hd
    rw[e1,Bool.false_and,if_neg (by decide)];by_cases h48:b.toNat<48
    ·rw[decide_eq_true (by omega),cond_true]
    ·rw[decide_eq_false (by omega),cond_false,decide_eq_true (by omega),cond_true]
  ·exact fin n i acc h0 c
theorem zaxc (c:UInt8) (r:List UInt8) (hc:48≤c.toNat∧c.toNat≤57) (hl:(c::r).length≤9000000):∃ n,qa0 (c::r)=some (n,(numS (c::r)).2)∧((numS (c::r)).2=true→n=(numS (c::r)).1):=by
 have main:¬ (1<(c::r).length∧c.toNat=48)→∃ n,(bif decide ((↑(List.length (c::r)):Int)>(10:Int)) then
     some (((0:Int)),(false))
    else
     bif (↑(List.length (c::r)):Int)==(0:Int) then
      some (((0:Int)),(false))
     else
      Option.bind (qa0_l5 (c::r) (0:Int) (0:Int)) fun y1=>
      match y1 with
      |.inl y2=>
       some ((Prod.fst y2),(Prod.snd y2))
      |.inr y2=>
       some ((y2),(decide (y2≤(2147483647:Int)))))=some (n,(numS (c::r)).2)∧((numS (c::r)).2=true→n=(numS (c::r)).1):=by
  intro hA;have hN:numS (c::r)=if Lib.trimS (c::r) tens≠[] then (0,false) else if (zaa2 (c::r)).2=true then ((zaa2 (c::r)).1,false) else ((zaa2 (c::r)).1,decide ((zaa2 (c::r)).1≤2147483647)):=by
   conv=>lhs; unfold numS
   rw[if_neg (show ¬ (1<(c::r).length∧((c::r).headD 0).toNat=48) from hA)]
  rw[hN];have e0:(((c::r).length:Int)==0)=false:=by rw[beq_eq_false_iff_ne,List.length_cons]; omega
  cases hall:(c::r).all dig with
  |false=>
   have ht:Lib.trimS (c::r) tens≠[]:=fun h=>by rw[(zapq _).1 h] at hall; cases hall
   rw[if_pos ht];refine ⟨0,?_,fun h=>by cases h⟩;by_cases h10:(c::r).length≤10
   ·rw[decide_eq_false (by omega),cond_false,e0,cond_false,qa0_l5,zaaa];have:=zar3 (c::r) h10 (c::r).length fuel 0 0 (by omega) (by omega) (by omega) (by unfold fuel; omega) (by simp);rw[Int.toNat_zero,List.drop_zero,hall,if_neg (by decide)] at this;rw[show ((0:Nat):Int)=0 from rfl] at this;rw[this];rfl
   ·rw[decide_eq_true (by omega),cond_true]
  |true=>
   have ht:¬ Lib.trimS (c::r) tens≠[]:=fun h=>h ((zapq _).2 hall)
   rw[if_neg ht];have hpm:¬ (c.toNat=43∨c.toNat=45):=by omega
   by_cases h10:(c::r).length≤10
   ·obtain ⟨p1,p2⟩:=zakx (c::r) 0 0 hall (by simp) (by omega);have hb:dvl 0 (c::r)<10 ^ 10:=Nat.lt_of_lt_of_le p2 (Nat.pow_le_pow_right (by omega) (by omega));have e10:(10:Nat) ^ 10=10000000000:=by decide
    have ha:zaa2 (c::r)=(((dvl 0 (c::r):Nat):Int),false):=by
     unfold zaa2 Lib.atoiAll;simp only;rw[if_neg hpm];unfold Lib.parseMag;rw[if_neg (List.cons_ne_nil _ _),p1];simp only;rw[if_neg (by omega),if_neg (by omega),if_neg (by omega)]
    rw[ha];refine ⟨((dvl 0 (c::r):Nat):Int),?_,fun _=>rfl⟩;rw[decide_eq_false (by omega),cond_false,e0,cond_false,qa0_l5,zaaa];have:=zar3 (c::r) h10 (c::r).length fuel 0 0 (by omega) (by omega) (by omega) (by unfold fuel; omega) (by simp);rw[Int.toNat_zero,List.drop_zero,hall,if_pos rfl] at this;rw[show ((0:Nat):Int)=0 from rfl] at this;rw[this];rfl
   ·
    rw[decide_eq_true (by omega),cond_true];have hf:(if (zaa2 (c::r)).2=true then ((zaa2 (c::r)).1,false) else ((zaa2 (c::r)).1,decide ((zaa2 (c::r)).1≤2147483647))).2=false:=by
     cases ho:(zaa2 (c::r)).2 with
     |true=>rfl
     |false=>
      rw[if_neg (by decide)];unfold zaa2 at ho ⊢;cases hq:Lib.atoiAll (c::r) with
      |ok v=>
       unfold Lib.atoiAll at hq;simp only at hq;rw[if_neg hpm] at hq;cases hp:Lib.parseMag (c::r) with
       |ok u=>
        rw[hp] at hq;simp only at hq;rw[if_neg (show ¬ (c.toNat=45∧9223372036854775808<u) by omega)] at hq;split at hq
        ·cases hq
        ·rw[if_neg (show ¬ c.toNat=45 by omega)] at hq;cases hq;have hu:=hp;unfold Lib.parseMag at hu;rw[if_neg (List.cons_ne_nil _ _)] at hu;simp only[Lib.parseUint10] at hu;rw[if_pos hc] at hu;split at hu
         ·cases hu
         ·split at hu
          ·cases hu
          ·have h3:=zapp r _ u hu;have h4:10 ^ 10≤10 ^ r.length:=Nat.pow_le_pow_right (by omega) (by simp only[List.length_cons] at h10; omega);have h48:c.toNat≠48:=fun hh=>hA ⟨by omega,hh⟩
           have h5:1*10 ^ r.length≤(0*10+(c.toNat-48))*10 ^ r.length:=Nat.mul_le_mul_right _ (by omega);have h6:(10000000000:Nat)=10 ^ 10:=by decide
           simp only;rw[decide_eq_false_iff_not];omega
       |range=>rw[hp] at hq; cases hq
       |_=>rw[hp] at hq; cases hq
      |range=>rw[hq] at ho; cases ho
      |_=>rw[hq] at ho; cases ho
    rw[hf];exact ⟨0,rfl,fun h=>by cases h⟩
 rw[qa0,zaaa];unfold qa0_f;by_cases h1:1<(c::r).length
 ·rw[decide_eq_true (by omega),cond_true,List.getElem?_cons_zero,Option.bind_some];by_cases h2:c.toNat=48
  ·have e:(((c.toNat:Nat):Int)==48)=true:=by rw[beq_iff_eq]; omega
   rw[e,cond_true];have hN:numS (c::r)=(0,false):=by
    unfold numS;rw[if_pos (show 1<(c::r).length∧((c::r).headD 0).toNat=48 from ⟨h1,h2⟩)]
   rw[hN];exact ⟨0,rfl,fun h=>by cases h⟩
  ·have e:(((c.toNat:Nat):Int)==48)=false:=by rw[beq_eq_false_iff_ne]; omega
   rw[e,cond_false];exact main (fun h=>h2 h.2)
 ·rw[decide_eq_false (by omega),cond_false];exact main (fun h=>h1 h.1)
end Lift.A1P
namespace Lift.A1P
open Go Go.RowKit Lift Go.IntWalk Lift.Fn
theorem zahe:∀ (k k':Nat) (p:Int) (rs:List Int),rs.all Sp.isRune=true→rs.length≤k→rs.length≤k'→toks k p rs=toks k' p rs
 |k,k',p,[],_,_,_=>by
  have e:∀ k p,toks k p []=.inr []:=fun k p=>by cases k<;>rfl
  rw[e,e]
 |0,_,_,r::rs,_,hk,_=>by simp at hk
 |_+1,0,_,r::rs,_,_,hk=>by simp at hk
 |k+1,k'+1,p,r::rs,ha,hk,hk'=>by
  simp only[toks];cases hc:((tokR (r::rs)).2 != 0) with
  |true=>rfl
  |false=>
   have h0:(tokR (r::rs)).2=0:=by simpa using hc
   obtain ⟨w,hw,hsp⟩:=alone r rs ha h0;have hR:(restR (r::rs)).all Sp.isRune=true:=zabb (ds:=w) (by rw[← hsp]; exact ha);have hwl:0<w.length:=List.length_pos_iff.2 hw.1;have hl:=congrArg List.length hsp;rw[List.length_append,List.length_cons] at hl;obtain ⟨fs,hfs⟩:=zaa4 (restR (r::rs)) false;have hsl:(skip false (restR (r::rs))).length≤(restR (r::rs)).length:=by
    have:=congrArg List.length hfs;rw[List.length_append] at this;omega
   simp only[List.length_cons] at hk hk';have hS:(skip false (restR (r::rs))).all Sp.isRune=true:=zabb (ds:=fs) (by rw[← hfs]; exact hR);rw[zahe k k' _ _ hS (by omega) (by omega)]
theorem zaye (ds:List Int) (r:Int) (es:List Int) (ha:(ds++r::es).all Sp.isRune=true) (hl:(encs (ds++r::es)).length≤4000) :
  ∃ (T:Token) (i:Int),qa5 (put (ds++r::es) s0).1 (encs (ds++r::es)) (ds.length:Int)=some (T,i,(tokR (r::es)).2)∧T.at_=((encs ds).length:Int) ∧
   ((tokR (r::es)).2=0→T=⟨(tokR (r::es)).1.kind,(tokR (r::es)).1.text,(tokR (r::es)).1.num,((encs ds).length:Int)⟩∧∃ w,w≠[]∧r::es=w++restR (r::es)∧i=(ds.length:Int)+(w.length:Int)):=by
 have har:=zabb ha;have har':=har;simp only[List.all_cons,Bool.and_eq_true] at har';obtain ⟨s,h1,h2,h3⟩:=zagp ds r es;have hlr:=zab1 (ds++r::es);have hlen:(encs (ds++r::es)).length=(encs ds).length+(encs (r::es)).length:=by rw[zaak,List.length_append]
 have hwl:=zaov goesR (r::es);rw[qa5,zaaa];unfold qa5_f;rw[decide_eq_true (show (0:Int)≤(ds.length:Int) by omega),cond_true,Int.toNat_natCast,h1,Option.bind_some,zar7,Option.bind_some,zau6,Option.bind_some,h2,cond_true];simp only[Option.bind_some,h3];cases hg:goesR r with
 |true=>
  have hw:(r::es).takeWhile goesR≠[]:=by rw[List.takeWhile_cons,if_pos hg]; exact List.cons_ne_nil _ _
  have hrun:=zaw3 (r::es) ds (by omega);have hpart:=part1 ds ((r::es).takeWhile goesR) ((r::es).dropWhile goesR) hw;rw[List.takeWhile_append_dropWhile] at hpart;have hin:=in1 words (encs ((r::es).takeWhile goesR)) (by decide +kernel);have hwrap:IntKind.wrap IntKind.i64 ((ds.length:Int)+(((r::es).takeWhile goesR).length:Int)-(ds.length:Int))=(((r::es).takeWhile goesR).length:Int):=by
   have:=zab1 ((r::es).takeWhile goesR);rw[i64_in _ (by omega)];omega
  have split:r::es=(r::es).takeWhile goesR++restR (r::es):=by
   unfold restR;rw[List.headD_cons,hg,cond_true,List.takeWhile_append_dropWhile]
  -- both ways to it are one
  have both:∀ (b:Bool),b=Sp.digit r→∃ (T:Token) (i:Int),(Option.bind (qa2 (put (ds++r::es) s0).1 (ds.length:Int)) fun y4=>
     Option.bind (qa1 (put (ds++r::es) s0).1 (encs (ds++r::es)) (ds.length:Int) y4) fun y5=>
     Option.bind (qaZ) fun y6=>
     Option.bind (qaW y6 y5) fun y7=>
     bif b then
      Option.bind (qa0 y5) fun y8=>
      bif !Prod.snd y8 then
       some ((Token.mk (0:Int) y5 (0:Int) ((encs ds).length:Int)),((ds.length:Int)),((22:Int)))
      else
       some ((Token.mk (2:Int) y5 (Prod.fst y8) ((encs ds).length:Int)),(y4),((0:Int)))
     else
      bif y7 then
       some ((Token.mk (4:Int) y5 (0:Int) ((encs ds).length:Int)),(y4),((0:Int)))
      else
       bif decide (IntKind.wrap IntKind.i64 (y4-(ds.length:Int))>(16:Int)) then
        some ((Token.mk (0:Int) y5 (0:Int) ((encs ds).length:Int)),((ds.length:Int)),((21:Int)))
       else
        some ((Token.mk (1:Int) y5 (0:Int) ((encs ds).length:Int)),(y4),((0:Int))))=some (T,i,(tokR (r::es)).2)∧T.at_=((encs ds).length:Int) ∧
   ((tokR (r::es)).2=0→T=⟨(tokR (r::es)).1.kind,(tokR (r::es)).1.text,(tokR (r::es)).1.num,((encs ds).length:Int)⟩∧∃ w,w≠[]∧r::es=w++restR (r::es)∧i=(ds.length:Int)+(w.length:Int)):=by
   intro b hb;subst hb;rw[hrun,Option.bind_some,hpart,Option.bind_some,zawg,Option.bind_some,hin,Option.bind_some,hwrap];unfold tokR;rw[List.headD_cons,hg,cond_true];cases hd:Sp.digit r with
   |true=>
    rw[cond_true,cond_true];have hda:48≤r∧r≤57:=by simpa [Sp.digit] using hd
    have ht:(r::es).takeWhile goesR=r::es.takeWhile goesR:=by rw[List.takeWhile_cons,if_pos hg]
    have he:encs ((r::es).takeWhile goesR)=UInt8.ofNat r.toNat::encs (es.takeWhile goesR):=by
     rw[ht,zaa5];have:r<128:=by omega
     simp[encB,bytesOf,Sp.enc,this]
    obtain ⟨n,hn1,hn2⟩:=zaxc (UInt8.ofNat r.toNat) (encs (es.takeWhile goesR)) (by rw[zabr _ (by omega)]; omega) (by rw[← he]; omega);rw[← he] at hn1 hn2;rw[hn1,Option.bind_some];cases hq:(numS (encs ((r::es).takeWhile goesR))).2 with
    |false=>exact ⟨_,_,rfl,rfl,fun h=>absurd (show (22:Int)=0 from h) (by decide)⟩
    |true=>
     rw[hn2 hq];exact ⟨_,_,rfl,rfl,fun _=>⟨rfl,_,hw,split,rfl⟩⟩
   |false=>
    rw[cond_false,cond_false];cases words.contains (encs ((r::es).takeWhile goesR)) with
    |true=>exact ⟨_,_,rfl,rfl,fun _=>⟨rfl,_,hw,split,rfl⟩⟩
    |false=>
     rw[cond_false,cond_false];have:decide ((((r::es).takeWhile goesR).length:Int)>16)=decide (16<((r::es).takeWhile goesR).length):=by
      rw[Bool.eq_iff_iff,decide_eq_true_eq,decide_eq_true_eq]; omega
     rw[this];cases decide (16<((r::es).takeWhile goesR).length) with
     |true=>exact ⟨_,_,rfl,rfl,fun h=>absurd (show (21:Int)=0 from h) (by decide)⟩
     |false=>exact ⟨_,_,rfl,rfl,fun _=>⟨rfl,_,hw,split,rfl⟩⟩
  cases hL:Sp.letter r with
  |true=>rw[cond_true]; exact both _ rfl
  |false=>
   have hd:Sp.digit r=true:=by unfold goesR at hg; rw[hL,Bool.false_or] at hg; exact hg
   have:=both _ rfl;rw[hd] at this ⊢;rw[cond_false,cond_true];exact this
 |false=>
  have hL:Sp.letter r=false:=by unfold goesR at hg; exact (Bool.or_eq_false_iff.1 hg).1
  have hD:Sp.digit r=false:=by unfold goesR at hg; exact (Bool.or_eq_false_iff.1 hg).2
  rw[hL,hD,cond_false,cond_false];have hsg:=sign2 (encs (ds++r::es)) (encs ds).length (by omega) (by omega);rw[zaeu] at hsg;rw[hsg,Option.bind_some];unfold tokR;rw[List.headD_cons,hg,cond_false];cases hc:(sgn (encs (r::es))==[]) with
  |true=>exact ⟨_,_,rfl,rfl,fun h=>absurd (show (20:Int)=0 from h) (by decide)⟩
  |false=>
   have hne:sgn (encs (r::es))≠[]:=by simpa using hc
   obtain ⟨q1,q2⟩:=zajy r es har hne;have hsl:(sgn (encs (r::es))).length≤2:=by
    unfold sgn;split
    ·rw[List.length_take]; omega
    ·split
     ·rw[List.length_take]; omega
     ·simp
   have hle:(sgn (encs (r::es))).length≤(r::es).length:=by
    have:=congrArg List.length q1;have h9:=zab1 ((r::es).take (sgn (encs (r::es))).length);rcases Nat.lt_or_ge (r::es).length (sgn (encs (r::es))).length with hlt|hge
    ·
     exfalso;have h1:(r::es).length=1:=by simp only[List.length_cons] at hlt ⊢; omega
     have h2:(sgn (encs (r::es))).length=2:=by simp only[List.length_cons] at hlt; omega
     have hes:es=[]:=by simp only[List.length_cons] at h1; exact List.eq_nil_of_length_eq_zero (by omega)
     subst hes;rw[h2] at q1;have q3:encs [r]=sgn (encs [r]):=q1;obtain ⟨b,u,hb⟩:=zatm r [];have hbb:b.toNat<128:=by
      unfold sgn at q3 h2;by_cases k1:1<(encs [r]).length∧twos.contains ((encs [r]).take 2)=true
      ·have hm:(encs [r]).take 2∈twos:=by simpa using k1.2
       have:=(zanh _ hm).2;rw[hb] at this;cases u with
       |nil=>simp only[List.take_succ_cons,List.take_nil,List.all_cons,List.all_nil,Bool.and_true,decide_eq_true_eq] at this; exact this
       |cons c u=>simp only[List.take_succ_cons,List.take_zero,List.all_cons,Bool.and_eq_true,decide_eq_true_eq] at this; exact this.1
      ·rw[if_neg k1] at h2;by_cases k2:ones.contains ((encs [r]).headD 0)=true
       ·rw[if_pos k2,List.length_take] at h2; omega
       ·rw[if_neg k2] at h2; simp at h2
     obtain ⟨e1,e2⟩:=zagj har'.1 hb hbb;rw[← q3,zaa5,e1] at h2;simp[encs] at h2
    ·exact hge
   have hwrap:IntKind.wrap IntKind.i64 ((ds.length:Int)+((sgn (encs (r::es))).length:Int))=(ds.length:Int)+((sgn (encs (r::es))).length:Int):=by
    rw[List.length_append] at hlr;rw[i64_in _ (by omega)]
   rw[hwrap];refine ⟨_,_,rfl,rfl,fun _=>⟨rfl,(r::es).take (sgn (encs (r::es))).length,?_,?_,?_⟩⟩
   ·intro hh;have:=congrArg List.length hh;rw[List.length_take,List.length_cons,List.length_nil] at this;omega
   ·unfold restR;rw[List.headD_cons,hg,cond_false,List.take_append_drop]
   ·rw[List.length_take];omega
end Lift.A1P
namespace Lift.A1P
open Go Go.RowKit Lift Go.IntWalk Lift.Fn
theorem noteR (text:List UInt8) (a3 a4:Int) (a5:List UInt8) (a6:List Token):∀ (es ds:List Int) (n:Nat),es.length<n→(ds++es).length≤9000000 →
  qaY_i11 n text (put (ds++es) s0).1 (ds.length:Int) a3 a4 a5 a6=some (text,(put (ds++es) s0).1,(ds.length:Int)+((es.takeWhile (fun r=>r != 10)).length:Int),a3,a4,a5,a6)
 |[],ds,n,hn,hl=>by
  obtain ⟨n,rfl⟩:∃ q,n=q+1:=⟨n-1,by simp at hn; omega⟩;simp only[qaY_i11,qaY_t11,zadm,List.append_nil];rw[decide_eq_false (by omega),cond_false];simp
 |r::es,ds,n,hn,hl=>by
  obtain ⟨n,rfl⟩:∃ q,n=q+1:=⟨n-1,by simp at hn; omega⟩;obtain ⟨s,h1,h2,_⟩:=zagp ds r es;simp only[qaY_i11,qaY_t11,zadm];rw[decide_eq_true (by rw[List.length_append,List.length_cons]; omega),cond_true,decide_eq_true (by omega),cond_true,Int.toNat_natCast,h1,Option.bind_some,h2,List.takeWhile_cons];cases hr:(r != 10) with
  |true=>
   rw[List.length_append,List.length_cons] at hl;have ih:=noteR text a3 a4 a5 a6 es (ds++[r]) n (by simp at hn; omega) (by rw[List.append_assoc,List.singleton_append,List.length_append,List.length_cons]; omega);rw[List.append_assoc,List.singleton_append,List.length_append,List.length_cons,List.length_nil] at ih;rw[cond_true,i64_in ((ds.length:Int)+1) (by omega)];rw[show ((ds.length+(0+1):Nat):Int)=(ds.length:Int)+1 by omega] at ih;rw[ih,if_pos rfl,List.length_cons];congr 4;omega
  |false=>
   rw[cond_false,if_neg (by decide)];simp
theorem zauo (l:List Int):skip true l=skip false (l.dropWhile (fun r=>r != 10)):=by
 induction l with
 |nil=>rfl
 |cons r l ih=>
  rw[List.dropWhile_cons];simp only[skip];cases hr:(r != 10) with
  |true=>rw[if_pos rfl]; exact ih
  |false=>
   have:r=10:=by simpa using hr
   subst this;rw[if_neg (by decide)];simp only[skip];rw[if_neg (by decide),if_pos (by decide)]
theorem zaw1 (a3 a4:Int) (a5:List UInt8):∀ (k n:Nat) (es ds:List Int) (out:List Token),es.length≤k→k<n→(ds++es).all Sp.isRune=true→(encs (ds++es)).length≤4000→out.length≤ds.length →
  qaY_i6 n (encs (ds++es)) (put (ds++es) s0).1 (ds.length:Int) a3 a4 a5 out =
   some (match toks es.length (((encs ds).length:Int)+((encs es).length:Int)-((encs (skip false es)).length:Int)) (skip false es) with|.inl e=>.inl (e.1,e.2,[])|.inr l=>.inr (encs (ds++es),a3,a4,a5,out++l)):=by
 intro k
 have fin:∀ (n:Nat) (ds:List Int) (out:List Token),qaY_i6 (n+1) (encs (ds++[])) (put (ds++[]) s0).1 (ds.length:Int) a3 a4 a5 out =
   some (match toks ([]:List Int).length (((encs ds).length:Int)+((encs []).length:Int)-((encs (skip false [])).length:Int)) (skip false []) with|.inl e=>.inl (e.1,e.2,[])|.inr l=>.inr (encs (ds++[]),a3,a4,a5,out++l)):=by
  intro n ds out;simp only[qaY_i6,qaY_t6,zadm,List.append_nil];rw[decide_eq_false (by omega),cond_false];simp only[skip,List.length_nil,toks,List.append_nil]
 induction k with
 |zero=>
  intro n es ds out hk hn ha hl ho;obtain ⟨n,rfl⟩:∃ q,n=q+1:=⟨n-1,by omega⟩;match es,hk with
  |[],_=>exact fin n ds out
 |succ k ih=>
  intro n es ds out hk hn ha hl ho;obtain ⟨n,rfl⟩:∃ q,n=q+1:=⟨n-1,by omega⟩;match es,hk,ha,hl with
  |[],_,_,_=>exact fin n ds out
  |r::es,hk,ha,hl=>
   have har:=zabb ha;have har':=har;simp only[List.all_cons,Bool.and_eq_true] at har';obtain ⟨s,h1,h2,h3⟩:=zagp ds r es;have hlr:=zab1 (ds++r::es);rw[List.length_append,List.length_cons] at hlr;have hlen:(encs (ds++r::es)).length=(encs ds).length+(encs (r::es)).length:=by rw[zaak,List.length_append]
   have hone:(encs (r::es)).length=(encB r).length+(encs es).length:=by rw[zaa5,List.length_append]
   have hds1:(encs (ds++[r])).length=(encs ds).length+(encB r).length:=by rw[zaak,List.length_append,zaa5,List.length_append]; simp[encs]
   simp only[List.length_cons] at hk;simp only[qaY_i6,qaY_t6,zadm];rw[decide_eq_true (by rw[List.length_append,List.length_cons]; omega),cond_true,decide_eq_true (by omega),cond_true,Int.toNat_natCast,h1,Option.bind_some,h2,zax9,Option.bind_some];simp only[Option.bind_some,h2,cond_true];cases hb:Sp.blank r with
   |true=>
    have h35:r≠35:=by intro h; subst h; exact absurd hb (by decide)
    have hsk:skip false (r::es)=skip false es:=by simp only[skip]; rw[if_neg h35,if_pos hb]
    have i1:=ih n es (ds++[r]) out (by omega) (by omega) (by rw[List.append_assoc,List.singleton_append]; exact ha) (by rw[List.append_assoc,List.singleton_append]; exact hl) (by rw[List.length_append]; omega);rw[List.append_assoc,List.singleton_append,List.length_append,List.length_cons,List.length_nil] at i1;rw[cond_true,i64_in ((ds.length:Int)+1) (by omega),hsk];rw[show ((ds.length+(0+1):Nat):Int)=(ds.length:Int)+1 by omega,hds1] at i1;rw[i1,hone,List.length_cons];have hS:(skip false es).all Sp.isRune=true:=by
     obtain ⟨fs,hfs⟩:=zaa4 es false;exact zabb (ds:=fs) (by rw[← hfs]; exact har'.2)
    have hsl:(skip false es).length≤es.length:=by
     obtain ⟨fs,hfs⟩:=zaa4 es false;have:=congrArg List.length hfs;rw[List.length_append] at this;omega
    rw[zahe (es.length+1) es.length _ _ hS (by omega) hsl];rw[show (((encs ds).length+(encB r).length:Nat):Int)+((encs es).length:Int)-((encs (skip false es)).length:Int)=((encs ds).length:Int)+(((encB r).length+(encs es).length:Nat):Int)-((encs (skip false es)).length:Int) by omega]
   |false=>
    rw[cond_false];by_cases h35:r=35
    ·subst h35;have e35:((35:Int)==35)=true:=by decide
     rw[e35,cond_true,qaY_l11,zaaa,noteR (encs (ds++35::es)) a3 a4 a5 out (35::es) ds fuel (by simp only[List.length_cons]; unfold fuel; omega) (by rw[List.length_append,List.length_cons]; omega),Option.bind_some];simp only;have htd:=List.takeWhile_append_dropWhile (p:=fun r:Int=>r != 10) (l:=35::es);have ht1:0<((35::es).takeWhile (fun r:Int=>r != 10)).length:=by
      rw[List.takeWhile_cons,if_pos (by decide)]; simp
     have hll:=congrArg List.length htd;rw[List.length_append,List.length_cons] at hll;have hdd:(ds++(35::es).takeWhile (fun r:Int=>r != 10))++(35::es).dropWhile (fun r:Int=>r != 10)=ds++35::es:=by rw[List.append_assoc,htd]
     have i1:=ih n ((35::es).dropWhile (fun r:Int=>r != 10)) (ds++(35::es).takeWhile (fun r:Int=>r != 10)) out (by omega) (by omega) (by rw[hdd]; exact ha) (by rw[hdd]; exact hl) (by rw[List.length_append]; omega);rw[hdd,List.length_append] at i1;rw[show ((ds.length+((35::es).takeWhile (fun r:Int=>r != 10)).length:Nat):Int)=(ds.length:Int)+(((35::es).takeWhile (fun r:Int=>r != 10)).length:Int) by omega] at i1;rw[i1];have hsk:skip false (35::es)=skip false ((35::es).dropWhile (fun r:Int=>r != 10)):=by
      rw[← zauo];simp only[skip];rw[if_pos trivial];have:((35:Int) != 10)=true:=by decide
      rw[this]
     have hle:(encs (35::es)).length=(encs ((35::es).takeWhile (fun r:Int=>r != 10))).length+(encs ((35::es).dropWhile (fun r:Int=>r != 10))).length:=by
      conv=>lhs; rw[← htd]
      rw[zaak,List.length_append]
     have hde:(encs (ds++(35::es).takeWhile (fun r:Int=>r != 10))).length=(encs ds).length+(encs ((35::es).takeWhile (fun r:Int=>r != 10))).length:=by rw[zaak,List.length_append]
     have hD:((35::es).dropWhile (fun r:Int=>r != 10)).all Sp.isRune=true:=zabb (ds:=(35::es).takeWhile (fun r:Int=>r != 10)) (by rw[htd]; exact har);have hS:(skip false ((35::es).dropWhile (fun r:Int=>r != 10))).all Sp.isRune=true:=by
      obtain ⟨fs,hfs⟩:=zaa4 ((35::es).dropWhile (fun r:Int=>r != 10)) false;exact zabb (ds:=fs) (by rw[← hfs]; exact hD)
     have hsl:(skip false ((35::es).dropWhile (fun r:Int=>r != 10))).length≤((35::es).dropWhile (fun r:Int=>r != 10)).length:=by
      obtain ⟨fs,hfs⟩:=zaa4 ((35::es).dropWhile (fun r:Int=>r != 10)) false;have:=congrArg List.length hfs;rw[List.length_append] at this;omega
     rw[hsk,hde,hle,zahe (35::es).length ((35::es).dropWhile (fun r:Int=>r != 10)).length _ _ hS (by simp only[List.length_cons]; omega) hsl];rw[show (((encs ds).length+(encs ((35::es).takeWhile (fun r:Int=>r != 10))).length:Nat):Int)+((encs ((35::es).dropWhile (fun r:Int=>r != 10))).length:Int)=((encs ds).length:Int)+(((encs ((35::es).takeWhile (fun r:Int=>r != 10))).length+(encs ((35::es).dropWhile (fun r:Int=>r != 10))).length:Nat):Int) by omega]
    ·have e35:(r==35)=false:=by simp[h35]
     have hsk:skip false (r::es)=r::es:=by simp[skip,h35,hb]
     obtain ⟨T,i,t1,t2,t3⟩:=zaye ds r es ha hl;rw[e35,cond_false,t1,Option.bind_some,hsk,show (r::es).length=es.length+1 from rfl];simp only[toks];cases hc:((tokR (r::es)).2 != 0) with
     |true=>
      have e:((encs ds).length:Int)+((encs (r::es)).length:Int)-((encs (r::es)).length:Int)=((encs ds).length:Int):=by omega
      rw[cond_true,cond_true,t2,e]
     |false=>
      have h0:(tokR (r::es)).2=0:=by simpa using hc
      obtain ⟨t4,w,hw,hsp,t5⟩:=t3 h0;rw[cond_false,cond_false,decide_eq_true (by simp only[List.length_cons,List.length_nil]; omega),cond_true];have hll:=congrArg List.length hsp;rw[List.length_append,List.length_cons] at hll;have hwl:0<w.length:=List.length_pos_iff.2 hw;have hww:w.length≤es.length+1:=by omega
      have hde:(encs (ds++w)).length=(encs ds).length+(encs w).length:=by rw[zaak,List.length_append]
      have hle:(encs (r::es)).length=(encs w).length+(encs (restR (r::es))).length:=by
       conv=>lhs; rw[hsp]
       rw[zaak,List.length_append]
      have hdd:(ds++w)++restR (r::es)=ds++r::es:=by rw[List.append_assoc,← hsp]
      have i1:=ih n (restR (r::es)) (ds++w) (out++[⟨T.kind,T.text,T.num,T.at_⟩]) (by omega) (by omega) (by rw[hdd]; exact ha) (by rw[hdd]; exact hl) (by simp only[List.length_append,List.length_cons,List.length_nil]; omega);rw[hdd,List.length_append] at i1;rw[show ((ds.length+w.length:Nat):Int)=i by rw[t5]; omega] at i1;rw[i1];have hR:(restR (r::es)).all Sp.isRune=true:=zabb (ds:=w) (by rw[← hsp]; exact har);have hS:(skip false (restR (r::es))).all Sp.isRune=true:=by
       obtain ⟨fs,hfs⟩:=zaa4 (restR (r::es)) false;exact zabb (ds:=fs) (by rw[← hfs]; exact hR)
      have hsl:(skip false (restR (r::es))).length≤(restR (r::es)).length:=by
       obtain ⟨fs,hfs⟩:=zaa4 (restR (r::es)) false;have:=congrArg List.length hfs;rw[List.length_append] at this;omega
      rw[zahe (restR (r::es)).length es.length _ _ hS hsl (by omega),hde]
      rw[show (((encs ds).length+(encs w).length:Nat):Int)+((encs (restR (r::es))).length:Int)-((encs (skip false (restR (r::es)))).length:Int) =
       ((encs ds).length:Int)+((encs (r::es)).length:Int)-((encs (r::es)).length:Int)+((encs (r::es)).length:Int)-((encs (skip false (restR (r::es)))).length:Int) by omega]
      rw[show ((encs ds).length:Int)+((encs (r::es)).length:Int)-((encs (r::es)).length:Int)=((encs ds).length:Int) by omega];cases toks es.length (((encs ds).length:Int)+((encs (r::es)).length:Int)-((encs (skip false (restR (r::es)))).length:Int)) (skip false (restR (r::es))) with
      |inl e=>rfl
      |inr l=>simp only[List.append_assoc,List.singleton_append]; rw[t4]
theorem tokens2 (t:List UInt8):qaY t=qax t:=by
 rcases zakr t with ⟨h1,h2⟩|⟨h0,rs,rest,_,_,_,_,h1,h2⟩|⟨h0,rs,rfl,ha,h1,h2⟩
 ·rw[zage t (by rw[h2]; decide),qaY,zaaa];unfold qaY_f;rw[zanf,Option.bind_some,h2];rfl
 ·rw[zage t (by rw[h2]; show (11:Int)≠0; decide),qaY,zaaa];unfold qaY_f;rw[zanf,Option.bind_some,h2];rfl
 ·obtain ⟨q1,q2⟩:=zalp rs ha h0;have hlr:=zab1 rs;have hR:=zaw1 0 0 [] rs.length fuel rs [] [] (Nat.le_refl _) (by unfold fuel; omega) ha h0 (by simp);simp only[List.nil_append,List.length_nil] at hR;rw[zank rs ha h0,qaY,zaaa];unfold qaY_f;rw[zanf,Option.bind_some,q1,q2];simp only[bne_self_eq_false,cond_false];rw[qaY_l6,zaaa];rw[show ((0:Nat):Int)=0 from rfl] at hR;rw[hR,Option.bind_some];have e:((encs ([]:List Int)).length:Int)+((encs rs).length:Int)-((encs (skip false rs)).length:Int)=((encs rs).length:Int)-((encs (skip false rs)).length:Int):=by simp[encs]
  rw[e];have hS:(skip false rs).all Sp.isRune=true:=by
   obtain ⟨fs,hfs⟩:=zaa4 rs false;exact zabb (ds:=fs) (by rw[← hfs]; exact ha)
  have hsl:(skip false rs).length≤rs.length:=by
   obtain ⟨fs,hfs⟩:=zaa4 rs false;have:=congrArg List.length hfs;rw[List.length_append] at this;omega
  cases ht:toks rs.length (((encs rs).length:Int)-((encs (skip false rs)).length:Int)) (skip false rs) with
  |inl e=>rfl
  |inr l=>
   have:=zai0 _ _ _ hS l ht;simp only;rw[decide_eq_true (by simp only[List.length_cons,List.length_nil]; omega),cond_true]
theorem tokens_any (t:List UInt8):∃ f l,qax t=some (f,l)∧l.length≤4001:=by
 rcases zakr t with ⟨h1,h2⟩|⟨h0,rs,rest,_,_,_,_,h1,h2⟩|⟨h0,rs,rfl,ha,h1,h2⟩
 ·rw[zage t (by rw[h2]; decide)]; exact ⟨_,_,rfl,by simp⟩
 ·rw[zage t (by rw[h2]; show (11:Int)≠0; decide)]; exact ⟨_,_,rfl,by simp⟩
 ·rw[zank rs ha h0];have hlr:=zab1 rs;have hS:(skip false rs).all Sp.isRune=true:=by
   obtain ⟨fs,hfs⟩:=zaa4 rs false;exact zabb (ds:=fs) (by rw[← hfs]; exact ha)
  have hsl:(skip false rs).length≤rs.length:=by
   obtain ⟨fs,hfs⟩:=zaa4 rs false;have:=congrArg List.length hfs;rw[List.length_append] at this;omega
  cases ht:toks rs.length (((encs rs).length:Int)-((encs (skip false rs)).length:Int)) (skip false rs) with
  |inl e=>exact ⟨_,_,rfl,by simp⟩
  |inr l=>
   have:=zai0 _ _ _ hS l ht;exact ⟨_,_,rfl,by rw[List.length_append,List.length_cons,List.length_nil]; omega⟩
end Lift.A1P
namespace Lift.A3
open Go Go.RowKit Lift Go.IntWalk Lift.Fn
set_option linter.unusedVariables false
set_option linter.unusedSimpArgs false
theorem zasn (t:List UInt8):∃ b,qbL t=some b:=by
 obtain ⟨f,l,e,hl⟩:=Lift.A1P.tokens_any t;rw[qbL,zaaa];unfold qbL_f;rw[e];cases decide (((t.length:Nat):Int)>64) with
 |true=>exact ⟨false,rfl⟩
 |false=>
 simp only[cond_false,Option.bind_some];cases f.code==0 with
 |false=>exact ⟨false,rfl⟩
 |true=>
 match l with
 |[]=>exact ⟨false,rfl⟩
 |[a]=>exact ⟨false,rfl⟩
 |a::b::c::l=>
  have:((((a::b::c::l:List Token).length:Nat):Int)==2)=false:=by
   rw[beq_eq_false_iff_ne]; simp only[List.length_cons]; omega
  rw[this];exact ⟨false,rfl⟩
 |[a,b]=>
  have:((([a,b]:List Token).length:Int)==2)=true:=rfl;simp only[this,cond_true,Option.bind_some];have h2:(decide ((0:Int)≤0)&&decide ((0:Int)<(([a,b]:List Token).length:Int)))=true:=rfl;simp only[h2,cond_true,List.getElem?_cons_zero,Option.bind_some];cases (a.kind==1) with
  |false=>exact ⟨false,rfl⟩
  |true=>exact ⟨a.text==t,rfl⟩
theorem zata (t:List UInt8):qaX t=qbL t:=by
 obtain ⟨f,l,e,hl⟩:=Lift.A1P.tokens_any t;rw[qbL,qaX,zaaa,zaaa];unfold qbL_f qaX_f;rw[Lift.A1P.tokens2,e];cases decide (((t.length:Nat):Int)>64) with
 |true=>rfl
 |false=>
 simp only[cond_false,Option.bind_some];cases f.code==0 with
 |false=>rfl
 |true=>
 match l with
 |[]=>rfl
 |[a]=>rfl
 |a::b::c::l=>
  have:((((a::b::c::l:List Token).length:Nat):Int)==2)=false:=by
   rw[beq_eq_false_iff_ne]; simp only[List.length_cons]; omega
  rw[this];rfl
 |[a,b]=>
  have:((([a,b]:List Token).length:Int)==2)=true:=rfl;simp only[this,cond_true,Option.bind_some];have h2:(decide ((0:Int)≤0)&&decide ((0:Int)<(([a,b]:List Token).length:Int)))=true:=rfl;simp only[h2,cond_true,List.getElem?_cons_zero,Option.bind_some];cases (a.kind==1)<;>rfl
noncomputable def isNm (t:List UInt8):Bool:=(qbL t).getD false
theorem zagl (t:List UInt8):qbL t=some (isNm t):=by
 obtain ⟨b,e⟩:=zasn t;rw[isNm,e];rfl
theorem zagk (t:List UInt8):qaX t=some (isNm t):=by
 rw[zata,zagl]
end Lift.A3
namespace Lift.A3
open Go Go.RowKit Lift Go.IntWalk Lift.Fn
set_option linter.unusedVariables false
set_option linter.unusedSimpArgs false
theorem zaa9 {α:Type} (c:Bool) (a b:α):(bif c then some a else some b)=some (bif c then a else b):=by cases c<;>rfl
theorem cand (a b:Bool):(bif a then b else false)=(a&&b):=by cases a<;>rfl
theorem cor (a b:Bool):(bif a then true else b)=(a||b):=by cases a<;>rfl
noncomputable def xOk (x:TExpr):Bool:=
 bif x.kind==1 then ((decide (x.num≥0)&&decide (x.num≤2147483647))&&x.name==[])&&((x.args.length:Int)==0)
 else bif x.kind==2 then (isNm x.name&&x.num==0)&&((x.args.length:Int)==0)
 else bif (x.kind==3||x.kind==4) then (((decide (x.kind≥3)&&decide (x.kind≤17))&&((x.args.length:Int)==1))&&x.num==0)&&x.name==[]
 else (((decide (x.kind≥3)&&decide (x.kind≤17))&&((x.args.length:Int)==2))&&x.num==0)&&x.name==[]
theorem zaxe (x:TExpr):qbG x=some (xOk x):=by
 rw[qbG,zaaa];unfold qbG_f xOk;simp only[zagl,zaa9,Option.bind_some,cand,cor]
mutual
noncomputable def eF:TExpr→Bool
 |⟨k,n,m,l⟩=>xOk ⟨k,n,m,l⟩&&eFs l
noncomputable def eFs:List TExpr→Bool
 |[]=>true
 |x::l=>eF x&&eFs l
end
theorem zasb:∀ l,eFs l=l.all eF
 |[]=>by rw[eFs]; rfl
 |x::l=>by rw[eFs,List.all_cons,zasb l]
theorem eF_eq (x:TExpr):eF x=(xOk x&&x.args.all eF):=by cases x; rw[eF,zasb]
theorem zadz {α τ:Type} (f:α→Bool) (l:List α) (e:τ) (L:Nat→Int→Option (Bool⊕τ))
  (h0:∀ n i,0≤i→¬ i<(l.length:Int)→L (n+1) i=some (.inr e))
  (h1:∀ n i x,0≤i→i<(l.length:Int)→l[i.toNat]? = some x→x∈l→L (n+1) i=bif f x then L n (i+1) else some (.inl false))
  (n:Nat) (hn:l.length<n):L n 0=some (bif l.all f then .inr e else .inl false):=by
 exact zaa7 (σ := Unit) l (fun _ _ => True) (fun q _ => (bif q.all f then .inr e else .inl false : Bool ⊕ τ)) (fun m i _ => L m i)
  (fun m i s h h' _=>h0 m i h h')
  (fun m i s x q h h' hp hm _=>by
   have:=h1 m i x h h' hp hm;cases hf:f x with
   |true=>
    rw[hf,cond_true] at this;exact Or.inl ⟨(),trivial,this,by rw[List.all_cons,hf,Bool.true_and]⟩
   |false=>
    rw[hf,cond_false] at this;refine Or.inr ?_;rw[List.all_cons,hf,Bool.false_and];exact this)
  n () hn trivial
theorem zavp:∀ (k n:Nat) (x:TExpr),nE x≤k→k<n→k≤100000000→qba_i n x=some (eF x):=by
 intro k;induction k with
 |zero=>intro n x h; have:=nE_eq x; omega
 |succ k ih=>
  intro n x h hn hb;obtain ⟨n,rfl⟩:∃ q,n=q+1:=⟨n-1,by omega⟩;have hx:=nE_eq x;have hl:=zadf x.args
  have hL := zadz eF x.args () (fun m i => qba_i14 (qba_i n) m i x.kind x.num x.name x.args)
    (fun m i h0 h=>by
     simp only[qba_i14,qba_t14,decide_eq_false h,cond_false])
    (fun m i a h0 h ha ma=>by
     have:=zadj ma;simp only[qba_i14,qba_t14,decide_eq_true h,decide_eq_true h0,cond_true,ha,Option.bind_some];rw[ih n a (by omega) (by omega) (by omega),Option.bind_some,i64_in (i+1) (by omega)];cases eF a<;>rfl)
    fuel (by unfold fuel; omega)
  have e14:qba_l14 (qba_i n) 0 x.kind x.num x.name x.args=some (bif x.args.all eF then .inr () else .inl false):=by
   rw[qba_l14,zaaa];exact hL
  have em:∀ b:Bool,(match (bif b then Sum.inr () else Sum.inl false:Bool⊕Unit) with|.inl y=>some y|.inr _=>some true)=some b:=by intro b; cases b<;>rfl
  show qba_f (qba_i n) x=_;unfold qba_f;rw[eF_eq,xOk];have nil:∀ {b:Bool},(b&&((x.args.length:Int)==0))=((b&&((x.args.length:Int)==0))&&x.args.all eF):=by
   intro b;cases he:((x.args.length:Int)==0) with
   |false=>simp
   |true=>
    have:x.args=[]:=List.eq_nil_of_length_eq_zero (by have:=eq_of_beq he; omega);rw[this];simp
  cases h1:x.kind==1 with
  |true=>
   simp only[zaa9,Option.bind_some,cand,cor,cond_true];rw[← nil]
  |false=>
  cases h2:x.kind==2 with
  |true=>
   simp only[zaa9,Option.bind_some,cand,cor,cond_true,cond_false,zagk];rw[← nil]
  |false=>
  have n1:x.kind≠1:=by simpa using h1
  have n2:x.kind≠2:=by simpa using h2
  have hk:(decide (x.kind<1)||decide (x.kind>17))=!(decide (x.kind≥3)&&decide (x.kind≤17)):=by
   rw[Bool.eq_iff_iff];simp only[Bool.or_eq_true,Bool.not_eq_true',Bool.and_eq_false_iff,decide_eq_true_eq,decide_eq_false_iff_not];omega
  simp only[zaa9,Option.bind_some,cand,cor,cond_false,e14,em,bne];simp only[hk];cases h3:x.kind==3 with
  |true=>
   simp only[cond_true,Bool.true_or];cases (decide (x.kind≥3)&&decide (x.kind≤17))<;>cases (x.num==0)<;>cases (x.name==[])<;>cases ((x.args.length:Int)==1)<;>simp<;>cases (x.args.all eF)<;>rfl
  |false=>
  cases h4:x.kind==4 with
  |true=>
   simp only[cond_true,cond_false,Bool.false_or];cases (decide (x.kind≥3)&&decide (x.kind≤17))<;>cases (x.num==0)<;>cases (x.name==[])<;>cases ((x.args.length:Int)==1)<;>simp<;>cases (x.args.all eF)<;>rfl
  |false=>
   simp only[cond_true,cond_false,Bool.false_or];cases (decide (x.kind≥3)&&decide (x.kind≤17))<;>cases (x.num==0)<;>cases (x.name==[])<;>cases ((x.args.length:Int)==2)<;>simp<;>cases (x.args.all eF)<;>rfl
theorem zaqx (x:TExpr) (h:nE x≤100000000):qba x=some (eF x):=by
 rw[qba,zaaa,zavp (nE x) fuel x (Nat.le_refl _) (by unfold fuel; omega) (by omega)]
end Lift.A3
namespace Lift.A3
open Go Go.RowKit Lift Go.IntWalk Lift.Fn
set_option linter.unusedVariables false
set_option linter.unusedSimpArgs false
def shs:List (Int×Shape):=(zaau (11:Int) (Shape.mk false false false true true false) (zaau (10:Int) (Shape.mk false false true false true true) (zaau (9:Int) (Shape.mk false false true false false false) (zaau (8:Int) (Shape.mk false true false false false false) (zaau (7:Int) (Shape.mk false true false false false false) (zaau (6:Int) (Shape.mk false true false false false false) (zaau (5:Int) (Shape.mk false true false false false false) (zaau (4:Int) (Shape.mk true true true false false false) (zaau (3:Int) (Shape.mk false true true false false false) (zaau (2:Int) (Shape.mk true true false false false false) (zaau (1:Int) (Shape.mk true false true false false false) [])))))))))))
def shp (k:Int):Shape:=Option.getD (mapAt shs k) (Shape.mk false false false false false false)
def inR (k:Int):Bool:=!(decide (k<1)||decide (k>11))
def sFld (k:Int):Bool×Bool×Bool×Bool×Bool×Bool:=((shp k).reg,(shp k).name,(shp k).expr,(shp k).count,(shp k).then_,(shp k).other)
theorem zaw0:qbM=some shs:=by rw[qbM,zaaa]; rfl
theorem zavy (k:Int):Option.isSome (mapAt shs k)=inR k:=by
 by_cases h:1≤k∧k≤11
 ·obtain ⟨h1,h2⟩:=h;have:k=1∨k=2∨k=3∨k=4∨k=5∨k=6∨k=7∨k=8∨k=9∨k=10∨k=11:=by omega
  rcases this with rfl|rfl|rfl|rfl|rfl|rfl|rfl|rfl|rfl|rfl|rfl<;>decide
 ·have e:inR k=false:=by
   unfold inR;rw[Bool.not_eq_false',Bool.or_eq_true,decide_eq_true_eq,decide_eq_true_eq];omega
  rw[e];have hs:shs=[(1,Shape.mk true false true false false false),(2,Shape.mk true true false false false false),(3,Shape.mk false true true false false false),(4,Shape.mk true true true false false false),(5,Shape.mk false true false false false false),(6,Shape.mk false true false false false false),(7,Shape.mk false true false false false false),(8,Shape.mk false true false false false false),(9,Shape.mk false false true false false false),(10,Shape.mk false false true false true true),(11,Shape.mk false false false true true false)]:=by decide
  have n:∀ c:Int,1≤c→c≤11→(c==k)=false:=by
   intro c h1 h2;rw[beq_eq_false_iff_ne];omega
  rw[hs];unfold mapAt;simp[List.find?_cons,n]
theorem zaxf (k:Int) (h:inR k=true):qbc k=some (sFld k):=by
 rw[qbc,zaaa];have:k=1∨k=2∨k=3∨k=4∨k=5∨k=6∨k=7∨k=8∨k=9∨k=10∨k=11:=by
  unfold inR at h;rw[Bool.not_eq_true',Bool.or_eq_false_iff,decide_eq_false_iff_not,decide_eq_false_iff_not] at h;omega
 rcases this with rfl|rfl|rfl|rfl|rfl|rfl|rfl|rfl|rfl|rfl|rfl<;>decide
def none_ (x:TExpr):Bool:=((x.kind==0&&x.num==0)&&x.name==[])&&((x.args.length:Int)==0)
noncomputable def isOpt (t:List UInt8) (b:Bool):Bool:=(b&&isNm t)||(!b&&t==[])
theorem is1 (t:List UInt8) (b:Bool):qbK t b=some (isOpt t b):=by
 rw[qbK,zaaa];unfold qbK_f isOpt;simp only[zagl,zaa9,Option.bind_some,cand,cor]
noncomputable def sOk (y:TStmt):Bool:=
 ((((((inR y.kind&&isOpt y.reg (shp y.kind).reg)&&isOpt y.name (shp y.kind).name)&&(((shp y.kind).expr&&y.expr.kind != 0)||(!(shp y.kind).expr&&none_ y.expr))) &&
  (y.count==0||(((shp y.kind).count&&decide (y.count>0))&&decide (y.count≤1000))))&&((shp y.kind).then_||((y.then_.length:Int)==0)))&&((shp y.kind).other||((y.else_.length:Int)==0)))
theorem zawq (y:TStmt):qbN y=some (sOk y):=by
 rw[qbN,zaaa];unfold qbN_f sOk;simp only[zaw0,is1,zaa9,Option.bind_some,cand,cor,zavy];rfl
theorem none1 (x:TExpr):qbe x=some (none_ x):=by
 rw[qbe,zaaa];unfold qbe_f none_;simp only[zaa9,Option.bind_some,cand,cor]
mutual
noncomputable def sF:TStmt→Bool
 |⟨k,r,m,x,c,t,o⟩=>sOk ⟨k,r,m,x,c,t,o⟩&&((if zaan x then eF x else true)&&(sFs t&&sFs o))
noncomputable def sFs:List TStmt→Bool
 |[]=>true
 |x::l=>sF x&&sFs l
end
theorem zasc:∀ l,sFs l=l.all sF
 |[]=>by rw[sFs]; rfl
 |x::l=>by rw[sFs,List.all_cons,zasc l]
theorem sF_eq (y:TStmt):sF y=(sOk y&&((if zaan y.expr then eF y.expr else true)&&(sFs y.then_&&sFs y.else_))):=by cases y; rw[sF]
noncomputable def evOk:Ev→Bool
 |.s x _=>sOk x
 |.e x _=>xOk x
mutual
theorem evOkE:∀ (x:TExpr) (d:Int),(evE x d).all evOk=eF x
 |⟨k,n,m,l⟩,d=>by rw[evE,List.all_cons,zaut l (d+1),eF]; rfl
theorem zaut:∀ (l:List TExpr) (d:Int),(evEs l d).all evOk=eFs l
 |[],d=>by rw[evEs,eFs]; rfl
 |x::l,d=>by rw[evEs,List.all_append,evOkE x d,zaut l d,eFs]
end
mutual
theorem evOkS:∀ (x:TStmt) (d:Int),(evS x d).all evOk=sF x
 |⟨k,r,m,x,c,t,o⟩,d=>by
  rw[evS,List.all_cons,List.all_append,List.all_append,zam7 t (d+1),zam7 o (d+1),sF];cases zaan x with
  |true=>rw[if_pos rfl,if_pos rfl,evOkE]; rfl
  |false=>rw[if_neg (by simp),if_neg (by simp)]; rfl
theorem zam7:∀ (l:List TStmt) (d:Int),(evSs l d).all evOk=sFs l
 |[],d=>by rw[evSs,sFs]; rfl
 |x::l,d=>by rw[evSs,List.all_append,evOkS x d,zam7 l d,sFs]
end
theorem zan4 : ∀ (l : List Ev) (b : Bool), l.foldlM (atEv (fun (x : TStmt) (d : Int) (s : Bool) => qbI x d s) (fun (x : TExpr) (d : Int) (s : Bool) => qbJ x d s)) b = some (b && l.all evOk)
 |[],b=>by simp
 |e::l,b=>by
  have e1:atEv (fun (x:TStmt) (d:Int) (s:Bool)=>qbI x d s) (fun (x:TExpr) (d:Int) (s:Bool)=>qbJ x d s) b e=some (b&&evOk e):=by
   cases e with
   |s x d=>show qbI x d b=_; rw[qbI,zaaa]; unfold qbI_f; simp only[zawx,zawq,zaa9,Option.bind_some,cand]; rfl
   |e x d=>show qbJ x d b=_; rw[qbJ,zaaa]; unfold qbJ_f; simp only[zaay,zaxe,zaa9,Option.bind_some,cand]; rfl
  rw[List.foldlM_cons,e1];show List.foldlM _ (b&&evOk e) l=_;rw[zan4 l _,List.all_cons,Bool.and_assoc]
noncomputable def cOk (c:TCell):Bool:=(isNm c.name&&decide (c.init≥-2147483647))&&decide (c.init≤2147483647)
noncomputable def pOk (p:TProg):Bool:=p.cells.all cOk&&(p.mutexes.all isNm&&p.threads.all fun t=>isNm t.name&&sFs t.body)
theorem zan9 {α : Type} (f g : α → Bool) : ∀ l : List α, (l.all fun t => f t && g t) = (l.all f && l.all g)
 |[]=>rfl
 |x::l=>by
  rw[List.all_cons,List.all_cons,List.all_cons,zan9 f g l];cases f x<;>cases g x<;>cases l.all f<;>rfl
theorem zavi (p:TProg) (h:nT p.threads≤100000000) (h1:p.cells.length≤100000000) (h2:p.mutexes.length≤100000000):qbH p=some (pOk p):=by
 rw[qbH,zaaa];unfold qbH_f;have hl:=zac6 p.threads
 have e1 := zaa7 (σ := Bool) p.cells (fun _ _ => True) (fun r s => (p.cells, p.mutexes, p.threads, s && r.all cOk)) (fun m i s => qbH_i3 m p.cells p.cells.length i p.cells p.mutexes p.threads s)
  (fun m i s h0 h hI=>by simp only[qbH_i3,qbH_t3,decide_eq_false h,cond_false,List.all_nil,Bool.and_true])
  (fun m i s y r h0 h hy hm hI=>by
   refine Or.inl ⟨s&&cOk y,trivial,?_,by rw[List.all_cons,Bool.and_assoc]⟩;simp only[qbH_i3,qbH_t3,decide_eq_true h,decide_eq_true h0,hy,Option.bind_some,cond_true,zagl,zaa9,cand];rw[i64_in (i+1) (by omega),cOk,Bool.and_assoc,Bool.and_assoc,Bool.and_assoc])
  fuel true (by unfold fuel; omega) trivial
 have e2 := fun s => zaa7 (σ := Bool) p.mutexes (fun _ _ => True) (fun r s => (p.cells, p.mutexes, p.threads, s && r.all isNm)) (fun m i s => qbH_i8 m p.mutexes p.mutexes.length i p.cells p.mutexes p.threads s)
  (fun m i s h0 h hI=>by simp only[qbH_i8,qbH_t8,decide_eq_false h,cond_false,List.all_nil,Bool.and_true])
  (fun m i s y r h0 h hy hm hI=>by
   refine Or.inl ⟨s&&isNm y,trivial,?_,by rw[List.all_cons,Bool.and_assoc]⟩;simp only[qbH_i8,qbH_t8,decide_eq_true h,decide_eq_true h0,hy,Option.bind_some,cond_true,zagl,zaa9,cand];rw[i64_in (i+1) (by omega)])
  fuel s (by unfold fuel; omega) trivial
 have e3 := fun s => zaa7 (σ := Bool) p.threads (fun _ _ => True) (fun r s => (p.cells, p.mutexes, p.threads, s && r.all fun t => isNm t.name)) (fun m i s => qbH_i13 m p.threads p.threads.length i p.cells p.mutexes p.threads s)
  (fun m i s h0 h hI=>by simp only[qbH_i13,qbH_t13,decide_eq_false h,cond_false,List.all_nil,Bool.and_true])
  (fun m i s y r h0 h hy hm hI=>by
   refine Or.inl ⟨s&&isNm y.name,trivial,?_,by rw[List.all_cons,Bool.and_assoc]⟩;simp only[qbH_i13,qbH_t13,decide_eq_true h,decide_eq_true h0,hy,Option.bind_some,cond_true,zagl,zaa9,cand];rw[i64_in (i+1) (by omega)])
  fuel s (by unfold fuel; omega) trivial
 rw[qbH_l3,zaaa,e1,Option.bind_some];simp only;rw[qbH_l8,zaaa,e2,Option.bind_some];simp only;rw[qbH_l13,zaaa,e3,Option.bind_some];simp only[zad1];rw[wP p _ (by omega),zan4];have ef:(evP p).all evOk=p.threads.all fun t=>sFs t.body:=by
  unfold evP;generalize p.threads=l;induction l with
  |nil=>rfl
  |cons t l ih=>rw[List.flatMap_cons,List.all_append,ih,List.all_cons,zam7]
 rw[ef,pOk,zan9];cases p.cells.all cOk<;>cases p.mutexes.all isNm<;>cases p.threads.all (fun t=>isNm t.name)<;>cases p.threads.all (fun t=>sFs t.body)<;>rfl
end Lift.A3
namespace Lift.A3
open Go Go.RowKit Lift Go.IntWalk Lift.Fn
set_option linter.unusedVariables false
set_option linter.unusedSimpArgs false
theorem bA:∀ (a b c d e f g h i:Bool),((((((a&&!b)||(!a&&!c))||(d&&!e))||(!d&&!f))||(g&&!h))||(!g&&!i))=!((((a&&b)||(!a&&c))&&((d&&e)||(!d&&f)))&&((g&&h)||(!g&&i))):=by decide
theorem bB:∀ (q1 q2 th tl ot ol:Bool),(((q1||q2)||(!th&&tl))||(!ot&&ol))=!(((!(q1||q2))&&(th||!tl))&&(ot||!ol)):=by decide
theorem bC:∀ (r o1 o2 o3 x q t e g s1 s2:Bool),(x&&g)=o3→(((((((r&&o1)&&o2)&&x)&&q)&&t)&&e)&&(g&&(s1&&s2)))=(r&&bif !((o1&&o2)&&o3) then false else bif !((q&&t)&&e) then false else (s1&&s2)):=by
 intro r o1 o2 o3 x q t e g s1 s2 h;subst h;revert r o1 o2 x q t e g s1 s2;decide
theorem cntEq (c:Int) (f:Bool):(c==0||((f&&decide (c>0))&&decide (c≤1000)))=!((f&&(decide (c<0)||decide (c>1000)))||(!f&&c != 0)):=by
 cases f with
 |true=>
  rw[Bool.eq_iff_iff];simp only[Bool.true_and,Bool.not_true,Bool.false_and,Bool.or_false,Bool.or_eq_true,Bool.and_eq_true,Bool.not_eq_true',Bool.or_eq_false_iff,decide_eq_true_eq,decide_eq_false_iff_not,beq_iff_eq];omega
 |false=>
  simp[bne]
theorem zayb (x:TExpr) (f:Bool):(((f&&x.kind != 0)||(!f&&none_ x))&&(if zaan x then eF x else true))=((f&&eF x)||(!f&&none_ x)):=by
 cases f with
 |true=>
  simp only[Bool.true_and,Bool.not_true,Bool.false_and,Bool.or_false];cases hk:(x.kind==0) with
  |true=>
   have hk':x.kind=0:=eq_of_beq hk;have:eF x=false:=by
    rw[eF_eq,xOk,hk'];simp
   rw[this,bne,hk];rfl
  |false=>
   have:zaan x=true:=by unfold zaan; rw[bne,hk]; rfl
   rw[this,if_pos rfl,bne,hk];rfl
 |false=>
  simp only[Bool.false_and,Bool.not_false,Bool.true_and,Bool.false_or];cases hn:none_ x with
  |false=>rfl
  |true=>
   unfold none_ at hn;simp only[Bool.and_eq_true] at hn;have h1:x.kind=0:=eq_of_beq hn.1.1.1;have h2:(x.args.length:Int)=0:=eq_of_beq hn.2;have:zaan x=false:=by
    unfold zaan;rw[h1,decide_eq_false (by omega)];rfl
   rw[this,if_neg (by simp)];rfl
theorem zaxh (R:List TStmt→Option Bool) (y:TStmt) (hx:nE y.expr≤100000000) (ht:R y.then_=some (sFs y.then_)) (ho:R y.else_=some (sFs y.else_)):qbm R y=some (sF y):=by
 rw[qbm,zaaa];unfold qbm_f;have hr:(bif decide (y.kind<1) then some true else some (decide (y.kind>11)))=some (!inR y.kind):=by
  rw[zaa9,cor,inR,Bool.not_not]
 rw[hr,Option.bind_some];have hs:sF y=(inR y.kind&&bif !((isOpt y.reg (shp y.kind).reg&&isOpt y.name (shp y.kind).name)&&(((shp y.kind).expr&&eF y.expr)||(!(shp y.kind).expr&&none_ y.expr))) then false else bif !(((!(((shp y.kind).count&&(decide (y.count<0)||decide (y.count>1000)))||(!(shp y.kind).count&&y.count != 0)))&&((shp y.kind).then_||!decide ((y.then_.length:Int)>0)))&&((shp y.kind).other||!decide ((y.else_.length:Int)>0))) then false else (sFs y.then_&&sFs y.else_)):=by
  rw[sF_eq,sOk,cntEq];have len:∀ n:Nat,((n:Int)==0)=!decide ((n:Int)>0):=by
   intro n;rw[Bool.eq_iff_iff];simp only[Bool.not_eq_true',decide_eq_false_iff_not,beq_iff_eq];omega
  rw[len,len];exact bC _ _ _ _ _ _ _ _ _ _ _ (zayb y.expr (shp y.kind).expr)
 rw[hs];cases h:inR y.kind with
 |false=>rfl
 |true=>
  simp only[Bool.not_true,cond_false,Bool.true_and];rw[zaxf _ h,zaay,zaqx _ hx,none1,ht,ho,zagk,zagk];simp only[zaa9,Option.bind_some,cand,cor,sFld];rw[bA,bB];rfl
theorem zavm:∀ (k n:Nat) (l:List TStmt),nSs l≤k→k<n→k≤100000000→qbn_i n l=some (sFs l):=by
 have em:∀ b:Bool,(match (bif b then Sum.inr () else Sum.inl false:Bool⊕Unit) with|.inl y=>some y|.inr _=>some true)=some b:=by intro b; cases b<;>rfl
 intro k;induction k with
 |zero=>
  intro n l h hn _;obtain ⟨n,rfl⟩:∃ q,n=q+1:=⟨n-1,by omega⟩;have hl:=zab5 l;obtain rfl:l=[]:=List.eq_nil_of_length_eq_zero (by omega);show qbn_f (qbn_i n) []=_;unfold qbn_f;rw[qbn_l2,zaaa,sFs];rfl
 |succ k ih=>
  intro n l h hn hb;obtain ⟨n,rfl⟩:∃ q,n=q+1:=⟨n-1,by omega⟩;have hl:=zab5 l;show qbn_f (qbn_i n) l=_;unfold qbn_f
  have hL := zadz sF l () (fun m i => qbn_i2 (qbn_i n) m l i)
    (fun m i h0 h=>by
     simp only[qbn_i2,qbn_t2,decide_eq_false h,cond_false])
    (fun m i a h0 h ha ma=>by
     have h5:=zaev ma;have h6:=nS_eq a;simp only[qbn_i2,qbn_t2,decide_eq_true h,decide_eq_true h0,cond_true,ha,Option.bind_some];rw[zaxh _ a (by omega) (ih n a.then_ (by omega) (by omega) (by omega)) (ih n a.else_ (by omega) (by omega) (by omega)),Option.bind_some,i64_in (i+1) (by omega)];cases sF a<;>rfl)
    fuel (by unfold fuel; omega)
  rw[qbn_l2,zaaa,hL,Option.bind_some,zasc];exact em _
theorem zaxi (p:TProg) (h:nT p.threads≤100000000) (h1:p.cells.length≤100000000) (h2:p.mutexes.length≤100000000):qbj p=some (pOk p):=by
 rw[qbj,zaaa];unfold qbj_f;have hl:=zac6 p.threads
 have e1 := zadz cOk p.cells (p.cells, p.mutexes, p.threads) (fun m i => qbj_i2 m i p.cells p.mutexes p.threads)
  (fun m i h0 h=>by simp only[qbj_i2,qbj_t2,decide_eq_false h,cond_false])
  (fun m i y h0 h hy hm=>by
   simp only[qbj_i2,qbj_t2,decide_eq_true h,decide_eq_true h0,hy,Option.bind_some,cond_true,zagk,zaa9,cor];rw[i64_in (i+1) (by omega)];have:cOk y=!((!isNm y.name||decide (y.init < -2147483647))||decide (y.init>2147483647)):=by
    unfold cOk;cases isNm y.name with
    |false=>rfl
    |true=>
     rw[Bool.eq_iff_iff];simp only[Bool.true_and,Bool.and_eq_true,Bool.not_true,Bool.false_or,Bool.not_eq_true',Bool.or_eq_false_iff,decide_eq_true_eq,decide_eq_false_iff_not];omega
   rw[this];cases ((!isNm y.name||decide (y.init < -2147483647))||decide (y.init>2147483647))<;>rfl)
  fuel (by unfold fuel; omega)
 have e2 := zadz isNm p.mutexes (p.cells, p.mutexes, p.threads) (fun m i => qbj_i8 m i p.cells p.mutexes p.threads)
  (fun m i h0 h=>by simp only[qbj_i8,qbj_t8,decide_eq_false h,cond_false])
  (fun m i y h0 h hy hm=>by
   simp only[qbj_i8,qbj_t8,decide_eq_true h,decide_eq_true h0,hy,Option.bind_some,cond_true,zagk];rw[i64_in (i+1) (by omega)];cases isNm y<;>rfl)
  fuel (by unfold fuel; omega)
 have e3 := zadz (fun t => isNm t.name && sFs t.body) p.threads () (fun m i => qbj_i14 m i p.cells p.mutexes p.threads)
  (fun m i h0 h=>by simp only[qbj_i14,qbj_t14,decide_eq_false h,cond_false])
  (fun m i y h0 h hy hm=>by
   have h5:=zaef hm;simp only[qbj_i14,qbj_t14,decide_eq_true h,decide_eq_true h0,hy,Option.bind_some,cond_true,zagk];rw[qbn,zaaa,zavm (nSs y.body) fuel y.body (Nat.le_refl _) (by unfold fuel; omega) (by omega),i64_in (i+1) (by omega)];cases isNm y.name<;>cases sFs y.body<;>rfl)
  fuel (by unfold fuel; omega)
 rw[qbj_l2,zaaa,e1,pOk];cases p.cells.all cOk with
 |false=>rfl
 |true=>
 simp only[cond_true,Option.bind_some];rw[qbj_l8,zaaa,e2];cases p.mutexes.all isNm with
 |false=>rfl
 |true=>
 simp only[cond_true,Option.bind_some];rw[qbj_l14,zaaa,e3];cases p.threads.all (fun t=>isNm t.name&&sFs t.body)<;>rfl
noncomputable def zaby (p:TProg):Int:=
 bif !pOk p then 30 else bif decide (maxEv (evP p) 0>16) then 31 else bif decide ((cT p.threads:Int)>500) then 32 else 0
theorem zant (p:TProg) (h:nT p.threads≤100000000) (h1:p.cells.length≤100000000) (h2:p.mutexes.length≤100000000):qbF p=some (zaby p):=by
 rw[qbF,zaaa];unfold qbF_f zaby;rw[zad1,zavi p h h1 h2,zav9 p (by omega),zava p (by omega)];simp only[Option.bind_some,zaa9]
theorem zap8 (p:TProg) (h:nT p.threads≤100000000) (h1:p.cells.length≤100000000) (h2:p.mutexes.length≤100000000):qbf p=some (zaby p):=by
 rw[qbf,zaaa];unfold qbf_f zaby;rw[zad1,zaxi p h h1 h2,zaxg p (by omega),zavz p (by omega)];simp only[Option.bind_some,zaa9]
end Lift.A3
namespace Lift.A3
open Go Go.RowKit Lift Go.IntWalk Lift.Fn
set_option linter.unusedVariables false
set_option linter.unusedSimpArgs false
abbrev Nm:=List UInt8
def putN (s:List Nm) (x:Nm):List Nm:=if (s.contains x||x==[]) then s else s++[x]
theorem zael (s:List Nm) (x:Nm):(putN s x).length≤s.length+1:=by
 unfold putN;split
 ·omega
 ·simp
theorem zacs:∀ (l:List Nm) (s:List Nm),(l.foldl putN s).length≤s.length+l.length
 |[],s=>by simp
 |x::l,s=>by
  have:=zacs l (putN s x);have:=zael s x;simp only[List.foldl_cons,List.length_cons];omega
theorem in2 (l:List Nm) (x:Nm) (hl:l.length≤100000000000):qaW l x=some (l.contains x):=by
 rw[qaW,zaaa];unfold qaW_f
 have hL := zaa7 (σ := Unit) l (fun _ _ => True) (fun q _ => (bif q.contains x then .inl true else .inr () : Bool ⊕ Unit)) (fun m i _ => qaW_i2 m l x i)
  (fun m i s h0 h _=>by
   simp only[qaW_i2,qaW_t2,decide_eq_false h,cond_false];rfl)
  (fun m i s y r h0 h hy hm _=>by
   have e:(y==x)=(x==y):=bcomm y x;simp only[qaW_i2,qaW_t2,decide_eq_true h,decide_eq_true h0,cond_true,hy,Option.bind_some,List.contains_cons,e];cases (x==y) with
   |true=>exact Or.inr rfl
   |false=>
    refine Or.inl ⟨(),trivial,?_,rfl⟩;rw[i64_in (i+1) (by omega)];rfl)
  fuel () (by unfold fuel; omega) trivial
 rw[qaW_l2,zaaa,hL];cases l.contains x<;>rfl
theorem put1 (x:Nm) (s:List Nm) (h:s.length≤100000000000):qbl x s=some (putN s x):=by
 rw[qbl,zaaa];unfold qbl_f putN;rw[in2 s x h,decide_eq_true (by simp only[List.length_cons,List.length_nil]; omega)];cases s.contains x<;>cases (x==[])<;>rfl
def evNm:Ev→List Nm
 |.s x _=>[x.reg,x.name]
 |.e x _=>[x.name]
def nms (l:List Ev):List Nm:=l.flatMap evNm
theorem zafg (a b:List Ev):nms (a++b)=nms a++nms b:=by unfold nms; rw[List.flatMap_append]
theorem zafh:∀ l:List Ev,(nms l).length≤2*l.length
 |[]=>by simp[nms]
 |e::l=>by
  have:=zafh l;have:(nms (e::l)).length=(evNm e).length+(nms l).length:=by unfold nms; rw[List.flatMap_cons,List.length_append]
  have:(evNm e).length≤2:=by cases e<;>simp[evNm]
  simp only[List.length_cons];omega
def allNm (p:TProg):List Nm:=p.cells.map (·.name)++(p.mutexes++(p.threads.map (·.name)++nms (evP p)))
theorem zat8:∀ (k n:Nat) (x:TExpr) (d:Int) (s:List Nm),nE x≤k→k<n→s.length+2*nE x≤100000000000→qbb_i n x s=some ((nms (evE x d)).foldl putN s):=by
 intro k;induction k with
 |zero=>intro n x d s h; have:=nE_eq x; omega
 |succ k ih=>
  intro n x d s h hn hb;obtain ⟨n,rfl⟩:∃ q,n=q+1:=⟨n-1,by omega⟩;have hx:=nE_eq x;have hl:=zadf x.args;have hp:=zael s x.name;show qbb_f (qbb_i n) x s=_;unfold qbb_f;rw[put1 x.name s (by omega),Option.bind_some]
  have hL := zaa7 (σ := List Nm) x.args (fun r s => s.length + 2 * nEs r ≤ 100000000000) (fun r s => (nms (evEs r (d + 1))).foldl putN s)
   (fun m i s=>qbb_i3 (qbb_i n) m i x.kind x.num x.name x.args s)
   (fun m i s h0 h hI=>by
    simp only[qbb_i3,qbb_t3,decide_eq_false h,cond_false,evEs];rfl)
   (fun m i s y r h0 h hy hm hI=>by
    have hy1:=zadj hm;have hI':s.length+2*nEs (y::r)≤100000000000:=hI;simp only[nEs] at hI';have q1:=zacs (nms (evE y (d+1))) s;have q2:=zafh (evE y (d+1));rw[lenE] at q2;refine Or.inl ⟨(nms (evE y (d+1))).foldl putN s,(by show ((nms (evE y (d+1))).foldl putN s).length+2*nEs r≤100000000000; omega),?_,by simp only[evEs,zafg,List.foldl_append]⟩;simp only[qbb_i3,qbb_t3,decide_eq_true h,decide_eq_true h0,cond_true,hy,Option.bind_some];rw[ih n y (d+1) s (by omega) (by omega) (by omega),Option.bind_some,i64_in (i+1) (by omega)])
   fuel (putN s x.name) (by unfold fuel; omega) (by omega)
  rw[qbb_l3,zaaa,hL,evE_eq];rfl
theorem zap7 (x:TExpr) (d:Int) (s:List Nm) (h:s.length+2*nE x≤100000000000):qbb x s=some ((nms (evE x d)).foldl putN s):=by
 rw[qbb,zaaa,zat8 (nE x) fuel x d s (Nat.le_refl _) (by unfold fuel; omega) (by omega)]
theorem zau7:∀ (k n:Nat) (l:List TStmt) (d:Int) (s:List Nm),nSs l≤k→k<n→s.length+2*nSs l≤100000000000→qbk_i n l s=some ((nms (evSs l d)).foldl putN s):=by
 intro k;induction k with
 |zero=>
  intro n l d s h hn _;obtain ⟨n,rfl⟩:∃ q,n=q+1:=⟨n-1,by omega⟩;have hl:=zab5 l;obtain rfl:l=[]:=List.eq_nil_of_length_eq_zero (by omega);show qbk_f (qbk_i n) [] s=_;unfold qbk_f;rw[qbk_l2,zaaa,evSs];rfl
 |succ k ih=>
  intro n l d s h hn hb;obtain ⟨n,rfl⟩:∃ q,n=q+1:=⟨n-1,by omega⟩;have hl:=zab5 l;show qbk_f (qbk_i n) l s=_;unfold qbk_f
  have hL := zaa7 (σ := List Nm) l (fun r s => s.length + 2 * nSs r ≤ 100000000000) (fun r s => (nms (evSs r d)).foldl putN s)
   (fun m i s=>qbk_i2 (qbk_i n) m l i s)
   (fun m i s h0 h hI=>by
    simp only[qbk_i2,qbk_t2,decide_eq_false h,cond_false,evSs];rfl)
   (fun m i s y r h0 h hy hm hI=>by
    have hy1:=zaev hm;have hy2:=nS_eq y;have hI':s.length+2*nSs (y::r)≤100000000000:=hI;simp only[nSs] at hI';have q1:=zacs (nms (evS y d)) s;have q2:=zafh (evS y d);have q3:=cS_le y;rw[lenS] at q2;refine Or.inl ⟨(nms (evS y d)).foldl putN s,(by show ((nms (evS y d)).foldl putN s).length+2*nSs r≤100000000000; omega),?_,by simp only[evSs,zafg,List.foldl_append]⟩;have p1:=zael s y.reg;have p2:=zael (putN s y.reg) y.name;have e0:nms (evS y d)=[y.reg,y.name]++(nms (if zaan y.expr then evE y.expr 1 else [])++(nms (evSs y.then_ (d+1))++nms (evSs y.else_ (d+1)))):=by
     rw[evS_eq,← zafg,← zafg];rfl
    have c1:=zae0 y.then_;have t1:=fun s=>zacs (nms (evSs y.then_ (d+1))) s
    have t2:=zafh (evSs y.then_ (d+1));rw[lenSs] at t2;simp only[qbk_i2,qbk_t2,decide_eq_true h,decide_eq_true h0,hy,Option.bind_some,zaay,zalu,cond_true];rw[put1 y.reg s (by omega),Option.bind_some,put1 y.name _ (by omega),Option.bind_some,i64_in (i+1) (by omega),e0,List.foldl_append,List.foldl_append,List.foldl_append];show _=qbk_i2 (qbk_i n) m l (i+1) (List.foldl putN (List.foldl putN (List.foldl putN (putN (putN s y.reg) y.name) _) _) _);cases zaan y.expr with
    |true=>
     rw[if_pos rfl];have u1:=zacs (nms (evE y.expr 1)) (putN (putN s y.reg) y.name);have u2:=zafh (evE y.expr 1);rw[lenE] at u2;have u3:=t1 ((nms (evE y.expr 1)).foldl putN (putN (putN s y.reg) y.name));rw[cond_true,zap7 y.expr 1 _ (by omega),Option.bind_some,ih n y.then_ (d+1) _ (by omega) (by omega) (by omega),Option.bind_some,ih n y.else_ (d+1) _ (by omega) (by omega) (by omega),Option.bind_some]
    |false=>
     rw[if_neg (by simp)];have u3:=t1 (putN (putN s y.reg) y.name);rw[cond_false,ih n y.then_ (d+1) _ (by omega) (by omega) (by omega),Option.bind_some,ih n y.else_ (d+1) _ (by omega) (by omega) (by omega),Option.bind_some];rfl)
   fuel s (by unfold fuel; omega) (by omega)
  rw[qbk_l2,zaaa,hL];rfl
theorem zawm (p:TProg) (h:nT p.threads≤100000000) (h1:p.cells.length≤100000000) (h2:p.mutexes.length≤100000000):qbd p=some ((allNm p).foldl putN []):=by
 rw[qbd,zaaa];unfold qbd_f;have hl:=zac6 p.threads
 have e1 := zaa7 (σ := List Nm) p.cells (fun r s => s.length + r.length ≤ 100000000) (fun r s => (p.cells, p.mutexes, p.threads, (r.map (·.name)).foldl putN s))
  (fun m i s=>qbd_i3 m i p.cells p.mutexes p.threads s)
  (fun m i s h0 h hI=>by simp only[qbd_i3,qbd_t3,decide_eq_false h,cond_false]; rfl)
  (fun m i s y r h0 h hy hm hI=>by
   have hI':s.length+(y::r).length≤100000000:=hI;simp only[List.length_cons] at hI';have:=zael s y.name;refine Or.inl ⟨putN s y.name,(by show (putN s y.name).length+r.length≤100000000; omega),?_,rfl⟩;simp only[qbd_i3,qbd_t3,decide_eq_true h,decide_eq_true h0,hy,Option.bind_some,cond_true];rw[put1 y.name s (by omega),i64_in (i+1) (by omega)];rfl)
  fuel [] (by unfold fuel; omega) (by simp; omega)
 have e2 := fun s hs => zaa7 (σ := List Nm) p.mutexes (fun r s => s.length + r.length ≤ 200000000) (fun r s => (p.cells, p.mutexes, p.threads, r.foldl putN s))
  (fun m i s=>qbd_i7 m i p.cells p.mutexes p.threads s)
  (fun m i s h0 h hI=>by simp only[qbd_i7,qbd_t7,decide_eq_false h,cond_false]; rfl)
  (fun m i s y r h0 h hy hm hI=>by
   have hI':s.length+(y::r).length≤200000000:=hI;simp only[List.length_cons] at hI';have:=zael s y;refine Or.inl ⟨putN s y,(by show (putN s y).length+r.length≤200000000; omega),?_,rfl⟩;simp only[qbd_i7,qbd_t7,decide_eq_true h,decide_eq_true h0,hy,Option.bind_some,cond_true];rw[put1 y s (by omega),i64_in (i+1) (by omega)];rfl)
  fuel s (by unfold fuel; omega) hs
 have e3 := fun s hs => zaa7 (σ := List Nm) p.threads (fun r s => s.length + r.length ≤ 300000000) (fun r s => (p.cells, p.mutexes, p.threads, (r.map (·.name)).foldl putN s))
  (fun m i s=>qbd_i11 m i p.cells p.mutexes p.threads s)
  (fun m i s h0 h hI=>by simp only[qbd_i11,qbd_t11,decide_eq_false h,cond_false]; rfl)
  (fun m i s y r h0 h hy hm hI=>by
   have hI':s.length+(y::r).length≤300000000:=hI;simp only[List.length_cons] at hI';have:=zael s y.name;refine Or.inl ⟨putN s y.name,(by show (putN s y.name).length+r.length≤300000000; omega),?_,rfl⟩;simp only[qbd_i11,qbd_t11,decide_eq_true h,decide_eq_true h0,hy,Option.bind_some,cond_true];rw[put1 y.name s (by omega),i64_in (i+1) (by omega)];rfl)
  fuel s (by unfold fuel; omega) hs
 have e4 := fun s hs => zaa7 (σ := List Nm) p.threads (fun r s => s.length + 2 * nT r ≤ 1000000000) (fun r s => (nms (r.flatMap fun t => evSs t.body 1)).foldl putN s)
  (fun m i s=>qbd_i15 m i p.cells p.mutexes p.threads s)
  (fun m i s h0 h hI=>by simp only[qbd_i15,qbd_t15,decide_eq_false h,cond_false]; rfl)
  (fun m i s y r h0 h hy hm hI=>by
   have hI':s.length+2*nT (y::r)≤1000000000:=hI;simp only[nT] at hI';have hy1:=zaef hm;have q1:=zacs (nms (evSs y.body 1)) s;have q2:=zafh (evSs y.body 1);have q3:=zae0 y.body;rw[lenSs] at q2;refine Or.inl ⟨(nms (evSs y.body 1)).foldl putN s,(by show ((nms (evSs y.body 1)).foldl putN s).length+2*nT r≤1000000000; omega),?_,by simp only[List.flatMap_cons,zafg,List.foldl_append]⟩;simp only[qbd_i15,qbd_t15,decide_eq_true h,decide_eq_true h0,hy,Option.bind_some,cond_true];rw[qbk,zaaa,zau7 (nSs y.body) fuel y.body 1 s (Nat.le_refl _) (by unfold fuel; omega) (by omega),Option.bind_some,i64_in (i+1) (by omega)])
  fuel s (by unfold fuel; omega) hs
 have g1:=zacs (p.cells.map (·.name)) [];rw[List.length_map] at g1;have g2:=zacs p.mutexes ((p.cells.map (·.name)).foldl putN []);have g3:=zacs (p.threads.map (·.name)) (p.mutexes.foldl putN ((p.cells.map (·.name)).foldl putN []));rw[List.length_map] at g3;have g0:([]:List Nm).length=0:=rfl;rw[qbd_l3,zaaa,e1,Option.bind_some];simp only;rw[qbd_l7,zaaa,e2 _ (by omega),Option.bind_some];simp only;rw[qbd_l11,zaaa,e3 _ (by omega),Option.bind_some];simp only;rw[qbd_l15,zaaa,e4 _ (by omega),Option.bind_some,← List.foldl_append,← List.foldl_append,← List.foldl_append];simp[allNm,evP]
end Lift.A3
namespace Lift.A3
open Go Go.RowKit Lift Go.IntWalk Lift.Fn Lift.A1P
set_option linter.unusedVariables false
set_option linter.unusedSimpArgs false
theorem lexOf (rs:List Int) (t:List UInt8) (l:List Token) (ha:rs.all Sp.isRune=true) (hl:(encs rs).length≤4000) (ht:encs rs=t)
  (hT:toks rs.length (((encs rs).length:Int)-(encs (skip false rs)).length) (skip false rs)=.inr l):qax t=some (⟨0,0,[]⟩,l++[⟨5,[],0,((encs rs).length:Int)⟩]):=by
 have hk:=zank rs ha hl;rw[hT,ht] at hk;rw[hk,ht]
theorem nm_of (rs:List Int) (t:List UInt8) (a:Token) (ha:rs.all Sp.isRune=true) (hl:(encs rs).length≤64) (ht:encs rs=t)
  (hT:toks rs.length (((encs rs).length:Int)-(encs (skip false rs)).length) (skip false rs)=.inr [a]):isNm t=(a.kind==1&&a.text==t):=by
 unfold isNm;rw[qbL,zaaa];unfold qbL_f;rw[decide_eq_false (by rw[← ht]; omega),cond_false,lexOf rs t [a] ha (by omega) ht hT];simp only[Option.bind_some,List.singleton_append];have h2:((([a,⟨5,[],0,((encs rs).length:Int)⟩]:List Token).length:Int)==2)=true:=rfl;have h3:(decide ((0:Int)≤0)&&decide ((0:Int)<(([a,⟨5,[],0,((encs rs).length:Int)⟩]:List Token).length:Int)))=true:=rfl;rw[h2,h3];cases h:(a.kind==1)
 ·simp[h]
 ·simp[h]
theorem nm_x:isNm [120]=true:=(nm_of [120] [120] ⟨1,[120],0,0⟩ (by decide) (by decide +kernel) (by decide +kernel) (by decide +kernel)).trans (by decide)
theorem nm_t:isNm [116]=true:=(nm_of [116] [116] ⟨1,[116],0,0⟩ (by decide) (by decide +kernel) (by decide +kernel) (by decide +kernel)).trans (by decide)
end Lift.A3
namespace Lift.A3
open Go Go.RowKit Lift Go.IntWalk Lift.Fn
set_option linter.unusedVariables false
set_option linter.unusedSimpArgs false
def sy0:TStmt:=TStmt.mk (4:Int) [(114:UInt8)] [(120:UInt8)] (TExpr.mk (5:Int) (0:Int) [] [TExpr.mk (2:Int) (0:Int) [(114:UInt8)] [],TExpr.mk (2:Int) (0:Int) [(113:UInt8)] []]) (0:Int) [] []
def p0 (c:List UInt8):TProg:=TProg.mk [TCell.mk c (0:Int)] [] [TThread.mk [(116:UInt8)] [sy0]]
end Lift.A3
namespace Lift.A9
open Go Go.RowKit Lift Go.IntWalk Lift.Fn Lift.A3
set_option linter.unusedVariables false
set_option linter.unusedSimpArgs false
theorem zacw {α β ρ:Type} (l:List α) (g:α→β) (fin:List β→ρ) (L:Nat→Int→List β→Option ρ)
  (h0:∀ n i s,0≤i→¬ i<(l.length:Int)→L (n+1) i s=some (fin s))
  (h1:∀ n i s x,0≤i→i<(l.length:Int)→l[i.toNat]? = some x→x∈l→s.length<l.length→L (n+1) i s=L n (i+1) (s++[g x]))
  (n:Nat) (hn:l.length<n):L n 0 []=some (fin (l.map g)):=by
 have := zaa7 (σ := List β) l (fun r s => s.length + r.length = l.length) (fun r s => fin (s ++ r.map g)) L
  (fun m i s h h' _=>by rw[h0 m i s h h',List.map_nil,List.append_nil])
  (fun m i s x r h h' hx hm hI=>by
   have hI':s.length+(x::r).length=l.length:=hI;simp only[List.length_cons] at hI';refine Or.inl ⟨s++[g x],(by show (s++[g x]).length+r.length=l.length; simp only[List.length_append,List.length_cons,List.length_nil]; omega),?_,by simp⟩;exact h1 m i s x h h' hx hm (by omega))
  n [] hn (by simp)
 rw[this];rfl
mutual
def nA:TAct→Nat
 |⟨_,_,_,x,_,t,o⟩=>1+nE x+nAs t+nAs o
def nAs:List TAct→Nat
 |[]=>0
 |x::l=>nA x+nAs l
end
theorem nA_eq (x:TAct):nA x=1+nE x.expr+nAs x.then_+nAs x.else_:=by cases x; simp[nA]
theorem zah8:∀ l:List TAct,l.length≤nAs l
 |[]=>by simp[nAs]
 |x::l=>by have:=zah8 l; have:=nA_eq x; simp only[nAs,List.length_cons]; omega
theorem zang:∀ {l:List TAct} {x:TAct},x∈l→nA x≤nAs l
 |y::l,x,h=>by
  simp only[nAs];cases h with
  |head=>omega
  |tail _ h=>have:=zang h; omega
def nB:List TBody→Nat
 |[]=>0
 |t::l=>1+nAs t.acts+nB l
theorem zaly:∀ l:List TBody,l.length≤nB l
 |[]=>by simp[nB]
 |x::l=>by have:=zaly l; simp only[nB,List.length_cons]; omega
theorem zaoy:∀ {l:List TBody} {x:TBody},x∈l→nAs x.acts<nB l
 |y::l,x,h=>by
  simp only[nB];cases h with
  |head=>omega
  |tail _ h=>have:=zaoy h; omega
def atL (l:List (List UInt8)) (i:Int):List UInt8:=bif decide (0≤i)&&decide (i<l.length) then (l[i.toNat]?).getD [] else []
theorem zauc (l:List (List UInt8)) (i:Int):qan l i=some (atL l i):=by
 rw[qan,zaaa];unfold qan_f atL;by_cases h:i<0
 ·have h':¬ (0≤i):=by omega
  simp[h,h']
 ·have h1:0≤i:=by omega
  by_cases h2:i≥(l.length:Int)
  ·have h3:¬ (i<(l.length:Int)):=by omega
   simp only[decide_eq_false h,cond_false,Option.bind_some,decide_eq_true h2,cond_true,decide_eq_true h1,decide_eq_false h3,Bool.true_and]
  ·have h3:i<(l.length:Int):=by omega
   have h4:i.toNat<l.length:=by omega
   simp only[decide_eq_false h,cond_false,Option.bind_some,decide_eq_false h2,cond_true,decide_eq_true h1,decide_eq_true h3,Bool.true_and,List.getElem?_eq_getElem h4,Option.getD_some]
mutual
def nX (n:Namer):TExpr→TExpr
 |⟨k,m,s,l⟩=>bif k==2 then (bif s==[] then ⟨k,0,atL n.regs m,nXs n l⟩ else ⟨k,0,[],nXs n l⟩) else ⟨k,m,s,nXs n l⟩
def nXs (n:Namer):List TExpr→List TExpr
 |[]=>[]
 |x::l=>nX n x::nXs n l
end
theorem zarz (n:Namer):∀ l,nXs n l=l.map (nX n)
 |[]=>by rw[nXs]; rfl
 |x::l=>by rw[nXs,zarz n l]; rfl
theorem nX_eq (n:Namer) (x:TExpr):nX n x=bif x.kind==2 then (bif x.name==[] then ⟨x.kind,0,atL n.regs x.num,x.args.map (nX n)⟩ else ⟨x.kind,0,[],x.args.map (nX n)⟩) else ⟨x.kind,x.num,x.name,x.args.map (nX n)⟩:=by
 cases x; rw[nX,zarz]
def un4 (x:TExpr):Int×Int×List UInt8×List TExpr:=(x.kind,x.num,x.name,x.args)
theorem zat9 (x:TExpr):TExpr.mk (un4 x).1 (un4 x).2.1 (un4 x).2.2.1 (un4 x).2.2.2=x:=by cases x; rfl
theorem zaya:∀ (k n:Nat) (nm:Namer) (x:TExpr),nE x≤k→k<n→k≤100000000→qaa_i n nm x=some (un4 (nX nm x)):=by
 intro k;induction k with
 |zero=>intro n nm x h; have:=nE_eq x; omega
 |succ k ih=>
  intro n nm x h hn hb;obtain ⟨n,rfl⟩:∃ q,n=q+1:=⟨n-1,by omega⟩;have hx:=nE_eq x;have hl:=zadf x.args
  have e8:∀ (a7 a8:Int) (a9:List UInt8) (a10 a11:Int) (a12:List UInt8),qaa_l8 (qaa_i n) x.args x.args.length 0 nm.cells nm.mutexes nm.threads nm.regs a7 a8 a9 a10 a11 a12 [] =
    some (a7,a8,a9,a10,a11,a12,x.args.map (nX nm)):=by
   intro a7 a8 a9 a10 a11 a12;rw[qaa_l8,zaaa]
   exact zacw x.args (nX nm) (fun s => (a7, a8, a9, a10, a11, a12, s)) (fun m i s => qaa_i8 (qaa_i n) m x.args x.args.length i nm.cells nm.mutexes nm.threads nm.regs a7 a8 a9 a10 a11 a12 s)
    (fun m i s h0 h=>by
     simp only[qaa_i8,qaa_t8,decide_eq_false h,cond_false])
    (fun m i s y h0 h hy hm hs=>by
     have hy1:=zadj hm;simp only[qaa_i8,qaa_t8,decide_eq_true h,decide_eq_true h0,cond_true,hy,Option.bind_some,zaay];rw[show Namer.mk nm.cells nm.mutexes nm.threads nm.regs=nm from rfl,ih n nm y (by omega) (by omega) (by omega),Option.bind_some,i64_in (i+1) (by omega)];simp only[List.length_cons,List.length_nil,zat9];rw[decide_eq_true (by omega),cond_true])
    fuel (by unfold fuel; omega)
  show qaa_f (qaa_i n) nm x=_;unfold qaa_f;simp only[e8,zauc,Option.bind_some];rw[nX_eq];cases h2:x.kind==2 with
  |true=>
   cases h3:x.name==[] with
   |true=>rfl
   |false=>rfl
  |false=>rfl
theorem zayd (nm:Namer) (x:TExpr) (h:nE x≤100000000):qaa nm x=some (un4 (nX nm x)):=by
 rw[qaa,zaaa,zaya (nE x) fuel nm x (Nat.le_refl _) (by unfold fuel; omega) (by omega)]
def hasR (k:Int):Bool:=k==1||k==2||k==4
def needK (k:Int):Int:=bif k==2||k==3||k==4 then 1 else bif k==5||k==6 then 2 else bif k==7||k==8 then 3 else 0
theorem zaxd (R:Namer→List TAct→Option (List TStmt)) (k:Int):qat R k=some (hasR k):=by
 rw[qat,zaaa];unfold qat_f hasR;cases k==1<;>cases k==2<;>cases k==4<;>rfl
theorem zau1 (k:Int):qau k=some (needK k):=by
 rw[qau,zaaa];unfold qau_f needK;cases k==2<;>cases k==3<;>cases k==4<;>cases k==5<;>cases k==6<;>cases k==7<;>cases k==8<;>rfl
def stK (x:TAct):Int:=bif (!hasR x.kind&&x.reg != 0)||(needK x.kind==0&&x.obj != 0) then 0 else x.kind
def stR (n:Namer) (x:TAct):List UInt8:=bif hasR x.kind then atL n.regs x.reg else []
def stN (n:Namer) (x:TAct):List UInt8:=bif needK x.kind==1 then atL n.cells x.obj else bif needK x.kind==2 then atL n.mutexes x.obj else bif needK x.kind==3 then atL n.threads x.obj else []
mutual
def nSt (n:Namer):TAct→TStmt
 |⟨k,r,o,x,c,t,e⟩=>⟨stK ⟨k,r,o,x,c,t,e⟩,stR n ⟨k,r,o,x,c,t,e⟩,stN n ⟨k,r,o,x,c,t,e⟩,nX n x,c,nSts n t,nSts n e⟩
def nSts (n:Namer):List TAct→List TStmt
 |[]=>[]
 |x::l=>nSt n x::nSts n l
end
theorem zapk (n:Namer):∀ l,nSts n l=l.map (nSt n)
 |[]=>by rw[nSts]; rfl
 |x::l=>by rw[nSts,zapk n l]; rfl
theorem zax5 (n:Namer) (x:TAct):nSt n x=⟨stK x,stR n x,stN n x,nX n x.expr,x.count,nSts n x.then_,nSts n x.else_⟩:=by
 cases x; rw[nSt]
theorem zax1:∀ (k n:Nat) (nm:Namer) (l:List TAct),nAs l≤k→k<n→k≤100000000→qab_i n nm l=some (nSts nm l):=by
 intro k;induction k with
 |zero=>
  intro n nm l h hn _;obtain ⟨n,rfl⟩:∃ q,n=q+1:=⟨n-1,by omega⟩;have hl:=zah8 l;obtain rfl:l=[]:=List.eq_nil_of_length_eq_zero (by omega);show qab_f (qab_i n) nm []=_;unfold qab_f;rw[qab_l3,zaaa,nSts];rfl
 |succ k ih=>
  intro n nm l h hn hb;obtain ⟨n,rfl⟩:∃ q,n=q+1:=⟨n-1,by omega⟩;have hl:=zah8 l;show qab_f (qab_i n) nm l=_;unfold qab_f;rw[qab_l3,zaaa,zapk]
  rw [zacw l (nSt nm) (fun s => s) (fun m i s => qab_i3 (qab_i n) m l l.length i nm.cells nm.mutexes nm.threads nm.regs s)
   (fun m i s h0 h=>by
    simp only[qab_i3,qab_t3,decide_eq_false h,cond_false])
   (fun m i s y h0 h hy hm hs=>by
    have hy1:=zang hm;have hy2:=nA_eq y;have hsz:∀ st:TStmt,decide ((s.length+[st].length)*152≤140737488355328∧s.length+[st].length≤9223372036854775807)=true:=by
     intro st;rw[List.length_cons,List.length_nil];exact decide_eq_true (by omega)
    simp only[qab_i3,qab_t3,decide_eq_true h,decide_eq_true h0,cond_true,hy,Option.bind_some,zaay];rw[show Namer.mk nm.cells nm.mutexes nm.threads nm.regs=nm from rfl,zayd nm y.expr (by omega),ih n nm y.then_ (by omega) (by omega) (by omega),ih n nm y.else_ (by omega) (by omega) (by omega),i64_in (i+1) (by omega)];simp only[Option.bind_some,zaxd,zau1,zauc,hsz,cond_true,zat9];rw[zax5,stK,stR,stN];cases hr:hasR y.kind with
    |true=>
     simp only[cond_true,Bool.not_true,Bool.false_and,Bool.false_or];cases e1:needK y.kind==1 with
     |true=>
      have:needK y.kind=1:=by simpa using e1
      simp[this]
     |false=>
     cases e2:needK y.kind==2 with
     |true=>
      have:needK y.kind=2:=by simpa using e2
      simp[this]
     |false=>
     cases e3:needK y.kind==3 with
     |true=>
      have:needK y.kind=3:=by simpa using e3
      simp[this]
     |false=>
      have:needK y.kind=0:=by
       revert e1 e2 e3;unfold needK;cases (y.kind==2||y.kind==3||y.kind==4)<;>cases (y.kind==5||y.kind==6)<;>cases (y.kind==7||y.kind==8)<;>simp
      simp only[this,cond_false];cases y.obj != 0<;>rfl
    |false=>
     simp only[cond_false,Bool.not_false,Bool.true_and];cases hg:y.reg != 0 with
     |true=>
      simp only[cond_true,Bool.true_or];cases e1:needK y.kind==1 with
      |true=>
       have:needK y.kind=1:=by simpa using e1
       simp[this]
      |false=>
      cases e2:needK y.kind==2 with
      |true=>
       have:needK y.kind=2:=by simpa using e2
       simp[this]
      |false=>
      cases e3:needK y.kind==3 with
      |true=>
       have:needK y.kind=3:=by simpa using e3
       simp[this]
      |false=>
       simp only[cond_false];cases y.obj != 0<;>rfl
     |false=>
      simp only[cond_false,Bool.false_or];cases e1:needK y.kind==1 with
      |true=>
       have:needK y.kind=1:=by simpa using e1
       simp[this]
      |false=>
      cases e2:needK y.kind==2 with
      |true=>
       have:needK y.kind=2:=by simpa using e2
       simp[this]
      |false=>
      cases e3:needK y.kind==3 with
      |true=>
       have:needK y.kind=3:=by simpa using e3
       simp[this]
      |false=>
       have:needK y.kind=0:=by
        revert e1 e2 e3;unfold needK;cases (y.kind==2||y.kind==3||y.kind==4)<;>cases (y.kind==5||y.kind==6)<;>cases (y.kind==7||y.kind==8)<;>simp
       simp only[this,cond_false];cases y.obj != 0<;>rfl)
   fuel (by unfold fuel; omega)]
  rfl
theorem zaw6 (nm:Namer) (l:List TAct) (h:nAs l≤100000000):qab nm l=some (nSts nm l):=by
 rw[qab,zaaa,zax1 (nAs l) fuel nm l (Nat.le_refl _) (by unfold fuel; omega) (by omega)]
end Lift.A9
namespace Lift.A9
open Go Go.RowKit Lift Go.IntWalk Lift.Fn Lift.A3
set_option linter.unusedVariables false
set_option linter.unusedSimpArgs false
theorem zasd:isNm []=false:=by
 unfold isNm;rw[qbL,zaaa];unfold qbL_f;have h:=lexOf [] [] [] (by decide) (by decide +kernel) (by decide +kernel) (by decide +kernel);rw[h];rfl
def xs (n:Nat):List (List UInt8):=List.replicate n [120]
def nmU (u:TUnit) (r:Int):Namer:=⟨xs u.cells.length,xs u.mutexes.toNat,xs u.threads.length,xs r.toNat⟩
theorem zaua {k:Int} (h:inR k=true):k=1∨k=2∨k=3∨k=4∨k=5∨k=6∨k=7∨k=8∨k=9∨k=10∨k=11:=by
 unfold inR at h;simp only[Bool.not_eq_true',Bool.or_eq_false_iff,decide_eq_false_iff_not] at h;omega
theorem zawl {k:Int} (h:inR k=true):(shp k).name=(needK k != 0):=by
 rcases zaua h with rfl|rfl|rfl|rfl|rfl|rfl|rfl|rfl|rfl|rfl|rfl<;>decide
end Lift.A9
namespace Lift.A9
open Go Go.RowKit Lift Go.IntWalk Lift.Fn Lift.A3
set_option linter.unusedVariables false
set_option linter.unusedSimpArgs false
mutual
theorem nE_nX (n:Namer):∀ x,nE (nX n x)=nE x
 |⟨k,m,s,l⟩=>by
  have h:=zau9 n l;rw[nX];cases k==2<;>cases s==[]<;>simp[nE,h]
theorem zau9 (n:Namer):∀ l,nEs (nXs n l)=nEs l
 |[]=>by rw[nXs]
 |x::l=>by rw[nXs,nEs,nEs,nE_nX n x,zau9 n l]
end
mutual
theorem zaxy (n:Namer):∀ x,nS (nSt n x)=nA x
 |⟨k,r,o,x,c,t,e⟩=>by rw[nSt,nS,nA,nE_nX,zaiv n t,zaiv n e]
theorem zaiv (n:Namer):∀ l,nSs (nSts n l)=nAs l
 |[]=>by rw[nSts,nSs,nAs]
 |x::l=>by rw[nSts,nSs,nAs,zaxy n x,zaiv n l]
end
theorem zaro (l:List (List UInt8)) (h:l.length≤100000000):qbw l=some l:=by
 rw[qbw,zaaa];unfold qbw_f;rw[decide_eq_true (by omega),cond_true,List.nil_append];cases l with
 |nil=>simp[zatq]
 |cons a l=>rfl
theorem zaox (l:List (List UInt8)):qbv l=some l:=by
 rw[qbv,zaaa];unfold qbv_f;simp
def zadq (u:TUnit) (n:Names):TProg:=
 ⟨(u.cells.zip n.cells).map fun z=>⟨z.2,z.1⟩,n.mutexes,(u.threads.zip (n.threads.zip n.regs)).map fun z=>⟨z.2.1,nSts ⟨n.cells,n.mutexes,n.threads,z.2.2⟩ z.1.acts⟩⟩
theorem zana {α β:Type} {l:List α} {m:List β} {i:Nat} {z:α×β} (h:(l.zip m)[i]? = some z):l[i]? = some z.1∧m[i]? = some z.2:=by
 rw[List.getElem?_zip_eq_some] at h;exact h
theorem zavk (u:TUnit) (n:Names) (h:nB u.threads≤100000000) (hc0:u.cells.length≤100000000) (hm:n.mutexes.length≤100000000) (hc:n.cells.length=u.cells.length) (ht:n.threads.length=u.threads.length) (hr:n.regs.length=u.threads.length) :
  qav u n=some ((zadq u n).cells,(zadq u n).mutexes,(zadq u n).threads):=by
 rw[qav,zaaa];unfold qav_f;have hl:=zaly u.threads;have hz:(u.cells.zip n.cells).length=u.cells.length:=by simp[hc]
 have hz2:(u.threads.zip (n.threads.zip n.regs)).length=u.threads.length:=by simp[ht,hr]
 have e3 := zacw (u.cells.zip n.cells) (fun z => TCell.mk z.2 z.1) (fun s => (u.cells, u.mutexes, u.threads, n.cells, n.mutexes, n.threads, n.regs, s)) (fun m i s => qav_i3 m u.cells u.cells.length i u.cells u.mutexes u.threads n.cells n.mutexes n.threads n.regs s)
  (fun m i s h0 h=>by
   rw[hz] at h;simp only[qav_i3,qav_t3,decide_eq_false h,cond_false])
  (fun m i s z h0 h hy hmz hs=>by
   rw[hz] at h hs;obtain ⟨g1,g2⟩:=zana hy;simp only[qav_i3,qav_t3,decide_eq_true h,decide_eq_true h0,cond_true,g1,g2,Option.bind_some,List.length_cons,List.length_nil];rw[decide_eq_true (by omega),cond_true,i64_in (i+1) (by omega)])
  fuel (by rw[hz]; unfold fuel; omega)
 have e9 := zacw (u.threads.zip (n.threads.zip n.regs)) (fun z => TThread.mk z.2.1 (nSts ⟨n.cells, n.mutexes, n.threads, z.2.2⟩ z.1.acts)) (fun s => ((zadq u n).cells, n.mutexes, s)) (fun m i s => qav_i9 m u.threads u.threads.length i n.cells n.mutexes n.threads n.regs (zadq u n).cells n.mutexes s)
  (fun m i s h0 h=>by
   rw[hz2] at h;simp only[qav_i9,qav_t9,decide_eq_false h,cond_false])
  (fun m i s z h0 h hy hmz hs=>by
   rw[hz2] at h hs;obtain ⟨g1,g2⟩:=zana hy;obtain ⟨g3,g4⟩:=zana g2;have hb:=zaoy (List.mem_of_getElem? g1);simp only[qav_i9,qav_t9,decide_eq_true h,decide_eq_true h0,cond_true,g1,g3,g4,Option.bind_some];rw[zaw6 _ z.1.acts (by omega),Option.bind_some];simp only[List.length_cons,List.length_nil];rw[decide_eq_true (by omega),cond_true,i64_in (i+1) (by omega)])
  fuel (by rw[hz2]; unfold fuel; omega)
 rw[qav_l3,zaaa,e3,Option.bind_some];simp only;rw[zaro n.mutexes hm,Option.bind_some,zaox,Option.bind_some,qav_l9,zaaa];show Option.bind (qav_i9 fuel u.threads u.threads.length 0 n.cells n.mutexes n.threads n.regs (zadq u n).cells n.mutexes []) _=_;rw[e9];rfl
theorem some1 (n:Int) (h:n≤100000000):qaw n=some (xs n.toNat):=by
 rw[qaw,zaaa];unfold qaw_f
 have e := zacw (List.range n.toNat) (fun _ => ([120] : List UInt8)) (fun s => s) (fun m i s => qaw_i3 m n i s)
  (fun m i s h0 h=>by
   have:¬ i<n:=by simp only[List.length_range] at h; omega
   simp only[qaw_i3,qaw_t3,decide_eq_false this,cond_false])
  (fun m i s z h0 h hy hmz hs=>by
   simp only[List.length_range] at h hs;have:i<n:=by omega
   simp only[qaw_i3,qaw_t3,decide_eq_true this,cond_true];rw[decide_eq_true (by omega),cond_true,i64_in (i+1) (by omega)])
  fuel (by simp only[List.length_range]; unfold fuel; omega)
 rw[qaw_l3,zaaa,e,Option.bind_some,xs,List.map_const',List.length_range]
theorem zauy {α β τ:Type} (l:List α) (ok:α→Bool) (g:α→β) (fin:List β→τ) (L:Nat→Int→List β→Option (Bool⊕τ))
  (h0:∀ n i s,0≤i→¬ i<(l.length:Int)→L (n+1) i s=some (.inr (fin s)))
  (h1:∀ n i s x,0≤i→i<(l.length:Int)→l[i.toNat]? = some x→x∈l→s.length<l.length→L (n+1) i s=bif ok x then L n (i+1) (s++[g x]) else some (.inl false))
  (n:Nat) (hn:l.length<n):L n 0 []=some (bif l.all ok then .inr (fin (l.map g)) else .inl false):=by
 have := zaa7 (σ := List β) l (fun r s => s.length + r.length = l.length) (fun r s => (bif r.all ok then .inr (fin (s ++ r.map g)) else .inl false : Bool ⊕ τ)) L
  (fun m i s h h' _=>by rw[h0 m i s h h',List.map_nil,List.append_nil]; rfl)
  (fun m i s x r h h' hx hm hI=>by
   have hI':s.length+(x::r).length=l.length:=hI;simp only[List.length_cons] at hI';have h2:=h1 m i s x h h' hx hm (by omega);cases hk:ok x with
   |true=>
    rw[hk,cond_true] at h2;exact Or.inl ⟨s++[g x],(by show (s++[g x]).length+r.length=l.length; simp only[List.length_append,List.length_cons,List.length_nil]; omega),h2,by simp[hk]⟩
   |false=>
    rw[hk,cond_false] at h2;exact Or.inr (by rw[h2,List.all_cons,hk]; rfl))
  n [] hn (by simp)
 rw[this];rfl
def zagn (t:TBody):Bool:=decide (t.regs<0)||decide (t.regs>8)
def zaj8 (u:TUnit):Bool:=((decide ((u.threads.length:Int)<1)||decide ((u.threads.length:Int)>8))||decide ((u.cells.length:Int)>8))||decide (u.mutexes<0)||decide (u.mutexes>8)
def nmsU (u:TUnit):Names:=⟨xs u.cells.length,xs u.mutexes.toNat,xs u.threads.length,u.threads.map fun t=>xs t.regs.toNat⟩
noncomputable def zalw (u:TUnit):Bool:=bif zaj8 u then false else bif u.threads.all (fun t=>!zagn t) then zaby (zadq u (nmsU u))==0 else false
theorem zaww:∀ (u:TUnit) (n:Names),n.threads.length=u.threads.length→n.regs.length=u.threads.length→nT (zadq u n).threads=nB u.threads:=by
 intro u n h1 h2;show nT ((u.threads.zip (n.threads.zip n.regs)).map fun z=>TThread.mk z.2.1 (nSts ⟨n.cells,n.mutexes,n.threads,z.2.2⟩ z.1.acts))=_;have key:∀ (l:List TBody) (m:List ((List UInt8)×List (List UInt8))),m.length=l.length→nT ((l.zip m).map fun z=>TThread.mk z.2.1 (nSts ⟨n.cells,n.mutexes,n.threads,z.2.2⟩ z.1.acts))=nB l:=by
  intro l;induction l with
  |nil=>intro m _; rfl
  |cons a l ih=>
   intro m hm;cases m with
   |nil=>cases hm
   |cons b m=>
    simp only[List.zip_cons_cons,List.map_cons,nT,nB,zaiv];rw[ih m (by simpa using hm)]
 exact key _ _ (by simp[h1,h2])
theorem zas9 (u:TUnit) (h:nB u.threads≤100000000) (hc:u.cells.length≤100000000):qam u=some (zalw u):=by
 rw[qam,zaaa];unfold qam_f zalw;have hl:=zaly u.threads;simp only[zaa9,Option.bind_some,cor];have hbad:(((decide ((u.threads.length:Int)<1)||decide ((u.threads.length:Int)>8))||decide ((u.cells.length:Int)>8))||decide (u.mutexes<0)||decide (u.mutexes>8))=zaj8 u:=rfl;rw[hbad];cases hu:zaj8 u with
 |true=>rfl
 |false=>
  simp only[cond_false];unfold zaj8 at hu;simp only[Bool.or_eq_false_iff,decide_eq_false_iff_not] at hu;obtain ⟨⟨⟨⟨u1,u2⟩,u3⟩,u4⟩,u5⟩:=hu;rw[some1 _ (by omega),some1 _ (by omega),some1 _ (by omega)];simp only[Option.bind_some,Int.toNat_natCast]
  have e5 := zauy u.threads (fun t => !zagn t) (fun t => xs t.regs.toNat) (fun s => (u.cells, u.mutexes, u.threads, xs u.cells.length, xs u.mutexes.toNat, xs u.threads.length, s)) (fun m i s => qam_i5 m u.threads u.threads.length i u.cells u.mutexes u.threads (xs u.cells.length) (xs u.mutexes.toNat) (xs u.threads.length) s)
   (fun m i s h0 h=>by
    simp only[qam_i5,qam_t5,decide_eq_false h,cond_false])
   (fun m i s y h0 h hy hm hs=>by
    simp only[qam_i5,qam_t5,decide_eq_true h,decide_eq_true h0,cond_true,hy,Option.bind_some,zaa9,cor];have:(decide (y.regs<0)||decide (y.regs>8))=zagn y:=rfl;rw[this];cases hb:zagn y with
    |true=>rfl
    |false=>
     unfold zagn at hb;simp only[Bool.or_eq_false_iff,decide_eq_false_iff_not] at hb;simp only[cond_false,Bool.not_false,cond_true];rw[some1 _ (by omega),Option.bind_some];simp only[List.length_cons,List.length_nil];rw[decide_eq_true (by omega),cond_true,i64_in (i+1) (by omega)])
   fuel (by unfold fuel; omega)
  rw[qam_l5,zaaa,e5];cases ha:u.threads.all (fun t=>!zagn t) with
  |false=>rfl
  |true=>
   simp only[cond_true,Option.bind_some];have hx:∀ n,(xs n).length=n:=by intro n; simp[xs]
   rw[show TUnit.mk u.cells u.mutexes u.threads=u from rfl,zavk u _ h hc (by simp only[hx]; omega) (by simp only[hx]) (by simp only[hx]) (by simp)];simp only[Option.bind_some];have ht:=zaww u (nmsU u) (by simp[nmsU,hx]) (by simp[nmsU]);rw[zad1,zant _ (by show nT (zadq u (nmsU u)).threads≤_; rw[ht]; exact h) (by simp[zadq,hx]; omega) (by show (xs u.mutexes.toNat).length≤_; rw[hx]; omega)];rfl
end Lift.A9
namespace Lift.A9
open Go Go.RowKit Lift Go.IntWalk Lift.Fn Lift.A3
set_option linter.unusedVariables false
set_option linter.unusedSimpArgs false
abbrev Nm:=List UInt8
def plc (l:List Nm) (s:Nm):Int:=match l.findIdx? (·==s) with
 |some i=>(i:Int)
 |none=>-1
def regM (th:Nm→Bool) (rs:List Nm) (s:Nm):(Int×List Nm)⊕(Int×Nm):=
 bif th s then .inr (65,s) else bif decide (plc rs s<0) then (bif decide (8≤rs.length) then .inr (66,s) else .inl (rs.length,rs++[s])) else .inl (plc rs s,rs)
mutual
def exM (th:Nm→Bool):TExpr→List Nm→(TExpr×List Nm)⊕(Int×Nm)
 |⟨k,n,s,l⟩,rs=>bif k==2 then (match regM th rs s with
   |.inr e=>.inr e
   |.inl y=>match exMs th l y.2 with
    |.inr e=>.inr e
    |.inl z=>.inl (⟨k,y.1,[],z.1⟩,z.2))
  else match exMs th l rs with
   |.inr e=>.inr e
   |.inl z=>.inl (⟨k,n,[],z.1⟩,z.2)
def exMs (th:Nm→Bool):List TExpr→List Nm→(List TExpr×List Nm)⊕(Int×Nm)
 |[],rs=>.inl ([],rs)
 |x::l,rs=>match exM th x rs with
  |.inr e=>.inr e
  |.inl y=>match exMs th l y.2 with
   |.inr e=>.inr e
   |.inl z=>.inl (y.1::z.1,z.2)
end
theorem zani (s:Nm):plc [] s=-1:=rfl
theorem zaob {l:List Nm} {s:Nm} (L:Nat→Int→Option (Int⊕Unit))
  (h0:∀ n i,0≤i→¬ i<(l.length:Int)→L (n+1) i=some (.inr ()))
  (h1:∀ n i x,0≤i→i<(l.length:Int)→l[i.toNat]? = some x→L (n+1) i=bif x==s then some (.inl i) else L n (i+1)) :
  ∀ (k n:Nat) (i:Nat),l.length-i≤k→k<n→L n (i:Int)=some (match (l.drop i).findIdx? (·==s) with|some j=>.inl ((i+j:Nat):Int)|none=>.inr ()):=by
 intro k;induction k with
 |zero=>
  intro n i hk hn;obtain ⟨n,rfl⟩:∃ q,n=q+1:=⟨n-1,by omega⟩;rw[h0 n i (by omega) (by omega),List.drop_eq_nil_of_le (by omega)];rfl
 |succ k ih=>
  intro n i hk hn;obtain ⟨n,rfl⟩:∃ q,n=q+1:=⟨n-1,by omega⟩;by_cases c:i<l.length
  ·rw[h1 n i l[i] (by omega) (by omega) (by rw[Int.toNat_natCast]; exact List.getElem?_eq_getElem c),List.drop_eq_getElem_cons c,List.findIdx?_cons];cases hx:l[i]==s with
   |true=>rfl
   |false=>
    have:=ih n (i+1) (by omega) (by omega);rw[cond_false,show (i:Int)+1=((i+1:Nat):Int) by omega,this];simp only[Bool.false_eq_true,if_false];cases (l.drop (i+1)).findIdx? (·==s) with
    |none=>rfl
    |some j=>simp only[Option.map_some]; congr 3; omega
  ·rw[h0 n i (by omega) (by omega),List.drop_eq_nil_of_le (by omega)];rfl
theorem zax0 (l:List Nm) (s:Nm) (h:l.length≤1000000000000):qby l s=some (plc l s):=by
 rw[qby,zaaa];unfold qby_f
 have e := zaob (l := l) (s := s) (fun n i => qby_i2 n l s l.length i)
  (fun n i h0 h=>by simp only[qby_i2,qby_t2,decide_eq_false h,cond_false])
  (fun n i x h0 h hx=>by
   simp only[qby_i2,qby_t2,decide_eq_true h,decide_eq_true h0,cond_true,hx,Option.bind_some];rw[i64_in (i+1) (by omega)];try (rw[Bool.beq_comm]))
  l.length fuel 0 (by omega) (by unfold fuel; omega)
 rw[qby_l2,zaaa,show (0:Int)=((0:Nat):Int) from rfl,e];unfold plc;rw[List.drop_zero];cases l.findIdx? (·==s) with
 |none=>rfl
 |some j=>simp
end Lift.A9
namespace Lift.A9
open Go Go.RowKit Lift Go.IntWalk Lift.Fn Lift.A3
set_option linter.unusedVariables false
set_option linter.unusedSimpArgs false
def thB (th:List (Nm×Thing)) (s:Nm):Bool:=Option.isSome (mapAt th s)
theorem reg1 (th:List (Nm×Thing)) (rs:List Nm) (s:Nm) (h:rs.length≤8) :
  qas s th rs=some (match regM (thB th) rs s with|.inl y=>.inl (y.1,th,y.2)|.inr e=>.inr (Refused.mk e.1 e.2)):=by
 rw[qas,zaaa];unfold qas_f regM;show (bif thB th s then _ else _)=_;cases thB th s with
 |true=>rfl
 |false=>
  rw[cond_false,zax0 rs s (by omega)];simp only[Option.bind_some,cond_false];cases decide (plc rs s<0) with
  |false=>rfl
  |true=>
   simp only[cond_true];by_cases h8:8≤rs.length
   ·have e:rs.length=8:=by omega
    rw[e];rfl
   ·have e:((rs.length:Int)==8)=false:=by simp; omega
    rw[e,decide_eq_false h8,cond_false,decide_eq_true (by simp only[List.length_cons,List.length_nil]; omega)];rfl
theorem zai2 {th:Nm→Bool} {rs:List Nm} {s:Nm} {y:Int×List Nm} (h:rs.length≤8) (e:regM th rs s=.inl y):y.2.length≤8:=by
 unfold regM at e;cases ht:th s with
 |true=>rw[ht] at e; cases e
 |false=>
  rw[ht,cond_false] at e;cases hd:decide (plc rs s<0) with
  |false=>rw[hd] at e; cases e; exact h
  |true=>
   rw[hd,cond_true] at e;by_cases h8:8≤rs.length
   ·rw[decide_eq_true h8] at e; cases e
   ·rw[decide_eq_false h8] at e;cases e;simp;omega
end Lift.A9
namespace Lift.A9
open Go Go.RowKit Lift Go.IntWalk Lift.Fn Lift.A3
set_option linter.unusedVariables false
set_option linter.unusedSimpArgs false
def exOut (th:List (Nm×Thing)):(TExpr×List Nm)⊕(Int×Nm)→(Int×Int×List UInt8×List (Nm×Thing)×List TExpr×List Nm)⊕Refused
 |.inl y=>.inl (y.1.kind,y.1.num,y.1.name,th,y.1.args,y.2)
 |.inr e=>.inr ⟨e.1,e.2⟩
theorem zaxz (th:Nm→Bool) (x:TExpr) (rs:List Nm):exM th x rs=bif x.kind==2 then (match regM th rs x.name with
   |.inr e=>.inr e
   |.inl y=>match exMs th x.args y.2 with
    |.inr e=>.inr e
    |.inl z=>.inl (⟨x.kind,y.1,[],z.1⟩,z.2))
  else match exMs th x.args rs with
   |.inr e=>.inr e
   |.inl z=>.inl (⟨x.kind,x.num,[],z.1⟩,z.2):=by cases x; rw[exM]; try rfl
def okL (r:(TExpr×List Nm)⊕(Int×Nm)):Prop:=∀ y,r=.inl y→y.2.length≤8
def okLs (r:(List TExpr×List Nm)⊕(Int×Nm)):Prop:=∀ y,r=.inl y→y.2.length≤8
mutual
theorem zags (th:Nm→Bool):∀ (x:TExpr) (rs:List Nm),rs.length≤8→okL (exM th x rs)
 |⟨k,n,s,l⟩,rs,h=>by
  intro y hy;rw[exM] at hy;cases hk:k==2 with
  |true=>
   rw[hk,cond_true] at hy;cases hr:regM th rs s with
   |inr e=>rw[hr] at hy; cases hy
   |inl r=>
    rw[hr] at hy;have h1:=zai2 h hr;have h2:=zanl th l r.2 h1;simp only at hy;cases hz:exMs th l r.2 with
    |inr e=>rw[hz] at hy; cases hy
    |inl z=>rw[hz] at hy; cases hy; exact h2 z hz
  |false=>
   rw[hk,cond_false] at hy;have h2:=zanl th l rs h;cases hz:exMs th l rs with
   |inr e=>rw[hz] at hy; cases hy
   |inl z=>rw[hz] at hy; cases hy; exact h2 z hz
theorem zanl (th:Nm→Bool):∀ (l:List TExpr) (rs:List Nm),rs.length≤8→okLs (exMs th l rs)
 |[],rs,h=>by intro y hy; rw[exMs] at hy; cases hy; exact h
 |x::l,rs,h=>by
  intro y hy;rw[exMs] at hy;have h1:=zags th x rs h;cases hx:exM th x rs with
  |inr e=>rw[hx] at hy; cases hy
  |inl z=>
   rw[hx] at hy;have h2:=zanl th l z.2 (h1 z hx);simp only at hy;cases hz:exMs th l z.2 with
   |inr e=>rw[hz] at hy; cases hy
   |inl q=>rw[hz] at hy; cases hy; exact h2 q hz
end
end Lift.A9
namespace Lift.A9
open Go Go.RowKit Lift Go.IntWalk Lift.Fn Lift.A3
set_option linter.unusedVariables false
set_option linter.unusedSimpArgs false
theorem ex1 (th:List (Nm×Thing)):∀ (k n:Nat) (x:TExpr) (rs:List Nm),nE x≤k→k<n→k≤100000000→rs.length≤8→qap_i n x th rs=some (exOut th (exM (thB th) x rs)):=by
 intro k;induction k with
 |zero=>intro n x rs h; have:=nE_eq x; omega
 |succ k ih=>
  intro n x rs h hn hb hrs;obtain ⟨n,rfl⟩:∃ q,n=q+1:=⟨n-1,by omega⟩;have hx:=nE_eq x;have hl:=zadf x.args
  have e5:∀ (rs:List Nm) (a4 a5:Int) (a6:List UInt8) (a7 a8:Int) (a9:List UInt8),rs.length≤8→qap_l5 (qap_i n) x.args x.args.length 0 th a4 a5 a6 a7 a8 a9 rs [] =
    some (match exMs (thB th) x.args rs with|.inl z=>.inr (th,a4,a5,a6,a7,a8,a9,z.2,z.1)|.inr e=>.inl ⟨e.1,e.2⟩):=by
   intro rs a4 a5 a6 a7 a8 a9 hrs;rw[qap_l5,zaaa]
   have := zaa7 (σ := List Nm × List TExpr) x.args (fun r s => s.1.length ≤ 8 ∧ s.2.length + r.length = x.args.length)
    (fun r s=>(match exMs (thB th) r s.1 with|.inl z=>.inr (th,a4,a5,a6,a7,a8,a9,z.2,s.2++z.1)|.inr e=>.inl ⟨e.1,e.2⟩:Refused⊕(List (Nm×Thing)×Int×Int×List UInt8×Int×Int×List UInt8×List Nm×List TExpr)))
    (fun m i s=>qap_i5 (qap_i n) m x.args x.args.length i th a4 a5 a6 a7 a8 a9 s.1 s.2)
    (fun m i s h0 h _=>by
     simp only[qap_i5,qap_t5,decide_eq_false h,cond_false,exMs,List.append_nil])
    (fun m i s y r h0 h hy hm hI=>by
     have hy1:=zadj hm;obtain ⟨i1,i2⟩:=hI;simp only[List.length_cons] at i2;have hok:=zags (thB th) y s.1 i1;simp only[qap_i5,qap_t5,decide_eq_true h,decide_eq_true h0,cond_true,hy,Option.bind_some,zaay];rw[ih n y s.1 (by omega) (by omega) (by omega) i1,Option.bind_some];rw[exMs];cases hx:exM (thB th) y s.1 with
     |inr e=>exact Or.inr rfl
     |inl z=>
      refine Or.inl ⟨(z.2,s.2++[z.1]),⟨hok z hx,by simp; omega⟩,?_,?_⟩
      ·simp only[exOut,List.length_cons,List.length_nil];rw[decide_eq_true (by omega),cond_true,i64_in (i+1) (by omega),zaay]
      ·simp only;cases exMs (thB th) r z.2 with
       |inr e=>rfl
       |inl q=>simp)
    fuel (rs,[]) (by unfold fuel; omega) ⟨hrs,by simp⟩
   simp only[List.nil_append] at this;exact this
  show qap_f (qap_i n) x th rs=_;unfold qap_f;rw[zaxz];cases hk:x.kind==2 with
  |true=>
   simp only[cond_true];rw[reg1 th rs x.name hrs];cases hr:regM (thB th) rs x.name with
   |inr e=>rfl
   |inl r=>
    have h1:=zai2 hrs hr;simp only[Option.bind_some];rw[e5 r.2 _ _ _ _ _ _ h1];cases exMs (thB th) x.args r.2<;>rfl
  |false=>
   simp only[cond_false];rw[e5 rs _ _ _ _ _ _ hrs];cases exMs (thB th) x.args rs<;>rfl
theorem exX (th:List (Nm×Thing)) (x:TExpr) (rs:List Nm) (h:nE x≤100000000) (hr:rs.length≤8):qap x th rs=some (exOut th (exM (thB th) x rs)):=by
 rw[qap,zaaa,ex1 th (nE x) fuel x rs (Nat.le_refl _) (by unfold fuel; omega) h hr]
end Lift.A9
namespace Lift.A9
open Go Go.RowKit Lift Go.IntWalk Lift.Fn Lift.A3
set_option linter.unusedVariables false
set_option linter.unusedSimpArgs false
def objM (th:List (Nm×Thing)) (k:Int) (nm:Nm):Int⊕(Int×Nm):=
 bif needK k==0 then .inl 0 else bif thB th nm then (bif (Option.getD (mapAt th nm) (Thing.mk 0 0)).kind==needK k then .inl (Option.getD (mapAt th nm) (Thing.mk 0 0)).number else .inr (65,nm)) else .inr (64,nm)
def regO (th:Nm→Bool) (rs:List Nm) (s:Nm):(Int×List Nm)⊕(Int×Nm):=bif s==[] then .inl (0,rs) else regM th rs s
def exO (th:Nm→Bool) (x:TExpr) (rs:List Nm):(TExpr×List Nm)⊕(Int×Nm):=bif x.kind==0 then .inl (⟨0,0,[],[]⟩,rs) else exM th x rs
mutual
def acN (tf:Nm→Bool) (ob:Int→Nm→Int⊕(Int×Nm)):TStmt→List Nm→(TAct×List Nm)⊕(Int×Nm)
 |⟨k,r,nm,x,c,t,o⟩,rs=>match regO tf rs r with
  |.inr e=>.inr e
  |.inl a=>match ob k nm with
   |.inr e=>.inr e
   |.inl b=>match exO tf x a.2 with
    |.inr e=>.inr e
    |.inl y=>match acNs tf ob t y.2 with
     |.inr e=>.inr e
     |.inl z=>match acNs tf ob o z.2 with
      |.inr e=>.inr e
      |.inl q=>.inl (⟨k,a.1,b,y.1,c,z.1,q.1⟩,q.2)
def acNs (tf:Nm→Bool) (ob:Int→Nm→Int⊕(Int×Nm)):List TStmt→List Nm→(List TAct×List Nm)⊕(Int×Nm)
 |[],rs=>.inl ([],rs)
 |x::l,rs=>match acN tf ob x rs with
  |.inr e=>.inr e
  |.inl y=>match acNs tf ob l y.2 with
   |.inr e=>.inr e
   |.inl z=>.inl (y.1::z.1,z.2)
end
theorem zaxv (tf:Nm→Bool) (ob:Int→Nm→Int⊕(Int×Nm)) (x:TStmt) (rs:List Nm):acN tf ob x rs=match regO tf rs x.reg with
  |.inr e=>.inr e
  |.inl a=>match ob x.kind x.name with
   |.inr e=>.inr e
   |.inl b=>match exO tf x.expr a.2 with
    |.inr e=>.inr e
    |.inl y=>match acNs tf ob x.then_ y.2 with
     |.inr e=>.inr e
     |.inl z=>match acNs tf ob x.else_ z.2 with
      |.inr e=>.inr e
      |.inl q=>.inl (⟨x.kind,a.1,b,y.1,x.count,z.1,q.1⟩,q.2):=by cases x; rw[acN]
theorem zawk {th:Nm→Bool} {rs:List Nm} {s:Nm} {y:Int×List Nm} (h:rs.length≤8) (e:regO th rs s=.inl y):y.2.length≤8:=by
 unfold regO at e;cases hs:s==[] with
 |true=>rw[hs] at e; cases e; exact h
 |false=>rw[hs] at e; exact zai2 h e
theorem zaxj {th:Nm→Bool} {rs:List Nm} {x:TExpr} {y:TExpr×List Nm} (h:rs.length≤8) (e:exO th x rs=.inl y):y.2.length≤8:=by
 unfold exO at e;cases hs:x.kind==0 with
 |true=>rw[hs] at e; cases e; exact h
 |false=>rw[hs] at e; exact zags th x rs h y e
mutual
theorem zarq (tf:Nm→Bool) (ob:Int→Nm→Int⊕(Int×Nm)):∀ (x:TStmt) (rs:List Nm) (y:TAct×List Nm),rs.length≤8→acN tf ob x rs=.inl y→y.2.length≤8
 |⟨k,r,nm,x,c,t,o⟩,rs,y,h,hy=>by
  rw[acN] at hy;cases h1:regO tf rs r with
  |inr e=>rw[h1] at hy; cases hy
  |inl a=>
   rw[h1] at hy;simp only at hy;cases h2:ob k nm with
   |inr e=>rw[h2] at hy; cases hy
   |inl b=>
    rw[h2] at hy;simp only at hy;cases h3:exO tf x a.2 with
    |inr e=>rw[h3] at hy; cases hy
    |inl z=>
     rw[h3] at hy;simp only at hy;have l1:=zaxj (zawk h h1) h3;cases h4:acNs tf ob t z.2 with
     |inr e=>rw[h4] at hy; cases hy
     |inl p=>
      rw[h4] at hy;simp only at hy;have l2:=zacd tf ob t z.2 p l1 h4;cases h5:acNs tf ob o p.2 with
      |inr e=>rw[h5] at hy; cases hy
      |inl q=>
       rw[h5] at hy;cases hy;exact zacd tf ob o p.2 q l2 h5
theorem zacd (tf:Nm→Bool) (ob:Int→Nm→Int⊕(Int×Nm)):∀ (l:List TStmt) (rs:List Nm) (y:List TAct×List Nm),rs.length≤8→acNs tf ob l rs=.inl y→y.2.length≤8
 |[],rs,y,h,hy=>by rw[acNs] at hy; cases hy; exact h
 |x::l,rs,y,h,hy=>by
  rw[acNs] at hy;cases h1:acN tf ob x rs with
  |inr e=>rw[h1] at hy; cases hy
  |inl a=>
   rw[h1] at hy;simp only at hy;have l1:=zarq tf ob x rs a h h1;cases h2:acNs tf ob l a.2 with
   |inr e=>rw[h2] at hy; cases hy
   |inl b=>rw[h2] at hy; cases hy; exact zacd tf ob l a.2 b l1 h2
end
theorem zag1 (tf:Nm→Bool) (ob:Int→Nm→Int⊕(Int×Nm)) (rs:List Nm):acNs tf ob [] rs=.inl ([],rs):=by rw[acNs]
theorem zahh (tf:Nm→Bool) (ob:Int→Nm→Int⊕(Int×Nm)) (x:TStmt) (l:List TStmt) (rs:List Nm):acNs tf ob (x::l) rs=match acN tf ob x rs with
  |.inr e=>.inr e
  |.inl y=>match acNs tf ob l y.2 with
   |.inr e=>.inr e
   |.inl z=>.inl (y.1::z.1,z.2):=by rw[acNs]
end Lift.A9
