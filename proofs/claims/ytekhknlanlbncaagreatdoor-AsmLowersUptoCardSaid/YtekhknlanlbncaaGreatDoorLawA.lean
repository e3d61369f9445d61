/-
  DERIVED. The Lean functions answer as the laws say. Conditions: as each theorem says.
-/
import Derived.Test.YtekhknlanlbncaaGreatDoorWalk
import Derived.IntWalk
import Derived.Lib.AtoiAllCases
import Derived.Lib.ItoaMem
import Derived.Lib.ItoaLen
import Derived.Lib.IndexBytes
import Derived.Lib.CountLaws
import Derived.Lib.SplitLaws
set_option linter.unusedVariables false
set_option linter.unusedSimpArgs false
set_option linter.unusedSectionVars false
namespace Lift.A3
open Go Go.RowKit Lift Go.IntWalk Lift.Fn
set_option linter.unusedVariables false
set_option linter.unusedSimpArgs false
theorem loop_fold {α σ:Type} (l:List α) (body:α→σ→Option σ) (L:Nat→Int→σ→Option σ)
  (h0:∀ n i s,0≤i→¬ i<(l.length:Int)→L (n+1) i s=some s)
  (h1:∀ n i s (x:α),0≤i→i<(l.length:Int)→l[i.toNat]? = some x→L (n+1) i s=(body x s).bind fun s'=>L n (i+1) s') :
  ∀ (k n:Nat) (i:Int) (s:σ),0≤i→l.length-i.toNat≤k→k<n→L n i s=(l.drop i.toNat).foldlM (fun s x=>body x s) s:=by
 intro k;induction k with
 |zero=>
  intro n i s hi hk hn;obtain ⟨n,rfl⟩:∃ q,n=q+1:=⟨n-1,by omega⟩;rw[h0 n i s hi (by omega),List.drop_eq_nil_of_le (by omega)];rfl
 |succ k ih=>
  intro n i s hi hk hn;obtain ⟨n,rfl⟩:∃ q,n=q+1:=⟨n-1,by omega⟩;by_cases c:i<(l.length:Int)
  ·have hlt:i.toNat<l.length:=by omega
   rw[h1 n i s l[i.toNat] hi c (List.getElem?_eq_getElem hlt),List.drop_eq_getElem_cons hlt,List.foldlM_cons];congr 1;funext s';rw[ih n (i+1) s' (by omega) (by omega) (by omega)];congr 2;omega
  ·rw[h0 n i s hi c,List.drop_eq_nil_of_le (by omega)];rfl
theorem loop_all {α τ:Type} (l:List α) (body:α→Option Bool) (e:τ) (L:Nat→Int→Option (Bool⊕τ))
  (h0:∀ n i,0≤i→¬ i<(l.length:Int)→L (n+1) i=some (.inr e))
  (h1:∀ n i (x:α),0≤i→i<(l.length:Int)→l[i.toNat]? = some x→L (n+1) i=(body x).bind fun b=>bif b then L n (i+1) else some (.inl false))
  (p:α→Bool) (hp:∀ x∈l,body x=some (p x)) :
  ∀ (k n:Nat) (i:Int),0≤i→l.length-i.toNat≤k→k<n→L n i=some (bif (l.drop i.toNat).all p then .inr e else .inl false):=by
 intro k;induction k with
 |zero=>
  intro n i hi hk hn;obtain ⟨n,rfl⟩:∃ q,n=q+1:=⟨n-1,by omega⟩;rw[h0 n i hi (by omega),List.drop_eq_nil_of_le (by omega)];rfl
 |succ k ih=>
  intro n i hi hk hn;obtain ⟨n,rfl⟩:∃ q,n=q+1:=⟨n-1,by omega⟩;by_cases c:i<(l.length:Int)
  ·have hlt:i.toNat<l.length:=by omega
   rw[h1 n i l[i.toNat] hi c (List.getElem?_eq_getElem hlt),hp _ (List.getElem_mem hlt),List.drop_eq_getElem_cons hlt,List.all_cons,Option.bind_some];cases p l[i.toNat] with
   |true=>
    rw[cond_true,Bool.true_and,ih n (i+1) (by omega) (by omega) (by omega)];have e:(i+1).toNat=i.toNat+1:=by omega
    rw[e]
   |false=>rfl
  ·rw[h0 n i hi c,List.drop_eq_nil_of_le (by omega)];rfl
theorem zart {α σ:Type} (f:σ→α→σ) (g:σ→α→Option σ):∀ (l:List α) (s:σ),(∀ s,∀ x∈l,g s x=some (f s x))→l.foldlM g s=some (l.foldl f s)
 |[],s,_=>rfl
 |x::l,s,h=>by
  rw[List.foldlM_cons,h s x (by simp),List.foldl_cons];exact zart f g l _ (fun s y hy=>h s y (by simp[hy]))
inductive Ev where
 |s (x:TStmt) (d:Int)
 |e (x:TExpr) (d:Int)
mutual
def evE:TExpr→Int→List Ev
 |⟨k,n,m,l⟩,d=>.e ⟨k,n,m,l⟩ d::evEs l (d+1)
def evEs:List TExpr→Int→List Ev
 |[],_=>[]
 |x::l,d=>evE x d++evEs l d
end
def zaak (x:TExpr):Bool:=(x.kind != 0)||decide (0<x.args.length)
mutual
def evS:TStmt→Int→List Ev
 |⟨k,r,m,x,c,t,o⟩,d=>.s ⟨k,r,m,x,c,t,o⟩ d::((if zaak x then evE x 1 else [])++(evSs t (d+1)++evSs o (d+1)))
def evSs:List TStmt→Int→List Ev
 |[],_=>[]
 |x::l,d=>evS x d++evSs l d
end
def evP (p:TProg):List Ev:=p.threads.flatMap fun t=>evSs t.body 1
mutual
def nE:TExpr→Nat
 |⟨_,_,_,l⟩=>1+nEs l
def nEs:List TExpr→Nat
 |[]=>0
 |x::l=>nE x+nEs l
end
mutual
def nS:TStmt→Nat
 |⟨_,_,_,x,_,t,o⟩=>1+nE x+nSs t+nSs o
def nSs:List TStmt→Nat
 |[]=>0
 |x::l=>nS x+nSs l
end
def nT:List TThread→Nat
 |[]=>0
 |t::l=>1+nSs t.body+nT l
theorem nE_eq (x:TExpr):nE x=1+nEs x.args:=by cases x; simp[nE]
theorem nS_eq (x:TStmt):nS x=1+nE x.expr+nSs x.then_+nSs x.else_:=by cases x; simp[nS]
theorem evE_eq (x:TExpr) (d:Int):evE x d=.e x d::evEs x.args (d+1):=by cases x; simp[evE]
theorem evS_eq (x:TStmt) (d:Int):evS x d=.s x d::((if zaak x.expr then evE x.expr 1 else [])++(evSs x.then_ (d+1)++evSs x.else_ (d+1))):=by cases x; simp[evS]
theorem zagu:∀ l:List TExpr,l.length≤nEs l
 |[]=>by simp[nEs]
 |x::l=>by have:=zagu l; have:=nE_eq x; simp only[nEs,List.length_cons]; omega
theorem zafa:∀ l:List TStmt,l.length≤nSs l
 |[]=>by simp[nSs]
 |x::l=>by have:=zafa l; have:=nS_eq x; simp only[nSs,List.length_cons]; omega
theorem zag8:∀ l:List TThread,l.length≤nT l
 |[]=>by simp[nT]
 |x::l=>by have:=zag8 l; simp only[nT,List.length_cons]; omega
theorem zagr:∀ {l:List TExpr} {x:TExpr},x∈l→nE x≤nEs l
 |y::l,x,h=>by
  simp only[nEs];cases h with
  |head=>omega
  |tail _ h=>have:=zagr h; omega
theorem zakx:∀ {l:List TStmt} {x:TStmt},x∈l→nS x≤nSs l
 |y::l,x,h=>by
  simp only[nSs];cases h with
  |head=>omega
  |tail _ h=>have:=zakx h; omega
theorem zaie:∀ {l:List TThread} {x:TThread},x∈l→nSs x.body<nT l
 |y::l,x,h=>by
  simp only[nT];cases h with
  |head=>omega
  |tail _ h=>have:=zaie h; omega
theorem zaoa : ∀ (l : List TExpr) (d : Int), evEs l d = l.flatMap fun x => evE x d
 |[],d=>by simp[evEs]
 |x::l,d=>by simp[evEs,zaoa l d]
theorem zan8 : ∀ (l : List TStmt) (d : Int), evSs l d = l.flatMap fun x => evS x d
 |[],d=>by simp[evSs]
 |x::l,d=>by simp[evSs,zan8 l d]
theorem zadj {α β σ : Type} (f : α → List β) (g : σ → β → Option σ) : ∀ (l : List α) (s : σ), (l.flatMap f).foldlM g s = l.foldlM (fun s x => (f x).foldlM g s) s
 |[],s=>rfl
 |x::l,s=>by
  rw[List.flatMap_cons,List.foldlM_append,List.foldlM_cons];congr 1;funext s';exact zadj f g l s'
theorem zacq {α β:Type} (o:Option (α×β)):(o.bind fun y=>some (y.1,y.2))=o:=by cases o<;>rfl
theorem zabl (x:TExpr):TExpr.mk x.kind x.num x.name x.args=x:=by cases x; rfl
theorem zax8 (x:TStmt):TStmt.mk x.kind x.reg x.name (TExpr.mk x.expr.kind x.expr.num x.expr.name x.expr.args) x.count x.then_ x.else_=x:=by
 obtain ⟨k,r,n,⟨_,_,_,_⟩,c,t,o⟩:=x;rfl
theorem zal2 (x:TStmt):TStmt.mk x.kind x.reg x.name x.expr x.count x.then_ x.else_=x:=by cases x; rfl
theorem zaio (x:TProg):TProg.mk x.cells x.mutexes x.threads=x:=by cases x; rfl
def atEv {σ:Type} (g:TStmt→Int→σ→Option σ) (h:TExpr→Int→σ→Option σ) (s:σ):Ev→Option σ
 |.s x d=>g x d s
 |.e x d=>h x d s
structure WalksE {σ:Type} (h:TExpr→Int→σ→Option σ) (F:Nat→TExpr→Int→σ→Option σ):Prop where
 step:∀ n x d s,(d:Int)+1≤4611686018427387904→-4611686018427387904≤d→x.args.length≤4611686018427387904→F (n+1) x d s=(h x d s).bind fun s'=>x.args.foldlM (fun s y=>F n y (d+1) s) s'
theorem zaq4 {σ:Type} {g:TStmt→Int→σ→Option σ} {h:TExpr→Int→σ→Option σ} {F:Nat→TExpr→Int→σ→Option σ} (hW:WalksE h F) :
  ∀ (k n:Nat) (x:TExpr) (d:Int) (s:σ),nE x≤k→k<n→0≤d→d+k≤1000000000000000000→F n x d s=(evE x d).foldlM (atEv g h) s:=by
 intro k;induction k with
 |zero=>intro n x d s hk; have:=nE_eq x; omega
 |succ k ih=>
  intro n x d s hk hn h0 hd;obtain ⟨n,rfl⟩:∃ q,n=q+1:=⟨n-1,by omega⟩;have hx:=nE_eq x;have hl:=zagu x.args;rw[hW.step n x d s (by omega) (by omega) (by omega),evE_eq,List.foldlM_cons];show _=(h x d s).bind _;congr 1;funext s';rw[zaoa,zadj];have:∀ (l:List TExpr) (s:σ),(∀ y∈l,nE y≤k)→l.foldlM (fun s y=>F n y (d+1) s) s=l.foldlM (fun s y=>(evE y (d+1)).foldlM (atEv g h) s) s:=by
   intro l;induction l with
   |nil=>intro s _; rfl
   |cons y l ihl=>
    intro s hy;rw[List.foldlM_cons,List.foldlM_cons,ih n y (d+1) s (hy y (by simp)) (by omega) (by omega) (by omega)];congr 1;funext s';exact ihl s' (fun z hz=>hy z (by simp[hz]))
  exact this _ _ (fun y hy=>by have:=zagr hy; omega)
structure WalksS {σ:Type} (g:TStmt→Int→σ→Option σ) (E:TExpr→Int→σ→Option σ) (F:Nat→List TStmt→Int→σ→Option σ):Prop where
 step:∀ n l d s,(d:Int)+1≤4611686018427387904→-4611686018427387904≤d→l.length≤4611686018427387904→F (n+1) l d s=l.foldlM (fun s x=>(g x d s).bind fun s1=>(if zaak x.expr then E x.expr 1 s1 else some s1).bind fun s2=>(F n x.then_ (d+1) s2).bind fun s3=>F n x.else_ (d+1) s3) s
theorem zap9 {σ:Type} {g:TStmt→Int→σ→Option σ} {h:TExpr→Int→σ→Option σ} {E:TExpr→Int→σ→Option σ} {F:Nat→List TStmt→Int→σ→Option σ}
  (hE:∀ x s,nE x≤100000000000000000→E x 1 s=(evE x 1).foldlM (atEv g h) s) (hW:WalksS g E F) :
  ∀ (k n:Nat) (l:List TStmt) (d:Int) (s:σ),nSs l≤k→k<n→0≤d→d+k≤100000000000000000→F n l d s=(evSs l d).foldlM (atEv g h) s:=by
 intro k;induction k with
 |zero=>
  intro n l d s hk hn h0 hd;obtain ⟨n,rfl⟩:∃ q,n=q+1:=⟨n-1,by omega⟩;have hl:=zafa l;obtain rfl:l=[]:=List.eq_nil_of_length_eq_zero (by omega);rw[hW.step n [] d s (by omega) (by omega) (by simp)];simp[evSs]
 |succ k ih=>
  intro n l d s hk hn h0 hd;obtain ⟨n,rfl⟩:∃ q,n=q+1:=⟨n-1,by omega⟩;have hl:=zafa l;rw[hW.step n l d s (by omega) (by omega) (by omega),zan8,zadj]
  have : ∀ (l : List TStmt) (s : σ), (∀ y ∈ l, nS y ≤ k + 1) → l.foldlM (fun s x => (g x d s).bind fun s1 => (if zaak x.expr then E x.expr 1 s1 else some s1).bind fun s2 => (F n x.then_ (d + 1) s2).bind fun s3 => F n x.else_ (d + 1) s3) s =
    l.foldlM (fun s y=>(evS y d).foldlM (atEv g h) s) s:=by
   intro l;induction l with
   |nil=>intro s _; rfl
   |cons y l ihl=>
    intro s hy;have hy1:=hy y (by simp);have hy2:=nS_eq y;rw[List.foldlM_cons,List.foldlM_cons];have e:∀ s,((g y d s).bind fun s1=>(if zaak y.expr then E y.expr 1 s1 else some s1).bind fun s2=>(F n y.then_ (d+1) s2).bind fun s3=>F n y.else_ (d+1) s3)=(evS y d).foldlM (atEv g h) s:=by
     intro s;rw[evS_eq,List.foldlM_cons];show _=(g y d s).bind _;congr 1;funext s1;rw[List.foldlM_append];have e1:(if zaak y.expr then E y.expr 1 s1 else some s1)=(if zaak y.expr then evE y.expr 1 else []).foldlM (atEv g h) s1:=by
      split
      ·exact hE _ _ (by omega)
      ·rfl
     rw[e1];congr 1;funext s2;rw[List.foldlM_append];rw[ih n y.then_ (d+1) s2 (by omega) (by omega) (by omega) (by omega)];congr 1;funext s3;exact ih n y.else_ (d+1) s3 (by omega) (by omega) (by omega) (by omega)
    rw[e];congr 1;funext s';exact ihl s' (fun z hz=>hy z (by simp[hz]))
  exact this _ _ (fun y hy=>by have:=zakx hy; omega)
end Lift.A3
namespace Lift.A3
open Go Go.RowKit Lift Go.IntWalk Lift.Fn
set_option linter.unusedVariables false
set_option linter.unusedSimpArgs false
theorem wE : WalksE (fun (x : TExpr) (d : Int) (s : Bool) => qbB x d s) (fun (n : Nat) (x : TExpr) (d : Int) (s : Bool) => qac_i n x d s) where
 step:=by
  intro n x d s hd1 hd2 hl;show qac_f (qac_i n) x d s=_;unfold qac_f;rw[zabl];congr 1;funext y0
  have hL := loop_fold (σ := Bool) x.args (fun y s => qac_i n y (d + 1) s) (fun m i s => qac_i3 (qac_i n) m d x.args (x.args.length : Int) i s)
   (fun m i s h0 h=>by simp only[qac_i3,qac_t3,decide_eq_false h,cond_false])
   (fun m i s y h0 h hy=>by
    simp only[qac_i3,qac_t3,decide_eq_true h,decide_eq_true h0,cond_true,hy,Option.bind_some,zabl];rw[i64_in (i+1) (by omega),i64_in (d+1) (by omega)])
   x.args.length fuel 0 y0 (by omega) (by omega) (by unfold fuel; omega)
  try simp only at hL
  rw[qac_l3,zaaa,hL];simp[zacq]
theorem wEx (x:TExpr) (s:Bool) (hx:nE x≤100000000000000000):qac x 1 s=(evE x 1).foldlM (atEv (fun (x:TStmt) (d:Int) (s:Bool)=>qbA x d s) (fun (x:TExpr) (d:Int) (s:Bool)=>qbB x d s)) s:=by
 rw[qac,zaaa];exact zaq4 (g:=(fun (x:TStmt) (d:Int) (s:Bool)=>qbA x d s)) wE (nE x) fuel x 1 s (Nat.le_refl _) (by unfold fuel; omega) (by omega) (by omega)
theorem wS : WalksS (fun (x : TStmt) (d : Int) (s : Bool) => qbA x d s) (fun (x : TExpr) (d : Int) (s : Bool) => qac x d s) (fun (n : Nat) (l : List TStmt) (d : Int) (s : Bool) => qai_i n l d s) where
 step:=by
  intro n l d s hd1 hd2 hl;show qai_f (qai_i n) l d s=_;unfold qai_f
  have hL := loop_fold (σ := Bool) l (fun x s => (qbA x d s).bind fun s1 => (if zaak x.expr then qac x.expr 1 s1 else some s1).bind fun s2 => (qai_i n x.then_ (d + 1) s2).bind fun s3 => qai_i n x.else_ (d + 1) s3)
   (fun m i s=>qai_i2 (qai_i n) m d l (l.length:Int) i s)
   (fun m i s h0 h=>by simp only[qai_i2,qai_t2,decide_eq_false h,cond_false])
   (fun m i s y h0 h hy=>by
    have e:(bif TExpr.kind (TStmt.expr y) != (0:Int) then some true else some (decide ((↑(List.length (TExpr.args (TStmt.expr y))):Int)>(0:Int))))=some (zaak y.expr):=by
     unfold zaak;cases (y.expr.kind != 0)
     ·simp
     ·rfl
    simp only[qai_i2,qai_t2,decide_eq_true h,decide_eq_true h0,cond_true,hy,Option.bind_some,zabl,zal2,e];rw[i64_in (i+1) (by omega),i64_in (d+1) (by omega)];cases zaak y.expr<;>simp[Option.bind_assoc])
   l.length fuel 0 s (by omega) (by omega) (by unfold fuel; omega)
  try simp only at hL
  rw[qai_l2,zaaa,hL];simp[zacq]
theorem wSt (l:List TStmt) (s:Bool) (hl:nSs l≤10000000000000000):qai l 1 s=(evSs l 1).foldlM (atEv (fun (x:TStmt) (d:Int) (s:Bool)=>qbA x d s) (fun (x:TExpr) (d:Int) (s:Bool)=>qbB x d s)) s:=by
 rw[qai,zaaa];exact zap9 (g:=(fun (x:TStmt) (d:Int) (s:Bool)=>qbA x d s)) (h:=(fun (x:TExpr) (d:Int) (s:Bool)=>qbB x d s)) (fun x s hx=>wEx x s hx) wS (nSs l) fuel l 1 s (Nat.le_refl _) (by unfold fuel; omega) (by omega) (by omega)
theorem wP (p:TProg) (s:Bool) (hl:nT p.threads≤10000000000000000):qaf p s=(evP p).foldlM (atEv (fun (x:TStmt) (d:Int) (s:Bool)=>qbA x d s) (fun (x:TExpr) (d:Int) (s:Bool)=>qbB x d s)) s:=by
 rw[qaf,zaaa];unfold qaf_f;have hn:=zag8 p.threads
 have hL := loop_fold (σ := Bool) p.threads (fun t s => qai t.body 1 s) (fun m i s => qaf_i2 m p.threads (p.threads.length : Int) i s)
  (fun m i s h0 h=>by simp only[qaf_i2,qaf_t2,decide_eq_false h,cond_false])
  (fun m i s y h0 h hy=>by
   simp only[qaf_i2,qaf_t2,decide_eq_true h,decide_eq_true h0,cond_true,hy,Option.bind_some];rw[i64_in (i+1) (by omega)])
  p.threads.length fuel 0 s (by omega) (by omega) (by unfold fuel; omega)
 try simp only at hL
 rw[qaf_l2,zaaa,hL];unfold evP;rw[zadj];have:∀ (l:List TThread) (s:Bool),(∀ t∈l,nSs t.body≤10000000000000000)→l.foldlM (fun s t=>qai t.body 1 s) s=l.foldlM (fun s t=>(evSs t.body 1).foldlM (atEv (fun (x:TStmt) (d:Int) (s:Bool)=>qbA x d s) (fun (x:TExpr) (d:Int) (s:Bool)=>qbB x d s)) s) s:=by
  intro l;induction l with
  |nil=>intro s _; rfl
  |cons t l ih=>
   intro s ht;rw[List.foldlM_cons,List.foldlM_cons,wSt t.body s (ht t (by simp))];congr 1;funext s';exact ih s' (fun z hz=>ht z (by simp[hz]))
 rw[Int.toNat_zero,List.drop_zero,this _ _ (fun t ht=>by have:=zaie ht; omega)];simp[zacq]
theorem wE_1 : WalksE (fun (x : TExpr) (d : Int) (s : Int) => qbw x d s) (fun (n : Nat) (x : TExpr) (d : Int) (s : Int) => qad_i n x d s) where
 step:=by
  intro n x d s hd1 hd2 hl;show qad_f (qad_i n) x d s=_;unfold qad_f;rw[zabl];congr 1;funext y0
  have hL := loop_fold (σ := Int) x.args (fun y s => qad_i n y (d + 1) s) (fun m i s => qad_i3 (qad_i n) m d x.args (x.args.length : Int) i s)
   (fun m i s h0 h=>by simp only[qad_i3,qad_t3,decide_eq_false h,cond_false])
   (fun m i s y h0 h hy=>by
    simp only[qad_i3,qad_t3,decide_eq_true h,decide_eq_true h0,cond_true,hy,Option.bind_some,zabl];rw[i64_in (i+1) (by omega),i64_in (d+1) (by omega)])
   x.args.length fuel 0 y0 (by omega) (by omega) (by unfold fuel; omega)
  try simp only at hL
  rw[qad_l3,zaaa,hL];simp[zacq]
theorem wEx_1 (x:TExpr) (s:Int) (hx:nE x≤100000000000000000):qad x 1 s=(evE x 1).foldlM (atEv (fun (x:TStmt) (d:Int) (s:Int)=>qbv x d s) (fun (x:TExpr) (d:Int) (s:Int)=>qbw x d s)) s:=by
 rw[qad,zaaa];exact zaq4 (g:=(fun (x:TStmt) (d:Int) (s:Int)=>qbv x d s)) wE_1 (nE x) fuel x 1 s (Nat.le_refl _) (by unfold fuel; omega) (by omega) (by omega)
theorem wS_1 : WalksS (fun (x : TStmt) (d : Int) (s : Int) => qbv x d s) (fun (x : TExpr) (d : Int) (s : Int) => qad x d s) (fun (n : Nat) (l : List TStmt) (d : Int) (s : Int) => qaj_i n l d s) where
 step:=by
  intro n l d s hd1 hd2 hl;show qaj_f (qaj_i n) l d s=_;unfold qaj_f
  have hL := loop_fold (σ := Int) l (fun x s => (qbv x d s).bind fun s1 => (if zaak x.expr then qad x.expr 1 s1 else some s1).bind fun s2 => (qaj_i n x.then_ (d + 1) s2).bind fun s3 => qaj_i n x.else_ (d + 1) s3)
   (fun m i s=>qaj_i2 (qaj_i n) m d l (l.length:Int) i s)
   (fun m i s h0 h=>by simp only[qaj_i2,qaj_t2,decide_eq_false h,cond_false])
   (fun m i s y h0 h hy=>by
    have e:(bif TExpr.kind (TStmt.expr y) != (0:Int) then some true else some (decide ((↑(List.length (TExpr.args (TStmt.expr y))):Int)>(0:Int))))=some (zaak y.expr):=by
     unfold zaak;cases (y.expr.kind != 0)
     ·simp
     ·rfl
    simp only[qaj_i2,qaj_t2,decide_eq_true h,decide_eq_true h0,cond_true,hy,Option.bind_some,zabl,zal2,e];rw[i64_in (i+1) (by omega),i64_in (d+1) (by omega)];cases zaak y.expr<;>simp[Option.bind_assoc])
   l.length fuel 0 s (by omega) (by omega) (by unfold fuel; omega)
  try simp only at hL
  rw[qaj_l2,zaaa,hL];simp[zacq]
theorem wSt_1 (l:List TStmt) (s:Int) (hl:nSs l≤10000000000000000):qaj l 1 s=(evSs l 1).foldlM (atEv (fun (x:TStmt) (d:Int) (s:Int)=>qbv x d s) (fun (x:TExpr) (d:Int) (s:Int)=>qbw x d s)) s:=by
 rw[qaj,zaaa];exact zap9 (g:=(fun (x:TStmt) (d:Int) (s:Int)=>qbv x d s)) (h:=(fun (x:TExpr) (d:Int) (s:Int)=>qbw x d s)) (fun x s hx=>wEx_1 x s hx) wS_1 (nSs l) fuel l 1 s (Nat.le_refl _) (by unfold fuel; omega) (by omega) (by omega)
theorem wP_1 (p:TProg) (s:Int) (hl:nT p.threads≤10000000000000000):qag p s=(evP p).foldlM (atEv (fun (x:TStmt) (d:Int) (s:Int)=>qbv x d s) (fun (x:TExpr) (d:Int) (s:Int)=>qbw x d s)) s:=by
 rw[qag,zaaa];unfold qag_f;have hn:=zag8 p.threads
 have hL := loop_fold (σ := Int) p.threads (fun t s => qaj t.body 1 s) (fun m i s => qag_i2 m p.threads (p.threads.length : Int) i s)
  (fun m i s h0 h=>by simp only[qag_i2,qag_t2,decide_eq_false h,cond_false])
  (fun m i s y h0 h hy=>by
   simp only[qag_i2,qag_t2,decide_eq_true h,decide_eq_true h0,cond_true,hy,Option.bind_some];rw[i64_in (i+1) (by omega)])
  p.threads.length fuel 0 s (by omega) (by omega) (by unfold fuel; omega)
 try simp only at hL
 rw[qag_l2,zaaa,hL];unfold evP;rw[zadj];have:∀ (l:List TThread) (s:Int),(∀ t∈l,nSs t.body≤10000000000000000)→l.foldlM (fun s t=>qaj t.body 1 s) s=l.foldlM (fun s t=>(evSs t.body 1).foldlM (atEv (fun (x:TStmt) (d:Int) (s:Int)=>qbv x d s) (fun (x:TExpr) (d:Int) (s:Int)=>qbw x d s)) s) s:=by
  intro l;induction l with
  |nil=>intro s _; rfl
  |cons t l ih=>
   intro s ht;rw[List.foldlM_cons,List.foldlM_cons,wSt_1 t.body s (ht t (by simp))];congr 1;funext s';exact ih s' (fun z hz=>ht z (by simp[hz]))
 rw[Int.toNat_zero,List.drop_zero,this _ _ (fun t ht=>by have:=zaie ht; omega)];simp[zacq]
theorem wE_2 : WalksE (fun (x : TExpr) (d : Int) (s : Int) => qbt x d s) (fun (n : Nat) (x : TExpr) (d : Int) (s : Int) => qae_i n x d s) where
 step:=by
  intro n x d s hd1 hd2 hl;show qae_f (qae_i n) x d s=_;unfold qae_f;rw[zabl];congr 1;funext y0
  have hL := loop_fold (σ := Int) x.args (fun y s => qae_i n y (d + 1) s) (fun m i s => qae_i3 (qae_i n) m d x.args (x.args.length : Int) i s)
   (fun m i s h0 h=>by simp only[qae_i3,qae_t3,decide_eq_false h,cond_false])
   (fun m i s y h0 h hy=>by
    simp only[qae_i3,qae_t3,decide_eq_true h,decide_eq_true h0,cond_true,hy,Option.bind_some,zabl];rw[i64_in (i+1) (by omega),i64_in (d+1) (by omega)])
   x.args.length fuel 0 y0 (by omega) (by omega) (by unfold fuel; omega)
  try simp only at hL
  rw[qae_l3,zaaa,hL];simp[zacq]
theorem wEx_2 (x:TExpr) (s:Int) (hx:nE x≤100000000000000000):qae x 1 s=(evE x 1).foldlM (atEv (fun (x:TStmt) (d:Int) (s:Int)=>qbs x d s) (fun (x:TExpr) (d:Int) (s:Int)=>qbt x d s)) s:=by
 rw[qae,zaaa];exact zaq4 (g:=(fun (x:TStmt) (d:Int) (s:Int)=>qbs x d s)) wE_2 (nE x) fuel x 1 s (Nat.le_refl _) (by unfold fuel; omega) (by omega) (by omega)
theorem wS_2 : WalksS (fun (x : TStmt) (d : Int) (s : Int) => qbs x d s) (fun (x : TExpr) (d : Int) (s : Int) => qae x d s) (fun (n : Nat) (l : List TStmt) (d : Int) (s : Int) => qak_i n l d s) where
 step:=by
  intro n l d s hd1 hd2 hl;show qak_f (qak_i n) l d s=_;unfold qak_f
  have hL := loop_fold (σ := Int) l (fun x s => (qbs x d s).bind fun s1 => (if zaak x.expr then qae x.expr 1 s1 else some s1).bind fun s2 => (qak_i n x.then_ (d + 1) s2).bind fun s3 => qak_i n x.else_ (d + 1) s3)
   (fun m i s=>qak_i2 (qak_i n) m d l (l.length:Int) i s)
   (fun m i s h0 h=>by simp only[qak_i2,qak_t2,decide_eq_false h,cond_false])
   (fun m i s y h0 h hy=>by
    have e:(bif TExpr.kind (TStmt.expr y) != (0:Int) then some true else some (decide ((↑(List.length (TExpr.args (TStmt.expr y))):Int)>(0:Int))))=some (zaak y.expr):=by
     unfold zaak;cases (y.expr.kind != 0)
     ·simp
     ·rfl
    simp only[qak_i2,qak_t2,decide_eq_true h,decide_eq_true h0,cond_true,hy,Option.bind_some,zabl,zal2,e];rw[i64_in (i+1) (by omega),i64_in (d+1) (by omega)];cases zaak y.expr<;>simp[Option.bind_assoc])
   l.length fuel 0 s (by omega) (by omega) (by unfold fuel; omega)
  try simp only at hL
  rw[qak_l2,zaaa,hL];simp[zacq]
theorem wSt_2 (l:List TStmt) (s:Int) (hl:nSs l≤10000000000000000):qak l 1 s=(evSs l 1).foldlM (atEv (fun (x:TStmt) (d:Int) (s:Int)=>qbs x d s) (fun (x:TExpr) (d:Int) (s:Int)=>qbt x d s)) s:=by
 rw[qak,zaaa];exact zap9 (g:=(fun (x:TStmt) (d:Int) (s:Int)=>qbs x d s)) (h:=(fun (x:TExpr) (d:Int) (s:Int)=>qbt x d s)) (fun x s hx=>wEx_2 x s hx) wS_2 (nSs l) fuel l 1 s (Nat.le_refl _) (by unfold fuel; omega) (by omega) (by omega)
theorem wP_2 (p:TProg) (s:Int) (hl:nT p.threads≤10000000000000000):qah p s=(evP p).foldlM (atEv (fun (x:TStmt) (d:Int) (s:Int)=>qbs x d s) (fun (x:TExpr) (d:Int) (s:Int)=>qbt x d s)) s:=by
 rw[qah,zaaa];unfold qah_f;have hn:=zag8 p.threads
 have hL := loop_fold (σ := Int) p.threads (fun t s => qak t.body 1 s) (fun m i s => qah_i2 m p.threads (p.threads.length : Int) i s)
  (fun m i s h0 h=>by simp only[qah_i2,qah_t2,decide_eq_false h,cond_false])
  (fun m i s y h0 h hy=>by
   simp only[qah_i2,qah_t2,decide_eq_true h,decide_eq_true h0,cond_true,hy,Option.bind_some];rw[i64_in (i+1) (by omega)])
  p.threads.length fuel 0 s (by omega) (by omega) (by unfold fuel; omega)
 try simp only at hL
 rw[qah_l2,zaaa,hL];unfold evP;rw[zadj];have:∀ (l:List TThread) (s:Int),(∀ t∈l,nSs t.body≤10000000000000000)→l.foldlM (fun s t=>qak t.body 1 s) s=l.foldlM (fun s t=>(evSs t.body 1).foldlM (atEv (fun (x:TStmt) (d:Int) (s:Int)=>qbs x d s) (fun (x:TExpr) (d:Int) (s:Int)=>qbt x d s)) s) s:=by
  intro l;induction l with
  |nil=>intro s _; rfl
  |cons t l ih=>
   intro s ht;rw[List.foldlM_cons,List.foldlM_cons,wSt_2 t.body s (ht t (by simp))];congr 1;funext s';exact ih s' (fun z hz=>ht z (by simp[hz]))
 rw[Int.toNat_zero,List.drop_zero,this _ _ (fun t ht=>by have:=zaie ht; omega)];simp[zacq]
end Lift.A3
namespace Lift.A3
open Go Go.RowKit Lift Go.IntWalk Lift.Fn
set_option linter.unusedVariables false
set_option linter.unusedSimpArgs false
theorem zazs {α σ ρ:Type} (l:List α) (I:List α→σ→Prop) (P:List α→σ→ρ) (L:Nat→Int→σ→Option ρ)
  (h0:∀ n i s,0≤i→¬ i<(l.length:Int)→I [] s→L (n+1) i s=some (P [] s))
  (h1:∀ n i s x r,0≤i→i<(l.length:Int)→l[i.toNat]? = some x→x∈l→I (x::r) s→(∃ s',I r s'∧L (n+1) i s=L n (i+1) s'∧P (x::r) s=P r s')∨L (n+1) i s=some (P (x::r) s)) :
  ∀ (k n:Nat) (i:Int) (s:σ),0≤i→l.length-i.toNat≤k→k<n→I (l.drop i.toNat) s→L n i s=some (P (l.drop i.toNat) s):=by
 intro k;induction k with
 |zero=>
  intro n i s hi hk hn hI;obtain ⟨n,rfl⟩:∃ q,n=q+1:=⟨n-1,by omega⟩;rw[List.drop_eq_nil_of_le (by omega)] at hI ⊢;exact h0 n i s hi (by omega) hI
 |succ k ih=>
  intro n i s hi hk hn hI;obtain ⟨n,rfl⟩:∃ q,n=q+1:=⟨n-1,by omega⟩;by_cases c:i<(l.length:Int)
  ·have hlt:i.toNat<l.length:=by omega
   rw[List.drop_eq_getElem_cons hlt] at hI ⊢;rcases h1 n i s l[i.toNat] _ hi c (List.getElem?_eq_getElem hlt) (List.getElem_mem hlt) hI with ⟨s',i1,e1,e2⟩|e
   ·have e:(i+1).toNat=i.toNat+1:=by omega
    rw[e1,ih n (i+1) s' (by omega) (by omega) (by omega) (by rw[e]; exact i1),e2,e]
   ·exact e
  ·rw[List.drop_eq_nil_of_le (by omega)] at hI ⊢;exact h0 n i s hi c hI
theorem zac6 {α σ ρ:Type} (l:List α) (I:List α→σ→Prop) (P:List α→σ→ρ) (L:Nat→Int→σ→Option ρ)
  (h0:∀ n i s,0≤i→¬ i<(l.length:Int)→I [] s→L (n+1) i s=some (P [] s))
  (h1:∀ n i s x r,0≤i→i<(l.length:Int)→l[i.toNat]? = some x→x∈l→I (x::r) s→(∃ s',I r s'∧L (n+1) i s=L n (i+1) s'∧P (x::r) s=P r s')∨L (n+1) i s=some (P (x::r) s))
  (n:Nat) (s:σ) (hn:l.length<n) (hI:I l s):L n 0 s=some (P l s):=by
 have:=zazs l I P L h0 h1 l.length n 0 s (by omega) (by omega) hn;rw[Int.toNat_zero,List.drop_zero] at this;exact this hI
mutual
theorem lenE:∀ (x:TExpr) (d:Int),(evE x d).length=nE x
 |⟨k,n,m,l⟩,d=>by simp[evE,nE,lenEs l (d+1)]; omega
theorem lenEs:∀ (l:List TExpr) (d:Int),(evEs l d).length=nEs l
 |[],d=>by simp[evEs,nEs]
 |x::l,d=>by simp[evEs,nEs,lenE x d,lenEs l d]
end
mutual
def cS:TStmt→Nat
 |⟨_,_,_,x,_,t,o⟩=>1+(if zaak x then nE x else 0)+cSs t+cSs o
def cSs:List TStmt→Nat
 |[]=>0
 |x::l=>cS x+cSs l
end
def cT:List TThread→Nat
 |[]=>0
 |t::l=>cSs t.body+cT l
theorem cS_eq (x:TStmt):cS x=1+(if zaak x.expr then nE x.expr else 0)+cSs x.then_+cSs x.else_:=by cases x; simp[cS]
mutual
theorem lenS:∀ (x:TStmt) (d:Int),(evS x d).length=cS x
 |⟨k,r,m,x,c,t,o⟩,d=>by
  have h1:=lenSs t (d+1);have h2:=lenSs o (d+1);have h3:=lenE x 1;simp only[evS,cS,List.length_cons,List.length_append,h1,h2];split<;>simp[h3]<;>omega
theorem lenSs:∀ (l:List TStmt) (d:Int),(evSs l d).length=cSs l
 |[],d=>by simp[evSs,cSs]
 |x::l,d=>by simp[evSs,cSs,lenS x d,lenSs l d]
end
mutual
theorem cS_le:∀ x:TStmt,cS x≤nS x
 |⟨k,r,m,x,c,t,o⟩=>by
  have h1:=zag7 t;have h2:=zag7 o;simp only[cS,nS];split<;>omega
theorem zag7:∀ l:List TStmt,cSs l≤nSs l
 |[]=>by simp[cSs]
 |x::l=>by have:=cS_le x; have:=zag7 l; simp only[cSs,nSs]; omega
end
theorem cT_le:∀ l:List TThread,cT l≤nT l
 |[]=>by simp[cT]
 |x::l=>by have:=zag7 x.body; have:=cT_le l; simp only[cT,nT]; omega
theorem lenP : ∀ (l : List TThread), (l.flatMap fun t => evSs t.body 1).length = cT l
 |[]=>rfl
 |t::l=>by simp only[List.flatMap_cons,List.length_append,lenSs,lenP l,cT]
theorem zamx:∀ (l:List Ev) (s:Int),0≤s→s+l.length≤1000000000000000000 →
  l.foldlM (atEv (fun (x:TStmt) (d:Int) (s:Int)=>qbs x d s) (fun (x:TExpr) (d:Int) (s:Int)=>qbt x d s)) s=some (s+l.length)
 |[],s,_,_=>by simp
 |e::l,s,h0,h=>by
  simp only[List.length_cons] at h;have e1:atEv (fun (x:TStmt) (d:Int) (s:Int)=>qbs x d s) (fun (x:TExpr) (d:Int) (s:Int)=>qbt x d s) s e=some (s+1):=by
   cases e with
   |s x d=>show qbs x d s=_; rw[qbs,zaaa]; unfold qbs_f; rw[i64_in (s+1) (by omega)]
   |e x d=>show qbt x d s=_; rw[qbt,zaaa]; unfold qbt_f; rw[i64_in (s+1) (by omega)]
  rw[List.foldlM_cons,e1];show List.foldlM _ (s+1) l=_;rw[zamx l (s+1) (by omega) (by omega),List.length_cons];congr 1;omega
theorem zavu (p:TProg) (h:nT p.threads≤10000000000000000):qbr p=some (cT p.threads:Int):=by
 rw[qbr,zaaa];unfold qbr_f;have hc:=cT_le p.threads;have hl:=lenP p.threads;rw[zaio,wP_2 p 0 h,zamx _ 0 (by omega) (by unfold evP; rw[hl]; omega),Option.bind_some];unfold evP;rw[hl];simp
theorem zars (x:TExpr):qa2 x=some (zaak x):=by
 rw[qa2,zaaa];unfold qa2_f zaak;cases (x.kind != 0)
 ·simp
 ·rfl
theorem zavx:∀ (k n:Nat) (x:TExpr),nE x≤k→k<n→k≤100000000000000000→qaW_i n x=some (nE x:Int):=by
 intro k;induction k with
 |zero=>intro n x h; have:=nE_eq x; omega
 |succ k ih=>
  intro n x h hn hb;obtain ⟨n,rfl⟩:∃ q,n=q+1:=⟨n-1,by omega⟩;have hx:=nE_eq x;have hl:=zagu x.args;show qaW_f (qaW_i n) x=_;unfold qaW_f
  have hL := loop_fold (σ := Int) x.args (fun y s => (qaW_i n y).bind fun c => some (IntKind.i64.wrap (s + c)))
   (fun m i s=>qaW_i3 (qaW_i n) m s i x.kind x.num x.name x.args)
   (fun m i s h0 h=>by simp only[qaW_i3,qaW_t3,decide_eq_false h,cond_false])
   (fun m i s y h0 h hy=>by
    simp only[qaW_i3,qaW_t3,decide_eq_true h,decide_eq_true h0,cond_true,hy,Option.bind_some,Option.bind_assoc];rw[i64_in (i+1) (by omega)])
   x.args.length fuel 0 1 (by omega) (by omega) (by unfold fuel; omega)
  rw[qaW_l3,zaaa,hL,Int.toNat_zero,List.drop_zero];have:∀ (l:List TExpr) (s:Int),0≤s→s+nEs l≤1000000000000000000→(∀ y∈l,nE y≤k)→l.foldlM (fun s y=>(qaW_i n y).bind fun c=>some (IntKind.i64.wrap (s+c))) s=some (s+nEs l):=by
   intro l;induction l with
   |nil=>intro s _ _ _; simp[nEs]
   |cons y l ihl=>
    intro s h0 hs hy;simp only[nEs] at hs;rw[List.foldlM_cons,ih n y (hy y (by simp)) (by omega) (by omega),Option.bind_some,i64_in (s+nE y) (by omega)];show List.foldlM _ (s+(nE y:Int)) l=_;rw[ihl (s+nE y) (by omega) (by omega) (fun z hz=>hy z (by simp[hz]))];simp only[nEs];congr 1;omega
  rw[this x.args 1 (by omega) (by omega) (fun y hy=>by have:=zagr hy; omega),Option.bind_some,hx];simp
theorem zaqn (x:TExpr) (h:nE x≤10000000000000000):qaW x=some (nE x:Int):=by
 rw[qaW,zaaa];exact zavx (nE x) fuel x (Nat.le_refl _) (by unfold fuel; omega) (by omega)
theorem zawg:∀ (k n:Nat) (l:List TStmt),nSs l≤k→k<n→k≤10000000000000000→qa0_i n l=some (cSs l:Int):=by
 intro k;induction k with
 |zero=>
  intro n l h hn _;obtain ⟨n,rfl⟩:∃ q,n=q+1:=⟨n-1,by omega⟩;have hl:=zafa l;obtain rfl:l=[]:=List.eq_nil_of_length_eq_zero (by omega);show qa0_f (qa0_i n) []=_;unfold qa0_f;rw[qa0_l3,zaaa];rfl
 |succ k ih=>
  intro n l h hn hb;obtain ⟨n,rfl⟩:∃ q,n=q+1:=⟨n-1,by omega⟩;have hl:=zafa l;have hcl:=zag7 l;show qa0_f (qa0_i n) l=_;unfold qa0_f
  have hL := zac6 (σ := Int) l (fun r s => 0 ≤ s ∧ s + cSs r ≤ 1000000000000000000) (fun r s => s + (cSs r : Int))
   (fun m i s=>qa0_i3 (qa0_i n) m l s i)
   (fun m i s h0 h hI=>by
    simp only[qa0_i3,qa0_t3,decide_eq_false h,cond_false,cSs];congr 1;omega)
   (fun m i s y r h0 h hy hm hI=>by
    have hy1:=zakx hm;have hy2:=nS_eq y;have hy3:=cS_eq y;have t1:=zag7 y.then_;have t2:=zag7 y.else_;obtain ⟨c1,c2⟩:=hI;simp only[cSs] at c2;refine Or.inl ⟨s+cS y,⟨by omega,by omega⟩,?_,by simp only[cSs]; omega⟩;simp only[qa0_i3,qa0_t3,decide_eq_true h,decide_eq_true h0,hy,Option.bind_some,zabl,zars,cond_true];rw[ih n y.then_ (by omega) (by omega) (by omega),ih n y.else_ (by omega) (by omega) (by omega),zaqn y.expr (by omega)];simp only[Option.bind_some];cases hb2:zaak y.expr with
    |true=>
     rw[hb2,if_pos rfl] at hy3;rw[cond_true,i64_in (s+1) (by omega),i64_in (s+1+nE y.expr) (by omega),i64_in (s+1+nE y.expr+cSs y.then_) (by omega),i64_in (s+1+nE y.expr+cSs y.then_+cSs y.else_) (by omega),i64_in (i+1) (by omega)];congr 1;omega
    |false=>
     rw[hb2,if_neg (by simp)] at hy3;rw[cond_false,i64_in (s+1) (by omega),i64_in (s+1+cSs y.then_) (by omega),i64_in (s+1+cSs y.then_+cSs y.else_) (by omega),i64_in (i+1) (by omega)];congr 1;omega)
   fuel 0 (by unfold fuel; omega) ⟨by omega,by omega⟩
  rw[qa0_l3,zaaa,hL];simp
theorem zaw3 (p:TProg) (h:nT p.threads≤10000000000000000):qaU p=some (cT p.threads:Int):=by
 rw[qaU,zaaa];unfold qaU_f;have hl:=zag8 p.threads;have hc:=cT_le p.threads
 have hL := zac6 (σ := Int) p.threads (fun r s => 0 ≤ s ∧ s + cT r ≤ 1000000000000000000) (fun r s => s + (cT r : Int))
   (fun m i s=>qaU_i3 m s i p.cells p.mutexes p.threads)
   (fun m i s h0 h hI=>by
    simp only[qaU_i3,qaU_t3,decide_eq_false h,cond_false,cT];congr 1;omega)
   (fun m i s y r h0 h hy hm hI=>by
    have hy1:=zaie hm;obtain ⟨c1,c2⟩:=hI;simp only[cT] at c2;refine Or.inl ⟨s+cSs y.body,⟨by omega,by omega⟩,?_,by simp only[cT]; omega⟩;simp only[qaU_i3,qaU_t3,decide_eq_true h,decide_eq_true h0,hy,Option.bind_some,cond_true];rw[qa0,zaaa,zawg (nSs y.body) fuel y.body (Nat.le_refl _) (by unfold fuel; omega) (by omega),Option.bind_some,i64_in (s+cSs y.body) (by omega),i64_in (i+1) (by omega)])
   fuel 0 (by unfold fuel; omega) ⟨by omega,by omega⟩
 rw[qaU_l3,zaaa,hL];simp
def evD:Ev→Int
 |.s _ d=>d
 |.e _ d=>d
def maxEv (l:List Ev) (s:Int):Int:=l.foldl (fun s e=>max s (evD e)) s
theorem zags (a b:Int):(if a>b then a else b)=max b a:=by
 rw[Int.max_def];split<;>split<;>omega
theorem zafs (a b:List Ev) (s:Int):maxEv (a++b) s=maxEv b (maxEv a s):=by
 unfold maxEv;rw[List.foldl_append]
theorem zag2:∀ (a:List Ev) (s:Int),s≤maxEv a s
 |[],s=>Int.le_refl _
 |e::a,s=>by
  have:=zag2 a (max s (evD e));show s≤maxEv a (max s (evD e));omega
theorem zao1:∀ (a:List Ev) (s t:Int),maxEv a (max s t)=max s (maxEv a t)
 |[],s,t=>rfl
 |e::a,s,t=>by
  show maxEv a (max (max s t) (evD e))=max s (maxEv a (max t (evD e)));rw[← zao1 a s];congr 1;omega
theorem zagt (a:List Ev) (s:Int) (h:0≤s):maxEv a s=max s (maxEv a 0):=by
 rw[← zao1 a s 0];congr 1;omega
mutual
def dE:TExpr→Nat
 |⟨_,_,_,l⟩=>1+dEs l
def dEs:List TExpr→Nat
 |[]=>0
 |x::l=>max (dE x) (dEs l)
end
theorem dE_eq (x:TExpr):dE x=1+dEs x.args:=by cases x; simp[dE]
mutual
theorem dE_le:∀ x:TExpr,dE x≤nE x
 |⟨_,_,_,l⟩=>by have:=zavb l; simp only[dE,nE]; omega
theorem zavb:∀ l:List TExpr,dEs l≤nEs l
 |[]=>by simp[dEs]
 |x::l=>by have:=dE_le x; have:=zavb l; simp only[dEs,nEs]; omega
end
mutual
theorem maxE:∀ (x:TExpr) (d s:Int),maxEv (evE x d) s=max s (d-1+dE x)
 |⟨k,n,m,l⟩,d,s=>by
  rw[evE];show maxEv (evEs l (d+1)) (max s d)=_;rw[maxEs l (d+1) (max s d) (by omega),dE];omega
theorem maxEs:∀ (l:List TExpr) (d s:Int),d-1≤s→maxEv (evEs l d) s=max s (d-1+dEs l)
 |[],d,s,h=>by
  rw[evEs,dEs];show s=_;omega
 |x::l,d,s,h=>by
  rw[evEs,zafs,maxE x d s,maxEs l d _ (by omega),dEs];omega
end
theorem zao0 : ∀ (l : List Ev) (s : Int), l.foldlM (atEv (fun (x : TStmt) (d : Int) (s : Int) => qbv x d s) (fun (x : TExpr) (d : Int) (s : Int) => qbw x d s)) s = some (maxEv l s)
 |[],s=>rfl
 |e::l,s=>by
  have e1:atEv (fun (x:TStmt) (d:Int) (s:Int)=>qbv x d s) (fun (x:TExpr) (d:Int) (s:Int)=>qbw x d s) s e=some (max s (evD e)):=by
   cases e with
   |s x d=>show qbv x d s=_; rw[qbv,zaaa]; unfold qbv_f; rw[zags]; rfl
   |e x d=>show qbw x d s=_; rw[qbw,zaaa]; unfold qbw_f; rw[zags]; rfl
  rw[List.foldlM_cons,e1];exact zao0 l _
theorem zaxn (p:TProg) (h:nT p.threads≤10000000000000000):qbu p=some (maxEv (evP p) 0):=by
 rw[qbu,zaaa];unfold qbu_f;rw[zaio,wP_1 p 0 h,zao0];rfl
theorem zaxr:∀ (k n:Nat) (x:TExpr),nE x≤k→k<n→k≤100000000000000000→qaX_i n x=some (dE x:Int):=by
 intro k;induction k with
 |zero=>intro n x h; have:=nE_eq x; omega
 |succ k ih=>
  intro n x h hn hb;obtain ⟨n,rfl⟩:∃ q,n=q+1:=⟨n-1,by omega⟩;have hx:=nE_eq x;have hl:=zagu x.args;have hd:=dE_eq x;have hd2:=dE_le x;show qaX_f (qaX_i n) x=_;unfold qaX_f
  have hL := zac6 (σ := Int) x.args (fun r s => 0 ≤ s) (fun r s => max s (dEs r : Int))
   (fun m i s=>qaX_i3 (qaX_i n) m s i x.kind x.num x.name x.args)
   (fun m i s h0 h hI=>by
    simp only[qaX_i3,qaX_t3,decide_eq_false h,cond_false,dEs];congr 1;omega)
   (fun m i s y r h0 h hy hm hI=>by
    have hy1:=zagr hm;have hI':0≤s:=hI;refine Or.inl ⟨max s (dE y),(by show 0≤max s (dE y:Int); omega),?_,by simp only[dEs]; omega⟩;simp only[qaX_i3,qaX_t3,decide_eq_true h,decide_eq_true h0,cond_true,hy,Option.bind_some];rw[ih n y (by omega) (by omega) (by omega),Option.bind_some,i64_in (i+1) (by omega),zags])
   fuel 0 (by unfold fuel; omega) (Int.le_refl _)
  rw[qaX_l3,zaaa,hL,Option.bind_some,i64_in _ (by omega),hd];congr 1;omega
theorem zar6 (x:TExpr) (h:nE x≤10000000000000000):qaX x=some (maxEv (evE x 1) 0):=by
 rw[qaX,zaaa,zaxr (nE x) fuel x (Nat.le_refl _) (by unfold fuel; omega) (by omega),maxE];congr 1;omega
theorem maxS (y:TStmt) (d s:Int) (h:0≤s):maxEv (evS y d) s=max (max (if zaak y.expr then max (max s d) (maxEv (evE y.expr 1) 0) else max s d) (maxEv (evSs y.then_ (d+1)) 0)) (maxEv (evSs y.else_ (d+1)) 0):=by
 rw[evS_eq];show maxEv (_++(_++_)) (max s d)=_;have g:=zag2;rw[zafs,zafs];cases zaak y.expr with
 |true=>
  rw[if_pos rfl,if_pos rfl,zagt (evE y.expr 1) _ (by omega),zagt (evSs y.then_ _) _ (by omega),zagt (evSs y.else_ _) _ (by omega)]
 |false=>
  rw[if_neg (by simp),if_neg (by simp)];show maxEv _ (maxEv _ (max s d))=_;rw[zagt (evSs y.then_ _) _ (by omega),zagt (evSs y.else_ _) _ (by omega)]
theorem zaxv:∀ (k n:Nat) (l:List TStmt) (d:Int),nSs l≤k→k<n→0≤d→d+k≤10000000000000001→qa1_i n l d=some (maxEv (evSs l d) 0):=by
 intro k;induction k with
 |zero=>
  intro n l d h hn _ _;obtain ⟨n,rfl⟩:∃ q,n=q+1:=⟨n-1,by omega⟩;have hl:=zafa l;obtain rfl:l=[]:=List.eq_nil_of_length_eq_zero (by omega);show qa1_f (qa1_i n) [] d=_;unfold qa1_f;rw[qa1_l3,zaaa,evSs];rfl
 |succ k ih=>
  intro n l d h hn hd hb;obtain ⟨n,rfl⟩:∃ q,n=q+1:=⟨n-1,by omega⟩;have hl:=zafa l;show qa1_f (qa1_i n) l d=_;unfold qa1_f
  have hL := zac6 (σ := Int) l (fun r s => 0 ≤ s) (fun r s => maxEv (evSs r d) s)
   (fun m i s=>qa1_i3 (qa1_i n) m l d s i)
   (fun m i s h0 h hI=>by
    simp only[qa1_i3,qa1_t3,decide_eq_false h,cond_false,evSs];rfl)
   (fun m i s y r h0 h hy hm hI=>by
    have hy1:=zakx hm;have hy2:=nS_eq y;have hI':0≤s:=hI;have hg:=zag2 (evS y d) s;refine Or.inl ⟨maxEv (evS y d) s,(by show 0≤maxEv (evS y d) s; omega),?_,by simp only[evSs,zafs]⟩;simp only[qa1_i3,qa1_t3,decide_eq_true h,decide_eq_true h0,hy,Option.bind_some,zabl,zars,cond_true];rw[i64_in (d+1) (by omega),ih n y.then_ (d+1) (by omega) (by omega) (by omega) (by omega),ih n y.else_ (d+1) (by omega) (by omega) (by omega) (by omega),zar6 y.expr (by omega),i64_in (i+1) (by omega)];simp only[Option.bind_some,zags];rw[maxS y d s hI'];cases zaak y.expr<;>rfl)
   fuel 0 (by unfold fuel; omega) (Int.le_refl _)
  rw[qa1_l3,zaaa,hL];rfl
theorem zax6 (p:TProg) (h:nT p.threads≤10000000000000000):qaV p=some (maxEv (evP p) 0):=by
 rw[qaV,zaaa];unfold qaV_f;have hl:=zag8 p.threads
 have hL := zac6 (σ := Int) p.threads (fun r s => 0 ≤ s) (fun r s => maxEv (r.flatMap fun t => evSs t.body 1) s)
   (fun m i s=>qaV_i3 m s i p.cells p.mutexes p.threads)
   (fun m i s h0 h hI=>by
    simp only[qaV_i3,qaV_t3,decide_eq_false h,cond_false];rfl)
   (fun m i s y r h0 h hy hm hI=>by
    have hy1:=zaie hm;have hI':0≤s:=hI;have hg:=zag2 (evSs y.body 1) s;refine Or.inl ⟨maxEv (evSs y.body 1) s,(by show 0≤maxEv (evSs y.body 1) s; omega),?_,by simp only[List.flatMap_cons,zafs]⟩;simp only[qaV_i3,qaV_t3,decide_eq_true h,decide_eq_true h0,hy,Option.bind_some,cond_true];rw[qa1,zaaa,zaxv (nSs y.body) fuel y.body 1 (Nat.le_refl _) (by unfold fuel; omega) (by omega) (by omega),Option.bind_some,i64_in (i+1) (by omega),zags,← zagt _ s hI'])
   fuel 0 (by unfold fuel; omega) (Int.le_refl _)
 rw[qaV_l3,zaaa,hL];rfl
end Lift.A3
namespace Lift.A3
open Go Go.RowKit Lift Go.IntWalk Lift.Fn
set_option linter.unusedVariables false
set_option linter.unusedSimpArgs false
end Lift.A3
namespace Lift.A3
open Go Go.RowKit Lift Go.IntWalk Lift.Fn
set_option linter.unusedVariables false
set_option linter.unusedSimpArgs false
def two {α:Type} (f:α→α→Bool):List α→List α→Bool
 |[],[]=>true
 |x::l,y::r=>f x y&&two f l r
 |_,_=>false
mutual
def sE:TExpr→TExpr→Bool
 |⟨k,n,m,l⟩,⟨k',n',m',l'⟩=>k==k'&&(n==n'&&(m==m'&&sEs l l'))
def sEs:List TExpr→List TExpr→Bool
 |[],[]=>true
 |x::l,y::r=>sE x y&&sEs l r
 |_,_=>false
end
mutual
def sS:TStmt→TStmt→Bool
 |⟨k,r,m,x,c,t,o⟩,⟨k',r',m',x',c',t',o'⟩=>k==k'&&(r==r'&&(m==m'&&(c==c'&&(sE x x'&&(sSs t t'&&sSs o o')))))
def sSs:List TStmt→List TStmt→Bool
 |[],[]=>true
 |x::l,y::r=>sS x y&&sSs l r
 |_,_=>false
end
def sT (x y:TThread):Bool:=x.name==y.name&&two sS x.body y.body
end Lift.A3
namespace Lift.A3
open Go Go.RowKit Lift Go.IntWalk Lift.Fn
set_option linter.unusedVariables false
set_option linter.unusedSimpArgs false
end Lift.A3
namespace Lift.A3
open Go Go.RowKit Lift Go.IntWalk Lift.Fn
set_option linter.unusedVariables false
set_option linter.unusedSimpArgs false
end Lift.A3
namespace Lift.A1P
open Go Go.RowKit Lift Go.IntWalk
namespace Sp
def isRune (r:Int):Bool:=decide (0≤r∧r≤1114111∧(r<55296∨r>57343))
def letter (r:Int):Bool:=isRune r&&decide ((65≤r∧r≤90)∨r=95∨(97≤r∧r≤122)∨192≤r)
def digit (r:Int):Bool:=decide (48≤r∧r≤57)
def blank (r:Int):Bool:=decide (r=9∨r=10∨r=13∨r=32)
def long (r:Int):Int:=if r<128 then 1 else if r<2048 then 2 else if r<65536 then 3 else 4
def enc (r:Int):List Int:=
 if r<128 then [r] else if r<2048 then [192+r / 64,128+r % 64] else if r<65536 then [224+r / 4096,128+r / 64 % 64,128+r % 64]
 else [240+r / 262144,128+r / 4096 % 64,128+r / 64 % 64,128+r % 64]
def dc (t:List UInt8) (p:Nat):Nat×Nat:=Utf8.decode ⟨t.toArray⟩ p
def bad (t:List UInt8) (p:Nat):Bool:=decide ((dc t p).1=65533)&&!(((t.take (min t.length (p+3))).drop p)==[239,191,189])
def at1 (t:List UInt8) (p:Int):Int:=if bad t p.toNat then 0 else ((dc t p.toNat).1:Int)
def at2 (t:List UInt8) (p:Int):Int:=if bad t p.toNat then 0 else ((dc t p.toNat).2:Int)
def on (s:Spot) (r n:Int):Spot:=if r=10 then ⟨s.rune,s.at_+n,s.line+1,1⟩ else ⟨s.rune,s.at_+n,s.line,s.col+1⟩
def spotsFrom (t:List UInt8):Nat→List Spot→Spot→List Spot×Spot
 |0,acc,s=>(acc,s)
 | n + 1, acc, s => if s.at_ < t.length then (if bad t s.at_.toNat then (acc, s) else
   spotsFrom t n (acc++[⟨at1 t s.at_,s.at_,s.line,s.col⟩]) (on ⟨at1 t s.at_,s.at_,s.line,s.col⟩ (at1 t s.at_) (at2 t s.at_))) else (acc,s)
def ended (s:Spot):Spot:=⟨-1,s.at_,s.line,s.col⟩
def spots1 (t:List UInt8):List Spot:=(spotsFrom t t.length [] ⟨0,0,1,1⟩).1
def spots2 (t:List UInt8):Spot:=ended (spotsFrom t t.length [] ⟨0,0,1,1⟩).2
def runes1 (t:List UInt8):List Spot:=if 4000<t.length then [] else if (spots2 t).at_<t.length then [] else spots1 t
def runes2 (t:List UInt8):Fault:=if 4000<t.length then ⟨10,4000,[]⟩ else if (spots2 t).at_<t.length then ⟨11,(spots2 t).at_,[]⟩ else ⟨0,0,[]⟩
def same (a b:List Spot):Bool:=decide (a=b)
end Sp
namespace Sp
def by_ (l:List UInt8) (k:Nat):Nat:=(l.getD k 0).toNat
def ct (l:List UInt8) (k:Nat):Bool:=decide (k<l.length)&&(by_ l k / 64==2)
def dl (l:List UInt8):Nat×Nat:=
 if by_ l 0<0x80 then (by_ l 0,1)
 else if by_ l 0 / 32 == 6 && ct l 1 then
  if (by_ l 0 % 32)*64+by_ l 1 % 64≥0x80 then ((by_ l 0 % 32)*64+by_ l 1 % 64,2) else (65533,1)
 else if by_ l 0 / 16 == 14 && ct l 1 && ct l 2 then
  if (by_ l 0 % 16)*4096+(by_ l 1 % 64)*64+by_ l 2 % 64≥0x800&&Utf8.valid (((by_ l 0 % 16)*4096+(by_ l 1 % 64)*64+by_ l 2 % 64:Nat):Int) then ((by_ l 0 % 16)*4096+(by_ l 1 % 64)*64+by_ l 2 % 64,3) else (65533,1)
 else if by_ l 0 / 8 == 30 && ct l 1 && ct l 2 && ct l 3 then
  if (by_ l 0 % 8)*262144+(by_ l 1 % 64)*4096+(by_ l 2 % 64)*64+by_ l 3 % 64≥0x10000&&Utf8.valid (((by_ l 0 % 8)*262144+(by_ l 1 % 64)*4096+(by_ l 2 % 64)*64+by_ l 3 % 64:Nat):Int) then ((by_ l 0 % 8)*262144+(by_ l 1 % 64)*4096+(by_ l 2 % 64)*64+by_ l 3 % 64,4) else (65533,1)
 else (65533,1)
def badl (l:List UInt8):Bool:=decide ((dl l).1=65533)&&!(l.take 3==[239,191,189])
theorem zax4 (t:List UInt8) (q k:Nat):by_ (t.drop q) k=(t.getD (q+k) 0).toNat:=by
 simp[by_,List.getD_eq_getElem?_getD]
theorem dc_eq (t:List UInt8) (q:Nat):dc t q=dl (t.drop q):=by
 have hb:∀ k,((⟨t.toArray⟩:ByteArray).get! (q+k)).toNat=by_ (t.drop q) k:=by
  intro k;rw[zax4];simp[ByteArray.get!,List.getD_eq_getElem?_getD,getElem!_def];cases t[q+k]?<;>rfl
 have hs:(⟨t.toArray⟩:ByteArray).size=t.length:=by simp[ByteArray.size]
 have hc:∀ k,(decide (q+k<t.length)&&((by_ (t.drop q) k) / 64==2))=ct (t.drop q) k:=by
  intro k;unfold ct;have:(q+k<t.length)↔(k<(t.drop q).length):=by simp; omega
  simp only[this]
 unfold dc Utf8.decode;simp only[hb,hs,hc];unfold dl;rfl
theorem bad_eq (t:List UInt8) (q:Nat):bad t q=badl (t.drop q):=by
 unfold bad badl;rw[dc_eq];congr 2;have:(t.take (min t.length (q+3))).drop q=(t.drop q).take 3:=by
  have h1:t.take (min t.length (q+3))=t.take (q+3):=by
   rcases Nat.le_total t.length (q+3) with h|h
   ·rw[Nat.min_eq_left h,List.take_of_length_le h,List.take_of_length_le (Nat.le_refl _)]
   ·rw[Nat.min_eq_right h]
  rw[h1,List.drop_take];simp
 rw[this]
end Sp
namespace Sp
theorem take3 (l:List UInt8):(l.take 3==[239,191,189])=decide (3≤l.length∧by_ l 0=239∧by_ l 1=191∧by_ l 2=189):=by
 have e:∀ (a b:UInt8),(a==b)=decide (a.toNat=b.toNat):=fun a b=>by
  rw[Bool.eq_iff_iff]; simp[UInt8.toNat_inj]
 match l with
 |[]=>simp[by_]
 |[a]=>simp[by_]
 |[a,b]=>simp[by_]
 |a::b::c::r=>
  have:List.take 3 (a::b::c::r)=[a,b,c]:=rfl;rw[this];rw[Bool.eq_iff_iff];simp[by_,← UInt8.toNat_inj]
end Sp
def ansA (n b0 b1 b2 b3:Nat):Int×Int:=
 let ok (r:Int) (k:Int):Int×Int:=if (0≤r∧r≤1114111∧(r<55296∨r>57343))∧Sp.long r=k then (r,k) else (0,0)
 if 240≤b0 then (if n<4 then (0,0) else if b1<128∨191<b1 then (0,0) else if b2<128∨191<b2 then (0,0) else if b3<128∨191<b3 then (0,0) else ok (64*(64*(64*(b0-240)+b1-128)+b2-128)+b3-128) 4)
 else if 224≤b0 then (if n<3 then (0,0) else if b1<128∨191<b1 then (0,0) else if b2<128∨191<b2 then (0,0) else ok (64*(64*(b0-224)+b1-128)+b2-128) 3)
 else if 192≤b0 then (if n<2 then (0,0) else if b1<128∨191<b1 then (0,0) else ok (64*(b0-192)+b1-128) 2)
 else if 128≤b0 then (0,0) else (b0,1)
theorem zahj (r:Int):Utf8.valid r=true↔(0≤r∧r<55296)∨(57344≤r∧r≤1114111):=by
 unfold Utf8.valid;simp only[Bool.or_eq_true,Bool.and_eq_true,decide_eq_true_eq]
theorem zavj (l:List UInt8) (hl:0<l.length):ansA l.length (Sp.by_ l 0) (Sp.by_ l 1) (Sp.by_ l 2) (Sp.by_ l 3)=if Sp.badl l then (0,0) else (((Sp.dl l).1:Int),((Sp.dl l).2:Int)):=by
 have hb:∀ k,Sp.by_ l k<256:=fun k=>(l.getD k 0).toNat_lt
 have h0:=hb 0;have h1:=hb 1;have h2:=hb 2;have h3:=hb 3;unfold Sp.badl;rw[Sp.take3];obtain ⟨D,hD⟩:∃ D,D=Sp.dl l:=⟨_,rfl⟩;rw[← hD];unfold Sp.dl Sp.ct at hD;generalize Sp.by_ l 0=b0 at *;generalize Sp.by_ l 1=b1 at *;generalize Sp.by_ l 2=b2 at *;generalize Sp.by_ l 3=b3 at *;generalize l.length=n at *;clear hb;have small:∀ r:Int,r<128→Sp.long r=1:=fun r h=>by unfold Sp.long; rw[if_pos h]
 have two:∀ r:Int,128≤r→r<2048→Sp.long r=2:=fun r h h'=>by unfold Sp.long; rw[if_neg (by omega),if_pos h']
 have three:∀ r:Int,2048≤r→r<65536→Sp.long r=3:=fun r h h'=>by unfold Sp.long; rw[if_neg (by omega),if_neg (by omega),if_pos h']
 have four:∀ r:Int,65536≤r→Sp.long r=4:=fun r h=>by unfold Sp.long; rw[if_neg (by omega),if_neg (by omega),if_neg (by omega)]
 simp only[Bool.and_eq_true,decide_eq_true_eq,beq_iff_eq,zahj,ge_iff_le] at hD;simp only[Bool.and_eq_true,decide_eq_true_eq,Bool.not_eq_true',decide_eq_false_iff_not];have good:∀ (r k:Nat),D=(r,k)→¬ (r=65533∧¬ (3≤n∧b0=239∧b1=191∧b2=189))→(if D.1=65533∧¬ (3≤n∧b0=239∧b1=191∧b2=189) then ((0:Int),(0:Int)) else (↑D.1,↑D.2))=((r:Int),(k:Int)):=by
  intro r k h1 h2;rw[h1];exact if_neg h2
 have badd:D=(65533,1)→¬ (3≤n∧b0=239∧b1=191∧b2=189)→(if D.1=65533∧¬ (3≤n∧b0=239∧b1=191∧b2=189) then ((0:Int),(0:Int)) else (↑D.1,↑D.2))=(0,0):=by
  intro h1 h2;rw[h1];exact if_pos ⟨rfl,h2⟩
 unfold ansA;by_cases k0:b0<128
 ·rw[if_neg (by omega),if_neg (by omega),if_neg (by omega),if_neg (by omega)];rw[if_pos k0] at hD;rw[good _ _ hD (by omega)];rfl
 rw[if_neg k0] at hD;by_cases k1:b0<192
 ·rw[if_neg (by omega),if_neg (by omega),if_neg (by omega),if_pos (by omega)];rw[if_neg (by omega),if_neg (by omega),if_neg (by omega)] at hD;rw[badd hD (by omega)]
 by_cases k2:b0<224
 ·rw[if_neg (by omega),if_neg (by omega),if_pos (by omega)];by_cases c1:n<2
  ·rw[if_neg (by omega),if_neg (by omega),if_neg (by omega)] at hD;rw[if_pos c1,badd hD (by omega)]
  rw[if_neg c1];by_cases c2:b1<128∨191<b1
  ·rw[if_neg (by omega),if_neg (by omega),if_neg (by omega)] at hD;rw[if_pos c2,badd hD (by omega)]
  rw[if_neg c2];rw[if_pos (by omega)] at hD;by_cases c3:128≤b0 % 32*64+b1 % 64
  ·rw[if_pos c3] at hD;rw[good _ _ hD (by omega)];have:=two (64*((b0:Int)-192)+b1-128) (by omega) (by omega);show (if _ then _ else _)=_;rw[if_pos ⟨by omega,this⟩];simp only[Prod.mk.injEq];omega
  ·rw[if_neg c3] at hD;rw[badd hD (by omega)];show (if _ then _ else _)=_;rw[if_neg];intro hh;have:=small (64*((b0:Int)-192)+b1-128) (by omega);omega
 by_cases k3:b0<240
 ·rw[if_neg (by omega),if_pos (by omega)];by_cases c1:n<3
  ·rw[if_neg (by omega),if_neg (by omega),if_neg (by omega)] at hD;rw[if_pos c1,badd hD (by omega)]
  rw[if_neg c1];by_cases c2:b1<128∨191<b1
  ·rw[if_neg (by omega),if_neg (by omega),if_neg (by omega)] at hD;rw[if_pos c2,badd hD (by omega)]
  rw[if_neg c2];by_cases c3:b2<128∨191<b2
  ·rw[if_neg (by omega),if_neg (by omega),if_neg (by omega)] at hD;rw[if_pos c3,badd hD (by omega)]
  rw[if_neg c3];rw[if_neg (by omega),if_pos (by omega)] at hD;have hv:(64*(64*((b0:Int)-224)+b1-128)+b2-128)=((b0 % 16*4096+b1 % 64*64+b2 % 64:Nat):Int):=by omega
  show (if _ then _ else _)=_;rw[hv];obtain ⟨N,hN⟩:∃ N,N=b0 % 16*4096+b1 % 64*64+b2 % 64:=⟨_,rfl⟩;rw[← hN] at hD ⊢;by_cases c4:2048≤N∧(0≤(N:Int)∧(N:Int)<55296∨57344≤(N:Int)∧(N:Int)≤1114111)
  ·rw[if_pos c4] at hD;have h5:=three (N:Int) (by omega) (by omega);rw[good N 3 hD (by omega),if_pos (And.intro (by omega) h5)];exact Prod.ext rfl rfl
  ·rw[if_neg c4] at hD;rw[badd hD (by omega),if_neg];intro hh;by_cases c5:N<128
   ·have:=small (N:Int) (by omega); omega
   by_cases c6:N<2048
   ·have:=two (N:Int) (by omega) (by omega); omega
   ·omega
 ·rw[if_pos (by omega)];by_cases c1:n<4
  ·rw[if_neg (by omega),if_neg (by omega),if_neg (by omega)] at hD;rw[if_pos c1,badd hD (by omega)]
  rw[if_neg c1];by_cases c2:b1<128∨191<b1
  ·rw[if_neg (by omega),if_neg (by omega),if_neg (by omega)] at hD;rw[if_pos c2,badd hD (by omega)]
  rw[if_neg c2];by_cases c3:b2<128∨191<b2
  ·rw[if_neg (by omega),if_neg (by omega),if_neg (by omega)] at hD;rw[if_pos c3,badd hD (by omega)]
  rw[if_neg c3];by_cases c3':b3<128∨191<b3
  ·rw[if_neg (by omega),if_neg (by omega),if_neg (by omega)] at hD;rw[if_pos c3',badd hD (by omega)]
  rw[if_neg c3'];rw[if_neg (by omega),if_neg (by omega)] at hD;have hv:(64*(64*(64*((b0:Int)-240)+b1-128)+b2-128)+b3-128)=(((b0-240)*262144+(b1-128)*4096+(b2-128)*64+(b3-128):Nat):Int):=by omega
  show (if _ then _ else _)=_;rw[hv];by_cases k4:b0<248
  ·rw[if_pos (by omega)] at hD;have hm:b0 % 8*262144+b1 % 64*4096+b2 % 64*64+b3 % 64=(b0-240)*262144+(b1-128)*4096+(b2-128)*64+(b3-128):=by omega
   rw[hm] at hD;obtain ⟨N,hN⟩:∃ N,N=(b0-240)*262144+(b1-128)*4096+(b2-128)*64+(b3-128):=⟨_,rfl⟩;rw[← hN] at hD ⊢;by_cases c4:65536≤N∧(0≤(N:Int)∧(N:Int)<55296∨57344≤(N:Int)∧(N:Int)≤1114111)
   ·rw[if_pos c4] at hD;have h5:=four (N:Int) (by omega);rw[good N 4 hD (by omega),if_pos (And.intro (by omega) h5)];exact Prod.ext rfl rfl
   ·rw[if_neg c4] at hD;rw[badd hD (by omega),if_neg];intro hh;by_cases c5:N<128
    ·have:=small (N:Int) (by omega); omega
    by_cases c6:N<2048
    ·have:=two (N:Int) (by omega) (by omega); omega
    by_cases c7:N<65536
    ·have:=three (N:Int) (by omega) (by omega); omega
    ·omega
  ·rw[if_neg (by omega)] at hD;rw[badd hD (by omega),if_neg];intro hh;omega
def zahc (t:List UInt8) (s:Spot):Prop:=t.length≤4000∧0≤s.at_∧s.at_≤t.length∧1≤s.line∧s.line≤s.at_+1∧1≤s.col∧s.col≤s.at_+1
noncomputable def zaaw (t:List UInt8) (l:List Spot) (s:Spot):List Spot×Spot:=Sp.spotsFrom t (t.length-s.at_.toNat) l s
namespace Sp
theorem dl_pos (l:List UInt8) (h:0<l.length):1≤(dl l).2∧(dl l).2≤4∧(dl l).2≤l.length:=by
 unfold dl ct;simp only[Bool.and_eq_true,decide_eq_true_eq];repeat' split
 all_goals simp only
 all_goals omega
theorem ansA_ok (n b0 b1 b2 b3:Nat) (h:b0<256):ansA n b0 b1 b2 b3=(0,0)∨(isRune (ansA n b0 b1 b2 b3).1=true∧long (ansA n b0 b1 b2 b3).1=(ansA n b0 b1 b2 b3).2):=by
 unfold ansA;simp only;by_cases a1:240≤b0
 ·rw[if_pos a1];repeat' split
  all_goals first|exact .inl rfl|(rename_i hc; exact .inr ⟨by simpa only[isRune,decide_eq_true_eq] using hc.1,hc.2⟩)
 rw[if_neg a1];by_cases a2:224≤b0
 ·rw[if_pos a2];repeat' split
  all_goals first|exact .inl rfl|(rename_i hc; exact .inr ⟨by simpa only[isRune,decide_eq_true_eq] using hc.1,hc.2⟩)
 rw[if_neg a2];by_cases a3:192≤b0
 ·rw[if_pos a3];repeat' split
  all_goals first|exact .inl rfl|(rename_i hc; exact .inr ⟨by simpa only[isRune,decide_eq_true_eq] using hc.1,hc.2⟩)
 rw[if_neg a3];by_cases a4:128≤b0
 ·rw[if_pos a4]; exact .inl rfl
 rw[if_neg a4];exact .inr ⟨by simp only[isRune,decide_eq_true_eq]; omega,by unfold long; rw[if_pos (by omega)]⟩
theorem good_at {t:List UInt8} {p:Int} (hp:0≤p) (h:p<t.length) (hb:bad t p.toNat=false):isRune (at1 t p)=true∧long (at1 t p)=at2 t p∧1≤at2 t p∧at2 t p≤4∧p+at2 t p≤t.length ∧
  at1 t p=(dc t p.toNat).1∧at2 t p=(dc t p.toNat).2:=by
 have hl:0<(t.drop p.toNat).length:=by simp; omega
 obtain ⟨h1,h2,h3⟩:=dl_pos _ hl;have h4:=zavj _ hl;rw[← bad_eq,hb,← dc_eq] at h4;rw[← dc_eq] at h1 h2 h3;have hlen:((t.drop p.toNat).length:Int)=t.length-p:=by simp; omega
 unfold at1 at2;rw[hb];simp only[Bool.false_eq_true,if_false] at h4 ⊢;rcases ansA_ok (t.drop p.toNat).length (by_ (t.drop p.toNat) 0) (by_ (t.drop p.toNat) 1) (by_ (t.drop p.toNat) 2) (by_ (t.drop p.toNat) 3) ((t.drop p.toNat).getD 0 0).toNat_lt with h5|⟨h5,h6⟩
 ·rw[h4] at h5;simp only[Prod.mk.injEq] at h5;omega
 ·rw[h4] at h5 h6;exact ⟨h5,h6,by omega,by omega,by omega,by simp⟩
theorem fuel (t:List UInt8):∀ (n m:Nat) (l:List Spot) (s:Spot),0≤s.at_→t.length-s.at_.toNat≤n→t.length-s.at_.toNat≤m→spotsFrom t n l s=spotsFrom t m l s:=by
 intro n;induction n with
 |zero=>
  intro m l s h0 h1 h2;have hc:¬ s.at_<t.length:=by omega
  cases m with
  |zero=>rfl
  |succ m=>simp only[spotsFrom,if_neg hc]
 |succ n ih=>
  intro m l s h0 h1 h2;by_cases hc:s.at_<t.length
  ·cases m with
   |zero=>omega
   |succ m=>
    simp only[spotsFrom,if_pos hc];cases hb:bad t s.at_.toNat with
    |true=>rfl
    |false=>
     simp only[Bool.false_eq_true,if_false];obtain ⟨g1,g2,g3,g4,g5,_⟩:=good_at h0 hc hb;have ha:∀ x:Spot,(on x (at1 t s.at_) (at2 t s.at_)).at_=x.at_+at2 t s.at_:=fun x=>by unfold on; split<;>rfl
     refine ih m _ _ ?_ ?_ ?_<;>rw[ha]<;>simp only<;>omega
  ·cases m with
   |zero=>simp only[spotsFrom,if_neg hc]
   |succ m=>simp only[spotsFrom,if_neg hc]
end Sp
theorem zamz {t:List UInt8} {l:List Spot} {s:Spot} (h:¬ s.at_<t.length):zaaw t l s=(l,s):=by
 unfold zaaw;cases t.length-s.at_.toNat with
 |zero=>rfl
 |succ n=>simp only[Sp.spotsFrom,if_neg h]
theorem zatg {t:List UInt8} {l:List Spot} {s:Spot} (hb:Sp.bad t s.at_.toNat=true):zaaw t l s=(l,s):=by
 unfold zaaw;cases t.length-s.at_.toNat with
 |zero=>rfl
 |succ n=>simp only[Sp.spotsFrom,hb,if_true]; split<;>rfl
def here (t:List UInt8) (s:Spot):Spot:=⟨Sp.at1 t s.at_,s.at_,s.line,s.col⟩
def after (t:List UInt8) (s:Spot):Spot:=Sp.on (here t s) (Sp.at1 t s.at_) (Sp.at2 t s.at_)
theorem zaq0 (t:List UInt8) (s:Spot):(after t s).at_=s.at_+Sp.at2 t s.at_:=by
 unfold after Sp.on here;split<;>rfl
theorem zasg {t:List UInt8} {l:List Spot} {s:Spot} (h0:0≤s.at_) (h:s.at_<t.length) (hb:Sp.bad t s.at_.toNat=false):zaaw t l s=zaaw t (l++[here t s]) (after t s):=by
 unfold zaaw;obtain ⟨n,hn⟩:∃ n,t.length-s.at_.toNat=n+1:=⟨t.length-s.at_.toNat-1,by omega⟩;obtain ⟨g1,g2,g3,g4,g5,_⟩:=Sp.good_at h0 h hb;rw[hn];simp only[Sp.spotsFrom,if_pos h,hb,Bool.false_eq_true,if_false];have ha:=zaq0 t s;exact Sp.fuel t _ _ _ _ (by unfold after here at ha; omega) (by unfold after here at ha; omega) (Nat.le_refl _)
theorem zaqs {t:List UInt8} {s:Spot} (h:zahc t s) (hlt:s.at_<t.length) (hb:Sp.bad t s.at_.toNat=false):zahc t (after t s):=by
 obtain ⟨h1,h2,h3,h4,h5,h6,h7⟩:=h;obtain ⟨g1,g2,g3,g4,g5,_⟩:=Sp.good_at h2 hlt hb;unfold zahc after Sp.on here;split<;>simp only<;>omega
theorem zauu (t:List UInt8):∀ (n:Nat) (l:List Spot) (s s':Spot),Sp.ended s=Sp.ended s'→(Sp.spotsFrom t n l s).1=(Sp.spotsFrom t n l s').1∧Sp.ended (Sp.spotsFrom t n l s).2=Sp.ended (Sp.spotsFrom t n l s').2:=by
 intro n l s s' h;obtain ⟨r,a,b,c⟩:=s;obtain ⟨r',a',b',c'⟩:=s';simp only[Sp.ended,Spot.mk.injEq,true_and] at h;obtain ⟨rfl,rfl,rfl⟩:=h;cases n with
 |zero=>exact ⟨rfl,rfl⟩
 |succ n=>
  simp only[Sp.spotsFrom];split
  ·split
   ·exact ⟨rfl,rfl⟩
   ·exact ⟨rfl,rfl⟩
  ·exact ⟨rfl,rfl⟩
theorem zaov (t:List UInt8) (l:List Spot) (r r' a b c:Int):(zaaw t l ⟨r,a,b,c⟩).1=(zaaw t l ⟨r',a,b,c⟩).1∧(zaaw t l ⟨r,a,b,c⟩).2.at_=(zaaw t l ⟨r',a,b,c⟩).2.at_ ∧
  (zaaw t l ⟨r,a,b,c⟩).2.line=(zaaw t l ⟨r',a,b,c⟩).2.line∧(zaaw t l ⟨r,a,b,c⟩).2.col=(zaaw t l ⟨r',a,b,c⟩).2.col:=by
 have:=zauu t (t.length-a.toNat) l ⟨r,a,b,c⟩ ⟨r',a,b,c⟩ rfl;unfold zaaw;obtain ⟨h1,h2⟩:=this;simp only[Sp.ended,Spot.mk.injEq,true_and] at h2;exact ⟨h1,h2.1,h2.2.1,h2.2.2⟩
end Lift.A1P
namespace Lift.A1P
open Go Go.RowKit Lift Go.IntWalk Lift.Fn
theorem zaj3 {a b:Bool} (h:a=true↔b=true):some a=some b:=by rw[Bool.eq_iff_iff.2 h]
theorem zawc (r:Int):qbb r=some (Sp.digit r):=by
 rw[qbb,zaaa];unfold qbb_f;simp only[cond_eq_ite];split;all_goals refine zaj3 ?_
 all_goals simp only[Sp.digit,decide_eq_true_eq,decide_eq_false_iff_not,Bool.false_eq_true,false_iff,Bool.not_eq_true] at *
 all_goals omega
theorem zazd (r:Int):qba r=some (Sp.blank r):=by
 rw[qba,zaaa];unfold qba_f;simp only[cond_eq_ite];repeat' split
 all_goals refine zaj3 ?_
 all_goals simp only[Sp.blank,beq_iff_eq,decide_eq_true_eq,decide_eq_false_iff_not,Bool.false_eq_true,false_iff,true_iff,Bool.not_eq_true] at *
 all_goals omega
theorem zazz (r:Int):qbH r=some (Sp.isRune r):=by
 rw[qbH,zaaa];unfold qbH_f;simp only[cond_eq_ite];repeat' split
 all_goals refine zaj3 ?_
 all_goals simp only[Sp.isRune,beq_iff_eq,decide_eq_true_eq,decide_eq_false_iff_not,Bool.false_eq_true,false_iff,true_iff,Bool.not_eq_true] at *
 all_goals omega
theorem zazy (r:Int):qbf r=some (Sp.isRune r):=by
 rw[qbf,zaaa];unfold qbf_f;simp only[cond_eq_ite];repeat' split
 ·simp only[decide_eq_true_eq] at *;rw[zazz,i32_in r (by omega)];rfl
 all_goals refine zaj3 ?_
 all_goals simp only[Sp.isRune,beq_iff_eq,decide_eq_true_eq,decide_eq_false_iff_not,Bool.false_eq_true,false_iff,true_iff,Bool.not_eq_true] at *
 all_goals omega
theorem zayo (r:Int):qbc r=some (Sp.letter r):=by
 rw[qbc,zaaa];unfold qbc_f;simp only[cond_eq_ite,zazy,Option.bind_some];repeat' split
 all_goals refine zaj3 ?_
 all_goals simp only[Sp.letter,Sp.isRune,beq_iff_eq,Bool.and_eq_true,decide_eq_true_eq,decide_eq_false_iff_not,Bool.false_eq_true,false_iff,true_iff,Bool.not_eq_true] at *
 all_goals omega
theorem len1 (r:Int) (h:Sp.isRune r=true):qbG r=some (Sp.long r):=by
 simp only[Sp.isRune,decide_eq_true_eq] at h;rw[qbG,zaaa];unfold qbG_f Sp.long;simp only[cond_eq_ite,decide_eq_true_eq];repeat' split
 all_goals first|rfl|omega
theorem zaon {t:List UInt8} {s:Spot} (h:zahc t s):0≤s.at_∧s.at_≤t.length∧t.length≤4000∧1≤s.line∧s.line≤s.at_+1∧1≤s.col∧s.col≤s.at_+1:=
 ⟨h.2.1,h.2.2.1,h.1,h.2.2.2.1,h.2.2.2.2.1,h.2.2.2.2.2.1,h.2.2.2.2.2.2⟩
theorem goneL (s:List UInt8) (a1 a2 a3 a4:Int):∀ (k n:Nat) (c2 c3 c4:Int) (pos:Nat) (l:List Spot),s.length-c2.toNat≤k→k<n→zahc s ⟨-1,c2,c3,c4⟩→(l.length:Int)≤c2→(pos:Int)=c2 →
  qbe_i4 n s a1 a2 a3 a4 (-1) c2 c3 c4 s pos l=some (if (zaaw s l ⟨-1,c2,c3,c4⟩).2.at_<s.length then
   .inl (-1,(zaaw s l ⟨-1,c2,c3,c4⟩).2.at_,(zaaw s l ⟨-1,c2,c3,c4⟩).2.line,(zaaw s l ⟨-1,c2,c3,c4⟩).2.col,(zaaw s l ⟨-1,c2,c3,c4⟩).1)
   else .inr (a1,a2,a3,a4,-1,(zaaw s l ⟨-1,c2,c3,c4⟩).2.at_,(zaaw s l ⟨-1,c2,c3,c4⟩).2.line,(zaaw s l ⟨-1,c2,c3,c4⟩).2.col,(zaaw s l ⟨-1,c2,c3,c4⟩).1)):=by
 intro k;induction k with
 |zero=>
  intro n c2 c3 c4 pos l hk hn hok hl hp;obtain ⟨n,rfl⟩:∃ q,n=q+1:=⟨n-1,by omega⟩;have:=zaon hok;simp only at this;have c:¬ c2<s.length:=by omega
  have c':¬ pos<s.length:=by omega
  rw[zamz (s:=⟨-1,c2,c3,c4⟩) c,if_neg c];simp only[qbe_i4,qbe_t4,c',decide_false,cond_false]
 |succ k ih=>
  intro n c2 c3 c4 pos l hk hn hok hl hp;obtain ⟨n,rfl⟩:∃ q,n=q+1:=⟨n-1,by omega⟩;obtain ⟨h2,h3,h1,h4,h5,h6,h7⟩:=zaon hok;simp only at h2 h3 h4 h5 h6 h7;have hq:pos=c2.toNat:=by omega
  simp only[qbe_i4,qbe_t4];by_cases c:c2<s.length
  ·have hlt:pos<s.length:=by omega
   have hdc:Utf8.decode ⟨s.toArray⟩ pos=Sp.dc s c2.toNat:=by rw[hq]; rfl
   rw[hdc];rw[i64_in ((pos:Int)+3) (by omega)];have hmin:(if (pos:Int)+3<(s.length:Int) then (pos:Int)+3 else (s.length:Int))=(min s.length (c2.toNat+3):Nat):=by
    split<;>omega
   rw[hmin];have hslice:List.drop (Int.toNat (pos:Int)) (List.take (Int.toNat ((min s.length (c2.toNat+3):Nat):Int)) s)=(s.take (min s.length (c2.toNat+3))).drop c2.toNat:=by
    rw[Int.toNat_natCast,Int.toNat_natCast,hq]
   rw[hslice];have hbnd:(decide ((0:Int)≤(pos:Int))&&(decide ((pos:Int)≤(min s.length (c2.toNat+3):Nat))&&decide (((min s.length (c2.toNat+3):Nat):Int)≤(s.length:Int))))=true:=by
    simp only[Bool.and_eq_true,decide_eq_true_eq]; omega
   rw[hbnd];have hbad:Sp.bad s c2.toNat=(decide ((Sp.dc s c2.toNat).1=65533)&&!(((s.take (min s.length (c2.toNat+3))).drop c2.toNat)==[239,191,189])):=rfl;simp only[hlt,decide_true,cond_true];cases hb:Sp.bad s c2.toNat with
   |true=>
    rw[hb] at hbad;have hbad:=hbad.symm;simp only[Bool.and_eq_true,decide_eq_true_eq] at hbad;have e1:(((Sp.dc s c2.toNat).1:Int)==65533)=true:=by rw[beq_iff_eq]; omega
    rw[e1,hbad.2];simp only[cond_true];rw[zatg (s:=⟨-1,c2,c3,c4⟩) hb,if_pos c]
   |false=>
    obtain ⟨g1,g2,g3,g4,g5,g6,g7⟩:=Sp.good_at h2 c hb;rw[zasg (s:=⟨-1,c2,c3,c4⟩) h2 c hb];generalize hR:(some (ite ((zaaw s (l++[here s ⟨-1,c2,c3,c4⟩]) (after s ⟨-1,c2,c3,c4⟩)).2.at_<(s.length:Int)) _ _):Option _)=R;have hk':=zaqs hok c hb;have haf:=zaq0 s ⟨-1,c2,c3,c4⟩;simp only at haf;have hrune:Sp.isRune ((Sp.dc s c2.toNat).1:Int)=true:=by rw[← g6]; exact g1
    have hlong:Sp.long ((Sp.dc s c2.toNat).1:Int)=Sp.at2 s c2:=by rw[← g6]; exact g2
    have hr:(0:Int)≤(Sp.dc s c2.toNat).1∧((Sp.dc s c2.toNat).1:Int)≤1114111:=by
     simp only[Sp.isRune,decide_eq_true_eq] at hrune; omega
    rw[len1 _ hrune,hlong,Option.bind_some];rw[i64_in ((Sp.dc s c2.toNat).1:Int) (by omega),i64_in (c2+Sp.at2 s c2) (by omega),i64_in (c3+1) (by omega),i64_in (c4+1) (by omega)];have hhere:here s ⟨-1,c2,c3,c4⟩=⟨((Sp.dc s c2.toNat).1:Int),c2,c3,c4⟩:=by unfold here; rw[g6]
    have go:∀ (b3 b4:Int),(after s ⟨-1,c2,c3,c4⟩).line=b3→(after s ⟨-1,c2,c3,c4⟩).col=b4 →
      qbe_i4 n s a1 a2 a3 a4 (-1) (c2+Sp.at2 s c2) b3 b4 s (pos+(Sp.dc s c2.toNat).2) (l++[⟨((Sp.dc s c2.toNat).1:Int),c2,c3,c4⟩]) =
       R:=by
     intro b3 b4 e3 e4;rw[← hR];have hk2:zahc s ⟨-1,c2+Sp.at2 s c2,b3,b4⟩:=by
      obtain ⟨q1,q2,q3,q4,q5,q6,q7⟩:=hk';rw[haf] at q2 q3 q5 q7;rw[e3] at q4 q5;rw[e4] at q6 q7;exact ⟨q1,q2,q3,q4,q5,q6,q7⟩
     have heta:after s ⟨-1,c2,c3,c4⟩=⟨(after s ⟨-1,c2,c3,c4⟩).rune,c2+Sp.at2 s c2,b3,b4⟩:=by
      rw[← haf,← e3,← e4]
     rw[ih n _ _ _ _ _ (by omega) (by omega) hk2 (by simp only[List.length_append,List.length_cons,List.length_nil]; omega) (by omega)];rw[hhere,heta];obtain ⟨y1,y2,y3,y4⟩:=zaov s (l++[⟨((Sp.dc s c2.toNat).1:Int),c2,c3,c4⟩]) (-1) (after s ⟨-1,c2,c3,c4⟩).rune (c2+Sp.at2 s c2) b3 b4;rw[y1,y2,y3,y4]
    have main:(bif decide ((List.length l+List.length [Spot.mk ((Sp.dc s c2.toNat).1:Int) c2 c3 c4])*(32:Nat)≤(140737488355328:Nat)∧List.length l+List.length [Spot.mk ((Sp.dc s c2.toNat).1:Int) c2 c3 c4]≤(9223372036854775807:Nat)) then
       bif ((Sp.dc s c2.toNat).1:Int)==(10:Int) then
        qbe_i4 n s a1 a2 a3 a4 (-1) (c2+Sp.at2 s c2) (c3+1) 1 s (pos+(Sp.dc s c2.toNat).2) (l++[⟨((Sp.dc s c2.toNat).1:Int),c2,c3,c4⟩])
       else
        qbe_i4 n s a1 a2 a3 a4 (-1) (c2+Sp.at2 s c2) c3 (c4+1) s (pos+(Sp.dc s c2.toNat).2) (l++[⟨((Sp.dc s c2.toNat).1:Int),c2,c3,c4⟩])
      else none)=R:=by
     have hlen1:((List.length l+List.length [Spot.mk ((Sp.dc s c2.toNat).1:Int) c2 c3 c4])*(32:Nat)≤(140737488355328:Nat)∧List.length l+List.length [Spot.mk ((Sp.dc s c2.toNat).1:Int) c2 c3 c4]≤(9223372036854775807:Nat)):=by
      simp only[List.length_cons,List.length_nil]; omega
     rw[decide_eq_true hlen1,cond_true];cases e10:(((Sp.dc s c2.toNat).1:Int)==10) with
     |true=>
      have:Sp.at1 s c2=10:=by rw[g6]; exact beq_iff_eq.1 e10
      exact go _ _ (by simp[after,here,Sp.on,this]) (by simp[after,here,Sp.on,this])
     |false=>
      have:¬ Sp.at1 s c2=10:=by rw[g6]; exact beq_eq_false_iff_ne.1 e10
      exact go _ _ (by simp[after,here,Sp.on,this]) (by simp[after,here,Sp.on,this])
    cases e1:(((Sp.dc s c2.toNat).1:Int)==65533) with
    |true=>
     rw[hb] at hbad;have e2:decide ((Sp.dc s c2.toNat).1=65533)=true:=by
      have:=beq_iff_eq.1 e1;rw[decide_eq_true_eq]; omega
     rw[e2,Bool.true_and] at hbad;rw[← hbad];simp only[cond_true,cond_false];exact main
    |false=>
     simp only[cond_false];exact main
  ·have hlt:¬ pos<s.length:=by omega
   simp only[hlt,decide_false,cond_false];rw[zamz (s:=⟨-1,c2,c3,c4⟩) c,if_neg c]
theorem gone1 (t:List UInt8) (h:t.length≤4000):qbe t=some (Sp.spots2 t,Sp.spots1 t):=by
 have g:zaaw t [] ⟨0,0,1,1⟩=Sp.spotsFrom t t.length [] ⟨0,0,1,1⟩:=rfl;obtain ⟨y1,y2,y3,y4⟩:=zaov t [] (-1) 0 0 1 1;rw[g] at y1 y2 y3 y4;have e2:(⟨-1,(zaaw t [] ⟨-1,0,1,1⟩).2.at_,(zaaw t [] ⟨-1,0,1,1⟩).2.line,(zaaw t [] ⟨-1,0,1,1⟩).2.col⟩:Spot)=Sp.spots2 t:=by
  rw[y2,y3,y4]; rfl
 have e1:(zaaw t [] ⟨-1,0,1,1⟩).1=Sp.spots1 t:=y1;rw[qbe,zaaa];unfold qbe_f;rw[qbe_l4,zaaa,goneL t _ _ _ _ t.length fuel 0 1 1 0 [] (by simp) (by unfold fuel; omega) (by unfold zahc; simp only; omega) (by simp) (by simp),Option.bind_some];split
 ·rename_i y heq;split at heq
  ·cases heq;simp only[e1,e2]
  ·cases heq
 ·rename_i y heq;split at heq
  ·cases heq
  ·cases heq;simp only[e1,e2]
theorem zas5 (t:List UInt8):qbd t=some (Sp.runes2 t,Sp.runes1 t):=by
 rw[qbd,zaaa];unfold qbd_f Sp.runes1 Sp.runes2;simp only[cond_eq_ite,decide_eq_true_eq];by_cases h:4000<t.length
 ·rw[if_pos (show (t.length:Int)>4000 by omega),if_pos h,if_pos h]
 ·rw[if_neg (show ¬ (t.length:Int)>4000 by omega),if_neg h,if_neg h,gone1 t (by omega),Option.bind_some];by_cases h2:(Sp.spots2 t).at_<t.length
  ·rw[if_pos h2,if_pos h2,if_pos h2]
  ·rw[if_neg h2,if_neg h2,if_neg h2]
end Lift.A1P
namespace Lift.A1P
open Go Go.RowKit Lift Go.IntWalk Lift.Fn
theorem zauw (l:List Int):(bytesOf l).length=l.length:=by simp[bytesOf]
def encB (r:Int):List UInt8:=bytesOf (Sp.enc r)
def encs (rs:List Int):List UInt8:=rs.flatMap encB
theorem zabi (r:Int) (rs:List Int):encs (r::rs)=encB r++encs rs:=rfl
theorem zaar (a b:List Int):encs (a++b)=encs a++encs b:=by simp[encs]
theorem zabu (n:Nat) (h:n<256):(UInt8.ofNat n).toNat=n:=by
 simp[UInt8.toNat_ofNat'];omega
theorem zae9 (r:Int):(encB r).length=(Sp.long r).toNat:=by
 unfold encB Sp.enc Sp.long;rw[zauw];repeat' split
 all_goals rfl
theorem by0 (a:UInt8) (l:List UInt8):Sp.by_ (a::l) 0=a.toNat:=rfl
theorem by1 (a b:UInt8) (l:List UInt8):Sp.by_ (a::b::l) 1=b.toNat:=rfl
theorem by2 (a b c:UInt8) (l:List UInt8):Sp.by_ (a::b::c::l) 2=c.toNat:=rfl
theorem by3 (a b c d:UInt8) (l:List UInt8):Sp.by_ (a::b::c::d::l) 3=d.toNat:=rfl
theorem zak0 {l:List UInt8} {r k:Nat} (h:Sp.dl l=(r,k)) (h2:r≠65533∨(3≤l.length∧Sp.by_ l 0=239∧Sp.by_ l 1=191∧Sp.by_ l 2=189)):Sp.badl l=false:=by
 unfold Sp.badl;rw[h,Sp.take3];rcases h2 with h2|h2
 ·simp[h2]
 ·simp[h2]
theorem zau3 (r:Int) (rest:List UInt8) (h:Sp.isRune r=true):Sp.dl (encB r++rest)=(r.toNat,(Sp.long r).toNat)∧Sp.badl (encB r++rest)=false:=by
 simp only[Sp.isRune,decide_eq_true_eq] at h;by_cases a1:r<128
 ·have e:encB r++rest=UInt8.ofNat r.toNat::rest:=by simp[encB,bytesOf,Sp.enc,a1]
  have hl:(Sp.long r).toNat=1:=by unfold Sp.long; rw[if_pos a1]; rfl
  rw[e,hl];have hd:Sp.dl (UInt8.ofNat r.toNat::rest)=(r.toNat,1):=by
   unfold Sp.dl;rw[by0,zabu _ (by omega),if_pos (by omega)]
  exact ⟨hd,zak0 hd (.inl (by omega))⟩
 by_cases a2:r<2048
 ·have e:encB r++rest=UInt8.ofNat (192+r.toNat / 64)::UInt8.ofNat (128+r.toNat % 64)::rest:=by
   unfold encB Sp.enc bytesOf;rw[if_neg a1,if_pos a2];simp only[List.map_cons,List.map_nil,List.cons_append,List.nil_append];rw[show (192+r / 64).toNat=192+r.toNat / 64 by omega,show (128+r % 64).toNat=128+r.toNat % 64 by omega]
  have hl:(Sp.long r).toNat=2:=by unfold Sp.long; rw[if_neg a1,if_pos a2]; rfl
  rw[e,hl];have hd:Sp.dl (UInt8.ofNat (192+r.toNat / 64)::UInt8.ofNat (128+r.toNat % 64)::rest)=(r.toNat,2):=by
   unfold Sp.dl Sp.ct;rw[by0,by1,zabu _ (by omega),zabu _ (by omega)];simp only[List.length_cons,Bool.and_eq_true,decide_eq_true_eq,beq_iff_eq];rw[if_neg (by omega),if_pos (by omega),if_pos (by omega)];rw[show (192+r.toNat / 64) % 32*64+(128+r.toNat % 64) % 64=r.toNat by omega]
  exact ⟨hd,zak0 hd (.inl (by omega))⟩
 by_cases a3:r<65536
 ·have e:encB r++rest=UInt8.ofNat (224+r.toNat / 4096)::UInt8.ofNat (128+r.toNat / 64 % 64)::UInt8.ofNat (128+r.toNat % 64)::rest:=by
   unfold encB Sp.enc bytesOf;rw[if_neg a1,if_neg a2,if_pos a3];simp only[List.map_cons,List.map_nil,List.cons_append,List.nil_append];rw[show (224+r / 4096).toNat=224+r.toNat / 4096 by omega,show (128+r / 64 % 64).toNat=128+r.toNat / 64 % 64 by omega,show (128+r % 64).toNat=128+r.toNat % 64 by omega]
  have hl:(Sp.long r).toNat=3:=by unfold Sp.long; rw[if_neg a1,if_neg a2,if_pos a3]; rfl
  rw[e,hl];have hd:Sp.dl (UInt8.ofNat (224+r.toNat / 4096)::UInt8.ofNat (128+r.toNat / 64 % 64)::UInt8.ofNat (128+r.toNat % 64)::rest)=(r.toNat,3):=by
   unfold Sp.dl Sp.ct;rw[by0,by1,by2,zabu _ (by omega),zabu _ (by omega),zabu _ (by omega)];simp only[List.length_cons,Bool.and_eq_true,decide_eq_true_eq,beq_iff_eq,zahj,ge_iff_le];have hv:(224+r.toNat / 4096) % 16*4096+(128+r.toNat / 64 % 64) % 64*64+(128+r.toNat % 64) % 64=r.toNat:=by omega
   rw[hv,if_neg (by omega),if_neg (by omega),if_pos (by omega),if_pos (by omega)]
  refine ⟨hd,zak0 hd ?_⟩;simp only[List.length_cons,by0,by1,by2];rw[zabu _ (by omega),zabu _ (by omega),zabu _ (by omega)];omega
 ·have e:encB r++rest=UInt8.ofNat (240+r.toNat / 262144)::UInt8.ofNat (128+r.toNat / 4096 % 64)::UInt8.ofNat (128+r.toNat / 64 % 64)::UInt8.ofNat (128+r.toNat % 64)::rest:=by
   unfold encB Sp.enc bytesOf;rw[if_neg a1,if_neg a2,if_neg a3];simp only[List.map_cons,List.map_nil,List.cons_append,List.nil_append];rw[show (240+r / 262144).toNat=240+r.toNat / 262144 by omega,show (128+r / 4096 % 64).toNat=128+r.toNat / 4096 % 64 by omega,show (128+r / 64 % 64).toNat=128+r.toNat / 64 % 64 by omega,show (128+r % 64).toNat=128+r.toNat % 64 by omega]
  have hl:(Sp.long r).toNat=4:=by unfold Sp.long; rw[if_neg a1,if_neg a2,if_neg a3]; rfl
  rw[e,hl];have hd:Sp.dl (UInt8.ofNat (240+r.toNat / 262144)::UInt8.ofNat (128+r.toNat / 4096 % 64)::UInt8.ofNat (128+r.toNat / 64 % 64)::UInt8.ofNat (128+r.toNat % 64)::rest)=(r.toNat,4):=by
   unfold Sp.dl Sp.ct;rw[by0,by1,by2,by3,zabu _ (by omega),zabu _ (by omega),zabu _ (by omega),zabu _ (by omega)];simp only[List.length_cons,Bool.and_eq_true,decide_eq_true_eq,beq_iff_eq,zahj,ge_iff_le];have hv:(240+r.toNat / 262144) % 8*262144+(128+r.toNat / 4096 % 64) % 64*4096+(128+r.toNat / 64 % 64) % 64*64+(128+r.toNat % 64) % 64=r.toNat:=by omega
   rw[hv,if_neg (by omega),if_neg (by omega),if_neg (by omega),if_pos (by omega),if_pos (by omega)]
  exact ⟨hd,zak0 hd (.inl (by omega))⟩
theorem zacv {n:Int} {a:UInt8} (h:n.toNat=a.toNat):UInt8.ofNat n.toNat=a:=by
 rw[h]; simp
theorem zazo {l:List UInt8} (h:1<l.length):∃ a b r,l=a::b::r:=by
 match l,h with
 |a::b::r,_=>exact ⟨a,b,r,rfl⟩
theorem zaxi {l:List UInt8} (h:2<l.length):∃ a b c r,l=a::b::c::r:=by
 match l,h with
 |a::b::c::r,_=>exact ⟨a,b,c,r,rfl⟩
theorem zax7 {l:List UInt8} (h:3<l.length):∃ a b c d r,l=a::b::c::d::r:=by
 match l,h with
 |a::b::c::d::r,_=>exact ⟨a,b,c,d,r,rfl⟩
theorem zaw7 (l:List UInt8) (hl:l≠[]) (hb:Sp.badl l=false):Sp.isRune ((Sp.dl l).1:Int)=true∧∃ rest,l=encB ((Sp.dl l).1:Int)++rest:=by
 have hlen:0<l.length:=by cases l with|nil=>exact absurd rfl hl|cons _ _=>simp
 have hr:Sp.isRune ((Sp.dl l).1:Int)=true:=by
  have h4:=zavj _ hlen;obtain ⟨h1,h2,h3⟩:=Sp.dl_pos _ hlen;rw[hb] at h4;simp only[Bool.false_eq_true,if_false] at h4;rcases Sp.ansA_ok l.length (Sp.by_ l 0) (Sp.by_ l 1) (Sp.by_ l 2) (Sp.by_ l 3) (l.getD 0 0).toNat_lt with h5|⟨h5,h6⟩
  ·rw[h4] at h5;simp only[Prod.mk.injEq] at h5;omega
  ·rw[h4] at h5;exact h5
 refine ⟨hr,?_⟩;have hg:¬ ((Sp.dl l).1=65533∧¬ (3≤l.length∧Sp.by_ l 0=239∧Sp.by_ l 1=191∧Sp.by_ l 2=189)):=by
  unfold Sp.badl at hb;rw[Sp.take3] at hb;intro hh;simp[hh.1] at hb;exact hh.2 hb
 obtain ⟨D,hD⟩:∃ D,D=Sp.dl l:=⟨_,rfl⟩;rw[← hD] at hg ⊢;unfold Sp.dl Sp.ct at hD;simp only[Bool.and_eq_true,decide_eq_true_eq,beq_iff_eq,zahj,ge_iff_le] at hD;have hb0:Sp.by_ l 0<256:=(l.getD 0 0).toNat_lt;have hb1:Sp.by_ l 1<256:=(l.getD 1 0).toNat_lt;have hb2:Sp.by_ l 2<256:=(l.getD 2 0).toNat_lt;have hb3:Sp.by_ l 3<256:=(l.getD 3 0).toNat_lt;by_cases k0:Sp.by_ l 0<128
 ·rw[if_pos k0] at hD;rw[hD];match l,hlen with
  |a::l,_=>
   rw[by0] at *;refine ⟨l,?_⟩;unfold encB Sp.enc bytesOf;rw[if_pos (by simp only; omega)];simp
 rw[if_neg k0] at hD;by_cases k1:Sp.by_ l 0 / 32=6∧1<l.length∧Sp.by_ l 1 / 64=2
 ·rw[if_pos k1] at hD;by_cases k2:128≤Sp.by_ l 0 % 32*64+Sp.by_ l 1 % 64
  ·rw[if_pos k2] at hD;rw[hD];obtain ⟨a,b,l,rfl⟩:=zazo k1.2.1
   next=>
    rw[by0,by1] at *;refine ⟨l,?_⟩;unfold encB Sp.enc bytesOf;rw[if_neg (by simp only; omega),if_pos (by simp only; omega)];simp only[List.map_cons,List.map_nil,List.cons_append,List.nil_append];rw[zacv (a:=a) (by omega),zacv (a:=b) (by omega)]
  ·rw[if_neg k2] at hD;rw[hD] at hg;have hg':=Classical.byContradiction fun hh=>hg ⟨rfl,hh⟩
   omega
 rw[if_neg k1] at hD;by_cases k2:(Sp.by_ l 0 / 16=14∧1<l.length∧Sp.by_ l 1 / 64=2)∧2<l.length∧Sp.by_ l 2 / 64=2
 ·rw[if_pos k2] at hD;by_cases k3:2048≤Sp.by_ l 0 % 16*4096+Sp.by_ l 1 % 64*64+Sp.by_ l 2 % 64∧(0≤((Sp.by_ l 0 % 16*4096+Sp.by_ l 1 % 64*64+Sp.by_ l 2 % 64:Nat):Int)∧((Sp.by_ l 0 % 16*4096+Sp.by_ l 1 % 64*64+Sp.by_ l 2 % 64:Nat):Int)<55296∨57344≤((Sp.by_ l 0 % 16*4096+Sp.by_ l 1 % 64*64+Sp.by_ l 2 % 64:Nat):Int)∧((Sp.by_ l 0 % 16*4096+Sp.by_ l 1 % 64*64+Sp.by_ l 2 % 64:Nat):Int)≤1114111)
  ·rw[if_pos k3] at hD;rw[hD];obtain ⟨a,b,c,l,rfl⟩:=zaxi k2.2.1
   next=>
    rw[by0,by1,by2] at *;refine ⟨l,?_⟩;unfold encB Sp.enc bytesOf;rw[if_neg (by simp only; omega),if_neg (by simp only; omega),if_pos (by simp only; omega)];simp only[List.map_cons,List.map_nil,List.cons_append,List.nil_append];rw[zacv (a:=a) (by omega),zacv (a:=b) (by omega),zacv (a:=c) (by omega)]
  ·rw[if_neg k3] at hD;rw[hD] at hg;have hg':=Classical.byContradiction fun hh=>hg ⟨rfl,hh⟩
   omega
 rw[if_neg k2] at hD;by_cases k3:((Sp.by_ l 0 / 8=30∧1<l.length∧Sp.by_ l 1 / 64=2)∧2<l.length∧Sp.by_ l 2 / 64=2)∧3<l.length∧Sp.by_ l 3 / 64=2
 ·rw[if_pos k3] at hD;by_cases k4:65536≤Sp.by_ l 0 % 8*262144+Sp.by_ l 1 % 64*4096+Sp.by_ l 2 % 64*64+Sp.by_ l 3 % 64∧(0≤((Sp.by_ l 0 % 8*262144+Sp.by_ l 1 % 64*4096+Sp.by_ l 2 % 64*64+Sp.by_ l 3 % 64:Nat):Int)∧((Sp.by_ l 0 % 8*262144+Sp.by_ l 1 % 64*4096+Sp.by_ l 2 % 64*64+Sp.by_ l 3 % 64:Nat):Int)<55296∨57344≤((Sp.by_ l 0 % 8*262144+Sp.by_ l 1 % 64*4096+Sp.by_ l 2 % 64*64+Sp.by_ l 3 % 64:Nat):Int)∧((Sp.by_ l 0 % 8*262144+Sp.by_ l 1 % 64*4096+Sp.by_ l 2 % 64*64+Sp.by_ l 3 % 64:Nat):Int)≤1114111)
  ·rw[if_pos k4] at hD;rw[hD];obtain ⟨a,b,c,d,l,rfl⟩:=zax7 k3.2.1
   next=>
    rw[by0,by1,by2,by3] at *;refine ⟨l,?_⟩;unfold encB Sp.enc bytesOf;rw[if_neg (by simp only; omega),if_neg (by simp only; omega),if_neg (by simp only; omega)];simp only[List.map_cons,List.map_nil,List.cons_append,List.nil_append];rw[zacv (a:=a) (by omega),zacv (a:=b) (by omega),zacv (a:=c) (by omega),zacv (a:=d) (by omega)]
  ·rw[if_neg k4] at hD;rw[hD] at hg;have hg':=Classical.byContradiction fun hh=>hg ⟨rfl,hh⟩
   omega
 ·rw[if_neg k3] at hD;rw[hD] at hg;have hg':=Classical.byContradiction fun hh=>hg ⟨rfl,hh⟩
  omega
def put:List Int→Spot→List Spot×Spot
 |[],s=>([],s)
 |r::rs,s=>(⟨r,s.at_,s.line,s.col⟩::(put rs (Sp.on ⟨r,s.at_,s.line,s.col⟩ r (Sp.long r))).1,(put rs (Sp.on ⟨r,s.at_,s.line,s.col⟩ r (Sp.long r))).2)
theorem on_at (s:Spot) (r n:Int):(Sp.on s r n).at_=s.at_+n:=by unfold Sp.on; split<;>rfl
theorem zafi (r:Int):1≤Sp.long r:=by unfold Sp.long; (repeat' split)<;>omega
theorem zap2:∀ (rs:List Int) (s:Spot),(put rs s).2.at_=s.at_+(encs rs).length
 |[],s=>by simp[put,encs]
 |r::rs,s=>by
  simp only[put];rw[zap2 rs,on_at,zabi,List.length_append,zae9];have:=zafi r;simp only;omega
theorem zaqg (t:List UInt8):∀ (rs:List Int) (n:Nat) (acc:List Spot) (s:Spot) (rest:List UInt8),rs.all Sp.isRune=true→0≤s.at_→t.drop s.at_.toNat=encs rs++rest→(rest=[]∨Sp.badl rest=true) →
  t.length-s.at_.toNat≤n→Sp.spotsFrom t n acc s=(acc++(put rs s).1,(put rs s).2)
 |[],n,acc,s,rest=>by
  intro _ h0 hd hr hn;simp only[encs,List.flatMap_nil,List.nil_append] at hd;simp only[put,List.append_nil];cases n with
  |zero=>rfl
  |succ n=>
   simp only[Sp.spotsFrom];by_cases hc:s.at_<t.length
   ·rw[if_pos hc];have hne:t.drop s.at_.toNat≠[]:=by
     intro hh;have:=congrArg List.length hh;simp at this;omega
    rcases hr with rfl|hr
    ·exact absurd hd hne
    ·rw[if_pos];rw[Sp.bad_eq,hd];exact hr
   ·rw[if_neg hc]
 |r::rs,n,acc,s,rest=>by
  intro ha h0 hd hr hn;simp only[List.all_cons,Bool.and_eq_true] at ha;rw[zabi,List.append_assoc] at hd;obtain ⟨h1,h2⟩:=zau3 r (encs rs++rest) ha.1;have hlen:=congrArg List.length hd;have hl:=zafi r;have hel:=zae9 r;simp only[List.length_drop,List.length_append] at hlen;have hc:s.at_<t.length:=by omega
  have hb:Sp.bad t s.at_.toNat=false:=by rw[Sp.bad_eq,hd]; exact h2
  have hr':0≤r:=by
   have:=ha.1;simp only[Sp.isRune,decide_eq_true_eq] at this;exact this.1
  have e1:Sp.at1 t s.at_=r:=by
   unfold Sp.at1;rw[hb,Sp.dc_eq,hd,h1];simp;omega
  have e2:Sp.at2 t s.at_=Sp.long r:=by
   unfold Sp.at2;rw[hb,Sp.dc_eq,hd,h1];simp;omega
  obtain ⟨n,rfl⟩:∃ m,n=m+1:=⟨n-1,by omega⟩;simp only[Sp.spotsFrom,if_pos hc,hb,Bool.false_eq_true,if_false];rw[e1,e2];have hat:=on_at ⟨r,s.at_,s.line,s.col⟩ r (Sp.long r);simp only at hat;rw[zaqg t rs n _ _ rest ha.2 (by rw[hat]; omega) ?_ hr (by rw[hat]; omega)]
  ·simp only[put,List.append_assoc,List.cons_append,List.nil_append]
  ·rw[hat,show (s.at_+Sp.long r).toNat=s.at_.toNat+(encB r).length by omega,← List.drop_drop,hd,List.drop_left]
def s0:Spot:=⟨0,0,1,1⟩
theorem zao2 (rs:List Int) (rest:List UInt8) (ha:rs.all Sp.isRune=true) (hr:rest=[]∨Sp.badl rest=true):Sp.spots1 (encs rs++rest)=(put rs s0).1∧Sp.spots2 (encs rs++rest)=Sp.ended (put rs s0).2:=by
 have:=zaqg (encs rs++rest) rs (encs rs++rest).length [] s0 rest ha (by simp[s0]) (by simp[s0]) hr (by omega);unfold Sp.spots1 Sp.spots2;unfold s0 at this ⊢;rw[this];simp
theorem zamv:∀ (n:Nat) (t:List UInt8),t.length≤n→∃ rs rest,t=encs rs++rest∧rs.all Sp.isRune=true∧(rest=[]∨Sp.badl rest=true)
 |0,t,h=>⟨[],[],by cases t<;>simp_all[encs],rfl,.inl rfl⟩
 |n+1,t,h=>by
  by_cases h0:t=[]
  ·exact ⟨[],[],by simp[h0,encs],rfl,.inl rfl⟩
  cases hb:Sp.badl t with
  |true=>exact ⟨[],t,by simp[encs],rfl,.inr hb⟩
  |false=>
   obtain ⟨h1,rest,h2⟩:=zaw7 t h0 hb;have hl:=zae9 ((Sp.dl t).1:Int);have hp:=zafi ((Sp.dl t).1:Int);have hlen:rest.length≤n:=by
    have:=congrArg List.length h2;rw[List.length_append] at this;omega
   obtain ⟨rs,r2,h3,h4,h5⟩:=zamv n rest hlen;refine ⟨((Sp.dl t).1:Int)::rs,r2,?_,?_,h5⟩
   ·rw[zabi,List.append_assoc,← h3]; exact h2
   ·simp[h1,h4]
theorem zapy (s:Spot):(Sp.ended s).at_=s.at_:=rfl
theorem zaqo (rs:List Int) (ha:rs.all Sp.isRune=true) (hl:(encs rs).length≤4000):Sp.runes1 (encs rs)=(put rs s0).1∧Sp.runes2 (encs rs)=⟨0,0,[]⟩:=by
 obtain ⟨h1,h2⟩:=zao2 rs [] ha (.inl rfl);rw[List.append_nil] at h1 h2;have h3:=zap2 rs s0;unfold Sp.runes1 Sp.runes2;rw[h1,h2,zapy,h3];have h5:¬ (s0.at_+((encs rs).length:Int)<(encs rs).length):=by simp[s0]
 have h4:¬ 4000<(encs rs).length:=by omega
 simp only[if_neg h4,if_neg h5,and_self]
theorem zauv (rs:List Int) (rest:List UInt8) (ha:rs.all Sp.isRune=true) (hne:rest≠[]) (hb:Sp.badl rest=true) (hl:(encs rs++rest).length≤4000):Sp.runes1 (encs rs++rest)=[]∧Sp.runes2 (encs rs++rest)=⟨11,(encs rs).length,[]⟩:=by
 obtain ⟨h1,h2⟩:=zao2 rs rest ha (.inr hb);have h3:=zap2 rs s0;have hpos:0<rest.length:=by cases rest with|nil=>exact absurd rfl hne|cons _ _=>simp
 unfold Sp.runes1 Sp.runes2;rw[h2,zapy,h3];have h5:(s0.at_+((encs rs).length:Int)<(encs rs++rest).length):=by simp[s0]; omega
 have h4:¬ 4000<(encs rs++rest).length:=by omega
 simp only[if_neg h4,if_pos h5];simp[s0]
theorem zar5 (t:List UInt8):(Sp.runes1 t=[]∧Sp.runes2 t=⟨10,4000,[]⟩) ∨
  (t.length≤4000∧∃ rs rest,t=encs rs++rest∧rs.all Sp.isRune=true∧rest≠[]∧Sp.badl rest=true∧Sp.runes1 t=[]∧Sp.runes2 t=⟨11,(encs rs).length,[]⟩) ∨
  (t.length≤4000∧∃ rs,t=encs rs∧rs.all Sp.isRune=true∧Sp.runes1 t=(put rs s0).1∧Sp.runes2 t=⟨0,0,[]⟩):=by
 by_cases h:4000<t.length
 ·left;unfold Sp.runes1 Sp.runes2;rw[if_pos h,if_pos h];exact ⟨rfl,rfl⟩
 right;obtain ⟨rs,rest,h1,h2,h3⟩:=zamv t.length t (Nat.le_refl _);by_cases h0:rest=[]
 ·right;subst h0;rw[List.append_nil] at h1;subst h1;obtain ⟨q1,q2⟩:=zaqo rs h2 (by omega);exact ⟨by omega,rs,rfl,h2,q1,q2⟩
 ·left;have hb:Sp.badl rest=true:=by rcases h3 with h3|h3; exact absurd h3 h0; exact h3
  subst h1;obtain ⟨q1,q2⟩:=zauv rs rest h2 h0 hb (by omega);exact ⟨by omega,rs,rest,rfl,h2,h0,hb,q1,q2⟩
end Lift.A1P
namespace Lift.A1P
open Go Go.RowKit Lift Go.IntWalk Lift.Fn
def goesR (r:Int):Bool:=Sp.letter r||Sp.digit r
theorem goes1 (r:Int) (h:0≤r∧r≤1114111):qaG r=some (goesR r):=by
 rw[qaG,zaaa];unfold qaG_f goesR;rw[i64_in r (by omega),zayo,zawc,Option.bind_some,Option.bind_some];cases Sp.letter r<;>rfl
theorem zagg {r:Int} (h:Sp.isRune r=true):0≤r∧r≤1114111:=by
 simp only[Sp.isRune,decide_eq_true_eq] at h;omega
theorem zamt (t:List UInt8) (p:Nat) (r:Int) (l:List UInt8) (hd:t.drop p=encB r++l) (hr:Sp.isRune r=true):Utf8.decode ⟨t.toArray⟩ p=(r.toNat,(Sp.long r).toNat):=by
 have h1:=Sp.dc_eq t p;unfold Sp.dc at h1;rw[h1,hd];exact (zau3 r l hr).1
theorem zafv (ds rs:List Int):(encs (ds++rs)).drop (encs ds).length=encs rs:=by
 rw[zaar,List.drop_left]
theorem zagz (ds rs:List Int) (r:Int):(encs ds).length<(encs (ds++r::rs)).length:=by
 rw[zaar,zabi,List.length_append,List.length_append,zae9];have:=zafi r;omega
theorem zamb (ds:List Int) (r:Int):(encs (ds++[r])).length=(encs ds).length+(Sp.long r).toNat:=by
 rw[zaar,zabi,List.length_append,List.length_append,zae9];simp[encs]
theorem wordL:∀ (rs ds:List Int) (n:Nat),rs.all Sp.isRune=true→rs.length<n→(encs (ds++rs)).length≤9000000 →
  qaL_i2 n (encs (ds++rs)) (encs (ds++rs)) (encs ds).length=some (if rs.all goesR then .inr (encs (ds++rs)) else .inl (encs (ds++rs.takeWhile goesR)))
 |[],ds,n,_,hn,hl=>by
  obtain ⟨n,rfl⟩:∃ q,n=q+1:=⟨n-1,by simp at hn; omega⟩;simp only[List.append_nil,qaL_i2,qaL_t2];simp
 |r::rs,ds,n,ha,hn,hl=>by
  obtain ⟨n,rfl⟩:∃ q,n=q+1:=⟨n-1,by simp at hn; omega⟩;simp only[List.all_cons,Bool.and_eq_true] at ha;have hlt:=zagz ds rs r;have hd:Utf8.decode ⟨(encs (ds++r::rs)).toArray⟩ (encs ds).length=(r.toNat,(Sp.long r).toNat):=zamt _ _ r (encs rs) (by rw[zafv,zabi]) ha.1;have hr:=zagg ha.1;simp only[qaL_i2,qaL_t2,hd,hlt,decide_true,cond_true];rw[show ((r.toNat:Nat):Int)=r by omega,goes1 r hr,Option.bind_some];cases hg:goesR r with
  |false=>
   have hb:(decide ((0:Int)≤0)&&(decide ((0:Int)≤((encs ds).length:Int))&&decide (((encs ds).length:Int)≤((encs (ds++r::rs)).length:Int))))=true:=by
    simp only[Bool.and_eq_true,decide_eq_true_eq]; omega
   simp only[Bool.not_false,cond_true,hb,List.all_cons,hg,Bool.false_and,Bool.false_eq_true,if_false,List.takeWhile_cons,List.append_nil,List.drop_zero,Int.toNat_natCast];rw[zaar,List.take_left]
  |true=>
   have ih:=wordL rs (ds++[r]) n ha.2 (by simp at hn; omega) (by simpa using hl);rw[List.append_assoc,List.singleton_append,zamb] at ih;simp only[Bool.not_true,cond_false,ih,List.all_cons,hg,Bool.true_and,List.takeWhile_cons,if_true,List.append_assoc,List.singleton_append]
theorem zarq {p:Int→Bool} {l:List Int} (h:l.all p=true):l.takeWhile p=l:=by
 induction l with
 |nil=>rfl
 |cons a l ih=>
  simp only[List.all_cons,Bool.and_eq_true] at h;rw[List.takeWhile_cons,if_pos h.1,ih h.2]
theorem zadr (rs:List Int):rs.length≤(encs rs).length:=by
 induction rs with
 |nil=>simp
 |cons r l ih=>
  rw[zabi,List.length_append,zae9,List.length_cons];have:=zafi r;omega
theorem word1 (rs:List Int) (ha:rs.all Sp.isRune=true) (hl:(encs rs).length≤9000000):qaL (encs rs)=some (encs (rs.takeWhile goesR)):=by
 rw[qaL,zaaa];unfold qaL_f;have:=wordL rs [] fuel ha (by have:=zadr rs; unfold fuel; omega) (by simpa using hl);simp only[List.nil_append] at this;rw[qaL_l2,zaaa,show (0:Nat)=(encs []).length from rfl,this];cases hg:rs.all goesR with
 |true=>simp only[if_true,Option.bind_some,zarq hg]
 |false=>simp
def skip:Bool→List Int→List Int
 |_,[]=>[]
 |true,r::rs=>skip (r != 10) rs
 |false,r::rs=>if r=35 then skip true rs else if Sp.blank r then skip false rs else r::rs
theorem zate:∀ (rs ds:List Int) (c:Bool) (n:Nat),rs.all Sp.isRune=true→rs.length<n →
  qaI_i3 n (encs (ds++rs)) c (encs (ds++rs)) (encs ds).length=some (if skip c rs=[] then .inr (encs (ds++rs)) else .inl (((encs (ds++rs)).length:Int)-(encs (skip c rs)).length))
 |[],ds,c,n,_,hn=>by
  obtain ⟨n,rfl⟩:∃ q,n=q+1:=⟨n-1,by simp at hn; omega⟩;simp only[List.append_nil,qaI_i3,qaI_t3];cases c<;>simp[skip]
 |r::rs,ds,c,n,ha,hn=>by
  obtain ⟨n,rfl⟩:∃ q,n=q+1:=⟨n-1,by simp at hn; omega⟩;simp only[List.all_cons,Bool.and_eq_true] at ha;have hlt:=zagz ds rs r;have hd:Utf8.decode ⟨(encs (ds++r::rs)).toArray⟩ (encs ds).length=(r.toNat,(Sp.long r).toNat):=zamt _ _ r (encs rs) (by rw[zafv,zabi]) ha.1;have hr:=zagg ha.1;have ih:=fun c=>zate rs (ds++[r]) c n ha.2 (by simp at hn; omega)
  simp only[List.append_assoc,List.singleton_append,zamb] at ih;simp only[qaI_i3,qaI_t3,hd,hlt,decide_true,cond_true];rw[show ((r.toNat:Nat):Int)=r by omega];cases c with
  |true=>
   rw[cond_true,ih];rfl
  |false=>
   rw[cond_false];by_cases h35:r=35
   ·have:(r==35)=true:=by simp[h35]
    rw[this,cond_true,ih];simp only[skip,h35,if_true]
   ·have:(r==35)=false:=by simp[h35]
    rw[this,cond_false,i64_in r (by omega),zazd,Option.bind_some];cases hb:Sp.blank r with
    |true=>
     simp only[Bool.not_true,cond_false,ih,skip,h35,if_false,hb,if_true]
    |false=>
     have hne:skip false (r::rs)=r::rs:=by simp[skip,h35,hb]
     rw[hne];simp only[Bool.not_false,cond_true,if_neg (List.cons_ne_nil r rs)];congr 2;rw[zaar,List.length_append];omega
theorem zas2 (rs:List Int) (ha:rs.all Sp.isRune=true) (hl:(encs rs).length≤9000000):qaI (encs rs)=some (((encs rs).length:Int)-(encs (skip false rs)).length):=by
 rw[qaI,zaaa];unfold qaI_f;have:=zate rs [] false fuel ha (by have:=zadr rs; unfold fuel; omega);simp only[List.nil_append] at this;rw[qaI_l3,zaaa,show (0:Nat)=(encs []).length from rfl,this];by_cases hs:skip false rs=[]
 ·rw[if_pos hs,hs]; simp[encs]
 ·rw[if_neg hs]; simp
theorem zazm (l:List (List UInt8)) (x:List UInt8) (hl:l.length≤4000):∀ (k n:Nat) (i:Int),0≤i→l.length-i.toNat≤k→k<n →
  ∃ r,qbn_i2 n l x l.length i=some r∧((l.drop i.toNat).contains x=match r with|.inl j=>decide (0≤j)|.inr _=>false):=by
 intro k;have fin:∀ (n:Nat) (i:Int),0≤i→¬ i<l.length→∃ r,qbn_i2 (n+1) l x l.length i=some r∧((l.drop i.toNat).contains x=match r with|.inl j=>decide (0≤j)|.inr _=>false):=by
  intro n i h0 c;refine ⟨.inr (),?_,?_⟩
  ·simp only[qbn_i2,qbn_t2,c,decide_false,cond_false]
  ·rw[List.drop_eq_nil_of_le (by omega)]; rfl
 induction k with
 |zero=>
  intro n i h0 hk hn;obtain ⟨n,rfl⟩:∃ q,n=q+1:=⟨n-1,by omega⟩;exact fin n i h0 (by omega)
 |succ k ih=>
  intro n i h0 hk hn;obtain ⟨n,rfl⟩:∃ q,n=q+1:=⟨n-1,by omega⟩;by_cases c:i<l.length
  ·have ha:i.toNat<l.length:=by omega
   rw[List.drop_eq_getElem_cons ha];simp only[qbn_i2,qbn_t2,c,h0,decide_true,cond_true,List.getElem?_eq_getElem ha,Option.bind_some,List.contains_cons];cases hx:(x==l[i.toNat]) with
   |true=>exact ⟨.inl i,rfl,by simp[h0]⟩
   |false=>
    rw[i64_in (i+1) (by omega)];obtain ⟨r,h1,h2⟩:=ih n (i+1) (by omega) (by omega) (by omega);refine ⟨r,h1,?_⟩;rw[show (i+1).toNat=i.toNat+1 by omega] at h2;rw[Bool.false_or,h2]
  ·exact fin n i h0 c
theorem zan5 (l:List (List UInt8)) (x:List UInt8) (hl:l.length≤4000):qbl l x=some (l.contains x):=by
 obtain ⟨r,h1,h2⟩:=zazm l x hl l.length fuel 0 (by omega) (by omega) (by unfold fuel; omega);simp only[Int.toNat_zero,List.drop_zero] at h2;rw[qbl,zaaa];unfold qbl_f;rw[qbn,zaaa];unfold qbn_f;rw[qbn_l2,zaaa,h1,h2];cases r with
 |inl j=>simp
 |inr u=>simp
def ones:List UInt8:=[61,60,62,33,43,45,42,47,37,59,123,125,40,41]
def twos:List (List UInt8):=[[58,61],[60,45],[61,61],[33,61],[60,61],[62,61],[38,38],[124,124]]
def sgn (t:List UInt8):List UInt8:=if 1<t.length∧twos.contains (t.take 2)=true then t.take 2 else if ones.contains (t.headD 0)=true then t.take 1 else []
theorem zaxo:∀ i:Fin 256,Lib.contains ones [UInt8.ofNat i.val]=ones.contains (UInt8.ofNat i.val):=by decide +kernel
theorem zawu (b:UInt8):Lib.contains ones [b]=ones.contains b:=by
 have:=zaxo ⟨b.toNat,b.toNat_lt⟩;simpa using this
theorem sign1 (b:UInt8) (t:List UInt8) (hl:(b::t).length≤9000000):qaJ (b::t)=some (sgn (b::t)):=by
 rw[qaJ,zaaa];unfold qaJ_f;have ht:List.take 1 (b::t)=[b]:=rfl;have hc:strings_Contains ones [b]=some (ones.contains b):=by
  rw[strings_Contains,zaaa];unfold zads;rw[decide_eq_true (by decide),cond_true,zawu]
 have hc':strings_Contains [61,60,62,33,43,45,42,47,37,59,123,125,40,41] [b]=some (ones.contains b):=hc;have b1:(decide ((0:Int)≤0)&&(decide ((0:Int)≤1)&&decide ((1:Int)≤((b::t).length:Int))))=true:=by
  simp only[Bool.and_eq_true,decide_eq_true_eq,List.length_cons]; omega
 simp only[List.drop_zero,ht,b1,cond_true,hc',Option.bind_some];unfold sgn;by_cases h1:1<(b::t).length
 ·have h1':decide (((b::t).length:Int)>1)=true:=decide_eq_true (by omega);have b2:(decide ((0:Int)≤0)&&(decide ((0:Int)≤2)&&decide ((2:Int)≤((b::t).length:Int))))=true:=by
   simp only[Bool.and_eq_true,decide_eq_true_eq]; omega
  have hc2:=zan5 twos ((b::t).take 2) (by decide);have hc2':qbl [[58,61],[60,45],[61,61],[33,61],[60,61],[62,61],[38,38],[124,124]] ((b::t).take 2)=some (twos.contains ((b::t).take 2)):=hc2;rw[h1',cond_true,b2,cond_true,hc2',Option.bind_some];cases h2:twos.contains ((b::t).take 2) with
  |true=>rw[if_pos ⟨h1,rfl⟩]; rfl
  |false=>
   rw[if_neg (fun hh=>by cases hh.2)];cases h3:ones.contains b with
   |true=>simp only[List.headD_cons,h3,if_true]; rfl
   |false=>simp only[List.headD_cons,h3,Bool.false_eq_true,if_false]; rfl
 ·have h1':decide (((b::t).length:Int)>1)=false:=decide_eq_false (by omega);rw[h1',cond_false,if_neg (fun hh=>h1 hh.1)];cases h3:ones.contains b with
  |true=>simp only[List.headD_cons,h3,if_true]; rfl
  |false=>simp only[List.headD_cons,h3,Bool.false_eq_true,if_false]; rfl
end Lift.A1P
namespace Lift.A1P
open Go Go.RowKit Lift Go.IntWalk Lift.Fn
def tens:List UInt8:=[48,49,50,51,52,53,54,55,56,57]
def numS (t:List UInt8):Int×Bool:=
 if 1<t.length∧(t.headD 0).toNat=48 then (0,false) else if Lib.trimS t tens≠[] then (0,false) else if (zaa8 t).2=true then ((zaa8 t).1,false) else ((zaa8 t).1,decide ((zaa8 t).1≤2147483647))
theorem zax1 (t:List UInt8) (hl:t.length≤9000000):qaH t=some (numS t):=by
 rw[qaH,zaaa];unfold qaH_f numS;have hT:zac8 t [48,49,50,51,52,53,54,55,56,57]=some (Lib.trimS t tens):=by
  rw[zac8,zaaa];unfold zae7;rw[decide_eq_true (show _∧_ by constructor; omega; decide)];rfl
 have hA:zabx t=some (zaa8 t):=by
  rw[zabx,zaaa];unfold zad9;rw[decide_eq_true (by omega)];rfl
 have rest:(bif !Lib.trimS t tens==[] then some ((0:Int),false) else bif !(zaa8 t).2 then some ((zaa8 t).1,decide ((zaa8 t).1≤2147483647)) else some ((zaa8 t).1,false)) =
   some (if Lib.trimS t tens≠[] then (0,false) else if (zaa8 t).2=true then ((zaa8 t).1,false) else ((zaa8 t).1,decide ((zaa8 t).1≤2147483647))):=by
  by_cases h:Lib.trimS t tens=[]
  ·rw[if_neg (fun hh=>hh h),h];cases (zaa8 t).2<;>rfl
  ·rw[if_pos h];have:(Lib.trimS t tens==[])=false:=by simpa using h
   rw[this]; rfl
 rw[hT,hA];by_cases h1:1<t.length
 ·rw[decide_eq_true (show (t.length:Int)>1 by omega),cond_true];match t,h1 with
  |b::t,h1=>
   simp only[List.getElem?_cons_zero,Option.bind_some];by_cases h2:b.toNat=48
   ·have:(((b.toNat:Nat):Int)==48)=true:=by rw[beq_iff_eq]; omega
    rw[this,cond_true,if_pos (show 1<(b::t).length∧((b::t).headD 0).toNat=48 from ⟨h1,h2⟩)]
   ·have:(((b.toNat:Nat):Int)==48)=false:=by rw[beq_eq_false_iff_ne]; omega
    rw[this,cond_false,if_neg (show ¬ (1<(b::t).length∧((b::t).headD 0).toNat=48) from fun hh=>h2 hh.2)];exact rest
 ·rw[decide_eq_false (show ¬ (t.length:Int)>1 by omega),cond_false,if_neg (show ¬ (1<t.length∧(t.headD 0).toNat=48) from fun hh=>h1 hh.1)];simp only[Option.bind_some];exact rest
theorem zaz1:qaF=qaF_f:=by rw[qaF,zaaa]
noncomputable def words:List (List UInt8):=qaF_f.getD []
theorem zawt:qaF=some words:=by rw[zaz1]; rfl
theorem zawk:∀ (rs ds:List Int) (n:Nat),rs.all Sp.isRune=true→rs.length≤n→Lib.runeCountFrom ⟨(encs (ds++rs)).toArray⟩ n (encs ds).length=rs.length
 |[],ds,n,_,_=>by
  cases n with
  |zero=>rfl
  |succ n=>simp[Lib.runeCountFrom,ByteArray.size]
 |r::rs,ds,n,ha,hn=>by
  obtain ⟨n,rfl⟩:∃ q,n=q+1:=⟨n-1,by simp at hn; omega⟩;simp only[List.all_cons,Bool.and_eq_true] at ha;have hlt:=zagz ds rs r;have hd:Utf8.decode ⟨(encs (ds++r::rs)).toArray⟩ (encs ds).length=(r.toNat,(Sp.long r).toNat):=zamt _ _ r (encs rs) (by rw[zafv,zabi]) ha.1;have ih:=zawk rs (ds++[r]) n ha.2 (by simp at hn; omega);simp only[List.append_assoc,List.singleton_append,zamb] at ih;simp only[Lib.runeCountFrom,hd];rw[if_pos (by simpa [ByteArray.size] using hlt),ih,List.length_cons];omega
theorem zazi (rs:List Int) (ha:rs.all Sp.isRune=true) (hl:(encs rs).length≤9000000):zaa0 (encs rs)=some (rs.length:Int):=by
 rw[zaa0,zaaa];unfold zabr Lib.runeCount;rw[decide_eq_true (by omega),cond_true];have:=zawk rs [] (encs rs).length ha (zadr rs);simp only[List.nil_append] at this;have hs:(⟨(encs rs).toArray⟩:ByteArray).size=(encs rs).length:=by simp[ByteArray.size]
 rw[hs,show (0:Nat)=(encs []).length from rfl,this]
theorem zayw (r:Int) (rs:List Int) (hr:Sp.isRune r=true):zaaz (encs (r::rs))=some (r,Sp.long r):=by
 rw[zaaz,zaaa];unfold zabo Lib.decodeGo;have hp:=zafi r;have hs:¬ (⟨(encs (r::rs)).toArray⟩:ByteArray).size=0:=by
  have:=zagz [] rs r;simp only[List.nil_append] at this;simp[ByteArray.size];intro hh;rw[hh] at this;simp at this
 have hd:Utf8.decode ⟨(encs (r::rs)).toArray⟩ 0=(r.toNat,(Sp.long r).toNat):=zamt _ 0 r (encs rs) (by rw[List.drop_zero,zabi]) hr;have h0:=zagg hr;rw[if_neg hs,hd];simp only;rw[show ((r.toNat:Nat):Int)=r by omega,show (((Sp.long r).toNat:Nat):Int)=Sp.long r by omega]
noncomputable def tokR (rs:List Int):Token×Int:=
  bif goesR (rs.headD 0) then
    (bif Sp.digit (rs.headD 0) then (bif (numS (encs (rs.takeWhile goesR))).2 then (⟨2,encs (rs.takeWhile goesR),(numS (encs (rs.takeWhile goesR))).1,0⟩,0) else (⟨1,encs (rs.takeWhile goesR),0,0⟩,22))
     else bif words.contains (encs (rs.takeWhile goesR)) then (⟨4,encs (rs.takeWhile goesR),0,0⟩,0)
     else bif decide (16<(rs.takeWhile goesR).length) then (⟨1,encs (rs.takeWhile goesR),0,0⟩,21) else (⟨1,encs (rs.takeWhile goesR),0,0⟩,0))
  else bif sgn (encs rs)==[] then (⟨0,[],0,0⟩,20) else (⟨3,sgn (encs rs),0,0⟩,0)
theorem zajy {p:Int→Bool} {rs:List Int} (ha:rs.all Sp.isRune=true):(rs.takeWhile p).all Sp.isRune=true:=by
 rw[List.all_eq_true] at ha ⊢;intro r hr;exact ha r ((List.takeWhile_sublist _).subset hr)
theorem zaxy (p:Int→Bool) (rs:List Int):(encs (rs.takeWhile p)).length≤(encs rs).length:=by
 have:encs rs=encs (rs.takeWhile p)++encs (rs.dropWhile p):=by rw[← zaar,List.takeWhile_append_dropWhile]
 rw[this,List.length_append];omega
theorem zazt (rs:List Int) (hne:rs≠[]) (ha:rs.all Sp.isRune=true) (hl:(encs rs).length≤9000000):qaK (encs rs)=some (tokR rs):=by
 match rs,hne with
 |r::rs,_=>
  have ha':=ha;simp only[List.all_cons,Bool.and_eq_true] at ha';have hr:=zagg ha'.1;have hw:=word1 (r::rs) ha hl;have hwl:=zaxy goesR (r::rs);rw[qaK,zaaa];unfold qaK_f tokR;rw[zayw r rs ha'.1,Option.bind_some];simp only;rw[goes1 r hr,Option.bind_some];simp only[List.headD_cons];cases hg:goesR r with
  |false=>
   obtain ⟨b,t,hbt⟩:∃ b t,encs (r::rs)=b::t:=by
    cases he:encs (r::rs) with
    |nil=>
     have:=zagz [] rs r;simp only[List.nil_append,he] at this;simp[encs] at this
    |cons b t=>exact ⟨b,t,rfl⟩
   have hs:=sign1 b t (by rw[← hbt]; exact hl);rw[← hbt] at hs;simp only[Bool.not_false,cond_true,cond_false,hs,Option.bind_some];cases (sgn (encs (r::rs))==[])<;>rfl
  |true=>
   simp only[Bool.not_true,cond_false,cond_true,hw,Option.bind_some];rw[i64_in r (by omega),zawc,Option.bind_some];cases hd:Sp.digit r with
   |true=>
    rw[cond_true,cond_true,zax1 _ (by omega),Option.bind_some];cases (numS (encs ((r::rs).takeWhile goesR))).2<;>rfl
   |false=>
    rw[cond_false,cond_false,zawt,Option.bind_some,zan5 _ _ (by decide),Option.bind_some];cases words.contains (encs ((r::rs).takeWhile goesR)) with
    |true=>rfl
    |false=>
     rw[cond_false,cond_false,zazi _ (zajy ha) (by omega),Option.bind_some];have:decide ((((r::rs).takeWhile goesR).length:Int)>16)=decide (16<((r::rs).takeWhile goesR).length):=by
      rw[Bool.eq_iff_iff,decide_eq_true_eq,decide_eq_true_eq]; omega
     rw[this];cases decide (16<((r::rs).takeWhile goesR).length)<;>rfl
noncomputable def restR (rs:List Int):List Int:=bif goesR (rs.headD 0) then rs.dropWhile goesR else rs.drop (sgn (encs rs)).length
theorem zai1 {r:Int} {rs:List Int} {b:UInt8} {t:List UInt8} (hr:Sp.isRune r=true) (h:encs (r::rs)=b::t) (hb:b.toNat<128):encB r=[b]∧t=encs rs:=by
 rw[zabi] at h;simp only[Sp.isRune,decide_eq_true_eq] at hr;by_cases a1:r<128
 ·have e:encB r=[UInt8.ofNat r.toNat]:=by simp[encB,bytesOf,Sp.enc,a1]
  rw[e] at h ⊢;simp only[List.singleton_append,List.cons.injEq] at h;exact ⟨by rw[h.1],h.2.symm⟩
 ·exfalso;have hh:∀ x l,encB r=UInt8.ofNat x::l→128≤x→x<256→False:=by
   intro x l he h1 h2;rw[he,List.cons_append,List.cons.injEq] at h;have:=congrArg UInt8.toNat h.1;rw[zabu _ h2] at this;omega
  unfold encB Sp.enc bytesOf at hh;rw[if_neg a1] at hh;by_cases a2:r<2048
  ·rw[if_pos a2] at hh;exact hh _ _ rfl (by omega) (by omega)
  ·rw[if_neg a2] at hh;by_cases a3:r<65536
   ·rw[if_pos a3] at hh;exact hh _ _ rfl (by omega) (by omega)
   ·rw[if_neg a3] at hh;exact hh _ _ rfl (by omega) (by omega)
end Lift.A1P
namespace Lift.A1P
open Go Go.RowKit Lift Go.IntWalk Lift.Fn
theorem zact:∀ (l:List Int) (c:Bool),∃ ds,l=ds++skip c l
 |[],c=>⟨[],by cases c<;>rfl⟩
 |r::l,true=>by
  obtain ⟨ds,h⟩:=zact l (r != 10);exact ⟨r::ds,by simp only[skip,List.cons_append]; rw[← h]⟩
 |r::l,false=>by
  simp only[skip];split
  ·obtain ⟨ds,h⟩:=zact l true;exact ⟨r::ds,by rw[List.cons_append,← h]⟩
  ·split
   ·obtain ⟨ds,h⟩:=zact l false;exact ⟨r::ds,by rw[List.cons_append,← h]⟩
   ·exact ⟨[],rfl⟩
theorem zazb:∀ x∈twos,x.length=2∧x.all (fun b=>decide (b.toNat<128))=true:=by decide
theorem zay9:∀ b∈ones,b.toNat<128:=by decide
theorem zazc (r:Int) (rs:List Int):∃ b t,encs (r::rs)=b::t:=by
 cases he:encs (r::rs) with
 |nil=>
  have:=zagz [] rs r;simp only[List.nil_append,he] at this;simp[encs] at this
 |cons b t=>exact ⟨b,t,rfl⟩
theorem zaoe (r:Int) (rs:List Int) (ha:(r::rs).all Sp.isRune=true) (h:sgn (encs (r::rs))≠[]):encs ((r::rs).take (sgn (encs (r::rs))).length)=sgn (encs (r::rs))∧0<(sgn (encs (r::rs))).length:=by
 refine ⟨?_,List.length_pos_iff.2 h⟩;simp only[List.all_cons,Bool.and_eq_true] at ha;obtain ⟨b,t,hbt⟩:=zazc r rs;rw[hbt] at h ⊢;unfold sgn at h ⊢;by_cases h1:1<(b::t).length∧twos.contains ((b::t).take 2)=true
 ·rw[if_pos h1];have hm:(b::t).take 2∈twos:=by simpa using h1.2
  obtain ⟨hl,hall⟩:=zazb _ hm;match t,hl with
  |c::t,_=>
   simp only[List.take_succ_cons,List.take_zero,List.all_cons,List.all_nil,Bool.and_true,Bool.and_eq_true,decide_eq_true_eq] at hall;obtain ⟨e1,e2⟩:=zai1 ha.1 hbt hall.1;match rs,ha.2,e2 with
   |[],_,e2=>simp[encs] at e2
   |r2::rs,ha2,e2=>
    simp only[List.all_cons,Bool.and_eq_true] at ha2;obtain ⟨e3,_⟩:=zai1 ha2.1 e2.symm hall.2;show encs [r,r2]=[b,c];rw[zabi,zabi,e1,e3];rfl
 ·rw[if_neg h1] at h ⊢;by_cases h2:ones.contains ((b::t).headD 0)=true
  ·rw[if_pos h2];have hb:b∈ones:=by simpa using h2
   obtain ⟨e1,_⟩:=zai1 ha.1 hbt (zay9 b hb);show encs [r]=[b];rw[zabi,e1];rfl
  ·rw[if_neg h2] at h;exact absurd rfl h
theorem zani (r:Int) (rs:List Int) (ha:(r::rs).all Sp.isRune=true) (h0:(tokR (r::rs)).2=0):∃ ds,ds≠[]∧r::rs=ds++restR (r::rs)∧encs ds=(tokR (r::rs)).1.text:=by
 unfold tokR at h0 ⊢;unfold restR;simp only[List.headD_cons] at h0 ⊢;cases hg:goesR r with
 |true=>
  refine ⟨(r::rs).takeWhile goesR,by simp[hg],(List.takeWhile_append_dropWhile).symm,?_⟩;simp only[cond_true];cases Sp.digit r with
  |true=>
   cases (numS (encs ((r::rs).takeWhile goesR))).2<;>rfl
  |false=>
   cases words.contains (encs ((r::rs).takeWhile goesR)) with
   |true=>rfl
   |false=>cases decide (16<((r::rs).takeWhile goesR).length)<;>rfl
 |false=>
  rw[hg] at h0;simp only[cond_false] at h0 ⊢;cases hs:(sgn (encs (r::rs))==[]) with
  |true=>rw[hs] at h0; simp at h0
  |false=>
   have hne:sgn (encs (r::rs))≠[]:=by simpa using hs
   obtain ⟨h1,h2⟩:=zaoe r rs ha hne;refine ⟨(r::rs).take (sgn (encs (r::rs))).length,?_,(List.take_append_drop _ _).symm,h1⟩;intro hh;have:=congrArg List.length hh;simp only[List.length_take,List.length_nil,List.length_cons] at this;omega
noncomputable def toks:Nat→Int→List Int→(Int×Int)⊕List Token
 |0,_,_=>.inr []
 |_+1,_,[]=>.inr []
 | n + 1, p, r :: rs => bif (tokR (r :: rs)).2 != 0 then .inl ((tokR (r :: rs)).2, p) else
   match toks n (p+(encs (r::rs)).length-(encs (skip false (restR (r::rs)))).length) (skip false (restR (r::rs))) with
   |.inl e=>.inl e
   |.inr l=>.inr (⟨(tokR (r::rs)).1.kind,(tokR (r::rs)).1.text,(tokR (r::rs)).1.num,p⟩::l)
theorem zae1 {ds rs:List Int} (h:(ds++rs).all Sp.isRune=true):rs.all Sp.isRune=true:=by
 rw[List.all_append,Bool.and_eq_true] at h;exact h.2
theorem zayz (a2 a3:Int) (a4:List UInt8):∀ (k n:Nat) (rs ds:List Int) (out:List Token),rs.length≤k→k<n→(ds++rs).all Sp.isRune=true→(encs (ds++rs)).length≤4000→out.length≤(encs ds).length →
  qaE_i6 n (encs (ds++rs)) ((encs ds).length:Int) a2 a3 a4 out=some (match toks k ((encs ds).length:Int) rs with|.inl e=>.inl (e.1,e.2,[])|.inr l=>.inr (encs (ds++rs),a2,a3,a4,out++l)):=by
 intro k;have fin:∀ (n k:Nat) (ds:List Int) (out:List Token),qaE_i6 (n+1) (encs (ds++[])) ((encs ds).length:Int) a2 a3 a4 out=some (match toks k ((encs ds).length:Int) [] with|.inl e=>.inl (e.1,e.2,[])|.inr l=>.inr (encs (ds++[]),a2,a3,a4,out++l)):=by
  intro n k ds out;have:toks k ((encs ds).length:Int) []=.inr []:=by cases k<;>rfl
  rw[this];simp only[List.append_nil,qaE_i6,qaE_t6];have:decide (((encs ds).length:Int)<((encs ds).length:Int))=false:=decide_eq_false (by omega);rw[this,cond_false]
 induction k with
 |zero=>
  intro n rs ds out hk hn ha hl ho;obtain ⟨n,rfl⟩:∃ q,n=q+1:=⟨n-1,by omega⟩;match rs,hk with
  |[],_=>exact fin n 0 ds out
 |succ k ih=>
  intro n rs ds out hk hn ha hl ho;obtain ⟨n,rfl⟩:∃ q,n=q+1:=⟨n-1,by omega⟩;match rs,hk,ha,hl with
  |[],_,_,_=>exact fin n (k+1) ds out
  |r::rs,hk,ha,hl=>
   have har:=zae1 ha;have hlt:=zagz ds rs r;have hlen:(encs (ds++r::rs)).length=(encs ds).length+(encs (r::rs)).length:=by rw[zaar,List.length_append]
   simp only[qaE_i6,qaE_t6];have b0:decide (((encs ds).length:Int)<((encs (ds++r::rs)).length:Int))=true:=decide_eq_true (by omega);have b1:(decide ((0:Int)≤((encs ds).length:Int))&&(decide (((encs ds).length:Int)≤((encs (ds++r::rs)).length:Int))&&decide (((encs (ds++r::rs)).length:Int)≤((encs (ds++r::rs)).length:Int))))=true:=by
    simp only[Bool.and_eq_true,decide_eq_true_eq]; omega
   have hd:List.drop (Int.toNat ((encs ds).length:Int)) (List.take (Int.toNat ((encs (ds++r::rs)).length:Int)) (encs (ds++r::rs)))=encs (r::rs):=by
    rw[Int.toNat_natCast,Int.toNat_natCast,List.take_length,zafv]
   rw[b0,cond_true,b1,cond_true,hd,zazt _ (List.cons_ne_nil _ _) har (by omega),Option.bind_some];simp only[toks];cases hc:((tokR (r::rs)).2 != 0) with
   |true=>rfl
   |false=>
    have h0:(tokR (r::rs)).2=0:=by simpa using hc
    obtain ⟨es,hes,hsp,htx⟩:=zani r rs har h0;obtain ⟨fs,hfs⟩:=zact (restR (r::rs)) false;have hall:((ds++es)++restR (r::rs)).all Sp.isRune=true:=by rw[List.append_assoc,← hsp]; exact ha
    have hres:=zae1 hall;have l1:(encs (r::rs)).length=(encs es).length+(encs (restR (r::rs))).length:=by
     conv=>lhs; rw[hsp]
     rw[zaar,List.length_append]
    have l2:(encs (restR (r::rs))).length=(encs fs).length+(encs (skip false (restR (r::rs)))).length:=by
     conv=>lhs; rw[hfs]
     rw[zaar,List.length_append]
    have hes1:1≤(encs es).length:=by
     have:=zadr es;have:0<es.length:=List.length_pos_iff.2 hes;omega
    rw[← htx];simp only[cond_false];rw[decide_eq_true (show _∧_ by simp only[List.length_cons,List.length_nil]; omega),cond_true,i64_in (((encs ds).length:Int)+(encs es).length) (by omega)];have b2:(decide ((0:Int)≤((encs ds).length:Int)+(encs es).length)&&(decide (((encs ds).length:Int)+(encs es).length≤((encs (ds++r::rs)).length:Int))&&decide (((encs (ds++r::rs)).length:Int)≤((encs (ds++r::rs)).length:Int))))=true:=by
     simp only[Bool.and_eq_true,decide_eq_true_eq]; omega
    have hd2:List.drop (Int.toNat (((encs ds).length:Int)+(encs es).length)) (List.take (Int.toNat ((encs (ds++r::rs)).length:Int)) (encs (ds++r::rs)))=encs (restR (r::rs)):=by
     have e:ds++r::rs=(ds++es)++restR (r::rs):=by rw[List.append_assoc,← hsp]
     have e2:(((encs ds).length:Int)+(encs es).length).toNat=(encs (ds++es)).length:=by rw[zaar,List.length_append]; omega
     rw[Int.toNat_natCast,List.take_length,e2,e,zafv]
    rw[b2,cond_true,hd2,zas2 _ hres (by omega),Option.bind_some];have hat:IntKind.wrap IntKind.i64 (((encs ds).length:Int)+(encs es).length+(((encs (restR (r::rs))).length:Int)-(encs (skip false (restR (r::rs)))).length))=((encs (ds++es++fs)).length:Int):=by
     rw[i64_in _ (by omega),zaar,zaar,List.length_append,List.length_append];omega
    have hp:((encs ds).length:Int)+(encs (r::rs)).length-(encs (skip false (restR (r::rs)))).length=((encs (ds++es++fs)).length:Int):=by
     rw[zaar,zaar,List.length_append,List.length_append];omega
    have hT:ds++r::rs=(ds++es++fs)++skip false (restR (r::rs)):=by
     rw[List.append_assoc,← hfs,List.append_assoc,← hsp]
    have hk':(skip false (restR (r::rs))).length≤k:=by
     have q1:=congrArg List.length hsp;have q2:=congrArg List.length hfs;have q3:0<es.length:=List.length_pos_iff.2 hes;simp only[List.length_append,List.length_cons] at q1 q2 hk;omega
    rw[hat,hp]
    have:=ih n (skip false (restR (r::rs))) (ds++es++fs) (out++[⟨(tokR (r::rs)).1.kind,encs es,(tokR (r::rs)).1.num,((encs ds).length:Int)⟩]) hk' (by omega) (by rw[← hT]; exact ha) (by rw[← hT]; exact hl) (by
     rw[zaar,zaar];simp only[List.length_append,List.length_cons,List.length_nil];omega)
    rw[← hT] at this;rw[this];cases toks k ((encs (ds++es++fs)).length:Int) (skip false (restR (r::rs))) with
    |inl e=>rfl
    |inr l=>simp only[List.append_assoc,List.singleton_append]
theorem zal7:∀ (k:Nat) (p:Int) (rs:List Int),rs.all Sp.isRune=true→∀ l,toks k p rs=.inr l→l.length≤rs.length
 |0,p,rs,_,l,h=>by simp only[toks,Sum.inr.injEq] at h; subst h; simp
 |k+1,p,[],_,l,h=>by simp only[toks,Sum.inr.injEq] at h; subst h; simp
 |k+1,p,r::rs,ha,l,h=>by
  simp only[toks] at h;cases hc:((tokR (r::rs)).2 != 0) with
  |true=>rw[hc] at h; simp at h
  |false=>
   rw[hc] at h;have h0:(tokR (r::rs)).2=0:=by simpa using hc
   obtain ⟨es,hes,hsp,_⟩:=zani r rs ha h0;obtain ⟨fs,hfs⟩:=zact (restR (r::rs)) false;have q1:=congrArg List.length hsp;have q2:=congrArg List.length hfs;have q3:0<es.length:=List.length_pos_iff.2 hes;simp only[List.length_append,List.length_cons] at q1 q2;simp only[cond_false] at h;have hs:(skip false (restR (r::rs))).all Sp.isRune=true:=zae1 (ds:=es++fs) (by rw[List.append_assoc,← hfs,← hsp]; exact ha);split at h
   ·cases h
   ·rename_i l' hl';simp only[Sum.inr.injEq] at h;subst h;have:=zal7 k _ _ hs l' hl';simp only[List.length_cons];omega
theorem zas6 (rs:List Int) (ha:rs.all Sp.isRune=true) (hl:(encs rs).length≤4000):qaE (encs rs)=some (match toks rs.length (((encs rs).length:Int)-(encs (skip false rs)).length) (skip false rs) with
  |.inl e=>(⟨e.1,e.2,[]⟩,[])
  |.inr l=>(⟨0,0,[]⟩,l++[⟨5,[],0,((encs rs).length:Int)⟩])):=by
 obtain ⟨fs,hfs⟩:=zact rs false;obtain ⟨q1,q2⟩:=zaqo rs ha hl;have hsk:((encs rs).length:Int)-(encs (skip false rs)).length=((encs fs).length:Int):=by
  have:(encs rs).length=(encs fs).length+(encs (skip false rs)).length:=by
   conv=>lhs; rw[hfs]
   rw[zaar,List.length_append]
  omega
 have hL:=zayz 0 0 [] rs.length fuel (skip false rs) fs [] (by have:=congrArg List.length hfs; rw[List.length_append] at this; omega) (by have:=zadr rs; unfold fuel; omega) (by rw[← hfs]; exact ha) (by rw[← hfs]; exact hl) (by simp);rw[← hfs] at hL;rw[qaE,zaaa];unfold qaE_f;rw[zas5,q1,q2,Option.bind_some];simp only[bne_self_eq_false,cond_false];rw[zas2 rs ha (by omega),Option.bind_some,hsk,qaE_l6,zaaa,hL,Option.bind_some];have hlen:=zal7 rs.length ((encs fs).length:Int) (skip false rs) (zae1 (ds:=fs) (by rw[← hfs]; exact ha));cases ht:toks rs.length ((encs fs).length:Int) (skip false rs) with
 |inl e=>rfl
 |inr l=>
  have hl2:=hlen l ht;have h3:(skip false rs).length≤rs.length:=by
   have:=congrArg List.length hfs;rw[List.length_append] at this;omega
  have h4:=zadr rs;simp only[List.nil_append];rw[decide_eq_true (show _∧_ by simp only[List.length_cons,List.length_nil]; omega),cond_true]
end Lift.A1P
namespace Lift.A1P
open Go Go.RowKit Lift Go.IntWalk Lift.Fn
end Lift.A1P
namespace Lift.A1P
open Go Go.RowKit Lift Go.IntWalk Lift.Fn
def whole (w:List Int) (t:Token):Prop:=w≠[]∧w.all Sp.isRune=true∧tokR w=(t,0)∧t.text=encs w
theorem zao9 {w:List Int} (h:goesR (w.headD 0)=true):(tokR w).1.text=encs (w.takeWhile goesR):=by
 unfold tokR;rw[h,cond_true];cases Sp.digit (w.headD 0) with
 |true=>cases (numS (encs (w.takeWhile goesR))).2<;>rfl
 |false=>
  cases words.contains (encs (w.takeWhile goesR)) with
  |true=>rfl
  |false=>cases decide (16<(w.takeWhile goesR).length)<;>rfl
end Lift.A1P
namespace Lift.A1P
open Go Go.RowKit Lift Go.IntWalk Lift.Fn
end Lift.A1P
namespace Lift.A1P
open Go Go.RowKit Lift Go.IntWalk Lift.Fn
end Lift.A1P
namespace Lift.A1P
open Go Go.RowKit Lift Go.IntWalk Lift.Fn
theorem zaxp (x:List UInt8):sgn (sgn x)=sgn x:=by
 by_cases k1:1<x.length∧twos.contains (x.take 2)=true
 ·have e:sgn x=x.take 2:=by unfold sgn; rw[if_pos k1]
  rw[e];have hl:(x.take 2).length=2:=by rw[List.length_take]; omega
  have ht:(x.take 2).take 2=x.take 2:=by rw[List.take_take]; rfl
  unfold sgn;rw[if_pos ⟨by omega,by rw[ht]; exact k1.2⟩,ht]
 ·by_cases k2:ones.contains (x.headD 0)=true
  ·have e:sgn x=x.take 1:=by unfold sgn; rw[if_neg k1,if_pos k2]
   rw[e];match x,k2 with
   |[],k2=>exact absurd k2 (by decide)
   |b::x,k2=>
    show sgn [b]=[b];unfold sgn;rw[if_neg (fun hh=>by have:=hh.1; simp at this)];exact if_pos k2
  ·have e:sgn x=[]:=by unfold sgn; rw[if_neg k1,if_neg k2]
   rw[e];decide
theorem alone (a:Int) (rs:List Int) (ha:(a::rs).all Sp.isRune=true) (h0:(tokR (a::rs)).2=0):∃ ds,whole ds (tokR (a::rs)).1∧a::rs=ds++restR (a::rs):=by
 cases hg:goesR a with
 |true=>
  have ht:=zao9 (w:=a::rs) hg;have hd:((a::rs).takeWhile goesR).headD 0=a:=by rw[List.takeWhile_cons,if_pos hg]; rfl
  have htt:((a::rs).takeWhile goesR).takeWhile goesR=(a::rs).takeWhile goesR:=zarq List.all_takeWhile;refine ⟨(a::rs).takeWhile goesR,⟨by simp[hg],zajy ha,?_,ht⟩,?_⟩
  ·refine Prod.ext ?_ ?_
   ·show (tokR ((a::rs).takeWhile goesR)).1=_;unfold tokR;rw[hd,htt,List.headD_cons,hg];rfl
   ·show (tokR ((a::rs).takeWhile goesR)).2=0;rw[← h0];unfold tokR;rw[hd,htt,List.headD_cons,hg];rfl
  ·unfold restR;rw[List.headD_cons,hg];exact (List.takeWhile_append_dropWhile).symm
 |false=>
  have hc:(sgn (encs (a::rs))==[])=false:=by
   unfold tokR at h0;rw[List.headD_cons,hg,cond_false] at h0;cases hc:(sgn (encs (a::rs))==[]) with
   |true=>rw[hc] at h0; simp at h0
   |false=>rfl
  have hne:sgn (encs (a::rs))≠[]:=by simpa using hc
  obtain ⟨h1,h2⟩:=zaoe a rs ha hne;have htok:tokR (a::rs)=(⟨3,sgn (encs (a::rs)),0,0⟩,0):=by
   unfold tokR;rw[List.headD_cons,hg,cond_false,hc,cond_false]
  obtain ⟨n,hn⟩:∃ n,(sgn (encs (a::rs))).length=n+1:=⟨(sgn (encs (a::rs))).length-1,by omega⟩;have htk:(a::rs).take (sgn (encs (a::rs))).length=a::rs.take n:=by rw[hn]; rfl
  refine ⟨(a::rs).take (sgn (encs (a::rs))).length,⟨by rw[htk]; exact List.cons_ne_nil _ _,?_,?_,?_⟩,?_⟩
  ·rw[List.all_eq_true] at ha ⊢;exact fun r hr=>ha r (List.mem_of_mem_take hr)
  ·rw[htok];rw[htk] at h1 ⊢;unfold tokR;rw[List.headD_cons,hg,cond_false,h1,zaxp,hc,cond_false]
  ·rw[htok,h1]
  ·unfold restR;rw[List.headD_cons,hg,cond_false,List.take_append_drop]
end Lift.A1P
namespace Lift.A1P
open Go Go.RowKit Lift Go.IntWalk Lift.Fn
theorem zamr (t:List UInt8) (h:(Sp.runes2 t).code≠0):qaE t=some (⟨(Sp.runes2 t).code,(Sp.runes2 t).at_,(Sp.runes2 t).name⟩,[]):=by
 rw[qaE,zaaa];unfold qaE_f;rw[zas5,Option.bind_some];have:((Sp.runes2 t).code != 0)=true:=by simp[h]
 simp only[this,cond_true]
end Lift.A1P
namespace Lift.A1P
open Go Go.RowKit Lift Go.IntWalk Lift.Fn
end Lift.A1P
namespace Lift.A1P
open Go Go.RowKit Lift Go.IntWalk Lift.Fn
end Lift.A1P
namespace Lift.A1P
open Go Go.RowKit Lift Go.IntWalk Lift.Fn
end Lift.A1P
namespace Lift.A1P
open Go Go.RowKit Lift Go.IntWalk Lift.Fn
theorem tokens_any (t:List UInt8):∃ f l,qaE t=some (f,l)∧l.length≤4001:=by
 rcases zar5 t with ⟨h1,h2⟩|⟨h0,rs,rest,_,_,_,_,h1,h2⟩|⟨h0,rs,rfl,ha,h1,h2⟩
 ·rw[zamr t (by rw[h2]; decide)]; exact ⟨_,_,rfl,by simp⟩
 ·rw[zamr t (by rw[h2]; show (11:Int)≠0; decide)]; exact ⟨_,_,rfl,by simp⟩
 ·rw[zas6 rs ha h0];have hlr:=zadr rs;have hS:(skip false rs).all Sp.isRune=true:=by
   obtain ⟨fs,hfs⟩:=zact rs false;exact zae1 (ds:=fs) (by rw[← hfs]; exact ha)
  have hsl:(skip false rs).length≤rs.length:=by
   obtain ⟨fs,hfs⟩:=zact rs false;have:=congrArg List.length hfs;rw[List.length_append] at this;omega
  cases ht:toks rs.length (((encs rs).length:Int)-((encs (skip false rs)).length:Int)) (skip false rs) with
  |inl e=>exact ⟨_,_,rfl,by simp⟩
  |inr l=>
   have:=zal7 _ _ _ hS l ht;exact ⟨_,_,rfl,by rw[List.length_append,List.length_cons,List.length_nil]; omega⟩
end Lift.A1P
namespace Lift.A3
open Go Go.RowKit Lift Go.IntWalk Lift.Fn
set_option linter.unusedVariables false
set_option linter.unusedSimpArgs false
theorem zatl (t:List UInt8):∃ b,qbD t=some b:=by
 obtain ⟨f,l,e,hl⟩:=Lift.A1P.tokens_any t;rw[qbD,zaaa];unfold qbD_f;rw[e];cases decide (((t.length:Nat):Int)>64) with
 |true=>exact ⟨false,rfl⟩
 |false=>
 simp only[cond_false,Option.bind_some];cases f.code==0 with
 |false=>exact ⟨false,rfl⟩
 |true=>
 match l with
 |[]=>exact ⟨false,rfl⟩
 |[a]=>exact ⟨false,rfl⟩
 |a::b::c::l=>
  have:((((a::b::c::l:List Token).length:Nat):Int)==2)=false:=by
   rw[beq_eq_false_iff_ne]; simp only[List.length_cons]; omega
  rw[this];exact ⟨false,rfl⟩
 |[a,b]=>
  have:((([a,b]:List Token).length:Int)==2)=true:=rfl;simp only[this,cond_true,Option.bind_some];have h2:(decide ((0:Int)≤0)&&decide ((0:Int)<(([a,b]:List Token).length:Int)))=true:=rfl;simp only[h2,cond_true,List.getElem?_cons_zero,Option.bind_some];cases (a.kind==1) with
  |false=>exact ⟨false,rfl⟩
  |true=>exact ⟨a.text==t,rfl⟩
noncomputable def isNm (t:List UInt8):Bool:=(qbD t).getD false
theorem zaiu (t:List UInt8):qbD t=some (isNm t):=by
 obtain ⟨b,e⟩:=zatl t;rw[isNm,e];rfl
end Lift.A3
namespace Lift.A3
open Go Go.RowKit Lift Go.IntWalk Lift.Fn
set_option linter.unusedVariables false
set_option linter.unusedSimpArgs false
theorem zaa1 {α:Type} (c:Bool) (a b:α):(bif c then some a else some b)=some (bif c then a else b):=by cases c<;>rfl
theorem cand (a b:Bool):(bif a then b else false)=(a&&b):=by cases a<;>rfl
theorem cor (a b:Bool):(bif a then true else b)=(a||b):=by cases a<;>rfl
noncomputable def xOk (x:TExpr):Bool:=
 bif x.kind==1 then ((decide (x.num≥0)&&decide (x.num≤2147483647))&&x.name==[])&&((x.args.length:Int)==0)
 else bif x.kind==2 then (isNm x.name&&x.num==0)&&((x.args.length:Int)==0)
 else bif (x.kind==3||x.kind==4) then (((decide (x.kind≥3)&&decide (x.kind≤17))&&((x.args.length:Int)==1))&&x.num==0)&&x.name==[]
 else (((decide (x.kind≥3)&&decide (x.kind≤17))&&((x.args.length:Int)==2))&&x.num==0)&&x.name==[]
theorem zayl (x:TExpr):qby x=some (xOk x):=by
 rw[qby,zaaa];unfold qby_f xOk;simp only[zaiu,zaa1,Option.bind_some,cand,cor]
mutual
noncomputable def eF:TExpr→Bool
 |⟨k,n,m,l⟩=>xOk ⟨k,n,m,l⟩&&eFs l
noncomputable def eFs:List TExpr→Bool
 |[]=>true
 |x::l=>eF x&&eFs l
end
theorem zas4:∀ l,eFs l=l.all eF
 |[]=>by rw[eFs]; rfl
 |x::l=>by rw[eFs,List.all_cons,zas4 l]
theorem eF_eq (x:TExpr):eF x=(xOk x&&x.args.all eF):=by cases x; rw[eF,zas4]
theorem zal6 {α τ:Type} (f:α→Bool) (l:List α) (e:τ) (L:Nat→Int→Option (Bool⊕τ))
  (h0:∀ n i,0≤i→¬ i<(l.length:Int)→L (n+1) i=some (.inr e))
  (h1:∀ n i x,0≤i→i<(l.length:Int)→l[i.toNat]? = some x→x∈l→L (n+1) i=bif f x then L n (i+1) else some (.inl false))
  (n:Nat) (hn:l.length<n):L n 0=some (bif l.all f then .inr e else .inl false):=by
 exact zac6 (σ := Unit) l (fun _ _ => True) (fun q _ => (bif q.all f then .inr e else .inl false : Bool ⊕ τ)) (fun m i _ => L m i)
  (fun m i s h h' _=>h0 m i h h')
  (fun m i s x q h h' hp hm _=>by
   have:=h1 m i x h h' hp hm;cases hf:f x with
   |true=>
    rw[hf,cond_true] at this;exact Or.inl ⟨(),trivial,this,by rw[List.all_cons,hf,Bool.true_and]⟩
   |false=>
    rw[hf,cond_false] at this;refine Or.inr ?_;rw[List.all_cons,hf,Bool.false_and];exact this)
  n () hn trivial
end Lift.A3
namespace Lift.A3
open Go Go.RowKit Lift Go.IntWalk Lift.Fn
set_option linter.unusedVariables false
set_option linter.unusedSimpArgs false
def shs:List (Int×Shape):=(zaau (11:Int) (Shape.mk false false false true true false) (zaau (10:Int) (Shape.mk false false true false true true) (zaau (9:Int) (Shape.mk false false true false false false) (zaau (8:Int) (Shape.mk false true false false false false) (zaau (7:Int) (Shape.mk false true false false false false) (zaau (6:Int) (Shape.mk false true false false false false) (zaau (5:Int) (Shape.mk false true false false false false) (zaau (4:Int) (Shape.mk true true true false false false) (zaau (3:Int) (Shape.mk false true true false false false) (zaau (2:Int) (Shape.mk true true false false false false) (zaau (1:Int) (Shape.mk true false true false false false) [])))))))))))
def shp (k:Int):Shape:=Option.getD (mapAt shs k) (Shape.mk false false false false false false)
def inR (k:Int):Bool:=!(decide (k<1)||decide (k>11))
def sFld (k:Int):Bool×Bool×Bool×Bool×Bool×Bool:=((shp k).reg,(shp k).name,(shp k).expr,(shp k).count,(shp k).then_,(shp k).other)
theorem zax9:qbE=some shs:=by rw[qbE,zaaa]; rfl
theorem zaxq (k:Int):Option.isSome (mapAt shs k)=inR k:=by
 by_cases h:1≤k∧k≤11
 ·obtain ⟨h1,h2⟩:=h;have:k=1∨k=2∨k=3∨k=4∨k=5∨k=6∨k=7∨k=8∨k=9∨k=10∨k=11:=by omega
  rcases this with rfl|rfl|rfl|rfl|rfl|rfl|rfl|rfl|rfl|rfl|rfl<;>decide
 ·have e:inR k=false:=by
   unfold inR;rw[Bool.not_eq_false',Bool.or_eq_true,decide_eq_true_eq,decide_eq_true_eq];omega
  rw[e];have hs:shs=[(1,Shape.mk true false true false false false),(2,Shape.mk true true false false false false),(3,Shape.mk false true true false false false),(4,Shape.mk true true true false false false),(5,Shape.mk false true false false false false),(6,Shape.mk false true false false false false),(7,Shape.mk false true false false false false),(8,Shape.mk false true false false false false),(9,Shape.mk false false true false false false),(10,Shape.mk false false true false true true),(11,Shape.mk false false false true true false)]:=by decide
  have n:∀ c:Int,1≤c→c≤11→(c==k)=false:=by
   intro c h1 h2;rw[beq_eq_false_iff_ne];omega
  rw[hs];unfold mapAt;simp[List.find?_cons,n]
theorem zayr (k:Int) (h:inR k=true):qaY k=some (sFld k):=by
 rw[qaY,zaaa];have:k=1∨k=2∨k=3∨k=4∨k=5∨k=6∨k=7∨k=8∨k=9∨k=10∨k=11:=by
  unfold inR at h;rw[Bool.not_eq_true',Bool.or_eq_false_iff,decide_eq_false_iff_not,decide_eq_false_iff_not] at h;omega
 rcases this with rfl|rfl|rfl|rfl|rfl|rfl|rfl|rfl|rfl|rfl|rfl<;>decide
def none_ (x:TExpr):Bool:=((x.kind==0&&x.num==0)&&x.name==[])&&((x.args.length:Int)==0)
noncomputable def isOpt (t:List UInt8) (b:Bool):Bool:=(b&&isNm t)||(!b&&t==[])
theorem is1 (t:List UInt8) (b:Bool):qbC t b=some (isOpt t b):=by
 rw[qbC,zaaa];unfold qbC_f isOpt;simp only[zaiu,zaa1,Option.bind_some,cand,cor]
noncomputable def sOk (y:TStmt):Bool:=
 ((((((inR y.kind&&isOpt y.reg (shp y.kind).reg)&&isOpt y.name (shp y.kind).name)&&(((shp y.kind).expr&&y.expr.kind != 0)||(!(shp y.kind).expr&&none_ y.expr))) &&
  (y.count==0||(((shp y.kind).count&&decide (y.count>0))&&decide (y.count≤1000))))&&((shp y.kind).then_||((y.then_.length:Int)==0)))&&((shp y.kind).other||((y.else_.length:Int)==0)))
theorem zayb (y:TStmt):qbF y=some (sOk y):=by
 rw[qbF,zaaa];unfold qbF_f sOk;simp only[zax9,is1,zaa1,Option.bind_some,cand,cor,zaxq];rfl
theorem none1 (x:TExpr):qaZ x=some (none_ x):=by
 rw[qaZ,zaaa];unfold qaZ_f none_;simp only[zaa1,Option.bind_some,cand,cor]
mutual
noncomputable def sF:TStmt→Bool
 |⟨k,r,m,x,c,t,o⟩=>sOk ⟨k,r,m,x,c,t,o⟩&&((if zaak x then eF x else true)&&(sFs t&&sFs o))
noncomputable def sFs:List TStmt→Bool
 |[]=>true
 |x::l=>sF x&&sFs l
end
theorem zasu:∀ l,sFs l=l.all sF
 |[]=>by rw[sFs]; rfl
 |x::l=>by rw[sFs,List.all_cons,zasu l]
theorem sF_eq (y:TStmt):sF y=(sOk y&&((if zaak y.expr then eF y.expr else true)&&(sFs y.then_&&sFs y.else_))):=by cases y; rw[sF]
noncomputable def evOk:Ev→Bool
 |.s x _=>sOk x
 |.e x _=>xOk x
mutual
theorem evOkE:∀ (x:TExpr) (d:Int),(evE x d).all evOk=eF x
 |⟨k,n,m,l⟩,d=>by rw[evE,List.all_cons,zawi l (d+1),eF]; rfl
theorem zawi:∀ (l:List TExpr) (d:Int),(evEs l d).all evOk=eFs l
 |[],d=>by rw[evEs,eFs]; rfl
 |x::l,d=>by rw[evEs,List.all_append,evOkE x d,zawi l d,eFs]
end
mutual
theorem evOkS:∀ (x:TStmt) (d:Int),(evS x d).all evOk=sF x
 |⟨k,r,m,x,c,t,o⟩,d=>by
  rw[evS,List.all_cons,List.all_append,List.all_append,zand t (d+1),zand o (d+1),sF];cases zaak x with
  |true=>rw[if_pos rfl,if_pos rfl,evOkE]; rfl
  |false=>rw[if_neg (by simp),if_neg (by simp)]; rfl
theorem zand:∀ (l:List TStmt) (d:Int),(evSs l d).all evOk=sFs l
 |[],d=>by rw[evSs,sFs]; rfl
 |x::l,d=>by rw[evSs,List.all_append,evOkS x d,zand l d,sFs]
end
theorem zaoq : ∀ (l : List Ev) (b : Bool), l.foldlM (atEv (fun (x : TStmt) (d : Int) (s : Bool) => qbA x d s) (fun (x : TExpr) (d : Int) (s : Bool) => qbB x d s)) b = some (b && l.all evOk)
 |[],b=>by simp
 |e::l,b=>by
  have e1:atEv (fun (x:TStmt) (d:Int) (s:Bool)=>qbA x d s) (fun (x:TExpr) (d:Int) (s:Bool)=>qbB x d s) b e=some (b&&evOk e):=by
   cases e with
   |s x d=>show qbA x d b=_; rw[qbA,zaaa]; unfold qbA_f; simp only[zax8,zayb,zaa1,Option.bind_some,cand]; rfl
   |e x d=>show qbB x d b=_; rw[qbB,zaaa]; unfold qbB_f; simp only[zabl,zayl,zaa1,Option.bind_some,cand]; rfl
  rw[List.foldlM_cons,e1];show List.foldlM _ (b&&evOk e) l=_;rw[zaoq l _,List.all_cons,Bool.and_assoc]
noncomputable def cOk (c:TCell):Bool:=(isNm c.name&&decide (c.init≥-2147483647))&&decide (c.init≤2147483647)
noncomputable def pOk (p:TProg):Bool:=p.cells.all cOk&&(p.mutexes.all isNm&&p.threads.all fun t=>isNm t.name&&sFs t.body)
theorem zaka {α : Type} (f g : α → Bool) : ∀ l : List α, (l.all fun t => f t && g t) = (l.all f && l.all g)
 |[]=>rfl
 |x::l=>by
  rw[List.all_cons,List.all_cons,List.all_cons,zaka f g l];cases f x<;>cases g x<;>cases l.all f<;>rfl
theorem zaxs (p:TProg) (h:nT p.threads≤100000000) (h1:p.cells.length≤100000000) (h2:p.mutexes.length≤100000000):qbz p=some (pOk p):=by
 rw[qbz,zaaa];unfold qbz_f;have hl:=zag8 p.threads
 have e1 := zac6 (σ := Bool) p.cells (fun _ _ => True) (fun r s => (p.cells, p.mutexes, p.threads, s && r.all cOk)) (fun m i s => qbz_i3 m p.cells p.cells.length i p.cells p.mutexes p.threads s)
  (fun m i s h0 h hI=>by simp only[qbz_i3,qbz_t3,decide_eq_false h,cond_false,List.all_nil,Bool.and_true])
  (fun m i s y r h0 h hy hm hI=>by
   refine Or.inl ⟨s&&cOk y,trivial,?_,by rw[List.all_cons,Bool.and_assoc]⟩;simp only[qbz_i3,qbz_t3,decide_eq_true h,decide_eq_true h0,hy,Option.bind_some,cond_true,zaiu,zaa1,cand];rw[i64_in (i+1) (by omega),cOk,Bool.and_assoc,Bool.and_assoc,Bool.and_assoc])
  fuel true (by unfold fuel; omega) trivial
 have e2 := fun s => zac6 (σ := Bool) p.mutexes (fun _ _ => True) (fun r s => (p.cells, p.mutexes, p.threads, s && r.all isNm)) (fun m i s => qbz_i8 m p.mutexes p.mutexes.length i p.cells p.mutexes p.threads s)
  (fun m i s h0 h hI=>by simp only[qbz_i8,qbz_t8,decide_eq_false h,cond_false,List.all_nil,Bool.and_true])
  (fun m i s y r h0 h hy hm hI=>by
   refine Or.inl ⟨s&&isNm y,trivial,?_,by rw[List.all_cons,Bool.and_assoc]⟩;simp only[qbz_i8,qbz_t8,decide_eq_true h,decide_eq_true h0,hy,Option.bind_some,cond_true,zaiu,zaa1,cand];rw[i64_in (i+1) (by omega)])
  fuel s (by unfold fuel; omega) trivial
 have e3 := fun s => zac6 (σ := Bool) p.threads (fun _ _ => True) (fun r s => (p.cells, p.mutexes, p.threads, s && r.all fun t => isNm t.name)) (fun m i s => qbz_i13 m p.threads p.threads.length i p.cells p.mutexes p.threads s)
  (fun m i s h0 h hI=>by simp only[qbz_i13,qbz_t13,decide_eq_false h,cond_false,List.all_nil,Bool.and_true])
  (fun m i s y r h0 h hy hm hI=>by
   refine Or.inl ⟨s&&isNm y.name,trivial,?_,by rw[List.all_cons,Bool.and_assoc]⟩;simp only[qbz_i13,qbz_t13,decide_eq_true h,decide_eq_true h0,hy,Option.bind_some,cond_true,zaiu,zaa1,cand];rw[i64_in (i+1) (by omega)])
  fuel s (by unfold fuel; omega) trivial
 rw[qbz_l3,zaaa,e1,Option.bind_some];simp only;rw[qbz_l8,zaaa,e2,Option.bind_some];simp only;rw[qbz_l13,zaaa,e3,Option.bind_some];simp only[zaio];rw[wP p _ (by omega),zaoq];have ef:(evP p).all evOk=p.threads.all fun t=>sFs t.body:=by
  unfold evP;generalize p.threads=l;induction l with
  |nil=>rfl
  |cons t l ih=>rw[List.flatMap_cons,List.all_append,ih,List.all_cons,zand]
 rw[ef,pOk,zaka];cases p.cells.all cOk<;>cases p.mutexes.all isNm<;>cases p.threads.all (fun t=>isNm t.name)<;>cases p.threads.all (fun t=>sFs t.body)<;>rfl
end Lift.A3
namespace Lift.A3
open Go Go.RowKit Lift Go.IntWalk Lift.Fn
set_option linter.unusedVariables false
set_option linter.unusedSimpArgs false
theorem bB:∀ (q1 q2 th tl ot ol:Bool),(((q1||q2)||(!th&&tl))||(!ot&&ol))=!(((!(q1||q2))&&(th||!tl))&&(ot||!ol)):=by decide
theorem bC:∀ (r o1 o2 o3 x q t e g s1 s2:Bool),(x&&g)=o3→(((((((r&&o1)&&o2)&&x)&&q)&&t)&&e)&&(g&&(s1&&s2)))=(r&&bif !((o1&&o2)&&o3) then false else bif !((q&&t)&&e) then false else (s1&&s2)):=by
 intro r o1 o2 o3 x q t e g s1 s2 h;subst h;revert r o1 o2 x q t e g s1 s2;decide
theorem cntEq (c:Int) (f:Bool):(c==0||((f&&decide (c>0))&&decide (c≤1000)))=!((f&&(decide (c<0)||decide (c>1000)))||(!f&&c != 0)):=by
 cases f with
 |true=>
  rw[Bool.eq_iff_iff];simp only[Bool.true_and,Bool.not_true,Bool.false_and,Bool.or_false,Bool.or_eq_true,Bool.and_eq_true,Bool.not_eq_true',Bool.or_eq_false_iff,decide_eq_true_eq,decide_eq_false_iff_not,beq_iff_eq];omega
 |false=>
  simp[bne]
theorem zazv (x:TExpr) (f:Bool):(((f&&x.kind != 0)||(!f&&none_ x))&&(if zaak x then eF x else true))=((f&&eF x)||(!f&&none_ x)):=by
 cases f with
 |true=>
  simp only[Bool.true_and,Bool.not_true,Bool.false_and,Bool.or_false];cases hk:(x.kind==0) with
  |true=>
   have hk':x.kind=0:=eq_of_beq hk;have:eF x=false:=by
    rw[eF_eq,xOk,hk'];simp
   rw[this,bne,hk];rfl
  |false=>
   have:zaak x=true:=by unfold zaak; rw[bne,hk]; rfl
   rw[this,if_pos rfl,bne,hk];rfl
 |false=>
  simp only[Bool.false_and,Bool.not_false,Bool.true_and,Bool.false_or];cases hn:none_ x with
  |false=>rfl
  |true=>
   unfold none_ at hn;simp only[Bool.and_eq_true] at hn;have h1:x.kind=0:=eq_of_beq hn.1.1.1;have h2:(x.args.length:Int)=0:=eq_of_beq hn.2;have:zaak x=false:=by
    unfold zaak;rw[h1,decide_eq_false (by omega)];rfl
   rw[this,if_neg (by simp)];rfl
noncomputable def zagw (p:TProg):Int:=
 bif !pOk p then 30 else bif decide (maxEv (evP p) 0>16) then 31 else bif decide ((cT p.threads:Int)>500) then 32 else 0
theorem zav4 (p:TProg) (h:nT p.threads≤100000000) (h1:p.cells.length≤100000000) (h2:p.mutexes.length≤100000000):qbx p=some (zagw p):=by
 rw[qbx,zaaa];unfold qbx_f zagw;rw[zaio,zaxs p h h1 h2,zaxn p (by omega),zavu p (by omega)];simp only[Option.bind_some,zaa1]
end Lift.A3
namespace Lift.A3
open Go Go.RowKit Lift Go.IntWalk Lift.Fn
set_option linter.unusedVariables false
set_option linter.unusedSimpArgs false
end Lift.A3
namespace Lift.A3
open Go Go.RowKit Lift Go.IntWalk Lift.Fn Lift.A1P
set_option linter.unusedVariables false
set_option linter.unusedSimpArgs false
theorem lexOf (rs:List Int) (t:List UInt8) (l:List Token) (ha:rs.all Sp.isRune=true) (hl:(encs rs).length≤4000) (ht:encs rs=t)
  (hT:toks rs.length (((encs rs).length:Int)-(encs (skip false rs)).length) (skip false rs)=.inr l):qaE t=some (⟨0,0,[]⟩,l++[⟨5,[],0,((encs rs).length:Int)⟩]):=by
 have hk:=zas6 rs ha hl;rw[hT,ht] at hk;rw[hk,ht]
theorem nm_of (rs:List Int) (t:List UInt8) (a:Token) (ha:rs.all Sp.isRune=true) (hl:(encs rs).length≤64) (ht:encs rs=t)
  (hT:toks rs.length (((encs rs).length:Int)-(encs (skip false rs)).length) (skip false rs)=.inr [a]):isNm t=(a.kind==1&&a.text==t):=by
 unfold isNm;rw[qbD,zaaa];unfold qbD_f;rw[decide_eq_false (by rw[← ht]; omega),cond_false,lexOf rs t [a] ha (by omega) ht hT];simp only[Option.bind_some,List.singleton_append];have h2:((([a,⟨5,[],0,((encs rs).length:Int)⟩]:List Token).length:Int)==2)=true:=rfl;have h3:(decide ((0:Int)≤0)&&decide ((0:Int)<(([a,⟨5,[],0,((encs rs).length:Int)⟩]:List Token).length:Int)))=true:=rfl;rw[h2,h3];cases h:(a.kind==1)
 ·simp[h]
 ·simp[h]
theorem nm_x:isNm [120]=true:=(nm_of [120] [120] ⟨1,[120],0,0⟩ (by decide) (by decide +kernel) (by decide +kernel) (by decide +kernel)).trans (by decide)
end Lift.A3
namespace Lift.A3
open Go Go.RowKit Lift Go.IntWalk Lift.Fn
set_option linter.unusedVariables false
set_option linter.unusedSimpArgs false
def sy0:TStmt:=TStmt.mk (4:Int) [(114:UInt8)] [(120:UInt8)] (TExpr.mk (5:Int) (0:Int) [] [TExpr.mk (2:Int) (0:Int) [(114:UInt8)] [],TExpr.mk (2:Int) (0:Int) [(113:UInt8)] []]) (0:Int) [] []
def p0 (c:List UInt8):TProg:=TProg.mk [TCell.mk c (0:Int)] [] [TThread.mk [(116:UInt8)] [sy0]]
end Lift.A3
namespace Lift.A9
open Go Go.RowKit Lift Go.IntWalk Lift.Fn Lift.A3
set_option linter.unusedVariables false
set_option linter.unusedSimpArgs false
theorem zaeg {α β ρ:Type} (l:List α) (g:α→β) (fin:List β→ρ) (L:Nat→Int→List β→Option ρ)
  (h0:∀ n i s,0≤i→¬ i<(l.length:Int)→L (n+1) i s=some (fin s))
  (h1:∀ n i s x,0≤i→i<(l.length:Int)→l[i.toNat]? = some x→x∈l→s.length<l.length→L (n+1) i s=L n (i+1) (s++[g x]))
  (n:Nat) (hn:l.length<n):L n 0 []=some (fin (l.map g)):=by
 have := zac6 (σ := List β) l (fun r s => s.length + r.length = l.length) (fun r s => fin (s ++ r.map g)) L
  (fun m i s h h' _=>by rw[h0 m i s h h',List.map_nil,List.append_nil])
  (fun m i s x r h h' hx hm hI=>by
   have hI':s.length+(x::r).length=l.length:=hI;simp only[List.length_cons] at hI';refine Or.inl ⟨s++[g x],(by show (s++[g x]).length+r.length=l.length; simp only[List.length_append,List.length_cons,List.length_nil]; omega),?_,by simp⟩;exact h1 m i s x h h' hx hm (by omega))
  n [] hn (by simp)
 rw[this];rfl
mutual
def nA:TAct→Nat
 |⟨_,_,_,x,_,t,o⟩=>1+nE x+nAs t+nAs o
def nAs:List TAct→Nat
 |[]=>0
 |x::l=>nA x+nAs l
end
theorem nA_eq (x:TAct):nA x=1+nE x.expr+nAs x.then_+nAs x.else_:=by cases x; simp[nA]
theorem zad4:∀ l:List TAct,l.length≤nAs l
 |[]=>by simp[nAs]
 |x::l=>by have:=zad4 l; have:=nA_eq x; simp only[nAs,List.length_cons]; omega
theorem zaku:∀ {l:List TAct} {x:TAct},x∈l→nA x≤nAs l
 |y::l,x,h=>by
  simp only[nAs];cases h with
  |head=>omega
  |tail _ h=>have:=zaku h; omega
def nB:List TBody→Nat
 |[]=>0
 |t::l=>1+nAs t.acts+nB l
theorem zami:∀ l:List TBody,l.length≤nB l
 |[]=>by simp[nB]
 |x::l=>by have:=zami l; simp only[nB,List.length_cons]; omega
theorem zam8:∀ {l:List TBody} {x:TBody},x∈l→nAs x.acts<nB l
 |y::l,x,h=>by
  simp only[nB];cases h with
  |head=>omega
  |tail _ h=>have:=zam8 h; omega
def atL (l:List (List UInt8)) (i:Int):List UInt8:=bif decide (0≤i)&&decide (i<l.length) then (l[i.toNat]?).getD [] else []
theorem zavz (l:List (List UInt8)) (i:Int):qax l i=some (atL l i):=by
 rw[qax,zaaa];unfold qax_f atL;by_cases h:i<0
 ·have h':¬ (0≤i):=by omega
  simp[h,h']
 ·have h1:0≤i:=by omega
  by_cases h2:i≥(l.length:Int)
  ·have h3:¬ (i<(l.length:Int)):=by omega
   simp only[decide_eq_false h,cond_false,Option.bind_some,decide_eq_true h2,cond_true,decide_eq_true h1,decide_eq_false h3,Bool.true_and]
  ·have h3:i<(l.length:Int):=by omega
   have h4:i.toNat<l.length:=by omega
   simp only[decide_eq_false h,cond_false,Option.bind_some,decide_eq_false h2,cond_true,decide_eq_true h1,decide_eq_true h3,Bool.true_and,List.getElem?_eq_getElem h4,Option.getD_some]
mutual
def nX (n:Namer):TExpr→TExpr
 |⟨k,m,s,l⟩=>bif k==2 then (bif s==[] then ⟨k,0,atL n.regs m,nXs n l⟩ else ⟨k,0,[],nXs n l⟩) else ⟨k,m,s,nXs n l⟩
def nXs (n:Namer):List TExpr→List TExpr
 |[]=>[]
 |x::l=>nX n x::nXs n l
end
theorem zasx (n:Namer):∀ l,nXs n l=l.map (nX n)
 |[]=>by rw[nXs]; rfl
 |x::l=>by rw[nXs,zasx n l]; rfl
theorem nX_eq (n:Namer) (x:TExpr):nX n x=bif x.kind==2 then (bif x.name==[] then ⟨x.kind,0,atL n.regs x.num,x.args.map (nX n)⟩ else ⟨x.kind,0,[],x.args.map (nX n)⟩) else ⟨x.kind,x.num,x.name,x.args.map (nX n)⟩:=by
 cases x; rw[nX,zasx]
def un4 (x:TExpr):Int×Int×List UInt8×List TExpr:=(x.kind,x.num,x.name,x.args)
theorem zawm (x:TExpr):TExpr.mk (un4 x).1 (un4 x).2.1 (un4 x).2.2.1 (un4 x).2.2.2=x:=by cases x; rfl
theorem zazn:∀ (k n:Nat) (nm:Namer) (x:TExpr),nE x≤k→k<n→k≤100000000→qaa_i n nm x=some (un4 (nX nm x)):=by
 intro k;induction k with
 |zero=>intro n nm x h; have:=nE_eq x; omega
 |succ k ih=>
  intro n nm x h hn hb;obtain ⟨n,rfl⟩:∃ q,n=q+1:=⟨n-1,by omega⟩;have hx:=nE_eq x;have hl:=zagu x.args
  have e8:∀ (a7 a8:Int) (a9:List UInt8) (a10 a11:Int) (a12:List UInt8),qaa_l8 (qaa_i n) x.args x.args.length 0 nm.cells nm.mutexes nm.threads nm.regs a7 a8 a9 a10 a11 a12 [] =
    some (a7,a8,a9,a10,a11,a12,x.args.map (nX nm)):=by
   intro a7 a8 a9 a10 a11 a12;rw[qaa_l8,zaaa]
   exact zaeg x.args (nX nm) (fun s => (a7, a8, a9, a10, a11, a12, s)) (fun m i s => qaa_i8 (qaa_i n) m x.args x.args.length i nm.cells nm.mutexes nm.threads nm.regs a7 a8 a9 a10 a11 a12 s)
    (fun m i s h0 h=>by
     simp only[qaa_i8,qaa_t8,decide_eq_false h,cond_false])
    (fun m i s y h0 h hy hm hs=>by
     have hy1:=zagr hm;simp only[qaa_i8,qaa_t8,decide_eq_true h,decide_eq_true h0,cond_true,hy,Option.bind_some,zabl];rw[show Namer.mk nm.cells nm.mutexes nm.threads nm.regs=nm from rfl,ih n nm y (by omega) (by omega) (by omega),Option.bind_some,i64_in (i+1) (by omega)];simp only[List.length_cons,List.length_nil,zawm];rw[decide_eq_true (by omega),cond_true])
    fuel (by unfold fuel; omega)
  show qaa_f (qaa_i n) nm x=_;unfold qaa_f;simp only[e8,zavz,Option.bind_some];rw[nX_eq];cases h2:x.kind==2 with
  |true=>
   cases h3:x.name==[] with
   |true=>rfl
   |false=>rfl
  |false=>rfl
theorem zazx (nm:Namer) (x:TExpr) (h:nE x≤100000000):qaa nm x=some (un4 (nX nm x)):=by
 rw[qaa,zaaa,zazn (nE x) fuel nm x (Nat.le_refl _) (by unfold fuel; omega) (by omega)]
def hasR (k:Int):Bool:=k==1||k==2||k==4
def needK (k:Int):Int:=bif k==2||k==3||k==4 then 1 else bif k==5||k==6 then 2 else bif k==7||k==8 then 3 else 0
theorem zaye (R:Namer→List TAct→Option (List TStmt)) (k:Int):qay R k=some (hasR k):=by
 rw[qay,zaaa];unfold qay_f hasR;cases k==1<;>cases k==2<;>cases k==4<;>rfl
theorem zazh (R:Namer→List TAct→Option (List TStmt)) (k:Int):qaz R k=some (needK k):=by
 rw[qaz,zaaa];unfold qaz_f needK;cases k==2<;>cases k==3<;>cases k==4<;>cases k==5<;>cases k==6<;>cases k==7<;>cases k==8<;>rfl
def stK (x:TAct):Int:=bif (!hasR x.kind&&x.reg != 0)||(needK x.kind==0&&x.obj != 0) then 0 else x.kind
def stR (n:Namer) (x:TAct):List UInt8:=bif hasR x.kind then atL n.regs x.reg else []
def stN (n:Namer) (x:TAct):List UInt8:=bif needK x.kind==1 then atL n.cells x.obj else bif needK x.kind==2 then atL n.mutexes x.obj else bif needK x.kind==3 then atL n.threads x.obj else []
mutual
def nSt (n:Namer):TAct→TStmt
 |⟨k,r,o,x,c,t,e⟩=>⟨stK ⟨k,r,o,x,c,t,e⟩,stR n ⟨k,r,o,x,c,t,e⟩,stN n ⟨k,r,o,x,c,t,e⟩,nX n x,c,nSts n t,nSts n e⟩
def nSts (n:Namer):List TAct→List TStmt
 |[]=>[]
 |x::l=>nSt n x::nSts n l
end
theorem zajg (n:Namer):∀ l,nSts n l=l.map (nSt n)
 |[]=>by rw[nSts]; rfl
 |x::l=>by rw[nSts,zajg n l]; rfl
theorem zaec (n:Namer) (x:TAct):nSt n x=⟨stK x,stR n x,stN n x,nX n x.expr,x.count,nSts n x.then_,nSts n x.else_⟩:=by
 cases x; rw[nSt]
theorem zazj:∀ (k n:Nat) (nm:Namer) (l:List TAct),nAs l≤k→k<n→k≤100000000→qab_i n nm l=some (nSts nm l):=by
 intro k;induction k with
 |zero=>
  intro n nm l h hn _;obtain ⟨n,rfl⟩:∃ q,n=q+1:=⟨n-1,by omega⟩;have hl:=zad4 l;obtain rfl:l=[]:=List.eq_nil_of_length_eq_zero (by omega);show qab_f (qab_i n) nm []=_;unfold qab_f;rw[qab_l3,zaaa,nSts];rfl
 |succ k ih=>
  intro n nm l h hn hb;obtain ⟨n,rfl⟩:∃ q,n=q+1:=⟨n-1,by omega⟩;have hl:=zad4 l;show qab_f (qab_i n) nm l=_;unfold qab_f;rw[qab_l3,zaaa,zajg]
  rw [zaeg l (nSt nm) (fun s => s) (fun m i s => qab_i3 (qab_i n) m l l.length i nm.cells nm.mutexes nm.threads nm.regs s)
   (fun m i s h0 h=>by
    simp only[qab_i3,qab_t3,decide_eq_false h,cond_false])
   (fun m i s y h0 h hy hm hs=>by
    have hy1:=zaku hm;have hy2:=nA_eq y;have hsz:∀ st:TStmt,decide ((s.length+[st].length)*152≤140737488355328∧s.length+[st].length≤9223372036854775807)=true:=by
     intro st;rw[List.length_cons,List.length_nil];exact decide_eq_true (by omega)
    simp only[qab_i3,qab_t3,decide_eq_true h,decide_eq_true h0,cond_true,hy,Option.bind_some,zabl];rw[show Namer.mk nm.cells nm.mutexes nm.threads nm.regs=nm from rfl,zazx nm y.expr (by omega),ih n nm y.then_ (by omega) (by omega) (by omega),ih n nm y.else_ (by omega) (by omega) (by omega),i64_in (i+1) (by omega)];simp only[Option.bind_some,zaye,zazh,zavz,hsz,cond_true,zawm];rw[zaec,stK,stR,stN];cases hr:hasR y.kind with
    |true=>
     simp only[cond_true,Bool.not_true,Bool.false_and,Bool.false_or];cases e1:needK y.kind==1 with
     |true=>
      have:needK y.kind=1:=by simpa using e1
      simp[this]
     |false=>
     cases e2:needK y.kind==2 with
     |true=>
      have:needK y.kind=2:=by simpa using e2
      simp[this]
     |false=>
     cases e3:needK y.kind==3 with
     |true=>
      have:needK y.kind=3:=by simpa using e3
      simp[this]
     |false=>
      have:needK y.kind=0:=by
       revert e1 e2 e3;unfold needK;cases (y.kind==2||y.kind==3||y.kind==4)<;>cases (y.kind==5||y.kind==6)<;>cases (y.kind==7||y.kind==8)<;>simp
      simp only[this,cond_false];cases y.obj != 0<;>rfl
    |false=>
     simp only[cond_false,Bool.not_false,Bool.true_and];cases hg:y.reg != 0 with
     |true=>
      simp only[cond_true,Bool.true_or];cases e1:needK y.kind==1 with
      |true=>
       have:needK y.kind=1:=by simpa using e1
       simp[this]
      |false=>
      cases e2:needK y.kind==2 with
      |true=>
       have:needK y.kind=2:=by simpa using e2
       simp[this]
      |false=>
      cases e3:needK y.kind==3 with
      |true=>
       have:needK y.kind=3:=by simpa using e3
       simp[this]
      |false=>
       simp only[cond_false];cases y.obj != 0<;>rfl
     |false=>
      simp only[cond_false,Bool.false_or];cases e1:needK y.kind==1 with
      |true=>
       have:needK y.kind=1:=by simpa using e1
       simp[this]
      |false=>
      cases e2:needK y.kind==2 with
      |true=>
       have:needK y.kind=2:=by simpa using e2
       simp[this]
      |false=>
      cases e3:needK y.kind==3 with
      |true=>
       have:needK y.kind=3:=by simpa using e3
       simp[this]
      |false=>
       have:needK y.kind=0:=by
        revert e1 e2 e3;unfold needK;cases (y.kind==2||y.kind==3||y.kind==4)<;>cases (y.kind==5||y.kind==6)<;>cases (y.kind==7||y.kind==8)<;>simp
       simp only[this,cond_false];cases y.obj != 0<;>rfl)
   fuel (by unfold fuel; omega)]
  rfl
theorem zayy (nm:Namer) (l:List TAct) (h:nAs l≤100000000):qab nm l=some (nSts nm l):=by
 rw[qab,zaaa,zazj (nAs l) fuel nm l (Nat.le_refl _) (by unfold fuel; omega) (by omega)]
end Lift.A9
namespace Lift.A9
open Go Go.RowKit Lift Go.IntWalk Lift.Fn Lift.A3
set_option linter.unusedVariables false
set_option linter.unusedSimpArgs false
theorem zata:isNm []=false:=by
 unfold isNm;rw[qbD,zaaa];unfold qbD_f;have h:=lexOf [] [] [] (by decide) (by decide +kernel) (by decide +kernel) (by decide +kernel);rw[h];rfl
def xs (n:Nat):List (List UInt8):=List.replicate n [120]
theorem zav0 (n i:Nat) (h:i<n):(xs n)[i]? = some [120]:=by
 unfold xs;rw[List.getElem?_replicate,if_pos h]
theorem nm_at (n:Nat) (i:Int):isNm (atL (xs n) i)=(decide (0≤i)&&decide (i<n)):=by
 unfold atL;have hl:(xs n).length=n:=by simp[xs]
 rw[hl];cases h:(decide (0≤i)&&decide (i<(n:Int))) with
 |false=>rw[cond_false,zata]
 |true=>
  simp only[Bool.and_eq_true,decide_eq_true_eq] at h;rw[cond_true,zav0 n i.toNat (by omega),Option.getD_some,nm_x]
def nmU (u:TUnit) (r:Int):Namer:=⟨xs u.cells.length,xs u.mutexes.toNat,xs u.threads.length,xs r.toNat⟩
theorem zafj (n:Namer) (x:TExpr):(nX n x).kind=x.kind:=by
 rw[nX_eq];cases x.kind==2<;>cases x.name==[]<;>rfl
theorem zae8 (n:Namer) (x:TExpr):(nX n x).args=x.args.map (nX n):=by
 rw[nX_eq];cases x.kind==2<;>cases x.name==[]<;>rfl
theorem zan1 (n:Namer) (x:TExpr):none_ (nX n x)=none_ x:=by
 unfold none_;cases h:x.kind==2 with
 |true=>
  have e:x.kind=2:=eq_of_beq h;rw[zafj,e];rfl
 |false=>
  rw[nX_eq,h,cond_false];simp only[List.length_map]
theorem zag3 (n:Namer) (x:TExpr):zaak (nX n x)=zaak x:=by
 unfold zaak;rw[zafj,zae8,List.length_map]
theorem zaqi (u:TUnit) (r:Int) (x:TExpr):xOk (nX (nmU u r) x) =
  bif x.kind==1 then ((decide (x.num≥0)&&decide (x.num≤2147483647))&&x.name==[])&&((x.args.length:Int)==0)
  else bif x.kind==2 then ((decide (x.num≥0)&&decide (x.num<r))&&x.name==[])&&((x.args.length:Int)==0)
  else xOk x:=by
 cases h2:x.kind==2 with
 |true=>
  have e:x.kind=2:=eq_of_beq h2;have h1:(x.kind==1)=false:=by rw[e]; rfl
  have h3:(TExpr.kind (nX (nmU u r) x)==1)=false:=by rw[zafj]; exact h1
  have h4:(TExpr.kind (nX (nmU u r) x)==2)=true:=by rw[zafj]; exact h2
  unfold xOk;rw[h3,h4,h1,cond_false,cond_true,cond_false,cond_true,zae8,List.length_map,nX_eq,h2,cond_true];cases hn:x.name==[] with
  |true=>
   rw[cond_true];show ((isNm (atL (xs r.toNat) x.num)&&(0:Int)==0)&&_)=_;rw[nm_at];have:(decide (0≤x.num)&&decide (x.num<((r.toNat:Nat):Int)))=(decide (x.num≥0)&&decide (x.num<r)):=by
    rw[Bool.eq_iff_iff];simp only[Bool.and_eq_true,decide_eq_true_eq];omega
   rw[this];rfl
  |false=>
   rw[cond_false];show ((isNm []&&(0:Int)==0)&&_)=_;rw[zata];simp
 |false=>
  rw[nX_eq,h2,cond_false,cond_false];unfold xOk;simp only[List.length_map,h2,cond_false];cases x.kind==1<;>rfl
theorem may1 (u:TUnit):∀ (k n:Nat) (x:TExpr) (r:Int),nE x≤k→k<n→k≤100000000→qa7_i n x r=some (eF (nX (nmU u r) x)):=by
 intro k;induction k with
 |zero=>intro n x r h; have:=nE_eq x; omega
 |succ k ih=>
  intro n x r h hn hb;obtain ⟨n,rfl⟩:∃ q,n=q+1:=⟨n-1,by omega⟩;have hx:=nE_eq x;have hl:=zagu x.args
  have hL := zal6 (fun a => eF (nX (nmU u r) a)) x.args () (fun m i => qa7_i13 (qa7_i n) m r i x.kind x.num x.name x.args)
    (fun m i h0 h=>by
     simp only[qa7_i13,qa7_t13,decide_eq_false h,cond_false])
    (fun m i a h0 h ha ma=>by
     have:=zagr ma;simp only[qa7_i13,qa7_t13,decide_eq_true h,decide_eq_true h0,cond_true,ha,Option.bind_some];rw[ih n a r (by omega) (by omega) (by omega),Option.bind_some,i64_in (i+1) (by omega)];cases eF (nX (nmU u r) a)<;>rfl)
    fuel (by unfold fuel; omega)
  have e13:qa7_l13 (qa7_i n) r 0 x.kind x.num x.name x.args=some (bif x.args.all (fun a=>eF (nX (nmU u r) a)) then .inr () else .inl false):=by
   rw[qa7_l13,zaaa];exact hL
  have em:∀ b:Bool,(match (bif b then Sum.inr () else Sum.inl false:Bool⊕Unit) with|.inl y=>some y|.inr _=>some true)=some b:=by intro b; cases b<;>rfl
  show qa7_f (qa7_i n) x r=_;unfold qa7_f;rw[eF_eq,zaqi,zae8,List.all_map];have hall:(x.args.all (eF∘nX (nmU u r)))=x.args.all (fun a=>eF (nX (nmU u r) a)):=rfl;rw[hall];have nil:∀ {b:Bool},(b&&((x.args.length:Int)==0))=((b&&((x.args.length:Int)==0))&&x.args.all (fun a=>eF (nX (nmU u r) a))):=by
   intro b;cases he:((x.args.length:Int)==0) with
   |false=>simp
   |true=>
    have:x.args=[]:=List.eq_nil_of_length_eq_zero (by have:=eq_of_beq he; omega);rw[this];simp
  cases h1:x.kind==1 with
  |true=>
   simp only[zaa1,Option.bind_some,cand,cor,cond_true];rw[← nil]
  |false=>
  cases h2:x.kind==2 with
  |true=>
   simp only[zaa1,Option.bind_some,cand,cor,cond_true,cond_false];rw[← nil]
  |false=>
  have n1:x.kind≠1:=by simpa using h1
  have n2:x.kind≠2:=by simpa using h2
  have hk:(decide (x.kind<1)||decide (x.kind>17))=!(decide (x.kind≥3)&&decide (x.kind≤17)):=by
   rw[Bool.eq_iff_iff];simp only[Bool.or_eq_true,Bool.not_eq_true',Bool.and_eq_false_iff,decide_eq_true_eq,decide_eq_false_iff_not];omega
  simp only[zaa1,Option.bind_some,cand,cor,cond_false,e13,em,bne,xOk,h1,h2];simp only[hk];cases h3:x.kind==3 with
  |true=>
   simp only[cond_true,Bool.true_or];cases (decide (x.kind≥3)&&decide (x.kind≤17))<;>cases (x.num==0)<;>cases (x.name==[])<;>cases ((x.args.length:Int)==1)<;>simp<;>cases (x.args.all fun a=>eF (nX (nmU u r) a))<;>rfl
  |false=>
  cases h4:x.kind==4 with
  |true=>
   simp only[cond_true,cond_false,Bool.or_true];cases (decide (x.kind≥3)&&decide (x.kind≤17))<;>cases (x.num==0)<;>cases (x.name==[])<;>cases ((x.args.length:Int)==1)<;>simp<;>cases (x.args.all fun a=>eF (nX (nmU u r) a))<;>rfl
  |false=>
   simp only[cond_false,Bool.or_false];cases (decide (x.kind≥3)&&decide (x.kind≤17))<;>cases (x.num==0)<;>cases (x.name==[])<;>cases ((x.args.length:Int)==2)<;>simp<;>cases (x.args.all fun a=>eF (nX (nmU u r) a))<;>rfl
theorem mayX (u:TUnit) (r:Int) (x:TExpr) (h:nE x≤100000000):qa7 x r=some (eF (nX (nmU u r) x)):=by
 rw[qa7,zaaa,may1 u (nE x) fuel x r (Nat.le_refl _) (by unfold fuel; omega) (by omega)]
def thN (u:TUnit) (k:Int):Int:=bif k==2||k==3||k==4 then (u.cells.length:Int) else bif k==5||k==6 then u.mutexes else (u.threads.length:Int)
theorem zayv (u:TUnit) (k:Int):qa8 k u=some (thN u k):=by
 rw[qa8,zaaa];unfold qa8_f thN;cases k==2<;>cases k==3<;>cases k==4<;>cases k==5<;>cases k==6<;>rfl
theorem zacr {k:Int} (h:inR k=true):k=1∨k=2∨k=3∨k=4∨k=5∨k=6∨k=7∨k=8∨k=9∨k=10∨k=11:=by
 unfold inR at h;simp only[Bool.not_eq_true',Bool.or_eq_false_iff,decide_eq_false_iff_not] at h;omega
theorem zakw {k:Int} (h:inR k=true):(shp k).reg=hasR k:=by
 rcases zacr h with rfl|rfl|rfl|rfl|rfl|rfl|rfl|rfl|rfl|rfl|rfl<;>decide
theorem zal5 {k:Int} (h:inR k=true):(shp k).name=(needK k != 0):=by
 rcases zacr h with rfl|rfl|rfl|rfl|rfl|rfl|rfl|rfl|rfl|rfl|rfl<;>decide
theorem zaqe (u:TUnit) (r:Int) (x:TAct) (h:(!hasR x.kind&&x.reg != 0)=false) (hk:inR x.kind=true) :
  isOpt (stR (nmU u r) x) (shp x.kind).reg=(((shp x.kind).reg&&!(decide (x.reg<0)||decide (x.reg≥r)))||(!(shp x.kind).reg&&x.reg==0)):=by
 rw[zakw hk];unfold isOpt stR;cases hr:hasR x.kind with
 |true=>
  simp only[cond_true,Bool.true_and,Bool.not_true,Bool.false_and,Bool.or_false];show isNm (atL (xs r.toNat) x.reg)=_;rw[nm_at,Bool.eq_iff_iff];simp only[Bool.and_eq_true,decide_eq_true_eq,Bool.not_eq_true',Bool.or_eq_false_iff,decide_eq_false_iff_not];omega
 |false=>
  rw[hr] at h;simp only[Bool.not_false,Bool.true_and,bne,Bool.not_eq_false'] at h;simp[h]
theorem zavc (u:TUnit) (r:Int) (x:TAct) (h:(needK x.kind==0&&x.obj != 0)=false) (hk:inR x.kind=true) :
  isOpt (stN (nmU u r) x) (shp x.kind).name=(((shp x.kind).name&&!(decide (x.obj<0)||decide (x.obj≥thN u x.kind)))||(!(shp x.kind).name&&x.obj==0)):=by
 rw[zal5 hk];have key:∀ (n:Nat) (m:Int),(∀ i:Int,0≤i→(i<(n:Int)↔i<m))→isNm (atL (xs n) x.obj)=!(decide (x.obj<0)||decide (x.obj≥m)):=by
  intro n m hm;rw[nm_at,Bool.eq_iff_iff];simp only[Bool.and_eq_true,decide_eq_true_eq,Bool.not_eq_true',Bool.or_eq_false_iff,decide_eq_false_iff_not];constructor
  ·rintro ⟨a,b⟩; have:=(hm x.obj a).1 b; omega
  ·rintro ⟨a,b⟩; have h0:0≤x.obj:=by omega
   exact ⟨h0,(hm x.obj h0).2 (by omega)⟩
 unfold isOpt stN thN;cases e1:(x.kind==2||x.kind==3||x.kind==4) with
 |true=>
  have en:needK x.kind=1:=by unfold needK; rw[e1]; rfl
  rw[en];simp only[cond_true];show (true&&isNm (atL (xs u.cells.length) x.obj)||_)=_;rw[key _ (u.cells.length:Int) (fun i _=>Iff.rfl)];simp
 |false=>
 cases e2:(x.kind==5||x.kind==6) with
 |true=>
  have en:needK x.kind=2:=by unfold needK; rw[e1,e2]; rfl
  rw[en];simp only[cond_true,cond_false];show (true&&isNm (atL (xs u.mutexes.toNat) x.obj)||_)=_;rw[key _ u.mutexes (fun i _=>by omega)];simp
 |false=>
 cases e3:(x.kind==7||x.kind==8) with
 |true=>
  have en:needK x.kind=3:=by unfold needK; rw[e1,e2,e3]; rfl
  rw[en];simp only[cond_true,cond_false];show (true&&isNm (atL (xs u.threads.length) x.obj)||_)=_;rw[key _ (u.threads.length:Int) (fun i _=>Iff.rfl)];simp
 |false=>
  have en:needK x.kind=0:=by unfold needK; rw[e1,e2,e3]; rfl
  rw[en] at h ⊢;simp only[bne,beq_self_eq_true,Bool.true_and,Bool.not_eq_false'] at h;simp[h]
theorem zazw (R:List TAct→Int→TUnit→Option Bool) (u:TUnit) (r:Int) (x:TAct) (hx:nE x.expr≤100000000) (ht:R x.then_ r u=some (sFs (nSts (nmU u r) x.then_))) (ho:R x.else_ r u=some (sFs (nSts (nmU u r) x.else_))) :
  qa5 R x r u=some (sF (nSt (nmU u r) x)):=by
 rw[qa5,zaaa];unfold qa5_f;have hr:(bif decide (x.kind<1) then some true else some (decide (x.kind>11)))=some (!inR x.kind):=by
  rw[zaa1,cor,inR,Bool.not_not]
 rw[hr,Option.bind_some];have in0:inR 0=false:=by decide
 cases h:inR x.kind with
 |false=>
  have:sF (nSt (nmU u r) x)=false:=by
   rw[sF_eq,sOk,zaec];have hk:inR (stK x)=false:=by
    unfold stK;cases ((!hasR x.kind&&x.reg != 0)||(needK x.kind==0&&x.obj != 0)) with
    |true=>exact in0
    |false=>exact h
   simp only[hk,Bool.false_and]
  rw[this];rfl
 |true=>
  simp only[Bool.not_true,cond_false];rw[zayr _ h,zabl,mayX u r _ hx,none1,show TUnit.mk u.cells u.mutexes u.threads=u from rfl,zayv,ht,ho];simp only[zaa1,Option.bind_some,cand,cor,sFld];have pre:∀ (rg nm ex b1 c1 b2 c2 g1 g2:Bool),((((((rg&&b1)||(!rg&&!c1))||(nm&&b2))||(!nm&&!c2))||(ex&&!g1))||(!ex&&!g2))=!((((rg&&!b1)||(!rg&&c1))&&((nm&&!b2)||(!nm&&c2)))&&((ex&&g1)||(!ex&&g2))):=by decide
  simp only[bne];rw[pre,bB];have hs:sF (nSt (nmU u r) x)=(bif !((((((shp x.kind).reg&&!(decide (x.reg<0)||decide (x.reg≥r)))||(!(shp x.kind).reg&&x.reg==0)))&&(((shp x.kind).name&&!(decide (x.obj<0)||decide (x.obj≥thN u x.kind)))||(!(shp x.kind).name&&x.obj==0)))&&(((shp x.kind).expr&&eF (nX (nmU u r) x.expr))||(!(shp x.kind).expr&&none_ x.expr))) then false else bif !(((!(((shp x.kind).count&&(decide (x.count<0)||decide (x.count>1000)))||(!(shp x.kind).count&&x.count != 0)))&&((shp x.kind).then_||!decide ((x.then_.length:Int)>0)))&&((shp x.kind).other||!decide ((x.else_.length:Int)>0))) then false else (sFs (nSts (nmU u r) x.then_)&&sFs (nSts (nmU u r) x.else_))):=by
   cases hb:((!hasR x.kind&&x.reg != 0)||(needK x.kind==0&&x.obj != 0)) with
   |true=>
    have hk:stK x=0:=by unfold stK; rw[hb]; rfl
    rw[sF_eq,sOk,zaec];simp only[hk,in0,Bool.false_and];have:((((shp x.kind).reg&&!(decide (x.reg<0)||decide (x.reg≥r)))||(!(shp x.kind).reg&&x.reg==0))&&(((shp x.kind).name&&!(decide (x.obj<0)||decide (x.obj≥thN u x.kind)))||(!(shp x.kind).name&&x.obj==0)))=false:=by
     rw[zakw h,zal5 h];rw[Bool.or_eq_true] at hb;simp only[bne] at hb ⊢;rcases hb with hb|hb
     ·rw[Bool.and_eq_true] at hb;obtain ⟨h1,h2⟩:=hb;have h1':hasR x.kind=false:=by simpa using h1
      have h2':(x.reg==0)=false:=by simpa using h2
      rw[h1',h2'];simp
     ·rw[Bool.and_eq_true] at hb;obtain ⟨h1,h2⟩:=hb;have h2':(x.obj==0)=false:=by simpa using h2
      rw[h1,h2'];simp
    rw[this];rfl
   |false=>
    have hk:stK x=x.kind:=by unfold stK; rw[hb]; rfl
    rw[Bool.or_eq_false_iff] at hb;have len:∀ n:Nat,((n:Int)==0)=!decide ((n:Int)>0):=by
     intro n;rw[Bool.eq_iff_iff];simp only[Bool.not_eq_true',decide_eq_false_iff_not,beq_iff_eq];omega
    rw[← zaqe u r x hb.1 h,← zavc u r x hb.2 h,sF_eq,sOk,zaec];simp only[hk,h,cntEq,zajg,List.length_map,len];have hh:=zazv (nX (nmU u r) x.expr) (shp x.kind).expr;rw[zan1,zafj,zag3] at hh;rw[zan1,zafj,zag3];have:=bC true (isOpt (stR (nmU u r) x) (shp x.kind).reg) (isOpt (stN (nmU u r) x) (shp x.kind).name) _ _ (!(((shp x.kind).count&&(decide (x.count<0)||decide (x.count>1000)))||(!(shp x.kind).count&&x.count != 0))) ((shp x.kind).then_||!decide ((x.then_.length:Int)>0)) ((shp x.kind).other||!decide ((x.else_.length:Int)>0)) _ (sFs (List.map (nSt (nmU u r)) x.then_)) (sFs (List.map (nSt (nmU u r)) x.else_)) hh;simp only[Bool.true_and] at this ⊢;exact this
  rw[hs];rfl
end Lift.A9
namespace Lift.A9
open Go Go.RowKit Lift Go.IntWalk Lift.Fn Lift.A3
set_option linter.unusedVariables false
set_option linter.unusedSimpArgs false
theorem zay1 (u:TUnit):∀ (k n:Nat) (l:List TAct) (r:Int),nAs l≤k→k<n→k≤100000000→qa6_i n l r u=some (sFs (nSts (nmU u r) l)):=by
 have em:∀ b:Bool,(match (bif b then Sum.inr () else Sum.inl false:Bool⊕Unit) with|.inl y=>some y|.inr _=>some true)=some b:=by intro b; cases b<;>rfl
 intro k;induction k with
 |zero=>
  intro n l r h hn _;obtain ⟨n,rfl⟩:∃ q,n=q+1:=⟨n-1,by omega⟩;have hl:=zad4 l;obtain rfl:l=[]:=List.eq_nil_of_length_eq_zero (by omega);show qa6_f (qa6_i n) [] r u=_;unfold qa6_f;rw[qa6_l2,zaaa,nSts,sFs];rfl
 |succ k ih=>
  intro n l r h hn hb;obtain ⟨n,rfl⟩:∃ q,n=q+1:=⟨n-1,by omega⟩;have hl:=zad4 l;show qa6_f (qa6_i n) l r u=_;unfold qa6_f
  have hL := zal6 (fun a => sF (nSt (nmU u r) a)) l () (fun m i => qa6_i2 (qa6_i n) m l r i u.cells u.mutexes u.threads)
    (fun m i h0 h=>by
     simp only[qa6_i2,qa6_t2,decide_eq_false h,cond_false])
    (fun m i a h0 h ha ma=>by
     have h5:=zaku ma;have h6:=nA_eq a;simp only[qa6_i2,qa6_t2,decide_eq_true h,decide_eq_true h0,cond_true,ha,Option.bind_some];rw[show TUnit.mk u.cells u.mutexes u.threads=u from rfl,zazw _ u r a (by omega) (ih n a.then_ r (by omega) (by omega) (by omega)) (ih n a.else_ r (by omega) (by omega) (by omega)),Option.bind_some,i64_in (i+1) (by omega)];cases sF (nSt (nmU u r) a)<;>rfl)
    fuel (by unfold fuel; omega)
  rw[qa6_l2,zaaa,hL,Option.bind_some,zasu,zajg,List.all_map];exact em _
theorem zauc (u:TUnit) (l:List TAct) (r:Int) (h:nAs l≤100000000):qa6 l r u=some (sFs (nSts (nmU u r) l)):=by
 rw[qa6,zaaa,zay1 u (nAs l) fuel l r (Nat.le_refl _) (by unfold fuel; omega) (by omega)]
mutual
def plA:TAct→TStmt
 |⟨k,_,_,x,_,t,o⟩=>⟨k,[],[],x,0,plAs t,plAs o⟩
def plAs:List TAct→List TStmt
 |[]=>[]
 |x::l=>plA x::plAs l
end
theorem zaq1:∀ l,plAs l=l.map plA
 |[]=>by rw[plAs]; rfl
 |x::l=>by rw[plAs,zaq1 l]; rfl
theorem zav7 (x:TAct):plA x=⟨x.kind,[],[],x.expr,0,plAs x.then_,plAs x.else_⟩:=by cases x; rw[plA]
theorem zaz3:∀ (k n:Nat) (l:List TAct),nAs l≤k→k<n→k≤100000000→qa3_i n l=some (plAs l):=by
 intro k;induction k with
 |zero=>
  intro n l h hn _;obtain ⟨n,rfl⟩:∃ q,n=q+1:=⟨n-1,by omega⟩;have hl:=zad4 l;obtain rfl:l=[]:=List.eq_nil_of_length_eq_zero (by omega);show qa3_f (qa3_i n) []=_;unfold qa3_f;rw[qa3_l3,zaaa,plAs];rfl
 |succ k ih=>
  intro n l h hn hb;obtain ⟨n,rfl⟩:∃ q,n=q+1:=⟨n-1,by omega⟩;have hl:=zad4 l;show qa3_f (qa3_i n) l=_;unfold qa3_f;rw[qa3_l3,zaaa,zaq1]
  rw [zaeg l plA (fun s => s) (fun m i s => qa3_i3 (qa3_i n) m l i s)
   (fun m i s h0 h=>by
    simp only[qa3_i3,qa3_t3,decide_eq_false h,cond_false])
   (fun m i s y h0 h hy hm hs=>by
    have hy1:=zaku hm;have hy2:=nA_eq y;have hsz:∀ st:TStmt,decide ((s.length+[st].length)*152≤140737488355328∧s.length+[st].length≤9223372036854775807)=true:=by
     intro st;rw[List.length_cons,List.length_nil];exact decide_eq_true (by omega)
    simp only[qa3_i3,qa3_t3,decide_eq_true h,decide_eq_true h0,cond_true,hy,Option.bind_some,zabl];rw[ih n y.then_ (by omega) (by omega) (by omega),ih n y.else_ (by omega) (by omega) (by omega),i64_in (i+1) (by omega)];simp only[Option.bind_some,hsz,cond_true];rw[zav7])
   fuel (by unfold fuel; omega)]
  rfl
theorem zaz2 (l:List TAct) (h:nAs l≤100000000):qa3 l=some (plAs l):=by
 rw[qa3,zaaa,zaz3 (nAs l) fuel l (Nat.le_refl _) (by unfold fuel; omega) (by omega)]
mutual
theorem nE_nX (n:Namer):∀ x,nE (nX n x)=nE x
 |⟨k,m,s,l⟩=>by
  have h:=zauy n l;rw[nX];cases k==2<;>cases s==[]<;>simp[nE,h]
theorem zauy (n:Namer):∀ l,nEs (nXs n l)=nEs l
 |[]=>by rw[nXs]
 |x::l=>by rw[nXs,nEs,nEs,nE_nX n x,zauy n l]
end
mutual
theorem zav2 (n:Namer):∀ (x:TExpr) (d:Int),(evE (nX n x) d).map evD=(evE x d).map evD
 |⟨k,m,s,l⟩,d=>by
  have h:=zasv n l (d+1);rw[nX];cases k==2<;>cases s==[]<;>simp[evE,h,evD]
theorem zasv (n:Namer):∀ (l:List TExpr) (d:Int),(evEs (nXs n l) d).map evD=(evEs l d).map evD
 |[],d=>by rw[nXs]
 |x::l,d=>by rw[nXs,evEs,evEs,List.map_append,List.map_append,zav2 n x d,zasv n l d]
end
mutual
theorem zaz4 (n:Namer):∀ x,nS (nSt n x)=nA x
 |⟨k,r,o,x,c,t,e⟩=>by rw[nSt,nS,nA,nE_nX,zajc n t,zajc n e]
theorem zajc (n:Namer):∀ l,nSs (nSts n l)=nAs l
 |[]=>by rw[nSts,nSs,nAs]
 |x::l=>by rw[nSts,nSs,nAs,zaz4 n x,zajc n l]
end
mutual
theorem zazu:∀ x,nS (plA x)=nA x
 |⟨k,r,o,x,c,t,e⟩=>by rw[plA,nS,nA,zaja t,zaja e]
theorem zaja:∀ l,nSs (plAs l)=nAs l
 |[]=>by rw[plAs,nSs,nAs]
 |x::l=>by rw[plAs,nSs,nAs,zazu x,zaja l]
end
mutual
theorem zay8 (n:Namer):∀ (x:TAct) (d:Int),(evS (nSt n x) d).map evD=(evS (plA x) d).map evD
 |⟨k,r,o,x,c,t,e⟩,d=>by
  have h1:=zahb n t (d+1);have h2:=zahb n e (d+1);rw[nSt,plA,evS,evS,zag3];have h3:=zav2 n x 1;cases zaak x<;>simp[h1,h2,h3,evD]
theorem zahb (n:Namer):∀ (l:List TAct) (d:Int),(evSs (nSts n l) d).map evD=(evSs (plAs l) d).map evD
 |[],d=>by rw[nSts,plAs]
 |x::l,d=>by rw[nSts,plAs,evSs,evSs,List.map_append,List.map_append,zay8 n x d,zahb n l d]
end
theorem zao3 (l:List Ev) (s:Int):maxEv l s=(l.map evD).foldl (fun s d=>max s d) s:=by
 unfold maxEv;rw[List.foldl_map]
theorem zawo {a b:List Ev} (h:a.map evD=b.map evD) (s:Int):maxEv a s=maxEv b s:=by
 rw[zao3,zao3,h]
theorem zatc {a b:List Ev} (h:a.map evD=b.map evD):a.length=b.length:=by
 have:=congrArg List.length h;simpa using this
theorem zay6 (l:List (List UInt8)) (h:l.length≤100000000):qbk l=some l:=by
 rw[qbk,zaaa];unfold qbk_f;rw[decide_eq_true (by omega),cond_true,List.nil_append];cases l with
 |nil=>simp[zaom]
 |cons a l=>rfl
theorem zaz0 (l:List (List UInt8)):qbi l=some l:=by
 rw[qbi,zaaa];unfold qbi_f;simp
def zaa3 (u:TUnit) (n:Names):TProg:=
 ⟨(u.cells.zip n.cells).map fun z=>⟨z.2,z.1⟩,n.mutexes,(u.threads.zip (n.threads.zip n.regs)).map fun z=>⟨z.2.1,nSts ⟨n.cells,n.mutexes,n.threads,z.2.2⟩ z.1.acts⟩⟩
theorem zant {α β:Type} {l:List α} {m:List β} {i:Nat} {z:α×β} (h:(l.zip m)[i]? = some z):l[i]? = some z.1∧m[i]? = some z.2:=by
 rw[List.getElem?_zip_eq_some] at h;exact h
theorem zaxf (u:TUnit) (n:Names) (h:nB u.threads≤100000000) (hc0:u.cells.length≤100000000) (hm:n.mutexes.length≤100000000) (hc:n.cells.length=u.cells.length) (ht:n.threads.length=u.threads.length) (hr:n.regs.length=u.threads.length) :
  qaA u n=some ((zaa3 u n).cells,(zaa3 u n).mutexes,(zaa3 u n).threads):=by
 rw[qaA,zaaa];unfold qaA_f;have hl:=zami u.threads;have hz:(u.cells.zip n.cells).length=u.cells.length:=by simp[hc]
 have hz2:(u.threads.zip (n.threads.zip n.regs)).length=u.threads.length:=by simp[ht,hr]
 have e3 := zaeg (u.cells.zip n.cells) (fun z => TCell.mk z.2 z.1) (fun s => (u.cells, u.mutexes, u.threads, n.cells, n.mutexes, n.threads, n.regs, s)) (fun m i s => qaA_i3 m u.cells u.cells.length i u.cells u.mutexes u.threads n.cells n.mutexes n.threads n.regs s)
  (fun m i s h0 h=>by
   rw[hz] at h;simp only[qaA_i3,qaA_t3,decide_eq_false h,cond_false])
  (fun m i s z h0 h hy hmz hs=>by
   rw[hz] at h hs;obtain ⟨g1,g2⟩:=zant hy;simp only[qaA_i3,qaA_t3,decide_eq_true h,decide_eq_true h0,cond_true,g1,g2,Option.bind_some,List.length_cons,List.length_nil];rw[decide_eq_true (by omega),cond_true,i64_in (i+1) (by omega)])
  fuel (by rw[hz]; unfold fuel; omega)
 have e9 := zaeg (u.threads.zip (n.threads.zip n.regs)) (fun z => TThread.mk z.2.1 (nSts ⟨n.cells, n.mutexes, n.threads, z.2.2⟩ z.1.acts)) (fun s => ((zaa3 u n).cells, n.mutexes, s)) (fun m i s => qaA_i9 m u.threads u.threads.length i n.cells n.mutexes n.threads n.regs (zaa3 u n).cells n.mutexes s)
  (fun m i s h0 h=>by
   rw[hz2] at h;simp only[qaA_i9,qaA_t9,decide_eq_false h,cond_false])
  (fun m i s z h0 h hy hmz hs=>by
   rw[hz2] at h hs;obtain ⟨g1,g2⟩:=zant hy;obtain ⟨g3,g4⟩:=zant g2;have hb:=zam8 (List.mem_of_getElem? g1);simp only[qaA_i9,qaA_t9,decide_eq_true h,decide_eq_true h0,cond_true,g1,g3,g4,Option.bind_some];rw[zayy _ z.1.acts (by omega),Option.bind_some];simp only[List.length_cons,List.length_nil];rw[decide_eq_true (by omega),cond_true,i64_in (i+1) (by omega)])
  fuel (by rw[hz2]; unfold fuel; omega)
 rw[qaA_l3,zaaa,e3,Option.bind_some];simp only;rw[zay6 n.mutexes hm,Option.bind_some,zaz0,Option.bind_some,qaA_l9,zaaa];show Option.bind (qaA_i9 fuel u.threads u.threads.length 0 n.cells n.mutexes n.threads n.regs (zaa3 u n).cells n.mutexes []) _=_;rw[e9];rfl
theorem some1 (n:Int) (h:n≤100000000):qaB n=some (xs n.toNat):=by
 rw[qaB,zaaa];unfold qaB_f
 have e := zaeg (List.range n.toNat) (fun _ => ([120] : List UInt8)) (fun s => s) (fun m i s => qaB_i3 m n i s)
  (fun m i s h0 h=>by
   have:¬ i<n:=by simp only[List.length_range] at h; omega
   simp only[qaB_i3,qaB_t3,decide_eq_false this,cond_false])
  (fun m i s z h0 h hy hmz hs=>by
   simp only[List.length_range] at h hs;have:i<n:=by omega
   simp only[qaB_i3,qaB_t3,decide_eq_true this,cond_true];rw[decide_eq_true (by omega),cond_true,i64_in (i+1) (by omega)])
  fuel (by simp only[List.length_range]; unfold fuel; omega)
 rw[qaB_l3,zaaa,e,Option.bind_some,xs,List.map_const',List.length_range]
theorem zaof {α β τ:Type} (l:List α) (ok:α→Bool) (g:α→β) (fin:List β→τ) (L:Nat→Int→List β→Option (Bool⊕τ))
  (h0:∀ n i s,0≤i→¬ i<(l.length:Int)→L (n+1) i s=some (.inr (fin s)))
  (h1:∀ n i s x,0≤i→i<(l.length:Int)→l[i.toNat]? = some x→x∈l→s.length<l.length→L (n+1) i s=bif ok x then L n (i+1) (s++[g x]) else some (.inl false))
  (n:Nat) (hn:l.length<n):L n 0 []=some (bif l.all ok then .inr (fin (l.map g)) else .inl false):=by
 have := zac6 (σ := List β) l (fun r s => s.length + r.length = l.length) (fun r s => (bif r.all ok then .inr (fin (s ++ r.map g)) else .inl false : Bool ⊕ τ)) L
  (fun m i s h h' _=>by rw[h0 m i s h h',List.map_nil,List.append_nil]; rfl)
  (fun m i s x r h h' hx hm hI=>by
   have hI':s.length+(x::r).length=l.length:=hI;simp only[List.length_cons] at hI';have h2:=h1 m i s x h h' hx hm (by omega);cases hk:ok x with
   |true=>
    rw[hk,cond_true] at h2;exact Or.inl ⟨s++[g x],(by show (s++[g x]).length+r.length=l.length; simp only[List.length_append,List.length_cons,List.length_nil]; omega),h2,by simp[hk]⟩
   |false=>
    rw[hk,cond_false] at h2;exact Or.inr (by rw[h2,List.all_cons,hk]; rfl))
  n [] hn (by simp)
 rw[this];rfl
def zabj (t:TBody):Bool:=decide (t.regs<0)||decide (t.regs>8)
def zac2 (u:TUnit):Bool:=((decide ((u.threads.length:Int)<1)||decide ((u.threads.length:Int)>8))||decide ((u.cells.length:Int)>8))||decide (u.mutexes<0)||decide (u.mutexes>8)
def nmsU (u:TUnit):Names:=⟨xs u.cells.length,xs u.mutexes.toNat,xs u.threads.length,u.threads.map fun t=>xs t.regs.toNat⟩
noncomputable def zac3 (u:TUnit):Bool:=bif zac2 u then false else bif u.threads.all (fun t=>!zabj t) then zagw (zaa3 u (nmsU u))==0 else false
theorem zayt:∀ (u:TUnit) (n:Names),n.threads.length=u.threads.length→n.regs.length=u.threads.length→nT (zaa3 u n).threads=nB u.threads:=by
 intro u n h1 h2;show nT ((u.threads.zip (n.threads.zip n.regs)).map fun z=>TThread.mk z.2.1 (nSts ⟨n.cells,n.mutexes,n.threads,z.2.2⟩ z.1.acts))=_;have key:∀ (l:List TBody) (m:List ((List UInt8)×List (List UInt8))),m.length=l.length→nT ((l.zip m).map fun z=>TThread.mk z.2.1 (nSts ⟨n.cells,n.mutexes,n.threads,z.2.2⟩ z.1.acts))=nB l:=by
  intro l;induction l with
  |nil=>intro m _; rfl
  |cons a l ih=>
   intro m hm;cases m with
   |nil=>cases hm
   |cons b m=>
    simp only[List.zip_cons_cons,List.map_cons,nT,nB,zajc];rw[ih m (by simpa using hm)]
 exact key _ _ (by simp[h1,h2])
theorem zatn (u:TUnit) (h:nB u.threads≤100000000) (hc:u.cells.length≤100000000):qaw u=some (zac3 u):=by
 rw[qaw,zaaa];unfold qaw_f zac3;have hl:=zami u.threads;simp only[zaa1,Option.bind_some,cor];have hbad:(((decide ((u.threads.length:Int)<1)||decide ((u.threads.length:Int)>8))||decide ((u.cells.length:Int)>8))||decide (u.mutexes<0)||decide (u.mutexes>8))=zac2 u:=rfl;rw[hbad];cases hu:zac2 u with
 |true=>rfl
 |false=>
  simp only[cond_false];unfold zac2 at hu;simp only[Bool.or_eq_false_iff,decide_eq_false_iff_not] at hu;obtain ⟨⟨⟨⟨u1,u2⟩,u3⟩,u4⟩,u5⟩:=hu;rw[some1 _ (by omega),some1 _ (by omega),some1 _ (by omega)];simp only[Option.bind_some,Int.toNat_natCast]
  have e5 := zaof u.threads (fun t => !zabj t) (fun t => xs t.regs.toNat) (fun s => (u.cells, u.mutexes, u.threads, xs u.cells.length, xs u.mutexes.toNat, xs u.threads.length, s)) (fun m i s => qaw_i5 m u.threads u.threads.length i u.cells u.mutexes u.threads (xs u.cells.length) (xs u.mutexes.toNat) (xs u.threads.length) s)
   (fun m i s h0 h=>by
    simp only[qaw_i5,qaw_t5,decide_eq_false h,cond_false])
   (fun m i s y h0 h hy hm hs=>by
    simp only[qaw_i5,qaw_t5,decide_eq_true h,decide_eq_true h0,cond_true,hy,Option.bind_some,zaa1,cor];have:(decide (y.regs<0)||decide (y.regs>8))=zabj y:=rfl;rw[this];cases hb:zabj y with
    |true=>rfl
    |false=>
     unfold zabj at hb;simp only[Bool.or_eq_false_iff,decide_eq_false_iff_not] at hb;simp only[cond_false,Bool.not_false,cond_true];rw[some1 _ (by omega),Option.bind_some];simp only[List.length_cons,List.length_nil];rw[decide_eq_true (by omega),cond_true,i64_in (i+1) (by omega)])
   fuel (by unfold fuel; omega)
  rw[qaw_l5,zaaa,e5];cases ha:u.threads.all (fun t=>!zabj t) with
  |false=>rfl
  |true=>
   simp only[cond_true,Option.bind_some];have hx:∀ n,(xs n).length=n:=by intro n; simp[xs]
   rw[show TUnit.mk u.cells u.mutexes u.threads=u from rfl,zaxf u _ h hc (by simp only[hx]; omega) (by simp only[hx]) (by simp only[hx]) (by simp)];simp only[Option.bind_some];have ht:=zayt u (nmsU u) (by simp[nmsU,hx]) (by simp[nmsU]);rw[zaio,zav4 _ (by show nT (zaa3 u (nmsU u)).threads≤_; rw[ht]; exact h) (by simp[zaa3,hx]; omega) (by show (xs u.mutexes.toNat).length≤_; rw[hx]; omega)];rfl
theorem zavk (u:TUnit) (h:nB u.threads≤100000000) (hc:u.cells.length≤100000000):qa4 u=some (zac3 u):=by
 rw[qa4,zaaa];unfold qa4_f zac3;have hl:=zami u.threads;simp only[zaa1,Option.bind_some,cor];have hbad:(((decide ((u.threads.length:Int)<1)||decide ((u.threads.length:Int)>8))||decide ((u.cells.length:Int)>8))||decide (u.mutexes<0)||decide (u.mutexes>8))=zac2 u:=rfl;rw[hbad];cases hu:zac2 u with
 |true=>rfl
 |false=>
  simp only[cond_false]
  have e4 := zal6 (fun c : Int => !(decide (c < -2147483647) || decide (c > 2147483647))) u.cells (u.cells, u.mutexes, u.threads) (fun m i => qa4_i4 m i u.cells u.mutexes u.threads)
   (fun m i h0 h=>by simp only[qa4_i4,qa4_t4,decide_eq_false h,cond_false])
   (fun m i y h0 h hy hm=>by
    simp only[qa4_i4,qa4_t4,decide_eq_true h,decide_eq_true h0,hy,Option.bind_some,cond_true,zaa1,cor];rw[i64_in (i+1) (by omega)];cases (decide (y < -2147483647)||decide (y>2147483647))<;>rfl)
   fuel (by unfold fuel; omega)
  have e10 := zaof u.threads (fun t => !(zabj t || !sFs (nSts (nmU u t.regs) t.acts))) (fun t => TThread.mk [] (plAs t.acts)) (fun s => s) (fun m i s => qa4_i10 m i u.cells u.mutexes u.threads s)
   (fun m i s h0 h=>by
    simp only[qa4_i10,qa4_t10,decide_eq_false h,cond_false])
   (fun m i s y h0 h hy hm hs=>by
    have hb:=zam8 hm;simp only[qa4_i10,qa4_t10,decide_eq_true h,decide_eq_true h0,cond_true,hy,Option.bind_some];rw[show TUnit.mk u.cells u.mutexes u.threads=u from rfl,zauc u y.acts y.regs (by omega),Option.bind_some,zaz2 y.acts (by omega)];simp only[zaa1,cor,Option.bind_some];have:(decide (y.regs<0)||decide (y.regs>8))=zabj y:=rfl;rw[this,decide_eq_true (by simp only[List.length_cons,List.length_nil]; omega),i64_in (i+1) (by omega)];cases (zabj y||!sFs (nSts (nmU u y.regs) y.acts))<;>rfl)
   fuel (by unfold fuel; omega)
  rw[qa4_l4,zaaa,e4,qa4_l10,zaaa]
  -- what the program has in its place
  have hx:∀ n,(xs n).length=n:=by intro n; simp[xs]
  have hcells:(zaa3 u (nmsU u)).cells.all cOk=u.cells.all (fun c=>!(decide (c < -2147483647)||decide (c>2147483647))):=by
   show ((u.cells.zip (xs u.cells.length)).map fun z=>TCell.mk z.2 z.1).all cOk=_;have key:∀ l:List Int,((l.zip (xs l.length)).map fun z=>TCell.mk z.2 z.1).all cOk=l.all (fun c=>!(decide (c < -2147483647)||decide (c>2147483647))):=by
    intro l;induction l with
    |nil=>rfl
    |cons a l ih=>
     have e:xs (a::l).length=[120]::xs l.length:=by simp[xs,List.replicate_succ]
     rw[e];simp only[List.zip_cons_cons,List.map_cons,List.all_cons,ih];congr 1;unfold cOk;simp only[nm_x,Bool.true_and];rw[Bool.eq_iff_iff];simp only[Bool.and_eq_true,decide_eq_true_eq,Bool.not_eq_true',Bool.or_eq_false_iff,decide_eq_false_iff_not];omega
   exact key u.cells
  have hmut:(zaa3 u (nmsU u)).mutexes.all isNm=true:=by
   show (xs u.mutexes.toNat).all isNm=true;rw[List.all_eq_true];intro x hx;rw[xs,List.mem_replicate] at hx;rw[hx.2,nm_x]
  have hthr:(zaa3 u (nmsU u)).threads=u.threads.map fun t=>TThread.mk [120] (nSts (nmU u t.regs) t.acts):=by
   show ((u.threads.zip ((xs u.threads.length).zip (u.threads.map fun t=>xs t.regs.toNat))).map fun z=>TThread.mk z.2.1 (nSts ⟨xs u.cells.length,xs u.mutexes.toNat,xs u.threads.length,z.2.2⟩ z.1.acts))=_;have key:∀ l:List TBody,((l.zip ((xs l.length).zip (l.map fun t=>xs t.regs.toNat))).map fun z=>TThread.mk z.2.1 (nSts ⟨xs u.cells.length,xs u.mutexes.toNat,xs u.threads.length,z.2.2⟩ z.1.acts))=l.map fun t=>TThread.mk [120] (nSts (nmU u t.regs) t.acts):=by
    intro l;induction l with
    |nil=>rfl
    |cons a l ih=>
     have e:xs (a::l).length=[120]::xs l.length:=by simp[xs,List.replicate_succ]
     rw[e];simp only[List.map_cons,List.zip_cons_cons,ih];rfl
   exact key u.threads
  have hform:pOk (zaa3 u (nmsU u))=(u.cells.all (fun c=>!(decide (c < -2147483647)||decide (c>2147483647)))&&u.threads.all (fun t=>sFs (nSts (nmU u t.regs) t.acts))):=by
   unfold pOk;rw[hcells,hmut,hthr,List.all_map,Bool.true_and];congr 2;funext t;show (isNm [120]&&_)=_;rw[nm_x];rfl
  have hev:(evP (zaa3 u (nmsU u))).map evD=(evP (TProg.mk [] [] (u.threads.map fun t=>TThread.mk [] (plAs t.acts)))).map evD:=by
   unfold evP;rw[hthr];simp only[List.flatMap_map,List.map_flatMap];congr 1;funext t;exact zahb _ _ _
  have hnT:nT (u.threads.map fun t=>TThread.mk [] (plAs t.acts))≤100000000:=by
   have key:∀ l:List TBody,nT (l.map fun t=>TThread.mk [] (plAs t.acts))=nB l:=by
    intro l;induction l with
    |nil=>rfl
    |cons a l ih=>simp only[List.map_cons,nT,nB,zaja,ih]
   rw[key];exact h
  have hcount:(cT (zaa3 u (nmsU u)).threads:Int)=(cT (u.threads.map fun t=>TThread.mk [] (plAs t.acts)):Int):=by
   rw[← lenP,← lenP];exact congrArg _ (zatc hev)
  unfold zagw;rw[hform,zawo hev,hcount];cases hc4:u.cells.all (fun c=>!(decide (c < -2147483647)||decide (c>2147483647))) with
  |false=>
   simp only[cond_false,Bool.false_and,Bool.not_false,cond_true,Option.bind_some];cases u.threads.all (fun t=>!zabj t)<;>rfl
  |true=>
   simp only[cond_true,Option.bind_some,Bool.true_and];rw[e10];have hsplit:(u.threads.all fun t=>!(zabj t||!sFs (nSts (nmU u t.regs) t.acts)))=((u.threads.all fun t=>!zabj t)&&u.threads.all fun t=>sFs (nSts (nmU u t.regs) t.acts)):=by
    rw[← zaka];congr 1;funext t;cases zabj t<;>cases sFs (nSts (nmU u t.regs) t.acts)<;>rfl
   rw[hsplit];cases (u.threads.all fun t=>!zabj t) with
   |false=>rfl
   |true=>
    cases (u.threads.all fun t=>sFs (nSts (nmU u t.regs) t.acts)) with
    |false=>rfl
    |true=>
     simp only[cond_true,Option.bind_some,Bool.true_and,Bool.not_true,cond_false];rw[zax6 _ (Nat.le_trans hnT (by omega)),zaw3 _ (Nat.le_trans hnT (by omega))];simp only[Option.bind_some,zaa1,cand];cases hd:decide (maxEv (evP (TProg.mk [] [] (u.threads.map fun t=>TThread.mk [] (plAs t.acts)))) 0>16) with
     |true=>
      have:decide (maxEv (evP (TProg.mk [] [] (u.threads.map fun t=>TThread.mk [] (plAs t.acts)))) 0≤16)=false:=by
       rw[decide_eq_true_eq] at hd; exact decide_eq_false (by omega)
      rw[this];rfl
     |false=>
      have:decide (maxEv (evP (TProg.mk [] [] (u.threads.map fun t=>TThread.mk [] (plAs t.acts)))) 0≤16)=true:=by
       rw[decide_eq_false_iff_not] at hd; exact decide_eq_true (by omega)
      rw[this];simp only[Bool.true_and,cond_false];cases hn:decide (((cT (u.threads.map fun t=>TThread.mk [] (plAs t.acts)):Nat):Int)>500) with
      |true=>
       have:decide (((cT (u.threads.map fun t=>TThread.mk [] (plAs t.acts)):Nat):Int)≤500)=false:=by
        rw[decide_eq_true_eq] at hn; exact decide_eq_false (by omega)
       rw[this];rfl
      |false=>
       have:decide (((cT (u.threads.map fun t=>TThread.mk [] (plAs t.acts)):Nat):Int)≤500)=true:=by
        rw[decide_eq_false_iff_not] at hn; exact decide_eq_true (by omega)
       rw[this];rfl
end Lift.A9
namespace Lift.A9
open Go Go.RowKit Lift Go.IntWalk Lift.Fn Lift.A3
set_option linter.unusedVariables false
set_option linter.unusedSimpArgs false
def usesS (op:Int):Bool×Bool×Bool:=
 bif op==1||op==19||op==20||op==21||op==28 then (true,false,false)
 else bif op==2||op==3||op==4 then (true,true,false)
 else bif op==22 then (false,true,false)
 else bif op==23 then (true,false,true)
 else (decide (5≤op)&&decide (op≤17),decide (5≤op)&&decide (op≤17),decide (5≤op)&&decide (op≤17))
def um (i:Instr) (m:Int):Int:=
 let m1:=bif (usesS i.op).1 then max m (i.a+1) else m
 let m2:=bif (usesS i.op).2.1 then max m1 (i.b+1) else m1
 bif (usesS i.op).2.2 then max m2 (i.c+1) else m2
def fm (l:List Instr) (m:Int):Int:=l.foldl (fun m i=>um i m) m
theorem zacc (a b:List Instr) (m:Int):fm (a++b) m=fm b (fm a m):=by unfold fm; rw[List.foldl_append]
theorem zaa6 (m:Int):fm [] m=m:=rfl
theorem zaay (x:Instr) (l:List Instr) (m:Int):fm (x::l) m=fm l (um x m):=rfl
def xC (k:Int):TExpr→List Instr
 |⟨kd,m,s,[]⟩=>bif kd==1 then [⟨1,k,m,0⟩] else bif kd==2 then [⟨2,k,m,0⟩] else []
 |⟨kd,m,s,[a]⟩=>xC k a++[⟨kd,k,k,0⟩]
 |⟨kd,m,s,a::b::_⟩=>xC k a++(xC (k+1) b++[⟨kd,k,k,k+1⟩])
termination_by x=>sizeOf x
decreasing_by all_goals simp_wf<;>omega
mutual
def wX:TExpr→Bool
 |⟨k,m,_,l⟩=>((k==1&&l.isEmpty)||((k==2&&l.isEmpty&&decide (0≤m)&&decide (m≤8))||(((k==3||k==4)&&decide (l.length=1))||(decide (5≤k)&&decide (k≤17)&&decide (l.length=2)))))&&wXs l
def wXs:List TExpr→Bool
 |[]=>true
 |x::l=>wX x&&wXs l
end
theorem zai3 {x:TExpr} (h:wX x=true):(x.kind=1∧x.args=[])∨(x.kind=2∧x.args=[]∧0≤x.num∧x.num≤8)∨((x.kind=3∨x.kind=4)∧∃ a,x.args=[a]∧wX a=true)∨(5≤x.kind∧x.kind≤17∧∃ a b,x.args=[a,b]∧wX a=true∧wX b=true):=by
 obtain ⟨k,m,s,l⟩:=x;rw[wX] at h;simp only[Bool.and_eq_true,Bool.or_eq_true,beq_iff_eq,decide_eq_true_eq,List.isEmpty_iff] at h;obtain ⟨h,hw⟩:=h;rcases h with ⟨h1,h2⟩|⟨⟨⟨h1,h2⟩,h3⟩,h4⟩|⟨h1,h2⟩|⟨⟨h1,h2⟩,h3⟩
 ·exact .inl ⟨h1,h2⟩
 ·exact .inr (.inl ⟨h1,h2,h3,h4⟩)
 ·obtain ⟨a,rfl⟩:∃ a,l=[a]:=List.length_eq_one_iff.1 h2;simp only[wXs,Bool.and_true] at hw;exact .inr (.inr (.inl ⟨h1,a,rfl,hw⟩))
 ·obtain ⟨a,b,rfl⟩:∃ a b,l=[a,b]:=by
   match l,h3 with
   |[a,b],_=>exact ⟨a,b,rfl⟩
  simp only[wXs,Bool.and_true,Bool.and_eq_true] at hw;exact .inr (.inr (.inr ⟨h1,h2,a,b,rfl,hw.1,hw.2⟩))
theorem xC_1 (k:Int) (x:TExpr) (h:x.kind=1) (ha:x.args=[]):xC k x=[⟨1,k,x.num,0⟩]:=by
 obtain ⟨kd,m,s,l⟩:=x;subst ha;subst h;rw[xC]; rfl
theorem xC_2 (k:Int) (x:TExpr) (h:x.kind=2) (ha:x.args=[]):xC k x=[⟨2,k,x.num,0⟩]:=by
 obtain ⟨kd,m,s,l⟩:=x;subst ha;subst h;rw[xC]; rfl
theorem xC_un (k:Int) (x a:TExpr) (ha:x.args=[a]):xC k x=xC k a++[⟨x.kind,k,k,0⟩]:=by
 obtain ⟨kd,m,s,l⟩:=x;subst ha;rw[xC]
theorem zane (k:Int) (x a b:TExpr) (ha:x.args=[a,b]):xC k x=xC k a++(xC (k+1) b++[⟨x.kind,k,k,k+1⟩]):=by
 obtain ⟨kd,m,s,l⟩:=x;subst ha;rw[xC]
theorem nE_un {x a:TExpr} (ha:x.args=[a]):nE x=1+nE a:=by rw[nE_eq,ha]; simp[nEs]
theorem zam4 {x a b:TExpr} (ha:x.args=[a,b]):nE x=1+(nE a+nE b):=by rw[nE_eq,ha]; simp[nEs]
theorem zazq:∀ (n:Nat) (x:TExpr) (k:Int),nE x≤n→wX x=true→(xC k x).length=nE x:=by
 intro n;induction n with
 |zero=>intro x k h; have:=nE_eq x; omega
 |succ n ih=>
  intro x k h hw;rcases zai3 hw with ⟨h1,h2⟩|⟨h1,h2,h3,h4⟩|⟨h1,a,ha,hwa⟩|⟨h1,h2,a,b,ha,hwa,hwb⟩
  ·rw[xC_1 k x h1 h2,nE_eq,h2]; rfl
  ·rw[xC_2 k x h1 h2,nE_eq,h2]; rfl
  ·have:=nE_un ha;rw[xC_un k x a ha,List.length_append,ih a k (by omega) hwa,this];simp; omega
  ·have:=zam4 ha;rw[zane k x a b ha,List.length_append,List.length_append,ih a k (by omega) hwa,ih b _ (by omega) hwb,this];simp; omega
theorem zaf0 (x:TExpr) (k:Int) (hw:wX x=true):(xC k x).length=nE x:=zazq (nE x) x k (Nat.le_refl _) hw
theorem putC1 (x:Instr) (rs:List Int) (r m:Int) (l:List Instr) (hl:l.length≤1000000000000) (hr:rs.length≤100) (hb:∀ y∈rs,-1000000000000≤y∧y≤1000000000000) :
  qaR x rs r m l=some ((l.length:Int),r,rs.foldl (fun m y=>max m (y+1)) m,l++[x]):=by
 rw[qaR,zaaa];unfold qaR_f
 have e := loop_fold rs (fun y m => some (max m (y + 1))) (fun n i (s : Int) => (qaR_i2 n rs rs.length i r s x.op x.a x.b x.c l).map fun z => z.2.1)
  (fun n i s h0 h=>by
   simp only[qaR_i2,qaR_t2,decide_eq_false h,cond_false,Option.map_some])
  (fun n i s y h0 h hy=>by
   have hb':=hb y (List.mem_of_getElem? hy);simp only[qaR_i2,qaR_t2,decide_eq_true h,decide_eq_true h0,cond_true,hy,Option.bind_some];rw[i64_in (i+1) (by omega),i64_in (y+1) (by omega),zags])
  rs.length fuel 0 m (by omega) (by simp) (by unfold fuel; omega)
 have e2:∀ n i s,qaR_i2 n rs rs.length i r s x.op x.a x.b x.c l=((qaR_i2 n rs rs.length i r s x.op x.a x.b x.c l).map fun z=>z.2.1).map fun s=>(r,s,x.op,x.a,x.b,x.c,l):=by
  intro n;induction n with
  |zero=>intro i s; rfl
  |succ n ih=>
   intro i s;simp only[qaR_i2,qaR_t2];cases decide (i<(rs.length:Int)) with
   |false=>rfl
   |true=>
    simp only[cond_true];cases decide (0≤i) with
    |false=>rfl
    |true=>
     simp only[cond_true];cases rs[i.toNat]? with
     |none=>rfl
     |some y=>simp only[Option.bind_some]; exact ih _ _
 have hfold:rs.foldlM (fun (s:Int) (y:Int)=>some (max s (y+1))) m=some (rs.foldl (fun m y=>max m (y+1)) m):=zart (fun m y=>max m (y+1)) _ rs m (fun _ _ _=>rfl);have e3:qaR_i2 fuel rs rs.length 0 r m x.op x.a x.b x.c l=some (r,rs.foldl (fun m y=>max m (y+1)) m,x.op,x.a,x.b,x.c,l):=by
  rw[e2];have:((qaR_i2 fuel rs rs.length 0 r m x.op x.a x.b x.c l).map fun z=>z.2.1)=some (rs.foldl (fun m y=>max m (y+1)) m):=by
   rw[← hfold];exact e
  rw[this];rfl
 rw[qaR_l2,zaaa,e3];simp only[Option.bind_some,List.length_append,List.length_cons,List.length_nil];rw[decide_eq_true (by omega),cond_true,i64_in _ (by omega)];congr 2;omega
theorem zaqw (m k:Int):max (max m k) k=max m k:=by omega
theorem into1:∀ (q n:Nat) (x:TExpr) (k r m:Int) (l:List Instr),nE x≤q→q<n→q≤100000000→wX x=true→0≤k→k+q≤100000000000→l.length+nE x≤100000000000 →
  qaQ_i n k x r m l=some (r,fm (xC k x) m,l++xC k x):=by
 intro q;induction q with
 |zero=>intro n x k r m l h; have:=nE_eq x; omega
 |succ q ih=>
  intro n x k r m l h hn hq hw hk hkq hl;obtain ⟨n,rfl⟩:∃ z,n=z+1:=⟨n-1,by omega⟩;show qaQ_f (qaQ_i n) k x r m l=_;unfold qaQ_f;rcases zai3 hw with ⟨h1,h2⟩|⟨h1,h2,h3,h4⟩|⟨h1,a,ha,hwa⟩|⟨h1,h2,a,b,ha,hwa,hwb⟩
  ·rw[xC_1 k x h1 h2,h1];simp only[BEq.rfl,cond_true];rw[putC1 _ _ _ _ _ (by omega) (by simp) (by simp; omega)];rfl
  ·rw[xC_2 k x h1 h2,h1];have:((2:Int)==1)=false:=rfl;simp only[this,cond_false,BEq.rfl,cond_true];rw[putC1 _ _ _ _ _ (by omega) (by simp) (by simp; omega)];rfl
  ·have hne:=nE_un ha;have k1:(x.kind==1)=false:=by rw[beq_eq_false_iff_ne]; omega
   have k2:(x.kind==2)=false:=by rw[beq_eq_false_iff_ne]; omega
   have hlen:=zaf0 a k hwa;rw[xC_un k x a ha,k1,k2,ha];simp only[cond_false,List.getElem?_cons_zero,Option.bind_some];rw[ih n a k r m l (by omega) (by omega) (by omega) hwa hk (by omega) (by omega)];have l1:((([a]:List TExpr).length:Int)==1)=true:=rfl;simp only[Option.bind_some,l1,cond_true];rw[i64_in (x.kind-3) (by omega),i64_in _ (by omega),putC1 _ _ _ _ _ (by rw[List.length_append,hlen]; omega) (by simp) (by simp; omega)];have hu:um ⟨x.kind,k,k,0⟩ (fm (xC k a) m)=max (fm (xC k a) m) (k+1):=by
    rcases h1 with h1|h1<;>rw[h1]<;>simp[um,usesS,zaqw]
   rw[zacc,zaay,zaa6,hu,show x.kind-3+3=x.kind by omega];simp
  ·have hne:=zam4 ha;have k1:(x.kind==1)=false:=by rw[beq_eq_false_iff_ne]; omega
   have k2:(x.kind==2)=false:=by rw[beq_eq_false_iff_ne]; omega
   have hlen:=zaf0 a k hwa;have hlen2:=zaf0 b (k+1) hwb;have na:=nE_eq a;have nb:=nE_eq b;rw[zane k x a b ha,k1,k2,ha];simp only[cond_false,List.getElem?_cons_zero,List.getElem?_cons_succ,Option.bind_some];rw[ih n a k r m l (by omega) (by omega) (by omega) hwa hk (by omega) (by omega)];have l1:((([a,b]:List TExpr).length:Int)==1)=false:=rfl;simp only[Option.bind_some,l1,cond_false];rw[i64_in (k+1) (by omega),ih n b (k+1) r _ _ (by omega) (by omega) (by omega) hwb (by omega) (by omega) (by rw[List.length_append,hlen]; omega)];simp only[Option.bind_some];rw[i64_in (x.kind-3) (by omega),i64_in _ (by omega),putC1 _ _ _ _ _ (by rw[List.length_append,List.length_append,hlen,hlen2]; omega) (by simp) (by simp; omega)];have hu:∀ z,um ⟨x.kind,k,k,k+1⟩ z=max (max z (k+1)) (k+1+1):=by
    intro z;have hu5:usesS x.kind=(true,true,true):=by
     unfold usesS;have e1:(x.kind==1||x.kind==19||x.kind==20||x.kind==21||x.kind==28)=false:=by
      simp only[Bool.or_eq_false_iff,beq_eq_false_iff_ne]; omega
     have e2:(x.kind==2||x.kind==3||x.kind==4)=false:=by
      simp only[Bool.or_eq_false_iff,beq_eq_false_iff_ne]; omega
     have e3:(x.kind==22)=false:=by rw[beq_eq_false_iff_ne]; omega
     have e4:(x.kind==23)=false:=by rw[beq_eq_false_iff_ne]; omega
     rw[e1,e2,e3,e4,decide_eq_true h1,decide_eq_true h2];rfl
    simp only[um,hu5,cond_true,zaqw]
   rw[zacc,zacc,zaay,zaa6,hu,show x.kind-3+3=x.kind by omega];simp
theorem intoX (x:TExpr) (k r m:Int) (l:List Instr) (h:nE x≤100000000) (hw:wX x=true) (hk:0≤k) (hk2:k≤10000000000) (hl:l.length≤10000000000) :
  qaQ k x r m l=some (r,fm (xC k x) m,l++xC k x):=by
 rw[qaQ,zaaa,into1 (nE x) fuel x k r m l (Nat.le_refl _) (by unfold fuel; omega) h hw hk (by omega) (by omega)]
end Lift.A9
namespace Lift.A9
open Go Go.RowKit Lift Go.IntWalk Lift.Fn Lift.A3
set_option linter.unusedVariables false
set_option linter.unusedSimpArgs false
mutual
def aC (r d:Int) (p:Nat):TAct→List Instr
 |⟨k,rg,ob,x,c,t,e⟩=>
  let X:=bif x.kind==0 then [] else xC (r+d) x
  X++(bif k==1 then [⟨2,rg,r+d,0⟩] else bif k==2 then [⟨21,rg,ob,0⟩] else bif k==3 then [⟨22,ob,r+d,0⟩] else bif k==4 then [⟨23,rg,ob,r+d⟩]
   else bif k==9 then [⟨28,r+d,0,0⟩]
   else bif k==10 then
    (bif e.isEmpty then ⟨19,r+d,((p+X.length+1+(aCs r d (p+X.length+1) t).length:Nat):Int),0⟩::aCs r d (p+X.length+1) t
    else ⟨19,r+d,((p+X.length+1+(aCs r d (p+X.length+1) t).length+1:Nat):Int),0⟩::(aCs r d (p+X.length+1) t ++
     ⟨18,((p+X.length+1+(aCs r d (p+X.length+1) t).length+1+(aCs r d (p+X.length+1+(aCs r d (p+X.length+1) t).length+1) e).length:Nat):Int),0,0⟩::aCs r d (p+X.length+1+(aCs r d (p+X.length+1) t).length+1) e))
   else bif k==11 then (bif c==0 then [] else ⟨1,r+d,c,0⟩::(aCs r (d+1) (p+X.length+1) t++[⟨20,r+d,((p+X.length+1:Nat):Int),0⟩]))
   else [⟨k+19,ob,0,0⟩])
def aCs (r d:Int) (p:Nat):List TAct→List Instr
 |[]=>[]
 |x::l=>aC r d p x++aCs r d (p+(aC r d p x).length) l
end
mutual
def wA:TAct→Bool
 |⟨k,rg,_,x,c,t,e⟩=>inR k&&((x.kind==0||wX x)&&(decide (0≤rg)&&(decide (rg≤8)&&(decide (0≤c)&&(decide (c≤1000)&&(wAs t&&wAs e))))))
def wAs:List TAct→Bool
 |[]=>true
 |x::l=>wA x&&wAs l
end
theorem wA_eq (x:TAct):wA x=(inR x.kind&&((x.expr.kind==0||wX x.expr)&&(decide (0≤x.reg)&&(decide (x.reg≤8)&&(decide (0≤x.count)&&(decide (x.count≤1000)&&(wAs x.then_&&wAs x.else_))))))):=by cases x; rw[wA]
theorem zav9:∀ {l:List TAct} {x:TAct},wAs l=true→x∈l→wA x=true
 |y::l,x,h,hm=>by
  rw[wAs,Bool.and_eq_true] at h;cases hm with
  |head=>exact h.1
  |tail _ hm=>exact zav9 h.2 hm
def eC (k:Int) (x:TExpr):List Instr:=bif x.kind==0 then [] else xC k x
theorem zavq (k:Int) (x:TExpr) (h:(x.kind==0||wX x)=true):(eC k x).length≤nE x:=by
 unfold eC;cases h0:x.kind==0 with
 |true=>exact Nat.zero_le _
 |false=>
  rw[h0,Bool.false_or] at h;rw[cond_false,zaf0 x k h];exact Nat.le_refl _
mutual
theorem zaqz (r:Int):∀ (x:TAct) (d:Int) (p:Nat),wA x=true→(aC r d p x).length≤2*nA x
 |⟨k,rg,ob,x,c,t,e⟩,d,p,h=>by
  rw[wA_eq] at h;simp only[Bool.and_eq_true] at h;obtain ⟨_,hx,_,_,_,_,ht,he⟩:=h;have hX:=zavq (r+d) x hx;unfold eC at hX;have hnx:=nE_eq x;have h1:=zafg r t;have h2:=zafg r e;rw[aC,nA];simp only[List.length_append];cases k==1 with
  |true=>simp only[cond_true,List.length_cons,List.length_nil]; omega
  |false=>
  cases k==2 with
  |true=>simp only[cond_true,cond_false,List.length_cons,List.length_nil]; omega
  |false=>
  cases k==3 with
  |true=>simp only[cond_true,cond_false,List.length_cons,List.length_nil]; omega
  |false=>
  cases k==4 with
  |true=>simp only[cond_true,cond_false,List.length_cons,List.length_nil]; omega
  |false=>
  cases k==9 with
  |true=>simp only[cond_true,cond_false,List.length_cons,List.length_nil]; omega
  |false=>
  cases k==10 with
  |true=>
   simp only[cond_true,cond_false];cases e.isEmpty with
   |true=>
    simp only[cond_true,List.length_cons];have:=h1 d (p+(bif x.kind==0 then [] else xC (r+d) x).length+1) ht;omega
   |false=>
    simp only[cond_false,List.length_cons,List.length_append];have a1:=h1 d (p+(bif x.kind==0 then [] else xC (r+d) x).length+1) ht;have a2:=h2 d (p+(bif x.kind==0 then [] else xC (r+d) x).length+1+(aCs r d (p+(bif x.kind==0 then [] else xC (r+d) x).length+1) t).length+1) he;omega
  |false=>
  cases k==11 with
  |true=>
   simp only[cond_true,cond_false];cases c==0 with
   |true=>simp only[cond_true,List.length_nil]; omega
   |false=>
    simp only[cond_false,List.length_cons,List.length_append,List.length_nil];have:=h1 (d+1) (p+(bif x.kind==0 then [] else xC (r+d) x).length+1) ht;omega
  |false=>simp only[cond_false,List.length_cons,List.length_nil]; omega
theorem zafg (r:Int):∀ (l:List TAct) (d:Int) (p:Nat),wAs l=true→(aCs r d p l).length≤2*nAs l
 |[],d,p,_=>by rw[aCs]; exact Nat.zero_le _
 |x::l,d,p,h=>by
  rw[wAs,Bool.and_eq_true] at h;have h1:=zaqz r x d p h.1;have h2:=zafg r l d (p+(aC r d p x).length) h.2;rw[aCs,List.length_append,nAs];omega
end
def aTl (r d:Int) (p:Nat) (x:TAct):List Instr:=
 bif x.kind==1 then [⟨2,x.reg,r+d,0⟩] else bif x.kind==2 then [⟨21,x.reg,x.obj,0⟩] else bif x.kind==3 then [⟨22,x.obj,r+d,0⟩] else bif x.kind==4 then [⟨23,x.reg,x.obj,r+d⟩]
   else bif x.kind==9 then [⟨28,r+d,0,0⟩]
   else bif x.kind==10 then
    (bif x.else_.isEmpty then ⟨19,r+d,((p+1+(aCs r d (p+1) x.then_).length:Nat):Int),0⟩::aCs r d (p+1) x.then_
    else ⟨19,r+d,((p+1+(aCs r d (p+1) x.then_).length+1:Nat):Int),0⟩::(aCs r d (p+1) x.then_ ++
     ⟨18,((p+1+(aCs r d (p+1) x.then_).length+1+(aCs r d (p+1+(aCs r d (p+1) x.then_).length+1) x.else_).length:Nat):Int),0,0⟩::aCs r d (p+1+(aCs r d (p+1) x.then_).length+1) x.else_))
   else bif x.kind==11 then (bif x.count==0 then [] else ⟨1,r+d,x.count,0⟩::(aCs r (d+1) (p+1) x.then_++[⟨20,r+d,((p+1:Nat):Int),0⟩]))
   else [⟨x.kind+19,x.obj,0,0⟩]
theorem aC_eq (r d:Int) (p:Nat) (x:TAct):aC r d p x=eC (r+d) x.expr++aTl r d (p+(eC (r+d) x.expr).length) x:=by
 cases x;rw[aC];rfl
theorem zan4 {α:Type} (a b:List α) (x y:α) (i:Nat) (h:i=a.length):(a++x::b).set i y=a++y::b:=by
 subst h;induction a with
 |nil=>rfl
 |cons z a ih=>simp[ih]
theorem zan0 {α:Type} (a b:List α) (x:α) (i:Nat) (h:i=a.length):(a++x::b)[i]? = some x:=by
 subst h;simp
theorem act1 (R:List TAct→Int→Int→Int→List Instr→Option (Int×Int×List Instr)) (x:TAct) (d r m:Int) (code:List Instr) (q:Nat) (hq:nA x≤q+1) (hq2:q≤100000000) (hw:wA x=true)
  (hd:0≤d) (hd2:d≤1000000000) (hr:0≤r) (hr2:r≤8) (hc:code.length+2*nA x≤1000000000)
  (hR:∀ (l:List TAct) (d' m:Int) (code:List Instr),(l=x.then_∨l=x.else_)→(d'=d∨d'=d+1)→code.length+2*nAs l≤1000000000→R l d' r m code=some (r,fm (aCs r d' code.length l) m,code++aCs r d' code.length l)) :
  qaN R x d r m code=some (r,fm (aC r d code.length x) m,code++aC r d code.length x):=by
 have hw0:=hw;rw[wA_eq] at hw;simp only[Bool.and_eq_true,decide_eq_true_eq] at hw;obtain ⟨hk,hx,hg0,hg8,hc0,hc1000,ht,he⟩:=hw;have hn:=nA_eq x;have hX:=zavq (r+d) x.expr hx;have hlen:=zaqz r x d code.length hw0;rw[qaN,zaaa];unfold qaN_f;rw[zabl];rw[i64_in (r+d) (by omega)]
 -- the expression
 have hinto:∀ {α:Type} (f:Int×Int×List Instr→Option α) (g:Option α),(bif x.expr.kind != 0 then Option.bind (qaQ (r+d) x.expr r m code) f else g) =
   (bif x.expr.kind==0 then g else f (r,fm (eC (r+d) x.expr) m,code++eC (r+d) x.expr)):=by
  intro α f g;unfold eC;cases h0:x.expr.kind==0 with
  |true=>simp only[bne,h0,Bool.not_true,cond_false,cond_true]
  |false=>
   rw[h0,Bool.false_or] at hx;simp only[bne,h0,Bool.not_false,cond_true,cond_false];rw[intoX x.expr (r+d) r m code (by omega) hx (by omega) (by omega) (by omega),Option.bind_some]
 rw[hinto]
 -- the rest hangs on what was laid alone
 have hsame:∀ (F:Int→Int→List Instr→Option (Int×Int×List Instr)),(bif x.expr.kind==0 then F r m code else F r (fm (eC (r+d) x.expr) m) (code++eC (r+d) x.expr))=F r (fm (eC (r+d) x.expr) m) (code++eC (r+d) x.expr):=by
  intro F;unfold eC;cases x.expr.kind==0 with
  |true=>simp only[cond_true,List.append_nil,zaa6]
  |false=>rfl
 have hmk:TAct.mk x.kind x.reg x.obj x.expr x.count x.then_ x.else_=x:=by cases x; rfl
 have hput:∀ (i:Instr) (rs:List Int) (m:Int) (l:List Instr),l.length≤1000000000000→rs.length≤100→(∀ y∈rs,-1000000000000≤y∧y≤1000000000000)→qaR i rs r m l=some ((l.length:Int),r,rs.foldl (fun m y=>max m (y+1)) m,l++[i]):=
  fun i rs m l h1 h2 h3=>putC1 i rs r m l h1 h2 h3
 generalize hm1:fm (eC (r+d) x.expr) m=m1 at *;generalize hc1:code++eC (r+d) x.expr=code1 at *;have hcl:code1.length=code.length+(eC (r+d) x.expr).length:=by rw[← hc1,List.length_append]
 -- what is to be shown
 have goal:∀ (tail:List Instr),aC r d code.length x=eC (r+d) x.expr++tail→(some (r,fm tail m1,code1++tail):Option (Int×Int×List Instr))=some (r,fm (aC r d code.length x) m,code++aC r d code.length x):=by
  intro tail h;rw[h,zacc,hm1,← hc1,List.append_assoc]
 have hbr:∀ (m1:Int) (code1:List Instr),code1.length=code.length+(eC (r+d) x.expr).length→qaP R x d (r+d) r m1 code1=some (r,fm (bif x.else_.isEmpty then ⟨19,r+d,((code1.length+1+(aCs r d (code1.length+1) x.then_).length:Nat):Int),0⟩::aCs r d (code1.length+1) x.then_
    else ⟨19,r+d,((code1.length+1+(aCs r d (code1.length+1) x.then_).length+1:Nat):Int),0⟩::(aCs r d (code1.length+1) x.then_ ++
     ⟨18,((code1.length+1+(aCs r d (code1.length+1) x.then_).length+1+(aCs r d (code1.length+1+(aCs r d (code1.length+1) x.then_).length+1) x.else_).length:Nat):Int),0,0⟩::aCs r d (code1.length+1+(aCs r d (code1.length+1) x.then_).length+1) x.else_)) m1,
    code1++(bif x.else_.isEmpty then ⟨19,r+d,((code1.length+1+(aCs r d (code1.length+1) x.then_).length:Nat):Int),0⟩::aCs r d (code1.length+1) x.then_
    else ⟨19,r+d,((code1.length+1+(aCs r d (code1.length+1) x.then_).length+1:Nat):Int),0⟩::(aCs r d (code1.length+1) x.then_ ++
     ⟨18,((code1.length+1+(aCs r d (code1.length+1) x.then_).length+1+(aCs r d (code1.length+1+(aCs r d (code1.length+1) x.then_).length+1) x.else_).length:Nat):Int),0,0⟩::aCs r d (code1.length+1+(aCs r d (code1.length+1) x.then_).length+1) x.else_))):=by
  intro m1 code1 hcl;rw[qaP,zaaa];unfold qaP_f;rw[hput _ _ _ _ (by omega) (by simp) (by simp; omega)];simp only[Option.bind_some];have tl:=zafg r x.then_ d (code1.length+1) ht;have hl1:(code1++[(⟨19,r+d,0,0⟩:Instr)]).length=code1.length+1:=by simp
  rw[hR x.then_ d _ _ (.inl rfl) (.inl rfl) (by rw[hl1]; omega),hl1];simp only[Option.bind_some,List.foldl_cons,List.foldl_nil];generalize hT:aCs r d (code1.length+1) x.then_=T at *;have e0:(code1++[(⟨19,r+d,0,0⟩:Instr)]++T)=code1++(⟨19,r+d,0,0⟩:Instr)::T:=by simp
  have e0l:(code1++(⟨19,r+d,0,0⟩:Instr)::T).length=code1.length+1+T.length:=by simp; omega
  have hn0:∀ n:Nat,decide ((0:Int)≤(n:Int))=true:=fun n=>decide_eq_true (by omega)
  cases hel:x.else_.isEmpty with
  |true=>
   have hel':x.else_=[]:=by simpa using hel
   have:decide ((x.else_.length:Int)>0)=false:=by rw[hel']; rfl
   rw[this,cond_false,cond_true,e0];simp only[hn0,Bool.true_and,Int.toNat_natCast];rw[decide_eq_true (by rw[e0l]; omega),cond_true,zan0 _ _ _ _ rfl,Option.bind_some,zan4 _ _ _ _ _ rfl,e0l];rfl
  |false=>
   have hne:x.else_≠[]:=by intro h; rw[h] at hel; cases hel
   have hpos:0<x.else_.length:=List.length_pos_iff.2 hne;have:decide ((x.else_.length:Int)>0)=true:=decide_eq_true (by omega);rw[this,cond_true,cond_false,e0];rw[hput _ _ _ _ (by rw[e0l]; omega) (by simp) (by simp)];simp only[Option.bind_some,List.foldl_nil];have e1:(code1++(⟨19,r+d,0,0⟩:Instr)::T)++[(⟨18,0,0,0⟩:Instr)]=code1++(⟨19,r+d,0,0⟩:Instr)::(T++[⟨18,0,0,0⟩]):=by simp
   have e1l:(code1++(⟨19,r+d,0,0⟩:Instr)::(T++[⟨18,0,0,0⟩])).length=code1.length+1+T.length+1:=by simp; omega
   rw[e1];simp only[hn0,Bool.true_and,Int.toNat_natCast];rw[decide_eq_true (by rw[e1l]; omega),cond_true,zan0 _ _ _ _ rfl,Option.bind_some,zan4 _ _ _ _ _ rfl,e1l];have e2l:(code1++(⟨19,r+d,((code1.length+1+T.length+1:Nat):Int),0⟩:Instr)::(T++[⟨18,0,0,0⟩])).length=code1.length+1+T.length+1:=by simp; omega
   have el:=zafg r x.else_ d (code1.length+1+T.length+1) he;rw[hR x.else_ d _ _ (.inr rfl) (.inl rfl) (by rw[e2l]; omega),e2l];simp only[Option.bind_some];generalize hE:aCs r d (code1.length+1+T.length+1) x.else_=E at *;have e3:(code1++(⟨19,r+d,((code1.length+1+T.length+1:Nat):Int),0⟩:Instr)::(T++[⟨18,0,0,0⟩]))++E=(code1++(⟨19,r+d,((code1.length+1+T.length+1:Nat):Int),0⟩:Instr)::T)++⟨18,0,0,0⟩::E:=by simp
   have e3p:(code1++(⟨19,r+d,((code1.length+1+T.length+1:Nat):Int),0⟩:Instr)::T).length=code1.length+1+T.length:=by simp; omega
   have e3l:((code1++(⟨19,r+d,((code1.length+1+T.length+1:Nat):Int),0⟩:Instr)::T)++⟨18,0,0,0⟩::E).length=code1.length+1+T.length+1+E.length:=by rw[List.length_append,e3p]; simp; omega
   rw[e3,e0l];try simp only[hn0,Bool.true_and,Int.toNat_natCast]
   rw[decide_eq_true (by rw[e3l]; omega),cond_true,zan0 _ _ _ _ (by rw[e3p]),Option.bind_some,zan4 _ _ _ _ _ (by rw[e3p]),e3l];rw[Option.some.injEq,Prod.mk.injEq,Prod.mk.injEq];refine ⟨rfl,?_,?_⟩
   ·rw[zaay,zacc,zaay];rfl
   ·simp
 have hbr1:=hbr m1 code1 hcl
 -- by kinds
 have fin:∀ {o:Option (Int×Int×List Instr)},o=some (r,fm (aTl r d code1.length x) m1,code1++aTl r d code1.length x)→o=some (r,fm (aC r d code.length x) m,code++aC r d code.length x):=by
  intro o h;rw[h];refine goal _ ?_;rw[aC_eq,hcl]
 have hl12:code1.length≤1000000000000:=by omega
 have e10:∀ (o:Option (Int×Int×List Instr)),(Option.bind o fun y=>some (y.1,y.2.1,y.2.2))=o:=by intro o; cases o<;>rfl
 have hb1:∀ (m1:Int) (code1:List Instr),code1.length=code.length+(eC (r+d) x.expr).length→code1.length≤1000000000000→∀ (o:Option (Int×Int×List Instr)),
   o = (bif x.kind == 1 then (qaR ⟨2, x.reg, r + d, 0⟩ [x.reg, r + d] r m1 code1).bind fun y => some (y.2.1, y.2.2.1, y.2.2.2)
    else bif x.kind==2 then (qaR ⟨21,x.reg,x.obj,0⟩ [x.reg] r m1 code1).bind fun y=>some (y.2.1,y.2.2.1,y.2.2.2)
    else bif x.kind==3 then (qaR ⟨22,x.obj,r+d,0⟩ [r+d] r m1 code1).bind fun y=>some (y.2.1,y.2.2.1,y.2.2.2)
    else bif x.kind==4 then (qaR ⟨23,x.reg,x.obj,r+d⟩ [x.reg,r+d] r m1 code1).bind fun y=>some (y.2.1,y.2.2.1,y.2.2.2)
    else bif x.kind==9 then (qaR ⟨28,r+d,0,0⟩ [r+d] r m1 code1).bind fun y=>some (y.2.1,y.2.2.1,y.2.2.2)
    else bif x.kind==10 then qaP R x d (r+d) r m1 code1
    else bif x.kind==11 then (bif x.count==0 then some (r,m1,code1) else
     (qaR ⟨1,r+d,x.count,0⟩ [r+d] r m1 code1).bind fun y=>(R x.then_ (IntKind.wrap IntKind.i64 (d+1)) y.2.1 y.2.2.1 y.2.2.2).bind fun z=>
      (qaR ⟨20,r+d,IntKind.wrap IntKind.i64 (y.1+1),0⟩ [r+d] z.1 z.2.1 z.2.2).bind fun w=>some (w.2.1,w.2.2.1,w.2.2.2))
    else (qaR ⟨IntKind.wrap IntKind.i64 (IntKind.wrap IntKind.i64 (x.kind-5)+24),x.obj,0,0⟩ [] r m1 code1).bind fun y=>some (y.2.1,y.2.2.1,y.2.2.2)) →
   o=some (r,fm (aTl r d code1.length x) m1,code1++aTl r d code1.length x):=by
  intro m1 code1 hcl hl12 o ho;rw[ho,aTl];have hb:=hbr m1 code1 hcl;rcases zacr hk with h|h|h|h|h|h|h|h|h|h|h<;>rw[h]
  ·simp only[Int.reduceBEq,cond_true,cond_false];rw[hput _ _ _ _ hl12 (by simp) (by simp; omega)]; rfl
  ·simp only[Int.reduceBEq,cond_true,cond_false];rw[hput _ _ _ _ hl12 (by simp) (by simp; omega)]; rfl
  ·simp only[Int.reduceBEq,cond_true,cond_false];rw[hput _ _ _ _ hl12 (by simp) (by simp; omega)]; rfl
  ·simp only[Int.reduceBEq,cond_true,cond_false];rw[hput _ _ _ _ hl12 (by simp) (by simp; omega)]; rfl
  ·simp only[Int.reduceBEq,cond_true,cond_false];rw[i64_in (5-5) (by omega),i64_in (5-5+24) (by omega),hput _ _ _ _ hl12 (by simp) (by simp)]; rfl
  ·simp only[Int.reduceBEq,cond_true,cond_false];rw[i64_in (6-5) (by omega),i64_in (6-5+24) (by omega),hput _ _ _ _ hl12 (by simp) (by simp)]; rfl
  ·simp only[Int.reduceBEq,cond_true,cond_false];rw[i64_in (7-5) (by omega),i64_in (7-5+24) (by omega),hput _ _ _ _ hl12 (by simp) (by simp)]; rfl
  ·simp only[Int.reduceBEq,cond_true,cond_false];rw[i64_in (8-5) (by omega),i64_in (8-5+24) (by omega),hput _ _ _ _ hl12 (by simp) (by simp)]; rfl
  ·simp only[Int.reduceBEq,cond_true,cond_false];rw[hput _ _ _ _ hl12 (by simp) (by simp; omega)]; rfl
  ·simp only[Int.reduceBEq,cond_true,cond_false];exact hb
  ·simp only[Int.reduceBEq,cond_true,cond_false];cases hz:x.count==0 with
   |true=>simp only[cond_true,zaa6,List.append_nil]
   |false=>
    simp only[cond_false];have tl:=zafg r x.then_ (d+1) (code1.length+1) ht;have hl1:(code1++[(⟨1,r+d,x.count,0⟩:Instr)]).length=code1.length+1:=by simp
    rw[hput _ _ _ _ hl12 (by simp) (by simp; omega)];simp only[Option.bind_some];rw[i64_in (d+1) (by omega),hR x.then_ (d+1) _ _ (.inl rfl) (.inr rfl) (by rw[hl1]; omega),hl1];simp only[Option.bind_some];rw[i64_in _ (by omega),hput _ _ _ _ (by rw[List.length_append,hl1]; omega) (by simp) (by simp; omega)];simp only[Option.bind_some,List.foldl_cons,List.foldl_nil];rw[Option.some.injEq,Prod.mk.injEq,Prod.mk.injEq];refine ⟨rfl,?_,?_⟩
    ·rw[zaay,zacc,zaay,zaa6];rfl
    ·simp
 refine fin ?_;cases h0:x.expr.kind==0 with
 |true=>
  have he0:eC (r+d) x.expr=[]:=by unfold eC; rw[h0]; rfl
  rw[he0] at hm1 hc1;rw[zaa6] at hm1;rw[List.append_nil] at hc1;subst hm1;subst hc1;rw[cond_true];refine hb1 m code hcl hl12 _ ?_;simp only[hmk,e10];rcases zacr hk with h|h|h|h|h|h|h|h|h|h|h<;>rw[h]<;>simp only[Int.reduceBEq,cond_true,cond_false]
 |false=>
  rw[cond_false];refine hb1 m1 code1 hcl hl12 _ ?_;simp only[hmk,e10];rcases zacr hk with h|h|h|h|h|h|h|h|h|h|h<;>rw[h]<;>simp only[Int.reduceBEq,cond_true,cond_false]
end Lift.A9
namespace Lift.A9
open Go Go.RowKit Lift Go.IntWalk Lift.Fn Lift.A3
set_option linter.unusedVariables false
set_option linter.unusedSimpArgs false
theorem acts1:∀ (q n:Nat) (l:List TAct) (d r m:Int) (code:List Instr),nAs l≤q→q<n→q≤100000000→wAs l=true→0≤d→d+q≤1000000000→0≤r→r≤8→code.length+2*nAs l≤1000000000 →
  qaO_i n l d r m code=some (r,fm (aCs r d code.length l) m,code++aCs r d code.length l):=by
 intro q;induction q with
 |zero=>
  intro n l d r m code h hn hq hw hd hd2 hr hr2 hc;obtain ⟨n,rfl⟩:∃ z,n=z+1:=⟨n-1,by omega⟩;have hl:=zad4 l;obtain rfl:l=[]:=List.eq_nil_of_length_eq_zero (by omega);show qaO_f (qaO_i n) [] d r m code=_;unfold qaO_f;rw[qaO_l1,zaaa,aCs,zaa6,List.append_nil];rfl
 |succ q ih=>
  intro n l d r m code h hn hq hw hd hd2 hr hr2 hc;obtain ⟨n,rfl⟩:∃ z,n=z+1:=⟨n-1,by omega⟩;have hl:=zad4 l;show qaO_f (qaO_i n) l d r m code=_;unfold qaO_f
  have e := loop_fold l (fun x (s : Int × Int × List Instr) => qaN (qaO_i n) x d s.1 s.2.1 s.2.2) (fun k i s => qaO_i1 (qaO_i n) k d l l.length i s.1 s.2.1 s.2.2)
   (fun k i s h0 h=>by
    simp only[qaO_i1,qaO_t1,decide_eq_false h,cond_false])
   (fun k i s y h0 h hy=>by
    have hmk:TAct.mk y.kind y.reg y.obj y.expr y.count y.then_ y.else_=y:=by cases y; rfl
    simp only[qaO_i1,qaO_t1,decide_eq_true h,decide_eq_true h0,cond_true,hy,Option.bind_some,zabl,hmk];rw[i64_in (i+1) (by omega)])
   l.length fuel 0 (r,m,code) (by omega) (by simp) (by unfold fuel; omega)
  have key:∀ (l':List TAct) (m:Int) (code:List Instr),(∀ x∈l',x∈l)→nAs l'≤q+1→code.length+2*nAs l'≤1000000000 →
    l'.foldlM (fun (s:Int×Int×List Instr) x=>qaN (qaO_i n) x d s.1 s.2.1 s.2.2) (r,m,code)=some (r,fm (aCs r d code.length l') m,code++aCs r d code.length l'):=by
   intro l';induction l' with
   |nil=>intro m code _ _ _; rw[aCs,zaa6,List.append_nil]; rfl
   |cons x l' ih2=>
    intro m code hm hn' hc';have hwx:=zav9 hw (hm x (by simp));have hnx:=nA_eq x;rw[nAs] at hn' hc';rw[List.foldlM_cons]
    rw[act1 (qaO_i n) x d r m code q (by omega) (by omega) hwx hd (by omega) hr hr2 (by omega) (fun l2 d' m' code' h2 h3 h4=>by
     have hw2:wAs l2=true:=by
      rw[wA_eq] at hwx;simp only[Bool.and_eq_true] at hwx;obtain ⟨_,_,_,_,_,_,ht,he⟩:=hwx;rcases h2 with rfl|rfl
      ·exact ht
      ·exact he
     have hn2:nAs l2≤q:=by rcases h2 with rfl|rfl<;>omega
     exact ih n l2 d' r m' code' hn2 (by omega) (by omega) hw2 (by omega) (by omega) hr hr2 h4)]
    have hlen:=zaqz r x d code.length hwx;show l'.foldlM _ (r,fm (aC r d code.length x) m,code++aC r d code.length x)=_;rw[ih2 _ _ (fun y hy=>hm y (by simp[hy])) (by omega) (by rw[List.length_append]; omega),aCs,List.length_append,zacc,List.append_assoc]
  rw[qaO_l1,zaaa];have e':qaO_i1 (qaO_i n) fuel d l l.length 0 r m code=some (r,fm (aCs r d code.length l) m,code++aCs r d code.length l):=by
   rw[← key l m code (fun x hx=>hx) h hc];exact e
  rw[e'];rfl
theorem actsL (l:List TAct) (r m:Int) (h:nAs l≤100000000) (hw:wAs l=true) (hr:0≤r) (hr2:r≤8):qaO l 0 r m []=some (r,fm (aCs r 0 0 l) m,aCs r 0 0 l):=by
 rw[qaO,zaaa,acts1 (nAs l) fuel l 0 r m [] (Nat.le_refl _) (by unfold fuel; omega) h hw (by omega) (by omega) hr hr2 (by simp; omega)];rfl
end Lift.A9
namespace Lift.A9
open Go Go.RowKit Lift Go.IntWalk Lift.Fn Lift.A3
set_option linter.unusedVariables false
set_option linter.unusedSimpArgs false
theorem evE_eq (x:TExpr) (d:Int):evE x d=.e x d::evEs x.args (d+1):=by cases x; rw[evE]
theorem evS_eq (y:TStmt) (d:Int):evS y d=.s y d::((if zaak y.expr then evE y.expr 1 else [])++(evSs y.then_ (d+1)++evSs y.else_ (d+1))):=by cases y; rw[evS]
def sh (l:List Ev):Prop:=∀ e∈l,evD e≤16
theorem zagq {e:Ev} {l:List Ev} (h:sh (e::l)):evD e≤16∧sh l:=⟨h e (by simp),fun x hx=>h x (by simp[hx])⟩
theorem zaij {a b:List Ev} (h:sh (a++b)):sh a∧sh b:=⟨fun x hx=>h x (by simp[hx]),fun x hx=>h x (by simp[hx])⟩
theorem zaq3:∀ (l:List Ev) (s:Int),maxEv l s≤16→sh l
 |[],_,_=>fun e h=>by cases h
 |e::l,s,h=>by
  have h1:maxEv l (max s (evD e))≤16:=h;have h2:=zag2 l (max s (evD e));intro x hx;cases hx with
  |head=>omega
  |tail _ hx=>exact zaq3 l _ h1 x hx
theorem fm_ge:∀ (l:List Instr) (m:Int),m≤fm l m
 |[],m=>Int.le_refl _
 |x::l,m=>by
  have:=fm_ge l (um x m);have h2:m≤um x m:=by
   unfold um;cases (usesS x.op).1<;>cases (usesS x.op).2.1<;>cases (usesS x.op).2.2<;>simp<;>omega
  rw[zaay];omega
theorem um1 (a b c m:Int):um ⟨1,a,b,c⟩ m=max m (a+1):=rfl
theorem um2 (a b c m:Int):um ⟨2,a,b,c⟩ m=max (max m (a+1)) (b+1):=rfl
theorem um3 (op a b c m:Int) (h:op=3∨op=4):um ⟨op,a,b,c⟩ m=max (max m (a+1)) (b+1):=by
 rcases h with rfl|rfl<;>rfl
theorem um5 (op a b c m:Int) (h:5≤op) (h2:op≤17):um ⟨op,a,b,c⟩ m=max (max (max m (a+1)) (b+1)) (c+1):=by
 have:op=5∨op=6∨op=7∨op=8∨op=9∨op=10∨op=11∨op=12∨op=13∨op=14∨op=15∨op=16∨op=17:=by omega
 rcases this with rfl|rfl|rfl|rfl|rfl|rfl|rfl|rfl|rfl|rfl|rfl|rfl|rfl<;>rfl
theorem xGood (u:TUnit) (r:Int) (hr:0≤r) (hr8:r≤8):∀ (q:Nat) (x:TExpr),nE x≤q→eF (nX (nmU u r) x)=true→wX x=true ∧
  ∀ (k m d:Int),sh (evE (nX (nmU u r) x) d)→r≤k→fm (xC k x) m≤max m (k+17-d):=by
 intro q;induction q with
 |zero=>intro x h; have:=nE_eq x; omega
 |succ q ih=>
  intro x hq h;rw[eF_eq,zaqi,zae8,List.all_map,Bool.and_eq_true] at h;obtain ⟨h,ha⟩:=h;cases h1:x.kind==1 with
  |true=>
   rw[h1,cond_true] at h;simp only[Bool.and_eq_true,decide_eq_true_eq,beq_iff_eq] at h;have h1:=eq_of_beq h1;have hl:x.args=[]:=List.eq_nil_of_length_eq_zero (by omega);constructor
   ·obtain ⟨k,m,s,l⟩:=x;simp only at h1 hl;rw[h1,hl,wX]; rfl
   ·intro k m d hs hk;rw[evE_eq] at hs;have hd:d≤16:=(zagq hs).1;rw[xC_1 k x h1 hl,zaay,zaa6,um1];omega
  |false=>
  rw[h1,cond_false] at h;cases h2:x.kind==2 with
  |true=>
   rw[h2,cond_true] at h;simp only[Bool.and_eq_true,decide_eq_true_eq,beq_iff_eq] at h;have h2:=eq_of_beq h2;have hl:x.args=[]:=List.eq_nil_of_length_eq_zero (by omega);constructor
   ·obtain ⟨k,m,s,l⟩:=x;simp only at h2 hl h;rw[h2,hl,wX,wXs,decide_eq_true (by omega:0≤m),decide_eq_true (by omega:m≤8)];rfl
   ·intro k m d hs hk;rw[evE_eq] at hs;have hd:d≤16:=(zagq hs).1;rw[xC_2 k x h2 hl,zaay,zaa6,um2];omega
  |false=>
  rw[h2,cond_false] at h;unfold xOk at h;rw[h1,h2,cond_false,cond_false] at h;cases h3:(x.kind==3||x.kind==4) with
  |true=>
   rw[h3,cond_true] at h;simp only[Bool.and_eq_true,decide_eq_true_eq,beq_iff_eq] at h;obtain ⟨a,hl⟩:∃ a,x.args=[a]:=List.length_eq_one_iff.1 (by omega);have hn:=nE_un hl;rw[hl] at ha;simp only[List.all_cons,List.all_nil,Bool.and_true,Function.comp] at ha;obtain ⟨wa,ga⟩:=ih a (by omega) ha;have h4:x.kind=3∨x.kind=4:=by simpa using h3
   constructor
   ·obtain ⟨k,m,s,l⟩:=x;simp only at hl h3;rw[hl,wX,wXs,wXs,wa,h3];simp
   ·intro k m d hs hk;rw[evE_eq,zae8,hl] at hs;simp only[List.map_cons,List.map_nil,evEs] at hs;obtain ⟨hd,hs⟩:=zagq hs;have hd:d≤16:=hd;have g:=ga k m (d+1) (zaij hs).1 hk;rw[xC_un k x a hl,zacc,zaay,zaa6,um3 _ _ _ _ _ h4];omega
  |false=>
   rw[h3,cond_false] at h;simp only[Bool.and_eq_true,decide_eq_true_eq,beq_iff_eq] at h;simp only[Bool.or_eq_false_iff,beq_eq_false_iff_ne] at h3;obtain ⟨a,b,hl⟩:∃ a b,x.args=[a,b]:=by
    have:x.args.length=2:=by omega
    match hx:x.args,this with
    |[a,b],_=>exact ⟨a,b,rfl⟩
   have hn:=zam4 hl;rw[hl] at ha;simp only[List.all_cons,List.all_nil,Bool.and_true,Function.comp,Bool.and_eq_true] at ha;obtain ⟨wa,ga⟩:=ih a (by omega) ha.1;obtain ⟨wb,gb⟩:=ih b (by omega) ha.2;have h5:5≤x.kind:=by omega
   have h6:x.kind≤17:=by omega
   constructor
   ·obtain ⟨k,m,s,l⟩:=x;simp only at hl h5 h6;rw[hl,wX,wXs,wXs,wXs,wa,wb,decide_eq_true h5,decide_eq_true h6];simp
   ·intro k m d hs hk;rw[evE_eq,zae8,hl] at hs;simp only[List.map_cons,List.map_nil,evEs] at hs;obtain ⟨hd,hs⟩:=zagq hs;obtain ⟨hs1,hs2⟩:=zaij hs;have hd:d≤16:=hd;have hd1:d+1≤16:=by
     have:=hs1;rw[evE_eq] at this;exact (zagq this).1
    have g:=ga k m (d+1) hs1 hk;have g2:=gb (k+1) (fm (xC k a) m) (d+1) (zaij hs2).1 (by omega);rw[zane k x a b hl,zacc,zacc,zaay,zaa6,um5 _ _ _ _ _ h5 h6];omega
theorem zanw (u:TUnit) (r:Int) (x:TAct) (h:sOk (nSt (nmU u r) x)=true) :
  inR x.kind=true∧0≤x.reg∧(x.reg=0∨x.reg<r)∧(hasR x.kind=true→x.reg<r)∧0≤x.count∧x.count≤1000:=by
 rw[zaec] at h;unfold sOk at h;simp only[Bool.and_eq_true] at h;obtain ⟨⟨⟨⟨⟨⟨h1,h2⟩,h3⟩,h4⟩,h5⟩,h6⟩,h7⟩:=h;have hk:stK x=x.kind∧((!hasR x.kind&&x.reg != 0)||(needK x.kind==0&&x.obj != 0))=false:=by
  unfold stK at h1 ⊢;cases hc:((!hasR x.kind&&x.reg != 0)||(needK x.kind==0&&x.obj != 0)) with
  |true=>rw[hc,cond_true] at h1; exact absurd h1 (by decide)
  |false=>exact ⟨rfl,rfl⟩
 obtain ⟨hk,hc⟩:=hk;rw[Bool.or_eq_false_iff] at hc;rw[hk] at h1 h2 h5;rw[zaqe u r x hc.1 h1,zakw h1] at h2;refine ⟨h1,?_⟩;have h5':0≤x.count∧x.count≤1000:=by
  simp only[Bool.or_eq_true,Bool.and_eq_true,beq_iff_eq,decide_eq_true_eq] at h5;omega
 cases hr:hasR x.kind with
 |true=>
  rw[hr] at h2;simp only[Bool.true_and,Bool.not_true,Bool.false_and,Bool.or_false,Bool.not_eq_true',Bool.or_eq_false_iff,decide_eq_false_iff_not] at h2;exact ⟨by omega,by omega,fun _=>by omega,h5'⟩
 |false=>
  rw[hr] at h2;simp only[Bool.false_and,Bool.not_false,Bool.true_and,Bool.false_or,beq_iff_eq] at h2;exact ⟨by omega,by omega,fun h=>absurd h (by decide),h5'⟩
theorem sExpr (u:TUnit) (r:Int) (hr:0≤r) (hr8:r≤8) (x:TAct) (h:(if zaak (nX (nmU u r) x.expr) then eF (nX (nmU u r) x.expr) else true)=true) :
  (x.expr.kind==0||wX x.expr)=true∧∀ (k m:Int),sh (if zaak (nX (nmU u r) x.expr) then evE (nX (nmU u r) x.expr) 1 else [])→r≤k→fm (eC k x.expr) m≤max m (k+16):=by
 unfold eC;cases h0:x.expr.kind==0 with
 |true=>exact ⟨rfl,fun k m _ _=>by rw[cond_true,zaa6]; omega⟩
 |false=>
  have ht:zaak (nX (nmU u r) x.expr)=true:=by
   rw[zag3,zaak,bne,h0];rfl
  rw[if_pos ht] at h ⊢;obtain ⟨w,g⟩:=xGood u r hr hr8 _ x.expr (Nat.le_refl _) h;refine ⟨by rw[w]; rfl,fun k m hs hk=>?_⟩;rw[cond_false];have:=g k m 1 hs hk;omega
mutual
theorem wA_of (u:TUnit) (r:Int) (hr:0≤r) (hr8:r≤8):∀ x:TAct,sF (nSt (nmU u r) x)=true→wA x=true
 |⟨k,rg,ob,x,c,t,e⟩,h=>by
  rw[sF_eq,Bool.and_eq_true,Bool.and_eq_true,Bool.and_eq_true] at h;obtain ⟨h1,h2,h3,h4⟩:=h;have f:=zanw u r _ h1;rw[zaec] at h2 h3 h4;have g:=(sExpr u r hr hr8 ⟨k,rg,ob,x,c,t,e⟩ h2).1;have t1:=zaic u r hr hr8 t h3;have t2:=zaic u r hr hr8 e h4;simp only at f g;obtain ⟨f1,f2,f3,f4,f5,f6⟩:=f;rw[wA,f1,g,t1,t2,decide_eq_true f2,decide_eq_true (by omega:rg≤8),decide_eq_true f5,decide_eq_true f6];rfl
theorem zaic (u:TUnit) (r:Int) (hr:0≤r) (hr8:r≤8):∀ l:List TAct,sFs (nSts (nmU u r) l)=true→wAs l=true
 |[],_=>by rw[wAs]
 |x::l,h=>by
  rw[nSts,sFs,Bool.and_eq_true] at h;rw[wAs,wA_of u r hr hr8 x h.1,zaic u r hr hr8 l h.2];rfl
end
end Lift.A9
namespace Lift.A9
open Go Go.RowKit Lift Go.IntWalk Lift.Fn Lift.A3
set_option linter.unusedVariables false
set_option linter.unusedSimpArgs false
theorem zax3 (k:Int) (x:TExpr) (h:(x.kind==0||wX x)=true):(eC k x).length≤(if zaak x then nE x else 0):=by
 unfold eC;cases h0:x.kind==0 with
 |true=>exact Nat.zero_le _
 |false=>
  have ht:zaak x=true:=by unfold zaak; rw[bne,h0]; rfl
  rw[h0,Bool.false_or] at h;rw[cond_false,zaf0 x k h,if_pos ht];exact Nat.le_refl _
mutual
theorem zayq (r:Int):∀ (x:TAct) (d:Int) (p:Nat),wA x=true→(aC r d p x).length≤2*cS (plA x)
 |⟨k,rg,ob,x,c,t,e⟩,d,p,h=>by
  rw[wA_eq] at h;simp only[Bool.and_eq_true] at h;obtain ⟨hk,hx,_,_,_,_,ht,he⟩:=h;have h1:=zai0 r t;have h2:=zai0 r e;have hX:=zax3 (r+d) x hx;rw[aC_eq,zav7,cS_eq,List.length_append];simp only;have key:∀ q,(aTl r d q ⟨k,rg,ob,x,c,t,e⟩).length≤2+2*cSs (plAs t)+2*cSs (plAs e):=by
   intro q;unfold aTl;rcases zacr hk with h|h|h|h|h|h|h|h|h|h|h<;>subst h<;>simp only[Int.reduceBEq,cond_true,cond_false,List.length_cons,List.length_nil]
   ·omega
   ·omega
   ·omega
   ·omega
   ·omega
   ·omega
   ·omega
   ·omega
   ·omega
   ·cases hz:e.isEmpty with
    |true=>
     have:=h1 d (q+1) ht;rw[cond_true,List.length_cons]; omega
    |false=>
     have:=h1 d (q+1) ht;have:=h2 d (q+1+(aCs r d (q+1) t).length+1) he;rw[cond_false,List.length_cons,List.length_append,List.length_cons]; omega
   ·cases hz:c==0 with
    |true=>exact Nat.zero_le _
    |false=>
     have:=h1 (d+1) (q+1) ht;rw[cond_false,List.length_cons,List.length_append,List.length_cons,List.length_nil]; omega
  have:=key (p+(eC (r+d) x).length);omega
theorem zai0 (r:Int):∀ (l:List TAct) (d:Int) (p:Nat),wAs l=true→(aCs r d p l).length≤2*cSs (plAs l)
 |[],d,p,_=>by rw[aCs]; exact Nat.zero_le _
 |x::l,d,p,h=>by
  rw[wAs,Bool.and_eq_true] at h;have h1:=zayq r x d p h.1;have h2:=zai0 r l d (p+(aC r d p x).length) h.2;rw[aCs,List.length_append,plAs,cSs];omega
end
theorem um20 (a b c m:Int):um ⟨20,a,b,c⟩ m=max m (a+1):=rfl
theorem um19 (a b c m:Int):um ⟨19,a,b,c⟩ m=max m (a+1):=rfl
theorem um18 (a b c m:Int):um ⟨18,a,b,c⟩ m=m:=rfl
mutual
theorem aC_fm (u:TUnit) (r:Int) (hr:0≤r) (hr8:r≤8):∀ (x:TAct) (D d:Int) (p:Nat) (m:Int),sF (nSt (nmU u r) x)=true→sh (evS (nSt (nmU u r) x) D)→0≤d→d+1≤D→fm (aC r d p x) m≤max m (r+33)
 |⟨k,rg,ob,x,c,t,e⟩,D,d,p,m,h,hs,h0,h1=>by
  rw[sF_eq,Bool.and_eq_true,Bool.and_eq_true,Bool.and_eq_true] at h;obtain ⟨g1,g2,g3,g4⟩:=h;have f:=zanw u r _ g1;rw[zaec] at g2 g3 g4;have g:=(sExpr u r hr hr8 ⟨k,rg,ob,x,c,t,e⟩ g2).2;rw[evS_eq,zaec] at hs;obtain ⟨s1,s2⟩:=zagq hs;obtain ⟨s2,s3⟩:=zaij s2;obtain ⟨s3,s4⟩:=zaij s3;have hD:D≤16:=s1;have t1:=fun d' p m (h5:d'=d∨d'=d+1)=>zanj u r hr hr8 t (D+1) d' p m g3 s3 (by omega) (by omega)
  have t2:=fun p m=>zanj u r hr hr8 e (D+1) d p m g4 s4 h0 (by omega)
  simp only at f g;obtain ⟨hk,f2,f3,f3',f5,f6⟩:=f;rw[aC_eq,zacc];have g:=g (r+d) m s2 (by omega);have e1:eC (r+d) (TAct.mk k rg ob x c t e).expr=eC (r+d) x:=rfl;rw[e1];generalize p+(eC (r+d) x).length=q;generalize fm (eC (r+d) x) m=m1 at g;unfold aTl;rcases zacr hk with h|h|h|h|h|h|h|h|h|h|h<;>subst h<;>simp only[Int.reduceBEq,cond_true,cond_false]
  ·have:=f3' rfl;rw[zaay,zaa6,um2]; omega
  ·have:=f3' rfl;rw[zaay,zaa6];show max m1 (rg+1)≤_;omega
  ·rw[zaay,zaa6];show max m1 (r+d+1)≤_;omega
  ·have:=f3' rfl;rw[zaay,zaa6];show max (max m1 (rg+1)) (r+d+1)≤_;omega
  ·rw[zaay,zaa6];show m1≤_;omega
  ·rw[zaay,zaa6];show m1≤_;omega
  ·rw[zaay,zaa6];show m1≤_;omega
  ·rw[zaay,zaa6];show m1≤_;omega
  ·rw[zaay,zaa6];show max m1 (r+d+1)≤_;omega
  ·cases hz:e.isEmpty with
   |true=>
    rw[cond_true,zaay,um19];have:=t1 d (q+1) (max m1 (r+d+1)) (.inl rfl);omega
   |false=>
    rw[cond_false,zaay,um19,zacc,zaay,um18];have h1:=t1 d (q+1) (max m1 (r+d+1)) (.inl rfl);have h2:=t2 (q+1+(aCs r d (q+1) t).length+1) (fm (aCs r d (q+1) t) (max m1 (r+d+1)));omega
  ·cases hz:c==0 with
   |true=>rw[cond_true,zaa6]; omega
   |false=>
    rw[cond_false,zaay,um1,zacc,zaay,zaa6,um20];have h1:=t1 (d+1) (q+1) (max m1 (r+d+1)) (.inr rfl);omega
theorem zanj (u:TUnit) (r:Int) (hr:0≤r) (hr8:r≤8):∀ (l:List TAct) (D d:Int) (p:Nat) (m:Int),sFs (nSts (nmU u r) l)=true→sh (evSs (nSts (nmU u r) l) D)→0≤d→d+1≤D→fm (aCs r d p l) m≤max m (r+33)
 |[],D,d,p,m,_,_,_,_=>by rw[aCs,zaa6]; omega
 |x::l,D,d,p,m,h,hs,h0,h1=>by
  rw[nSts,sFs,Bool.and_eq_true] at h;rw[nSts,evSs] at hs;obtain ⟨s1,s2⟩:=zaij hs;have a1:=aC_fm u r hr hr8 x D d p m h.1 s1 h0 h1;have a2:=zanj u r hr hr8 l D d (p+(aC r d p x).length) (fm (aC r d p x) m) h.2 s2 h0 h1;rw[aCs,zacc];omega
end
theorem zal9 (u:TUnit) (h:zac3 u=true):u.cells.length≤8∧0≤u.mutexes∧u.mutexes≤8∧u.threads.length≤8 ∧
  ∀ t∈u.threads,0≤t.regs∧t.regs≤8∧sFs (nSts (nmU u t.regs) t.acts)=true∧sh (evSs (nSts (nmU u t.regs) t.acts) 1):=by
 unfold zac3 at h;cases hu:zac2 u with
 |true=>rw[hu] at h; cases h
 |false=>
  rw[hu,cond_false] at h;unfold zac2 at hu;simp only[Bool.or_eq_false_iff,decide_eq_false_iff_not] at hu;obtain ⟨⟨⟨⟨u1,u2⟩,u3⟩,u4⟩,u5⟩:=hu;cases ha:u.threads.all (fun t=>!zabj t) with
  |false=>rw[ha] at h; cases h
  |true=>
   rw[ha,cond_true] at h;have h:=eq_of_beq h;unfold zagw at h;cases hp:pOk (zaa3 u (nmsU u)) with
   |false=>rw[hp] at h; simp at h
   |true=>
    rw[hp,Bool.not_true,cond_false] at h;by_cases hm:maxEv (evP (zaa3 u (nmsU u))) 0>16
    ·rw[decide_eq_true hm,cond_true] at h; cases h
    ·have hsh:=zaq3 _ _ (by omega:maxEv (evP (zaa3 u (nmsU u))) 0≤16);refine ⟨by omega,by omega,by omega,by omega,fun t ht=>?_⟩;have hb:=List.all_eq_true.1 ha t ht;rw[Bool.not_eq_true'] at hb;unfold zabj at hb;simp only[Bool.or_eq_false_iff,decide_eq_false_iff_not] at hb
     -- its thread in the program
     have hx:∀ n,(xs n).length=n:=by intro n; simp[xs]
     obtain ⟨i,hi,rfl⟩:=List.mem_iff_getElem.1 ht;have hmem:∃ nm,TThread.mk nm (nSts (nmU u u.threads[i].regs) u.threads[i].acts)∈(zaa3 u (nmsU u)).threads:=by
      refine ⟨[120],?_⟩;show _∈(u.threads.zip ((xs u.threads.length).zip (u.threads.map fun t=>xs t.regs.toNat))).map fun z=>TThread.mk z.2.1 (nSts ⟨xs u.cells.length,xs u.mutexes.toNat,xs u.threads.length,z.2.2⟩ z.1.acts)
      rw[List.mem_map];refine ⟨(u.threads[i],([120],xs u.threads[i].regs.toNat)),?_,rfl⟩;apply List.mem_of_getElem? (i:=i);rw[List.getElem?_zip_eq_some];refine ⟨by simp[hi],?_⟩;rw[List.getElem?_zip_eq_some];exact ⟨zav0 _ _ hi,by simp[hi]⟩
     obtain ⟨nm,hmem⟩:=hmem;refine ⟨by omega,by omega,?_,?_⟩
     ·unfold pOk at hp;simp only[Bool.and_eq_true,List.all_eq_true] at hp;exact (hp.2.2 _ hmem).2
     ·intro e he;refine hsh e ?_;unfold evP;rw[List.mem_flatMap];exact ⟨_,hmem,he⟩
end Lift.A9
namespace Lift.A9
open Go Go.RowKit Lift Go.IntWalk Lift.Fn Lift.A3
set_option linter.unusedVariables false
set_option linter.unusedSimpArgs false
def U (i:Instr):Prop:=((usesS i.op).1=true→0≤i.a)∧((usesS i.op).2.1=true→0≤i.b)∧((usesS i.op).2.2=true→0≤i.c)
theorem U_all {op a b c:Int} (ha:0≤a) (hb:0≤b) (hc:0≤c):U ⟨op,a,b,c⟩:=⟨fun _=>ha,fun _=>hb,fun _=>hc⟩
theorem U_a {op a b c:Int} (ha:0≤a) (hb:(usesS op).2.1=false) (hc:(usesS op).2.2=false):U ⟨op,a,b,c⟩:=⟨fun _=>ha,fun h=>absurd h (by rw[hb]; decide),fun h=>absurd h (by rw[hc]; decide)⟩
theorem U_ac {op a b c:Int} (ha:0≤a) (hc:0≤c) (hb:(usesS op).2.1=false):U ⟨op,a,b,c⟩:=⟨fun _=>ha,fun h=>absurd h (by rw[hb]; decide),fun _=>hc⟩
theorem U_b {op a b c:Int} (hb:0≤b) (ha:(usesS op).1=false) (hc:(usesS op).2.2=false):U ⟨op,a,b,c⟩:=⟨fun h=>absurd h (by rw[ha]; decide),fun _=>hb,fun h=>absurd h (by rw[hc]; decide)⟩
theorem U_no {op a b c:Int} (h:usesS op=(false,false,false)):U ⟨op,a,b,c⟩:=⟨fun h'=>absurd h' (by rw[h]; decide),fun h'=>absurd h' (by rw[h]; decide),fun h'=>absurd h' (by rw[h]; decide)⟩
def Us (l:List Instr):Prop:=∀ i∈l,U i
theorem zam1:Us []:=fun i h=>by cases h
theorem zais {x:Instr} {l:List Instr} (h:U x) (h2:Us l):Us (x::l):=fun i hi=>by
 cases hi with
 |head=>exact h
 |tail _ hi=>exact h2 i hi
theorem zafy {a b:List Instr} (h:Us a) (h2:Us b):Us (a++b):=fun i hi=>(List.mem_append.1 hi).elim (h i) (h2 i)
theorem zack {x:Instr} (h:U x):Us [x]:=zais h zam1
theorem xC_U:∀ (n:Nat) (x:TExpr) (k:Int),nE x≤n→wX x=true→0≤k→Us (xC k x):=by
 intro n;induction n with
 |zero=>intro x k h; have:=nE_eq x; omega
 |succ n ih=>
  intro x k h hw hk;rcases zai3 hw with ⟨h1,h2⟩|⟨h1,h2,h3,h4⟩|⟨h1,a,ha,hwa⟩|⟨h1,h2,a,b,ha,hwa,hwb⟩
  ·rw[xC_1 k x h1 h2]; exact zack (U_a hk rfl rfl)
  ·rw[xC_2 k x h1 h2]; exact zack (U_all hk h3 (by omega))
  ·have:=nE_un ha;rw[xC_un k x a ha];exact zafy (ih a k (by omega) hwa hk) (zack (U_all hk hk (by omega)))
  ·have:=zam4 ha;rw[zane k x a b ha];exact zafy (ih a k (by omega) hwa hk) (zafy (ih b _ (by omega) hwb (by omega)) (zack (U_all hk hk (by omega))))
theorem eC_U (k:Int) (x:TExpr) (hk:0≤k) (h:(x.kind==0||wX x)=true):Us (eC k x):=by
 unfold eC;cases h0:x.kind==0 with
 |true=>exact zam1
 |false=>
  rw[h0,Bool.false_or] at h;exact xC_U _ x k (Nat.le_refl _) h hk
mutual
theorem aC_U (r:Int) (hr:0≤r):∀ (x:TAct) (d:Int) (p:Nat),wA x=true→0≤d→Us (aC r d p x)
 |⟨k,rg,ob,x,c,t,e⟩,d,p,h,hd=>by
  rw[wA_eq] at h;simp only[Bool.and_eq_true,decide_eq_true_eq] at h;obtain ⟨hk,hx,hg,_,_,_,ht,he⟩:=h;have jt:=fun d p (h:0≤d)=>aCs_U r hr t d p ht h
  have je:=fun d p (h:0≤d)=>aCs_U r hr e d p he h
  rw[aC_eq];refine zafy (eC_U _ _ (by omega) hx) ?_;generalize p+(eC (r+d) x).length=q;have hrd:0≤r+d:=by omega
  unfold aTl;rcases zacr hk with h|h|h|h|h|h|h|h|h|h|h<;>subst h<;>simp only[Int.reduceBEq,cond_true,cond_false]
  ·exact zack (U_all hg hrd (by omega))
  ·exact zack (U_a hg rfl rfl)
  ·exact zack (U_b hrd rfl rfl)
  ·exact zack (U_ac hg hrd rfl)
  ·exact zack (U_no rfl)
  ·exact zack (U_no rfl)
  ·exact zack (U_no rfl)
  ·exact zack (U_no rfl)
  ·exact zack (U_a hrd rfl rfl)
  ·cases hz:e.isEmpty with
   |true=>
    rw[cond_true];exact zais (U_a hrd rfl rfl) (jt _ _ hd)
   |false=>
    rw[cond_false];exact zais (U_a hrd rfl rfl) (zafy (jt _ _ hd) (zais (U_no rfl) (je _ _ hd)))
  ·cases hz:c==0 with
   |true=>exact zam1
   |false=>
    rw[cond_false];exact zais (U_a hrd rfl rfl) (zafy (jt _ _ (by omega)) (zack (U_a hrd rfl rfl)))
theorem aCs_U (r:Int) (hr:0≤r):∀ (l:List TAct) (d:Int) (p:Nat),wAs l=true→0≤d→Us (aCs r d p l)
 |[],d,p,_,_=>by rw[aCs]; exact zam1
 |x::l,d,p,h,hd=>by
  rw[wAs,Bool.and_eq_true] at h;rw[aCs];exact zafy (aC_U r hr x d p h.1 hd) (aCs_U r hr l d _ h.2 hd)
end
theorem zayd (l:List Int) (h:l.length≤100000000):qbj l=some l:=by
 rw[qbj,zaaa];unfold qbj_f;rw[decide_eq_true (by omega),cond_true,List.nil_append];cases l with
 |nil=>exact zaom _
 |cons a l=>rfl
theorem zazf (l:List Int):qbh l=some l:=by
 rw[qbh,zaaa];unfold qbh_f;simp
theorem zazr (l:List Instr):qbg l=some l:=by
 rw[qbg,zaaa];unfold qbg_f;simp
def zab6 (t:TBody):List Instr:=aCs t.regs 0 0 t.acts++[⟨29,0,0,0⟩]
def acOf (t:TBody):ACode:=⟨fm (zab6 t) t.regs,zab6 t⟩
noncomputable def lowV (u:TUnit):Int×Int×List Int×List ACode:=bif zac3 u then (u.mutexes,0,u.cells,u.threads.map acOf) else (0,1,[],[])
theorem zazk (u:TUnit) (h:nB u.threads≤100000000) (hc:u.cells.length≤100000000):qaM u=some (lowV u):=by
 rw[qaM,zaaa];unfold qaM_f lowV;rw[show TUnit.mk u.cells u.mutexes u.threads=u from rfl,zatn u h hc,Option.bind_some];cases hr:zac3 u with
 |false=>rfl
 |true=>
  rw[Bool.not_true,cond_false,cond_true,zayd _ hc,Option.bind_some,zazf,Option.bind_some];obtain ⟨r1,r2,r3,r4,rt⟩:=zal9 u hr
  have e := zaeg u.threads acOf (fun s => ((0 : Int), u.mutexes, u.cells, s)) (fun m i s => qaM_i5 m u.threads u.threads.length i 0 u.mutexes u.cells s)
   (fun m i s h0 h=>by
    simp only[qaM_i5,qaM_t5,decide_eq_false h,cond_false])
   (fun m i s y h0 h' hy hm hs=>by
    have hb:=zam8 hm;obtain ⟨q1,q2,q3,q4⟩:=rt y hm;have hw:=zaic u y.regs q1 q2 y.acts q3;have hln:=zafg y.regs y.acts 0 0 hw;simp only[qaM_i5,qaM_t5,decide_eq_true h',decide_eq_true h0,cond_true,hy,Option.bind_some];rw[actsL y.acts y.regs y.regs (by omega) hw q1 q2,Option.bind_some,putC1 _ _ _ _ _ (by show (aCs y.regs 0 0 y.acts).length≤_; omega) (by simp) (by simp),Option.bind_some,zazr,Option.bind_some];simp only[List.length_cons,List.length_nil];rw[decide_eq_true (by omega),cond_true,i64_in (i+1) (by omega)];congr 2;unfold acOf zab6;rw[zacc];rfl)
   fuel (by unfold fuel; omega)
  rw[qaM_l5,zaaa,e];rfl
end Lift.A9
namespace Lift.AA
open Go Go.RowKit Lift Go.IntWalk Lift.Fn
set_option linter.unusedVariables false
set_option linter.unusedSimpArgs false
theorem loop_fold {α σ:Type} (l:List α) (body:α→σ→Option σ) (L:Nat→Int→σ→Option σ)
  (h0:∀ n i s,0≤i→¬ i<(l.length:Int)→L (n+1) i s=some s)
  (h1:∀ n i s (x:α),0≤i→i<(l.length:Int)→l[i.toNat]? = some x→L (n+1) i s=(body x s).bind fun s'=>L n (i+1) s') :
  ∀ (k n:Nat) (i:Int) (s:σ),0≤i→l.length-i.toNat≤k→k<n→L n i s=(l.drop i.toNat).foldlM (fun s x=>body x s) s:=by
 intro k;induction k with
 |zero=>
  intro n i s hi hk hn;obtain ⟨n,rfl⟩:∃ q,n=q+1:=⟨n-1,by omega⟩;rw[h0 n i s hi (by omega),List.drop_eq_nil_of_le (by omega)];rfl
 |succ k ih=>
  intro n i s hi hk hn;obtain ⟨n,rfl⟩:∃ q,n=q+1:=⟨n-1,by omega⟩;by_cases c:i<(l.length:Int)
  ·have hlt:i.toNat<l.length:=by omega
   rw[h1 n i s l[i.toNat] hi c (List.getElem?_eq_getElem hlt),List.drop_eq_getElem_cons hlt,List.foldlM_cons];congr 1;funext s';rw[ih n (i+1) s' (by omega) (by omega) (by omega)];congr 2;omega
  ·rw[h0 n i s hi c,List.drop_eq_nil_of_le (by omega)];rfl
theorem loop_all {α τ:Type} (l:List α) (body:α→Option Bool) (e:τ) (L:Nat→Int→Option (Bool⊕τ))
  (h0:∀ n i,0≤i→¬ i<(l.length:Int)→L (n+1) i=some (.inr e))
  (h1:∀ n i (x:α),0≤i→i<(l.length:Int)→l[i.toNat]? = some x→L (n+1) i=(body x).bind fun b=>bif b then L n (i+1) else some (.inl false))
  (p:α→Bool) (hp:∀ x∈l,body x=some (p x)) :
  ∀ (k n:Nat) (i:Int),0≤i→l.length-i.toNat≤k→k<n→L n i=some (bif (l.drop i.toNat).all p then .inr e else .inl false):=by
 intro k;induction k with
 |zero=>
  intro n i hi hk hn;obtain ⟨n,rfl⟩:∃ q,n=q+1:=⟨n-1,by omega⟩;rw[h0 n i hi (by omega),List.drop_eq_nil_of_le (by omega)];rfl
 |succ k ih=>
  intro n i hi hk hn;obtain ⟨n,rfl⟩:∃ q,n=q+1:=⟨n-1,by omega⟩;by_cases c:i<(l.length:Int)
  ·have hlt:i.toNat<l.length:=by omega
   rw[h1 n i l[i.toNat] hi c (List.getElem?_eq_getElem hlt),hp _ (List.getElem_mem hlt),List.drop_eq_getElem_cons hlt,List.all_cons,Option.bind_some];cases p l[i.toNat] with
   |true=>
    rw[cond_true,Bool.true_and,ih n (i+1) (by omega) (by omega) (by omega)];have e:(i+1).toNat=i.toNat+1:=by omega
    rw[e]
   |false=>rfl
  ·rw[h0 n i hi c,List.drop_eq_nil_of_le (by omega)];rfl
def opsL:List Operation:=[Operation.mk [] [],Operation.mk [99,111,110,115,116] [82,78],Operation.mk [109,111,118,101] [82,82],Operation.mk [110,101,103] [82,82],Operation.mk [110,111,116] [82,82],Operation.mk [97,100,100] [82,82,82],Operation.mk [115,117,98] [82,82,82],Operation.mk [109,117,108] [82,82,82],Operation.mk [100,105,118] [82,82,82],Operation.mk [114,101,109] [82,82,82],Operation.mk [101,113] [82,82,82],Operation.mk [110,101] [82,82,82],Operation.mk [108,116] [82,82,82],Operation.mk [108,101] [82,82,82],Operation.mk [103,116] [82,82,82],Operation.mk [103,101] [82,82,82],Operation.mk [97,110,100] [82,82,82],Operation.mk [111,114] [82,82,82],Operation.mk [106,117,109,112] [73],Operation.mk [117,110,108,101,115,115] [82,73],Operation.mk [97,103,97,105,110] [82,73],Operation.mk [114,101,97,100] [82,99],Operation.mk [119,114,105,116,101] [99,82],Operation.mk [102,101,116,99,104] [82,99,82],Operation.mk [108,111,99,107] [109],Operation.mk [117,110,108,111,99,107] [109],Operation.mk [115,116,97,114,116] [116],Operation.mk [106,111,105,110] [116],Operation.mk [97,115,115,101,114,116] [82],Operation.mk [101,110,100] []]
theorem zaf7:qas=some opsL:=by
 rw[qas,zaaa]; rfl
def fitK (n k cells mtx threads regs instrs:Int):Bool:=
 bif k==78 then decide (n≥-2147483647)&&decide (n≤2147483647) else
 bif k==82 then decide (n≥0)&&decide (n<regs) else
 bif k==73 then decide (n≥0)&&decide (n<instrs) else
 bif k==99 then decide (n≥0)&&decide (n<cells) else
 bif k==109 then decide (n≥0)&&decide (n<mtx) else
 bif k==116 then decide (n≥0)&&decide (n<threads) else
 decide (n≥0)&&decide (n<1)
def fitX (n k:Int) (x:Image) (c:ACode):Bool:=fitK n k x.cells.length x.mutexes x.threads.length c.regs c.instrs.length
theorem zaly {α:Type} (p q:Bool) (f:Bool→Option α):Option.bind (α:=Bool) (bif p then some q else some false) f=f (p&&q):=by cases p<;>rfl
theorem zago {α:Type} (p q:Bool) (f:Bool→Option α):Option.bind (α:=Bool) (bif p then some true else some q) f=f (p||q):=by cases p<;>rfl
theorem zayk (n m:Int):(decide (n<0)||decide (n≥m))=!(decide (n≥0)&&decide (n<m)):=by
 by_cases a:n<0<;>by_cases b:n≥m<;>simp[a,b,show (n≥0)↔¬ n<0 by omega,show n<m↔¬ n≥m by omega]
theorem zamf {α:Type} (b:Bool) (u v:α):(bif !b then u else v)=bif b then v else u:=by cases b<;>rfl
def zade (ks:List UInt8) (i:Int):Int:=match ks[i.toNat]? with
 |some k=>(k.toNat:Int)
 |none=>32
theorem zaln (n:Int):qar n=some (decide (n≥-2147483647)&&decide (n≤2147483647)):=by
 rw[qar,zaaa];unfold qar_f;rw[zaly]
theorem zaj7 (n:Nat) (ks:List UInt8) (i:Int) (cells:List Int) (mtx:Int) (threads:List ACode) (regs:Int) (instrs:List Instr) (l:List Int) (y:Int)
  (h0:0≤i) (h3:i<3) (hl:l.length=3) (hy:l[i.toNat]? = some y) :
  qao_i6 (n+1) ks 3 i cells mtx threads regs instrs l=bif fitK y (zade ks i) cells.length mtx threads.length regs instrs.length then qao_i6 n ks 3 (i+1) cells mtx threads regs instrs l else some (.inl false):=by
 conv=>lhs; unfold qao_i6 qao_t6
 rw[hl,decide_eq_true h3,decide_eq_true h0,decide_eq_true (show i<((3:Nat):Int) by omega),Bool.and_self,cond_true,cond_true,hy,Option.bind_some,i64_in (i+1) (by omega)];simp only[zago,zayk,zamf,zaln,Option.bind_some];by_cases hk:i<(ks.length:Int)
 ·have hg:ks[i.toNat]? = some ks[i.toNat]:=List.getElem?_eq_getElem (by omega);rw[decide_eq_true hk,cond_true,cond_true,hg,Option.bind_some];have e:zade ks i=((ks[i.toNat].toNat:Nat):Int):=by unfold zade; rw[hg]
  rw[e];unfold fitK;generalize ((ks[i.toNat].toNat:Nat):Int)=k;repeat' (cases (k==_); simp only[cond_false]; rotate_left; rfl)
 ·have hg:ks[i.toNat]? = none:=List.getElem?_eq_none (by omega);have e:zade ks i=32:=by unfold zade; rw[hg]
  rw[decide_eq_false hk,cond_false,e];rfl
def fitsS (x:Image) (c:ACode) (a:Instr):Bool:=
 decide (1≤a.op)&&decide (a.op≤29)&&match opsL[a.op.toNat]? with
  |some o=>fitX a.a (zade o.numbers 0) x c&&(fitX a.b (zade o.numbers 1) x c&&fitX a.c (zade o.numbers 2) x c)
  |none=>false
theorem zaig:opsL.length=30:=rfl
theorem zaem {op:Int} (h1:1≤op) (h2:op≤29):∃ o,opsL[op.toNat]? = some o∧o≠Operation.mk [] []∧o.word≠[]∧o.numbers.length≤3:=by
 have h:op=1∨op=2∨op=3∨op=4∨op=5∨op=6∨op=7∨op=8∨op=9∨op=10∨op=11∨op=12∨op=13∨op=14∨op=15∨op=16∨op=17∨op=18∨op=19∨op=20∨op=21∨op=22∨op=23∨op=24∨op=25∨op=26∨op=27∨op=28∨op=29:=by omega
 rcases h with rfl|rfl|rfl|rfl|rfl|rfl|rfl|rfl|rfl|rfl|rfl|rfl|rfl|rfl|rfl|rfl|rfl|rfl|rfl|rfl|rfl|rfl|rfl|rfl|rfl|rfl|rfl|rfl|rfl<;>exact ⟨_,rfl,by decide,by decide,by decide⟩
theorem zaym (x:Image) (c:ACode) (a:Instr):qao x c a=some (fitsS x c a):=by
 rw[qao,zaaa];unfold qao_f fitsS;rw[zaf7,Option.bind_some,zago,zaig];by_cases h1:1≤a.op
 ·by_cases h2:a.op≤29
  ·obtain ⟨o,ho,hne,_,_⟩:=zaem h1 h2;rw[decide_eq_false (show ¬ a.op<1 by omega),decide_eq_false (show ¬ a.op≥((30:Nat):Int) by omega),decide_eq_true (show 0≤a.op by omega),decide_eq_true (show a.op<((30:Nat):Int) by omega),decide_eq_true h1,decide_eq_true h2];simp only[Bool.or_self,Bool.and_self,cond_true,cond_false,ho,Option.bind_some,Bool.true_and];rw[decide_eq_false hne,cond_false,qao_l6,zaaa];obtain ⟨f,hf⟩:∃ f,fuel=f+4:=⟨fuel-4,by unfold fuel; omega⟩;rw[hf];have e:((([a.a,a.b,a.c]:List Int).length:Nat):Int)=3:=rfl;rw[e,zaj7 (f+3) o.numbers 0 _ _ _ _ _ [a.a,a.b,a.c] a.a (by decide) (by decide) rfl rfl,zaj7 (f+2) o.numbers (0+1) _ _ _ _ _ [a.a,a.b,a.c] a.b (by decide) (by decide) rfl rfl,zaj7 (f+1) o.numbers (0+1+1) _ _ _ _ _ [a.a,a.b,a.c] a.c (by decide) (by decide) rfl rfl];unfold fitX;rw[show (0:Int)+1=1 from rfl,show (1:Int)+1=2 from rfl];cases fitK a.a (zade o.numbers 0) _ _ _ _ _ with
   |false=>rfl
   |true=>
    cases fitK a.b (zade o.numbers 1) _ _ _ _ _ with
    |false=>rfl
    |true=>cases fitK a.c (zade o.numbers 2) _ _ _ _ _<;>rfl
  ·rw[decide_eq_false (show ¬ a.op<1 by omega),decide_eq_true (show a.op≥((30:Nat):Int) by omega),decide_eq_false h2,Bool.and_false];rfl
 ·rw[decide_eq_true (show a.op<1 by omega),decide_eq_false h1];rfl
def numS (n:Int):Bool:=decide (n≥-2147483647)&&decide (n≤2147483647)
def lastS (l:List Instr):Bool:=match l[l.length-1]? with
 |some i=>i.op==29||i.op==18
 |none=>false
def codeS (x:Image) (c:ACode):Bool:=
 (decide (0≤c.regs)&&decide (c.regs≤64)&&decide (1≤c.instrs.length)&&decide (c.instrs.length≤4000))&&(lastS c.instrs&&c.instrs.all (fitsS x c))
def headS (x:Image):Bool:=
 decide (1≤x.threads.length)&&decide (x.threads.length≤8)&&decide (x.cells.length≤8)&&decide (0≤x.mutexes)&&decide (x.mutexes≤8)
def zacd (x:Image):Bool:=headS x&&(x.cells.all numS&&x.threads.all (codeS x))
theorem zash (l:List Int) (hl:l.length≤8) (a:List Int) (b:Int) (c:List ACode) :
  qan_l4 l (l.length:Int) 0 a b c=some (bif l.all numS then .inr (a,b,c) else .inl false):=by
 rw[qan_l4,zaaa]
 have := loop_all l (fun n => some (numS n)) (a, b, c) (fun n i => qan_i4 n l (l.length : Int) i a b c)
  (fun n i h0 h=>by simp only[qan_i4,qan_t4,decide_eq_false h,cond_false])
  (fun n i x h0 h hx=>by
   simp only[qan_i4,qan_t4,decide_eq_true h,decide_eq_true h0,cond_true,hx,Option.bind_some,zaln,i64_in (i+1) (by omega),zamf];rfl)
  numS (fun _ _=>rfl) l.length fuel 0 (by omega) (by omega) (by unfold fuel; omega)
 rw[this];rfl
theorem zarc (x:Image) (c:ACode) (p:List ACode) (q r:Int) (hl:c.instrs.length≤4000) :
  qan_l19 p q r c.instrs (c.instrs.length:Int) 0 x.cells x.mutexes x.threads c.regs c.instrs=some (bif c.instrs.all (fitsS x c) then .inr (p,q,r,x.cells,x.mutexes,x.threads) else .inl false):=by
 rw[qan_l19,zaaa]
 have := loop_all c.instrs (fun a => qao x c a) (p, q, r, x.cells, x.mutexes, x.threads) (fun n i => qan_i19 n p q r c.instrs (c.instrs.length : Int) i x.cells x.mutexes x.threads c.regs c.instrs)
  (fun n i h0 h=>by simp only[qan_i19,qan_t19,decide_eq_false h,cond_false])
  (fun n i a h0 h hx=>by
   simp only[qan_i19,qan_t19,decide_eq_true h,decide_eq_true h0,cond_true,hx,Option.bind_some,i64_in (i+1) (by omega),zamf])
  (fitsS x c) (fun a _=>zaym x c a) c.instrs.length fuel 0 (by omega) (by omega) (by unfold fuel; omega)
 rw[this];rfl
theorem zayj {l:List Instr} (h1:1≤l.length) (h2:l.length≤4000):∃ a,l[l.length-1]? = some a∧l[Int.toNat (IntKind.wrap IntKind.i64 ((l.length:Int)-1))]? = some a∧0≤IntKind.wrap IntKind.i64 ((l.length:Int)-1):=by
 refine ⟨l[l.length-1],List.getElem?_eq_getElem (by omega),?_,?_⟩
 ·rw[i64_in _ (by omega),show Int.toNat ((l.length:Int)-1)=l.length-1 by omega];exact List.getElem?_eq_getElem (by omega)
 ·rw[i64_in _ (by omega)]; omega
theorem zaza {β:Type} (a:Instr):(Option.bind (α:=Bool) (bif a.op != 29 then some (a.op != 18) else some false):(Bool→Option β)→Option β)=fun f=>f (!(a.op==29||a.op==18)):=by
 funext f;rw[zaly];congr 1;show ((!(a.op==29))&&(!(a.op==18)))=_;cases a.op==29<;>rfl
theorem zapj (x:Image) (hl:x.threads.length≤8):qan_l10 x.threads (x.threads.length:Int) 0 x.cells x.mutexes x.threads=some (bif x.threads.all (codeS x) then .inr () else .inl false):=by
 rw[qan_l10,zaaa]
 have := loop_all x.threads (fun c => some (codeS x c)) () (fun n i => qan_i10 n x.threads (x.threads.length : Int) i x.cells x.mutexes x.threads)
  (fun n i h0 h=>by simp only[qan_i10,qan_t10,decide_eq_false h,cond_false])
  (fun n i c h0 h hx=>by
   simp only[qan_i10,qan_t10,decide_eq_true h,decide_eq_true h0,cond_true,hx,Option.bind_some,zago];have i2:=i64_in (i+1) (by omega);by_cases hh:(decide (0≤c.regs)&&decide (c.regs≤64)&&decide (1≤c.instrs.length)&&decide (c.instrs.length≤4000))=true
   ·have e:codeS x c=(lastS c.instrs&&c.instrs.all (fitsS x c)):=by unfold codeS; rw[hh,Bool.true_and]
    simp only[Bool.and_eq_true,decide_eq_true_eq] at hh;obtain ⟨⟨⟨h1,h2⟩,h3⟩,h4⟩:=hh;obtain ⟨a,ha,hb,hc⟩:=zayj h3 h4;rw[decide_eq_false (show ¬ c.regs<0 by omega),decide_eq_false (show ¬ c.regs>64 by omega),decide_eq_false (show ¬ (c.instrs.length:Int)<1 by omega),decide_eq_false (show ¬ (c.instrs.length:Int)>4000 by omega),e];simp only[Bool.or_self,cond_false,decide_eq_true hc,cond_true,hb,Option.bind_some];rw[zaza];have el:lastS c.instrs=(a.op==29||a.op==18):=by unfold lastS; rw[ha]
    rw[el];cases (a.op==29||a.op==18) with
    |false=>rfl
    |true=>
     simp only[Bool.not_true,cond_false,Bool.true_and];rw[zarc x c _ _ _ h4,Option.bind_some];cases c.instrs.all (fitsS x c) with
     |false=>rfl
     |true=>simp only[cond_true,i2]
   ·have e:codeS x c=false:=by unfold codeS; rw[Bool.eq_false_iff.2 hh,Bool.false_and]
    rw[e];have:(decide (c.regs<0)||decide (c.regs>64)||decide ((c.instrs.length:Int)<1)||decide ((c.instrs.length:Int)>4000))=true:=by
     simp only[Bool.and_eq_true,decide_eq_true_eq,Bool.or_eq_true] at hh ⊢;omega
    rw[this];rfl)
  (codeS x) (fun _ _=>rfl) x.threads.length fuel 0 (by omega) (by omega) (by unfold fuel; omega)
 rw[this];rfl
theorem zajh (x:Image):qan x=some (zacd x):=by
 rw[qan,zaaa];unfold qan_f zacd;simp only[zago];by_cases hh:headS x=true
 ·have hh2:=hh;unfold headS at hh2;simp only[Bool.and_eq_true,decide_eq_true_eq] at hh2;obtain ⟨⟨⟨⟨h1,h2⟩,h3⟩,h4⟩,h5⟩:=hh2;rw[hh,Bool.true_and,decide_eq_false (show ¬ (x.threads.length:Int)<1 by omega),decide_eq_false (show ¬ (x.threads.length:Int)>8 by omega),decide_eq_false (show ¬ (x.cells.length:Int)>8 by omega),decide_eq_false (show ¬ x.mutexes<0 by omega),decide_eq_false (show ¬ x.mutexes>8 by omega)];simp only[Bool.or_self,cond_false];rw[zash _ h3,Option.bind_some];cases x.cells.all numS with
  |false=>rfl
  |true=>
   simp only[cond_true,Bool.true_and];rw[zapj x h2,Option.bind_some];cases x.threads.all (codeS x)<;>rfl
 ·rw[Bool.eq_false_iff.2 hh,Bool.false_and];have:(decide ((x.threads.length:Int)<1)||decide ((x.threads.length:Int)>8)||decide ((x.cells.length:Int)>8)||decide (x.mutexes<0)||decide (x.mutexes>8))=true:=by
   unfold headS at hh;simp only[Bool.and_eq_true,decide_eq_true_eq,Bool.or_eq_true] at hh ⊢;omega
  rw[this];rfl
end Lift.AA
