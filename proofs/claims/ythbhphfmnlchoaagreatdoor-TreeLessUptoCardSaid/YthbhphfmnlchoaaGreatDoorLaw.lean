/-
  DERIVED. The Lean functions answer as the laws say. Conditions: as each theorem says.
-/
import Derived.Test.YthbhphfmnlchoaaGreatDoorWalk
import Derived.IntWalk
set_option linter.unusedVariables false
set_option linter.unusedSimpArgs false
set_option linter.unusedSectionVars false
namespace Lift.A3
open Go Go.RowKit Lift Go.IntWalk Lift.Fn
set_option linter.unusedVariables false
set_option linter.unusedSimpArgs false
theorem zabu {α σ:Type} (l:List α) (body:α→σ→Option σ) (L:Nat→Int→σ→Option σ)
  (h0:∀ n i s,0≤i→¬ i<(l.length:Int)→L (n+1) i s=some s)
  (h1:∀ n i s (x:α),0≤i→i<(l.length:Int)→l[i.toNat]? = some x→L (n+1) i s=(body x s).bind fun s'=>L n (i+1) s') :
  ∀ (k n:Nat) (i:Int) (s:σ),0≤i→l.length-i.toNat≤k→k<n→L n i s=(l.drop i.toNat).foldlM (fun s x=>body x s) s:=by
 intro k;induction k with
 |zero=>
  intro n i s hi hk hn;obtain ⟨n,rfl⟩:∃ q,n=q+1:=⟨n-1,by omega⟩;rw[h0 n i s hi (by omega),List.drop_eq_nil_of_le (by omega)];rfl
 |succ k ih=>
  intro n i s hi hk hn;obtain ⟨n,rfl⟩:∃ q,n=q+1:=⟨n-1,by omega⟩;by_cases c:i<(l.length:Int)
  ·have hlt:i.toNat<l.length:=by omega
   rw[h1 n i s l[i.toNat] hi c (List.getElem?_eq_getElem hlt),List.drop_eq_getElem_cons hlt,List.foldlM_cons];congr 1;funext s';rw[ih n (i+1) s' (by omega) (by omega) (by omega)];congr 2;omega
  ·rw[h0 n i s hi c,List.drop_eq_nil_of_le (by omega)];rfl
inductive Ev where
 |s (x:TStmt) (d:Int)
 |e (x:TExpr) (d:Int)
mutual
def evE:TExpr→Int→List Ev
 |⟨k,n,m,l⟩,d=>.e ⟨k,n,m,l⟩ d::evEs l (d+1)
def evEs:List TExpr→Int→List Ev
 |[],_=>[]
 |x::l,d=>evE x d++evEs l d
end
def zaar (x:TExpr):Bool:=(x.kind != 0)||decide (0<x.args.length)
mutual
def evS:TStmt→Int→List Ev
 |⟨k,r,m,x,c,t,o⟩,d=>.s ⟨k,r,m,x,c,t,o⟩ d::((if zaar x then evE x 1 else [])++(evSs t (d+1)++evSs o (d+1)))
def evSs:List TStmt→Int→List Ev
 |[],_=>[]
 |x::l,d=>evS x d++evSs l d
end
def evP (p:TProg):List Ev:=p.threads.flatMap fun t=>evSs t.body 1
mutual
def nE:TExpr→Nat
 |⟨_,_,_,l⟩=>1+nEs l
def nEs:List TExpr→Nat
 |[]=>0
 |x::l=>nE x+nEs l
end
mutual
def nS:TStmt→Nat
 |⟨_,_,_,x,_,t,o⟩=>1+nE x+nSs t+nSs o
def nSs:List TStmt→Nat
 |[]=>0
 |x::l=>nS x+nSs l
end
def nT:List TThread→Nat
 |[]=>0
 |t::l=>1+nSs t.body+nT l
theorem nE_eq (x:TExpr):nE x=1+nEs x.args:=by cases x; simp[nE]
theorem nS_eq (x:TStmt):nS x=1+nE x.expr+nSs x.then_+nSs x.else_:=by cases x; simp[nS]
theorem zatw (x:TExpr) (d:Int):evE x d=.e x d::evEs x.args (d+1):=by cases x; simp[evE]
theorem zat1 (x:TStmt) (d:Int):evS x d=.s x d::((if zaar x.expr then evE x.expr 1 else [])++(evSs x.then_ (d+1)++evSs x.else_ (d+1))):=by cases x; simp[evS]
theorem zag5:∀ l:List TExpr,l.length≤nEs l
 |[]=>by simp[nEs]
 |x::l=>by have:=zag5 l; have:=nE_eq x; simp only[nEs,List.length_cons]; omega
theorem zads:∀ l:List TStmt,l.length≤nSs l
 |[]=>by simp[nSs]
 |x::l=>by have:=zads l; have:=nS_eq x; simp only[nSs,List.length_cons]; omega
theorem zadu:∀ l:List TThread,l.length≤nT l
 |[]=>by simp[nT]
 |x::l=>by have:=zadu l; simp only[nT,List.length_cons]; omega
theorem zag7:∀ {l:List TExpr} {x:TExpr},x∈l→nE x≤nEs l
 |y::l,x,h=>by
  simp only[nEs];cases h with
  |head=>omega
  |tail _ h=>have:=zag7 h; omega
theorem zahf:∀ {l:List TStmt} {x:TStmt},x∈l→nS x≤nSs l
 |y::l,x,h=>by
  simp only[nSs];cases h with
  |head=>omega
  |tail _ h=>have:=zahf h; omega
theorem zaeg:∀ {l:List TThread} {x:TThread},x∈l→nSs x.body<nT l
 |y::l,x,h=>by
  simp only[nT];cases h with
  |head=>omega
  |tail _ h=>have:=zaeg h; omega
theorem zalv : ∀ (l : List TExpr) (d : Int), evEs l d = l.flatMap fun x => evE x d
 |[],d=>by simp[evEs]
 |x::l,d=>by simp[evEs,zalv l d]
theorem zalw : ∀ (l : List TStmt) (d : Int), evSs l d = l.flatMap fun x => evS x d
 |[],d=>by simp[evSs]
 |x::l,d=>by simp[evSs,zalw l d]
theorem zacm {α β σ : Type} (f : α → List β) (g : σ → β → Option σ) : ∀ (l : List α) (s : σ), (l.flatMap f).foldlM g s = l.foldlM (fun s x => (f x).foldlM g s) s
 |[],s=>rfl
 |x::l,s=>by
  rw[List.flatMap_cons,List.foldlM_append,List.foldlM_cons];congr 1;funext s';exact zacm f g l s'
theorem zabv {α β:Type} (o:Option (α×β)):(o.bind fun y=>some (y.1,y.2))=o:=by cases o<;>rfl
theorem zaaw (x:TExpr):TExpr.mk x.kind x.num x.name x.args=x:=by cases x; rfl
theorem zatm (x:TStmt):TStmt.mk x.kind x.reg x.name (TExpr.mk x.expr.kind x.expr.num x.expr.name x.expr.args) x.count x.then_ x.else_=x:=by
 obtain ⟨k,r,n,⟨_,_,_,_⟩,c,t,o⟩:=x;rfl
theorem zad0 (x:TStmt):TStmt.mk x.kind x.reg x.name x.expr x.count x.then_ x.else_=x:=by cases x; rfl
theorem zafz (x:TProg):TProg.mk x.cells x.mutexes x.threads=x:=by cases x; rfl
def atEv {σ:Type} (g:TStmt→Int→σ→Option σ) (h:TExpr→Int→σ→Option σ) (s:σ):Ev→Option σ
 |.s x d=>g x d s
 |.e x d=>h x d s
structure WalksE {σ:Type} (h:TExpr→Int→σ→Option σ) (F:Nat→TExpr→Int→σ→Option σ):Prop where
 step:∀ n x d s,(d:Int)+1≤4611686018427387904→-4611686018427387904≤d→x.args.length≤4611686018427387904→F (n+1) x d s=(h x d s).bind fun s'=>x.args.foldlM (fun s y=>F n y (d+1) s) s'
theorem zaky {σ:Type} {g:TStmt→Int→σ→Option σ} {h:TExpr→Int→σ→Option σ} {F:Nat→TExpr→Int→σ→Option σ} (hW:WalksE h F) :
  ∀ (k n:Nat) (x:TExpr) (d:Int) (s:σ),nE x≤k→k<n→0≤d→d+k≤1000000000000000000→F n x d s=(evE x d).foldlM (atEv g h) s:=by
 intro k;induction k with
 |zero=>intro n x d s hk; have:=nE_eq x; omega
 |succ k ih=>
  intro n x d s hk hn h0 hd;obtain ⟨n,rfl⟩:∃ q,n=q+1:=⟨n-1,by omega⟩;have hx:=nE_eq x;have hl:=zag5 x.args;rw[hW.step n x d s (by omega) (by omega) (by omega),zatw,List.foldlM_cons];show _=(h x d s).bind _;congr 1;funext s';rw[zalv,zacm];have:∀ (l:List TExpr) (s:σ),(∀ y∈l,nE y≤k)→l.foldlM (fun s y=>F n y (d+1) s) s=l.foldlM (fun s y=>(evE y (d+1)).foldlM (atEv g h) s) s:=by
   intro l;induction l with
   |nil=>intro s _; rfl
   |cons y l ihl=>
    intro s hy;rw[List.foldlM_cons,List.foldlM_cons,ih n y (d+1) s (hy y (by simp)) (by omega) (by omega) (by omega)];congr 1;funext s';exact ihl s' (fun z hz=>hy z (by simp[hz]))
  exact this _ _ (fun y hy=>by have:=zag7 hy; omega)
structure WalksS {σ:Type} (g:TStmt→Int→σ→Option σ) (E:TExpr→Int→σ→Option σ) (F:Nat→List TStmt→Int→σ→Option σ):Prop where
 step:∀ n l d s,(d:Int)+1≤4611686018427387904→-4611686018427387904≤d→l.length≤4611686018427387904→F (n+1) l d s=l.foldlM (fun s x=>(g x d s).bind fun s1=>(if zaar x.expr then E x.expr 1 s1 else some s1).bind fun s2=>(F n x.then_ (d+1) s2).bind fun s3=>F n x.else_ (d+1) s3) s
theorem zak7 {σ:Type} {g:TStmt→Int→σ→Option σ} {h:TExpr→Int→σ→Option σ} {E:TExpr→Int→σ→Option σ} {F:Nat→List TStmt→Int→σ→Option σ}
  (hE:∀ x s,nE x≤100000000000000000→E x 1 s=(evE x 1).foldlM (atEv g h) s) (hW:WalksS g E F) :
  ∀ (k n:Nat) (l:List TStmt) (d:Int) (s:σ),nSs l≤k→k<n→0≤d→d+k≤100000000000000000→F n l d s=(evSs l d).foldlM (atEv g h) s:=by
 intro k;induction k with
 |zero=>
  intro n l d s hk hn h0 hd;obtain ⟨n,rfl⟩:∃ q,n=q+1:=⟨n-1,by omega⟩;have hl:=zads l;obtain rfl:l=[]:=List.eq_nil_of_length_eq_zero (by omega);rw[hW.step n [] d s (by omega) (by omega) (by simp)];simp[evSs]
 |succ k ih=>
  intro n l d s hk hn h0 hd;obtain ⟨n,rfl⟩:∃ q,n=q+1:=⟨n-1,by omega⟩;have hl:=zads l;rw[hW.step n l d s (by omega) (by omega) (by omega),zalw,zacm]
  have : ∀ (l : List TStmt) (s : σ), (∀ y ∈ l, nS y ≤ k + 1) → l.foldlM (fun s x => (g x d s).bind fun s1 => (if zaar x.expr then E x.expr 1 s1 else some s1).bind fun s2 => (F n x.then_ (d + 1) s2).bind fun s3 => F n x.else_ (d + 1) s3) s =
    l.foldlM (fun s y=>(evS y d).foldlM (atEv g h) s) s:=by
   intro l;induction l with
   |nil=>intro s _; rfl
   |cons y l ihl=>
    intro s hy;have hy1:=hy y (by simp);have hy2:=nS_eq y;rw[List.foldlM_cons,List.foldlM_cons];have e:∀ s,((g y d s).bind fun s1=>(if zaar y.expr then E y.expr 1 s1 else some s1).bind fun s2=>(F n y.then_ (d+1) s2).bind fun s3=>F n y.else_ (d+1) s3)=(evS y d).foldlM (atEv g h) s:=by
     intro s;rw[zat1,List.foldlM_cons];show _=(g y d s).bind _;congr 1;funext s1;rw[List.foldlM_append];have e1:(if zaar y.expr then E y.expr 1 s1 else some s1)=(if zaar y.expr then evE y.expr 1 else []).foldlM (atEv g h) s1:=by
      split
      ·exact hE _ _ (by omega)
      ·rfl
     rw[e1];congr 1;funext s2;rw[List.foldlM_append];rw[ih n y.then_ (d+1) s2 (by omega) (by omega) (by omega) (by omega)];congr 1;funext s3;exact ih n y.else_ (d+1) s3 (by omega) (by omega) (by omega) (by omega)
    rw[e];congr 1;funext s';exact ihl s' (fun z hz=>hy z (by simp[hz]))
  exact this _ _ (fun y hy=>by have:=zahf hy; omega)
end Lift.A3
namespace Lift.A3
open Go Go.RowKit Lift Go.IntWalk Lift.Fn
set_option linter.unusedVariables false
set_option linter.unusedSimpArgs false
theorem wE : WalksE (fun (x : TExpr) (d : Int) (s : Bool) => qbd x d s) (fun (n : Nat) (x : TExpr) (d : Int) (s : Bool) => qaa_i n x d s) where
 step:=by
  intro n x d s hd1 hd2 hl;show qaa_f (qaa_i n) x d s=_;unfold qaa_f;rw[zaaw];congr 1;funext y0
  have hL := zabu (σ := Bool) x.args (fun y s => qaa_i n y (d + 1) s) (fun m i s => qaa_i3 (qaa_i n) m d x.args (x.args.length : Int) i s)
   (fun m i s h0 h=>by simp only[qaa_i3,qaa_t3,decide_eq_false h,cond_false])
   (fun m i s y h0 h hy=>by
    simp only[qaa_i3,qaa_t3,decide_eq_true h,decide_eq_true h0,cond_true,hy,Option.bind_some,zaaw];rw[i64_in (i+1) (by omega),i64_in (d+1) (by omega)])
   x.args.length fuel 0 y0 (by omega) (by omega) (by unfold fuel; omega)
  try simp only at hL
  rw[qaa_l3,zaaa,hL];simp[zabv]
theorem wEx (x:TExpr) (s:Bool) (hx:nE x≤100000000000000000):qaa x 1 s=(evE x 1).foldlM (atEv (fun (x:TStmt) (d:Int) (s:Bool)=>qbc x d s) (fun (x:TExpr) (d:Int) (s:Bool)=>qbd x d s)) s:=by
 rw[qaa,zaaa];exact zaky (g:=(fun (x:TStmt) (d:Int) (s:Bool)=>qbc x d s)) wE (nE x) fuel x 1 s (Nat.le_refl _) (by unfold fuel; omega) (by omega) (by omega)
theorem wS : WalksS (fun (x : TStmt) (d : Int) (s : Bool) => qbc x d s) (fun (x : TExpr) (d : Int) (s : Bool) => qaa x d s) (fun (n : Nat) (l : List TStmt) (d : Int) (s : Bool) => qai_i n l d s) where
 step:=by
  intro n l d s hd1 hd2 hl;show qai_f (qai_i n) l d s=_;unfold qai_f
  have hL := zabu (σ := Bool) l (fun x s => (qbc x d s).bind fun s1 => (if zaar x.expr then qaa x.expr 1 s1 else some s1).bind fun s2 => (qai_i n x.then_ (d + 1) s2).bind fun s3 => qai_i n x.else_ (d + 1) s3)
   (fun m i s=>qai_i2 (qai_i n) m d l (l.length:Int) i s)
   (fun m i s h0 h=>by simp only[qai_i2,qai_t2,decide_eq_false h,cond_false])
   (fun m i s y h0 h hy=>by
    have e:(bif TExpr.kind (TStmt.expr y) != (0:Int) then some true else some (decide ((↑(List.length (TExpr.args (TStmt.expr y))):Int)>(0:Int))))=some (zaar y.expr):=by
     unfold zaar;cases (y.expr.kind != 0)
     ·simp
     ·rfl
    simp only[qai_i2,qai_t2,decide_eq_true h,decide_eq_true h0,cond_true,hy,Option.bind_some,zaaw,zad0,e];rw[i64_in (i+1) (by omega),i64_in (d+1) (by omega)];cases zaar y.expr<;>simp[Option.bind_assoc])
   l.length fuel 0 s (by omega) (by omega) (by unfold fuel; omega)
  try simp only at hL
  rw[qai_l2,zaaa,hL];simp[zabv]
theorem wSt (l:List TStmt) (s:Bool) (hl:nSs l≤10000000000000000):qai l 1 s=(evSs l 1).foldlM (atEv (fun (x:TStmt) (d:Int) (s:Bool)=>qbc x d s) (fun (x:TExpr) (d:Int) (s:Bool)=>qbd x d s)) s:=by
 rw[qai,zaaa];exact zak7 (g:=(fun (x:TStmt) (d:Int) (s:Bool)=>qbc x d s)) (h:=(fun (x:TExpr) (d:Int) (s:Bool)=>qbd x d s)) (fun x s hx=>wEx x s hx) wS (nSs l) fuel l 1 s (Nat.le_refl _) (by unfold fuel; omega) (by omega) (by omega)
theorem wP (p:TProg) (s:Bool) (hl:nT p.threads≤10000000000000000):qae p s=(evP p).foldlM (atEv (fun (x:TStmt) (d:Int) (s:Bool)=>qbc x d s) (fun (x:TExpr) (d:Int) (s:Bool)=>qbd x d s)) s:=by
 rw[qae,zaaa];unfold qae_f;have hn:=zadu p.threads
 have hL := zabu (σ := Bool) p.threads (fun t s => qai t.body 1 s) (fun m i s => qae_i2 m p.threads (p.threads.length : Int) i s)
  (fun m i s h0 h=>by simp only[qae_i2,qae_t2,decide_eq_false h,cond_false])
  (fun m i s y h0 h hy=>by
   simp only[qae_i2,qae_t2,decide_eq_true h,decide_eq_true h0,cond_true,hy,Option.bind_some];rw[i64_in (i+1) (by omega)])
  p.threads.length fuel 0 s (by omega) (by omega) (by unfold fuel; omega)
 try simp only at hL
 rw[qae_l2,zaaa,hL];unfold evP;rw[zacm];have:∀ (l:List TThread) (s:Bool),(∀ t∈l,nSs t.body≤10000000000000000)→l.foldlM (fun s t=>qai t.body 1 s) s=l.foldlM (fun s t=>(evSs t.body 1).foldlM (atEv (fun (x:TStmt) (d:Int) (s:Bool)=>qbc x d s) (fun (x:TExpr) (d:Int) (s:Bool)=>qbd x d s)) s) s:=by
  intro l;induction l with
  |nil=>intro s _; rfl
  |cons t l ih=>
   intro s ht;rw[List.foldlM_cons,List.foldlM_cons,wSt t.body s (ht t (by simp))];congr 1;funext s';exact ih s' (fun z hz=>ht z (by simp[hz]))
 rw[Int.toNat_zero,List.drop_zero,this _ _ (fun t ht=>by have:=zaeg ht; omega)];simp[zabv]
theorem wE_1 : WalksE (fun (x : TExpr) (d : Int) (s : Int) => qa0 x d s) (fun (n : Nat) (x : TExpr) (d : Int) (s : Int) => qab_i n x d s) where
 step:=by
  intro n x d s hd1 hd2 hl;show qab_f (qab_i n) x d s=_;unfold qab_f;rw[zaaw];congr 1;funext y0
  have hL := zabu (σ := Int) x.args (fun y s => qab_i n y (d + 1) s) (fun m i s => qab_i3 (qab_i n) m d x.args (x.args.length : Int) i s)
   (fun m i s h0 h=>by simp only[qab_i3,qab_t3,decide_eq_false h,cond_false])
   (fun m i s y h0 h hy=>by
    simp only[qab_i3,qab_t3,decide_eq_true h,decide_eq_true h0,cond_true,hy,Option.bind_some,zaaw];rw[i64_in (i+1) (by omega),i64_in (d+1) (by omega)])
   x.args.length fuel 0 y0 (by omega) (by omega) (by unfold fuel; omega)
  try simp only at hL
  rw[qab_l3,zaaa,hL];simp[zabv]
theorem wEx_1 (x:TExpr) (s:Int) (hx:nE x≤100000000000000000):qab x 1 s=(evE x 1).foldlM (atEv (fun (x:TStmt) (d:Int) (s:Int)=>qaZ x d s) (fun (x:TExpr) (d:Int) (s:Int)=>qa0 x d s)) s:=by
 rw[qab,zaaa];exact zaky (g:=(fun (x:TStmt) (d:Int) (s:Int)=>qaZ x d s)) wE_1 (nE x) fuel x 1 s (Nat.le_refl _) (by unfold fuel; omega) (by omega) (by omega)
theorem wS_1 : WalksS (fun (x : TStmt) (d : Int) (s : Int) => qaZ x d s) (fun (x : TExpr) (d : Int) (s : Int) => qab x d s) (fun (n : Nat) (l : List TStmt) (d : Int) (s : Int) => qaj_i n l d s) where
 step:=by
  intro n l d s hd1 hd2 hl;show qaj_f (qaj_i n) l d s=_;unfold qaj_f
  have hL := zabu (σ := Int) l (fun x s => (qaZ x d s).bind fun s1 => (if zaar x.expr then qab x.expr 1 s1 else some s1).bind fun s2 => (qaj_i n x.then_ (d + 1) s2).bind fun s3 => qaj_i n x.else_ (d + 1) s3)
   (fun m i s=>qaj_i2 (qaj_i n) m d l (l.length:Int) i s)
   (fun m i s h0 h=>by simp only[qaj_i2,qaj_t2,decide_eq_false h,cond_false])
   (fun m i s y h0 h hy=>by
    have e:(bif TExpr.kind (TStmt.expr y) != (0:Int) then some true else some (decide ((↑(List.length (TExpr.args (TStmt.expr y))):Int)>(0:Int))))=some (zaar y.expr):=by
     unfold zaar;cases (y.expr.kind != 0)
     ·simp
     ·rfl
    simp only[qaj_i2,qaj_t2,decide_eq_true h,decide_eq_true h0,cond_true,hy,Option.bind_some,zaaw,zad0,e];rw[i64_in (i+1) (by omega),i64_in (d+1) (by omega)];cases zaar y.expr<;>simp[Option.bind_assoc])
   l.length fuel 0 s (by omega) (by omega) (by unfold fuel; omega)
  try simp only at hL
  rw[qaj_l2,zaaa,hL];simp[zabv]
theorem wSt_1 (l:List TStmt) (s:Int) (hl:nSs l≤10000000000000000):qaj l 1 s=(evSs l 1).foldlM (atEv (fun (x:TStmt) (d:Int) (s:Int)=>qaZ x d s) (fun (x:TExpr) (d:Int) (s:Int)=>qa0 x d s)) s:=by
 rw[qaj,zaaa];exact zak7 (g:=(fun (x:TStmt) (d:Int) (s:Int)=>qaZ x d s)) (h:=(fun (x:TExpr) (d:Int) (s:Int)=>qa0 x d s)) (fun x s hx=>wEx_1 x s hx) wS_1 (nSs l) fuel l 1 s (Nat.le_refl _) (by unfold fuel; omega) (by omega) (by omega)
theorem wP_1 (p:TProg) (s:Int) (hl:nT p.threads≤10000000000000000):qaf p s=(evP p).foldlM (atEv (fun (x:TStmt) (d:Int) (s:Int)=>qaZ x d s) (fun (x:TExpr) (d:Int) (s:Int)=>qa0 x d s)) s:=by
 rw[qaf,zaaa];unfold qaf_f;have hn:=zadu p.threads
 have hL := zabu (σ := Int) p.threads (fun t s => qaj t.body 1 s) (fun m i s => qaf_i2 m p.threads (p.threads.length : Int) i s)
  (fun m i s h0 h=>by simp only[qaf_i2,qaf_t2,decide_eq_false h,cond_false])
  (fun m i s y h0 h hy=>by
   simp only[qaf_i2,qaf_t2,decide_eq_true h,decide_eq_true h0,cond_true,hy,Option.bind_some];rw[i64_in (i+1) (by omega)])
  p.threads.length fuel 0 s (by omega) (by omega) (by unfold fuel; omega)
 try simp only at hL
 rw[qaf_l2,zaaa,hL];unfold evP;rw[zacm];have:∀ (l:List TThread) (s:Int),(∀ t∈l,nSs t.body≤10000000000000000)→l.foldlM (fun s t=>qaj t.body 1 s) s=l.foldlM (fun s t=>(evSs t.body 1).foldlM (atEv (fun (x:TStmt) (d:Int) (s:Int)=>qaZ x d s) (fun (x:TExpr) (d:Int) (s:Int)=>qa0 x d s)) s) s:=by
  intro l;induction l with
  |nil=>intro s _; rfl
  |cons t l ih=>
   intro s ht;rw[List.foldlM_cons,List.foldlM_cons,wSt_1 t.body s (ht t (by simp))];congr 1;funext s';exact ih s' (fun z hz=>ht z (by simp[hz]))
 rw[Int.toNat_zero,List.drop_zero,this _ _ (fun t ht=>by have:=zaeg ht; omega)];simp[zabv]
theorem wE_2 : WalksE (fun (x : TExpr) (d : Int) (s : Int) => qaX x d s) (fun (n : Nat) (x : TExpr) (d : Int) (s : Int) => qac_i n x d s) where
 step:=by
  intro n x d s hd1 hd2 hl;show qac_f (qac_i n) x d s=_;unfold qac_f;rw[zaaw];congr 1;funext y0
  have hL := zabu (σ := Int) x.args (fun y s => qac_i n y (d + 1) s) (fun m i s => qac_i3 (qac_i n) m d x.args (x.args.length : Int) i s)
   (fun m i s h0 h=>by simp only[qac_i3,qac_t3,decide_eq_false h,cond_false])
   (fun m i s y h0 h hy=>by
    simp only[qac_i3,qac_t3,decide_eq_true h,decide_eq_true h0,cond_true,hy,Option.bind_some,zaaw];rw[i64_in (i+1) (by omega),i64_in (d+1) (by omega)])
   x.args.length fuel 0 y0 (by omega) (by omega) (by unfold fuel; omega)
  try simp only at hL
  rw[qac_l3,zaaa,hL];simp[zabv]
theorem wEx_2 (x:TExpr) (s:Int) (hx:nE x≤100000000000000000):qac x 1 s=(evE x 1).foldlM (atEv (fun (x:TStmt) (d:Int) (s:Int)=>qaW x d s) (fun (x:TExpr) (d:Int) (s:Int)=>qaX x d s)) s:=by
 rw[qac,zaaa];exact zaky (g:=(fun (x:TStmt) (d:Int) (s:Int)=>qaW x d s)) wE_2 (nE x) fuel x 1 s (Nat.le_refl _) (by unfold fuel; omega) (by omega) (by omega)
theorem wS_2 : WalksS (fun (x : TStmt) (d : Int) (s : Int) => qaW x d s) (fun (x : TExpr) (d : Int) (s : Int) => qac x d s) (fun (n : Nat) (l : List TStmt) (d : Int) (s : Int) => qak_i n l d s) where
 step:=by
  intro n l d s hd1 hd2 hl;show qak_f (qak_i n) l d s=_;unfold qak_f
  have hL := zabu (σ := Int) l (fun x s => (qaW x d s).bind fun s1 => (if zaar x.expr then qac x.expr 1 s1 else some s1).bind fun s2 => (qak_i n x.then_ (d + 1) s2).bind fun s3 => qak_i n x.else_ (d + 1) s3)
   (fun m i s=>qak_i2 (qak_i n) m d l (l.length:Int) i s)
   (fun m i s h0 h=>by simp only[qak_i2,qak_t2,decide_eq_false h,cond_false])
   (fun m i s y h0 h hy=>by
    have e:(bif TExpr.kind (TStmt.expr y) != (0:Int) then some true else some (decide ((↑(List.length (TExpr.args (TStmt.expr y))):Int)>(0:Int))))=some (zaar y.expr):=by
     unfold zaar;cases (y.expr.kind != 0)
     ·simp
     ·rfl
    simp only[qak_i2,qak_t2,decide_eq_true h,decide_eq_true h0,cond_true,hy,Option.bind_some,zaaw,zad0,e];rw[i64_in (i+1) (by omega),i64_in (d+1) (by omega)];cases zaar y.expr<;>simp[Option.bind_assoc])
   l.length fuel 0 s (by omega) (by omega) (by unfold fuel; omega)
  try simp only at hL
  rw[qak_l2,zaaa,hL];simp[zabv]
theorem wSt_2 (l:List TStmt) (s:Int) (hl:nSs l≤10000000000000000):qak l 1 s=(evSs l 1).foldlM (atEv (fun (x:TStmt) (d:Int) (s:Int)=>qaW x d s) (fun (x:TExpr) (d:Int) (s:Int)=>qaX x d s)) s:=by
 rw[qak,zaaa];exact zak7 (g:=(fun (x:TStmt) (d:Int) (s:Int)=>qaW x d s)) (h:=(fun (x:TExpr) (d:Int) (s:Int)=>qaX x d s)) (fun x s hx=>wEx_2 x s hx) wS_2 (nSs l) fuel l 1 s (Nat.le_refl _) (by unfold fuel; omega) (by omega) (by omega)
theorem wP_2 (p:TProg) (s:Int) (hl:nT p.threads≤10000000000000000):qag p s=(evP p).foldlM (atEv (fun (x:TStmt) (d:Int) (s:Int)=>qaW x d s) (fun (x:TExpr) (d:Int) (s:Int)=>qaX x d s)) s:=by
 rw[qag,zaaa];unfold qag_f;have hn:=zadu p.threads
 have hL := zabu (σ := Int) p.threads (fun t s => qak t.body 1 s) (fun m i s => qag_i2 m p.threads (p.threads.length : Int) i s)
  (fun m i s h0 h=>by simp only[qag_i2,qag_t2,decide_eq_false h,cond_false])
  (fun m i s y h0 h hy=>by
   simp only[qag_i2,qag_t2,decide_eq_true h,decide_eq_true h0,cond_true,hy,Option.bind_some];rw[i64_in (i+1) (by omega)])
  p.threads.length fuel 0 s (by omega) (by omega) (by unfold fuel; omega)
 try simp only at hL
 rw[qag_l2,zaaa,hL];unfold evP;rw[zacm];have:∀ (l:List TThread) (s:Int),(∀ t∈l,nSs t.body≤10000000000000000)→l.foldlM (fun s t=>qak t.body 1 s) s=l.foldlM (fun s t=>(evSs t.body 1).foldlM (atEv (fun (x:TStmt) (d:Int) (s:Int)=>qaW x d s) (fun (x:TExpr) (d:Int) (s:Int)=>qaX x d s)) s) s:=by
  intro l;induction l with
  |nil=>intro s _; rfl
  |cons t l ih=>
   intro s ht;rw[List.foldlM_cons,List.foldlM_cons,wSt_2 t.body s (ht t (by simp))];congr 1;funext s';exact ih s' (fun z hz=>ht z (by simp[hz]))
 rw[Int.toNat_zero,List.drop_zero,this _ _ (fun t ht=>by have:=zaeg ht; omega)];simp[zabv]
theorem wE_3 : WalksE (fun (x : TExpr) (d : Int) (s : (List ((List UInt8) × Int)) × (List (List UInt8))) => qa4 x d s.1 s.2) (fun (n : Nat) (x : TExpr) (d : Int) (s : (List ((List UInt8) × Int)) × (List (List UInt8))) => qad_i n x d s.1 s.2) where
 step:=by
  intro n x d s hd1 hd2 hl;show qad_f (qad_i n) x d s.1 s.2=_;unfold qad_f;rw[zaaw];congr 1;funext y0
  have hL := zabu (σ := (List ((List UInt8) × Int)) × (List (List UInt8))) x.args (fun y s => qad_i n y (d + 1) s.1 s.2) (fun m i s => qad_i3 (qad_i n) m d x.args (x.args.length : Int) i s.1 s.2)
   (fun m i s h0 h=>by simp only[qad_i3,qad_t3,decide_eq_false h,cond_false])
   (fun m i s y h0 h hy=>by
    simp only[qad_i3,qad_t3,decide_eq_true h,decide_eq_true h0,cond_true,hy,Option.bind_some,zaaw];rw[i64_in (i+1) (by omega),i64_in (d+1) (by omega)])
   x.args.length fuel 0 y0 (by omega) (by omega) (by unfold fuel; omega)
  try simp only at hL
  rw[qad_l3,zaaa,hL];simp[zabv]
theorem wEx_3 (x:TExpr) (s:(List ((List UInt8)×Int))×(List (List UInt8))) (hx:nE x≤100000000000000000):qad x 1 s.1 s.2=(evE x 1).foldlM (atEv (fun (x:TStmt) (d:Int) (s:(List ((List UInt8)×Int))×(List (List UInt8)))=>qa3 x d s.1 s.2) (fun (x:TExpr) (d:Int) (s:(List ((List UInt8)×Int))×(List (List UInt8)))=>qa4 x d s.1 s.2)) s:=by
 rw[qad,zaaa];exact zaky (g:=(fun (x:TStmt) (d:Int) (s:(List ((List UInt8)×Int))×(List (List UInt8)))=>qa3 x d s.1 s.2)) wE_3 (nE x) fuel x 1 s (Nat.le_refl _) (by unfold fuel; omega) (by omega) (by omega)
theorem wS_3 : WalksS (fun (x : TStmt) (d : Int) (s : (List ((List UInt8) × Int)) × (List (List UInt8))) => qa3 x d s.1 s.2) (fun (x : TExpr) (d : Int) (s : (List ((List UInt8) × Int)) × (List (List UInt8))) => qad x d s.1 s.2) (fun (n : Nat) (l : List TStmt) (d : Int) (s : (List ((List UInt8) × Int)) × (List (List UInt8))) => qal_i n l d s.1 s.2) where
 step:=by
  intro n l d s hd1 hd2 hl;show qal_f (qal_i n) l d s.1 s.2=_;unfold qal_f
  have hL := zabu (σ := (List ((List UInt8) × Int)) × (List (List UInt8))) l (fun x s => (qa3 x d s.1 s.2).bind fun s1 => (if zaar x.expr then qad x.expr 1 s1.1 s1.2 else some s1).bind fun s2 => (qal_i n x.then_ (d + 1) s2.1 s2.2).bind fun s3 => qal_i n x.else_ (d + 1) s3.1 s3.2)
   (fun m i s=>qal_i2 (qal_i n) m d l (l.length:Int) i s.1 s.2)
   (fun m i s h0 h=>by simp only[qal_i2,qal_t2,decide_eq_false h,cond_false])
   (fun m i s y h0 h hy=>by
    have e:(bif TExpr.kind (TStmt.expr y) != (0:Int) then some true else some (decide ((↑(List.length (TExpr.args (TStmt.expr y))):Int)>(0:Int))))=some (zaar y.expr):=by
     unfold zaar;cases (y.expr.kind != 0)
     ·simp
     ·rfl
    simp only[qal_i2,qal_t2,decide_eq_true h,decide_eq_true h0,cond_true,hy,Option.bind_some,zaaw,zad0,e];rw[i64_in (i+1) (by omega),i64_in (d+1) (by omega)];cases zaar y.expr<;>simp[Option.bind_assoc])
   l.length fuel 0 s (by omega) (by omega) (by unfold fuel; omega)
  try simp only at hL
  rw[qal_l2,zaaa,hL];simp[zabv]
theorem wSt_3 (l:List TStmt) (s:(List ((List UInt8)×Int))×(List (List UInt8))) (hl:nSs l≤10000000000000000):qal l 1 s.1 s.2=(evSs l 1).foldlM (atEv (fun (x:TStmt) (d:Int) (s:(List ((List UInt8)×Int))×(List (List UInt8)))=>qa3 x d s.1 s.2) (fun (x:TExpr) (d:Int) (s:(List ((List UInt8)×Int))×(List (List UInt8)))=>qa4 x d s.1 s.2)) s:=by
 rw[qal,zaaa];exact zak7 (g:=(fun (x:TStmt) (d:Int) (s:(List ((List UInt8)×Int))×(List (List UInt8)))=>qa3 x d s.1 s.2)) (h:=(fun (x:TExpr) (d:Int) (s:(List ((List UInt8)×Int))×(List (List UInt8)))=>qa4 x d s.1 s.2)) (fun x s hx=>wEx_3 x s hx) wS_3 (nSs l) fuel l 1 s (Nat.le_refl _) (by unfold fuel; omega) (by omega) (by omega)
theorem wP_3 (p:TProg) (s:(List ((List UInt8)×Int))×(List (List UInt8))) (hl:nT p.threads≤10000000000000000):qah p s.1 s.2=(evP p).foldlM (atEv (fun (x:TStmt) (d:Int) (s:(List ((List UInt8)×Int))×(List (List UInt8)))=>qa3 x d s.1 s.2) (fun (x:TExpr) (d:Int) (s:(List ((List UInt8)×Int))×(List (List UInt8)))=>qa4 x d s.1 s.2)) s:=by
 rw[qah,zaaa];unfold qah_f;have hn:=zadu p.threads
 have hL := zabu (σ := (List ((List UInt8) × Int)) × (List (List UInt8))) p.threads (fun t s => qal t.body 1 s.1 s.2) (fun m i s => qah_i2 m p.threads (p.threads.length : Int) i s.1 s.2)
  (fun m i s h0 h=>by simp only[qah_i2,qah_t2,decide_eq_false h,cond_false])
  (fun m i s y h0 h hy=>by
   simp only[qah_i2,qah_t2,decide_eq_true h,decide_eq_true h0,cond_true,hy,Option.bind_some];rw[i64_in (i+1) (by omega)])
  p.threads.length fuel 0 s (by omega) (by omega) (by unfold fuel; omega)
 try simp only at hL
 rw[qah_l2,zaaa,hL];unfold evP;rw[zacm];have:∀ (l:List TThread) (s:(List ((List UInt8)×Int))×(List (List UInt8))),(∀ t∈l,nSs t.body≤10000000000000000)→l.foldlM (fun s t=>qal t.body 1 s.1 s.2) s=l.foldlM (fun s t=>(evSs t.body 1).foldlM (atEv (fun (x:TStmt) (d:Int) (s:(List ((List UInt8)×Int))×(List (List UInt8)))=>qa3 x d s.1 s.2) (fun (x:TExpr) (d:Int) (s:(List ((List UInt8)×Int))×(List (List UInt8)))=>qa4 x d s.1 s.2)) s) s:=by
  intro l;induction l with
  |nil=>intro s _; rfl
  |cons t l ih=>
   intro s ht;rw[List.foldlM_cons,List.foldlM_cons,wSt_3 t.body s (ht t (by simp))];congr 1;funext s';exact ih s' (fun z hz=>ht z (by simp[hz]))
 rw[Int.toNat_zero,List.drop_zero,this _ _ (fun t ht=>by have:=zaeg ht; omega)];simp[zabv]
end Lift.A3
namespace Lift.A3
open Go Go.RowKit Lift Go.IntWalk Lift.Fn
set_option linter.unusedVariables false
set_option linter.unusedSimpArgs false
theorem zat0 {α σ ρ:Type} (l:List α) (I:List α→σ→Prop) (P:List α→σ→ρ) (L:Nat→Int→σ→Option ρ)
  (h0:∀ n i s,0≤i→¬ i<(l.length:Int)→I [] s→L (n+1) i s=some (P [] s))
  (h1:∀ n i s x r,0≤i→i<(l.length:Int)→l[i.toNat]? = some x→x∈l→I (x::r) s→(∃ s',I r s'∧L (n+1) i s=L n (i+1) s'∧P (x::r) s=P r s')∨L (n+1) i s=some (P (x::r) s)) :
  ∀ (k n:Nat) (i:Int) (s:σ),0≤i→l.length-i.toNat≤k→k<n→I (l.drop i.toNat) s→L n i s=some (P (l.drop i.toNat) s):=by
 intro k;induction k with
 |zero=>
  intro n i s hi hk hn hI;obtain ⟨n,rfl⟩:∃ q,n=q+1:=⟨n-1,by omega⟩;rw[List.drop_eq_nil_of_le (by omega)] at hI ⊢;exact h0 n i s hi (by omega) hI
 |succ k ih=>
  intro n i s hi hk hn hI;obtain ⟨n,rfl⟩:∃ q,n=q+1:=⟨n-1,by omega⟩;by_cases c:i<(l.length:Int)
  ·have hlt:i.toNat<l.length:=by omega
   rw[List.drop_eq_getElem_cons hlt] at hI ⊢;rcases h1 n i s l[i.toNat] _ hi c (List.getElem?_eq_getElem hlt) (List.getElem_mem hlt) hI with ⟨s',i1,e1,e2⟩|e
   ·have e:(i+1).toNat=i.toNat+1:=by omega
    rw[e1,ih n (i+1) s' (by omega) (by omega) (by omega) (by rw[e]; exact i1),e2,e]
   ·exact e
  ·rw[List.drop_eq_nil_of_le (by omega)] at hI ⊢;exact h0 n i s hi c hI
theorem zacr {α σ ρ:Type} (l:List α) (I:List α→σ→Prop) (P:List α→σ→ρ) (L:Nat→Int→σ→Option ρ)
  (h0:∀ n i s,0≤i→¬ i<(l.length:Int)→I [] s→L (n+1) i s=some (P [] s))
  (h1:∀ n i s x r,0≤i→i<(l.length:Int)→l[i.toNat]? = some x→x∈l→I (x::r) s→(∃ s',I r s'∧L (n+1) i s=L n (i+1) s'∧P (x::r) s=P r s')∨L (n+1) i s=some (P (x::r) s))
  (n:Nat) (s:σ) (hn:l.length<n) (hI:I l s):L n 0 s=some (P l s):=by
 have:=zat0 l I P L h0 h1 l.length n 0 s (by omega) (by omega) hn;rw[Int.toNat_zero,List.drop_zero] at this;exact this hI
mutual
theorem lenE:∀ (x:TExpr) (d:Int),(evE x d).length=nE x
 |⟨k,n,m,l⟩,d=>by simp[evE,nE,lenEs l (d+1)]; omega
theorem lenEs:∀ (l:List TExpr) (d:Int),(evEs l d).length=nEs l
 |[],d=>by simp[evEs,nEs]
 |x::l,d=>by simp[evEs,nEs,lenE x d,lenEs l d]
end
mutual
def cS:TStmt→Nat
 |⟨_,_,_,x,_,t,o⟩=>1+(if zaar x then nE x else 0)+cSs t+cSs o
def cSs:List TStmt→Nat
 |[]=>0
 |x::l=>cS x+cSs l
end
def cT:List TThread→Nat
 |[]=>0
 |t::l=>cSs t.body+cT l
theorem cS_eq (x:TStmt):cS x=1+(if zaar x.expr then nE x.expr else 0)+cSs x.then_+cSs x.else_:=by cases x; simp[cS]
mutual
theorem lenS:∀ (x:TStmt) (d:Int),(evS x d).length=cS x
 |⟨k,r,m,x,c,t,o⟩,d=>by
  have h1:=lenSs t (d+1);have h2:=lenSs o (d+1);have h3:=lenE x 1;simp only[evS,cS,List.length_cons,List.length_append,h1,h2];split<;>simp[h3]<;>omega
theorem lenSs:∀ (l:List TStmt) (d:Int),(evSs l d).length=cSs l
 |[],d=>by simp[evSs,cSs]
 |x::l,d=>by simp[evSs,cSs,lenS x d,lenSs l d]
end
mutual
theorem cS_le:∀ x:TStmt,cS x≤nS x
 |⟨k,r,m,x,c,t,o⟩=>by
  have h1:=zakj t;have h2:=zakj o;simp only[cS,nS];split<;>omega
theorem zakj:∀ l:List TStmt,cSs l≤nSs l
 |[]=>by simp[cSs]
 |x::l=>by have:=cS_le x; have:=zakj l; simp only[cSs,nSs]; omega
end
theorem cT_le:∀ l:List TThread,cT l≤nT l
 |[]=>by simp[cT]
 |x::l=>by have:=zakj x.body; have:=cT_le l; simp only[cT,nT]; omega
theorem lenP : ∀ (l : List TThread), (l.flatMap fun t => evSs t.body 1).length = cT l
 |[]=>rfl
 |t::l=>by simp only[List.flatMap_cons,List.length_append,lenSs,lenP l,cT]
theorem zakc:∀ (l:List Ev) (s:Int),0≤s→s+l.length≤1000000000000000000 →
  l.foldlM (atEv (fun (x:TStmt) (d:Int) (s:Int)=>qaW x d s) (fun (x:TExpr) (d:Int) (s:Int)=>qaX x d s)) s=some (s+l.length)
 |[],s,_,_=>by simp
 |e::l,s,h0,h=>by
  simp only[List.length_cons] at h;have e1:atEv (fun (x:TStmt) (d:Int) (s:Int)=>qaW x d s) (fun (x:TExpr) (d:Int) (s:Int)=>qaX x d s) s e=some (s+1):=by
   cases e with
   |s x d=>show qaW x d s=_; rw[qaW,zaaa]; unfold qaW_f; rw[i64_in (s+1) (by omega)]
   |e x d=>show qaX x d s=_; rw[qaX,zaaa]; unfold qaX_f; rw[i64_in (s+1) (by omega)]
  rw[List.foldlM_cons,e1];show List.foldlM _ (s+1) l=_;rw[zakc l (s+1) (by omega) (by omega),List.length_cons];congr 1;omega
theorem zalo (p:TProg) (h:nT p.threads≤10000000000000000):qaV p=some (cT p.threads:Int):=by
 rw[qaV,zaaa];unfold qaV_f;have hc:=cT_le p.threads;have hl:=lenP p.threads;rw[zafz,wP_2 p 0 h,zakc _ 0 (by omega) (by unfold evP; rw[hl]; omega),Option.bind_some];unfold evP;rw[hl];simp
def evD:Ev→Int
 |.s _ d=>d
 |.e _ d=>d
def maxEv (l:List Ev) (s:Int):Int:=l.foldl (fun s e=>max s (evD e)) s
theorem zao3 (a b:Int):(if a>b then a else b)=max b a:=by
 rw[Int.max_def];split<;>split<;>omega
theorem zal6 : ∀ (l : List Ev) (s : Int), l.foldlM (atEv (fun (x : TStmt) (d : Int) (s : Int) => qaZ x d s) (fun (x : TExpr) (d : Int) (s : Int) => qa0 x d s)) s = some (maxEv l s)
 |[],s=>rfl
 |e::l,s=>by
  have e1:atEv (fun (x:TStmt) (d:Int) (s:Int)=>qaZ x d s) (fun (x:TExpr) (d:Int) (s:Int)=>qa0 x d s) s e=some (max s (evD e)):=by
   cases e with
   |s x d=>show qaZ x d s=_; rw[qaZ,zaaa]; unfold qaZ_f; rw[zao3]; rfl
   |e x d=>show qa0 x d s=_; rw[qa0,zaaa]; unfold qa0_f; rw[zao3]; rfl
  rw[List.foldlM_cons,e1];exact zal6 l _
theorem zan4 (p:TProg) (h:nT p.threads≤10000000000000000):qaY p=some (maxEv (evP p) 0):=by
 rw[qaY,zaaa];unfold qaY_f;rw[zafz,wP_1 p 0 h,zal6];rfl
end Lift.A3
namespace Lift.A3
open Go Go.RowKit Lift Go.IntWalk Lift.Fn
set_option linter.unusedVariables false
set_option linter.unusedSimpArgs false
theorem zar8:∀ (k n:Nat) (x:TExpr),nE x≤k→k<n→k≤100000000→qax_i n x=some x:=by
 intro k;induction k with
 |zero=>intro n x h; have:=nE_eq x; omega
 |succ k ih=>
  intro n x h hn hb;obtain ⟨n,rfl⟩:∃ q,n=q+1:=⟨n-1,by omega⟩;have hx:=nE_eq x;have hl:=zag5 x.args;show qax_f (qax_i n) x=_;unfold qax_f
  have hL := zacr (σ := List TExpr) x.args (fun r s => s.length + r.length = x.args.length) (fun r s => ((0 : Int), (0 : Int), ([] : List UInt8), x.kind, x.num, x.name, s ++ r))
   (fun m i s=>qax_i3 (qax_i n) m i x.kind x.num x.name x.args 0 0 [] x.kind x.num x.name s)
   (fun m i s h0 h hI=>by
    simp only[qax_i3,qax_t3,decide_eq_false h,cond_false,List.append_nil])
   (fun m i s y r h0 h hy hm hI=>by
    have hy1:=zag7 hm;have hI':s.length+(y::r).length=x.args.length:=hI;simp only[List.length_cons] at hI';refine Or.inl ⟨s++[y],(by show (s++[y]).length+r.length=x.args.length; simp only[List.length_append,List.length_cons,List.length_nil]; omega),?_,by simp⟩;simp only[qax_i3,qax_t3,decide_eq_true h,decide_eq_true h0,cond_true,hy,Option.bind_some];rw[ih n y (by omega) (by omega) (by omega),Option.bind_some,i64_in (i+1) (by omega)];simp only[List.length_cons,List.length_nil,zaaw];rw[decide_eq_true (by omega),cond_true])
   fuel [] (by unfold fuel; omega) (by simp)
  rw[qax_l3,zaaa,hL,Option.bind_some];dsimp only;rw[List.nil_append,zaaw]
theorem zaok (x:TExpr) (h:nE x≤100000000):qax x=some x:=by
 rw[qax,zaaa,zar8 (nE x) fuel x (Nat.le_refl _) (by unfold fuel; omega) (by omega)]
theorem zasc:∀ (k n:Nat) (l:List TStmt),nSs l≤k→k<n→k≤100000000→qay_i n l=some l:=by
 intro k;induction k with
 |zero=>
  intro n l h hn _;obtain ⟨n,rfl⟩:∃ q,n=q+1:=⟨n-1,by omega⟩;have hl:=zads l;obtain rfl:l=[]:=List.eq_nil_of_length_eq_zero (by omega);show qay_f (qay_i n) []=_;unfold qay_f;rw[qay_l3,zaaa];rfl
 |succ k ih=>
  intro n l h hn hb;obtain ⟨n,rfl⟩:∃ q,n=q+1:=⟨n-1,by omega⟩;have hl:=zads l;show qay_f (qay_i n) l=_;unfold qay_f
  have hL := zacr (σ := List TStmt) l (fun r s => s.length + r.length = l.length) (fun r s => s ++ r)
   (fun m i s=>qay_i3 (qay_i n) m l i s)
   (fun m i s h0 h hI=>by
    simp only[qay_i3,qay_t3,decide_eq_false h,cond_false,List.append_nil])
   (fun m i s y r h0 h hy hm hI=>by
    have hy1:=zahf hm;have hy2:=nS_eq y;have hI':s.length+(y::r).length=l.length:=hI;simp only[List.length_cons] at hI';refine Or.inl ⟨s++[y],(by show (s++[y]).length+r.length=l.length; simp only[List.length_append,List.length_cons,List.length_nil]; omega),?_,by simp⟩;simp only[qay_i3,qay_t3,decide_eq_true h,decide_eq_true h0,hy,Option.bind_some,zaaw,cond_true];rw[ih n y.then_ (by omega) (by omega) (by omega),ih n y.else_ (by omega) (by omega) (by omega),zaok y.expr (by omega),i64_in (i+1) (by omega)];simp only[Option.bind_some,List.length_cons,List.length_nil,zaaw,zad0];rw[decide_eq_true (by omega),cond_true])
   fuel [] (by unfold fuel; omega) (by simp)
  rw[qay_l3,zaaa,hL];rfl
theorem zatb (p:TProg) (h:nT p.threads≤100000000) (h1:p.cells.length≤100000000) (h2:p.mutexes.length≤100000000) :
  qaw p=some (p.cells,p.mutexes,p.threads):=by
 rw[qaw,zaaa];unfold qaw_f;have hl:=zadu p.threads
 have hL := zacr (σ := List TThread) p.threads (fun r s => s.length + r.length = p.threads.length) (fun r s => (p.cells, p.mutexes, s ++ r))
   (fun m i s=>qaw_i5 m i p.cells p.mutexes p.threads p.cells p.mutexes s)
   (fun m i s h0 h hI=>by
    simp only[qaw_i5,qaw_t5,decide_eq_false h,cond_false,List.append_nil])
   (fun m i s y r h0 h hy hm hI=>by
    have hy1:=zaeg hm;have hI':s.length+(y::r).length=p.threads.length:=hI;simp only[List.length_cons] at hI';refine Or.inl ⟨s++[y],(by show (s++[y]).length+r.length=p.threads.length; simp only[List.length_append,List.length_cons,List.length_nil]; omega),?_,by simp⟩;simp only[qaw_i5,qaw_t5,decide_eq_true h,decide_eq_true h0,hy,Option.bind_some,cond_true];rw[qay,zaaa,zasc (nSs y.body) fuel y.body (Nat.le_refl _) (by unfold fuel; omega) (by omega),Option.bind_some,i64_in (i+1) (by omega)];simp only[List.length_cons,List.length_nil];rw[decide_eq_true (by omega),cond_true])
   fuel [] (by unfold fuel; omega) (by simp)
 rw[decide_eq_true (by omega),cond_true,decide_eq_true (by omega),cond_true,qaw_l5,zaaa,hL];rfl
end Lift.A3
namespace Lift.A3
open Go Go.RowKit Lift Go.IntWalk Lift.Fn
set_option linter.unusedVariables false
set_option linter.unusedSimpArgs false
def two {α:Type} (f:α→α→Bool):List α→List α→Bool
 |[],[]=>true
 |x::l,y::r=>f x y&&two f l r
 |_,_=>false
theorem zao6 {α:Type} (f:α→α→Bool):∀ (l r:List α),l.length≠r.length→two f l r=false
 |[],[],h=>absurd rfl h
 |[],_::_,_=>rfl
 |_::_,[],_=>rfl
 |x::l,y::r,h=>by
  rw[two,zao6 f l r (by simpa using h),Bool.and_false]
theorem zapa {α : Type} (f : α → α → Bool) : ∀ (l r : List α), l.length = r.length → two f l r = (l.zip r).all fun p => f p.1 p.2
 |[],[],h=>rfl
 |x::l,y::r,h=>by
  rw[two,zapa f l r (by simpa using h),List.zip_cons_cons,List.all_cons]
theorem zaf3 {α:Type} (f:α→α→Bool):∀ (l:List α),(∀ x∈l,f x x=true)→two f l l=true
 |[],h=>rfl
 |x::l,h=>by
  rw[two,h x (by simp),zaf3 f l (fun y hy=>h y (by simp[hy]))];rfl
theorem zaf5 {α τ:Type} (f:α→α→Bool) (l r:List α) (e:τ) (L:Nat→Int→Option (Bool⊕τ)) (hlen:l.length=r.length)
  (h0:∀ n i,0≤i→¬ i<(l.length:Int)→L (n+1) i=some (.inr e))
  (h1:∀ n i x y,0≤i→i<(l.length:Int)→l[i.toNat]? = some x→r[i.toNat]? = some y→x∈l→y∈r→L (n+1) i=bif f x y then L n (i+1) else some (.inl false))
  (n:Nat) (hn:l.length<n):L n 0=some (bif two f l r then .inr e else .inl false):=by
 have hz:(l.zip r).length=l.length:=by rw[List.length_zip]; omega
 have := zacr (σ := Unit) (l.zip r) (fun _ _ => True) (fun q _ => (bif q.all fun p => f p.1 p.2 then .inr e else .inl false : Bool ⊕ τ)) (fun m i _ => L m i)
  (fun m i s h h' _=>h0 m i h (by rw[← hz]; exact h'))
  (fun m i s p q h h' hp hm _=>by
   obtain ⟨x,y⟩:=p;obtain ⟨e1,e2⟩:=List.getElem?_zip_eq_some.1 hp;have:=h1 m i x y h (by rw[← hz]; exact h') e1 e2 (List.mem_of_getElem? e1) (List.mem_of_getElem? e2);cases hf:f x y with
   |true=>
    rw[hf,cond_true] at this;exact Or.inl ⟨(),trivial,this,by rw[List.all_cons,hf,Bool.true_and]⟩
   |false=>
    rw[hf,cond_false] at this;refine Or.inr ?_;rw[List.all_cons,hf,Bool.false_and];exact this)
  n () (by omega) trivial
 rw[zapa f l r hlen];exact this
mutual
def sE:TExpr→TExpr→Bool
 |⟨k,n,m,l⟩,⟨k',n',m',l'⟩=>k==k'&&(n==n'&&(m==m'&&sEs l l'))
def sEs:List TExpr→List TExpr→Bool
 |[],[]=>true
 |x::l,y::r=>sE x y&&sEs l r
 |_,_=>false
end
theorem zapf:∀ l r,sEs l r=two sE l r
 |[],[]=>by simp[sEs,two]
 |[],_::_=>by simp[sEs,two]
 |_::_,[]=>by simp[sEs,two]
 |x::l,y::r=>by rw[sEs,two,zapf l r]
theorem sE_eq (x y:TExpr):sE x y=(x.kind==y.kind&&(x.num==y.num&&(x.name==y.name&&two sE x.args y.args))):=by
 cases x; cases y; rw[sE,zapf]
mutual
def sS:TStmt→TStmt→Bool
 |⟨k,r,m,x,c,t,o⟩,⟨k',r',m',x',c',t',o'⟩=>k==k'&&(r==r'&&(m==m'&&(c==c'&&(sE x x'&&(sSs t t'&&sSs o o')))))
def sSs:List TStmt→List TStmt→Bool
 |[],[]=>true
 |x::l,y::r=>sS x y&&sSs l r
 |_,_=>false
end
theorem zald:∀ l r,sSs l r=two sS l r
 |[],[]=>by simp[sSs,two]
 |[],_::_=>by simp[sSs,two]
 |_::_,[]=>by simp[sSs,two]
 |x::l,y::r=>by rw[sSs,two,zald l r]
theorem sS_eq (x y:TStmt):sS x y=(x.kind==y.kind&&(x.reg==y.reg&&(x.name==y.name&&(x.count==y.count&&(sE x.expr y.expr&&(two sS x.then_ y.then_&&two sS x.else_ y.else_)))))):=by
 cases x; cases y; rw[sS,zald,zald]
def sT (x y:TThread):Bool:=x.name==y.name&&two sS x.body y.body
def sP (p q:TProg):Bool:=two (fun x y=>decide (x=y)) p.cells q.cells&&(two (fun x y=>x==y) p.mutexes q.mutexes&&two sT p.threads q.threads)
mutual
theorem zapj:∀ x,sE x x=true
 |⟨k,n,m,l⟩=>by rw[sE,zam7 l]; simp
theorem zam7:∀ l,sEs l l=true
 |[]=>by rw[sEs]
 |x::l=>by rw[sEs,zapj x,zam7 l]; rfl
end
mutual
theorem zao9:∀ x,sS x x=true
 |⟨k,r,m,x,c,t,o⟩=>by rw[sS,zaj6 t,zaj6 o,zapj x]; simp
theorem zaj6:∀ l,sSs l l=true
 |[]=>by rw[sSs]
 |x::l=>by rw[sSs,zao9 x,zaj6 l]; rfl
end
theorem zatd (x:TThread):sT x x=true:=by
 rw[sT,zaf3 sS _ (fun y _=>zao9 y)];simp
theorem zas6 (p:TProg):sP p p=true:=by
 rw[sP,zaf3 sT _ (fun y _=>zatd y),zaf3 _ _ (fun y _=>by simp),zaf3 _ _ (fun y _=>by simp)];rfl
theorem bcomm {α:Type} [BEq α] [LawfulBEq α] (a b:α):(a==b)=(b==a):=by
 by_cases h:a=b
 ·subst h; rfl
 ·rw[beq_false_of_ne h,beq_false_of_ne (Ne.symm h)]
end Lift.A3
namespace Lift.A3
open Go Go.RowKit Lift Go.IntWalk Lift.Fn
set_option linter.unusedVariables false
set_option linter.unusedSimpArgs false
theorem zac1 {α:Type} (f:α→α→Bool) (l r:List α) (L:Option (Bool⊕Unit)) (hL:l.length=r.length→L=some (bif two f l r then .inr () else .inl false)) :
  (bif (l.length:Int) != (r.length:Int) then some false else Option.bind L fun y0=>match y0 with|.inl y1=>some y1|.inr y1=>some true)=some (two f l r):=by
 by_cases h:l.length=r.length
 ·have h4':((l.length:Int)==(r.length:Int))=true:=by rw[h]; simp
  simp only[bne,h4',Bool.not_true,cond_false];rw[hL h];cases two f l r<;>rfl
 ·have h4':((l.length:Int)==(r.length:Int))=false:=by
   rw[beq_eq_false_iff_ne]; omega
  simp only[bne,h4',Bool.not_false,cond_true];rw[zao6 f _ _ h]
theorem zaqx:∀ (k n:Nat) (x y:TExpr),nE x≤k→k<n→k≤100000000→qbl_i n x y=some (sE x y):=by
 intro k;induction k with
 |zero=>intro n x y h; have:=nE_eq x; omega
 |succ k ih=>
  intro n x y h hn hb;obtain ⟨n,rfl⟩:∃ q,n=q+1:=⟨n-1,by omega⟩;have hx:=nE_eq x;have hl:=zag5 x.args;have e:qaL (qbl_i n) x.args y.args=some (two sE x.args y.args):=by
   rw[qaL,zaaa];refine zac1 sE x.args y.args _ (fun h4=>?_);rw[qaL_l4,zaaa]
   exact zaf5 sE x.args y.args () (fun m i => qaL_i4 (qbl_i n) m y.args x.args x.args.length i) h4
    (fun m i h0 h=>by
     simp only[qaL_i4,qaL_t4,decide_eq_false h,cond_false])
    (fun m i a b h0 h ha hb' ma mb=>by
     have:=zag7 ma;simp only[qaL_i4,qaL_t4,decide_eq_true h,decide_eq_true h0,cond_true,ha,hb',Option.bind_some,zaaw];rw[ih n a b (by omega) (by omega) (by omega),Option.bind_some,i64_in (i+1) (by omega)];cases sE a b<;>rfl)
    fuel (by unfold fuel; omega)
  show qbl_f (qbl_i n) x y=_;unfold qbl_f;rw[sE_eq,e];cases (x.kind==y.kind) with
  |false=>rfl
  |true=>
  cases (x.num==y.num) with
  |false=>rfl
  |true=>
  cases (x.name==y.name) with
  |false=>rfl
  |true=>rfl
theorem zam1 (x y:TExpr) (h:nE x≤100000000):qbl x y=some (sE x y):=by
 rw[qbl,zaaa,zaqx (nE x) fuel x y (Nat.le_refl _) (by unfold fuel; omega) (by omega)]
theorem zaru:∀ (k n:Nat) (l r:List TStmt),nSs l≤k→k<n→k≤100000000→qaM_i n l r=some (two sS l r):=by
 intro k;induction k with
 |zero=>
  intro n l r h hn hb;obtain ⟨n,rfl⟩:∃ q,n=q+1:=⟨n-1,by omega⟩;have hl:=zads l;obtain rfl:l=[]:=List.eq_nil_of_length_eq_zero (by omega);refine zac1 sS [] r _ (fun h4=>?_);obtain rfl:r=[]:=List.eq_nil_of_length_eq_zero (by simpa using h4.symm);rw[qaM_l4,zaaa];rfl
 |succ k ih=>
  intro n l r h hn hb;obtain ⟨n,rfl⟩:∃ q,n=q+1:=⟨n-1,by omega⟩;have hl:=zads l;refine zac1 sS l r _ (fun h4=>?_);rw[qaM_l4,zaaa]
  exact zaf5 sS l r () (fun m i => qaM_i4 (qaM_i n) m r l l.length i) h4
    (fun m i h0 h=>by
     simp only[qaM_i4,qaM_t4,decide_eq_false h,cond_false])
    (fun m i a b h0 h ha hb' ma mb=>by
     have h5:=zahf ma;have h6:=nS_eq a;simp only[qaM_i4,qaM_t4,decide_eq_true h,decide_eq_true h0,cond_true,ha,hb',Option.bind_some,zaaw,zad0];have e:qbm (qaM_i n) a b=some (sS a b):=by
      rw[qbm,zaaa];unfold qbm_f;rw[ih n a.then_ b.then_ (by omega) (by omega) (by omega),ih n a.else_ b.else_ (by omega) (by omega) (by omega),zaaw,zaaw,zam1 a.expr b.expr (by omega),sS_eq];cases (a.kind==b.kind) with
      |false=>rfl
      |true=>
      cases (a.reg==b.reg) with
      |false=>rfl
      |true=>
      cases (a.name==b.name) with
      |false=>rfl
      |true=>
      cases (a.count==b.count) with
      |false=>rfl
      |true=>
      cases sE a.expr b.expr with
      |false=>rfl
      |true=>
      cases two sS a.then_ b.then_ with
      |false=>rfl
      |true=>rfl
     rw[e,Option.bind_some,i64_in (i+1) (by omega)];cases sS a b<;>rfl)
    fuel (by unfold fuel; omega)
theorem zasx (p q:TProg) (h:nT p.threads≤100000000) (h1:p.cells.length≤100000000) (h2:p.mutexes.length≤100000000) :
  qa6 p q=some (sP p q):=by
 rw[qa6,zaaa];unfold qa6_f;have hl:=zadu p.threads;have e1:qaO p.cells q.cells=some (two (fun x y=>decide (x=y)) p.cells q.cells):=by
  rw[qaO,zaaa];refine zac1 _ p.cells q.cells _ (fun h4=>?_);rw[qaO_l4,zaaa]
  exact zaf5 (fun x y => decide (x = y)) p.cells q.cells () (fun m i => qaO_i4 m p.cells q.cells p.cells.length i) h4
    (fun m i h0 h=>by
     simp only[qaO_i4,qaO_t4,decide_eq_false h,cond_false])
    (fun m i a b h0 h ha hb' ma mb=>by
     simp only[qaO_i4,qaO_t4,decide_eq_true h,decide_eq_true h0,cond_true,ha,hb',Option.bind_some];rw[i64_in (i+1) (by omega)];cases decide (a=b)<;>rfl)
    fuel (by unfold fuel; omega)
 have e2:qaP p.mutexes q.mutexes=some (two (fun x y=>x==y) p.mutexes q.mutexes):=by
  rw[qaP,zaaa];refine zac1 _ p.mutexes q.mutexes _ (fun h4=>?_);rw[qaP_l4,zaaa]
  exact zaf5 (fun x y => x == y) p.mutexes q.mutexes () (fun m i => qaP_i4 m p.mutexes q.mutexes p.mutexes.length i) h4
    (fun m i h0 h=>by
     simp only[qaP_i4,qaP_t4,decide_eq_false h,cond_false])
    (fun m i a b h0 h ha hb' ma mb=>by
     simp only[qaP_i4,qaP_t4,decide_eq_true h,decide_eq_true h0,cond_true,ha,hb',Option.bind_some];rw[i64_in (i+1) (by omega)];cases (a==b)<;>rfl)
    fuel (by unfold fuel; omega)
 have e3:qaN p.threads q.threads=some (two sT p.threads q.threads):=by
  rw[qaN,zaaa];refine zac1 _ p.threads q.threads _ (fun h4=>?_);rw[qaN_l4,zaaa]
  exact zaf5 sT p.threads q.threads () (fun m i => qaN_i4 m q.threads p.threads p.threads.length i) h4
    (fun m i h0 h=>by
     simp only[qaN_i4,qaN_t4,decide_eq_false h,cond_false])
    (fun m i a b h0 h ha hb' ma mb=>by
     have h5:=zaeg ma;simp only[qaN_i4,qaN_t4,decide_eq_true h,decide_eq_true h0,cond_true,ha,hb',Option.bind_some];have e:qa7 (TThread.mk a.name a.body) (TThread.mk b.name b.body)=some (sT a b):=by
      rw[qa7,zaaa];unfold qa7_f;show Option.bind (bif a.name==b.name then Option.bind (qaM a.body b.body) fun y0=>some y0 else some false) (fun y1=>some y1)=_;rw[qaM,zaaa,zaru (nSs a.body) fuel a.body b.body (Nat.le_refl _) (by unfold fuel; omega) (by omega),sT];cases (a.name==b.name)<;>rfl
     rw[e,Option.bind_some,i64_in (i+1) (by omega)];cases sT a b<;>rfl)
    fuel (by unfold fuel; omega)
 rw[e1,e2,e3,sP];cases two (fun x y=>decide (x=y)) p.cells q.cells with
 |false=>rfl
 |true=>
 cases two (fun x y=>x==y) p.mutexes q.mutexes with
 |false=>rfl
 |true=>rfl
end Lift.A3
namespace Lift.A3
open Go Go.RowKit Lift Go.IntWalk Lift.Fn
set_option linter.unusedVariables false
set_option linter.unusedSimpArgs false
theorem zaga {α:Type} (l:List α) (L:Nat→Int→List α→Option (List α))
  (h0:∀ n i s,0≤i→¬ i<(l.length:Int)→L (n+1) i s=some s)
  (h1:∀ n i s x,0≤i→i<(l.length:Int)→l[i.toNat]? = some x→x∈l→s.length<l.length→L (n+1) i s=L n (i+1) (s++[x]))
  (n:Nat) (hn:l.length<n):L n 0 []=some l:=by
 have := zacr (σ := List α) l (fun r s => s.length + r.length = l.length) (fun r s => s ++ r) L
  (fun m i s h h' _=>by rw[h0 m i s h h',List.append_nil])
  (fun m i s x r h h' hx hm hI=>by
   have hI':s.length+(x::r).length=l.length:=hI;simp only[List.length_cons] at hI';refine Or.inl ⟨s++[x],(by show (s++[x]).length+r.length=l.length; simp only[List.length_append,List.length_cons,List.length_nil]; omega),?_,by simp⟩;exact h1 m i s x h h' hx hm (by omega))
  n [] hn (by simp)
 rw[this];rfl
theorem zarb:∀ (k n:Nat) (x:TExpr),nE x≤k→k<n→k≤100000000→qa8_i n x=some (x.kind,x.num,x.name,x.args):=by
 intro k;induction k with
 |zero=>intro n x h; have:=nE_eq x; omega
 |succ k ih=>
  intro n x h hn hb;obtain ⟨n,rfl⟩:∃ q,n=q+1:=⟨n-1,by omega⟩;have hx:=nE_eq x;have hl:=zag5 x.args;show qa8_f (qa8_i n) x=_;unfold qa8_f;have e:qbh (qa8_i n) x.args=some x.args:=by
   rw[qbh,zaaa];unfold qbh_f
   rw [qbh_l3, zaaa, zaga x.args (fun m i s => qbh_i3 (qa8_i n) m x.args x.args.length i s)
    (fun m i s h0 h=>by
     simp only[qbh_i3,qbh_t3,decide_eq_false h,cond_false])
    (fun m i s y h0 h hy hm hs=>by
     have hy1:=zag7 hm;simp only[qbh_i3,qbh_t3,decide_eq_true h,decide_eq_true h0,cond_true,hy,Option.bind_some,zaaw];rw[ih n y (by omega) (by omega) (by omega),Option.bind_some,i64_in (i+1) (by omega)];simp only[List.length_cons,List.length_nil,zaaw];rw[decide_eq_true (by omega),cond_true])
    fuel (by unfold fuel; omega),Option.bind_some,qaG,zaaa]
   unfold qaG_f;simp
  rw[e];rfl
theorem zani (x:TExpr) (h:nE x≤100000000):qa8 x=some (x.kind,x.num,x.name,x.args):=by
 rw[qa8,zaaa,zarb (nE x) fuel x (Nat.le_refl _) (by unfold fuel; omega) (by omega)]
theorem zaq9:∀ (k n:Nat) (l:List TStmt),nSs l≤k→k<n→k≤100000000→qbi_i n l=some l:=by
 have clip:∀ (R:List TStmt→Option (List TStmt)) (l:List TStmt),qaH R l=some l:=by
  intro R l;rw[qaH,zaaa];unfold qaH_f;simp
 intro k;induction k with
 |zero=>
  intro n l h hn _;obtain ⟨n,rfl⟩:∃ q,n=q+1:=⟨n-1,by omega⟩;have hl:=zads l;obtain rfl:l=[]:=List.eq_nil_of_length_eq_zero (by omega);show qbi_f (qbi_i n) []=_;unfold qbi_f;rw[qbi_l3,zaaa];show Option.bind (some []) _=_;rw[Option.bind_some,clip];rfl
 |succ k ih=>
  intro n l h hn hb;obtain ⟨n,rfl⟩:∃ q,n=q+1:=⟨n-1,by omega⟩;have hl:=zads l;show qbi_f (qbi_i n) l=_;unfold qbi_f
  rw [qbi_l3, zaaa, zaga l (fun m i s => qbi_i3 (qbi_i n) m l l.length i s)
   (fun m i s h0 h=>by
    simp only[qbi_i3,qbi_t3,decide_eq_false h,cond_false])
   (fun m i s y h0 h hy hm hs=>by
    have hy1:=zahf hm;have hy2:=nS_eq y;have e:qa9 (qbi_i n) y=some (y.kind,y.reg,y.name,y.expr.kind,y.expr.num,y.expr.name,y.count,y.expr.args,y.then_,y.else_):=by
     rw[qa9,zaaa];unfold qa9_f;rw[ih n y.then_ (by omega) (by omega) (by omega),ih n y.else_ (by omega) (by omega) (by omega),zaaw,zani y.expr (by omega)];rfl
    simp only[qbi_i3,qbi_t3,decide_eq_true h,decide_eq_true h0,hy,Option.bind_some,zaaw,zad0,cond_true,e];simp only[List.length_cons,List.length_nil];rw[decide_eq_true (by omega),cond_true,i64_in (i+1) (by omega)])
   fuel (by unfold fuel; omega),Option.bind_some,clip]
  rfl
theorem zasl (p:TProg) (h:nT p.threads≤100000000) (h1:p.cells.length≤100000000) (h2:p.mutexes.length≤100000000) :
  qaR p=some (p.cells,p.mutexes,p.threads):=by
 rw[qaR,zaaa];unfold qaR_f;have hl:=zadu p.threads;have e1:qbg p.cells=some p.cells:=by
  rw[qbg,zaaa];unfold qbg_f
  rw [qbg_l3, zaaa, zaga p.cells (fun m i s => qbg_i3 m p.cells p.cells.length i s)
   (fun m i s h0 h=>by
    simp only[qbg_i3,qbg_t3,decide_eq_false h,cond_false])
   (fun m i s y h0 h hy hm hs=>by
    have e:qaS (TCell.mk y.name y.init)=some y:=by rw[qaS,zaaa]; rfl
    simp only[qbg_i3,qbg_t3,decide_eq_true h,decide_eq_true h0,hy,Option.bind_some,cond_true,e];simp only[List.length_cons,List.length_nil];rw[decide_eq_true (by omega),cond_true,i64_in (i+1) (by omega)])
   fuel (by unfold fuel; omega),Option.bind_some,qaF,zaaa]
  unfold qaF_f;simp
 have e2:qbk p.mutexes=some p.mutexes:=by
  rw[qbk,zaaa];unfold qbk_f
  rw [qbk_l3, zaaa, zaga p.mutexes (fun m i s => qbk_i3 m p.mutexes p.mutexes.length i s)
   (fun m i s h0 h=>by
    simp only[qbk_i3,qbk_t3,decide_eq_false h,cond_false])
   (fun m i s y h0 h hy hm hs=>by
    have e:qaT y=some y:=by rw[qaT,zaaa]; rfl
    simp only[qbk_i3,qbk_t3,decide_eq_true h,decide_eq_true h0,hy,Option.bind_some,cond_true,e];simp only[List.length_cons,List.length_nil];rw[decide_eq_true (by omega),cond_true,i64_in (i+1) (by omega)])
   fuel (by unfold fuel; omega),Option.bind_some,qaJ,zaaa]
  unfold qaJ_f;simp
 have e3:qbj p.threads=some p.threads:=by
  rw[qbj,zaaa];unfold qbj_f
  rw [qbj_l3, zaaa, zaga p.threads (fun m i s => qbj_i3 m p.threads p.threads.length i s)
   (fun m i s h0 h=>by
    simp only[qbj_i3,qbj_t3,decide_eq_false h,cond_false])
   (fun m i s y h0 h hy hm hs=>by
    have hy1:=zaeg hm;have e:qaU (TThread.mk y.name y.body)=some (y.name,y.body):=by
     rw[qaU,zaaa];unfold qaU_f;show Option.bind (qbi y.body) _=_;rw[qbi,zaaa,zaq9 (nSs y.body) fuel y.body (Nat.le_refl _) (by unfold fuel; omega) (by omega)];rfl
    simp only[qbj_i3,qbj_t3,decide_eq_true h,decide_eq_true h0,hy,Option.bind_some,cond_true,e];simp only[List.length_cons,List.length_nil];rw[decide_eq_true (by omega),cond_true,i64_in (i+1) (by omega)])
   fuel (by unfold fuel; omega),Option.bind_some,qaI,zaaa]
  unfold qaI_f;simp
 rw[e1,e2,e3];rfl
end Lift.A3
namespace Lift.A1P
open Go Go.RowKit Lift Go.IntWalk
namespace Sp
def isRune (r:Int):Bool:=decide (0≤r∧r≤1114111∧(r<55296∨r>57343))
def letter (r:Int):Bool:=isRune r&&decide ((65≤r∧r≤90)∨r=95∨(97≤r∧r≤122)∨192≤r)
def digit (r:Int):Bool:=decide (48≤r∧r≤57)
def blank (r:Int):Bool:=decide (r=9∨r=10∨r=13∨r=32)
def long (r:Int):Int:=if r<128 then 1 else if r<2048 then 2 else if r<65536 then 3 else 4
def enc (r:Int):List Int:=
 if r<128 then [r] else if r<2048 then [192+r / 64,128+r % 64] else if r<65536 then [224+r / 4096,128+r / 64 % 64,128+r % 64]
 else [240+r / 262144,128+r / 4096 % 64,128+r / 64 % 64,128+r % 64]
def dc (t:List UInt8) (p:Nat):Nat×Nat:=Utf8.decode ⟨t.toArray⟩ p
def bad (t:List UInt8) (p:Nat):Bool:=decide ((dc t p).1=65533)&&!(((t.take (min t.length (p+3))).drop p)==[239,191,189])
def at1 (t:List UInt8) (p:Int):Int:=if bad t p.toNat then 0 else ((dc t p.toNat).1:Int)
def at2 (t:List UInt8) (p:Int):Int:=if bad t p.toNat then 0 else ((dc t p.toNat).2:Int)
def on (s:Spot) (r n:Int):Spot:=if r=10 then ⟨s.rune,s.at_+n,s.line+1,1⟩ else ⟨s.rune,s.at_+n,s.line,s.col+1⟩
def spotsFrom (t:List UInt8):Nat→List Spot→Spot→List Spot×Spot
 |0,acc,s=>(acc,s)
 | n + 1, acc, s => if s.at_ < t.length then (if bad t s.at_.toNat then (acc, s) else
   spotsFrom t n (acc++[⟨at1 t s.at_,s.at_,s.line,s.col⟩]) (on ⟨at1 t s.at_,s.at_,s.line,s.col⟩ (at1 t s.at_) (at2 t s.at_))) else (acc,s)
def ended (s:Spot):Spot:=⟨-1,s.at_,s.line,s.col⟩
def spots1 (t:List UInt8):List Spot:=(spotsFrom t t.length [] ⟨0,0,1,1⟩).1
def spots2 (t:List UInt8):Spot:=ended (spotsFrom t t.length [] ⟨0,0,1,1⟩).2
def runes1 (t:List UInt8):List Spot:=if 4000<t.length then [] else if (spots2 t).at_<t.length then [] else spots1 t
def runes2 (t:List UInt8):Fault:=if 4000<t.length then ⟨10,4000,[]⟩ else if (spots2 t).at_<t.length then ⟨11,(spots2 t).at_,[]⟩ else ⟨0,0,[]⟩
def same (a b:List Spot):Bool:=decide (a=b)
end Sp
namespace Sp
def by_ (l:List UInt8) (k:Nat):Nat:=(l.getD k 0).toNat
def ct (l:List UInt8) (k:Nat):Bool:=decide (k<l.length)&&(by_ l k / 64==2)
def dl (l:List UInt8):Nat×Nat:=
 if by_ l 0<0x80 then (by_ l 0,1)
 else if by_ l 0 / 32 == 6 && ct l 1 then
  if (by_ l 0 % 32)*64+by_ l 1 % 64≥0x80 then ((by_ l 0 % 32)*64+by_ l 1 % 64,2) else (65533,1)
 else if by_ l 0 / 16 == 14 && ct l 1 && ct l 2 then
  if (by_ l 0 % 16)*4096+(by_ l 1 % 64)*64+by_ l 2 % 64≥0x800&&Utf8.valid (((by_ l 0 % 16)*4096+(by_ l 1 % 64)*64+by_ l 2 % 64:Nat):Int) then ((by_ l 0 % 16)*4096+(by_ l 1 % 64)*64+by_ l 2 % 64,3) else (65533,1)
 else if by_ l 0 / 8 == 30 && ct l 1 && ct l 2 && ct l 3 then
  if (by_ l 0 % 8)*262144+(by_ l 1 % 64)*4096+(by_ l 2 % 64)*64+by_ l 3 % 64≥0x10000&&Utf8.valid (((by_ l 0 % 8)*262144+(by_ l 1 % 64)*4096+(by_ l 2 % 64)*64+by_ l 3 % 64:Nat):Int) then ((by_ l 0 % 8)*262144+(by_ l 1 % 64)*4096+(by_ l 2 % 64)*64+by_ l 3 % 64,4) else (65533,1)
 else (65533,1)
def badl (l:List UInt8):Bool:=decide ((dl l).1=65533)&&!(l.take 3==[239,191,189])
theorem zatl (t:List UInt8) (q k:Nat):by_ (t.drop q) k=(t.getD (q+k) 0).toNat:=by
 simp[by_,List.getD_eq_getElem?_getD]
theorem dc_eq (t:List UInt8) (q:Nat):dc t q=dl (t.drop q):=by
 have hb:∀ k,((⟨t.toArray⟩:ByteArray).get! (q+k)).toNat=by_ (t.drop q) k:=by
  intro k;rw[zatl];simp[ByteArray.get!,List.getD_eq_getElem?_getD,getElem!_def];cases t[q+k]?<;>rfl
 have hs:(⟨t.toArray⟩:ByteArray).size=t.length:=by simp[ByteArray.size]
 have hc:∀ k,(decide (q+k<t.length)&&((by_ (t.drop q) k) / 64==2))=ct (t.drop q) k:=by
  intro k;unfold ct;have:(q+k<t.length)↔(k<(t.drop q).length):=by simp; omega
  simp only[this]
 unfold dc Utf8.decode;simp only[hb,hs,hc];unfold dl;rfl
theorem bad_eq (t:List UInt8) (q:Nat):bad t q=badl (t.drop q):=by
 unfold bad badl;rw[dc_eq];congr 2;have:(t.take (min t.length (q+3))).drop q=(t.drop q).take 3:=by
  have h1:t.take (min t.length (q+3))=t.take (q+3):=by
   rcases Nat.le_total t.length (q+3) with h|h
   ·rw[Nat.min_eq_left h,List.take_of_length_le h,List.take_of_length_le (Nat.le_refl _)]
   ·rw[Nat.min_eq_right h]
  rw[h1,List.drop_take];simp
 rw[this]
end Sp
namespace Sp
theorem take3 (l:List UInt8):(l.take 3==[239,191,189])=decide (3≤l.length∧by_ l 0=239∧by_ l 1=191∧by_ l 2=189):=by
 have e:∀ (a b:UInt8),(a==b)=decide (a.toNat=b.toNat):=fun a b=>by
  rw[Bool.eq_iff_iff]; simp[UInt8.toNat_inj]
 match l with
 |[]=>simp[by_]
 |[a]=>simp[by_]
 |[a,b]=>simp[by_]
 |a::b::c::r=>
  have:List.take 3 (a::b::c::r)=[a,b,c]:=rfl;rw[this];rw[Bool.eq_iff_iff];simp[by_,← UInt8.toNat_inj]
end Sp
def ansA (n b0 b1 b2 b3:Nat):Int×Int:=
 let ok (r:Int) (k:Int):Int×Int:=if (0≤r∧r≤1114111∧(r<55296∨r>57343))∧Sp.long r=k then (r,k) else (0,0)
 if 240≤b0 then (if n<4 then (0,0) else if b1<128∨191<b1 then (0,0) else if b2<128∨191<b2 then (0,0) else if b3<128∨191<b3 then (0,0) else ok (64*(64*(64*(b0-240)+b1-128)+b2-128)+b3-128) 4)
 else if 224≤b0 then (if n<3 then (0,0) else if b1<128∨191<b1 then (0,0) else if b2<128∨191<b2 then (0,0) else ok (64*(64*(b0-224)+b1-128)+b2-128) 3)
 else if 192≤b0 then (if n<2 then (0,0) else if b1<128∨191<b1 then (0,0) else ok (64*(b0-192)+b1-128) 2)
 else if 128≤b0 then (0,0) else (b0,1)
theorem zagm (r:Int):Utf8.valid r=true↔(0≤r∧r<55296)∨(57344≤r∧r≤1114111):=by
 unfold Utf8.valid;simp only[Bool.or_eq_true,Bool.and_eq_true,decide_eq_true_eq]
theorem zarp (l:List UInt8) (hl:0<l.length):ansA l.length (Sp.by_ l 0) (Sp.by_ l 1) (Sp.by_ l 2) (Sp.by_ l 3)=if Sp.badl l then (0,0) else (((Sp.dl l).1:Int),((Sp.dl l).2:Int)):=by
 have hb:∀ k,Sp.by_ l k<256:=fun k=>(l.getD k 0).toNat_lt
 have h0:=hb 0;have h1:=hb 1;have h2:=hb 2;have h3:=hb 3;unfold Sp.badl;rw[Sp.take3];obtain ⟨D,hD⟩:∃ D,D=Sp.dl l:=⟨_,rfl⟩;rw[← hD];unfold Sp.dl Sp.ct at hD;generalize Sp.by_ l 0=b0 at *;generalize Sp.by_ l 1=b1 at *;generalize Sp.by_ l 2=b2 at *;generalize Sp.by_ l 3=b3 at *;generalize l.length=n at *;clear hb;have small:∀ r:Int,r<128→Sp.long r=1:=fun r h=>by unfold Sp.long; rw[if_pos h]
 have two:∀ r:Int,128≤r→r<2048→Sp.long r=2:=fun r h h'=>by unfold Sp.long; rw[if_neg (by omega),if_pos h']
 have three:∀ r:Int,2048≤r→r<65536→Sp.long r=3:=fun r h h'=>by unfold Sp.long; rw[if_neg (by omega),if_neg (by omega),if_pos h']
 have four:∀ r:Int,65536≤r→Sp.long r=4:=fun r h=>by unfold Sp.long; rw[if_neg (by omega),if_neg (by omega),if_neg (by omega)]
 simp only[Bool.and_eq_true,decide_eq_true_eq,beq_iff_eq,zagm,ge_iff_le] at hD;simp only[Bool.and_eq_true,decide_eq_true_eq,Bool.not_eq_true',decide_eq_false_iff_not];have good:∀ (r k:Nat),D=(r,k)→¬ (r=65533∧¬ (3≤n∧b0=239∧b1=191∧b2=189))→(if D.1=65533∧¬ (3≤n∧b0=239∧b1=191∧b2=189) then ((0:Int),(0:Int)) else (↑D.1,↑D.2))=((r:Int),(k:Int)):=by
  intro r k h1 h2;rw[h1];exact if_neg h2
 have badd:D=(65533,1)→¬ (3≤n∧b0=239∧b1=191∧b2=189)→(if D.1=65533∧¬ (3≤n∧b0=239∧b1=191∧b2=189) then ((0:Int),(0:Int)) else (↑D.1,↑D.2))=(0,0):=by
  intro h1 h2;rw[h1];exact if_pos ⟨rfl,h2⟩
 unfold ansA;by_cases k0:b0<128
 ·rw[if_neg (by omega),if_neg (by omega),if_neg (by omega),if_neg (by omega)];rw[if_pos k0] at hD;rw[good _ _ hD (by omega)];rfl
 rw[if_neg k0] at hD;by_cases k1:b0<192
 ·rw[if_neg (by omega),if_neg (by omega),if_neg (by omega),if_pos (by omega)];rw[if_neg (by omega),if_neg (by omega),if_neg (by omega)] at hD;rw[badd hD (by omega)]
 by_cases k2:b0<224
 ·rw[if_neg (by omega),if_neg (by omega),if_pos (by omega)];by_cases c1:n<2
  ·rw[if_neg (by omega),if_neg (by omega),if_neg (by omega)] at hD;rw[if_pos c1,badd hD (by omega)]
  rw[if_neg c1];by_cases c2:b1<128∨191<b1
  ·rw[if_neg (by omega),if_neg (by omega),if_neg (by omega)] at hD;rw[if_pos c2,badd hD (by omega)]
  rw[if_neg c2];rw[if_pos (by omega)] at hD;by_cases c3:128≤b0 % 32*64+b1 % 64
  ·rw[if_pos c3] at hD;rw[good _ _ hD (by omega)];have:=two (64*((b0:Int)-192)+b1-128) (by omega) (by omega);show (if _ then _ else _)=_;rw[if_pos ⟨by omega,this⟩];simp only[Prod.mk.injEq];omega
  ·rw[if_neg c3] at hD;rw[badd hD (by omega)];show (if _ then _ else _)=_;rw[if_neg];intro hh;have:=small (64*((b0:Int)-192)+b1-128) (by omega);omega
 by_cases k3:b0<240
 ·rw[if_neg (by omega),if_pos (by omega)];by_cases c1:n<3
  ·rw[if_neg (by omega),if_neg (by omega),if_neg (by omega)] at hD;rw[if_pos c1,badd hD (by omega)]
  rw[if_neg c1];by_cases c2:b1<128∨191<b1
  ·rw[if_neg (by omega),if_neg (by omega),if_neg (by omega)] at hD;rw[if_pos c2,badd hD (by omega)]
  rw[if_neg c2];by_cases c3:b2<128∨191<b2
  ·rw[if_neg (by omega),if_neg (by omega),if_neg (by omega)] at hD;rw[if_pos c3,badd hD (by omega)]
  rw[if_neg c3];rw[if_neg (by omega),if_pos (by omega)] at hD;have hv:(64*(64*((b0:Int)-224)+b1-128)+b2-128)=((b0 % 16*4096+b1 % 64*64+b2 % 64:Nat):Int):=by omega
  show (if _ then _ else _)=_;rw[hv];obtain ⟨N,hN⟩:∃ N,N=b0 % 16*4096+b1 % 64*64+b2 % 64:=⟨_,rfl⟩;rw[← hN] at hD ⊢;by_cases c4:2048≤N∧(0≤(N:Int)∧(N:Int)<55296∨57344≤(N:Int)∧(N:Int)≤1114111)
  ·rw[if_pos c4] at hD;have h5:=three (N:Int) (by omega) (by omega);rw[good N 3 hD (by omega),if_pos (And.intro (by omega) h5)];exact Prod.ext rfl rfl
  ·rw[if_neg c4] at hD;rw[badd hD (by omega),if_neg];intro hh;by_cases c5:N<128
   ·have:=small (N:Int) (by omega); omega
   by_cases c6:N<2048
   ·have:=two (N:Int) (by omega) (by omega); omega
   ·omega
 ·rw[if_pos (by omega)];by_cases c1:n<4
  ·rw[if_neg (by omega),if_neg (by omega),if_neg (by omega)] at hD;rw[if_pos c1,badd hD (by omega)]
  rw[if_neg c1];by_cases c2:b1<128∨191<b1
  ·rw[if_neg (by omega),if_neg (by omega),if_neg (by omega)] at hD;rw[if_pos c2,badd hD (by omega)]
  rw[if_neg c2];by_cases c3:b2<128∨191<b2
  ·rw[if_neg (by omega),if_neg (by omega),if_neg (by omega)] at hD;rw[if_pos c3,badd hD (by omega)]
  rw[if_neg c3];by_cases c3':b3<128∨191<b3
  ·rw[if_neg (by omega),if_neg (by omega),if_neg (by omega)] at hD;rw[if_pos c3',badd hD (by omega)]
  rw[if_neg c3'];rw[if_neg (by omega),if_neg (by omega)] at hD;have hv:(64*(64*(64*((b0:Int)-240)+b1-128)+b2-128)+b3-128)=(((b0-240)*262144+(b1-128)*4096+(b2-128)*64+(b3-128):Nat):Int):=by omega
  show (if _ then _ else _)=_;rw[hv];by_cases k4:b0<248
  ·rw[if_pos (by omega)] at hD;have hm:b0 % 8*262144+b1 % 64*4096+b2 % 64*64+b3 % 64=(b0-240)*262144+(b1-128)*4096+(b2-128)*64+(b3-128):=by omega
   rw[hm] at hD;obtain ⟨N,hN⟩:∃ N,N=(b0-240)*262144+(b1-128)*4096+(b2-128)*64+(b3-128):=⟨_,rfl⟩;rw[← hN] at hD ⊢;by_cases c4:65536≤N∧(0≤(N:Int)∧(N:Int)<55296∨57344≤(N:Int)∧(N:Int)≤1114111)
   ·rw[if_pos c4] at hD;have h5:=four (N:Int) (by omega);rw[good N 4 hD (by omega),if_pos (And.intro (by omega) h5)];exact Prod.ext rfl rfl
   ·rw[if_neg c4] at hD;rw[badd hD (by omega),if_neg];intro hh;by_cases c5:N<128
    ·have:=small (N:Int) (by omega); omega
    by_cases c6:N<2048
    ·have:=two (N:Int) (by omega) (by omega); omega
    by_cases c7:N<65536
    ·have:=three (N:Int) (by omega) (by omega); omega
    ·omega
  ·rw[if_neg (by omega)] at hD;rw[badd hD (by omega),if_neg];intro hh;omega
def zaf9 (t:List UInt8) (s:Spot):Prop:=t.length≤4000∧0≤s.at_∧s.at_≤t.length∧1≤s.line∧s.line≤s.at_+1∧1≤s.col∧s.col≤s.at_+1
noncomputable def zaau (t:List UInt8) (l:List Spot) (s:Spot):List Spot×Spot:=Sp.spotsFrom t (t.length-s.at_.toNat) l s
namespace Sp
theorem dl_pos (l:List UInt8) (h:0<l.length):1≤(dl l).2∧(dl l).2≤4∧(dl l).2≤l.length:=by
 unfold dl ct;simp only[Bool.and_eq_true,decide_eq_true_eq];repeat' split
 all_goals simp only
 all_goals omega
theorem ansA_ok (n b0 b1 b2 b3:Nat) (h:b0<256):ansA n b0 b1 b2 b3=(0,0)∨(isRune (ansA n b0 b1 b2 b3).1=true∧long (ansA n b0 b1 b2 b3).1=(ansA n b0 b1 b2 b3).2):=by
 unfold ansA;simp only;by_cases a1:240≤b0
 ·rw[if_pos a1];repeat' split
  all_goals first|exact .inl rfl|(rename_i hc; exact .inr ⟨by simpa only[isRune,decide_eq_true_eq] using hc.1,hc.2⟩)
 rw[if_neg a1];by_cases a2:224≤b0
 ·rw[if_pos a2];repeat' split
  all_goals first|exact .inl rfl|(rename_i hc; exact .inr ⟨by simpa only[isRune,decide_eq_true_eq] using hc.1,hc.2⟩)
 rw[if_neg a2];by_cases a3:192≤b0
 ·rw[if_pos a3];repeat' split
  all_goals first|exact .inl rfl|(rename_i hc; exact .inr ⟨by simpa only[isRune,decide_eq_true_eq] using hc.1,hc.2⟩)
 rw[if_neg a3];by_cases a4:128≤b0
 ·rw[if_pos a4]; exact .inl rfl
 rw[if_neg a4];exact .inr ⟨by simp only[isRune,decide_eq_true_eq]; omega,by unfold long; rw[if_pos (by omega)]⟩
theorem good_at {t:List UInt8} {p:Int} (hp:0≤p) (h:p<t.length) (hb:bad t p.toNat=false):isRune (at1 t p)=true∧long (at1 t p)=at2 t p∧1≤at2 t p∧at2 t p≤4∧p+at2 t p≤t.length ∧
  at1 t p=(dc t p.toNat).1∧at2 t p=(dc t p.toNat).2:=by
 have hl:0<(t.drop p.toNat).length:=by simp; omega
 obtain ⟨h1,h2,h3⟩:=dl_pos _ hl;have h4:=zarp _ hl;rw[← bad_eq,hb,← dc_eq] at h4;rw[← dc_eq] at h1 h2 h3;have hlen:((t.drop p.toNat).length:Int)=t.length-p:=by simp; omega
 unfold at1 at2;rw[hb];simp only[Bool.false_eq_true,if_false] at h4 ⊢;rcases ansA_ok (t.drop p.toNat).length (by_ (t.drop p.toNat) 0) (by_ (t.drop p.toNat) 1) (by_ (t.drop p.toNat) 2) (by_ (t.drop p.toNat) 3) ((t.drop p.toNat).getD 0 0).toNat_lt with h5|⟨h5,h6⟩
 ·rw[h4] at h5;simp only[Prod.mk.injEq] at h5;omega
 ·rw[h4] at h5 h6;exact ⟨h5,h6,by omega,by omega,by omega,by simp⟩
theorem fuel (t:List UInt8):∀ (n m:Nat) (l:List Spot) (s:Spot),0≤s.at_→t.length-s.at_.toNat≤n→t.length-s.at_.toNat≤m→spotsFrom t n l s=spotsFrom t m l s:=by
 intro n;induction n with
 |zero=>
  intro m l s h0 h1 h2;have hc:¬ s.at_<t.length:=by omega
  cases m with
  |zero=>rfl
  |succ m=>simp only[spotsFrom,if_neg hc]
 |succ n ih=>
  intro m l s h0 h1 h2;by_cases hc:s.at_<t.length
  ·cases m with
   |zero=>omega
   |succ m=>
    simp only[spotsFrom,if_pos hc];cases hb:bad t s.at_.toNat with
    |true=>rfl
    |false=>
     simp only[Bool.false_eq_true,if_false];obtain ⟨g1,g2,g3,g4,g5,_⟩:=good_at h0 hc hb;have ha:∀ x:Spot,(on x (at1 t s.at_) (at2 t s.at_)).at_=x.at_+at2 t s.at_:=fun x=>by unfold on; split<;>rfl
     refine ih m _ _ ?_ ?_ ?_<;>rw[ha]<;>simp only<;>omega
  ·cases m with
   |zero=>simp only[spotsFrom,if_neg hc]
   |succ m=>simp only[spotsFrom,if_neg hc]
end Sp
theorem zak5 {t:List UInt8} {l:List Spot} {s:Spot} (h:¬ s.at_<t.length):zaau t l s=(l,s):=by
 unfold zaau;cases t.length-s.at_.toNat with
 |zero=>rfl
 |succ n=>simp only[Sp.spotsFrom,if_neg h]
theorem zaqe {t:List UInt8} {l:List Spot} {s:Spot} (hb:Sp.bad t s.at_.toNat=true):zaau t l s=(l,s):=by
 unfold zaau;cases t.length-s.at_.toNat with
 |zero=>rfl
 |succ n=>simp only[Sp.spotsFrom,hb,if_true]; split<;>rfl
def here (t:List UInt8) (s:Spot):Spot:=⟨Sp.at1 t s.at_,s.at_,s.line,s.col⟩
def after (t:List UInt8) (s:Spot):Spot:=Sp.on (here t s) (Sp.at1 t s.at_) (Sp.at2 t s.at_)
theorem zanh (t:List UInt8) (s:Spot):(after t s).at_=s.at_+Sp.at2 t s.at_:=by
 unfold after Sp.on here;split<;>rfl
theorem zaob {t:List UInt8} {l:List Spot} {s:Spot} (h0:0≤s.at_) (h:s.at_<t.length) (hb:Sp.bad t s.at_.toNat=false):zaau t l s=zaau t (l++[here t s]) (after t s):=by
 unfold zaau;obtain ⟨n,hn⟩:∃ n,t.length-s.at_.toNat=n+1:=⟨t.length-s.at_.toNat-1,by omega⟩;obtain ⟨g1,g2,g3,g4,g5,_⟩:=Sp.good_at h0 h hb;rw[hn];simp only[Sp.spotsFrom,if_pos h,hb,Bool.false_eq_true,if_false];have ha:=zanh t s;exact Sp.fuel t _ _ _ _ (by unfold after here at ha; omega) (by unfold after here at ha; omega) (Nat.le_refl _)
theorem zane {t:List UInt8} {s:Spot} (h:zaf9 t s) (hlt:s.at_<t.length) (hb:Sp.bad t s.at_.toNat=false):zaf9 t (after t s):=by
 obtain ⟨h1,h2,h3,h4,h5,h6,h7⟩:=h;obtain ⟨g1,g2,g3,g4,g5,_⟩:=Sp.good_at h2 hlt hb;unfold zaf9 after Sp.on here;split<;>simp only<;>omega
theorem zaq8 (t:List UInt8):∀ (n:Nat) (l:List Spot) (s s':Spot),Sp.ended s=Sp.ended s'→(Sp.spotsFrom t n l s).1=(Sp.spotsFrom t n l s').1∧Sp.ended (Sp.spotsFrom t n l s).2=Sp.ended (Sp.spotsFrom t n l s').2:=by
 intro n l s s' h;obtain ⟨r,a,b,c⟩:=s;obtain ⟨r',a',b',c'⟩:=s';simp only[Sp.ended,Spot.mk.injEq,true_and] at h;obtain ⟨rfl,rfl,rfl⟩:=h;cases n with
 |zero=>exact ⟨rfl,rfl⟩
 |succ n=>
  simp only[Sp.spotsFrom];split
  ·split
   ·exact ⟨rfl,rfl⟩
   ·exact ⟨rfl,rfl⟩
  ·exact ⟨rfl,rfl⟩
theorem zal2 (t:List UInt8) (l:List Spot) (r r' a b c:Int):(zaau t l ⟨r,a,b,c⟩).1=(zaau t l ⟨r',a,b,c⟩).1∧(zaau t l ⟨r,a,b,c⟩).2.at_=(zaau t l ⟨r',a,b,c⟩).2.at_ ∧
  (zaau t l ⟨r,a,b,c⟩).2.line=(zaau t l ⟨r',a,b,c⟩).2.line∧(zaau t l ⟨r,a,b,c⟩).2.col=(zaau t l ⟨r',a,b,c⟩).2.col:=by
 have:=zaq8 t (t.length-a.toNat) l ⟨r,a,b,c⟩ ⟨r',a,b,c⟩ rfl;unfold zaau;obtain ⟨h1,h2⟩:=this;simp only[Sp.ended,Spot.mk.injEq,true_and] at h2;exact ⟨h1,h2.1,h2.2.1,h2.2.2⟩
end Lift.A1P
namespace Lift.A1P
open Go Go.RowKit Lift Go.IntWalk Lift.Fn
theorem zais {a b:Bool} (h:a=true↔b=true):some a=some b:=by rw[Bool.eq_iff_iff.2 h]
theorem zaqq (r:Int):qaA r=some (Sp.digit r):=by
 rw[qaA,zaaa];unfold qaA_f;simp only[cond_eq_ite];split;all_goals refine zais ?_
 all_goals simp only[Sp.digit,decide_eq_true_eq,decide_eq_false_iff_not,Bool.false_eq_true,false_iff,Bool.not_eq_true] at *
 all_goals omega
theorem zat4 (r:Int):qaz r=some (Sp.blank r):=by
 rw[qaz,zaaa];unfold qaz_f;simp only[cond_eq_ite];repeat' split
 all_goals refine zais ?_
 all_goals simp only[Sp.blank,beq_iff_eq,decide_eq_true_eq,decide_eq_false_iff_not,Bool.false_eq_true,false_iff,true_iff,Bool.not_eq_true] at *
 all_goals omega
theorem zatx (r:Int):qbq r=some (Sp.isRune r):=by
 rw[qbq,zaaa];unfold qbq_f;simp only[cond_eq_ite];repeat' split
 all_goals refine zais ?_
 all_goals simp only[Sp.isRune,beq_iff_eq,decide_eq_true_eq,decide_eq_false_iff_not,Bool.false_eq_true,false_iff,true_iff,Bool.not_eq_true] at *
 all_goals omega
theorem zat7 (r:Int):qaE r=some (Sp.isRune r):=by
 rw[qaE,zaaa];unfold qaE_f;simp only[cond_eq_ite];repeat' split
 ·simp only[decide_eq_true_eq] at *;rw[zatx,i32_in r (by omega)];rfl
 all_goals refine zais ?_
 all_goals simp only[Sp.isRune,beq_iff_eq,decide_eq_true_eq,decide_eq_false_iff_not,Bool.false_eq_true,false_iff,true_iff,Bool.not_eq_true] at *
 all_goals omega
theorem zas8 (r:Int):qaB r=some (Sp.letter r):=by
 rw[qaB,zaaa];unfold qaB_f;simp only[cond_eq_ite,zat7,Option.bind_some];repeat' split
 all_goals refine zais ?_
 all_goals simp only[Sp.letter,Sp.isRune,beq_iff_eq,Bool.and_eq_true,decide_eq_true_eq,decide_eq_false_iff_not,Bool.false_eq_true,false_iff,true_iff,Bool.not_eq_true] at *
 all_goals omega
theorem len1 (r:Int) (h:Sp.isRune r=true):qbp r=some (Sp.long r):=by
 simp only[Sp.isRune,decide_eq_true_eq] at h;rw[qbp,zaaa];unfold qbp_f Sp.long;simp only[cond_eq_ite,decide_eq_true_eq];repeat' split
 all_goals first|rfl|omega
theorem zalh {t:List UInt8} {s:Spot} (h:zaf9 t s):0≤s.at_∧s.at_≤t.length∧t.length≤4000∧1≤s.line∧s.line≤s.at_+1∧1≤s.col∧s.col≤s.at_+1:=
 ⟨h.2.1,h.2.2.1,h.1,h.2.2.2.1,h.2.2.2.2.1,h.2.2.2.2.2.1,h.2.2.2.2.2.2⟩
theorem goneL (s:List UInt8) (a1 a2 a3 a4:Int):∀ (k n:Nat) (c2 c3 c4:Int) (pos:Nat) (l:List Spot),s.length-c2.toNat≤k→k<n→zaf9 s ⟨-1,c2,c3,c4⟩→(l.length:Int)≤c2→(pos:Int)=c2 →
  qaD_i4 n s a1 a2 a3 a4 (-1) c2 c3 c4 s pos l=some (if (zaau s l ⟨-1,c2,c3,c4⟩).2.at_<s.length then
   .inl (-1,(zaau s l ⟨-1,c2,c3,c4⟩).2.at_,(zaau s l ⟨-1,c2,c3,c4⟩).2.line,(zaau s l ⟨-1,c2,c3,c4⟩).2.col,(zaau s l ⟨-1,c2,c3,c4⟩).1)
   else .inr (a1,a2,a3,a4,-1,(zaau s l ⟨-1,c2,c3,c4⟩).2.at_,(zaau s l ⟨-1,c2,c3,c4⟩).2.line,(zaau s l ⟨-1,c2,c3,c4⟩).2.col,(zaau s l ⟨-1,c2,c3,c4⟩).1)):=by
 intro k;induction k with
 |zero=>
  intro n c2 c3 c4 pos l hk hn hok hl hp;obtain ⟨n,rfl⟩:∃ q,n=q+1:=⟨n-1,by omega⟩;have:=zalh hok;simp only at this;have c:¬ c2<s.length:=by omega
  have c':¬ pos<s.length:=by omega
  rw[zak5 (s:=⟨-1,c2,c3,c4⟩) c,if_neg c];simp only[qaD_i4,qaD_t4,c',decide_false,cond_false]
 |succ k ih=>
  intro n c2 c3 c4 pos l hk hn hok hl hp;obtain ⟨n,rfl⟩:∃ q,n=q+1:=⟨n-1,by omega⟩;obtain ⟨h2,h3,h1,h4,h5,h6,h7⟩:=zalh hok;simp only at h2 h3 h4 h5 h6 h7;have hq:pos=c2.toNat:=by omega
  simp only[qaD_i4,qaD_t4];by_cases c:c2<s.length
  ·have hlt:pos<s.length:=by omega
   have hdc:Utf8.decode ⟨s.toArray⟩ pos=Sp.dc s c2.toNat:=by rw[hq]; rfl
   rw[hdc];rw[i64_in ((pos:Int)+3) (by omega)];have hmin:(if (pos:Int)+3<(s.length:Int) then (pos:Int)+3 else (s.length:Int))=(min s.length (c2.toNat+3):Nat):=by
    split<;>omega
   rw[hmin];have hslice:List.drop (Int.toNat (pos:Int)) (List.take (Int.toNat ((min s.length (c2.toNat+3):Nat):Int)) s)=(s.take (min s.length (c2.toNat+3))).drop c2.toNat:=by
    rw[Int.toNat_natCast,Int.toNat_natCast,hq]
   rw[hslice];have hbnd:(decide ((0:Int)≤(pos:Int))&&(decide ((pos:Int)≤(min s.length (c2.toNat+3):Nat))&&decide (((min s.length (c2.toNat+3):Nat):Int)≤(s.length:Int))))=true:=by
    simp only[Bool.and_eq_true,decide_eq_true_eq]; omega
   rw[hbnd];have hbad:Sp.bad s c2.toNat=(decide ((Sp.dc s c2.toNat).1=65533)&&!(((s.take (min s.length (c2.toNat+3))).drop c2.toNat)==[239,191,189])):=rfl;simp only[hlt,decide_true,cond_true];cases hb:Sp.bad s c2.toNat with
   |true=>
    rw[hb] at hbad;have hbad:=hbad.symm;simp only[Bool.and_eq_true,decide_eq_true_eq] at hbad;have e1:(((Sp.dc s c2.toNat).1:Int)==65533)=true:=by rw[beq_iff_eq]; omega
    rw[e1,hbad.2];simp only[cond_true];rw[zaqe (s:=⟨-1,c2,c3,c4⟩) hb,if_pos c]
   |false=>
    obtain ⟨g1,g2,g3,g4,g5,g6,g7⟩:=Sp.good_at h2 c hb;rw[zaob (s:=⟨-1,c2,c3,c4⟩) h2 c hb];generalize hR:(some (ite ((zaau s (l++[here s ⟨-1,c2,c3,c4⟩]) (after s ⟨-1,c2,c3,c4⟩)).2.at_<(s.length:Int)) _ _):Option _)=R;have hk':=zane hok c hb;have haf:=zanh s ⟨-1,c2,c3,c4⟩;simp only at haf;have hrune:Sp.isRune ((Sp.dc s c2.toNat).1:Int)=true:=by rw[← g6]; exact g1
    have hlong:Sp.long ((Sp.dc s c2.toNat).1:Int)=Sp.at2 s c2:=by rw[← g6]; exact g2
    have hr:(0:Int)≤(Sp.dc s c2.toNat).1∧((Sp.dc s c2.toNat).1:Int)≤1114111:=by
     simp only[Sp.isRune,decide_eq_true_eq] at hrune; omega
    rw[len1 _ hrune,hlong,Option.bind_some];rw[i64_in ((Sp.dc s c2.toNat).1:Int) (by omega),i64_in (c2+Sp.at2 s c2) (by omega),i64_in (c3+1) (by omega),i64_in (c4+1) (by omega)];have hhere:here s ⟨-1,c2,c3,c4⟩=⟨((Sp.dc s c2.toNat).1:Int),c2,c3,c4⟩:=by unfold here; rw[g6]
    have go:∀ (b3 b4:Int),(after s ⟨-1,c2,c3,c4⟩).line=b3→(after s ⟨-1,c2,c3,c4⟩).col=b4 →
      qaD_i4 n s a1 a2 a3 a4 (-1) (c2+Sp.at2 s c2) b3 b4 s (pos+(Sp.dc s c2.toNat).2) (l++[⟨((Sp.dc s c2.toNat).1:Int),c2,c3,c4⟩]) =
       R:=by
     intro b3 b4 e3 e4;rw[← hR];have hk2:zaf9 s ⟨-1,c2+Sp.at2 s c2,b3,b4⟩:=by
      obtain ⟨q1,q2,q3,q4,q5,q6,q7⟩:=hk';rw[haf] at q2 q3 q5 q7;rw[e3] at q4 q5;rw[e4] at q6 q7;exact ⟨q1,q2,q3,q4,q5,q6,q7⟩
     have heta:after s ⟨-1,c2,c3,c4⟩=⟨(after s ⟨-1,c2,c3,c4⟩).rune,c2+Sp.at2 s c2,b3,b4⟩:=by
      rw[← haf,← e3,← e4]
     rw[ih n _ _ _ _ _ (by omega) (by omega) hk2 (by simp only[List.length_append,List.length_cons,List.length_nil]; omega) (by omega)];rw[hhere,heta];obtain ⟨y1,y2,y3,y4⟩:=zal2 s (l++[⟨((Sp.dc s c2.toNat).1:Int),c2,c3,c4⟩]) (-1) (after s ⟨-1,c2,c3,c4⟩).rune (c2+Sp.at2 s c2) b3 b4;rw[y1,y2,y3,y4]
    have main:(bif decide ((List.length l+List.length [Spot.mk ((Sp.dc s c2.toNat).1:Int) c2 c3 c4])*(32:Nat)≤(140737488355328:Nat)∧List.length l+List.length [Spot.mk ((Sp.dc s c2.toNat).1:Int) c2 c3 c4]≤(9223372036854775807:Nat)) then
       bif ((Sp.dc s c2.toNat).1:Int)==(10:Int) then
        qaD_i4 n s a1 a2 a3 a4 (-1) (c2+Sp.at2 s c2) (c3+1) 1 s (pos+(Sp.dc s c2.toNat).2) (l++[⟨((Sp.dc s c2.toNat).1:Int),c2,c3,c4⟩])
       else
        qaD_i4 n s a1 a2 a3 a4 (-1) (c2+Sp.at2 s c2) c3 (c4+1) s (pos+(Sp.dc s c2.toNat).2) (l++[⟨((Sp.dc s c2.toNat).1:Int),c2,c3,c4⟩])
      else none)=R:=by
     have hlen1:((List.length l+List.length [Spot.mk ((Sp.dc s c2.toNat).1:Int) c2 c3 c4])*(32:Nat)≤(140737488355328:Nat)∧List.length l+List.length [Spot.mk ((Sp.dc s c2.toNat).1:Int) c2 c3 c4]≤(9223372036854775807:Nat)):=by
      simp only[List.length_cons,List.length_nil]; omega
     rw[decide_eq_true hlen1,cond_true];cases e10:(((Sp.dc s c2.toNat).1:Int)==10) with
     |true=>
      have:Sp.at1 s c2=10:=by rw[g6]; exact beq_iff_eq.1 e10
      exact go _ _ (by simp[after,here,Sp.on,this]) (by simp[after,here,Sp.on,this])
     |false=>
      have:¬ Sp.at1 s c2=10:=by rw[g6]; exact beq_eq_false_iff_ne.1 e10
      exact go _ _ (by simp[after,here,Sp.on,this]) (by simp[after,here,Sp.on,this])
    cases e1:(((Sp.dc s c2.toNat).1:Int)==65533) with
    |true=>
     rw[hb] at hbad;have e2:decide ((Sp.dc s c2.toNat).1=65533)=true:=by
      have:=beq_iff_eq.1 e1;rw[decide_eq_true_eq]; omega
     rw[e2,Bool.true_and] at hbad;rw[← hbad];simp only[cond_true,cond_false];exact main
    |false=>
     simp only[cond_false];exact main
  ·have hlt:¬ pos<s.length:=by omega
   simp only[hlt,decide_false,cond_false];rw[zak5 (s:=⟨-1,c2,c3,c4⟩) c,if_neg c]
theorem gone1 (t:List UInt8) (h:t.length≤4000):qaD t=some (Sp.spots2 t,Sp.spots1 t):=by
 have g:zaau t [] ⟨0,0,1,1⟩=Sp.spotsFrom t t.length [] ⟨0,0,1,1⟩:=rfl;obtain ⟨y1,y2,y3,y4⟩:=zal2 t [] (-1) 0 0 1 1;rw[g] at y1 y2 y3 y4;have e2:(⟨-1,(zaau t [] ⟨-1,0,1,1⟩).2.at_,(zaau t [] ⟨-1,0,1,1⟩).2.line,(zaau t [] ⟨-1,0,1,1⟩).2.col⟩:Spot)=Sp.spots2 t:=by
  rw[y2,y3,y4]; rfl
 have e1:(zaau t [] ⟨-1,0,1,1⟩).1=Sp.spots1 t:=y1;rw[qaD,zaaa];unfold qaD_f;rw[qaD_l4,zaaa,goneL t _ _ _ _ t.length fuel 0 1 1 0 [] (by simp) (by unfold fuel; omega) (by unfold zaf9; simp only; omega) (by simp) (by simp),Option.bind_some];split
 ·rename_i y heq;split at heq
  ·cases heq;simp only[e1,e2]
  ·cases heq
 ·rename_i y heq;split at heq
  ·cases heq
  ·cases heq;simp only[e1,e2]
theorem zao1 (t:List UInt8):qaC t=some (Sp.runes2 t,Sp.runes1 t):=by
 rw[qaC,zaaa];unfold qaC_f Sp.runes1 Sp.runes2;simp only[cond_eq_ite,decide_eq_true_eq];by_cases h:4000<t.length
 ·rw[if_pos (show (t.length:Int)>4000 by omega),if_pos h,if_pos h]
 ·rw[if_neg (show ¬ (t.length:Int)>4000 by omega),if_neg h,if_neg h,gone1 t (by omega),Option.bind_some];by_cases h2:(Sp.spots2 t).at_<t.length
  ·rw[if_pos h2,if_pos h2,if_pos h2]
  ·rw[if_neg h2,if_neg h2,if_neg h2]
end Lift.A1P
namespace Lift.A1P
open Go Go.RowKit Lift Go.IntWalk Lift.Fn
theorem zarz (l:List Int):(bytesOf l).length=l.length:=by simp[bytesOf]
def encB (r:Int):List UInt8:=bytesOf (Sp.enc r)
def encs (rs:List Int):List UInt8:=rs.flatMap encB
theorem zabd (r:Int) (rs:List Int):encs (r::rs)=encB r++encs rs:=rfl
theorem zaas (a b:List Int):encs (a++b)=encs a++encs b:=by simp[encs]
theorem zabm (n:Nat) (h:n<256):(UInt8.ofNat n).toNat=n:=by
 simp[UInt8.toNat_ofNat'];omega
theorem zaev (r:Int):(encB r).length=(Sp.long r).toNat:=by
 unfold encB Sp.enc Sp.long;rw[zarz];repeat' split
 all_goals rfl
theorem by0 (a:UInt8) (l:List UInt8):Sp.by_ (a::l) 0=a.toNat:=rfl
theorem by1 (a b:UInt8) (l:List UInt8):Sp.by_ (a::b::l) 1=b.toNat:=rfl
theorem by2 (a b c:UInt8) (l:List UInt8):Sp.by_ (a::b::c::l) 2=c.toNat:=rfl
theorem by3 (a b c d:UInt8) (l:List UInt8):Sp.by_ (a::b::c::d::l) 3=d.toNat:=rfl
theorem zaiz {l:List UInt8} {r k:Nat} (h:Sp.dl l=(r,k)) (h2:r≠65533∨(3≤l.length∧Sp.by_ l 0=239∧Sp.by_ l 1=191∧Sp.by_ l 2=189)):Sp.badl l=false:=by
 unfold Sp.badl;rw[h,Sp.take3];rcases h2 with h2|h2
 ·simp[h2]
 ·simp[h2]
theorem zarf (r:Int) (rest:List UInt8) (h:Sp.isRune r=true):Sp.dl (encB r++rest)=(r.toNat,(Sp.long r).toNat)∧Sp.badl (encB r++rest)=false:=by
 simp only[Sp.isRune,decide_eq_true_eq] at h;by_cases a1:r<128
 ·have e:encB r++rest=UInt8.ofNat r.toNat::rest:=by simp[encB,bytesOf,Sp.enc,a1]
  have hl:(Sp.long r).toNat=1:=by unfold Sp.long; rw[if_pos a1]; rfl
  rw[e,hl];have hd:Sp.dl (UInt8.ofNat r.toNat::rest)=(r.toNat,1):=by
   unfold Sp.dl;rw[by0,zabm _ (by omega),if_pos (by omega)]
  exact ⟨hd,zaiz hd (.inl (by omega))⟩
 by_cases a2:r<2048
 ·have e:encB r++rest=UInt8.ofNat (192+r.toNat / 64)::UInt8.ofNat (128+r.toNat % 64)::rest:=by
   unfold encB Sp.enc bytesOf;rw[if_neg a1,if_pos a2];simp only[List.map_cons,List.map_nil,List.cons_append,List.nil_append];rw[show (192+r / 64).toNat=192+r.toNat / 64 by omega,show (128+r % 64).toNat=128+r.toNat % 64 by omega]
  have hl:(Sp.long r).toNat=2:=by unfold Sp.long; rw[if_neg a1,if_pos a2]; rfl
  rw[e,hl];have hd:Sp.dl (UInt8.ofNat (192+r.toNat / 64)::UInt8.ofNat (128+r.toNat % 64)::rest)=(r.toNat,2):=by
   unfold Sp.dl Sp.ct;rw[by0,by1,zabm _ (by omega),zabm _ (by omega)];simp only[List.length_cons,Bool.and_eq_true,decide_eq_true_eq,beq_iff_eq];rw[if_neg (by omega),if_pos (by omega),if_pos (by omega)];rw[show (192+r.toNat / 64) % 32*64+(128+r.toNat % 64) % 64=r.toNat by omega]
  exact ⟨hd,zaiz hd (.inl (by omega))⟩
 by_cases a3:r<65536
 ·have e:encB r++rest=UInt8.ofNat (224+r.toNat / 4096)::UInt8.ofNat (128+r.toNat / 64 % 64)::UInt8.ofNat (128+r.toNat % 64)::rest:=by
   unfold encB Sp.enc bytesOf;rw[if_neg a1,if_neg a2,if_pos a3];simp only[List.map_cons,List.map_nil,List.cons_append,List.nil_append];rw[show (224+r / 4096).toNat=224+r.toNat / 4096 by omega,show (128+r / 64 % 64).toNat=128+r.toNat / 64 % 64 by omega,show (128+r % 64).toNat=128+r.toNat % 64 by omega]
  have hl:(Sp.long r).toNat=3:=by unfold Sp.long; rw[if_neg a1,if_neg a2,if_pos a3]; rfl
  rw[e,hl];have hd:Sp.dl (UInt8.ofNat (224+r.toNat / 4096)::UInt8.ofNat (128+r.toNat / 64 % 64)::UInt8.ofNat (128+r.toNat % 64)::rest)=(r.toNat,3):=by
   unfold Sp.dl Sp.ct;rw[by0,by1,by2,zabm _ (by omega),zabm _ (by omega),zabm _ (by omega)];simp only[List.length_cons,Bool.and_eq_true,decide_eq_true_eq,beq_iff_eq,zagm,ge_iff_le];have hv:(224+r.toNat / 4096) % 16*4096+(128+r.toNat / 64 % 64) % 64*64+(128+r.toNat % 64) % 64=r.toNat:=by omega
   rw[hv,if_neg (by omega),if_neg (by omega),if_pos (by omega),if_pos (by omega)]
  refine ⟨hd,zaiz hd ?_⟩;simp only[List.length_cons,by0,by1,by2];rw[zabm _ (by omega),zabm _ (by omega),zabm _ (by omega)];omega
 ·have e:encB r++rest=UInt8.ofNat (240+r.toNat / 262144)::UInt8.ofNat (128+r.toNat / 4096 % 64)::UInt8.ofNat (128+r.toNat / 64 % 64)::UInt8.ofNat (128+r.toNat % 64)::rest:=by
   unfold encB Sp.enc bytesOf;rw[if_neg a1,if_neg a2,if_neg a3];simp only[List.map_cons,List.map_nil,List.cons_append,List.nil_append];rw[show (240+r / 262144).toNat=240+r.toNat / 262144 by omega,show (128+r / 4096 % 64).toNat=128+r.toNat / 4096 % 64 by omega,show (128+r / 64 % 64).toNat=128+r.toNat / 64 % 64 by omega,show (128+r % 64).toNat=128+r.toNat % 64 by omega]
  have hl:(Sp.long r).toNat=4:=by unfold Sp.long; rw[if_neg a1,if_neg a2,if_neg a3]; rfl
  rw[e,hl];have hd:Sp.dl (UInt8.ofNat (240+r.toNat / 262144)::UInt8.ofNat (128+r.toNat / 4096 % 64)::UInt8.ofNat (128+r.toNat / 64 % 64)::UInt8.ofNat (128+r.toNat % 64)::rest)=(r.toNat,4):=by
   unfold Sp.dl Sp.ct;rw[by0,by1,by2,by3,zabm _ (by omega),zabm _ (by omega),zabm _ (by omega),zabm _ (by omega)];simp only[List.length_cons,Bool.and_eq_true,decide_eq_true_eq,beq_iff_eq,zagm,ge_iff_le];have hv:(240+r.toNat / 262144) % 8*262144+(128+r.toNat / 4096 % 64) % 64*4096+(128+r.toNat / 64 % 64) % 64*64+(128+r.toNat % 64) % 64=r.toNat:=by omega
   rw[hv,if_neg (by omega),if_neg (by omega),if_neg (by omega),if_pos (by omega),if_pos (by omega)]
  exact ⟨hd,zaiz hd (.inl (by omega))⟩
theorem zack {n:Int} {a:UInt8} (h:n.toNat=a.toNat):UInt8.ofNat n.toNat=a:=by
 rw[h]; simp
theorem zatt {l:List UInt8} (h:1<l.length):∃ a b r,l=a::b::r:=by
 match l,h with
 |a::b::r,_=>exact ⟨a,b,r,rfl⟩
theorem zas1 {l:List UInt8} (h:2<l.length):∃ a b c r,l=a::b::c::r:=by
 match l,h with
 |a::b::c::r,_=>exact ⟨a,b,c,r,rfl⟩
theorem zas5 {l:List UInt8} (h:3<l.length):∃ a b c d r,l=a::b::c::d::r:=by
 match l,h with
 |a::b::c::d::r,_=>exact ⟨a,b,c,d,r,rfl⟩
theorem zasn (l:List UInt8) (hl:l≠[]) (hb:Sp.badl l=false):Sp.isRune ((Sp.dl l).1:Int)=true∧∃ rest,l=encB ((Sp.dl l).1:Int)++rest:=by
 have hlen:0<l.length:=by cases l with|nil=>exact absurd rfl hl|cons _ _=>simp
 have hr:Sp.isRune ((Sp.dl l).1:Int)=true:=by
  have h4:=zarp _ hlen;obtain ⟨h1,h2,h3⟩:=Sp.dl_pos _ hlen;rw[hb] at h4;simp only[Bool.false_eq_true,if_false] at h4;rcases Sp.ansA_ok l.length (Sp.by_ l 0) (Sp.by_ l 1) (Sp.by_ l 2) (Sp.by_ l 3) (l.getD 0 0).toNat_lt with h5|⟨h5,h6⟩
  ·rw[h4] at h5;simp only[Prod.mk.injEq] at h5;omega
  ·rw[h4] at h5;exact h5
 refine ⟨hr,?_⟩;have hg:¬ ((Sp.dl l).1=65533∧¬ (3≤l.length∧Sp.by_ l 0=239∧Sp.by_ l 1=191∧Sp.by_ l 2=189)):=by
  unfold Sp.badl at hb;rw[Sp.take3] at hb;intro hh;simp[hh.1] at hb;exact hh.2 hb
 obtain ⟨D,hD⟩:∃ D,D=Sp.dl l:=⟨_,rfl⟩;rw[← hD] at hg ⊢;unfold Sp.dl Sp.ct at hD;simp only[Bool.and_eq_true,decide_eq_true_eq,beq_iff_eq,zagm,ge_iff_le] at hD;have hb0:Sp.by_ l 0<256:=(l.getD 0 0).toNat_lt;have hb1:Sp.by_ l 1<256:=(l.getD 1 0).toNat_lt;have hb2:Sp.by_ l 2<256:=(l.getD 2 0).toNat_lt;have hb3:Sp.by_ l 3<256:=(l.getD 3 0).toNat_lt;by_cases k0:Sp.by_ l 0<128
 ·rw[if_pos k0] at hD;rw[hD];match l,hlen with
  |a::l,_=>
   rw[by0] at *;refine ⟨l,?_⟩;unfold encB Sp.enc bytesOf;rw[if_pos (by simp only; omega)];simp
 rw[if_neg k0] at hD;by_cases k1:Sp.by_ l 0 / 32=6∧1<l.length∧Sp.by_ l 1 / 64=2
 ·rw[if_pos k1] at hD;by_cases k2:128≤Sp.by_ l 0 % 32*64+Sp.by_ l 1 % 64
  ·rw[if_pos k2] at hD;rw[hD];obtain ⟨a,b,l,rfl⟩:=zatt k1.2.1
   next=>
    rw[by0,by1] at *;refine ⟨l,?_⟩;unfold encB Sp.enc bytesOf;rw[if_neg (by simp only; omega),if_pos (by simp only; omega)];simp only[List.map_cons,List.map_nil,List.cons_append,List.nil_append];rw[zack (a:=a) (by omega),zack (a:=b) (by omega)]
  ·rw[if_neg k2] at hD;rw[hD] at hg;have hg':=Classical.byContradiction fun hh=>hg ⟨rfl,hh⟩
   omega
 rw[if_neg k1] at hD;by_cases k2:(Sp.by_ l 0 / 16=14∧1<l.length∧Sp.by_ l 1 / 64=2)∧2<l.length∧Sp.by_ l 2 / 64=2
 ·rw[if_pos k2] at hD;by_cases k3:2048≤Sp.by_ l 0 % 16*4096+Sp.by_ l 1 % 64*64+Sp.by_ l 2 % 64∧(0≤((Sp.by_ l 0 % 16*4096+Sp.by_ l 1 % 64*64+Sp.by_ l 2 % 64:Nat):Int)∧((Sp.by_ l 0 % 16*4096+Sp.by_ l 1 % 64*64+Sp.by_ l 2 % 64:Nat):Int)<55296∨57344≤((Sp.by_ l 0 % 16*4096+Sp.by_ l 1 % 64*64+Sp.by_ l 2 % 64:Nat):Int)∧((Sp.by_ l 0 % 16*4096+Sp.by_ l 1 % 64*64+Sp.by_ l 2 % 64:Nat):Int)≤1114111)
  ·rw[if_pos k3] at hD;rw[hD];obtain ⟨a,b,c,l,rfl⟩:=zas1 k2.2.1
   next=>
    rw[by0,by1,by2] at *;refine ⟨l,?_⟩;unfold encB Sp.enc bytesOf;rw[if_neg (by simp only; omega),if_neg (by simp only; omega),if_pos (by simp only; omega)];simp only[List.map_cons,List.map_nil,List.cons_append,List.nil_append];rw[zack (a:=a) (by omega),zack (a:=b) (by omega),zack (a:=c) (by omega)]
  ·rw[if_neg k3] at hD;rw[hD] at hg;have hg':=Classical.byContradiction fun hh=>hg ⟨rfl,hh⟩
   omega
 rw[if_neg k2] at hD;by_cases k3:((Sp.by_ l 0 / 8=30∧1<l.length∧Sp.by_ l 1 / 64=2)∧2<l.length∧Sp.by_ l 2 / 64=2)∧3<l.length∧Sp.by_ l 3 / 64=2
 ·rw[if_pos k3] at hD;by_cases k4:65536≤Sp.by_ l 0 % 8*262144+Sp.by_ l 1 % 64*4096+Sp.by_ l 2 % 64*64+Sp.by_ l 3 % 64∧(0≤((Sp.by_ l 0 % 8*262144+Sp.by_ l 1 % 64*4096+Sp.by_ l 2 % 64*64+Sp.by_ l 3 % 64:Nat):Int)∧((Sp.by_ l 0 % 8*262144+Sp.by_ l 1 % 64*4096+Sp.by_ l 2 % 64*64+Sp.by_ l 3 % 64:Nat):Int)<55296∨57344≤((Sp.by_ l 0 % 8*262144+Sp.by_ l 1 % 64*4096+Sp.by_ l 2 % 64*64+Sp.by_ l 3 % 64:Nat):Int)∧((Sp.by_ l 0 % 8*262144+Sp.by_ l 1 % 64*4096+Sp.by_ l 2 % 64*64+Sp.by_ l 3 % 64:Nat):Int)≤1114111)
  ·rw[if_pos k4] at hD;rw[hD];obtain ⟨a,b,c,d,l,rfl⟩:=zas5 k3.2.1
   next=>
    rw[by0,by1,by2,by3] at *;refine ⟨l,?_⟩;unfold encB Sp.enc bytesOf;rw[if_neg (by simp only; omega),if_neg (by simp only; omega),if_neg (by simp only; omega)];simp only[List.map_cons,List.map_nil,List.cons_append,List.nil_append];rw[zack (a:=a) (by omega),zack (a:=b) (by omega),zack (a:=c) (by omega),zack (a:=d) (by omega)]
  ·rw[if_neg k4] at hD;rw[hD] at hg;have hg':=Classical.byContradiction fun hh=>hg ⟨rfl,hh⟩
   omega
 ·rw[if_neg k3] at hD;rw[hD] at hg;have hg':=Classical.byContradiction fun hh=>hg ⟨rfl,hh⟩
  omega
def put:List Int→Spot→List Spot×Spot
 |[],s=>([],s)
 |r::rs,s=>(⟨r,s.at_,s.line,s.col⟩::(put rs (Sp.on ⟨r,s.at_,s.line,s.col⟩ r (Sp.long r))).1,(put rs (Sp.on ⟨r,s.at_,s.line,s.col⟩ r (Sp.long r))).2)
theorem on_at (s:Spot) (r n:Int):(Sp.on s r n).at_=s.at_+n:=by unfold Sp.on; split<;>rfl
theorem zaew (r:Int):1≤Sp.long r:=by unfold Sp.long; (repeat' split)<;>omega
theorem zam8:∀ (rs:List Int) (s:Spot),(put rs s).2.at_=s.at_+(encs rs).length
 |[],s=>by simp[put,encs]
 |r::rs,s=>by
  simp only[put];rw[zam8 rs,on_at,zabd,List.length_append,zaev];have:=zaew r;simp only;omega
theorem zamw (t:List UInt8):∀ (rs:List Int) (n:Nat) (acc:List Spot) (s:Spot) (rest:List UInt8),rs.all Sp.isRune=true→0≤s.at_→t.drop s.at_.toNat=encs rs++rest→(rest=[]∨Sp.badl rest=true) →
  t.length-s.at_.toNat≤n→Sp.spotsFrom t n acc s=(acc++(put rs s).1,(put rs s).2)
 |[],n,acc,s,rest=>by
  intro _ h0 hd hr hn;simp only[encs,List.flatMap_nil,List.nil_append] at hd;simp only[put,List.append_nil];cases n with
  |zero=>rfl
  |succ n=>
   simp only[Sp.spotsFrom];by_cases hc:s.at_<t.length
   ·rw[if_pos hc];have hne:t.drop s.at_.toNat≠[]:=by
     intro hh;have:=congrArg List.length hh;simp at this;omega
    rcases hr with rfl|hr
    ·exact absurd hd hne
    ·rw[if_pos];rw[Sp.bad_eq,hd];exact hr
   ·rw[if_neg hc]
 |r::rs,n,acc,s,rest=>by
  intro ha h0 hd hr hn;simp only[List.all_cons,Bool.and_eq_true] at ha;rw[zabd,List.append_assoc] at hd;obtain ⟨h1,h2⟩:=zarf r (encs rs++rest) ha.1;have hlen:=congrArg List.length hd;have hl:=zaew r;have hel:=zaev r;simp only[List.length_drop,List.length_append] at hlen;have hc:s.at_<t.length:=by omega
  have hb:Sp.bad t s.at_.toNat=false:=by rw[Sp.bad_eq,hd]; exact h2
  have hr':0≤r:=by
   have:=ha.1;simp only[Sp.isRune,decide_eq_true_eq] at this;exact this.1
  have e1:Sp.at1 t s.at_=r:=by
   unfold Sp.at1;rw[hb,Sp.dc_eq,hd,h1];simp;omega
  have e2:Sp.at2 t s.at_=Sp.long r:=by
   unfold Sp.at2;rw[hb,Sp.dc_eq,hd,h1];simp;omega
  obtain ⟨n,rfl⟩:∃ m,n=m+1:=⟨n-1,by omega⟩;simp only[Sp.spotsFrom,if_pos hc,hb,Bool.false_eq_true,if_false];rw[e1,e2];have hat:=on_at ⟨r,s.at_,s.line,s.col⟩ r (Sp.long r);simp only at hat;rw[zamw t rs n _ _ rest ha.2 (by rw[hat]; omega) ?_ hr (by rw[hat]; omega)]
  ·simp only[put,List.append_assoc,List.cons_append,List.nil_append]
  ·rw[hat,show (s.at_+Sp.long r).toNat=s.at_.toNat+(encB r).length by omega,← List.drop_drop,hd,List.drop_left]
def s0:Spot:=⟨0,0,1,1⟩
theorem zal1 (rs:List Int) (rest:List UInt8) (ha:rs.all Sp.isRune=true) (hr:rest=[]∨Sp.badl rest=true):Sp.spots1 (encs rs++rest)=(put rs s0).1∧Sp.spots2 (encs rs++rest)=Sp.ended (put rs s0).2:=by
 have:=zamw (encs rs++rest) rs (encs rs++rest).length [] s0 rest ha (by simp[s0]) (by simp[s0]) hr (by omega);unfold Sp.spots1 Sp.spots2;unfold s0 at this ⊢;rw[this];simp
theorem zak4:∀ (n:Nat) (t:List UInt8),t.length≤n→∃ rs rest,t=encs rs++rest∧rs.all Sp.isRune=true∧(rest=[]∨Sp.badl rest=true)
 |0,t,h=>⟨[],[],by cases t<;>simp_all[encs],rfl,.inl rfl⟩
 |n+1,t,h=>by
  by_cases h0:t=[]
  ·exact ⟨[],[],by simp[h0,encs],rfl,.inl rfl⟩
  cases hb:Sp.badl t with
  |true=>exact ⟨[],t,by simp[encs],rfl,.inr hb⟩
  |false=>
   obtain ⟨h1,rest,h2⟩:=zasn t h0 hb;have hl:=zaev ((Sp.dl t).1:Int);have hp:=zaew ((Sp.dl t).1:Int);have hlen:rest.length≤n:=by
    have:=congrArg List.length h2;rw[List.length_append] at this;omega
   obtain ⟨rs,r2,h3,h4,h5⟩:=zak4 n rest hlen;refine ⟨((Sp.dl t).1:Int)::rs,r2,?_,?_,h5⟩
   ·rw[zabd,List.append_assoc,← h3]; exact h2
   ·simp[h1,h4]
theorem zans (s:Spot):(Sp.ended s).at_=s.at_:=rfl
theorem zamu (rs:List Int) (ha:rs.all Sp.isRune=true) (hl:(encs rs).length≤4000):Sp.runes1 (encs rs)=(put rs s0).1∧Sp.runes2 (encs rs)=⟨0,0,[]⟩:=by
 obtain ⟨h1,h2⟩:=zal1 rs [] ha (.inl rfl);rw[List.append_nil] at h1 h2;have h3:=zam8 rs s0;unfold Sp.runes1 Sp.runes2;rw[h1,h2,zans,h3];have h5:¬ (s0.at_+((encs rs).length:Int)<(encs rs).length):=by simp[s0]
 have h4:¬ 4000<(encs rs).length:=by omega
 simp only[if_neg h4,if_neg h5,and_self]
theorem zar5 (rs:List Int) (rest:List UInt8) (ha:rs.all Sp.isRune=true) (hne:rest≠[]) (hb:Sp.badl rest=true) (hl:(encs rs++rest).length≤4000):Sp.runes1 (encs rs++rest)=[]∧Sp.runes2 (encs rs++rest)=⟨11,(encs rs).length,[]⟩:=by
 obtain ⟨h1,h2⟩:=zal1 rs rest ha (.inr hb);have h3:=zam8 rs s0;have hpos:0<rest.length:=by cases rest with|nil=>exact absurd rfl hne|cons _ _=>simp
 unfold Sp.runes1 Sp.runes2;rw[h2,zans,h3];have h5:(s0.at_+((encs rs).length:Int)<(encs rs++rest).length):=by simp[s0]; omega
 have h4:¬ 4000<(encs rs++rest).length:=by omega
 simp only[if_neg h4,if_pos h5];simp[s0]
theorem zaom (t:List UInt8):(Sp.runes1 t=[]∧Sp.runes2 t=⟨10,4000,[]⟩) ∨
  (t.length≤4000∧∃ rs rest,t=encs rs++rest∧rs.all Sp.isRune=true∧rest≠[]∧Sp.badl rest=true∧Sp.runes1 t=[]∧Sp.runes2 t=⟨11,(encs rs).length,[]⟩) ∨
  (t.length≤4000∧∃ rs,t=encs rs∧rs.all Sp.isRune=true∧Sp.runes1 t=(put rs s0).1∧Sp.runes2 t=⟨0,0,[]⟩):=by
 by_cases h:4000<t.length
 ·left;unfold Sp.runes1 Sp.runes2;rw[if_pos h,if_pos h];exact ⟨rfl,rfl⟩
 right;obtain ⟨rs,rest,h1,h2,h3⟩:=zak4 t.length t (Nat.le_refl _);by_cases h0:rest=[]
 ·right;subst h0;rw[List.append_nil] at h1;subst h1;obtain ⟨q1,q2⟩:=zamu rs h2 (by omega);exact ⟨by omega,rs,rfl,h2,q1,q2⟩
 ·left;have hb:Sp.badl rest=true:=by rcases h3 with h3|h3; exact absurd h3 h0; exact h3
  subst h1;obtain ⟨q1,q2⟩:=zar5 rs rest h2 h0 hb (by omega);exact ⟨by omega,rs,rest,rfl,h2,h0,hb,q1,q2⟩
end Lift.A1P
namespace Lift.A1P
open Go Go.RowKit Lift Go.IntWalk Lift.Fn
def goesR (r:Int):Bool:=Sp.letter r||Sp.digit r
theorem goes1 (r:Int) (h:0≤r∧r≤1114111):qao r=some (goesR r):=by
 rw[qao,zaaa];unfold qao_f goesR;rw[i64_in r (by omega),zas8,zaqq,Option.bind_some,Option.bind_some];cases Sp.letter r<;>rfl
theorem zafp {r:Int} (h:Sp.isRune r=true):0≤r∧r≤1114111:=by
 simp only[Sp.isRune,decide_eq_true_eq] at h;omega
theorem zakq (t:List UInt8) (p:Nat) (r:Int) (l:List UInt8) (hd:t.drop p=encB r++l) (hr:Sp.isRune r=true):Utf8.decode ⟨t.toArray⟩ p=(r.toNat,(Sp.long r).toNat):=by
 have h1:=Sp.dc_eq t p;unfold Sp.dc at h1;rw[h1,hd];exact (zarf r l hr).1
theorem zae7 (ds rs:List Int):(encs (ds++rs)).drop (encs ds).length=encs rs:=by
 rw[zaas,List.drop_left]
theorem zaf8 (ds rs:List Int) (r:Int):(encs ds).length<(encs (ds++r::rs)).length:=by
 rw[zaas,zabd,List.length_append,List.length_append,zaev];have:=zaew r;omega
theorem zaj0 (ds:List Int) (r:Int):(encs (ds++[r])).length=(encs ds).length+(Sp.long r).toNat:=by
 rw[zaas,zabd,List.length_append,List.length_append,zaev];simp[encs]
theorem wordL:∀ (rs ds:List Int) (n:Nat),rs.all Sp.isRune=true→rs.length<n→(encs (ds++rs)).length≤9000000 →
  qat_i2 n (encs (ds++rs)) (encs (ds++rs)) (encs ds).length=some (if rs.all goesR then .inr (encs (ds++rs)) else .inl (encs (ds++rs.takeWhile goesR)))
 |[],ds,n,_,hn,hl=>by
  obtain ⟨n,rfl⟩:∃ q,n=q+1:=⟨n-1,by simp at hn; omega⟩;simp only[List.append_nil,qat_i2,qat_t2];simp
 |r::rs,ds,n,ha,hn,hl=>by
  obtain ⟨n,rfl⟩:∃ q,n=q+1:=⟨n-1,by simp at hn; omega⟩;simp only[List.all_cons,Bool.and_eq_true] at ha;have hlt:=zaf8 ds rs r;have hd:Utf8.decode ⟨(encs (ds++r::rs)).toArray⟩ (encs ds).length=(r.toNat,(Sp.long r).toNat):=zakq _ _ r (encs rs) (by rw[zae7,zabd]) ha.1;have hr:=zafp ha.1;simp only[qat_i2,qat_t2,hd,hlt,decide_true,cond_true];rw[show ((r.toNat:Nat):Int)=r by omega,goes1 r hr,Option.bind_some];cases hg:goesR r with
  |false=>
   have hb:(decide ((0:Int)≤0)&&(decide ((0:Int)≤((encs ds).length:Int))&&decide (((encs ds).length:Int)≤((encs (ds++r::rs)).length:Int))))=true:=by
    simp only[Bool.and_eq_true,decide_eq_true_eq]; omega
   simp only[Bool.not_false,cond_true,hb,List.all_cons,hg,Bool.false_and,Bool.false_eq_true,if_false,List.takeWhile_cons,List.append_nil,List.drop_zero,Int.toNat_natCast];rw[zaas,List.take_left]
  |true=>
   have ih:=wordL rs (ds++[r]) n ha.2 (by simp at hn; omega) (by simpa using hl);rw[List.append_assoc,List.singleton_append,zaj0] at ih;simp only[Bool.not_true,cond_false,ih,List.all_cons,hg,Bool.true_and,List.takeWhile_cons,if_true,List.append_assoc,List.singleton_append]
theorem zasd {p:Int→Bool} {l:List Int} (h:l.all p=true):l.takeWhile p=l:=by
 induction l with
 |nil=>rfl
 |cons a l ih=>
  simp only[List.all_cons,Bool.and_eq_true] at h;rw[List.takeWhile_cons,if_pos h.1,ih h.2]
theorem zadh (rs:List Int):rs.length≤(encs rs).length:=by
 induction rs with
 |nil=>simp
 |cons r l ih=>
  rw[zabd,List.length_append,zaev,List.length_cons];have:=zaew r;omega
theorem word1 (rs:List Int) (ha:rs.all Sp.isRune=true) (hl:(encs rs).length≤9000000):qat (encs rs)=some (encs (rs.takeWhile goesR)):=by
 rw[qat,zaaa];unfold qat_f;have:=wordL rs [] fuel ha (by have:=zadh rs; unfold fuel; omega) (by simpa using hl);simp only[List.nil_append] at this;rw[qat_l2,zaaa,show (0:Nat)=(encs []).length from rfl,this];cases hg:rs.all goesR with
 |true=>simp only[if_true,Option.bind_some,zasd hg]
 |false=>simp
def skip:Bool→List Int→List Int
 |_,[]=>[]
 |true,r::rs=>skip (r != 10) rs
 |false,r::rs=>if r=35 then skip true rs else if Sp.blank r then skip false rs else r::rs
theorem zao7:∀ (rs ds:List Int) (c:Bool) (n:Nat),rs.all Sp.isRune=true→rs.length<n →
  qaq_i3 n (encs (ds++rs)) c (encs (ds++rs)) (encs ds).length=some (if skip c rs=[] then .inr (encs (ds++rs)) else .inl (((encs (ds++rs)).length:Int)-(encs (skip c rs)).length))
 |[],ds,c,n,_,hn=>by
  obtain ⟨n,rfl⟩:∃ q,n=q+1:=⟨n-1,by simp at hn; omega⟩;simp only[List.append_nil,qaq_i3,qaq_t3];cases c<;>simp[skip]
 |r::rs,ds,c,n,ha,hn=>by
  obtain ⟨n,rfl⟩:∃ q,n=q+1:=⟨n-1,by simp at hn; omega⟩;simp only[List.all_cons,Bool.and_eq_true] at ha;have hlt:=zaf8 ds rs r;have hd:Utf8.decode ⟨(encs (ds++r::rs)).toArray⟩ (encs ds).length=(r.toNat,(Sp.long r).toNat):=zakq _ _ r (encs rs) (by rw[zae7,zabd]) ha.1;have hr:=zafp ha.1;have ih:=fun c=>zao7 rs (ds++[r]) c n ha.2 (by simp at hn; omega)
  simp only[List.append_assoc,List.singleton_append,zaj0] at ih;simp only[qaq_i3,qaq_t3,hd,hlt,decide_true,cond_true];rw[show ((r.toNat:Nat):Int)=r by omega];cases c with
  |true=>
   rw[cond_true,ih];rfl
  |false=>
   rw[cond_false];by_cases h35:r=35
   ·have:(r==35)=true:=by simp[h35]
    rw[this,cond_true,ih];simp only[skip,h35,if_true]
   ·have:(r==35)=false:=by simp[h35]
    rw[this,cond_false,i64_in r (by omega),zat4,Option.bind_some];cases hb:Sp.blank r with
    |true=>
     simp only[Bool.not_true,cond_false,ih,skip,h35,if_false,hb,if_true]
    |false=>
     have hne:skip false (r::rs)=r::rs:=by simp[skip,h35,hb]
     rw[hne];simp only[Bool.not_false,cond_true,if_neg (List.cons_ne_nil r rs)];congr 2;rw[zaas,List.length_append];omega
theorem zao2 (rs:List Int) (ha:rs.all Sp.isRune=true) (hl:(encs rs).length≤9000000):qaq (encs rs)=some (((encs rs).length:Int)-(encs (skip false rs)).length):=by
 rw[qaq,zaaa];unfold qaq_f;have:=zao7 rs [] false fuel ha (by have:=zadh rs; unfold fuel; omega);simp only[List.nil_append] at this;rw[qaq_l3,zaaa,show (0:Nat)=(encs []).length from rfl,this];by_cases hs:skip false rs=[]
 ·rw[if_pos hs,hs]; simp[encs]
 ·rw[if_neg hs]; simp
theorem zat6 (l:List (List UInt8)) (x:List UInt8) (hl:l.length≤4000):∀ (k n:Nat) (i:Int),0≤i→l.length-i.toNat≤k→k<n →
  ∃ r,qaQ_i2 n l x l.length i=some r∧((l.drop i.toNat).contains x=match r with|.inl j=>decide (0≤j)|.inr _=>false):=by
 intro k;have fin:∀ (n:Nat) (i:Int),0≤i→¬ i<l.length→∃ r,qaQ_i2 (n+1) l x l.length i=some r∧((l.drop i.toNat).contains x=match r with|.inl j=>decide (0≤j)|.inr _=>false):=by
  intro n i h0 c;refine ⟨.inr (),?_,?_⟩
  ·simp only[qaQ_i2,qaQ_t2,c,decide_false,cond_false]
  ·rw[List.drop_eq_nil_of_le (by omega)]; rfl
 induction k with
 |zero=>
  intro n i h0 hk hn;obtain ⟨n,rfl⟩:∃ q,n=q+1:=⟨n-1,by omega⟩;exact fin n i h0 (by omega)
 |succ k ih=>
  intro n i h0 hk hn;obtain ⟨n,rfl⟩:∃ q,n=q+1:=⟨n-1,by omega⟩;by_cases c:i<l.length
  ·have ha:i.toNat<l.length:=by omega
   rw[List.drop_eq_getElem_cons ha];simp only[qaQ_i2,qaQ_t2,c,h0,decide_true,cond_true,List.getElem?_eq_getElem ha,Option.bind_some,List.contains_cons];cases hx:(x==l[i.toNat]) with
   |true=>exact ⟨.inl i,rfl,by simp[h0]⟩
   |false=>
    rw[i64_in (i+1) (by omega)];obtain ⟨r,h1,h2⟩:=ih n (i+1) (by omega) (by omega) (by omega);refine ⟨r,h1,?_⟩;rw[show (i+1).toNat=i.toNat+1 by omega] at h2;rw[Bool.false_or,h2]
  ·exact fin n i h0 c
theorem zal3 (l:List (List UInt8)) (x:List UInt8) (hl:l.length≤4000):qaK l x=some (l.contains x):=by
 obtain ⟨r,h1,h2⟩:=zat6 l x hl l.length fuel 0 (by omega) (by omega) (by unfold fuel; omega);simp only[Int.toNat_zero,List.drop_zero] at h2;rw[qaK,zaaa];unfold qaK_f;rw[qaQ,zaaa];unfold qaQ_f;rw[qaQ_l2,zaaa,h1,h2];cases r with
 |inl j=>simp
 |inr u=>simp
def ones:List UInt8:=[61,60,62,33,43,45,42,47,37,59,123,125,40,41]
def twos:List (List UInt8):=[[58,61],[60,45],[61,61],[33,61],[60,61],[62,61],[38,38],[124,124]]
def sgn (t:List UInt8):List UInt8:=if 1<t.length∧twos.contains (t.take 2)=true then t.take 2 else if ones.contains (t.headD 0)=true then t.take 1 else []
theorem zash:∀ i:Fin 256,Lib.contains ones [UInt8.ofNat i.val]=ones.contains (UInt8.ofNat i.val):=by decide +kernel
theorem zasv (b:UInt8):Lib.contains ones [b]=ones.contains b:=by
 have:=zash ⟨b.toNat,b.toNat_lt⟩;simpa using this
theorem sign1 (b:UInt8) (t:List UInt8) (hl:(b::t).length≤9000000):qar (b::t)=some (sgn (b::t)):=by
 rw[qar,zaaa];unfold qar_f;have ht:List.take 1 (b::t)=[b]:=rfl;have hc:strings_Contains ones [b]=some (ones.contains b):=by
  rw[strings_Contains,zaaa];unfold zac8;rw[decide_eq_true (by decide),cond_true,zasv]
 have hc':strings_Contains [61,60,62,33,43,45,42,47,37,59,123,125,40,41] [b]=some (ones.contains b):=hc;have b1:(decide ((0:Int)≤0)&&(decide ((0:Int)≤1)&&decide ((1:Int)≤((b::t).length:Int))))=true:=by
  simp only[Bool.and_eq_true,decide_eq_true_eq,List.length_cons]; omega
 simp only[List.drop_zero,ht,b1,cond_true,hc',Option.bind_some];unfold sgn;by_cases h1:1<(b::t).length
 ·have h1':decide (((b::t).length:Int)>1)=true:=decide_eq_true (by omega);have b2:(decide ((0:Int)≤0)&&(decide ((0:Int)≤2)&&decide ((2:Int)≤((b::t).length:Int))))=true:=by
   simp only[Bool.and_eq_true,decide_eq_true_eq]; omega
  have hc2:=zal3 twos ((b::t).take 2) (by decide);have hc2':qaK [[58,61],[60,45],[61,61],[33,61],[60,61],[62,61],[38,38],[124,124]] ((b::t).take 2)=some (twos.contains ((b::t).take 2)):=hc2;rw[h1',cond_true,b2,cond_true,hc2',Option.bind_some];cases h2:twos.contains ((b::t).take 2) with
  |true=>rw[if_pos ⟨h1,rfl⟩]; rfl
  |false=>
   rw[if_neg (fun hh=>by cases hh.2)];cases h3:ones.contains b with
   |true=>simp only[List.headD_cons,h3,if_true]; rfl
   |false=>simp only[List.headD_cons,h3,Bool.false_eq_true,if_false]; rfl
 ·have h1':decide (((b::t).length:Int)>1)=false:=decide_eq_false (by omega);rw[h1',cond_false,if_neg (fun hh=>h1 hh.1)];cases h3:ones.contains b with
  |true=>simp only[List.headD_cons,h3,if_true]; rfl
  |false=>simp only[List.headD_cons,h3,Bool.false_eq_true,if_false]; rfl
end Lift.A1P
namespace Lift.A1P
open Go Go.RowKit Lift Go.IntWalk Lift.Fn
def tens:List UInt8:=[48,49,50,51,52,53,54,55,56,57]
def numS (t:List UInt8):Int×Bool:=
 if 1<t.length∧(t.headD 0).toNat=48 then (0,false) else if Lib.trimS t tens≠[] then (0,false) else if (zabx t).2=true then ((zabx t).1,false) else ((zabx t).1,decide ((zabx t).1≤2147483647))
theorem zatn (t:List UInt8) (hl:t.length≤9000000):qap t=some (numS t):=by
 rw[qap,zaaa];unfold qap_f numS;have hT:zact t [48,49,50,51,52,53,54,55,56,57]=some (Lib.trimS t tens):=by
  rw[zact,zaaa];unfold zaer;rw[decide_eq_true (show _∧_ by constructor; omega; decide)];rfl
 have hA:zacn t=some (zabx t):=by
  rw[zacn,zaaa];unfold zaex;rw[decide_eq_true (by omega)];rfl
 have rest:(bif !Lib.trimS t tens==[] then some ((0:Int),false) else bif !(zabx t).2 then some ((zabx t).1,decide ((zabx t).1≤2147483647)) else some ((zabx t).1,false)) =
   some (if Lib.trimS t tens≠[] then (0,false) else if (zabx t).2=true then ((zabx t).1,false) else ((zabx t).1,decide ((zabx t).1≤2147483647))):=by
  by_cases h:Lib.trimS t tens=[]
  ·rw[if_neg (fun hh=>hh h),h];cases (zabx t).2<;>rfl
  ·rw[if_pos h];have:(Lib.trimS t tens==[])=false:=by simpa using h
   rw[this]; rfl
 rw[hT,hA];by_cases h1:1<t.length
 ·rw[decide_eq_true (show (t.length:Int)>1 by omega),cond_true];match t,h1 with
  |b::t,h1=>
   simp only[List.getElem?_cons_zero,Option.bind_some];by_cases h2:b.toNat=48
   ·have:(((b.toNat:Nat):Int)==48)=true:=by rw[beq_iff_eq]; omega
    rw[this,cond_true,if_pos (show 1<(b::t).length∧((b::t).headD 0).toNat=48 from ⟨h1,h2⟩)]
   ·have:(((b.toNat:Nat):Int)==48)=false:=by rw[beq_eq_false_iff_ne]; omega
    rw[this,cond_false,if_neg (show ¬ (1<(b::t).length∧((b::t).headD 0).toNat=48) from fun hh=>h2 hh.2)];exact rest
 ·rw[decide_eq_false (show ¬ (t.length:Int)>1 by omega),cond_false,if_neg (show ¬ (1<t.length∧(t.headD 0).toNat=48) from fun hh=>h1 hh.1)];simp only[Option.bind_some];exact rest
theorem zat5:qan=qan_f:=by rw[qan,zaaa]
noncomputable def words:List (List UInt8):=qan_f.getD []
theorem zar9:qan=some words:=by rw[zat5]; rfl
theorem zarm:∀ (rs ds:List Int) (n:Nat),rs.all Sp.isRune=true→rs.length≤n→Lib.runeCountFrom ⟨(encs (ds++rs)).toArray⟩ n (encs ds).length=rs.length
 |[],ds,n,_,_=>by
  cases n with
  |zero=>rfl
  |succ n=>simp[Lib.runeCountFrom,ByteArray.size]
 |r::rs,ds,n,ha,hn=>by
  obtain ⟨n,rfl⟩:∃ q,n=q+1:=⟨n-1,by simp at hn; omega⟩;simp only[List.all_cons,Bool.and_eq_true] at ha;have hlt:=zaf8 ds rs r;have hd:Utf8.decode ⟨(encs (ds++r::rs)).toArray⟩ (encs ds).length=(r.toNat,(Sp.long r).toNat):=zakq _ _ r (encs rs) (by rw[zae7,zabd]) ha.1;have ih:=zarm rs (ds++[r]) n ha.2 (by simp at hn; omega);simp only[List.append_assoc,List.singleton_append,zaj0] at ih;simp only[Lib.runeCountFrom,hd];rw[if_pos (by simpa [ByteArray.size] using hlt),ih,List.length_cons];omega
theorem zat8 (rs:List Int) (ha:rs.all Sp.isRune=true) (hl:(encs rs).length≤9000000):zaaz (encs rs)=some (rs.length:Int):=by
 rw[zaaz,zaaa];unfold zabj Lib.runeCount;rw[decide_eq_true (by omega),cond_true];have:=zarm rs [] (encs rs).length ha (zadh rs);simp only[List.nil_append] at this;have hs:(⟨(encs rs).toArray⟩:ByteArray).size=(encs rs).length:=by simp[ByteArray.size]
 rw[hs,show (0:Nat)=(encs []).length from rfl,this]
theorem zatp (r:Int) (rs:List Int) (hr:Sp.isRune r=true):zaax (encs (r::rs))=some (r,Sp.long r):=by
 rw[zaax,zaaa];unfold zabh Lib.decodeGo;have hp:=zaew r;have hs:¬ (⟨(encs (r::rs)).toArray⟩:ByteArray).size=0:=by
  have:=zaf8 [] rs r;simp only[List.nil_append] at this;simp[ByteArray.size];intro hh;rw[hh] at this;simp at this
 have hd:Utf8.decode ⟨(encs (r::rs)).toArray⟩ 0=(r.toNat,(Sp.long r).toNat):=zakq _ 0 r (encs rs) (by rw[List.drop_zero,zabd]) hr;have h0:=zafp hr;rw[if_neg hs,hd];simp only;rw[show ((r.toNat:Nat):Int)=r by omega,show (((Sp.long r).toNat:Nat):Int)=Sp.long r by omega]
noncomputable def tokR (rs:List Int):Token×Int:=
  bif goesR (rs.headD 0) then
    (bif Sp.digit (rs.headD 0) then (bif (numS (encs (rs.takeWhile goesR))).2 then (⟨2,encs (rs.takeWhile goesR),(numS (encs (rs.takeWhile goesR))).1,0⟩,0) else (⟨1,encs (rs.takeWhile goesR),0,0⟩,22))
     else bif words.contains (encs (rs.takeWhile goesR)) then (⟨4,encs (rs.takeWhile goesR),0,0⟩,0)
     else bif decide (16<(rs.takeWhile goesR).length) then (⟨1,encs (rs.takeWhile goesR),0,0⟩,21) else (⟨1,encs (rs.takeWhile goesR),0,0⟩,0))
  else bif sgn (encs rs)==[] then (⟨0,[],0,0⟩,20) else (⟨3,sgn (encs rs),0,0⟩,0)
theorem zamc {p:Int→Bool} {rs:List Int} (ha:rs.all Sp.isRune=true):(rs.takeWhile p).all Sp.isRune=true:=by
 rw[List.all_eq_true] at ha ⊢;intro r hr;exact ha r ((List.takeWhile_sublist _).subset hr)
theorem zask (p:Int→Bool) (rs:List Int):(encs (rs.takeWhile p)).length≤(encs rs).length:=by
 have:encs rs=encs (rs.takeWhile p)++encs (rs.dropWhile p):=by rw[← zaas,List.takeWhile_append_dropWhile]
 rw[this,List.length_append];omega
theorem zat3 (rs:List Int) (hne:rs≠[]) (ha:rs.all Sp.isRune=true) (hl:(encs rs).length≤9000000):qas (encs rs)=some (tokR rs):=by
 match rs,hne with
 |r::rs,_=>
  have ha':=ha;simp only[List.all_cons,Bool.and_eq_true] at ha';have hr:=zafp ha'.1;have hw:=word1 (r::rs) ha hl;have hwl:=zask goesR (r::rs);rw[qas,zaaa];unfold qas_f tokR;rw[zatp r rs ha'.1,Option.bind_some];simp only;rw[goes1 r hr,Option.bind_some];simp only[List.headD_cons];cases hg:goesR r with
  |false=>
   obtain ⟨b,t,hbt⟩:∃ b t,encs (r::rs)=b::t:=by
    cases he:encs (r::rs) with
    |nil=>
     have:=zaf8 [] rs r;simp only[List.nil_append,he] at this;simp[encs] at this
    |cons b t=>exact ⟨b,t,rfl⟩
   have hs:=sign1 b t (by rw[← hbt]; exact hl);rw[← hbt] at hs;simp only[Bool.not_false,cond_true,cond_false,hs,Option.bind_some];cases (sgn (encs (r::rs))==[])<;>rfl
  |true=>
   simp only[Bool.not_true,cond_false,cond_true,hw,Option.bind_some];rw[i64_in r (by omega),zaqq,Option.bind_some];cases hd:Sp.digit r with
   |true=>
    rw[cond_true,cond_true,zatn _ (by omega),Option.bind_some];cases (numS (encs ((r::rs).takeWhile goesR))).2<;>rfl
   |false=>
    rw[cond_false,cond_false,zar9,Option.bind_some,zal3 _ _ (by decide),Option.bind_some];cases words.contains (encs ((r::rs).takeWhile goesR)) with
    |true=>rfl
    |false=>
     rw[cond_false,cond_false,zat8 _ (zamc ha) (by omega),Option.bind_some];have:decide ((((r::rs).takeWhile goesR).length:Int)>16)=decide (16<((r::rs).takeWhile goesR).length):=by
      rw[Bool.eq_iff_iff,decide_eq_true_eq,decide_eq_true_eq]; omega
     rw[this];cases decide (16<((r::rs).takeWhile goesR).length)<;>rfl
noncomputable def restR (rs:List Int):List Int:=bif goesR (rs.headD 0) then rs.dropWhile goesR else rs.drop (sgn (encs rs)).length
theorem zahy {r:Int} {rs:List Int} {b:UInt8} {t:List UInt8} (hr:Sp.isRune r=true) (h:encs (r::rs)=b::t) (hb:b.toNat<128):encB r=[b]∧t=encs rs:=by
 rw[zabd] at h;simp only[Sp.isRune,decide_eq_true_eq] at hr;by_cases a1:r<128
 ·have e:encB r=[UInt8.ofNat r.toNat]:=by simp[encB,bytesOf,Sp.enc,a1]
  rw[e] at h ⊢;simp only[List.singleton_append,List.cons.injEq] at h;exact ⟨by rw[h.1],h.2.symm⟩
 ·exfalso;have hh:∀ x l,encB r=UInt8.ofNat x::l→128≤x→x<256→False:=by
   intro x l he h1 h2;rw[he,List.cons_append,List.cons.injEq] at h;have:=congrArg UInt8.toNat h.1;rw[zabm _ h2] at this;omega
  unfold encB Sp.enc bytesOf at hh;rw[if_neg a1] at hh;by_cases a2:r<2048
  ·rw[if_pos a2] at hh;exact hh _ _ rfl (by omega) (by omega)
  ·rw[if_neg a2] at hh;by_cases a3:r<65536
   ·rw[if_pos a3] at hh;exact hh _ _ rfl (by omega) (by omega)
   ·rw[if_neg a3] at hh;exact hh _ _ rfl (by omega) (by omega)
end Lift.A1P
namespace Lift.A1P
open Go Go.RowKit Lift Go.IntWalk Lift.Fn
theorem zacg:∀ (l:List Int) (c:Bool),∃ ds,l=ds++skip c l
 |[],c=>⟨[],by cases c<;>rfl⟩
 |r::l,true=>by
  obtain ⟨ds,h⟩:=zacg l (r != 10);exact ⟨r::ds,by simp only[skip,List.cons_append]; rw[← h]⟩
 |r::l,false=>by
  simp only[skip];split
  ·obtain ⟨ds,h⟩:=zacg l true;exact ⟨r::ds,by rw[List.cons_append,← h]⟩
  ·split
   ·obtain ⟨ds,h⟩:=zacg l false;exact ⟨r::ds,by rw[List.cons_append,← h]⟩
   ·exact ⟨[],rfl⟩
theorem zatk:∀ x∈twos,x.length=2∧x.all (fun b=>decide (b.toNat<128))=true:=by decide
theorem zatj:∀ b∈ones,b.toNat<128:=by decide
theorem zatz (r:Int) (rs:List Int):∃ b t,encs (r::rs)=b::t:=by
 cases he:encs (r::rs) with
 |nil=>
  have:=zaf8 [] rs r;simp only[List.nil_append,he] at this;simp[encs] at this
 |cons b t=>exact ⟨b,t,rfl⟩
theorem zaqt (r:Int) (rs:List Int) (ha:(r::rs).all Sp.isRune=true) (h:sgn (encs (r::rs))≠[]):encs ((r::rs).take (sgn (encs (r::rs))).length)=sgn (encs (r::rs))∧0<(sgn (encs (r::rs))).length:=by
 refine ⟨?_,List.length_pos_iff.2 h⟩;simp only[List.all_cons,Bool.and_eq_true] at ha;obtain ⟨b,t,hbt⟩:=zatz r rs;rw[hbt] at h ⊢;unfold sgn at h ⊢;by_cases h1:1<(b::t).length∧twos.contains ((b::t).take 2)=true
 ·rw[if_pos h1];have hm:(b::t).take 2∈twos:=by simpa using h1.2
  obtain ⟨hl,hall⟩:=zatk _ hm;match t,hl with
  |c::t,_=>
   simp only[List.take_succ_cons,List.take_zero,List.all_cons,List.all_nil,Bool.and_true,Bool.and_eq_true,decide_eq_true_eq] at hall;obtain ⟨e1,e2⟩:=zahy ha.1 hbt hall.1;match rs,ha.2,e2 with
   |[],_,e2=>simp[encs] at e2
   |r2::rs,ha2,e2=>
    simp only[List.all_cons,Bool.and_eq_true] at ha2;obtain ⟨e3,_⟩:=zahy ha2.1 e2.symm hall.2;show encs [r,r2]=[b,c];rw[zabd,zabd,e1,e3];rfl
 ·rw[if_neg h1] at h ⊢;by_cases h2:ones.contains ((b::t).headD 0)=true
  ·rw[if_pos h2];have hb:b∈ones:=by simpa using h2
   obtain ⟨e1,_⟩:=zahy ha.1 hbt (zatj b hb);show encs [r]=[b];rw[zabd,e1];rfl
  ·rw[if_neg h2] at h;exact absurd rfl h
theorem zak6 (r:Int) (rs:List Int) (ha:(r::rs).all Sp.isRune=true) (h0:(tokR (r::rs)).2=0):∃ ds,ds≠[]∧r::rs=ds++restR (r::rs)∧encs ds=(tokR (r::rs)).1.text:=by
 unfold tokR at h0 ⊢;unfold restR;simp only[List.headD_cons] at h0 ⊢;cases hg:goesR r with
 |true=>
  refine ⟨(r::rs).takeWhile goesR,by simp[hg],(List.takeWhile_append_dropWhile).symm,?_⟩;simp only[cond_true];cases Sp.digit r with
  |true=>
   cases (numS (encs ((r::rs).takeWhile goesR))).2<;>rfl
  |false=>
   cases words.contains (encs ((r::rs).takeWhile goesR)) with
   |true=>rfl
   |false=>cases decide (16<((r::rs).takeWhile goesR).length)<;>rfl
 |false=>
  rw[hg] at h0;simp only[cond_false] at h0 ⊢;cases hs:(sgn (encs (r::rs))==[]) with
  |true=>rw[hs] at h0; simp at h0
  |false=>
   have hne:sgn (encs (r::rs))≠[]:=by simpa using hs
   obtain ⟨h1,h2⟩:=zaqt r rs ha hne;refine ⟨(r::rs).take (sgn (encs (r::rs))).length,?_,(List.take_append_drop _ _).symm,h1⟩;intro hh;have:=congrArg List.length hh;simp only[List.length_take,List.length_nil,List.length_cons] at this;omega
noncomputable def toks:Nat→Int→List Int→(Int×Int)⊕List Token
 |0,_,_=>.inr []
 |_+1,_,[]=>.inr []
 | n + 1, p, r :: rs => bif (tokR (r :: rs)).2 != 0 then .inl ((tokR (r :: rs)).2, p) else
   match toks n (p+(encs (r::rs)).length-(encs (skip false (restR (r::rs)))).length) (skip false (restR (r::rs))) with
   |.inl e=>.inl e
   |.inr l=>.inr (⟨(tokR (r::rs)).1.kind,(tokR (r::rs)).1.text,(tokR (r::rs)).1.num,p⟩::l)
theorem zad9 {ds rs:List Int} (h:(ds++rs).all Sp.isRune=true):rs.all Sp.isRune=true:=by
 rw[List.all_append,Bool.and_eq_true] at h;exact h.2
theorem zati (a2 a3:Int) (a4:List UInt8):∀ (k n:Nat) (rs ds:List Int) (out:List Token),rs.length≤k→k<n→(ds++rs).all Sp.isRune=true→(encs (ds++rs)).length≤4000→out.length≤(encs ds).length →
  qam_i6 n (encs (ds++rs)) ((encs ds).length:Int) a2 a3 a4 out=some (match toks k ((encs ds).length:Int) rs with|.inl e=>.inl (e.1,e.2,[])|.inr l=>.inr (encs (ds++rs),a2,a3,a4,out++l)):=by
 intro k;have fin:∀ (n k:Nat) (ds:List Int) (out:List Token),qam_i6 (n+1) (encs (ds++[])) ((encs ds).length:Int) a2 a3 a4 out=some (match toks k ((encs ds).length:Int) [] with|.inl e=>.inl (e.1,e.2,[])|.inr l=>.inr (encs (ds++[]),a2,a3,a4,out++l)):=by
  intro n k ds out;have:toks k ((encs ds).length:Int) []=.inr []:=by cases k<;>rfl
  rw[this];simp only[List.append_nil,qam_i6,qam_t6];have:decide (((encs ds).length:Int)<((encs ds).length:Int))=false:=decide_eq_false (by omega);rw[this,cond_false]
 induction k with
 |zero=>
  intro n rs ds out hk hn ha hl ho;obtain ⟨n,rfl⟩:∃ q,n=q+1:=⟨n-1,by omega⟩;match rs,hk with
  |[],_=>exact fin n 0 ds out
 |succ k ih=>
  intro n rs ds out hk hn ha hl ho;obtain ⟨n,rfl⟩:∃ q,n=q+1:=⟨n-1,by omega⟩;match rs,hk,ha,hl with
  |[],_,_,_=>exact fin n (k+1) ds out
  |r::rs,hk,ha,hl=>
   have har:=zad9 ha;have hlt:=zaf8 ds rs r;have hlen:(encs (ds++r::rs)).length=(encs ds).length+(encs (r::rs)).length:=by rw[zaas,List.length_append]
   simp only[qam_i6,qam_t6];have b0:decide (((encs ds).length:Int)<((encs (ds++r::rs)).length:Int))=true:=decide_eq_true (by omega);have b1:(decide ((0:Int)≤((encs ds).length:Int))&&(decide (((encs ds).length:Int)≤((encs (ds++r::rs)).length:Int))&&decide (((encs (ds++r::rs)).length:Int)≤((encs (ds++r::rs)).length:Int))))=true:=by
    simp only[Bool.and_eq_true,decide_eq_true_eq]; omega
   have hd:List.drop (Int.toNat ((encs ds).length:Int)) (List.take (Int.toNat ((encs (ds++r::rs)).length:Int)) (encs (ds++r::rs)))=encs (r::rs):=by
    rw[Int.toNat_natCast,Int.toNat_natCast,List.take_length,zae7]
   rw[b0,cond_true,b1,cond_true,hd,zat3 _ (List.cons_ne_nil _ _) har (by omega),Option.bind_some];simp only[toks];cases hc:((tokR (r::rs)).2 != 0) with
   |true=>rfl
   |false=>
    have h0:(tokR (r::rs)).2=0:=by simpa using hc
    obtain ⟨es,hes,hsp,htx⟩:=zak6 r rs har h0;obtain ⟨fs,hfs⟩:=zacg (restR (r::rs)) false;have hall:((ds++es)++restR (r::rs)).all Sp.isRune=true:=by rw[List.append_assoc,← hsp]; exact ha
    have hres:=zad9 hall;have l1:(encs (r::rs)).length=(encs es).length+(encs (restR (r::rs))).length:=by
     conv=>lhs; rw[hsp]
     rw[zaas,List.length_append]
    have l2:(encs (restR (r::rs))).length=(encs fs).length+(encs (skip false (restR (r::rs)))).length:=by
     conv=>lhs; rw[hfs]
     rw[zaas,List.length_append]
    have hes1:1≤(encs es).length:=by
     have:=zadh es;have:0<es.length:=List.length_pos_iff.2 hes;omega
    rw[← htx];simp only[cond_false];rw[decide_eq_true (show _∧_ by simp only[List.length_cons,List.length_nil]; omega),cond_true,i64_in (((encs ds).length:Int)+(encs es).length) (by omega)];have b2:(decide ((0:Int)≤((encs ds).length:Int)+(encs es).length)&&(decide (((encs ds).length:Int)+(encs es).length≤((encs (ds++r::rs)).length:Int))&&decide (((encs (ds++r::rs)).length:Int)≤((encs (ds++r::rs)).length:Int))))=true:=by
     simp only[Bool.and_eq_true,decide_eq_true_eq]; omega
    have hd2:List.drop (Int.toNat (((encs ds).length:Int)+(encs es).length)) (List.take (Int.toNat ((encs (ds++r::rs)).length:Int)) (encs (ds++r::rs)))=encs (restR (r::rs)):=by
     have e:ds++r::rs=(ds++es)++restR (r::rs):=by rw[List.append_assoc,← hsp]
     have e2:(((encs ds).length:Int)+(encs es).length).toNat=(encs (ds++es)).length:=by rw[zaas,List.length_append]; omega
     rw[Int.toNat_natCast,List.take_length,e2,e,zae7]
    rw[b2,cond_true,hd2,zao2 _ hres (by omega),Option.bind_some];have hat:IntKind.wrap IntKind.i64 (((encs ds).length:Int)+(encs es).length+(((encs (restR (r::rs))).length:Int)-(encs (skip false (restR (r::rs)))).length))=((encs (ds++es++fs)).length:Int):=by
     rw[i64_in _ (by omega),zaas,zaas,List.length_append,List.length_append];omega
    have hp:((encs ds).length:Int)+(encs (r::rs)).length-(encs (skip false (restR (r::rs)))).length=((encs (ds++es++fs)).length:Int):=by
     rw[zaas,zaas,List.length_append,List.length_append];omega
    have hT:ds++r::rs=(ds++es++fs)++skip false (restR (r::rs)):=by
     rw[List.append_assoc,← hfs,List.append_assoc,← hsp]
    have hk':(skip false (restR (r::rs))).length≤k:=by
     have q1:=congrArg List.length hsp;have q2:=congrArg List.length hfs;have q3:0<es.length:=List.length_pos_iff.2 hes;simp only[List.length_append,List.length_cons] at q1 q2 hk;omega
    rw[hat,hp]
    have:=ih n (skip false (restR (r::rs))) (ds++es++fs) (out++[⟨(tokR (r::rs)).1.kind,encs es,(tokR (r::rs)).1.num,((encs ds).length:Int)⟩]) hk' (by omega) (by rw[← hT]; exact ha) (by rw[← hT]; exact hl) (by
     rw[zaas,zaas];simp only[List.length_append,List.length_cons,List.length_nil];omega)
    rw[← hT] at this;rw[this];cases toks k ((encs (ds++es++fs)).length:Int) (skip false (restR (r::rs))) with
    |inl e=>rfl
    |inr l=>simp only[List.append_assoc,List.singleton_append]
theorem zajz:∀ (k:Nat) (p:Int) (rs:List Int),rs.all Sp.isRune=true→∀ l,toks k p rs=.inr l→l.length≤rs.length
 |0,p,rs,_,l,h=>by simp only[toks,Sum.inr.injEq] at h; subst h; simp
 |k+1,p,[],_,l,h=>by simp only[toks,Sum.inr.injEq] at h; subst h; simp
 |k+1,p,r::rs,ha,l,h=>by
  simp only[toks] at h;cases hc:((tokR (r::rs)).2 != 0) with
  |true=>rw[hc] at h; simp at h
  |false=>
   rw[hc] at h;have h0:(tokR (r::rs)).2=0:=by simpa using hc
   obtain ⟨es,hes,hsp,_⟩:=zak6 r rs ha h0;obtain ⟨fs,hfs⟩:=zacg (restR (r::rs)) false;have q1:=congrArg List.length hsp;have q2:=congrArg List.length hfs;have q3:0<es.length:=List.length_pos_iff.2 hes;simp only[List.length_append,List.length_cons] at q1 q2;simp only[cond_false] at h;have hs:(skip false (restR (r::rs))).all Sp.isRune=true:=zad9 (ds:=es++fs) (by rw[List.append_assoc,← hfs,← hsp]; exact ha);split at h
   ·cases h
   ·rename_i l' hl';simp only[Sum.inr.injEq] at h;subst h;have:=zajz k _ _ hs l' hl';simp only[List.length_cons];omega
theorem zapd (rs:List Int) (ha:rs.all Sp.isRune=true) (hl:(encs rs).length≤4000):qam (encs rs)=some (match toks rs.length (((encs rs).length:Int)-(encs (skip false rs)).length) (skip false rs) with
  |.inl e=>(⟨e.1,e.2,[]⟩,[])
  |.inr l=>(⟨0,0,[]⟩,l++[⟨5,[],0,((encs rs).length:Int)⟩])):=by
 obtain ⟨fs,hfs⟩:=zacg rs false;obtain ⟨q1,q2⟩:=zamu rs ha hl;have hsk:((encs rs).length:Int)-(encs (skip false rs)).length=((encs fs).length:Int):=by
  have:(encs rs).length=(encs fs).length+(encs (skip false rs)).length:=by
   conv=>lhs; rw[hfs]
   rw[zaas,List.length_append]
  omega
 have hL:=zati 0 0 [] rs.length fuel (skip false rs) fs [] (by have:=congrArg List.length hfs; rw[List.length_append] at this; omega) (by have:=zadh rs; unfold fuel; omega) (by rw[← hfs]; exact ha) (by rw[← hfs]; exact hl) (by simp);rw[← hfs] at hL;rw[qam,zaaa];unfold qam_f;rw[zao1,q1,q2,Option.bind_some];simp only[bne_self_eq_false,cond_false];rw[zao2 rs ha (by omega),Option.bind_some,hsk,qam_l6,zaaa,hL,Option.bind_some];have hlen:=zajz rs.length ((encs fs).length:Int) (skip false rs) (zad9 (ds:=fs) (by rw[← hfs]; exact ha));cases ht:toks rs.length ((encs fs).length:Int) (skip false rs) with
 |inl e=>rfl
 |inr l=>
  have hl2:=hlen l ht;have h3:(skip false rs).length≤rs.length:=by
   have:=congrArg List.length hfs;rw[List.length_append] at this;omega
  have h4:=zadh rs;simp only[List.nil_append];rw[decide_eq_true (show _∧_ by simp only[List.length_cons,List.length_nil]; omega),cond_true]
end Lift.A1P
namespace Lift.A1P
open Go Go.RowKit Lift Go.IntWalk Lift.Fn
end Lift.A1P
namespace Lift.A1P
open Go Go.RowKit Lift Go.IntWalk Lift.Fn
def whole (w:List Int) (t:Token):Prop:=w≠[]∧w.all Sp.isRune=true∧tokR w=(t,0)∧t.text=encs w
end Lift.A1P
namespace Lift.A1P
open Go Go.RowKit Lift Go.IntWalk Lift.Fn
end Lift.A1P
namespace Lift.A1P
open Go Go.RowKit Lift Go.IntWalk Lift.Fn
end Lift.A1P
namespace Lift.A1P
open Go Go.RowKit Lift Go.IntWalk Lift.Fn
end Lift.A1P
namespace Lift.A1P
open Go Go.RowKit Lift Go.IntWalk Lift.Fn
theorem zaki (t:List UInt8) (h:(Sp.runes2 t).code≠0):qam t=some (⟨(Sp.runes2 t).code,(Sp.runes2 t).at_,(Sp.runes2 t).name⟩,[]):=by
 rw[qam,zaaa];unfold qam_f;rw[zao1,Option.bind_some];have:((Sp.runes2 t).code != 0)=true:=by simp[h]
 simp only[this,cond_true]
end Lift.A1P
namespace Lift.A1P
open Go Go.RowKit Lift Go.IntWalk Lift.Fn
end Lift.A1P
namespace Lift.A1P
open Go Go.RowKit Lift Go.IntWalk Lift.Fn
end Lift.A1P
namespace Lift.A1P
open Go Go.RowKit Lift Go.IntWalk Lift.Fn
end Lift.A1P
namespace Lift.A1P
open Go Go.RowKit Lift Go.IntWalk Lift.Fn
theorem tokens_any (t:List UInt8):∃ f l,qam t=some (f,l)∧l.length≤4001:=by
 rcases zaom t with ⟨h1,h2⟩|⟨h0,rs,rest,_,_,_,_,h1,h2⟩|⟨h0,rs,rfl,ha,h1,h2⟩
 ·rw[zaki t (by rw[h2]; decide)]; exact ⟨_,_,rfl,by simp⟩
 ·rw[zaki t (by rw[h2]; show (11:Int)≠0; decide)]; exact ⟨_,_,rfl,by simp⟩
 ·rw[zapd rs ha h0];have hlr:=zadh rs;have hS:(skip false rs).all Sp.isRune=true:=by
   obtain ⟨fs,hfs⟩:=zacg rs false;exact zad9 (ds:=fs) (by rw[← hfs]; exact ha)
  have hsl:(skip false rs).length≤rs.length:=by
   obtain ⟨fs,hfs⟩:=zacg rs false;have:=congrArg List.length hfs;rw[List.length_append] at this;omega
  cases ht:toks rs.length (((encs rs).length:Int)-((encs (skip false rs)).length:Int)) (skip false rs) with
  |inl e=>exact ⟨_,_,rfl,by simp⟩
  |inr l=>
   have:=zajz _ _ _ hS l ht;exact ⟨_,_,rfl,by rw[List.length_append,List.length_cons,List.length_nil]; omega⟩
end Lift.A1P
namespace Lift.A3
open Go Go.RowKit Lift Go.IntWalk Lift.Fn
set_option linter.unusedVariables false
set_option linter.unusedSimpArgs false
theorem zap1 (t:List UInt8):∃ b,qbf t=some b:=by
 obtain ⟨f,l,e,hl⟩:=Lift.A1P.tokens_any t;rw[qbf,zaaa];unfold qbf_f;rw[e];cases decide (((t.length:Nat):Int)>64) with
 |true=>exact ⟨false,rfl⟩
 |false=>
 simp only[cond_false,Option.bind_some];cases f.code==0 with
 |false=>exact ⟨false,rfl⟩
 |true=>
 match l with
 |[]=>exact ⟨false,rfl⟩
 |[a]=>exact ⟨false,rfl⟩
 |a::b::c::l=>
  have:((((a::b::c::l:List Token).length:Nat):Int)==2)=false:=by
   rw[beq_eq_false_iff_ne]; simp only[List.length_cons]; omega
  rw[this];exact ⟨false,rfl⟩
 |[a,b]=>
  have:((([a,b]:List Token).length:Int)==2)=true:=rfl;simp only[this,cond_true,Option.bind_some];have h2:(decide ((0:Int)≤0)&&decide ((0:Int)<(([a,b]:List Token).length:Int)))=true:=rfl;simp only[h2,cond_true,List.getElem?_cons_zero,Option.bind_some];cases (a.kind==1) with
  |false=>exact ⟨false,rfl⟩
  |true=>exact ⟨a.text==t,rfl⟩
noncomputable def isNm (t:List UInt8):Bool:=(qbf t).getD false
theorem zahn (t:List UInt8):qbf t=some (isNm t):=by
 obtain ⟨b,e⟩:=zap1 t;rw[isNm,e];rfl
end Lift.A3
namespace Lift.A3
open Go Go.RowKit Lift Go.IntWalk Lift.Fn
set_option linter.unusedVariables false
set_option linter.unusedSimpArgs false
theorem zacx {α:Type} (c:Bool) (a b:α):(bif c then some a else some b)=some (bif c then a else b):=by cases c<;>rfl
theorem cand (a b:Bool):(bif a then b else false)=(a&&b):=by cases a<;>rfl
theorem cor (a b:Bool):(bif a then true else b)=(a||b):=by cases a<;>rfl
noncomputable def xOk (x:TExpr):Bool:=
 bif x.kind==1 then ((decide (x.num≥0)&&decide (x.num≤2147483647))&&x.name==[])&&((x.args.length:Int)==0)
 else bif x.kind==2 then (isNm x.name&&x.num==0)&&((x.args.length:Int)==0)
 else bif (x.kind==3||x.kind==4) then (((decide (x.kind≥3)&&decide (x.kind≤17))&&((x.args.length:Int)==1))&&x.num==0)&&x.name==[]
 else (((decide (x.kind≥3)&&decide (x.kind≤17))&&((x.args.length:Int)==2))&&x.num==0)&&x.name==[]
theorem zate (x:TExpr):qba x=some (xOk x):=by
 rw[qba,zaaa];unfold qba_f xOk;simp only[zahn,zacx,Option.bind_some,cand,cor]
mutual
noncomputable def eF:TExpr→Bool
 |⟨k,n,m,l⟩=>xOk ⟨k,n,m,l⟩&&eFs l
noncomputable def eFs:List TExpr→Bool
 |[]=>true
 |x::l=>eF x&&eFs l
end
end Lift.A3
namespace Lift.A3
open Go Go.RowKit Lift Go.IntWalk Lift.Fn
set_option linter.unusedVariables false
set_option linter.unusedSimpArgs false
def shs:List (Int×Shape):=(zaaj (11:Int) (Shape.mk false false false true true false) (zaaj (10:Int) (Shape.mk false false true false true true) (zaaj (9:Int) (Shape.mk false false true false false false) (zaaj (8:Int) (Shape.mk false true false false false false) (zaaj (7:Int) (Shape.mk false true false false false false) (zaaj (6:Int) (Shape.mk false true false false false false) (zaaj (5:Int) (Shape.mk false true false false false false) (zaaj (4:Int) (Shape.mk true true true false false false) (zaaj (3:Int) (Shape.mk false true true false false false) (zaaj (2:Int) (Shape.mk true true false false false false) (zaaj (1:Int) (Shape.mk true false true false false false) [])))))))))))
def shp (k:Int):Shape:=Option.getD (mapAt shs k) (Shape.mk false false false false false false)
def inR (k:Int):Bool:=!(decide (k<1)||decide (k>11))
theorem zatg:qbn=some shs:=by rw[qbn,zaaa]; rfl
theorem zasf (k:Int):Option.isSome (mapAt shs k)=inR k:=by
 by_cases h:1≤k∧k≤11
 ·obtain ⟨h1,h2⟩:=h;have:k=1∨k=2∨k=3∨k=4∨k=5∨k=6∨k=7∨k=8∨k=9∨k=10∨k=11:=by omega
  rcases this with rfl|rfl|rfl|rfl|rfl|rfl|rfl|rfl|rfl|rfl|rfl<;>decide
 ·have e:inR k=false:=by
   unfold inR;rw[Bool.not_eq_false',Bool.or_eq_true,decide_eq_true_eq,decide_eq_true_eq];omega
  rw[e];have hs:shs=[(1,Shape.mk true false true false false false),(2,Shape.mk true true false false false false),(3,Shape.mk false true true false false false),(4,Shape.mk true true true false false false),(5,Shape.mk false true false false false false),(6,Shape.mk false true false false false false),(7,Shape.mk false true false false false false),(8,Shape.mk false true false false false false),(9,Shape.mk false false true false false false),(10,Shape.mk false false true false true true),(11,Shape.mk false false false true true false)]:=by decide
  have n:∀ c:Int,1≤c→c≤11→(c==k)=false:=by
   intro c h1 h2;rw[beq_eq_false_iff_ne];omega
  rw[hs];unfold mapAt;simp[List.find?_cons,n]
def none_ (x:TExpr):Bool:=((x.kind==0&&x.num==0)&&x.name==[])&&((x.args.length:Int)==0)
noncomputable def isOpt (t:List UInt8) (b:Bool):Bool:=(b&&isNm t)||(!b&&t==[])
theorem is1 (t:List UInt8) (b:Bool):qbe t b=some (isOpt t b):=by
 rw[qbe,zaaa];unfold qbe_f isOpt;simp only[zahn,zacx,Option.bind_some,cand,cor]
noncomputable def sOk (y:TStmt):Bool:=
 ((((((inR y.kind&&isOpt y.reg (shp y.kind).reg)&&isOpt y.name (shp y.kind).name)&&(((shp y.kind).expr&&y.expr.kind != 0)||(!(shp y.kind).expr&&none_ y.expr))) &&
  (y.count==0||(((shp y.kind).count&&decide (y.count>0))&&decide (y.count≤1000))))&&((shp y.kind).then_||((y.then_.length:Int)==0)))&&((shp y.kind).other||((y.else_.length:Int)==0)))
theorem zatc (y:TStmt):qbo y=some (sOk y):=by
 rw[qbo,zaaa];unfold qbo_f sOk;simp only[zatg,is1,zacx,Option.bind_some,cand,cor,zasf];rfl
mutual
noncomputable def sF:TStmt→Bool
 |⟨k,r,m,x,c,t,o⟩=>sOk ⟨k,r,m,x,c,t,o⟩&&((if zaar x then eF x else true)&&(sFs t&&sFs o))
noncomputable def sFs:List TStmt→Bool
 |[]=>true
 |x::l=>sF x&&sFs l
end
theorem sF_eq (y:TStmt):sF y=(sOk y&&((if zaar y.expr then eF y.expr else true)&&(sFs y.then_&&sFs y.else_))):=by cases y; rw[sF]
noncomputable def evOk:Ev→Bool
 |.s x _=>sOk x
 |.e x _=>xOk x
mutual
theorem evOkE:∀ (x:TExpr) (d:Int),(evE x d).all evOk=eF x
 |⟨k,n,m,l⟩,d=>by rw[evE,List.all_cons,zaq4 l (d+1),eF]; rfl
theorem zaq4:∀ (l:List TExpr) (d:Int),(evEs l d).all evOk=eFs l
 |[],d=>by rw[evEs,eFs]; rfl
 |x::l,d=>by rw[evEs,List.all_append,evOkE x d,zaq4 l d,eFs]
end
mutual
theorem evOkS:∀ (x:TStmt) (d:Int),(evS x d).all evOk=sF x
 |⟨k,r,m,x,c,t,o⟩,d=>by
  rw[evS,List.all_cons,List.all_append,List.all_append,zaka t (d+1),zaka o (d+1),sF];cases zaar x with
  |true=>rw[if_pos rfl,if_pos rfl,evOkE]; rfl
  |false=>rw[if_neg (by simp),if_neg (by simp)]; rfl
theorem zaka:∀ (l:List TStmt) (d:Int),(evSs l d).all evOk=sFs l
 |[],d=>by rw[evSs,sFs]; rfl
 |x::l,d=>by rw[evSs,List.all_append,evOkS x d,zaka l d,sFs]
end
theorem zals : ∀ (l : List Ev) (b : Bool), l.foldlM (atEv (fun (x : TStmt) (d : Int) (s : Bool) => qbc x d s) (fun (x : TExpr) (d : Int) (s : Bool) => qbd x d s)) b = some (b && l.all evOk)
 |[],b=>by simp
 |e::l,b=>by
  have e1:atEv (fun (x:TStmt) (d:Int) (s:Bool)=>qbc x d s) (fun (x:TExpr) (d:Int) (s:Bool)=>qbd x d s) b e=some (b&&evOk e):=by
   cases e with
   |s x d=>show qbc x d b=_; rw[qbc,zaaa]; unfold qbc_f; simp only[zatm,zatc,zacx,Option.bind_some,cand]; rfl
   |e x d=>show qbd x d b=_; rw[qbd,zaaa]; unfold qbd_f; simp only[zaaw,zate,zacx,Option.bind_some,cand]; rfl
  rw[List.foldlM_cons,e1];show List.foldlM _ (b&&evOk e) l=_;rw[zals l _,List.all_cons,Bool.and_assoc]
noncomputable def cOk (c:TCell):Bool:=(isNm c.name&&decide (c.init≥-2147483647))&&decide (c.init≤2147483647)
noncomputable def pOk (p:TProg):Bool:=p.cells.all cOk&&(p.mutexes.all isNm&&p.threads.all fun t=>isNm t.name&&sFs t.body)
theorem zalq {α : Type} (f g : α → Bool) : ∀ l : List α, (l.all fun t => f t && g t) = (l.all f && l.all g)
 |[]=>rfl
 |x::l=>by
  rw[List.all_cons,List.all_cons,List.all_cons,zalq f g l];cases f x<;>cases g x<;>cases l.all f<;>rfl
theorem zasw (p:TProg) (h:nT p.threads≤100000000) (h1:p.cells.length≤100000000) (h2:p.mutexes.length≤100000000):qbb p=some (pOk p):=by
 rw[qbb,zaaa];unfold qbb_f;have hl:=zadu p.threads
 have e1 := zacr (σ := Bool) p.cells (fun _ _ => True) (fun r s => (p.cells, p.mutexes, p.threads, s && r.all cOk)) (fun m i s => qbb_i3 m p.cells p.cells.length i p.cells p.mutexes p.threads s)
  (fun m i s h0 h hI=>by simp only[qbb_i3,qbb_t3,decide_eq_false h,cond_false,List.all_nil,Bool.and_true])
  (fun m i s y r h0 h hy hm hI=>by
   refine Or.inl ⟨s&&cOk y,trivial,?_,by rw[List.all_cons,Bool.and_assoc]⟩;simp only[qbb_i3,qbb_t3,decide_eq_true h,decide_eq_true h0,hy,Option.bind_some,cond_true,zahn,zacx,cand];rw[i64_in (i+1) (by omega),cOk,Bool.and_assoc,Bool.and_assoc,Bool.and_assoc])
  fuel true (by unfold fuel; omega) trivial
 have e2 := fun s => zacr (σ := Bool) p.mutexes (fun _ _ => True) (fun r s => (p.cells, p.mutexes, p.threads, s && r.all isNm)) (fun m i s => qbb_i8 m p.mutexes p.mutexes.length i p.cells p.mutexes p.threads s)
  (fun m i s h0 h hI=>by simp only[qbb_i8,qbb_t8,decide_eq_false h,cond_false,List.all_nil,Bool.and_true])
  (fun m i s y r h0 h hy hm hI=>by
   refine Or.inl ⟨s&&isNm y,trivial,?_,by rw[List.all_cons,Bool.and_assoc]⟩;simp only[qbb_i8,qbb_t8,decide_eq_true h,decide_eq_true h0,hy,Option.bind_some,cond_true,zahn,zacx,cand];rw[i64_in (i+1) (by omega)])
  fuel s (by unfold fuel; omega) trivial
 have e3 := fun s => zacr (σ := Bool) p.threads (fun _ _ => True) (fun r s => (p.cells, p.mutexes, p.threads, s && r.all fun t => isNm t.name)) (fun m i s => qbb_i13 m p.threads p.threads.length i p.cells p.mutexes p.threads s)
  (fun m i s h0 h hI=>by simp only[qbb_i13,qbb_t13,decide_eq_false h,cond_false,List.all_nil,Bool.and_true])
  (fun m i s y r h0 h hy hm hI=>by
   refine Or.inl ⟨s&&isNm y.name,trivial,?_,by rw[List.all_cons,Bool.and_assoc]⟩;simp only[qbb_i13,qbb_t13,decide_eq_true h,decide_eq_true h0,hy,Option.bind_some,cond_true,zahn,zacx,cand];rw[i64_in (i+1) (by omega)])
  fuel s (by unfold fuel; omega) trivial
 rw[qbb_l3,zaaa,e1,Option.bind_some];simp only;rw[qbb_l8,zaaa,e2,Option.bind_some];simp only;rw[qbb_l13,zaaa,e3,Option.bind_some];simp only[zafz];rw[wP p _ (by omega),zals];have ef:(evP p).all evOk=p.threads.all fun t=>sFs t.body:=by
  unfold evP;generalize p.threads=l;induction l with
  |nil=>rfl
  |cons t l ih=>rw[List.flatMap_cons,List.all_append,ih,List.all_cons,zaka]
 rw[ef,pOk,zalq];cases p.cells.all cOk<;>cases p.mutexes.all isNm<;>cases p.threads.all (fun t=>isNm t.name)<;>cases p.threads.all (fun t=>sFs t.body)<;>rfl
end Lift.A3
namespace Lift.A3
open Go Go.RowKit Lift Go.IntWalk Lift.Fn
set_option linter.unusedVariables false
set_option linter.unusedSimpArgs false
noncomputable def zacf (p:TProg):Int:=
 bif !pOk p then 30 else bif decide (maxEv (evP p) 0>16) then 31 else bif decide ((cT p.threads:Int)>500) then 32 else 0
theorem zae6 (p:TProg) (h:nT p.threads≤100000000) (h1:p.cells.length≤100000000) (h2:p.mutexes.length≤100000000):qa5 p=some (zacf p):=by
 rw[qa5,zaaa];unfold qa5_f zacf;rw[zafz,zasw p h h1 h2,zan4 p (by omega),zalo p (by omega)];simp only[Option.bind_some,zacx]
end Lift.A3
namespace Lift.A3
open Go Go.RowKit Lift Go.IntWalk Lift.Fn
set_option linter.unusedVariables false
set_option linter.unusedSimpArgs false
abbrev Nm:=List UInt8
abbrev Met:=List (Nm×Int)×List Nm
def putN (s:List Nm) (x:Nm):List Nm:=if (s.contains x||x==[]) then s else s++[x]
def stepN (s:Met) (x:Nm):Met:=if Option.isSome (mapAt s.1 x) then s else (zaaj x (s.2.length:Int) s.1,s.2++[x])
theorem zain {β:Type} (x y:Nm) (v:β):∀ l:List (Nm×β),(mapAt (zaaj x v l) y).isSome=(x==y||(mapAt l y).isSome)
 |[]=>by
  unfold zaaj mapAt;rw[List.find?_cons];cases (x==y)<;>rfl
 |(k,w)::l=>by
  have ih:=zain x y v l;unfold zaaj;unfold mapAt at ih ⊢;cases h:(k==x) with
  |true=>
   have:=eq_of_beq h;subst this;simp only[cond_true,List.find?_cons];cases (k==y)<;>simp
  |false=>
   simp only[cond_false,List.find?_cons];cases (k==y) with
   |true=>simp
   |false=>exact ih
def MetOk (s:Met):Prop:=∀ x,(mapAt s.1 x).isSome=(s.2.contains x||x==[])
theorem zasg (s:Met) (x:Nm) (h:MetOk s):MetOk (stepN s x)∧(stepN s x).2=putN s.2 x:=by
 unfold stepN putN;rw[← h x];cases hx:(mapAt s.1 x).isSome with
 |true=>exact ⟨h,rfl⟩
 |false=>
  refine ⟨fun y=>?_,rfl⟩;show (mapAt (zaaj x (s.2.length:Int) s.1) y).isSome=((s.2++[x]).contains y||y==[]);rw[zain,h y,List.contains_append];have:([x]:List Nm).contains y=(x==y):=by
   rw[List.contains_cons,bcomm y x];show (x==y||false)=_;rw[Bool.or_false]
  rw[this];cases (x==y)<;>cases s.2.contains y<;>cases (y==[])<;>rfl
theorem zams:∀ (l:List Nm) (s:Met),MetOk s→(l.foldl stepN s).2=l.foldl putN s.2
 |[],s,_=>rfl
 |x::l,s,h=>by
  obtain ⟨h1,h2⟩:=zasg s x h;rw[List.foldl_cons,List.foldl_cons,← h2];exact zams l _ h1
theorem zacv (s:Met) (x:Nm):(stepN s x).2.length≤s.2.length+1:=by
 unfold stepN;split
 ·omega
 ·simp
theorem zahi (x:Nm) (s:Met) (h:s.2.length≤100000000000):qa2 x s.1 s.2=some (stepN s x):=by
 rw[qa2,zaaa];unfold qa2_f stepN;rw[decide_eq_true (by simp only[List.length_cons,List.length_nil]; omega)];cases (mapAt s.1 x).isSome<;>rfl
def evNm:Ev→List Nm
 |.s x _=>[x.reg,x.name]
 |.e x _=>[x.name]
def nms (l:List Ev):List Nm:=l.flatMap evNm
theorem zakv:∀ (l:List Ev) (s:Met),s.2.length+2*l.length≤100000000000 →
  l.foldlM (atEv (fun (x:TStmt) (d:Int) (s:Met)=>qa3 x d s.1 s.2) (fun (x:TExpr) (d:Int) (s:Met)=>qa4 x d s.1 s.2)) s=some ((nms l).foldl stepN s)
 |[],s,_=>rfl
 |e::l,s,h=>by
  simp only[List.length_cons] at h;have e1:atEv (fun (x:TStmt) (d:Int) (s:Met)=>qa3 x d s.1 s.2) (fun (x:TExpr) (d:Int) (s:Met)=>qa4 x d s.1 s.2) s e=some ((evNm e).foldl stepN s):=by
   cases e with
   |s x d=>
    have:=zacv s x.reg;show qa3 x d s.1 s.2=_;rw[qa3,zaaa];unfold qa3_f;rw[zahi x.reg s (by omega),Option.bind_some,zahi x.name _ (by omega)];rfl
   |e x d=>
    show qa4 x d s.1 s.2=_;rw[qa4,zaaa];unfold qa4_f;rw[zahi x.name s (by omega)];rfl
  have hlen:((evNm e).foldl stepN s).2.length≤s.2.length+2:=by
   cases e with
   |s x d=>
    have:=zacv s x.reg;have:=zacv (stepN s x.reg) x.name;show (stepN (stepN s x.reg) x.name).2.length≤_;omega
   |e x d=>
    have:=zacv s x.name;show (stepN s x.name).2.length≤_;omega
  rw[List.foldlM_cons,e1];show List.foldlM _ ((evNm e).foldl stepN s) l=_;rw[zakv l _ (by omega)];have:nms (e::l)=evNm e++nms l:=by unfold nms; rw[List.flatMap_cons]
  rw[this,List.foldl_append]
def allNm (p:TProg):List Nm:=p.cells.map (·.name)++(p.mutexes++(p.threads.map (·.name)++nms (evP p)))
theorem zar0 (p:TProg) (h:nT p.threads≤100000000) (h1:p.cells.length≤100000000) (h2:p.mutexes.length≤100000000):qa1 p=some ((allNm p).foldl putN []):=by
 rw[qa1,zaaa];unfold qa1_f;have hl:=zadu p.threads
 have e1 := zacr (σ := Met) p.cells (fun r s => s.2.length + r.length ≤ 100000000) (fun r s => (p.cells, p.mutexes, p.threads, ((r.map (·.name)).foldl stepN s).1, ((r.map (·.name)).foldl stepN s).2))
  (fun m i s=>qa1_i5 m p.cells p.cells.length i p.cells p.mutexes p.threads s.1 s.2)
  (fun m i s h0 h hI=>by simp only[qa1_i5,qa1_t5,decide_eq_false h,cond_false]; rfl)
  (fun m i s y r h0 h hy hm hI=>by
   have hI':s.2.length+(y::r).length≤100000000:=hI;simp only[List.length_cons] at hI';have:=zacv s y.name;refine Or.inl ⟨stepN s y.name,(by show (stepN s y.name).2.length+r.length≤100000000; omega),?_,rfl⟩;simp only[qa1_i5,qa1_t5,decide_eq_true h,decide_eq_true h0,hy,Option.bind_some,cond_true];rw[zahi y.name s (by omega),i64_in (i+1) (by omega)];rfl)
  fuel (zaaj [] (0:Int) [],[]) (by unfold fuel; omega) (by simp; omega)
 have e2 := fun s hs => zacr (σ := Met) p.mutexes (fun r s => s.2.length + r.length ≤ 200000000) (fun r s => (p.cells, p.mutexes, p.threads, (r.foldl stepN s).1, (r.foldl stepN s).2))
  (fun m i s=>qa1_i10 m p.mutexes p.mutexes.length i p.cells p.mutexes p.threads s.1 s.2)
  (fun m i s h0 h hI=>by simp only[qa1_i10,qa1_t10,decide_eq_false h,cond_false]; rfl)
  (fun m i s y r h0 h hy hm hI=>by
   have hI':s.2.length+(y::r).length≤200000000:=hI;simp only[List.length_cons] at hI';have:=zacv s y;refine Or.inl ⟨stepN s y,(by show (stepN s y).2.length+r.length≤200000000; omega),?_,rfl⟩;simp only[qa1_i10,qa1_t10,decide_eq_true h,decide_eq_true h0,hy,Option.bind_some,cond_true];rw[zahi y s (by omega),i64_in (i+1) (by omega)];rfl)
  fuel s (by unfold fuel; omega) hs
 have e3 := fun s hs => zacr (σ := Met) p.threads (fun r s => s.2.length + r.length ≤ 300000000) (fun r s => (p.cells, p.mutexes, p.threads, ((r.map (·.name)).foldl stepN s).1, ((r.map (·.name)).foldl stepN s).2))
  (fun m i s=>qa1_i15 m p.threads p.threads.length i p.cells p.mutexes p.threads s.1 s.2)
  (fun m i s h0 h hI=>by simp only[qa1_i15,qa1_t15,decide_eq_false h,cond_false]; rfl)
  (fun m i s y r h0 h hy hm hI=>by
   have hI':s.2.length+(y::r).length≤300000000:=hI;simp only[List.length_cons] at hI';have:=zacv s y.name;refine Or.inl ⟨stepN s y.name,(by show (stepN s y.name).2.length+r.length≤300000000; omega),?_,rfl⟩;simp only[qa1_i15,qa1_t15,decide_eq_true h,decide_eq_true h0,hy,Option.bind_some,cond_true];rw[zahi y.name s (by omega),i64_in (i+1) (by omega)];rfl)
  fuel s (by unfold fuel; omega) hs
 have hok:MetOk (zaaj [] (0:Int) [],[]):=by
  intro x;show (mapAt (zaaj [] (0:Int) []) x).isSome=_;rw[zain];have:(([]:Nm)==x)=(x==[]):=bcomm _ _;rw[this];show (x==[]||false)=(false||x==[]);simp
 have len:∀ (l:List Nm) (s:Met),(l.foldl stepN s).2.length≤s.2.length+l.length:=by
  intro l;induction l with
  |nil=>intro s; simp
  |cons x l ih=>intro s; have:=ih (stepN s x); have:=zacv s x; simp only[List.foldl_cons,List.length_cons]; omega
 have g1:=len (p.cells.map (·.name)) (zaaj [] (0:Int) [],[]);rw[List.length_map] at g1;have g2:=len p.mutexes ((p.cells.map (·.name)).foldl stepN (zaaj [] (0:Int) [],[]));have g3:=len (p.threads.map (·.name)) (p.mutexes.foldl stepN ((p.cells.map (·.name)).foldl stepN (zaaj [] (0:Int) [],[])));rw[List.length_map] at g3;have g0:((zaaj ([]:Nm) (0:Int) [],[]):Met).2.length=0:=rfl;rw[qa1_l5,zaaa,e1,Option.bind_some];simp only;rw[qa1_l10,zaaa,e2 _ (by omega),Option.bind_some];simp only;rw[qa1_l15,zaaa,e3 _ (by omega),Option.bind_some];simp only[zafz];have hc:=cT_le p.threads;have hl2:=lenP p.threads;rw[wP_3 p _ (by omega),zakv _ _ (by unfold evP; rw[hl2]; omega),Option.bind_some,qaJ,zaaa];unfold qaJ_f;rw[← List.foldl_append,← List.foldl_append,← List.foldl_append,zams _ _ hok];simp[allNm]
end Lift.A3
namespace Lift.A3
open Go Go.RowKit Lift Go.IntWalk Lift.Fn Lift.A1P
set_option linter.unusedVariables false
set_option linter.unusedSimpArgs false
theorem lexOf (rs:List Int) (t:List UInt8) (l:List Token) (ha:rs.all Sp.isRune=true) (hl:(encs rs).length≤4000) (ht:encs rs=t)
  (hT:toks rs.length (((encs rs).length:Int)-(encs (skip false rs)).length) (skip false rs)=.inr l):qam t=some (⟨0,0,[]⟩,l++[⟨5,[],0,((encs rs).length:Int)⟩]):=by
 have hk:=zapd rs ha hl;rw[hT,ht] at hk;rw[hk,ht]
theorem nm_of (rs:List Int) (t:List UInt8) (a:Token) (ha:rs.all Sp.isRune=true) (hl:(encs rs).length≤64) (ht:encs rs=t)
  (hT:toks rs.length (((encs rs).length:Int)-(encs (skip false rs)).length) (skip false rs)=.inr [a]):isNm t=(a.kind==1&&a.text==t):=by
 unfold isNm;rw[qbf,zaaa];unfold qbf_f;rw[decide_eq_false (by rw[← ht]; omega),cond_false,lexOf rs t [a] ha (by omega) ht hT];simp only[Option.bind_some,List.singleton_append];have h2:((([a,⟨5,[],0,((encs rs).length:Int)⟩]:List Token).length:Int)==2)=true:=rfl;have h3:(decide ((0:Int)≤0)&&decide ((0:Int)<(([a,⟨5,[],0,((encs rs).length:Int)⟩]:List Token).length:Int)))=true:=rfl;rw[h2,h3];cases h:(a.kind==1)
 ·simp[h]
 ·simp[h]
theorem nm_x:isNm [120]=true:=(nm_of [120] [120] ⟨1,[120],0,0⟩ (by decide) (by decide +kernel) (by decide +kernel) (by decide +kernel)).trans (by decide)
theorem nm_t:isNm [116]=true:=(nm_of [116] [116] ⟨1,[116],0,0⟩ (by decide) (by decide +kernel) (by decide +kernel) (by decide +kernel)).trans (by decide)
theorem nm_r:isNm [114]=true:=(nm_of [114] [114] ⟨1,[114],0,0⟩ (by decide) (by decide +kernel) (by decide +kernel) (by decide +kernel)).trans (by decide)
theorem nm_q:isNm [113]=true:=(nm_of [113] [113] ⟨1,[113],0,0⟩ (by decide) (by decide +kernel) (by decide +kernel) (by decide +kernel)).trans (by decide)
theorem nm_if:isNm [105,102]=false:=(nm_of [105,102] [105,102] ⟨4,[105,102],0,0⟩ (by decide) (by decide +kernel) (by decide +kernel) (by decide +kernel)).trans (by decide)
end Lift.A3
namespace Lift.A3
open Go Go.RowKit Lift Go.IntWalk Lift.Fn
set_option linter.unusedVariables false
set_option linter.unusedSimpArgs false
def sy0:TStmt:=TStmt.mk (4:Int) [(114:UInt8)] [(120:UInt8)] (TExpr.mk (5:Int) (0:Int) [] [TExpr.mk (2:Int) (0:Int) [(114:UInt8)] [],TExpr.mk (2:Int) (0:Int) [(113:UInt8)] []]) (0:Int) [] []
def p0 (c:List UInt8):TProg:=TProg.mk [TCell.mk c (0:Int)] [] [TThread.mk [(116:UInt8)] [sy0]]
theorem sF0:sF sy0=true:=by
 have h4:shp 4=⟨true,true,true,false,false,false⟩:=by decide
 have hi:inR 4=true:=by decide
 simp[sF,sy0,sOk,h4,hi,isOpt,nm_x,nm_r,zaar,eF,eFs,xOk,nm_q,sFs]
theorem pOk0:pOk (p0 [120])=true:=by
 simp[pOk,p0,cOk,nm_x,nm_t,sFs,sF0]
theorem pOk1:pOk (p0 [105,102])=false:=by
 simp[pOk,p0,cOk,nm_if]
theorem zatv:qav=some true:=by
 rw[qav,zaaa];unfold qav_f;have n0:∀ c,nT (p0 c).threads≤100000000:=by intro c; show nT [TThread.mk [(116:UInt8)] [sy0]]≤100000000; simp[nT,nSs,nS,sy0,nE,nEs]
 have n1:∀ c,(p0 c).cells.length≤100000000:=by intro c; show 1≤_; omega
 have n2:∀ c,(p0 c).mutexes.length≤100000000:=by intro c; show 0≤_; omega
 have r0:zacf (p0 [120])=0:=by
  unfold zacf;rw[pOk0];have h1:maxEv (evP (p0 [120])) 0=2:=by simp[evP,p0,evSs,evS,sy0,zaar,evE,evEs,maxEv,evD]; rfl
  have h2:cT (p0 [120]).threads=4:=by simp[p0,cT,cSs,cS,sy0,zaar,nE,nEs]
  rw[h1,h2];rfl
 have r1:zacf (p0 [105,102])=30:=by
  unfold zacf;rw[pOk1];rfl
 have e1:=zae6 (p0 [120]) (n0 _) (n1 _) (n2 _);have e2:=zalo (p0 [120]) (Nat.le_trans (n0 _) (by decide));have e3:=zan4 (p0 [120]) (Nat.le_trans (n0 _) (by decide));have e4:=zar0 (p0 [120]) (n0 _) (n1 _) (n2 _);have e5:=zasl (p0 [120]) (n0 _) (n1 _) (n2 _);have e6:=fun q=>zasx (p0 [120]) q (n0 _) (n1 _) (n2 _)
 have e7:=zae6 (p0 [105,102]) (n0 _) (n1 _) (n2 _);have h1:maxEv (evP (p0 [120])) 0=2:=by simp[evP,p0,evSs,evS,sy0,zaar,evE,evEs,maxEv,evD]; rfl
 have h2:cT (p0 [120]).threads=4:=by simp[p0,cT,cSs,cS,sy0,zaar,nE,nEs]
 have h3:(allNm (p0 [120])).foldl putN []=[[120],[116],[114],[113]]:=by
  have:allNm (p0 [120])=[[120],[116],[114],[120],[],[114],[113]]:=by simp[allNm,evP,p0,evSs,evS,sy0,zaar,evE,evEs,nms,evNm]
  rw[this];decide
 have h6:sP (p0 [120]) (TProg.mk [] [] [])=false:=rfl;rw[r0] at e1;rw[h2] at e2;rw[h1] at e3;rw[h3] at e4;rw[r1] at e7;show Option.bind (qa5 (p0 [120])) _=_;rw[e1,Option.bind_some];show Option.bind (qaV (p0 [120])) _=_;rw[e2,Option.bind_some];show Option.bind (qaY (p0 [120])) _=_;rw[e3,Option.bind_some];show Option.bind (qa1 (p0 [120])) _=_;rw[e4,Option.bind_some];show Option.bind (qaR (p0 [120])) _=_;rw[e5,Option.bind_some];show Option.bind (qa6 (p0 [120]) (p0 [120])) _=_;rw[e6,zas6,Option.bind_some];show Option.bind (qa6 (p0 [120]) (TProg.mk [] [] [])) _=_;rw[e6,h6,Option.bind_some];show Option.bind (qa5 (p0 [105,102])) _=_;rw[e7,Option.bind_some];rfl
end Lift.A3
namespace Lift.A3
open Go Go.RowKit Lift Go.IntWalk Lift.Fn
set_option linter.unusedVariables false
set_option linter.unusedSimpArgs false
theorem zalm (m:Int):∀ (l:List Ev) (s:Int),maxEv l s≤m↔s≤m∧∀ e∈l,evD e≤m
 |[],s=>by simp[maxEv]
 |e::l,s=>by
  show maxEv l (max s (evD e))≤m↔_;rw[zalm m l];simp only[List.mem_cons,forall_eq_or_imp];constructor
  ·rintro ⟨h,h2⟩
   exact ⟨by omega,by omega,h2⟩
  ·rintro ⟨h,h1,h2⟩
   exact ⟨by omega,h2⟩
theorem zadc {e:Ev} {d:Int}:∀ {l:List TStmt},e∈evSs l d↔∃ y∈l,e∈evS y d
 |[]=>by simp[evSs]
 |x::l=>by rw[evSs,List.mem_append,zadc]; simp
theorem zalf:∀ {l:List TStmt},sFs l=true↔∀ y∈l,sF y=true
 |[]=>by simp[sFs]
 |x::l=>by rw[sFs,Bool.and_eq_true,zalf]; simp
structure LessB (b b':List TStmt):Prop where
 f:sFs b=true→sFs b'=true
 d:∀ e∈evSs b' 1,∃ e'∈evSs b 1,evD e=evD e'
 c:cSs b'≤cSs b
 n:nSs b'≤nSs b
theorem zarw:∀ (l:List TThread) (j:Nat) (t:TThread) (b':List TStmt),l[j]? = some t→cSs b'≤cSs t.body→cT (l.set j ⟨t.name,b'⟩)≤cT l
 |[],j,t,b',h,_=>by simp at h
 |x::l,0,t,b',h,hc=>by
  simp only[List.getElem?_cons_zero,Option.some.injEq] at h;subst h;rw[List.set_cons_zero,cT,cT];dsimp only;omega
 |x::l,j+1,t,b',h,hc=>by
  simp only[List.getElem?_cons_succ] at h;have:=zarw l j t b' h hc;rw[List.set_cons_succ,cT,cT];omega
theorem zano:∀ (l:List TThread) (j:Nat) (t:TThread) (b':List TStmt),l[j]? = some t→nSs b'≤nSs t.body→nT (l.set j ⟨t.name,b'⟩)≤nT l
 |[],j,t,b',h,_=>by simp at h
 |x::l,0,t,b',h,hc=>by
  simp only[List.getElem?_cons_zero,Option.some.injEq] at h;subst h;have e1:nT (TThread.mk x.name b'::l)=1+nSs b'+nT l:=by simp[nT]
  have e2:nT (x::l)=1+nSs x.body+nT l:=by simp[nT]
  rw[List.set_cons_zero,e1,e2];omega
 |x::l,j+1,t,b',h,hc=>by
  simp only[List.getElem?_cons_succ] at h;have:=zano l j t b' h hc;have e1:∀ m,nT (x::m)=1+nSs x.body+nT m:=fun m=>by simp[nT]
  rw[List.set_cons_succ,e1,e1];omega
theorem zaoi {p:TProg}:zacf p=0↔pOk p=true∧maxEv (evP p) 0≤16∧(cT p.threads:Int)≤500:=by
 unfold zacf;cases h1:pOk p with
 |false=>simp
 |true=>
  simp only[Bool.not_true,cond_false,true_and];by_cases h2:maxEv (evP p) 0>16
  ·rw[decide_eq_true h2,cond_true];constructor
   ·intro h; cases h
   ·intro h; omega
  ·rw[decide_eq_false h2,cond_false];by_cases h3:(cT p.threads:Int)>500
   ·rw[decide_eq_true h3,cond_true];constructor
    ·intro h; cases h
    ·intro h; omega
   ·rw[decide_eq_false h3,cond_false];exact ⟨fun _=>by omega,fun _=>rfl⟩
theorem zak8 {p:TProg} (h:zacf p=0) {j:Nat} {t:TThread} (hj:p.threads[j]? = some t) {b':List TStmt} (hb:LessB t.body b'):zacf ⟨p.cells,p.mutexes,p.threads.set j ⟨t.name,b'⟩⟩=0:=by
 rw[zaoi] at h ⊢;obtain ⟨h1,h2,h3⟩:=h;have hm:=List.mem_of_getElem? hj;refine ⟨?_,?_,?_⟩
 ·unfold pOk at h1 ⊢;rw[Bool.and_eq_true,Bool.and_eq_true] at h1 ⊢;refine ⟨h1.1,h1.2.1,?_⟩;rw[List.all_eq_true];intro x hx;rcases List.mem_or_eq_of_mem_set hx with hx|hx
  ·exact List.all_eq_true.1 h1.2.2 x hx
  ·have:=List.all_eq_true.1 h1.2.2 t hm;rw[Bool.and_eq_true] at this ⊢;subst hx;exact ⟨this.1,hb.f this.2⟩
 ·rw[zalm] at h2 ⊢;refine ⟨h2.1,fun e he=>?_⟩;unfold evP at he h2;obtain ⟨x,hx,he⟩:=List.mem_flatMap.1 he;rcases List.mem_or_eq_of_mem_set hx with hx|hx
  ·exact h2.2 e (List.mem_flatMap.2 ⟨x,hx,he⟩)
  ·subst hx;obtain ⟨e',he',hd⟩:=hb.d e he;rw[hd];exact h2.2 e' (List.mem_flatMap.2 ⟨t,hm,he'⟩)
 ·have:=zarw p.threads j t b' hj hb.c;show (cT (p.threads.set j ⟨t.name,b'⟩):Int)≤500;omega
def zaa1 (y:TStmt):TStmt:=⟨y.kind,y.reg,y.name,y.expr,y.count,y.then_,[]⟩
theorem zara {y:TStmt} (h:sF y=true):sF (zaa1 y)=true:=by
 rw[sF_eq] at h ⊢;obtain ⟨k,r,m,x,c,t,o⟩:=y;unfold zaa1;dsimp only at h ⊢;rw[Bool.and_eq_true,Bool.and_eq_true,Bool.and_eq_true] at h ⊢;refine ⟨?_,h.2.1,h.2.2.1,by rw[sFs]⟩;have h1:=h.1;unfold sOk at h1 ⊢;dsimp only at h1 ⊢;simp only[Bool.and_eq_true] at h1 ⊢;refine ⟨h1.1,?_⟩;simp
theorem zaq0 {b:List TStmt} {k:Nat} {y:TStmt} (hk:b[k]? = some y):LessB b (b.set k (zaa1 y)):=by
 have hm:=List.mem_of_getElem? hk;refine ⟨fun h=>?_,fun e he=>?_,?_,?_⟩
 ·rw[zalf] at h ⊢;intro z hz;rcases List.mem_or_eq_of_mem_set hz with hz|hz
  ·exact h z hz
  ·rw[hz]; exact zara (h y hm)
 ·obtain ⟨z,hz,he⟩:=zadc.1 he;rcases List.mem_or_eq_of_mem_set hz with hz|hz
  ·exact ⟨e,zadc.2 ⟨z,hz,he⟩,rfl⟩
  ·subst hz;obtain ⟨k0,r,m,x,c,t,o⟩:=y;unfold zaa1 at he;dsimp only at he;rw[evS,List.mem_cons,List.mem_append,List.mem_append] at he;rcases he with he|he|he|he
   ·refine ⟨.s ⟨k0,r,m,x,c,t,o⟩ 1,zadc.2 ⟨_,hm,by rw[evS]; exact List.mem_cons_self⟩,?_⟩;rw[he];rfl
   ·exact ⟨e,zadc.2 ⟨_,hm,by rw[evS]; exact List.mem_cons_of_mem _ (List.mem_append_left _ he)⟩,rfl⟩
   ·exact ⟨e,zadc.2 ⟨_,hm,by rw[evS]; exact List.mem_cons_of_mem _ (List.mem_append_right _ (List.mem_append_left _ he))⟩,rfl⟩
   ·rw[evSs] at he; cases he
 ·have:∀ (l:List TStmt) (k:Nat),l[k]? = some y→cSs (l.set k (zaa1 y))≤cSs l:=by
   intro l;induction l with
   |nil=>intro k h; simp at h
   |cons x l ih=>
    intro k h;cases k with
    |zero=>
     simp only[List.getElem?_cons_zero,Option.some.injEq] at h;subst h;rw[List.set_cons_zero,cSs,cSs,cS_eq,cS_eq];unfold zaa1;dsimp only;have:cSs []=0:=by simp[cSs]
     omega
    |succ k=>
     simp only[List.getElem?_cons_succ] at h;have:=ih k h;rw[List.set_cons_succ,cSs,cSs];omega
  exact this b k hk
 ·have:∀ (l:List TStmt) (k:Nat),l[k]? = some y→nSs (l.set k (zaa1 y))≤nSs l:=by
   have e1:∀ (x:TStmt) (m:List TStmt),nSs (x::m)=nS x+nSs m:=fun x m=>by simp[nSs]
   intro l;induction l with
   |nil=>intro k h; simp at h
   |cons x l ih=>
    intro k h;cases k with
    |zero=>
     simp only[List.getElem?_cons_zero,Option.some.injEq] at h;subst h;rw[List.set_cons_zero,e1,e1,nS_eq,nS_eq];unfold zaa1;dsimp only;have:nSs []=0:=by simp[nSs]
     omega
    |succ k=>
     simp only[List.getElem?_cons_succ] at h;have:=ih k h;rw[List.set_cons_succ,e1,e1];omega
  exact this b k hk
theorem zasy (b:List TStmt) (k:Nat):LessB b (b.take k++b.drop (k+1)):=by
 have mem:∀ y∈b.take k++b.drop (k+1),y∈b:=fun y hy=>by
  rcases List.mem_append.1 hy with h|h
  ·exact List.mem_of_mem_take h
  ·exact List.mem_of_mem_drop h
 refine ⟨fun h=>?_,fun e he=>?_,?_,?_⟩
 ·rw[zalf] at h ⊢;exact fun y hy=>h y (mem y hy)
 ·obtain ⟨z,hz,he⟩:=zadc.1 he;exact ⟨e,zadc.2 ⟨z,mem z hz,he⟩,rfl⟩
 ·have app:∀ (a c:List TStmt),cSs (a++c)=cSs a+cSs c:=by
   intro a c;induction a with
   |nil=>simp[cSs]
   |cons x a ih=>rw[List.cons_append,cSs,cSs,ih]; omega
  have e1:b=b.take k++b.drop k:=(List.take_append_drop k b).symm;have e2:cSs b=cSs (b.take k)+cSs (b.drop k):=by rw[← app,List.take_append_drop]
  have e3:cSs (b.drop (k+1))≤cSs (b.drop k):=by
   by_cases h:k<b.length
   ·rw[List.drop_eq_getElem_cons h,cSs]; omega
   ·rw[List.drop_eq_nil_of_le (by omega),List.drop_eq_nil_of_le (by omega)]; exact Nat.le_refl _
  rw[app];omega
 ·have e0:∀ (x:TStmt) (m:List TStmt),nSs (x::m)=nS x+nSs m:=fun x m=>by simp[nSs]
  have app:∀ (a c:List TStmt),nSs (a++c)=nSs a+nSs c:=by
   intro a c;induction a with
   |nil=>simp[nSs]
   |cons x a ih=>rw[List.cons_append,e0,e0,ih]; omega
  have e2:nSs b=nSs (b.take k)+nSs (b.drop k):=by rw[← app,List.take_append_drop]
  have e3:nSs (b.drop (k+1))≤nSs (b.drop k):=by
   by_cases h:k<b.length
   ·rw[List.drop_eq_getElem_cons h,e0]; omega
   ·rw[List.drop_eq_nil_of_le (by omega),List.drop_eq_nil_of_le (by omega)]; exact Nat.le_refl _
  rw[app];omega
end Lift.A3
namespace Lift.A3
open Go Go.RowKit Lift Go.IntWalk Lift.Fn
set_option linter.unusedVariables false
set_option linter.unusedSimpArgs false
theorem zas4 {P:Prop} [Decidable P] (h:P) {α:Type} (x y:α):cond (decide P) x y=x:=by rw[decide_eq_true h]; rfl
def taken (B:List TStmt) (k i:Nat):List TStmt:=if i≤k then B.take i else B.take k++(B.take i).drop (k+1)
theorem zarg (B:List TStmt) (k i:Nat):(taken B k i).length≤i:=by
 unfold taken;split
 ·rw[List.length_take]; omega
 ·rw[List.length_append,List.length_take,List.length_drop,List.length_take]; omega
theorem zap2 {B:List TStmt} {k i:Nat} (h:i<B.length):taken B k (i+1)=if i=k then taken B k i else taken B k i++[B[i]]:=by
 have ht:B.take (i+1)=B.take i++[B[i]]:=by rw[List.take_add_one,List.getElem?_eq_getElem h]; rfl
 unfold taken;by_cases h1:i=k
 ·subst h1;rw[if_neg (by omega),if_pos rfl,if_pos (Nat.le_refl _),List.drop_eq_nil_of_le (by rw[List.length_take]; omega),List.append_nil]
 ·rw[if_neg h1];by_cases h2:i<k
  ·rw[if_pos (by omega),if_pos (by omega),ht]
  ·rw[if_neg (by omega),if_neg (by omega),ht,List.drop_append_of_le_length (by rw[List.length_take]; omega),List.append_assoc]
theorem lessL (j k:Nat) (one:Int) (C:List TCell) (M:List (List UInt8)) (T:List TThread) (t:TThread) (hj:T[j]? = some t) (hB:t.body.length≤100000000) :
  ∀ (m n i:Nat),i+m=t.body.length→m<n→qau_i14 n j (k:Int) one (i:Int) C M T (taken t.body k i)=some (j,one,taken t.body k t.body.length,C,M,T):=by
 have hset:List.set T j (TThread.mk t.name t.body)=T:=by
  have hjl:j<T.length:=(List.getElem?_eq_some_iff.1 hj).1;have e:T[j]=t:=by rw[List.getElem?_eq_getElem hjl] at hj; exact Option.some.inj hj
  have:(TThread.mk t.name t.body)=T[j]:=by rw[e]
  rw[this,List.set_getElem_self]
 intro m;induction m with
 |zero=>
  intro n i hi hn;obtain ⟨n,rfl⟩:∃ q,n=q+1:=⟨n-1,by omega⟩;show qau_t14 (qau_i14 n) j (k:Int) one (i:Int) C M T (taken t.body k i)=_;unfold qau_t14;rw[hj,Option.bind_some,decide_eq_false (show ¬ (i:Int)<(t.body.length:Int) by omega),cond_false,hset,show i=t.body.length by omega]
 |succ m ih=>
  intro n i hi hn;obtain ⟨n,rfl⟩:∃ q,n=q+1:=⟨n-1,by omega⟩;have hlt:i<t.body.length:=by omega
  have hl:=zarg t.body k i;have w1:IntKind.wrap IntKind.i64 ((i:Int)+1)=((i+1:Nat):Int):=by rw[i64_in _ (by omega)]; omega
  have hn1:=zap2 (k:=k) hlt;show qau_t14 (qau_i14 n) j (k:Int) one (i:Int) C M T (taken t.body k i)=_;unfold qau_t14;rw[hj,Option.bind_some,decide_eq_true (show (i:Int)<(t.body.length:Int) by omega),cond_true,hset,w1];by_cases hik:i=k
  ·have e:((i:Int) != (k:Int))=false:=by simp[hik]
   rw[e,cond_false];rw[if_pos hik] at hn1;rw[← hn1];exact ih n (i+1) (by omega) (by omega)
  ·have e:((i:Int) != (k:Int))=true:=by simp; omega
   rw[e,cond_true,Nat.beq_refl,cond_true,decide_eq_true (show (0:Int)≤(i:Int) by omega),Bool.true_and,cond_true,Int.toNat_natCast,List.getElem?_eq_getElem hlt,Option.bind_some];refine (zas4 (by simp only[List.length_cons,List.length_nil]; omega) _ _).trans ?_;rw[if_neg hik] at hn1;rw[← hn1];exact ih n (i+1) (by omega) (by omega)
theorem zas3 (p:TProg) (a b:Int) (h:nT p.threads≤100000000) (h1:p.cells.length≤100000000) (h2:p.mutexes.length≤100000000):qau p a b=some true:=by
 rw[qau,zaaa];unfold qau_f;have hr:=zae6 p h h1 h2;rw[zatv,Option.bind_some,zafz,hr,Option.bind_some];by_cases hz':zacf p≠0
 ·have e:(zacf p != 0)=true:=by simpa using hz'
  simp[e]
 have hz:zacf p=0:=by omega
 have e:(zacf p != 0)=false:=by simp[hz]
 simp only[e,Bool.not_true,cond_false,Option.bind_some];by_cases ha:a<0
 ·simp[ha]
 rw[decide_eq_false ha,cond_false];by_cases hb:b<0
 ·simp[hb]
 rw[decide_eq_false hb];simp only[cond_false,Option.bind_some];by_cases ht:p.threads.length=0
 ·have e0:(((p.threads.length:Nat):Int)==0)=true:=by simp[ht]
  simp only[e0,cond_true]
 have e0:(((p.threads.length:Nat):Int)==0)=false:=by simp; intro hh; rw[hh] at ht; exact ht rfl
 simp only[e0,cond_false];rw[zatb p h h1 h2,Option.bind_some];dsimp only;rw[e0,cond_false];have t1:0≤Int.tmod a (p.threads.length:Int):=Int.tmod_nonneg _ (by omega);have t2:Int.tmod a (p.threads.length:Int)<(p.threads.length:Int):=Int.tmod_lt_of_pos _ (by omega);rw[decide_eq_true t1,decide_eq_true t2,Bool.and_self,cond_true];generalize hJ:(Int.tmod a (p.threads.length:Int)).toNat=j;have hjl:j<p.threads.length:=by omega
 obtain ⟨t,hj⟩:∃ t,p.threads[j]? = some t:=⟨_,List.getElem?_eq_getElem hjl⟩;have hm:=List.mem_of_getElem? hj;have hnt:=zaeg hm;have hbl:t.body.length≤nSs t.body:=by
  have:∀ l:List TStmt,l.length≤nSs l:=by
   intro l;induction l with
   |nil=>exact Nat.zero_le _
   |cons x l ih=>
    have e1:nSs (x::l)=nS x+nSs l:=by simp[nSs]
    rw[e1,nS_eq,List.length_cons];omega
  exact this t.body
 rw[hj,Option.bind_some];by_cases hB:t.body.length=0
 ·have e3:(((t.body.length:Nat):Int)==0)=true:=by simp[hB]
  rw[e3,cond_true]
 have e3:(((t.body.length:Nat):Int)==0)=false:=by simp; intro hh; rw[hh] at hB; exact hB rfl
 have k1:0≤Int.tmod b (t.body.length:Int):=Int.tmod_nonneg _ (by omega);have k2:Int.tmod b (t.body.length:Int)<(t.body.length:Int):=Int.tmod_lt_of_pos _ (by omega);rw[e3,cond_false,Nat.beq_refl,cond_true,cond_false,cond_true,decide_eq_true k1,decide_eq_true k2,Bool.and_self,cond_true];generalize hK:(Int.tmod b (t.body.length:Int)).toNat=k;have hKi:Int.tmod b (t.body.length:Int)=(k:Int):=by omega
 have hkl:k<t.body.length:=by omega
 obtain ⟨y,hk⟩:∃ y,t.body[k]? = some y:=⟨_,List.getElem?_eq_getElem hkl⟩;rw[hk,Option.bind_some,hKi,zaaw];have hny:TStmt.mk y.kind y.reg y.name y.expr y.count y.then_ []=zaa1 y:=rfl;rw[hny];have L1:=zaq0 hk;have r1:=zak8 hz hj L1;have n1:=zano p.threads j t _ hj L1.n;have q1:=zae6 ⟨p.cells,p.mutexes,p.threads.set j ⟨t.name,t.body.set k (zaa1 y)⟩⟩ (Nat.le_trans n1 h) h1 h2;rw[q1,Option.bind_some,r1];have hj':(p.threads.set j ⟨t.name,t.body.set k (zaa1 y)⟩)[j]? = some ⟨t.name,t.body.set k (zaa1 y)⟩:=by rw[List.getElem?_set_self hjl]
 have hlen:(t.body.set k (zaa1 y)).length=t.body.length:=List.length_set;have hL:=lessL j k 0 p.cells p.mutexes (p.threads.set j ⟨t.name,t.body.set k (zaa1 y)⟩) ⟨t.name,t.body.set k (zaa1 y)⟩ hj' (by show (t.body.set k (zaa1 y)).length≤_; omega) t.body.length fuel 0 (by show 0+t.body.length=(t.body.set k (zaa1 y)).length; omega) (by unfold fuel; omega);have h0:taken (t.body.set k (zaa1 y)) k 0=[]:=by unfold taken; rw[if_pos (Nat.zero_le _),List.take_zero]
 dsimp only at hL;rw[h0] at hL;have hL':qau_i14 fuel j (k:Int) 0 0 p.cells p.mutexes (p.threads.set j ⟨t.name,t.body.set k (zaa1 y)⟩) []=_:=hL;rw[qau_l14,zaaa,hL',Option.bind_some];dsimp only;rw[hj',Option.bind_some];dsimp only;have hfin:taken (t.body.set k (zaa1 y)) k (t.body.set k (zaa1 y)).length=(t.body.set k (zaa1 y)).take k++(t.body.set k (zaa1 y)).drop (k+1):=by
  unfold taken;rw[if_neg (by omega),List.take_length]
 rw[hfin];have L2:=zasy (t.body.set k (zaa1 y)) k;have r2:=zak8 r1 hj' L2;have n2:=zano (p.threads.set j ⟨t.name,t.body.set k (zaa1 y)⟩) j _ _ hj' L2.n;have q2:=zae6 ⟨p.cells,p.mutexes,(p.threads.set j ⟨t.name,t.body.set k (zaa1 y)⟩).set j ⟨t.name,(t.body.set k (zaa1 y)).take k++(t.body.set k (zaa1 y)).drop (k+1)⟩⟩ (Nat.le_trans n2 (Nat.le_trans n1 h)) h1 h2;dsimp only at r2;rw[q2,Option.bind_some,r2];rfl
end Lift.A3
namespace Lift.A3
open Go Go.RowKit Lift Lift.Fn
set_option linter.unusedVariables false
theorem zaa3 {u:Uni} {c:TV u.U} {cs:List (TV u.U)} {N:Nat} (h:SizedL u (c::cs) N):∃ a b,Sized u c a∧SizedL u cs b∧a+b+1≤N:=by
 cases h with
 |cons _ _ a b _ h1 h2 h3=>exact ⟨a,b,h1,h2,h3⟩
mutual
theorem szE:∀ (x:TExpr) (N:Nat),Sized T3.kk.u ⟨.st 41,x⟩ N→nE x≤N
 |⟨k,n,m,l⟩,N,h=>by
  have h1:SizedL T3.kk.u [⟨.int .i64,k⟩,⟨.int .i64,n⟩,⟨.str,m⟩,⟨.slc (.st 41),l⟩] N:=h.st_inv;obtain ⟨a1,b1,_,h1,e1⟩:=zaa3 h1;obtain ⟨a2,b2,_,h2,e2⟩:=zaa3 h1;obtain ⟨a3,b3,_,h3,e3⟩:=zaa3 h2;obtain ⟨a4,b4,s4,h4,e4⟩:=zaa3 h3;have:=szEs l a4 s4.slc_inv;rw[nE];omega
theorem szEs:∀ (l:List TExpr) (N:Nat),SizedL T3.kk.u (l.map (TV.mk (.st 41))) N→nEs l≤N
 |[],N,h=>by simp[nEs]
 |x::l,N,h=>by
  obtain ⟨a,b,h1,h2,e⟩:=zaa3 h;have:=szE x a h1;have:=szEs l b h2;rw[nEs];omega
end
mutual
theorem szS:∀ (x:TStmt) (N:Nat),Sized T3.kk.u ⟨.st 43,x⟩ N→nS x≤N
 |⟨k,r,m,⟨k',n',m',l'⟩,c,t,o⟩,N,h=>by
  have h1:SizedL T3.kk.u [⟨.int .i64,k⟩,⟨.str,r⟩,⟨.str,m⟩,⟨.int .i64,k'⟩,⟨.int .i64,n'⟩,⟨.str,m'⟩,⟨.slc (.st 41),l'⟩,⟨.int .i64,c⟩,⟨.slc (.st 43),t⟩,⟨.slc (.st 43),o⟩] N:=h.st_inv;obtain ⟨a1,b1,_,h1,e1⟩:=zaa3 h1;obtain ⟨a2,b2,_,h2,e2⟩:=zaa3 h1;obtain ⟨a3,b3,_,h3,e3⟩:=zaa3 h2;obtain ⟨a4,b4,_,h4,e4⟩:=zaa3 h3;obtain ⟨a5,b5,_,h5,e5⟩:=zaa3 h4;obtain ⟨a6,b6,_,h6,e6⟩:=zaa3 h5;obtain ⟨a7,b7,s7,h7,e7⟩:=zaa3 h6;obtain ⟨a8,b8,_,h8,e8⟩:=zaa3 h7;obtain ⟨a9,b9,s9,h9,e9⟩:=zaa3 h8;obtain ⟨a10,b10,s10,h10,e10⟩:=zaa3 h9;have:=szEs l' a7 s7.slc_inv;have:=szSs t a9 s9.slc_inv;have:=szSs o a10 s10.slc_inv;rw[nS,nE];omega
theorem szSs:∀ (l:List TStmt) (N:Nat),SizedL T3.kk.u (l.map (TV.mk (.st 43))) N→nSs l≤N
 |[],N,h=>by simp[nSs]
 |x::l,N,h=>by
  obtain ⟨a,b,h1,h2,e⟩:=zaa3 h;have:=szS x a h1;have:=szSs l b h2;rw[nSs];omega
end
theorem szT:∀ (l:List TThread) (N:Nat),SizedL T3.kk.u (l.map (TV.mk (.st 38))) N→nT l≤N
 |[],N,h=>by simp[nT]
 |⟨m,t⟩::l,N,h=>by
  obtain ⟨a,b,h1,h2,e⟩:=zaa3 h;have h3:SizedL T3.kk.u [⟨.str,m⟩,⟨.slc (.st 43),t⟩] a:=h1.st_inv;obtain ⟨a1,b1,_,h3,e1⟩:=zaa3 h3;obtain ⟨a2,b2,s2,h4,e2⟩:=zaa3 h3;have:=szSs t a2 s2.slc_inv;have:=szT l b h2;rw[nT];show 1+nSs t+nT l≤N;omega
structure Small (y:TProg):Prop where
 t:nT y.threads≤100000000
 c:y.cells.length≤100000000
 m:y.mutexes.length≤100000000
theorem small (y:TProg) (h:Sized T3.kk.u ⟨.st 26,y⟩ 1048576):Small y:=by
 obtain ⟨c,m,t⟩:=y;have h1:SizedL T3.kk.u [⟨.slc (.st 46),c⟩,⟨.slc .str,m⟩,⟨.slc (.st 38),t⟩] 1048576:=h.st_inv;obtain ⟨a1,b1,s1,h1,e1⟩:=zaa3 h1;obtain ⟨a2,b2,s2,h2,e2⟩:=zaa3 h1;obtain ⟨a3,b3,s3,h3,e3⟩:=zaa3 h2;have:=s1.slc_len;have:=s2.slc_len;have:=szT t a3 s3.slc_inv;have q1:c.length≤a1:=s1.slc_len;have q2:m.length≤a2:=s2.slc_len;exact ⟨by show nT t≤_; omega,by show c.length≤_; omega,by show m.length≤_; omega⟩
theorem treeLess1 (p:TProg) (a b:Int) (h:Small p):qau p a b=some true:=zas3 p a b h.t h.c h.m
end Lift.A3
