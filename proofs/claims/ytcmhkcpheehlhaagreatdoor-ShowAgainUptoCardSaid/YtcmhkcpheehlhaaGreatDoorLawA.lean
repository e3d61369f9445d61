/-
  DERIVED. The Lean functions answer as the laws say. Conditions: as each theorem says.
-/
import Derived.Test.YtcmhkcpheehlhaaGreatDoorWalk
import Derived.IntWalk
import Derived.Lib.ItoaLen
import Derived.Lib.AtoiAllCases
import Derived.Lib.ItoaMem
import Derived.Lib.SlTrimSet
set_option linter.unusedVariables false
set_option linter.unusedSimpArgs false
set_option linter.unusedSectionVars false
namespace Lift.A3
open Go Go.RowKit Lift Go.IntWalk Lift.Fn
set_option linter.unusedVariables false
set_option linter.unusedSimpArgs false
theorem zacz {α σ:Type} (l:List α) (body:α→σ→Option σ) (L:Nat→Int→σ→Option σ)
  (h0:∀ n i s,0≤i→¬ i<(l.length:Int)→L (n+1) i s=some s)
  (h1:∀ n i s (x:α),0≤i→i<(l.length:Int)→l[i.toNat]? = some x→L (n+1) i s=(body x s).bind fun s'=>L n (i+1) s') :
  ∀ (k n:Nat) (i:Int) (s:σ),0≤i→l.length-i.toNat≤k→k<n→L n i s=(l.drop i.toNat).foldlM (fun s x=>body x s) s:=by
 intro k;induction k with
 |zero=>
  intro n i s hi hk hn;obtain ⟨n,rfl⟩:∃ q,n=q+1:=⟨n-1,by omega⟩;rw[h0 n i s hi (by omega),List.drop_eq_nil_of_le (by omega)];rfl
 |succ k ih=>
  intro n i s hi hk hn;obtain ⟨n,rfl⟩:∃ q,n=q+1:=⟨n-1,by omega⟩;by_cases c:i<(l.length:Int)
  ·have hlt:i.toNat<l.length:=by omega
   rw[h1 n i s l[i.toNat] hi c (List.getElem?_eq_getElem hlt),List.drop_eq_getElem_cons hlt,List.foldlM_cons];congr 1;funext s';rw[ih n (i+1) s' (by omega) (by omega) (by omega)];congr 2;omega
  ·rw[h0 n i s hi c,List.drop_eq_nil_of_le (by omega)];rfl
inductive Ev where
 |s (x:TStmt) (d:Int)
 |e (x:TExpr) (d:Int)
mutual
def evE:TExpr→Int→List Ev
 |⟨k,n,m,l⟩,d=>.e ⟨k,n,m,l⟩ d::evEs l (d+1)
def evEs:List TExpr→Int→List Ev
 |[],_=>[]
 |x::l,d=>evE x d++evEs l d
end
def zaay (x:TExpr):Bool:=(x.kind != 0)||decide (0<x.args.length)
mutual
def evS:TStmt→Int→List Ev
 |⟨k,r,m,x,c,t,o⟩,d=>.s ⟨k,r,m,x,c,t,o⟩ d::((if zaay x then evE x 1 else [])++(evSs t (d+1)++evSs o (d+1)))
def evSs:List TStmt→Int→List Ev
 |[],_=>[]
 |x::l,d=>evS x d++evSs l d
end
def evP (p:TProg):List Ev:=p.threads.flatMap fun t=>evSs t.body 1
mutual
def nE:TExpr→Nat
 |⟨_,_,_,l⟩=>1+nEs l
def nEs:List TExpr→Nat
 |[]=>0
 |x::l=>nE x+nEs l
end
mutual
def nS:TStmt→Nat
 |⟨_,_,_,x,_,t,o⟩=>1+nE x+nSs t+nSs o
def nSs:List TStmt→Nat
 |[]=>0
 |x::l=>nS x+nSs l
end
def nT:List TThread→Nat
 |[]=>0
 |t::l=>1+nSs t.body+nT l
theorem nE_eq (x:TExpr):nE x=1+nEs x.args:=by cases x; simp[nE]
theorem nS_eq (x:TStmt):nS x=1+nE x.expr+nSs x.then_+nSs x.else_:=by cases x; simp[nS]
theorem zay0 (x:TExpr) (d:Int):evE x d=.e x d::evEs x.args (d+1):=by cases x; simp[evE]
theorem zazi (x:TStmt) (d:Int):evS x d=.s x d::((if zaay x.expr then evE x.expr 1 else [])++(evSs x.then_ (d+1)++evSs x.else_ (d+1))):=by cases x; simp[evS]
theorem zasu:∀ l:List TExpr,l.length≤nEs l
 |[]=>by simp[nEs]
 |x::l=>by have:=zasu l; have:=nE_eq x; simp only[nEs,List.length_cons]; omega
theorem zant:∀ l:List TStmt,l.length≤nSs l
 |[]=>by simp[nSs]
 |x::l=>by have:=zant l; have:=nS_eq x; simp only[nSs,List.length_cons]; omega
theorem zako:∀ l:List TThread,l.length≤nT l
 |[]=>by simp[nT]
 |x::l=>by have:=zako l; simp only[nT,List.length_cons]; omega
theorem zasl:∀ {l:List TExpr} {x:TExpr},x∈l→nE x≤nEs l
 |y::l,x,h=>by
  simp only[nEs];cases h with
  |head=>omega
  |tail _ h=>have:=zasl h; omega
theorem zas4:∀ {l:List TStmt} {x:TStmt},x∈l→nS x≤nSs l
 |y::l,x,h=>by
  simp only[nSs];cases h with
  |head=>omega
  |tail _ h=>have:=zas4 h; omega
theorem zamf:∀ {l:List TThread} {x:TThread},x∈l→nSs x.body<nT l
 |y::l,x,h=>by
  simp only[nT];cases h with
  |head=>omega
  |tail _ h=>have:=zamf h; omega
theorem zaoe : ∀ (l : List TExpr) (d : Int), evEs l d = l.flatMap fun x => evE x d
 |[],d=>by simp[evEs]
 |x::l,d=>by simp[evEs,zaoe l d]
theorem zao5 : ∀ (l : List TStmt) (d : Int), evSs l d = l.flatMap fun x => evS x d
 |[],d=>by simp[evSs]
 |x::l,d=>by simp[evSs,zao5 l d]
theorem zady {α β σ : Type} (f : α → List β) (g : σ → β → Option σ) : ∀ (l : List α) (s : σ), (l.flatMap f).foldlM g s = l.foldlM (fun s x => (f x).foldlM g s) s
 |[],s=>rfl
 |x::l,s=>by
  rw[List.flatMap_cons,List.foldlM_append,List.foldlM_cons];congr 1;funext s';exact zady f g l s'
theorem zac7 {α β:Type} (o:Option (α×β)):(o.bind fun y=>some (y.1,y.2))=o:=by cases o<;>rfl
theorem zaaq (x:TExpr):TExpr.mk x.kind x.num x.name x.args=x:=by cases x; rfl
theorem zakt (x:TStmt):TStmt.mk x.kind x.reg x.name (TExpr.mk x.expr.kind x.expr.num x.expr.name x.expr.args) x.count x.then_ x.else_=x:=by
 obtain ⟨k,r,n,⟨_,_,_,_⟩,c,t,o⟩:=x;rfl
theorem zama (x:TStmt):TStmt.mk x.kind x.reg x.name x.expr x.count x.then_ x.else_=x:=by cases x; rfl
theorem zagx (x:TProg):TProg.mk x.cells x.mutexes x.threads=x:=by cases x; rfl
def atEv {σ:Type} (g:TStmt→Int→σ→Option σ) (h:TExpr→Int→σ→Option σ) (s:σ):Ev→Option σ
 |.s x d=>g x d s
 |.e x d=>h x d s
structure WalksE {σ:Type} (h:TExpr→Int→σ→Option σ) (F:Nat→TExpr→Int→σ→Option σ):Prop where
 step:∀ n x d s,(d:Int)+1≤4611686018427387904→-4611686018427387904≤d→x.args.length≤4611686018427387904→F (n+1) x d s=(h x d s).bind fun s'=>x.args.foldlM (fun s y=>F n y (d+1) s) s'
theorem zapm {σ:Type} {g:TStmt→Int→σ→Option σ} {h:TExpr→Int→σ→Option σ} {F:Nat→TExpr→Int→σ→Option σ} (hW:WalksE h F) :
  ∀ (k n:Nat) (x:TExpr) (d:Int) (s:σ),nE x≤k→k<n→0≤d→d+k≤1000000000000000000→F n x d s=(evE x d).foldlM (atEv g h) s:=by
 intro k;induction k with
 |zero=>intro n x d s hk; have:=nE_eq x; omega
 |succ k ih=>
  intro n x d s hk hn h0 hd;obtain ⟨n,rfl⟩:∃ q,n=q+1:=⟨n-1,by omega⟩;have hx:=nE_eq x;have hl:=zasu x.args;rw[hW.step n x d s (by omega) (by omega) (by omega),zay0,List.foldlM_cons];show _=(h x d s).bind _;congr 1;funext s';rw[zaoe,zady];have:∀ (l:List TExpr) (s:σ),(∀ y∈l,nE y≤k)→l.foldlM (fun s y=>F n y (d+1) s) s=l.foldlM (fun s y=>(evE y (d+1)).foldlM (atEv g h) s) s:=by
   intro l;induction l with
   |nil=>intro s _; rfl
   |cons y l ihl=>
    intro s hy;rw[List.foldlM_cons,List.foldlM_cons,ih n y (d+1) s (hy y (by simp)) (by omega) (by omega) (by omega)];congr 1;funext s';exact ihl s' (fun z hz=>hy z (by simp[hz]))
  exact this _ _ (fun y hy=>by have:=zasl hy; omega)
structure WalksS {σ:Type} (g:TStmt→Int→σ→Option σ) (E:TExpr→Int→σ→Option σ) (F:Nat→List TStmt→Int→σ→Option σ):Prop where
 step:∀ n l d s,(d:Int)+1≤4611686018427387904→-4611686018427387904≤d→l.length≤4611686018427387904→F (n+1) l d s=l.foldlM (fun s x=>(g x d s).bind fun s1=>(if zaay x.expr then E x.expr 1 s1 else some s1).bind fun s2=>(F n x.then_ (d+1) s2).bind fun s3=>F n x.else_ (d+1) s3) s
theorem zaps {σ:Type} {g:TStmt→Int→σ→Option σ} {h:TExpr→Int→σ→Option σ} {E:TExpr→Int→σ→Option σ} {F:Nat→List TStmt→Int→σ→Option σ}
  (hE:∀ x s,nE x≤100000000000000000→E x 1 s=(evE x 1).foldlM (atEv g h) s) (hW:WalksS g E F) :
  ∀ (k n:Nat) (l:List TStmt) (d:Int) (s:σ),nSs l≤k→k<n→0≤d→d+k≤100000000000000000→F n l d s=(evSs l d).foldlM (atEv g h) s:=by
 intro k;induction k with
 |zero=>
  intro n l d s hk hn h0 hd;obtain ⟨n,rfl⟩:∃ q,n=q+1:=⟨n-1,by omega⟩;have hl:=zant l;obtain rfl:l=[]:=List.eq_nil_of_length_eq_zero (by omega);rw[hW.step n [] d s (by omega) (by omega) (by simp)];simp[evSs]
 |succ k ih=>
  intro n l d s hk hn h0 hd;obtain ⟨n,rfl⟩:∃ q,n=q+1:=⟨n-1,by omega⟩;have hl:=zant l;rw[hW.step n l d s (by omega) (by omega) (by omega),zao5,zady]
  have : ∀ (l : List TStmt) (s : σ), (∀ y ∈ l, nS y ≤ k + 1) → l.foldlM (fun s x => (g x d s).bind fun s1 => (if zaay x.expr then E x.expr 1 s1 else some s1).bind fun s2 => (F n x.then_ (d + 1) s2).bind fun s3 => F n x.else_ (d + 1) s3) s =
    l.foldlM (fun s y=>(evS y d).foldlM (atEv g h) s) s:=by
   intro l;induction l with
   |nil=>intro s _; rfl
   |cons y l ihl=>
    intro s hy;have hy1:=hy y (by simp);have hy2:=nS_eq y;rw[List.foldlM_cons,List.foldlM_cons];have e:∀ s,((g y d s).bind fun s1=>(if zaay y.expr then E y.expr 1 s1 else some s1).bind fun s2=>(F n y.then_ (d+1) s2).bind fun s3=>F n y.else_ (d+1) s3)=(evS y d).foldlM (atEv g h) s:=by
     intro s;rw[zazi,List.foldlM_cons];show _=(g y d s).bind _;congr 1;funext s1;rw[List.foldlM_append];have e1:(if zaay y.expr then E y.expr 1 s1 else some s1)=(if zaay y.expr then evE y.expr 1 else []).foldlM (atEv g h) s1:=by
      split
      ·exact hE _ _ (by omega)
      ·rfl
     rw[e1];congr 1;funext s2;rw[List.foldlM_append];rw[ih n y.then_ (d+1) s2 (by omega) (by omega) (by omega) (by omega)];congr 1;funext s3;exact ih n y.else_ (d+1) s3 (by omega) (by omega) (by omega) (by omega)
    rw[e];congr 1;funext s';exact ihl s' (fun z hz=>hy z (by simp[hz]))
  exact this _ _ (fun y hy=>by have:=zas4 hy; omega)
end Lift.A3
namespace Lift.A3
open Go Go.RowKit Lift Go.IntWalk Lift.Fn
set_option linter.unusedVariables false
set_option linter.unusedSimpArgs false
theorem wE : WalksE (fun (x : TExpr) (d : Int) (s : Bool) => qbb x d s) (fun (n : Nat) (x : TExpr) (d : Int) (s : Bool) => qac_i n x d s) where
 step:=by
  intro n x d s hd1 hd2 hl;show qac_f (qac_i n) x d s=_;unfold qac_f;rw[zaaq];congr 1;funext y0
  have hL := zacz (σ := Bool) x.args (fun y s => qac_i n y (d + 1) s) (fun m i s => qac_i3 (qac_i n) m d x.args (x.args.length : Int) i s)
   (fun m i s h0 h=>by simp only[qac_i3,qac_t3,decide_eq_false h,cond_false])
   (fun m i s y h0 h hy=>by
    simp only[qac_i3,qac_t3,decide_eq_true h,decide_eq_true h0,cond_true,hy,Option.bind_some,zaaq];rw[i64_in (i+1) (by omega),i64_in (d+1) (by omega)])
   x.args.length fuel 0 y0 (by omega) (by omega) (by unfold fuel; omega)
  try simp only at hL
  rw[qac_l3,zaaa,hL];simp[zac7]
theorem wEx (x:TExpr) (s:Bool) (hx:nE x≤100000000000000000):qac x 1 s=(evE x 1).foldlM (atEv (fun (x:TStmt) (d:Int) (s:Bool)=>qba x d s) (fun (x:TExpr) (d:Int) (s:Bool)=>qbb x d s)) s:=by
 rw[qac,zaaa];exact zapm (g:=(fun (x:TStmt) (d:Int) (s:Bool)=>qba x d s)) wE (nE x) fuel x 1 s (Nat.le_refl _) (by unfold fuel; omega) (by omega) (by omega)
theorem wS : WalksS (fun (x : TStmt) (d : Int) (s : Bool) => qba x d s) (fun (x : TExpr) (d : Int) (s : Bool) => qac x d s) (fun (n : Nat) (l : List TStmt) (d : Int) (s : Bool) => qai_i n l d s) where
 step:=by
  intro n l d s hd1 hd2 hl;show qai_f (qai_i n) l d s=_;unfold qai_f
  have hL := zacz (σ := Bool) l (fun x s => (qba x d s).bind fun s1 => (if zaay x.expr then qac x.expr 1 s1 else some s1).bind fun s2 => (qai_i n x.then_ (d + 1) s2).bind fun s3 => qai_i n x.else_ (d + 1) s3)
   (fun m i s=>qai_i2 (qai_i n) m d l (l.length:Int) i s)
   (fun m i s h0 h=>by simp only[qai_i2,qai_t2,decide_eq_false h,cond_false])
   (fun m i s y h0 h hy=>by
    have e:(bif TExpr.kind (TStmt.expr y) != (0:Int) then some true else some (decide ((↑(List.length (TExpr.args (TStmt.expr y))):Int)>(0:Int))))=some (zaay y.expr):=by
     unfold zaay;cases (y.expr.kind != 0)
     ·simp
     ·rfl
    simp only[qai_i2,qai_t2,decide_eq_true h,decide_eq_true h0,cond_true,hy,Option.bind_some,zaaq,zama,e];rw[i64_in (i+1) (by omega),i64_in (d+1) (by omega)];cases zaay y.expr<;>simp[Option.bind_assoc])
   l.length fuel 0 s (by omega) (by omega) (by unfold fuel; omega)
  try simp only at hL
  rw[qai_l2,zaaa,hL];simp[zac7]
theorem wSt (l:List TStmt) (s:Bool) (hl:nSs l≤10000000000000000):qai l 1 s=(evSs l 1).foldlM (atEv (fun (x:TStmt) (d:Int) (s:Bool)=>qba x d s) (fun (x:TExpr) (d:Int) (s:Bool)=>qbb x d s)) s:=by
 rw[qai,zaaa];exact zaps (g:=(fun (x:TStmt) (d:Int) (s:Bool)=>qba x d s)) (h:=(fun (x:TExpr) (d:Int) (s:Bool)=>qbb x d s)) (fun x s hx=>wEx x s hx) wS (nSs l) fuel l 1 s (Nat.le_refl _) (by unfold fuel; omega) (by omega) (by omega)
theorem wP (p:TProg) (s:Bool) (hl:nT p.threads≤10000000000000000):qaf p s=(evP p).foldlM (atEv (fun (x:TStmt) (d:Int) (s:Bool)=>qba x d s) (fun (x:TExpr) (d:Int) (s:Bool)=>qbb x d s)) s:=by
 rw[qaf,zaaa];unfold qaf_f;have hn:=zako p.threads
 have hL := zacz (σ := Bool) p.threads (fun t s => qai t.body 1 s) (fun m i s => qaf_i2 m p.threads (p.threads.length : Int) i s)
  (fun m i s h0 h=>by simp only[qaf_i2,qaf_t2,decide_eq_false h,cond_false])
  (fun m i s y h0 h hy=>by
   simp only[qaf_i2,qaf_t2,decide_eq_true h,decide_eq_true h0,cond_true,hy,Option.bind_some];rw[i64_in (i+1) (by omega)])
  p.threads.length fuel 0 s (by omega) (by omega) (by unfold fuel; omega)
 try simp only at hL
 rw[qaf_l2,zaaa,hL];unfold evP;rw[zady];have:∀ (l:List TThread) (s:Bool),(∀ t∈l,nSs t.body≤10000000000000000)→l.foldlM (fun s t=>qai t.body 1 s) s=l.foldlM (fun s t=>(evSs t.body 1).foldlM (atEv (fun (x:TStmt) (d:Int) (s:Bool)=>qba x d s) (fun (x:TExpr) (d:Int) (s:Bool)=>qbb x d s)) s) s:=by
  intro l;induction l with
  |nil=>intro s _; rfl
  |cons t l ih=>
   intro s ht;rw[List.foldlM_cons,List.foldlM_cons,wSt t.body s (ht t (by simp))];congr 1;funext s';exact ih s' (fun z hz=>ht z (by simp[hz]))
 rw[Int.toNat_zero,List.drop_zero,this _ _ (fun t ht=>by have:=zamf ht; omega)];simp[zac7]
theorem wE_1 : WalksE (fun (x : TExpr) (d : Int) (s : Int) => qa6 x d s) (fun (n : Nat) (x : TExpr) (d : Int) (s : Int) => qaa_i n x d s) where
 step:=by
  intro n x d s hd1 hd2 hl;show qaa_f (qaa_i n) x d s=_;unfold qaa_f;rw[zaaq];congr 1;funext y0
  have hL := zacz (σ := Int) x.args (fun y s => qaa_i n y (d + 1) s) (fun m i s => qaa_i3 (qaa_i n) m d x.args (x.args.length : Int) i s)
   (fun m i s h0 h=>by simp only[qaa_i3,qaa_t3,decide_eq_false h,cond_false])
   (fun m i s y h0 h hy=>by
    simp only[qaa_i3,qaa_t3,decide_eq_true h,decide_eq_true h0,cond_true,hy,Option.bind_some,zaaq];rw[i64_in (i+1) (by omega),i64_in (d+1) (by omega)])
   x.args.length fuel 0 y0 (by omega) (by omega) (by unfold fuel; omega)
  try simp only at hL
  rw[qaa_l3,zaaa,hL];simp[zac7]
theorem wEx_1 (x:TExpr) (s:Int) (hx:nE x≤100000000000000000):qaa x 1 s=(evE x 1).foldlM (atEv (fun (x:TStmt) (d:Int) (s:Int)=>qa5 x d s) (fun (x:TExpr) (d:Int) (s:Int)=>qa6 x d s)) s:=by
 rw[qaa,zaaa];exact zapm (g:=(fun (x:TStmt) (d:Int) (s:Int)=>qa5 x d s)) wE_1 (nE x) fuel x 1 s (Nat.le_refl _) (by unfold fuel; omega) (by omega) (by omega)
theorem wS_1 : WalksS (fun (x : TStmt) (d : Int) (s : Int) => qa5 x d s) (fun (x : TExpr) (d : Int) (s : Int) => qaa x d s) (fun (n : Nat) (l : List TStmt) (d : Int) (s : Int) => qag_i n l d s) where
 step:=by
  intro n l d s hd1 hd2 hl;show qag_f (qag_i n) l d s=_;unfold qag_f
  have hL := zacz (σ := Int) l (fun x s => (qa5 x d s).bind fun s1 => (if zaay x.expr then qaa x.expr 1 s1 else some s1).bind fun s2 => (qag_i n x.then_ (d + 1) s2).bind fun s3 => qag_i n x.else_ (d + 1) s3)
   (fun m i s=>qag_i2 (qag_i n) m d l (l.length:Int) i s)
   (fun m i s h0 h=>by simp only[qag_i2,qag_t2,decide_eq_false h,cond_false])
   (fun m i s y h0 h hy=>by
    have e:(bif TExpr.kind (TStmt.expr y) != (0:Int) then some true else some (decide ((↑(List.length (TExpr.args (TStmt.expr y))):Int)>(0:Int))))=some (zaay y.expr):=by
     unfold zaay;cases (y.expr.kind != 0)
     ·simp
     ·rfl
    simp only[qag_i2,qag_t2,decide_eq_true h,decide_eq_true h0,cond_true,hy,Option.bind_some,zaaq,zama,e];rw[i64_in (i+1) (by omega),i64_in (d+1) (by omega)];cases zaay y.expr<;>simp[Option.bind_assoc])
   l.length fuel 0 s (by omega) (by omega) (by unfold fuel; omega)
  try simp only at hL
  rw[qag_l2,zaaa,hL];simp[zac7]
theorem wSt_1 (l:List TStmt) (s:Int) (hl:nSs l≤10000000000000000):qag l 1 s=(evSs l 1).foldlM (atEv (fun (x:TStmt) (d:Int) (s:Int)=>qa5 x d s) (fun (x:TExpr) (d:Int) (s:Int)=>qa6 x d s)) s:=by
 rw[qag,zaaa];exact zaps (g:=(fun (x:TStmt) (d:Int) (s:Int)=>qa5 x d s)) (h:=(fun (x:TExpr) (d:Int) (s:Int)=>qa6 x d s)) (fun x s hx=>wEx_1 x s hx) wS_1 (nSs l) fuel l 1 s (Nat.le_refl _) (by unfold fuel; omega) (by omega) (by omega)
theorem wP_1 (p:TProg) (s:Int) (hl:nT p.threads≤10000000000000000):qad p s=(evP p).foldlM (atEv (fun (x:TStmt) (d:Int) (s:Int)=>qa5 x d s) (fun (x:TExpr) (d:Int) (s:Int)=>qa6 x d s)) s:=by
 rw[qad,zaaa];unfold qad_f;have hn:=zako p.threads
 have hL := zacz (σ := Int) p.threads (fun t s => qag t.body 1 s) (fun m i s => qad_i2 m p.threads (p.threads.length : Int) i s)
  (fun m i s h0 h=>by simp only[qad_i2,qad_t2,decide_eq_false h,cond_false])
  (fun m i s y h0 h hy=>by
   simp only[qad_i2,qad_t2,decide_eq_true h,decide_eq_true h0,cond_true,hy,Option.bind_some];rw[i64_in (i+1) (by omega)])
  p.threads.length fuel 0 s (by omega) (by omega) (by unfold fuel; omega)
 try simp only at hL
 rw[qad_l2,zaaa,hL];unfold evP;rw[zady];have:∀ (l:List TThread) (s:Int),(∀ t∈l,nSs t.body≤10000000000000000)→l.foldlM (fun s t=>qag t.body 1 s) s=l.foldlM (fun s t=>(evSs t.body 1).foldlM (atEv (fun (x:TStmt) (d:Int) (s:Int)=>qa5 x d s) (fun (x:TExpr) (d:Int) (s:Int)=>qa6 x d s)) s) s:=by
  intro l;induction l with
  |nil=>intro s _; rfl
  |cons t l ih=>
   intro s ht;rw[List.foldlM_cons,List.foldlM_cons,wSt_1 t.body s (ht t (by simp))];congr 1;funext s';exact ih s' (fun z hz=>ht z (by simp[hz]))
 rw[Int.toNat_zero,List.drop_zero,this _ _ (fun t ht=>by have:=zamf ht; omega)];simp[zac7]
theorem wE_2 : WalksE (fun (x : TExpr) (d : Int) (s : Int) => qa3 x d s) (fun (n : Nat) (x : TExpr) (d : Int) (s : Int) => qab_i n x d s) where
 step:=by
  intro n x d s hd1 hd2 hl;show qab_f (qab_i n) x d s=_;unfold qab_f;rw[zaaq];congr 1;funext y0
  have hL := zacz (σ := Int) x.args (fun y s => qab_i n y (d + 1) s) (fun m i s => qab_i3 (qab_i n) m d x.args (x.args.length : Int) i s)
   (fun m i s h0 h=>by simp only[qab_i3,qab_t3,decide_eq_false h,cond_false])
   (fun m i s y h0 h hy=>by
    simp only[qab_i3,qab_t3,decide_eq_true h,decide_eq_true h0,cond_true,hy,Option.bind_some,zaaq];rw[i64_in (i+1) (by omega),i64_in (d+1) (by omega)])
   x.args.length fuel 0 y0 (by omega) (by omega) (by unfold fuel; omega)
  try simp only at hL
  rw[qab_l3,zaaa,hL];simp[zac7]
theorem wEx_2 (x:TExpr) (s:Int) (hx:nE x≤100000000000000000):qab x 1 s=(evE x 1).foldlM (atEv (fun (x:TStmt) (d:Int) (s:Int)=>qa2 x d s) (fun (x:TExpr) (d:Int) (s:Int)=>qa3 x d s)) s:=by
 rw[qab,zaaa];exact zapm (g:=(fun (x:TStmt) (d:Int) (s:Int)=>qa2 x d s)) wE_2 (nE x) fuel x 1 s (Nat.le_refl _) (by unfold fuel; omega) (by omega) (by omega)
theorem wS_2 : WalksS (fun (x : TStmt) (d : Int) (s : Int) => qa2 x d s) (fun (x : TExpr) (d : Int) (s : Int) => qab x d s) (fun (n : Nat) (l : List TStmt) (d : Int) (s : Int) => qah_i n l d s) where
 step:=by
  intro n l d s hd1 hd2 hl;show qah_f (qah_i n) l d s=_;unfold qah_f
  have hL := zacz (σ := Int) l (fun x s => (qa2 x d s).bind fun s1 => (if zaay x.expr then qab x.expr 1 s1 else some s1).bind fun s2 => (qah_i n x.then_ (d + 1) s2).bind fun s3 => qah_i n x.else_ (d + 1) s3)
   (fun m i s=>qah_i2 (qah_i n) m d l (l.length:Int) i s)
   (fun m i s h0 h=>by simp only[qah_i2,qah_t2,decide_eq_false h,cond_false])
   (fun m i s y h0 h hy=>by
    have e:(bif TExpr.kind (TStmt.expr y) != (0:Int) then some true else some (decide ((↑(List.length (TExpr.args (TStmt.expr y))):Int)>(0:Int))))=some (zaay y.expr):=by
     unfold zaay;cases (y.expr.kind != 0)
     ·simp
     ·rfl
    simp only[qah_i2,qah_t2,decide_eq_true h,decide_eq_true h0,cond_true,hy,Option.bind_some,zaaq,zama,e];rw[i64_in (i+1) (by omega),i64_in (d+1) (by omega)];cases zaay y.expr<;>simp[Option.bind_assoc])
   l.length fuel 0 s (by omega) (by omega) (by unfold fuel; omega)
  try simp only at hL
  rw[qah_l2,zaaa,hL];simp[zac7]
theorem wSt_2 (l:List TStmt) (s:Int) (hl:nSs l≤10000000000000000):qah l 1 s=(evSs l 1).foldlM (atEv (fun (x:TStmt) (d:Int) (s:Int)=>qa2 x d s) (fun (x:TExpr) (d:Int) (s:Int)=>qa3 x d s)) s:=by
 rw[qah,zaaa];exact zaps (g:=(fun (x:TStmt) (d:Int) (s:Int)=>qa2 x d s)) (h:=(fun (x:TExpr) (d:Int) (s:Int)=>qa3 x d s)) (fun x s hx=>wEx_2 x s hx) wS_2 (nSs l) fuel l 1 s (Nat.le_refl _) (by unfold fuel; omega) (by omega) (by omega)
theorem wP_2 (p:TProg) (s:Int) (hl:nT p.threads≤10000000000000000):qae p s=(evP p).foldlM (atEv (fun (x:TStmt) (d:Int) (s:Int)=>qa2 x d s) (fun (x:TExpr) (d:Int) (s:Int)=>qa3 x d s)) s:=by
 rw[qae,zaaa];unfold qae_f;have hn:=zako p.threads
 have hL := zacz (σ := Int) p.threads (fun t s => qah t.body 1 s) (fun m i s => qae_i2 m p.threads (p.threads.length : Int) i s)
  (fun m i s h0 h=>by simp only[qae_i2,qae_t2,decide_eq_false h,cond_false])
  (fun m i s y h0 h hy=>by
   simp only[qae_i2,qae_t2,decide_eq_true h,decide_eq_true h0,cond_true,hy,Option.bind_some];rw[i64_in (i+1) (by omega)])
  p.threads.length fuel 0 s (by omega) (by omega) (by unfold fuel; omega)
 try simp only at hL
 rw[qae_l2,zaaa,hL];unfold evP;rw[zady];have:∀ (l:List TThread) (s:Int),(∀ t∈l,nSs t.body≤10000000000000000)→l.foldlM (fun s t=>qah t.body 1 s) s=l.foldlM (fun s t=>(evSs t.body 1).foldlM (atEv (fun (x:TStmt) (d:Int) (s:Int)=>qa2 x d s) (fun (x:TExpr) (d:Int) (s:Int)=>qa3 x d s)) s) s:=by
  intro l;induction l with
  |nil=>intro s _; rfl
  |cons t l ih=>
   intro s ht;rw[List.foldlM_cons,List.foldlM_cons,wSt_2 t.body s (ht t (by simp))];congr 1;funext s';exact ih s' (fun z hz=>ht z (by simp[hz]))
 rw[Int.toNat_zero,List.drop_zero,this _ _ (fun t ht=>by have:=zamf ht; omega)];simp[zac7]
end Lift.A3
namespace Lift.A3
open Go Go.RowKit Lift Go.IntWalk Lift.Fn
set_option linter.unusedVariables false
set_option linter.unusedSimpArgs false
theorem zayz {α σ ρ:Type} (l:List α) (I:List α→σ→Prop) (P:List α→σ→ρ) (L:Nat→Int→σ→Option ρ)
  (h0:∀ n i s,0≤i→¬ i<(l.length:Int)→I [] s→L (n+1) i s=some (P [] s))
  (h1:∀ n i s x r,0≤i→i<(l.length:Int)→l[i.toNat]? = some x→x∈l→I (x::r) s→(∃ s',I r s'∧L (n+1) i s=L n (i+1) s'∧P (x::r) s=P r s')∨L (n+1) i s=some (P (x::r) s)) :
  ∀ (k n:Nat) (i:Int) (s:σ),0≤i→l.length-i.toNat≤k→k<n→I (l.drop i.toNat) s→L n i s=some (P (l.drop i.toNat) s):=by
 intro k;induction k with
 |zero=>
  intro n i s hi hk hn hI;obtain ⟨n,rfl⟩:∃ q,n=q+1:=⟨n-1,by omega⟩;rw[List.drop_eq_nil_of_le (by omega)] at hI ⊢;exact h0 n i s hi (by omega) hI
 |succ k ih=>
  intro n i s hi hk hn hI;obtain ⟨n,rfl⟩:∃ q,n=q+1:=⟨n-1,by omega⟩;by_cases c:i<(l.length:Int)
  ·have hlt:i.toNat<l.length:=by omega
   rw[List.drop_eq_getElem_cons hlt] at hI ⊢;rcases h1 n i s l[i.toNat] _ hi c (List.getElem?_eq_getElem hlt) (List.getElem_mem hlt) hI with ⟨s',i1,e1,e2⟩|e
   ·have e:(i+1).toNat=i.toNat+1:=by omega
    rw[e1,ih n (i+1) s' (by omega) (by omega) (by omega) (by rw[e]; exact i1),e2,e]
   ·exact e
  ·rw[List.drop_eq_nil_of_le (by omega)] at hI ⊢;exact h0 n i s hi c hI
theorem zan3 {α σ ρ:Type} (l:List α) (I:List α→σ→Prop) (P:List α→σ→ρ) (L:Nat→Int→σ→Option ρ)
  (h0:∀ n i s,0≤i→¬ i<(l.length:Int)→I [] s→L (n+1) i s=some (P [] s))
  (h1:∀ n i s x r,0≤i→i<(l.length:Int)→l[i.toNat]? = some x→x∈l→I (x::r) s→(∃ s',I r s'∧L (n+1) i s=L n (i+1) s'∧P (x::r) s=P r s')∨L (n+1) i s=some (P (x::r) s))
  (n:Nat) (s:σ) (hn:l.length<n) (hI:I l s):L n 0 s=some (P l s):=by
 have:=zayz l I P L h0 h1 l.length n 0 s (by omega) (by omega) hn;rw[Int.toNat_zero,List.drop_zero] at this;exact this hI
mutual
theorem lenE:∀ (x:TExpr) (d:Int),(evE x d).length=nE x
 |⟨k,n,m,l⟩,d=>by simp[evE,nE,lenEs l (d+1)]; omega
theorem lenEs:∀ (l:List TExpr) (d:Int),(evEs l d).length=nEs l
 |[],d=>by simp[evEs,nEs]
 |x::l,d=>by simp[evEs,nEs,lenE x d,lenEs l d]
end
mutual
def cS:TStmt→Nat
 |⟨_,_,_,x,_,t,o⟩=>1+(if zaay x then nE x else 0)+cSs t+cSs o
def cSs:List TStmt→Nat
 |[]=>0
 |x::l=>cS x+cSs l
end
def cT:List TThread→Nat
 |[]=>0
 |t::l=>cSs t.body+cT l
mutual
theorem lenS:∀ (x:TStmt) (d:Int),(evS x d).length=cS x
 |⟨k,r,m,x,c,t,o⟩,d=>by
  have h1:=lenSs t (d+1);have h2:=lenSs o (d+1);have h3:=lenE x 1;simp only[evS,cS,List.length_cons,List.length_append,h1,h2];split<;>simp[h3]<;>omega
theorem lenSs:∀ (l:List TStmt) (d:Int),(evSs l d).length=cSs l
 |[],d=>by simp[evSs,cSs]
 |x::l,d=>by simp[evSs,cSs,lenS x d,lenSs l d]
end
mutual
theorem cS_le:∀ x:TStmt,cS x≤nS x
 |⟨k,r,m,x,c,t,o⟩=>by
  have h1:=zamn t;have h2:=zamn o;simp only[cS,nS];split<;>omega
theorem zamn:∀ l:List TStmt,cSs l≤nSs l
 |[]=>by simp[cSs]
 |x::l=>by have:=cS_le x; have:=zamn l; simp only[cSs,nSs]; omega
end
theorem cT_le:∀ l:List TThread,cT l≤nT l
 |[]=>by simp[cT]
 |x::l=>by have:=zamn x.body; have:=cT_le l; simp only[cT,nT]; omega
theorem lenP : ∀ (l : List TThread), (l.flatMap fun t => evSs t.body 1).length = cT l
 |[]=>rfl
 |t::l=>by simp only[List.flatMap_cons,List.length_append,lenSs,lenP l,cT]
theorem zamg:∀ (l:List Ev) (s:Int),0≤s→s+l.length≤1000000000000000000 →
  l.foldlM (atEv (fun (x:TStmt) (d:Int) (s:Int)=>qa2 x d s) (fun (x:TExpr) (d:Int) (s:Int)=>qa3 x d s)) s=some (s+l.length)
 |[],s,_,_=>by simp
 |e::l,s,h0,h=>by
  simp only[List.length_cons] at h;have e1:atEv (fun (x:TStmt) (d:Int) (s:Int)=>qa2 x d s) (fun (x:TExpr) (d:Int) (s:Int)=>qa3 x d s) s e=some (s+1):=by
   cases e with
   |s x d=>show qa2 x d s=_; rw[qa2,zaaa]; unfold qa2_f; rw[i64_in (s+1) (by omega)]
   |e x d=>show qa3 x d s=_; rw[qa3,zaaa]; unfold qa3_f; rw[i64_in (s+1) (by omega)]
  rw[List.foldlM_cons,e1];show List.foldlM _ (s+1) l=_;rw[zamg l (s+1) (by omega) (by omega),List.length_cons];congr 1;omega
theorem zaow (p:TProg) (h:nT p.threads≤10000000000000000):qa1 p=some (cT p.threads:Int):=by
 rw[qa1,zaaa];unfold qa1_f;have hc:=cT_le p.threads;have hl:=lenP p.threads;rw[zagx,wP_2 p 0 h,zamg _ 0 (by omega) (by unfold evP; rw[hl]; omega),Option.bind_some];unfold evP;rw[hl];simp
def evD:Ev→Int
 |.s _ d=>d
 |.e _ d=>d
def maxEv (l:List Ev) (s:Int):Int:=l.foldl (fun s e=>max s (evD e)) s
theorem zasm (a b:Int):(if a>b then a else b)=max b a:=by
 rw[Int.max_def];split<;>split<;>omega
theorem zao3 : ∀ (l : List Ev) (s : Int), l.foldlM (atEv (fun (x : TStmt) (d : Int) (s : Int) => qa5 x d s) (fun (x : TExpr) (d : Int) (s : Int) => qa6 x d s)) s = some (maxEv l s)
 |[],s=>rfl
 |e::l,s=>by
  have e1:atEv (fun (x:TStmt) (d:Int) (s:Int)=>qa5 x d s) (fun (x:TExpr) (d:Int) (s:Int)=>qa6 x d s) s e=some (max s (evD e)):=by
   cases e with
   |s x d=>show qa5 x d s=_; rw[qa5,zaaa]; unfold qa5_f; rw[zasm]; rfl
   |e x d=>show qa6 x d s=_; rw[qa6,zaaa]; unfold qa6_f; rw[zasm]; rfl
  rw[List.foldlM_cons,e1];exact zao3 l _
theorem zaqc (p:TProg) (h:nT p.threads≤10000000000000000):qa4 p=some (maxEv (evP p) 0):=by
 rw[qa4,zaaa];unfold qa4_f;rw[zagx,wP_1 p 0 h,zao3];rfl
end Lift.A3
namespace Lift.A3
open Go Go.RowKit Lift Go.IntWalk Lift.Fn
set_option linter.unusedVariables false
set_option linter.unusedSimpArgs false
end Lift.A3
namespace Lift.A3
open Go Go.RowKit Lift Go.IntWalk Lift.Fn
set_option linter.unusedVariables false
set_option linter.unusedSimpArgs false
def two {α:Type} (f:α→α→Bool):List α→List α→Bool
 |[],[]=>true
 |x::l,y::r=>f x y&&two f l r
 |_,_=>false
mutual
def sE:TExpr→TExpr→Bool
 |⟨k,n,m,l⟩,⟨k',n',m',l'⟩=>k==k'&&(n==n'&&(m==m'&&sEs l l'))
def sEs:List TExpr→List TExpr→Bool
 |[],[]=>true
 |x::l,y::r=>sE x y&&sEs l r
 |_,_=>false
end
mutual
def sS:TStmt→TStmt→Bool
 |⟨k,r,m,x,c,t,o⟩,⟨k',r',m',x',c',t',o'⟩=>k==k'&&(r==r'&&(m==m'&&(c==c'&&(sE x x'&&(sSs t t'&&sSs o o')))))
def sSs:List TStmt→List TStmt→Bool
 |[],[]=>true
 |x::l,y::r=>sS x y&&sSs l r
 |_,_=>false
end
def sT (x y:TThread):Bool:=x.name==y.name&&two sS x.body y.body
end Lift.A3
namespace Lift.A3
open Go Go.RowKit Lift Go.IntWalk Lift.Fn
set_option linter.unusedVariables false
set_option linter.unusedSimpArgs false
end Lift.A3
namespace Lift.A1P
open Go Go.RowKit Lift Go.IntWalk
namespace Sp
def isRune (r:Int):Bool:=decide (0≤r∧r≤1114111∧(r<55296∨r>57343))
def letter (r:Int):Bool:=isRune r&&decide ((65≤r∧r≤90)∨r=95∨(97≤r∧r≤122)∨192≤r)
def digit (r:Int):Bool:=decide (48≤r∧r≤57)
def blank (r:Int):Bool:=decide (r=9∨r=10∨r=13∨r=32)
def long (r:Int):Int:=if r<128 then 1 else if r<2048 then 2 else if r<65536 then 3 else 4
def enc (r:Int):List Int:=
 if r<128 then [r] else if r<2048 then [192+r / 64,128+r % 64] else if r<65536 then [224+r / 4096,128+r / 64 % 64,128+r % 64]
 else [240+r / 262144,128+r / 4096 % 64,128+r / 64 % 64,128+r % 64]
def dc (t:List UInt8) (p:Nat):Nat×Nat:=Utf8.decode ⟨t.toArray⟩ p
def bad (t:List UInt8) (p:Nat):Bool:=decide ((dc t p).1=65533)&&!(((t.take (min t.length (p+3))).drop p)==[239,191,189])
def at1 (t:List UInt8) (p:Int):Int:=if bad t p.toNat then 0 else ((dc t p.toNat).1:Int)
def at2 (t:List UInt8) (p:Int):Int:=if bad t p.toNat then 0 else ((dc t p.toNat).2:Int)
def on (s:Spot) (r n:Int):Spot:=if r=10 then ⟨s.rune,s.at_+n,s.line+1,1⟩ else ⟨s.rune,s.at_+n,s.line,s.col+1⟩
def spotsFrom (t:List UInt8):Nat→List Spot→Spot→List Spot×Spot
 |0,acc,s=>(acc,s)
 | n + 1, acc, s => if s.at_ < t.length then (if bad t s.at_.toNat then (acc, s) else
   spotsFrom t n (acc++[⟨at1 t s.at_,s.at_,s.line,s.col⟩]) (on ⟨at1 t s.at_,s.at_,s.line,s.col⟩ (at1 t s.at_) (at2 t s.at_))) else (acc,s)
def ended (s:Spot):Spot:=⟨-1,s.at_,s.line,s.col⟩
def spots1 (t:List UInt8):List Spot:=(spotsFrom t t.length [] ⟨0,0,1,1⟩).1
def spots2 (t:List UInt8):Spot:=ended (spotsFrom t t.length [] ⟨0,0,1,1⟩).2
def runes1 (t:List UInt8):List Spot:=if 4000<t.length then [] else if (spots2 t).at_<t.length then [] else spots1 t
def runes2 (t:List UInt8):Fault:=if 4000<t.length then ⟨10,4000,[]⟩ else if (spots2 t).at_<t.length then ⟨11,(spots2 t).at_,[]⟩ else ⟨0,0,[]⟩
def same (a b:List Spot):Bool:=decide (a=b)
end Sp
namespace Sp
def by_ (l:List UInt8) (k:Nat):Nat:=(l.getD k 0).toNat
def ct (l:List UInt8) (k:Nat):Bool:=decide (k<l.length)&&(by_ l k / 64==2)
def dl (l:List UInt8):Nat×Nat:=
 if by_ l 0<0x80 then (by_ l 0,1)
 else if by_ l 0 / 32 == 6 && ct l 1 then
  if (by_ l 0 % 32)*64+by_ l 1 % 64≥0x80 then ((by_ l 0 % 32)*64+by_ l 1 % 64,2) else (65533,1)
 else if by_ l 0 / 16 == 14 && ct l 1 && ct l 2 then
  if (by_ l 0 % 16)*4096+(by_ l 1 % 64)*64+by_ l 2 % 64≥0x800&&Utf8.valid (((by_ l 0 % 16)*4096+(by_ l 1 % 64)*64+by_ l 2 % 64:Nat):Int) then ((by_ l 0 % 16)*4096+(by_ l 1 % 64)*64+by_ l 2 % 64,3) else (65533,1)
 else if by_ l 0 / 8 == 30 && ct l 1 && ct l 2 && ct l 3 then
  if (by_ l 0 % 8)*262144+(by_ l 1 % 64)*4096+(by_ l 2 % 64)*64+by_ l 3 % 64≥0x10000&&Utf8.valid (((by_ l 0 % 8)*262144+(by_ l 1 % 64)*4096+(by_ l 2 % 64)*64+by_ l 3 % 64:Nat):Int) then ((by_ l 0 % 8)*262144+(by_ l 1 % 64)*4096+(by_ l 2 % 64)*64+by_ l 3 % 64,4) else (65533,1)
 else (65533,1)
def badl (l:List UInt8):Bool:=decide ((dl l).1=65533)&&!(l.take 3==[239,191,189])
theorem zaxu (t:List UInt8) (q k:Nat):by_ (t.drop q) k=(t.getD (q+k) 0).toNat:=by
 simp[by_,List.getD_eq_getElem?_getD]
theorem dc_eq (t:List UInt8) (q:Nat):dc t q=dl (t.drop q):=by
 have hb:∀ k,((⟨t.toArray⟩:ByteArray).get! (q+k)).toNat=by_ (t.drop q) k:=by
  intro k;rw[zaxu];simp[ByteArray.get!,List.getD_eq_getElem?_getD,getElem!_def];cases t[q+k]?<;>rfl
 have hs:(⟨t.toArray⟩:ByteArray).size=t.length:=by simp[ByteArray.size]
 have hc:∀ k,(decide (q+k<t.length)&&((by_ (t.drop q) k) / 64==2))=ct (t.drop q) k:=by
  intro k;unfold ct;have:(q+k<t.length)↔(k<(t.drop q).length):=by simp; omega
  simp only[this]
 unfold dc Utf8.decode;simp only[hb,hs,hc];unfold dl;rfl
theorem bad_eq (t:List UInt8) (q:Nat):bad t q=badl (t.drop q):=by
 unfold bad badl;rw[dc_eq];congr 2;have:(t.take (min t.length (q+3))).drop q=(t.drop q).take 3:=by
  have h1:t.take (min t.length (q+3))=t.take (q+3):=by
   rcases Nat.le_total t.length (q+3) with h|h
   ·rw[Nat.min_eq_left h,List.take_of_length_le h,List.take_of_length_le (Nat.le_refl _)]
   ·rw[Nat.min_eq_right h]
  rw[h1,List.drop_take];simp
 rw[this]
end Sp
namespace Sp
theorem take3 (l:List UInt8):(l.take 3==[239,191,189])=decide (3≤l.length∧by_ l 0=239∧by_ l 1=191∧by_ l 2=189):=by
 have e:∀ (a b:UInt8),(a==b)=decide (a.toNat=b.toNat):=fun a b=>by
  rw[Bool.eq_iff_iff]; simp[UInt8.toNat_inj]
 match l with
 |[]=>simp[by_]
 |[a]=>simp[by_]
 |[a,b]=>simp[by_]
 |a::b::c::r=>
  have:List.take 3 (a::b::c::r)=[a,b,c]:=rfl;rw[this];rw[Bool.eq_iff_iff];simp[by_,← UInt8.toNat_inj]
end Sp
def ansA (n b0 b1 b2 b3:Nat):Int×Int:=
 let ok (r:Int) (k:Int):Int×Int:=if (0≤r∧r≤1114111∧(r<55296∨r>57343))∧Sp.long r=k then (r,k) else (0,0)
 if 240≤b0 then (if n<4 then (0,0) else if b1<128∨191<b1 then (0,0) else if b2<128∨191<b2 then (0,0) else if b3<128∨191<b3 then (0,0) else ok (64*(64*(64*(b0-240)+b1-128)+b2-128)+b3-128) 4)
 else if 224≤b0 then (if n<3 then (0,0) else if b1<128∨191<b1 then (0,0) else if b2<128∨191<b2 then (0,0) else ok (64*(64*(b0-224)+b1-128)+b2-128) 3)
 else if 192≤b0 then (if n<2 then (0,0) else if b1<128∨191<b1 then (0,0) else ok (64*(b0-192)+b1-128) 2)
 else if 128≤b0 then (0,0) else (b0,1)
theorem zah5 (r:Int):Utf8.valid r=true↔(0≤r∧r<55296)∨(57344≤r∧r≤1114111):=by
 unfold Utf8.valid;simp only[Bool.or_eq_true,Bool.and_eq_true,decide_eq_true_eq]
theorem zau9 (l:List UInt8) (hl:0<l.length):ansA l.length (Sp.by_ l 0) (Sp.by_ l 1) (Sp.by_ l 2) (Sp.by_ l 3)=if Sp.badl l then (0,0) else (((Sp.dl l).1:Int),((Sp.dl l).2:Int)):=by
 have hb:∀ k,Sp.by_ l k<256:=fun k=>(l.getD k 0).toNat_lt
 have h0:=hb 0;have h1:=hb 1;have h2:=hb 2;have h3:=hb 3;unfold Sp.badl;rw[Sp.take3];obtain ⟨D,hD⟩:∃ D,D=Sp.dl l:=⟨_,rfl⟩;rw[← hD];unfold Sp.dl Sp.ct at hD;generalize Sp.by_ l 0=b0 at *;generalize Sp.by_ l 1=b1 at *;generalize Sp.by_ l 2=b2 at *;generalize Sp.by_ l 3=b3 at *;generalize l.length=n at *;clear hb;have small:∀ r:Int,r<128→Sp.long r=1:=fun r h=>by unfold Sp.long; rw[if_pos h]
 have two:∀ r:Int,128≤r→r<2048→Sp.long r=2:=fun r h h'=>by unfold Sp.long; rw[if_neg (by omega),if_pos h']
 have three:∀ r:Int,2048≤r→r<65536→Sp.long r=3:=fun r h h'=>by unfold Sp.long; rw[if_neg (by omega),if_neg (by omega),if_pos h']
 have four:∀ r:Int,65536≤r→Sp.long r=4:=fun r h=>by unfold Sp.long; rw[if_neg (by omega),if_neg (by omega),if_neg (by omega)]
 simp only[Bool.and_eq_true,decide_eq_true_eq,beq_iff_eq,zah5,ge_iff_le] at hD;simp only[Bool.and_eq_true,decide_eq_true_eq,Bool.not_eq_true',decide_eq_false_iff_not];have good:∀ (r k:Nat),D=(r,k)→¬ (r=65533∧¬ (3≤n∧b0=239∧b1=191∧b2=189))→(if D.1=65533∧¬ (3≤n∧b0=239∧b1=191∧b2=189) then ((0:Int),(0:Int)) else (↑D.1,↑D.2))=((r:Int),(k:Int)):=by
  intro r k h1 h2;rw[h1];exact if_neg h2
 have badd:D=(65533,1)→¬ (3≤n∧b0=239∧b1=191∧b2=189)→(if D.1=65533∧¬ (3≤n∧b0=239∧b1=191∧b2=189) then ((0:Int),(0:Int)) else (↑D.1,↑D.2))=(0,0):=by
  intro h1 h2;rw[h1];exact if_pos ⟨rfl,h2⟩
 unfold ansA;by_cases k0:b0<128
 ·rw[if_neg (by omega),if_neg (by omega),if_neg (by omega),if_neg (by omega)];rw[if_pos k0] at hD;rw[good _ _ hD (by omega)];rfl
 rw[if_neg k0] at hD;by_cases k1:b0<192
 ·rw[if_neg (by omega),if_neg (by omega),if_neg (by omega),if_pos (by omega)];rw[if_neg (by omega),if_neg (by omega),if_neg (by omega)] at hD;rw[badd hD (by omega)]
 by_cases k2:b0<224
 ·rw[if_neg (by omega),if_neg (by omega),if_pos (by omega)];by_cases c1:n<2
  ·rw[if_neg (by omega),if_neg (by omega),if_neg (by omega)] at hD;rw[if_pos c1,badd hD (by omega)]
  rw[if_neg c1];by_cases c2:b1<128∨191<b1
  ·rw[if_neg (by omega),if_neg (by omega),if_neg (by omega)] at hD;rw[if_pos c2,badd hD (by omega)]
  rw[if_neg c2];rw[if_pos (by omega)] at hD;by_cases c3:128≤b0 % 32*64+b1 % 64
  ·rw[if_pos c3] at hD;rw[good _ _ hD (by omega)];have:=two (64*((b0:Int)-192)+b1-128) (by omega) (by omega);show (if _ then _ else _)=_;rw[if_pos ⟨by omega,this⟩];simp only[Prod.mk.injEq];omega
  ·rw[if_neg c3] at hD;rw[badd hD (by omega)];show (if _ then _ else _)=_;rw[if_neg];intro hh;have:=small (64*((b0:Int)-192)+b1-128) (by omega);omega
 by_cases k3:b0<240
 ·rw[if_neg (by omega),if_pos (by omega)];by_cases c1:n<3
  ·rw[if_neg (by omega),if_neg (by omega),if_neg (by omega)] at hD;rw[if_pos c1,badd hD (by omega)]
  rw[if_neg c1];by_cases c2:b1<128∨191<b1
  ·rw[if_neg (by omega),if_neg (by omega),if_neg (by omega)] at hD;rw[if_pos c2,badd hD (by omega)]
  rw[if_neg c2];by_cases c3:b2<128∨191<b2
  ·rw[if_neg (by omega),if_neg (by omega),if_neg (by omega)] at hD;rw[if_pos c3,badd hD (by omega)]
  rw[if_neg c3];rw[if_neg (by omega),if_pos (by omega)] at hD;have hv:(64*(64*((b0:Int)-224)+b1-128)+b2-128)=((b0 % 16*4096+b1 % 64*64+b2 % 64:Nat):Int):=by omega
  show (if _ then _ else _)=_;rw[hv];obtain ⟨N,hN⟩:∃ N,N=b0 % 16*4096+b1 % 64*64+b2 % 64:=⟨_,rfl⟩;rw[← hN] at hD ⊢;by_cases c4:2048≤N∧(0≤(N:Int)∧(N:Int)<55296∨57344≤(N:Int)∧(N:Int)≤1114111)
  ·rw[if_pos c4] at hD;have h5:=three (N:Int) (by omega) (by omega);rw[good N 3 hD (by omega),if_pos (And.intro (by omega) h5)];exact Prod.ext rfl rfl
  ·rw[if_neg c4] at hD;rw[badd hD (by omega),if_neg];intro hh;by_cases c5:N<128
   ·have:=small (N:Int) (by omega); omega
   by_cases c6:N<2048
   ·have:=two (N:Int) (by omega) (by omega); omega
   ·omega
 ·rw[if_pos (by omega)];by_cases c1:n<4
  ·rw[if_neg (by omega),if_neg (by omega),if_neg (by omega)] at hD;rw[if_pos c1,badd hD (by omega)]
  rw[if_neg c1];by_cases c2:b1<128∨191<b1
  ·rw[if_neg (by omega),if_neg (by omega),if_neg (by omega)] at hD;rw[if_pos c2,badd hD (by omega)]
  rw[if_neg c2];by_cases c3:b2<128∨191<b2
  ·rw[if_neg (by omega),if_neg (by omega),if_neg (by omega)] at hD;rw[if_pos c3,badd hD (by omega)]
  rw[if_neg c3];by_cases c3':b3<128∨191<b3
  ·rw[if_neg (by omega),if_neg (by omega),if_neg (by omega)] at hD;rw[if_pos c3',badd hD (by omega)]
  rw[if_neg c3'];rw[if_neg (by omega),if_neg (by omega)] at hD;have hv:(64*(64*(64*((b0:Int)-240)+b1-128)+b2-128)+b3-128)=(((b0-240)*262144+(b1-128)*4096+(b2-128)*64+(b3-128):Nat):Int):=by omega
  show (if _ then _ else _)=_;rw[hv];by_cases k4:b0<248
  ·rw[if_pos (by omega)] at hD;have hm:b0 % 8*262144+b1 % 64*4096+b2 % 64*64+b3 % 64=(b0-240)*262144+(b1-128)*4096+(b2-128)*64+(b3-128):=by omega
   rw[hm] at hD;obtain ⟨N,hN⟩:∃ N,N=(b0-240)*262144+(b1-128)*4096+(b2-128)*64+(b3-128):=⟨_,rfl⟩;rw[← hN] at hD ⊢;by_cases c4:65536≤N∧(0≤(N:Int)∧(N:Int)<55296∨57344≤(N:Int)∧(N:Int)≤1114111)
   ·rw[if_pos c4] at hD;have h5:=four (N:Int) (by omega);rw[good N 4 hD (by omega),if_pos (And.intro (by omega) h5)];exact Prod.ext rfl rfl
   ·rw[if_neg c4] at hD;rw[badd hD (by omega),if_neg];intro hh;by_cases c5:N<128
    ·have:=small (N:Int) (by omega); omega
    by_cases c6:N<2048
    ·have:=two (N:Int) (by omega) (by omega); omega
    by_cases c7:N<65536
    ·have:=three (N:Int) (by omega) (by omega); omega
    ·omega
  ·rw[if_neg (by omega)] at hD;rw[badd hD (by omega),if_neg];intro hh;omega
def zahb (t:List UInt8) (s:Spot):Prop:=t.length≤4000∧0≤s.at_∧s.at_≤t.length∧1≤s.line∧s.line≤s.at_+1∧1≤s.col∧s.col≤s.at_+1
noncomputable def zaaz (t:List UInt8) (l:List Spot) (s:Spot):List Spot×Spot:=Sp.spotsFrom t (t.length-s.at_.toNat) l s
namespace Sp
theorem dl_pos (l:List UInt8) (h:0<l.length):1≤(dl l).2∧(dl l).2≤4∧(dl l).2≤l.length:=by
 unfold dl ct;simp only[Bool.and_eq_true,decide_eq_true_eq];repeat' split
 all_goals simp only
 all_goals omega
theorem ansA_ok (n b0 b1 b2 b3:Nat) (h:b0<256):ansA n b0 b1 b2 b3=(0,0)∨(isRune (ansA n b0 b1 b2 b3).1=true∧long (ansA n b0 b1 b2 b3).1=(ansA n b0 b1 b2 b3).2):=by
 unfold ansA;simp only;by_cases a1:240≤b0
 ·rw[if_pos a1];repeat' split
  all_goals first|exact .inl rfl|(rename_i hc; exact .inr ⟨by simpa only[isRune,decide_eq_true_eq] using hc.1,hc.2⟩)
 rw[if_neg a1];by_cases a2:224≤b0
 ·rw[if_pos a2];repeat' split
  all_goals first|exact .inl rfl|(rename_i hc; exact .inr ⟨by simpa only[isRune,decide_eq_true_eq] using hc.1,hc.2⟩)
 rw[if_neg a2];by_cases a3:192≤b0
 ·rw[if_pos a3];repeat' split
  all_goals first|exact .inl rfl|(rename_i hc; exact .inr ⟨by simpa only[isRune,decide_eq_true_eq] using hc.1,hc.2⟩)
 rw[if_neg a3];by_cases a4:128≤b0
 ·rw[if_pos a4]; exact .inl rfl
 rw[if_neg a4];exact .inr ⟨by simp only[isRune,decide_eq_true_eq]; omega,by unfold long; rw[if_pos (by omega)]⟩
theorem good_at {t:List UInt8} {p:Int} (hp:0≤p) (h:p<t.length) (hb:bad t p.toNat=false):isRune (at1 t p)=true∧long (at1 t p)=at2 t p∧1≤at2 t p∧at2 t p≤4∧p+at2 t p≤t.length ∧
  at1 t p=(dc t p.toNat).1∧at2 t p=(dc t p.toNat).2:=by
 have hl:0<(t.drop p.toNat).length:=by simp; omega
 obtain ⟨h1,h2,h3⟩:=dl_pos _ hl;have h4:=zau9 _ hl;rw[← bad_eq,hb,← dc_eq] at h4;rw[← dc_eq] at h1 h2 h3;have hlen:((t.drop p.toNat).length:Int)=t.length-p:=by simp; omega
 unfold at1 at2;rw[hb];simp only[Bool.false_eq_true,if_false] at h4 ⊢;rcases ansA_ok (t.drop p.toNat).length (by_ (t.drop p.toNat) 0) (by_ (t.drop p.toNat) 1) (by_ (t.drop p.toNat) 2) (by_ (t.drop p.toNat) 3) ((t.drop p.toNat).getD 0 0).toNat_lt with h5|⟨h5,h6⟩
 ·rw[h4] at h5;simp only[Prod.mk.injEq] at h5;omega
 ·rw[h4] at h5 h6;exact ⟨h5,h6,by omega,by omega,by omega,by simp⟩
theorem fuel (t:List UInt8):∀ (n m:Nat) (l:List Spot) (s:Spot),0≤s.at_→t.length-s.at_.toNat≤n→t.length-s.at_.toNat≤m→spotsFrom t n l s=spotsFrom t m l s:=by
 intro n;induction n with
 |zero=>
  intro m l s h0 h1 h2;have hc:¬ s.at_<t.length:=by omega
  cases m with
  |zero=>rfl
  |succ m=>simp only[spotsFrom,if_neg hc]
 |succ n ih=>
  intro m l s h0 h1 h2;by_cases hc:s.at_<t.length
  ·cases m with
   |zero=>omega
   |succ m=>
    simp only[spotsFrom,if_pos hc];cases hb:bad t s.at_.toNat with
    |true=>rfl
    |false=>
     simp only[Bool.false_eq_true,if_false];obtain ⟨g1,g2,g3,g4,g5,_⟩:=good_at h0 hc hb;have ha:∀ x:Spot,(on x (at1 t s.at_) (at2 t s.at_)).at_=x.at_+at2 t s.at_:=fun x=>by unfold on; split<;>rfl
     refine ih m _ _ ?_ ?_ ?_<;>rw[ha]<;>simp only<;>omega
  ·cases m with
   |zero=>simp only[spotsFrom,if_neg hc]
   |succ m=>simp only[spotsFrom,if_neg hc]
end Sp
theorem zanb {t:List UInt8} {l:List Spot} {s:Spot} (h:¬ s.at_<t.length):zaaz t l s=(l,s):=by
 unfold zaaz;cases t.length-s.at_.toNat with
 |zero=>rfl
 |succ n=>simp only[Sp.spotsFrom,if_neg h]
theorem zat5 {t:List UInt8} {l:List Spot} {s:Spot} (hb:Sp.bad t s.at_.toNat=true):zaaz t l s=(l,s):=by
 unfold zaaz;cases t.length-s.at_.toNat with
 |zero=>rfl
 |succ n=>simp only[Sp.spotsFrom,hb,if_true]; split<;>rfl
def here (t:List UInt8) (s:Spot):Spot:=⟨Sp.at1 t s.at_,s.at_,s.line,s.col⟩
def after (t:List UInt8) (s:Spot):Spot:=Sp.on (here t s) (Sp.at1 t s.at_) (Sp.at2 t s.at_)
theorem zapu (t:List UInt8) (s:Spot):(after t s).at_=s.at_+Sp.at2 t s.at_:=by
 unfold after Sp.on here;split<;>rfl
theorem zaro {t:List UInt8} {l:List Spot} {s:Spot} (h0:0≤s.at_) (h:s.at_<t.length) (hb:Sp.bad t s.at_.toNat=false):zaaz t l s=zaaz t (l++[here t s]) (after t s):=by
 unfold zaaz;obtain ⟨n,hn⟩:∃ n,t.length-s.at_.toNat=n+1:=⟨t.length-s.at_.toNat-1,by omega⟩;obtain ⟨g1,g2,g3,g4,g5,_⟩:=Sp.good_at h0 h hb;rw[hn];simp only[Sp.spotsFrom,if_pos h,hb,Bool.false_eq_true,if_false];have ha:=zapu t s;exact Sp.fuel t _ _ _ _ (by unfold after here at ha; omega) (by unfold after here at ha; omega) (Nat.le_refl _)
theorem zaq8 {t:List UInt8} {s:Spot} (h:zahb t s) (hlt:s.at_<t.length) (hb:Sp.bad t s.at_.toNat=false):zahb t (after t s):=by
 obtain ⟨h1,h2,h3,h4,h5,h6,h7⟩:=h;obtain ⟨g1,g2,g3,g4,g5,_⟩:=Sp.good_at h2 hlt hb;unfold zahb after Sp.on here;split<;>simp only<;>omega
theorem zau7 (t:List UInt8):∀ (n:Nat) (l:List Spot) (s s':Spot),Sp.ended s=Sp.ended s'→(Sp.spotsFrom t n l s).1=(Sp.spotsFrom t n l s').1∧Sp.ended (Sp.spotsFrom t n l s).2=Sp.ended (Sp.spotsFrom t n l s').2:=by
 intro n l s s' h;obtain ⟨r,a,b,c⟩:=s;obtain ⟨r',a',b',c'⟩:=s';simp only[Sp.ended,Spot.mk.injEq,true_and] at h;obtain ⟨rfl,rfl,rfl⟩:=h;cases n with
 |zero=>exact ⟨rfl,rfl⟩
 |succ n=>
  simp only[Sp.spotsFrom];split
  ·split
   ·exact ⟨rfl,rfl⟩
   ·exact ⟨rfl,rfl⟩
  ·exact ⟨rfl,rfl⟩
theorem zaof (t:List UInt8) (l:List Spot) (r r' a b c:Int):(zaaz t l ⟨r,a,b,c⟩).1=(zaaz t l ⟨r',a,b,c⟩).1∧(zaaz t l ⟨r,a,b,c⟩).2.at_=(zaaz t l ⟨r',a,b,c⟩).2.at_ ∧
  (zaaz t l ⟨r,a,b,c⟩).2.line=(zaaz t l ⟨r',a,b,c⟩).2.line∧(zaaz t l ⟨r,a,b,c⟩).2.col=(zaaz t l ⟨r',a,b,c⟩).2.col:=by
 have:=zau7 t (t.length-a.toNat) l ⟨r,a,b,c⟩ ⟨r',a,b,c⟩ rfl;unfold zaaz;obtain ⟨h1,h2⟩:=this;simp only[Sp.ended,Spot.mk.injEq,true_and] at h2;exact ⟨h1,h2.1,h2.2.1,h2.2.2⟩
end Lift.A1P
namespace Lift.A1P
open Go Go.RowKit Lift Go.IntWalk Lift.Fn
theorem zaj6 {a b:Bool} (h:a=true↔b=true):some a=some b:=by rw[Bool.eq_iff_iff.2 h]
theorem zaug (r:Int):qaK r=some (Sp.digit r):=by
 rw[qaK,zaaa];unfold qaK_f;simp only[cond_eq_ite];split;all_goals refine zaj6 ?_
 all_goals simp only[Sp.digit,decide_eq_true_eq,decide_eq_false_iff_not,Bool.false_eq_true,false_iff,Bool.not_eq_true] at *
 all_goals omega
theorem zay9 (r:Int):qaJ r=some (Sp.blank r):=by
 rw[qaJ,zaaa];unfold qaJ_f;simp only[cond_eq_ite];repeat' split
 all_goals refine zaj6 ?_
 all_goals simp only[Sp.blank,beq_iff_eq,decide_eq_true_eq,decide_eq_false_iff_not,Bool.false_eq_true,false_iff,true_iff,Bool.not_eq_true] at *
 all_goals omega
theorem zay8 (r:Int):qbh r=some (Sp.isRune r):=by
 rw[qbh,zaaa];unfold qbh_f;simp only[cond_eq_ite];repeat' split
 all_goals refine zaj6 ?_
 all_goals simp only[Sp.isRune,beq_iff_eq,decide_eq_true_eq,decide_eq_false_iff_not,Bool.false_eq_true,false_iff,true_iff,Bool.not_eq_true] at *
 all_goals omega
theorem zazf (r:Int):qaO r=some (Sp.isRune r):=by
 rw[qaO,zaaa];unfold qaO_f;simp only[cond_eq_ite];repeat' split
 ·simp only[decide_eq_true_eq] at *;rw[zay8,i32_in r (by omega)];rfl
 all_goals refine zaj6 ?_
 all_goals simp only[Sp.isRune,beq_iff_eq,decide_eq_true_eq,decide_eq_false_iff_not,Bool.false_eq_true,false_iff,true_iff,Bool.not_eq_true] at *
 all_goals omega
theorem zaxx (r:Int):qaL r=some (Sp.letter r):=by
 rw[qaL,zaaa];unfold qaL_f;simp only[cond_eq_ite,zazf,Option.bind_some];repeat' split
 all_goals refine zaj6 ?_
 all_goals simp only[Sp.letter,Sp.isRune,beq_iff_eq,Bool.and_eq_true,decide_eq_true_eq,decide_eq_false_iff_not,Bool.false_eq_true,false_iff,true_iff,Bool.not_eq_true] at *
 all_goals omega
theorem len1 (r:Int) (h:Sp.isRune r=true):qbg r=some (Sp.long r):=by
 simp only[Sp.isRune,decide_eq_true_eq] at h;rw[qbg,zaaa];unfold qbg_f Sp.long;simp only[cond_eq_ite,decide_eq_true_eq];repeat' split
 all_goals first|rfl|omega
theorem zaoc {t:List UInt8} {s:Spot} (h:zahb t s):0≤s.at_∧s.at_≤t.length∧t.length≤4000∧1≤s.line∧s.line≤s.at_+1∧1≤s.col∧s.col≤s.at_+1:=
 ⟨h.2.1,h.2.2.1,h.1,h.2.2.2.1,h.2.2.2.2.1,h.2.2.2.2.2.1,h.2.2.2.2.2.2⟩
theorem goneL (s:List UInt8) (a1 a2 a3 a4:Int):∀ (k n:Nat) (c2 c3 c4:Int) (pos:Nat) (l:List Spot),s.length-c2.toNat≤k→k<n→zahb s ⟨-1,c2,c3,c4⟩→(l.length:Int)≤c2→(pos:Int)=c2 →
  qaN_i4 n s a1 a2 a3 a4 (-1) c2 c3 c4 s pos l=some (if (zaaz s l ⟨-1,c2,c3,c4⟩).2.at_<s.length then
   .inl (-1,(zaaz s l ⟨-1,c2,c3,c4⟩).2.at_,(zaaz s l ⟨-1,c2,c3,c4⟩).2.line,(zaaz s l ⟨-1,c2,c3,c4⟩).2.col,(zaaz s l ⟨-1,c2,c3,c4⟩).1)
   else .inr (a1,a2,a3,a4,-1,(zaaz s l ⟨-1,c2,c3,c4⟩).2.at_,(zaaz s l ⟨-1,c2,c3,c4⟩).2.line,(zaaz s l ⟨-1,c2,c3,c4⟩).2.col,(zaaz s l ⟨-1,c2,c3,c4⟩).1)):=by
 intro k;induction k with
 |zero=>
  intro n c2 c3 c4 pos l hk hn hok hl hp;obtain ⟨n,rfl⟩:∃ q,n=q+1:=⟨n-1,by omega⟩;have:=zaoc hok;simp only at this;have c:¬ c2<s.length:=by omega
  have c':¬ pos<s.length:=by omega
  rw[zanb (s:=⟨-1,c2,c3,c4⟩) c,if_neg c];simp only[qaN_i4,qaN_t4,c',decide_false,cond_false]
 |succ k ih=>
  intro n c2 c3 c4 pos l hk hn hok hl hp;obtain ⟨n,rfl⟩:∃ q,n=q+1:=⟨n-1,by omega⟩;obtain ⟨h2,h3,h1,h4,h5,h6,h7⟩:=zaoc hok;simp only at h2 h3 h4 h5 h6 h7;have hq:pos=c2.toNat:=by omega
  simp only[qaN_i4,qaN_t4];by_cases c:c2<s.length
  ·have hlt:pos<s.length:=by omega
   have hdc:Utf8.decode ⟨s.toArray⟩ pos=Sp.dc s c2.toNat:=by rw[hq]; rfl
   rw[hdc];rw[i64_in ((pos:Int)+3) (by omega)];have hmin:(if (pos:Int)+3<(s.length:Int) then (pos:Int)+3 else (s.length:Int))=(min s.length (c2.toNat+3):Nat):=by
    split<;>omega
   rw[hmin];have hslice:List.drop (Int.toNat (pos:Int)) (List.take (Int.toNat ((min s.length (c2.toNat+3):Nat):Int)) s)=(s.take (min s.length (c2.toNat+3))).drop c2.toNat:=by
    rw[Int.toNat_natCast,Int.toNat_natCast,hq]
   rw[hslice];have hbnd:(decide ((0:Int)≤(pos:Int))&&(decide ((pos:Int)≤(min s.length (c2.toNat+3):Nat))&&decide (((min s.length (c2.toNat+3):Nat):Int)≤(s.length:Int))))=true:=by
    simp only[Bool.and_eq_true,decide_eq_true_eq]; omega
   rw[hbnd];have hbad:Sp.bad s c2.toNat=(decide ((Sp.dc s c2.toNat).1=65533)&&!(((s.take (min s.length (c2.toNat+3))).drop c2.toNat)==[239,191,189])):=rfl;simp only[hlt,decide_true,cond_true];cases hb:Sp.bad s c2.toNat with
   |true=>
    rw[hb] at hbad;have hbad:=hbad.symm;simp only[Bool.and_eq_true,decide_eq_true_eq] at hbad;have e1:(((Sp.dc s c2.toNat).1:Int)==65533)=true:=by rw[beq_iff_eq]; omega
    rw[e1,hbad.2];simp only[cond_true];rw[zat5 (s:=⟨-1,c2,c3,c4⟩) hb,if_pos c]
   |false=>
    obtain ⟨g1,g2,g3,g4,g5,g6,g7⟩:=Sp.good_at h2 c hb;rw[zaro (s:=⟨-1,c2,c3,c4⟩) h2 c hb];generalize hR:(some (ite ((zaaz s (l++[here s ⟨-1,c2,c3,c4⟩]) (after s ⟨-1,c2,c3,c4⟩)).2.at_<(s.length:Int)) _ _):Option _)=R;have hk':=zaq8 hok c hb;have haf:=zapu s ⟨-1,c2,c3,c4⟩;simp only at haf;have hrune:Sp.isRune ((Sp.dc s c2.toNat).1:Int)=true:=by rw[← g6]; exact g1
    have hlong:Sp.long ((Sp.dc s c2.toNat).1:Int)=Sp.at2 s c2:=by rw[← g6]; exact g2
    have hr:(0:Int)≤(Sp.dc s c2.toNat).1∧((Sp.dc s c2.toNat).1:Int)≤1114111:=by
     simp only[Sp.isRune,decide_eq_true_eq] at hrune; omega
    rw[len1 _ hrune,hlong,Option.bind_some];rw[i64_in ((Sp.dc s c2.toNat).1:Int) (by omega),i64_in (c2+Sp.at2 s c2) (by omega),i64_in (c3+1) (by omega),i64_in (c4+1) (by omega)];have hhere:here s ⟨-1,c2,c3,c4⟩=⟨((Sp.dc s c2.toNat).1:Int),c2,c3,c4⟩:=by unfold here; rw[g6]
    have go:∀ (b3 b4:Int),(after s ⟨-1,c2,c3,c4⟩).line=b3→(after s ⟨-1,c2,c3,c4⟩).col=b4 →
      qaN_i4 n s a1 a2 a3 a4 (-1) (c2+Sp.at2 s c2) b3 b4 s (pos+(Sp.dc s c2.toNat).2) (l++[⟨((Sp.dc s c2.toNat).1:Int),c2,c3,c4⟩]) =
       R:=by
     intro b3 b4 e3 e4;rw[← hR];have hk2:zahb s ⟨-1,c2+Sp.at2 s c2,b3,b4⟩:=by
      obtain ⟨q1,q2,q3,q4,q5,q6,q7⟩:=hk';rw[haf] at q2 q3 q5 q7;rw[e3] at q4 q5;rw[e4] at q6 q7;exact ⟨q1,q2,q3,q4,q5,q6,q7⟩
     have heta:after s ⟨-1,c2,c3,c4⟩=⟨(after s ⟨-1,c2,c3,c4⟩).rune,c2+Sp.at2 s c2,b3,b4⟩:=by
      rw[← haf,← e3,← e4]
     rw[ih n _ _ _ _ _ (by omega) (by omega) hk2 (by simp only[List.length_append,List.length_cons,List.length_nil]; omega) (by omega)];rw[hhere,heta];obtain ⟨y1,y2,y3,y4⟩:=zaof s (l++[⟨((Sp.dc s c2.toNat).1:Int),c2,c3,c4⟩]) (-1) (after s ⟨-1,c2,c3,c4⟩).rune (c2+Sp.at2 s c2) b3 b4;rw[y1,y2,y3,y4]
    have main:(bif decide ((List.length l+List.length [Spot.mk ((Sp.dc s c2.toNat).1:Int) c2 c3 c4])*(32:Nat)≤(140737488355328:Nat)∧List.length l+List.length [Spot.mk ((Sp.dc s c2.toNat).1:Int) c2 c3 c4]≤(9223372036854775807:Nat)) then
       bif ((Sp.dc s c2.toNat).1:Int)==(10:Int) then
        qaN_i4 n s a1 a2 a3 a4 (-1) (c2+Sp.at2 s c2) (c3+1) 1 s (pos+(Sp.dc s c2.toNat).2) (l++[⟨((Sp.dc s c2.toNat).1:Int),c2,c3,c4⟩])
       else
        qaN_i4 n s a1 a2 a3 a4 (-1) (c2+Sp.at2 s c2) c3 (c4+1) s (pos+(Sp.dc s c2.toNat).2) (l++[⟨((Sp.dc s c2.toNat).1:Int),c2,c3,c4⟩])
      else none)=R:=by
     have hlen1:((List.length l+List.length [Spot.mk ((Sp.dc s c2.toNat).1:Int) c2 c3 c4])*(32:Nat)≤(140737488355328:Nat)∧List.length l+List.length [Spot.mk ((Sp.dc s c2.toNat).1:Int) c2 c3 c4]≤(9223372036854775807:Nat)):=by
      simp only[List.length_cons,List.length_nil]; omega
     rw[decide_eq_true hlen1,cond_true];cases e10:(((Sp.dc s c2.toNat).1:Int)==10) with
     |true=>
      have:Sp.at1 s c2=10:=by rw[g6]; exact beq_iff_eq.1 e10
      exact go _ _ (by simp[after,here,Sp.on,this]) (by simp[after,here,Sp.on,this])
     |false=>
      have:¬ Sp.at1 s c2=10:=by rw[g6]; exact beq_eq_false_iff_ne.1 e10
      exact go _ _ (by simp[after,here,Sp.on,this]) (by simp[after,here,Sp.on,this])
    cases e1:(((Sp.dc s c2.toNat).1:Int)==65533) with
    |true=>
     rw[hb] at hbad;have e2:decide ((Sp.dc s c2.toNat).1=65533)=true:=by
      have:=beq_iff_eq.1 e1;rw[decide_eq_true_eq]; omega
     rw[e2,Bool.true_and] at hbad;rw[← hbad];simp only[cond_true,cond_false];exact main
    |false=>
     simp only[cond_false];exact main
  ·have hlt:¬ pos<s.length:=by omega
   simp only[hlt,decide_false,cond_false];rw[zanb (s:=⟨-1,c2,c3,c4⟩) c,if_neg c]
theorem gone1 (t:List UInt8) (h:t.length≤4000):qaN t=some (Sp.spots2 t,Sp.spots1 t):=by
 have g:zaaz t [] ⟨0,0,1,1⟩=Sp.spotsFrom t t.length [] ⟨0,0,1,1⟩:=rfl;obtain ⟨y1,y2,y3,y4⟩:=zaof t [] (-1) 0 0 1 1;rw[g] at y1 y2 y3 y4;have e2:(⟨-1,(zaaz t [] ⟨-1,0,1,1⟩).2.at_,(zaaz t [] ⟨-1,0,1,1⟩).2.line,(zaaz t [] ⟨-1,0,1,1⟩).2.col⟩:Spot)=Sp.spots2 t:=by
  rw[y2,y3,y4]; rfl
 have e1:(zaaz t [] ⟨-1,0,1,1⟩).1=Sp.spots1 t:=y1;rw[qaN,zaaa];unfold qaN_f;rw[qaN_l4,zaaa,goneL t _ _ _ _ t.length fuel 0 1 1 0 [] (by simp) (by unfold fuel; omega) (by unfold zahb; simp only; omega) (by simp) (by simp),Option.bind_some];split
 ·rename_i y heq;split at heq
  ·cases heq;simp only[e1,e2]
  ·cases heq
 ·rename_i y heq;split at heq
  ·cases heq
  ·cases heq;simp only[e1,e2]
theorem zasn (t:List UInt8):qaM t=some (Sp.runes2 t,Sp.runes1 t):=by
 rw[qaM,zaaa];unfold qaM_f Sp.runes1 Sp.runes2;simp only[cond_eq_ite,decide_eq_true_eq];by_cases h:4000<t.length
 ·rw[if_pos (show (t.length:Int)>4000 by omega),if_pos h,if_pos h]
 ·rw[if_neg (show ¬ (t.length:Int)>4000 by omega),if_neg h,if_neg h,gone1 t (by omega),Option.bind_some];by_cases h2:(Sp.spots2 t).at_<t.length
  ·rw[if_pos h2,if_pos h2,if_pos h2]
  ·rw[if_neg h2,if_neg h2,if_neg h2]
end Lift.A1P
namespace Lift.A1P
open Go Go.RowKit Lift Go.IntWalk Lift.Fn
theorem zauc (l:List Int):(bytesOf l).length=l.length:=by simp[bytesOf]
def encB (r:Int):List UInt8:=bytesOf (Sp.enc r)
def encs (rs:List Int):List UInt8:=rs.flatMap encB
theorem zaar (r:Int) (rs:List Int):encs (r::rs)=encB r++encs rs:=rfl
theorem zaal (a b:List Int):encs (a++b)=encs a++encs b:=by simp[encs]
theorem zabx (n:Nat) (h:n<256):(UInt8.ofNat n).toNat=n:=by
 simp[UInt8.toNat_ofNat'];omega
theorem zaci (r:Int):(encB r).length=(Sp.long r).toNat:=by
 unfold encB Sp.enc Sp.long;rw[zauc];repeat' split
 all_goals rfl
theorem by0 (a:UInt8) (l:List UInt8):Sp.by_ (a::l) 0=a.toNat:=rfl
theorem by1 (a b:UInt8) (l:List UInt8):Sp.by_ (a::b::l) 1=b.toNat:=rfl
theorem by2 (a b c:UInt8) (l:List UInt8):Sp.by_ (a::b::c::l) 2=c.toNat:=rfl
theorem by3 (a b c d:UInt8) (l:List UInt8):Sp.by_ (a::b::c::d::l) 3=d.toNat:=rfl
theorem zaky {l:List UInt8} {r k:Nat} (h:Sp.dl l=(r,k)) (h2:r≠65533∨(3≤l.length∧Sp.by_ l 0=239∧Sp.by_ l 1=191∧Sp.by_ l 2=189)):Sp.badl l=false:=by
 unfold Sp.badl;rw[h,Sp.take3];rcases h2 with h2|h2
 ·simp[h2]
 ·simp[h2]
theorem zavt (r:Int) (rest:List UInt8) (h:Sp.isRune r=true):Sp.dl (encB r++rest)=(r.toNat,(Sp.long r).toNat)∧Sp.badl (encB r++rest)=false:=by
 simp only[Sp.isRune,decide_eq_true_eq] at h;by_cases a1:r<128
 ·have e:encB r++rest=UInt8.ofNat r.toNat::rest:=by simp[encB,bytesOf,Sp.enc,a1]
  have hl:(Sp.long r).toNat=1:=by unfold Sp.long; rw[if_pos a1]; rfl
  rw[e,hl];have hd:Sp.dl (UInt8.ofNat r.toNat::rest)=(r.toNat,1):=by
   unfold Sp.dl;rw[by0,zabx _ (by omega),if_pos (by omega)]
  exact ⟨hd,zaky hd (.inl (by omega))⟩
 by_cases a2:r<2048
 ·have e:encB r++rest=UInt8.ofNat (192+r.toNat / 64)::UInt8.ofNat (128+r.toNat % 64)::rest:=by
   unfold encB Sp.enc bytesOf;rw[if_neg a1,if_pos a2];simp only[List.map_cons,List.map_nil,List.cons_append,List.nil_append];rw[show (192+r / 64).toNat=192+r.toNat / 64 by omega,show (128+r % 64).toNat=128+r.toNat % 64 by omega]
  have hl:(Sp.long r).toNat=2:=by unfold Sp.long; rw[if_neg a1,if_pos a2]; rfl
  rw[e,hl];have hd:Sp.dl (UInt8.ofNat (192+r.toNat / 64)::UInt8.ofNat (128+r.toNat % 64)::rest)=(r.toNat,2):=by
   unfold Sp.dl Sp.ct;rw[by0,by1,zabx _ (by omega),zabx _ (by omega)];simp only[List.length_cons,Bool.and_eq_true,decide_eq_true_eq,beq_iff_eq];rw[if_neg (by omega),if_pos (by omega),if_pos (by omega)];rw[show (192+r.toNat / 64) % 32*64+(128+r.toNat % 64) % 64=r.toNat by omega]
  exact ⟨hd,zaky hd (.inl (by omega))⟩
 by_cases a3:r<65536
 ·have e:encB r++rest=UInt8.ofNat (224+r.toNat / 4096)::UInt8.ofNat (128+r.toNat / 64 % 64)::UInt8.ofNat (128+r.toNat % 64)::rest:=by
   unfold encB Sp.enc bytesOf;rw[if_neg a1,if_neg a2,if_pos a3];simp only[List.map_cons,List.map_nil,List.cons_append,List.nil_append];rw[show (224+r / 4096).toNat=224+r.toNat / 4096 by omega,show (128+r / 64 % 64).toNat=128+r.toNat / 64 % 64 by omega,show (128+r % 64).toNat=128+r.toNat % 64 by omega]
  have hl:(Sp.long r).toNat=3:=by unfold Sp.long; rw[if_neg a1,if_neg a2,if_pos a3]; rfl
  rw[e,hl];have hd:Sp.dl (UInt8.ofNat (224+r.toNat / 4096)::UInt8.ofNat (128+r.toNat / 64 % 64)::UInt8.ofNat (128+r.toNat % 64)::rest)=(r.toNat,3):=by
   unfold Sp.dl Sp.ct;rw[by0,by1,by2,zabx _ (by omega),zabx _ (by omega),zabx _ (by omega)];simp only[List.length_cons,Bool.and_eq_true,decide_eq_true_eq,beq_iff_eq,zah5,ge_iff_le];have hv:(224+r.toNat / 4096) % 16*4096+(128+r.toNat / 64 % 64) % 64*64+(128+r.toNat % 64) % 64=r.toNat:=by omega
   rw[hv,if_neg (by omega),if_neg (by omega),if_pos (by omega),if_pos (by omega)]
  refine ⟨hd,zaky hd ?_⟩;simp only[List.length_cons,by0,by1,by2];rw[zabx _ (by omega),zabx _ (by omega),zabx _ (by omega)];omega
 ·have e:encB r++rest=UInt8.ofNat (240+r.toNat / 262144)::UInt8.ofNat (128+r.toNat / 4096 % 64)::UInt8.ofNat (128+r.toNat / 64 % 64)::UInt8.ofNat (128+r.toNat % 64)::rest:=by
   unfold encB Sp.enc bytesOf;rw[if_neg a1,if_neg a2,if_neg a3];simp only[List.map_cons,List.map_nil,List.cons_append,List.nil_append];rw[show (240+r / 262144).toNat=240+r.toNat / 262144 by omega,show (128+r / 4096 % 64).toNat=128+r.toNat / 4096 % 64 by omega,show (128+r / 64 % 64).toNat=128+r.toNat / 64 % 64 by omega,show (128+r % 64).toNat=128+r.toNat % 64 by omega]
  have hl:(Sp.long r).toNat=4:=by unfold Sp.long; rw[if_neg a1,if_neg a2,if_neg a3]; rfl
  rw[e,hl];have hd:Sp.dl (UInt8.ofNat (240+r.toNat / 262144)::UInt8.ofNat (128+r.toNat / 4096 % 64)::UInt8.ofNat (128+r.toNat / 64 % 64)::UInt8.ofNat (128+r.toNat % 64)::rest)=(r.toNat,4):=by
   unfold Sp.dl Sp.ct;rw[by0,by1,by2,by3,zabx _ (by omega),zabx _ (by omega),zabx _ (by omega),zabx _ (by omega)];simp only[List.length_cons,Bool.and_eq_true,decide_eq_true_eq,beq_iff_eq,zah5,ge_iff_le];have hv:(240+r.toNat / 262144) % 8*262144+(128+r.toNat / 4096 % 64) % 64*4096+(128+r.toNat / 64 % 64) % 64*64+(128+r.toNat % 64) % 64=r.toNat:=by omega
   rw[hv,if_neg (by omega),if_neg (by omega),if_neg (by omega),if_pos (by omega),if_pos (by omega)]
  exact ⟨hd,zaky hd (.inl (by omega))⟩
theorem zac5 {n:Int} {a:UInt8} (h:n.toNat=a.toNat):UInt8.ofNat n.toNat=a:=by
 rw[h]; simp
theorem zay3 {l:List UInt8} (h:1<l.length):∃ a b r,l=a::b::r:=by
 match l,h with
 |a::b::r,_=>exact ⟨a,b,r,rfl⟩
theorem zawq {l:List UInt8} (h:2<l.length):∃ a b c r,l=a::b::c::r:=by
 match l,h with
 |a::b::c::r,_=>exact ⟨a,b,c,r,rfl⟩
theorem zax6 {l:List UInt8} (h:3<l.length):∃ a b c d r,l=a::b::c::d::r:=by
 match l,h with
 |a::b::c::d::r,_=>exact ⟨a,b,c,d,r,rfl⟩
theorem zawf (l:List UInt8) (hl:l≠[]) (hb:Sp.badl l=false):Sp.isRune ((Sp.dl l).1:Int)=true∧∃ rest,l=encB ((Sp.dl l).1:Int)++rest:=by
 have hlen:0<l.length:=by cases l with|nil=>exact absurd rfl hl|cons _ _=>simp
 have hr:Sp.isRune ((Sp.dl l).1:Int)=true:=by
  have h4:=zau9 _ hlen;obtain ⟨h1,h2,h3⟩:=Sp.dl_pos _ hlen;rw[hb] at h4;simp only[Bool.false_eq_true,if_false] at h4;rcases Sp.ansA_ok l.length (Sp.by_ l 0) (Sp.by_ l 1) (Sp.by_ l 2) (Sp.by_ l 3) (l.getD 0 0).toNat_lt with h5|⟨h5,h6⟩
  ·rw[h4] at h5;simp only[Prod.mk.injEq] at h5;omega
  ·rw[h4] at h5;exact h5
 refine ⟨hr,?_⟩;have hg:¬ ((Sp.dl l).1=65533∧¬ (3≤l.length∧Sp.by_ l 0=239∧Sp.by_ l 1=191∧Sp.by_ l 2=189)):=by
  unfold Sp.badl at hb;rw[Sp.take3] at hb;intro hh;simp[hh.1] at hb;exact hh.2 hb
 obtain ⟨D,hD⟩:∃ D,D=Sp.dl l:=⟨_,rfl⟩;rw[← hD] at hg ⊢;unfold Sp.dl Sp.ct at hD;simp only[Bool.and_eq_true,decide_eq_true_eq,beq_iff_eq,zah5,ge_iff_le] at hD;have hb0:Sp.by_ l 0<256:=(l.getD 0 0).toNat_lt;have hb1:Sp.by_ l 1<256:=(l.getD 1 0).toNat_lt;have hb2:Sp.by_ l 2<256:=(l.getD 2 0).toNat_lt;have hb3:Sp.by_ l 3<256:=(l.getD 3 0).toNat_lt;by_cases k0:Sp.by_ l 0<128
 ·rw[if_pos k0] at hD;rw[hD];match l,hlen with
  |a::l,_=>
   rw[by0] at *;refine ⟨l,?_⟩;unfold encB Sp.enc bytesOf;rw[if_pos (by simp only; omega)];simp
 rw[if_neg k0] at hD;by_cases k1:Sp.by_ l 0 / 32=6∧1<l.length∧Sp.by_ l 1 / 64=2
 ·rw[if_pos k1] at hD;by_cases k2:128≤Sp.by_ l 0 % 32*64+Sp.by_ l 1 % 64
  ·rw[if_pos k2] at hD;rw[hD];obtain ⟨a,b,l,rfl⟩:=zay3 k1.2.1
   next=>
    rw[by0,by1] at *;refine ⟨l,?_⟩;unfold encB Sp.enc bytesOf;rw[if_neg (by simp only; omega),if_pos (by simp only; omega)];simp only[List.map_cons,List.map_nil,List.cons_append,List.nil_append];rw[zac5 (a:=a) (by omega),zac5 (a:=b) (by omega)]
  ·rw[if_neg k2] at hD;rw[hD] at hg;have hg':=Classical.byContradiction fun hh=>hg ⟨rfl,hh⟩
   omega
 rw[if_neg k1] at hD;by_cases k2:(Sp.by_ l 0 / 16=14∧1<l.length∧Sp.by_ l 1 / 64=2)∧2<l.length∧Sp.by_ l 2 / 64=2
 ·rw[if_pos k2] at hD;by_cases k3:2048≤Sp.by_ l 0 % 16*4096+Sp.by_ l 1 % 64*64+Sp.by_ l 2 % 64∧(0≤((Sp.by_ l 0 % 16*4096+Sp.by_ l 1 % 64*64+Sp.by_ l 2 % 64:Nat):Int)∧((Sp.by_ l 0 % 16*4096+Sp.by_ l 1 % 64*64+Sp.by_ l 2 % 64:Nat):Int)<55296∨57344≤((Sp.by_ l 0 % 16*4096+Sp.by_ l 1 % 64*64+Sp.by_ l 2 % 64:Nat):Int)∧((Sp.by_ l 0 % 16*4096+Sp.by_ l 1 % 64*64+Sp.by_ l 2 % 64:Nat):Int)≤1114111)
  ·rw[if_pos k3] at hD;rw[hD];obtain ⟨a,b,c,l,rfl⟩:=zawq k2.2.1
   next=>
    rw[by0,by1,by2] at *;refine ⟨l,?_⟩;unfold encB Sp.enc bytesOf;rw[if_neg (by simp only; omega),if_neg (by simp only; omega),if_pos (by simp only; omega)];simp only[List.map_cons,List.map_nil,List.cons_append,List.nil_append];rw[zac5 (a:=a) (by omega),zac5 (a:=b) (by omega),zac5 (a:=c) (by omega)]
  ·rw[if_neg k3] at hD;rw[hD] at hg;have hg':=Classical.byContradiction fun hh=>hg ⟨rfl,hh⟩
   omega
 rw[if_neg k2] at hD;by_cases k3:((Sp.by_ l 0 / 8=30∧1<l.length∧Sp.by_ l 1 / 64=2)∧2<l.length∧Sp.by_ l 2 / 64=2)∧3<l.length∧Sp.by_ l 3 / 64=2
 ·rw[if_pos k3] at hD;by_cases k4:65536≤Sp.by_ l 0 % 8*262144+Sp.by_ l 1 % 64*4096+Sp.by_ l 2 % 64*64+Sp.by_ l 3 % 64∧(0≤((Sp.by_ l 0 % 8*262144+Sp.by_ l 1 % 64*4096+Sp.by_ l 2 % 64*64+Sp.by_ l 3 % 64:Nat):Int)∧((Sp.by_ l 0 % 8*262144+Sp.by_ l 1 % 64*4096+Sp.by_ l 2 % 64*64+Sp.by_ l 3 % 64:Nat):Int)<55296∨57344≤((Sp.by_ l 0 % 8*262144+Sp.by_ l 1 % 64*4096+Sp.by_ l 2 % 64*64+Sp.by_ l 3 % 64:Nat):Int)∧((Sp.by_ l 0 % 8*262144+Sp.by_ l 1 % 64*4096+Sp.by_ l 2 % 64*64+Sp.by_ l 3 % 64:Nat):Int)≤1114111)
  ·rw[if_pos k4] at hD;rw[hD];obtain ⟨a,b,c,d,l,rfl⟩:=zax6 k3.2.1
   next=>
    rw[by0,by1,by2,by3] at *;refine ⟨l,?_⟩;unfold encB Sp.enc bytesOf;rw[if_neg (by simp only; omega),if_neg (by simp only; omega),if_neg (by simp only; omega)];simp only[List.map_cons,List.map_nil,List.cons_append,List.nil_append];rw[zac5 (a:=a) (by omega),zac5 (a:=b) (by omega),zac5 (a:=c) (by omega),zac5 (a:=d) (by omega)]
  ·rw[if_neg k4] at hD;rw[hD] at hg;have hg':=Classical.byContradiction fun hh=>hg ⟨rfl,hh⟩
   omega
 ·rw[if_neg k3] at hD;rw[hD] at hg;have hg':=Classical.byContradiction fun hh=>hg ⟨rfl,hh⟩
  omega
def put:List Int→Spot→List Spot×Spot
 |[],s=>([],s)
 |r::rs,s=>(⟨r,s.at_,s.line,s.col⟩::(put rs (Sp.on ⟨r,s.at_,s.line,s.col⟩ r (Sp.long r))).1,(put rs (Sp.on ⟨r,s.at_,s.line,s.col⟩ r (Sp.long r))).2)
theorem on_at (s:Spot) (r n:Int):(Sp.on s r n).at_=s.at_+n:=by unfold Sp.on; split<;>rfl
theorem zadz (r:Int):1≤Sp.long r:=by unfold Sp.long; (repeat' split)<;>omega
theorem zaqy:∀ (rs:List Int) (s:Spot),(put rs s).2.at_=s.at_+(encs rs).length
 |[],s=>by simp[put,encs]
 |r::rs,s=>by
  simp only[put];rw[zaqy rs,on_at,zaar,List.length_append,zaci];have:=zadz r;simp only;omega
theorem zap6 (t:List UInt8):∀ (rs:List Int) (n:Nat) (acc:List Spot) (s:Spot) (rest:List UInt8),rs.all Sp.isRune=true→0≤s.at_→t.drop s.at_.toNat=encs rs++rest→(rest=[]∨Sp.badl rest=true) →
  t.length-s.at_.toNat≤n→Sp.spotsFrom t n acc s=(acc++(put rs s).1,(put rs s).2)
 |[],n,acc,s,rest=>by
  intro _ h0 hd hr hn;simp only[encs,List.flatMap_nil,List.nil_append] at hd;simp only[put,List.append_nil];cases n with
  |zero=>rfl
  |succ n=>
   simp only[Sp.spotsFrom];by_cases hc:s.at_<t.length
   ·rw[if_pos hc];have hne:t.drop s.at_.toNat≠[]:=by
     intro hh;have:=congrArg List.length hh;simp at this;omega
    rcases hr with rfl|hr
    ·exact absurd hd hne
    ·rw[if_pos];rw[Sp.bad_eq,hd];exact hr
   ·rw[if_neg hc]
 |r::rs,n,acc,s,rest=>by
  intro ha h0 hd hr hn;simp only[List.all_cons,Bool.and_eq_true] at ha;rw[zaar,List.append_assoc] at hd;obtain ⟨h1,h2⟩:=zavt r (encs rs++rest) ha.1;have hlen:=congrArg List.length hd;have hl:=zadz r;have hel:=zaci r;simp only[List.length_drop,List.length_append] at hlen;have hc:s.at_<t.length:=by omega
  have hb:Sp.bad t s.at_.toNat=false:=by rw[Sp.bad_eq,hd]; exact h2
  have hr':0≤r:=by
   have:=ha.1;simp only[Sp.isRune,decide_eq_true_eq] at this;exact this.1
  have e1:Sp.at1 t s.at_=r:=by
   unfold Sp.at1;rw[hb,Sp.dc_eq,hd,h1];simp;omega
  have e2:Sp.at2 t s.at_=Sp.long r:=by
   unfold Sp.at2;rw[hb,Sp.dc_eq,hd,h1];simp;omega
  obtain ⟨n,rfl⟩:∃ m,n=m+1:=⟨n-1,by omega⟩;simp only[Sp.spotsFrom,if_pos hc,hb,Bool.false_eq_true,if_false];rw[e1,e2];have hat:=on_at ⟨r,s.at_,s.line,s.col⟩ r (Sp.long r);simp only at hat;rw[zap6 t rs n _ _ rest ha.2 (by rw[hat]; omega) ?_ hr (by rw[hat]; omega)]
  ·simp only[put,List.append_assoc,List.cons_append,List.nil_append]
  ·rw[hat,show (s.at_+Sp.long r).toNat=s.at_.toNat+(encB r).length by omega,← List.drop_drop,hd,List.drop_left]
def s0:Spot:=⟨0,0,1,1⟩
theorem zaox (rs:List Int) (rest:List UInt8) (ha:rs.all Sp.isRune=true) (hr:rest=[]∨Sp.badl rest=true):Sp.spots1 (encs rs++rest)=(put rs s0).1∧Sp.spots2 (encs rs++rest)=Sp.ended (put rs s0).2:=by
 have:=zap6 (encs rs++rest) rs (encs rs++rest).length [] s0 rest ha (by simp[s0]) (by simp[s0]) hr (by omega);unfold Sp.spots1 Sp.spots2;unfold s0 at this ⊢;rw[this];simp
theorem zamu:∀ (n:Nat) (t:List UInt8),t.length≤n→∃ rs rest,t=encs rs++rest∧rs.all Sp.isRune=true∧(rest=[]∨Sp.badl rest=true)
 |0,t,h=>⟨[],[],by cases t<;>simp_all[encs],rfl,.inl rfl⟩
 |n+1,t,h=>by
  by_cases h0:t=[]
  ·exact ⟨[],[],by simp[h0,encs],rfl,.inl rfl⟩
  cases hb:Sp.badl t with
  |true=>exact ⟨[],t,by simp[encs],rfl,.inr hb⟩
  |false=>
   obtain ⟨h1,rest,h2⟩:=zawf t h0 hb;have hl:=zaci ((Sp.dl t).1:Int);have hp:=zadz ((Sp.dl t).1:Int);have hlen:rest.length≤n:=by
    have:=congrArg List.length h2;rw[List.length_append] at this;omega
   obtain ⟨rs,r2,h3,h4,h5⟩:=zamu n rest hlen;refine ⟨((Sp.dl t).1:Int)::rs,r2,?_,?_,h5⟩
   ·rw[zaar,List.append_assoc,← h3]; exact h2
   ·simp[h1,h4]
theorem zapt (s:Spot):(Sp.ended s).at_=s.at_:=rfl
theorem zaqq (rs:List Int) (ha:rs.all Sp.isRune=true) (hl:(encs rs).length≤4000):Sp.runes1 (encs rs)=(put rs s0).1∧Sp.runes2 (encs rs)=⟨0,0,[]⟩:=by
 obtain ⟨h1,h2⟩:=zaox rs [] ha (.inl rfl);rw[List.append_nil] at h1 h2;have h3:=zaqy rs s0;unfold Sp.runes1 Sp.runes2;rw[h1,h2,zapt,h3];have h5:¬ (s0.at_+((encs rs).length:Int)<(encs rs).length):=by simp[s0]
 have h4:¬ 4000<(encs rs).length:=by omega
 simp only[if_neg h4,if_neg h5,and_self]
theorem zav6 (rs:List Int) (rest:List UInt8) (ha:rs.all Sp.isRune=true) (hne:rest≠[]) (hb:Sp.badl rest=true) (hl:(encs rs++rest).length≤4000):Sp.runes1 (encs rs++rest)=[]∧Sp.runes2 (encs rs++rest)=⟨11,(encs rs).length,[]⟩:=by
 obtain ⟨h1,h2⟩:=zaox rs rest ha (.inr hb);have h3:=zaqy rs s0;have hpos:0<rest.length:=by cases rest with|nil=>exact absurd rfl hne|cons _ _=>simp
 unfold Sp.runes1 Sp.runes2;rw[h2,zapt,h3];have h5:(s0.at_+((encs rs).length:Int)<(encs rs++rest).length):=by simp[s0]; omega
 have h4:¬ 4000<(encs rs++rest).length:=by omega
 simp only[if_neg h4,if_pos h5];simp[s0]
theorem zalt (t:List UInt8):(Sp.runes1 t=[]∧Sp.runes2 t=⟨10,4000,[]⟩) ∨
  (t.length≤4000∧∃ rs rest,t=encs rs++rest∧rs.all Sp.isRune=true∧rest≠[]∧Sp.badl rest=true∧Sp.runes1 t=[]∧Sp.runes2 t=⟨11,(encs rs).length,[]⟩) ∨
  (t.length≤4000∧∃ rs,t=encs rs∧rs.all Sp.isRune=true∧Sp.runes1 t=(put rs s0).1∧Sp.runes2 t=⟨0,0,[]⟩):=by
 by_cases h:4000<t.length
 ·left;unfold Sp.runes1 Sp.runes2;rw[if_pos h,if_pos h];exact ⟨rfl,rfl⟩
 right;obtain ⟨rs,rest,h1,h2,h3⟩:=zamu t.length t (Nat.le_refl _);by_cases h0:rest=[]
 ·right;subst h0;rw[List.append_nil] at h1;subst h1;obtain ⟨q1,q2⟩:=zaqq rs h2 (by omega);exact ⟨by omega,rs,rfl,h2,q1,q2⟩
 ·left;have hb:Sp.badl rest=true:=by rcases h3 with h3|h3; exact absurd h3 h0; exact h3
  subst h1;obtain ⟨q1,q2⟩:=zav6 rs rest h2 h0 hb (by omega);exact ⟨by omega,rs,rest,rfl,h2,h0,hb,q1,q2⟩
end Lift.A1P
namespace Lift.A1P
open Go Go.RowKit Lift Go.IntWalk Lift.Fn
def goesR (r:Int):Bool:=Sp.letter r||Sp.digit r
theorem goes1 (r:Int) (h:0≤r∧r≤1114111):qal r=some (goesR r):=by
 rw[qal,zaaa];unfold qal_f goesR;rw[i64_in r (by omega),zaxx,zaug,Option.bind_some,Option.bind_some];cases Sp.letter r<;>rfl
theorem zae7 {r:Int} (h:Sp.isRune r=true):0≤r∧r≤1114111:=by
 simp only[Sp.isRune,decide_eq_true_eq] at h;omega
theorem zamo (t:List UInt8) (p:Nat) (r:Int) (l:List UInt8) (hd:t.drop p=encB r++l) (hr:Sp.isRune r=true):Utf8.decode ⟨t.toArray⟩ p=(r.toNat,(Sp.long r).toNat):=by
 have h1:=Sp.dc_eq t p;unfold Sp.dc at h1;rw[h1,hd];exact (zavt r l hr).1
theorem zaf6 (ds rs:List Int):(encs (ds++rs)).drop (encs ds).length=encs rs:=by
 rw[zaal,List.drop_left]
theorem zahn (ds rs:List Int) (r:Int):(encs ds).length<(encs (ds++r::rs)).length:=by
 rw[zaal,zaar,List.length_append,List.length_append,zaci];have:=zadz r;omega
theorem zal5 (ds:List Int) (r:Int):(encs (ds++[r])).length=(encs ds).length+(Sp.long r).toNat:=by
 rw[zaal,zaar,List.length_append,List.length_append,zaci];simp[encs]
theorem wordL:∀ (rs ds:List Int) (n:Nat),rs.all Sp.isRune=true→rs.length<n→(encs (ds++rs)).length≤9000000 →
  qaq_i2 n (encs (ds++rs)) (encs (ds++rs)) (encs ds).length=some (if rs.all goesR then .inr (encs (ds++rs)) else .inl (encs (ds++rs.takeWhile goesR)))
 |[],ds,n,_,hn,hl=>by
  obtain ⟨n,rfl⟩:∃ q,n=q+1:=⟨n-1,by simp at hn; omega⟩;simp only[List.append_nil,qaq_i2,qaq_t2];simp
 |r::rs,ds,n,ha,hn,hl=>by
  obtain ⟨n,rfl⟩:∃ q,n=q+1:=⟨n-1,by simp at hn; omega⟩;simp only[List.all_cons,Bool.and_eq_true] at ha;have hlt:=zahn ds rs r;have hd:Utf8.decode ⟨(encs (ds++r::rs)).toArray⟩ (encs ds).length=(r.toNat,(Sp.long r).toNat):=zamo _ _ r (encs rs) (by rw[zaf6,zaar]) ha.1;have hr:=zae7 ha.1;simp only[qaq_i2,qaq_t2,hd,hlt,decide_true,cond_true];rw[show ((r.toNat:Nat):Int)=r by omega,goes1 r hr,Option.bind_some];cases hg:goesR r with
  |false=>
   have hb:(decide ((0:Int)≤0)&&(decide ((0:Int)≤((encs ds).length:Int))&&decide (((encs ds).length:Int)≤((encs (ds++r::rs)).length:Int))))=true:=by
    simp only[Bool.and_eq_true,decide_eq_true_eq]; omega
   simp only[Bool.not_false,cond_true,hb,List.all_cons,hg,Bool.false_and,Bool.false_eq_true,if_false,List.takeWhile_cons,List.append_nil,List.drop_zero,Int.toNat_natCast];rw[zaal,List.take_left]
  |true=>
   have ih:=wordL rs (ds++[r]) n ha.2 (by simp at hn; omega) (by simpa using hl);rw[List.append_assoc,List.singleton_append,zal5] at ih;simp only[Bool.not_true,cond_false,ih,List.all_cons,hg,Bool.true_and,List.takeWhile_cons,if_true,List.append_assoc,List.singleton_append]
theorem zapq {p:Int→Bool} {l:List Int} (h:l.all p=true):l.takeWhile p=l:=by
 induction l with
 |nil=>rfl
 |cons a l ih=>
  simp only[List.all_cons,Bool.and_eq_true] at h;rw[List.takeWhile_cons,if_pos h.1,ih h.2]
theorem zaca (rs:List Int):rs.length≤(encs rs).length:=by
 induction rs with
 |nil=>simp
 |cons r l ih=>
  rw[zaar,List.length_append,zaci,List.length_cons];have:=zadz r;omega
theorem word1 (rs:List Int) (ha:rs.all Sp.isRune=true) (hl:(encs rs).length≤9000000):qaq (encs rs)=some (encs (rs.takeWhile goesR)):=by
 rw[qaq,zaaa];unfold qaq_f;have:=wordL rs [] fuel ha (by have:=zaca rs; unfold fuel; omega) (by simpa using hl);simp only[List.nil_append] at this;rw[qaq_l2,zaaa,show (0:Nat)=(encs []).length from rfl,this];cases hg:rs.all goesR with
 |true=>simp only[if_true,Option.bind_some,zapq hg]
 |false=>simp
def skip:Bool→List Int→List Int
 |_,[]=>[]
 |true,r::rs=>skip (r != 10) rs
 |false,r::rs=>if r=35 then skip true rs else if Sp.blank r then skip false rs else r::rs
theorem zas3:∀ (rs ds:List Int) (c:Bool) (n:Nat),rs.all Sp.isRune=true→rs.length<n →
  qan_i3 n (encs (ds++rs)) c (encs (ds++rs)) (encs ds).length=some (if skip c rs=[] then .inr (encs (ds++rs)) else .inl (((encs (ds++rs)).length:Int)-(encs (skip c rs)).length))
 |[],ds,c,n,_,hn=>by
  obtain ⟨n,rfl⟩:∃ q,n=q+1:=⟨n-1,by simp at hn; omega⟩;simp only[List.append_nil,qan_i3,qan_t3];cases c<;>simp[skip]
 |r::rs,ds,c,n,ha,hn=>by
  obtain ⟨n,rfl⟩:∃ q,n=q+1:=⟨n-1,by simp at hn; omega⟩;simp only[List.all_cons,Bool.and_eq_true] at ha;have hlt:=zahn ds rs r;have hd:Utf8.decode ⟨(encs (ds++r::rs)).toArray⟩ (encs ds).length=(r.toNat,(Sp.long r).toNat):=zamo _ _ r (encs rs) (by rw[zaf6,zaar]) ha.1;have hr:=zae7 ha.1;have ih:=fun c=>zas3 rs (ds++[r]) c n ha.2 (by simp at hn; omega)
  simp only[List.append_assoc,List.singleton_append,zal5] at ih;simp only[qan_i3,qan_t3,hd,hlt,decide_true,cond_true];rw[show ((r.toNat:Nat):Int)=r by omega];cases c with
  |true=>
   rw[cond_true,ih];rfl
  |false=>
   rw[cond_false];by_cases h35:r=35
   ·have:(r==35)=true:=by simp[h35]
    rw[this,cond_true,ih];simp only[skip,h35,if_true]
   ·have:(r==35)=false:=by simp[h35]
    rw[this,cond_false,i64_in r (by omega),zay9,Option.bind_some];cases hb:Sp.blank r with
    |true=>
     simp only[Bool.not_true,cond_false,ih,skip,h35,if_false,hb,if_true]
    |false=>
     have hne:skip false (r::rs)=r::rs:=by simp[skip,h35,hb]
     rw[hne];simp only[Bool.not_false,cond_true,if_neg (List.cons_ne_nil r rs)];congr 2;rw[zaal,List.length_append];omega
theorem zas1 (rs:List Int) (ha:rs.all Sp.isRune=true) (hl:(encs rs).length≤9000000):qan (encs rs)=some (((encs rs).length:Int)-(encs (skip false rs)).length):=by
 rw[qan,zaaa];unfold qan_f;have:=zas3 rs [] false fuel ha (by have:=zaca rs; unfold fuel; omega);simp only[List.nil_append] at this;rw[qan_l3,zaaa,show (0:Nat)=(encs []).length from rfl,this];by_cases hs:skip false rs=[]
 ·rw[if_pos hs,hs]; simp[encs]
 ·rw[if_neg hs]; simp
theorem zazg (l:List (List UInt8)) (x:List UInt8) (hl:l.length≤4000):∀ (k n:Nat) (i:Int),0≤i→l.length-i.toNat≤k→k<n →
  ∃ r,qaX_i2 n l x l.length i=some r∧((l.drop i.toNat).contains x=match r with|.inl j=>decide (0≤j)|.inr _=>false):=by
 intro k;have fin:∀ (n:Nat) (i:Int),0≤i→¬ i<l.length→∃ r,qaX_i2 (n+1) l x l.length i=some r∧((l.drop i.toNat).contains x=match r with|.inl j=>decide (0≤j)|.inr _=>false):=by
  intro n i h0 c;refine ⟨.inr (),?_,?_⟩
  ·simp only[qaX_i2,qaX_t2,c,decide_false,cond_false]
  ·rw[List.drop_eq_nil_of_le (by omega)]; rfl
 induction k with
 |zero=>
  intro n i h0 hk hn;obtain ⟨n,rfl⟩:∃ q,n=q+1:=⟨n-1,by omega⟩;exact fin n i h0 (by omega)
 |succ k ih=>
  intro n i h0 hk hn;obtain ⟨n,rfl⟩:∃ q,n=q+1:=⟨n-1,by omega⟩;by_cases c:i<l.length
  ·have ha:i.toNat<l.length:=by omega
   rw[List.drop_eq_getElem_cons ha];simp only[qaX_i2,qaX_t2,c,h0,decide_true,cond_true,List.getElem?_eq_getElem ha,Option.bind_some,List.contains_cons];cases hx:(x==l[i.toNat]) with
   |true=>exact ⟨.inl i,rfl,by simp[h0]⟩
   |false=>
    rw[i64_in (i+1) (by omega)];obtain ⟨r,h1,h2⟩:=ih n (i+1) (by omega) (by omega) (by omega);refine ⟨r,h1,?_⟩;rw[show (i+1).toNat=i.toNat+1 by omega] at h2;rw[Bool.false_or,h2]
  ·exact fin n i h0 c
theorem zao2 (l:List (List UInt8)) (x:List UInt8) (hl:l.length≤4000):qaW l x=some (l.contains x):=by
 obtain ⟨r,h1,h2⟩:=zazg l x hl l.length fuel 0 (by omega) (by omega) (by unfold fuel; omega);simp only[Int.toNat_zero,List.drop_zero] at h2;rw[qaW,zaaa];unfold qaW_f;rw[qaX,zaaa];unfold qaX_f;rw[qaX_l2,zaaa,h1,h2];cases r with
 |inl j=>simp
 |inr u=>simp
def ones:List UInt8:=[61,60,62,33,43,45,42,47,37,59,123,125,40,41]
def twos:List (List UInt8):=[[58,61],[60,45],[61,61],[33,61],[60,61],[62,61],[38,38],[124,124]]
def sgn (t:List UInt8):List UInt8:=if 1<t.length∧twos.contains (t.take 2)=true then t.take 2 else if ones.contains (t.headD 0)=true then t.take 1 else []
theorem zaxk:∀ i:Fin 256,Lib.contains ones [UInt8.ofNat i.val]=ones.contains (UInt8.ofNat i.val):=by decide +kernel
theorem zaxo (b:UInt8):Lib.contains ones [b]=ones.contains b:=by
 have:=zaxk ⟨b.toNat,b.toNat_lt⟩;simpa using this
theorem sign1 (b:UInt8) (t:List UInt8) (hl:(b::t).length≤9000000):qao (b::t)=some (sgn (b::t)):=by
 rw[qao,zaaa];unfold qao_f;have ht:List.take 1 (b::t)=[b]:=rfl;have hc:strings_Contains ones [b]=some (ones.contains b):=by
  rw[strings_Contains,zaaa];unfold zad6;rw[decide_eq_true (by decide),cond_true,zaxo]
 have hc':strings_Contains [61,60,62,33,43,45,42,47,37,59,123,125,40,41] [b]=some (ones.contains b):=hc;have b1:(decide ((0:Int)≤0)&&(decide ((0:Int)≤1)&&decide ((1:Int)≤((b::t).length:Int))))=true:=by
  simp only[Bool.and_eq_true,decide_eq_true_eq,List.length_cons]; omega
 simp only[List.drop_zero,ht,b1,cond_true,hc',Option.bind_some];unfold sgn;by_cases h1:1<(b::t).length
 ·have h1':decide (((b::t).length:Int)>1)=true:=decide_eq_true (by omega);have b2:(decide ((0:Int)≤0)&&(decide ((0:Int)≤2)&&decide ((2:Int)≤((b::t).length:Int))))=true:=by
   simp only[Bool.and_eq_true,decide_eq_true_eq]; omega
  have hc2:=zao2 twos ((b::t).take 2) (by decide);have hc2':qaW [[58,61],[60,45],[61,61],[33,61],[60,61],[62,61],[38,38],[124,124]] ((b::t).take 2)=some (twos.contains ((b::t).take 2)):=hc2;rw[h1',cond_true,b2,cond_true,hc2',Option.bind_some];cases h2:twos.contains ((b::t).take 2) with
  |true=>rw[if_pos ⟨h1,rfl⟩]; rfl
  |false=>
   rw[if_neg (fun hh=>by cases hh.2)];cases h3:ones.contains b with
   |true=>simp only[List.headD_cons,h3,if_true]; rfl
   |false=>simp only[List.headD_cons,h3,Bool.false_eq_true,if_false]; rfl
 ·have h1':decide (((b::t).length:Int)>1)=false:=decide_eq_false (by omega);rw[h1',cond_false,if_neg (fun hh=>h1 hh.1)];cases h3:ones.contains b with
  |true=>simp only[List.headD_cons,h3,if_true]; rfl
  |false=>simp only[List.headD_cons,h3,Bool.false_eq_true,if_false]; rfl
end Lift.A1P
namespace Lift.A1P
open Go Go.RowKit Lift Go.IntWalk Lift.Fn
def tens:List UInt8:=[48,49,50,51,52,53,54,55,56,57]
def numS (t:List UInt8):Int×Bool:=
 if 1<t.length∧(t.headD 0).toNat=48 then (0,false) else if Lib.trimS t tens≠[] then (0,false) else if (zabo t).2=true then ((zabo t).1,false) else ((zabo t).1,decide ((zabo t).1≤2147483647))
theorem zayr (t:List UInt8) (hl:t.length≤9000000):qam t=some (numS t):=by
 rw[qam,zaaa];unfold qam_f numS;have hT:zadc t [48,49,50,51,52,53,54,55,56,57]=some (Lib.trimS t tens):=by
  rw[zadc,zaaa];unfold zafr;rw[decide_eq_true (show _∧_ by constructor; omega; decide)];rfl
 have hA:zadb t=some (zabo t):=by
  rw[zadb,zaaa];unfold zafk;rw[decide_eq_true (by omega)];rfl
 have rest:(bif !Lib.trimS t tens==[] then some ((0:Int),false) else bif !(zabo t).2 then some ((zabo t).1,decide ((zabo t).1≤2147483647)) else some ((zabo t).1,false)) =
   some (if Lib.trimS t tens≠[] then (0,false) else if (zabo t).2=true then ((zabo t).1,false) else ((zabo t).1,decide ((zabo t).1≤2147483647))):=by
  by_cases h:Lib.trimS t tens=[]
  ·rw[if_neg (fun hh=>hh h),h];cases (zabo t).2<;>rfl
  ·rw[if_pos h];have:(Lib.trimS t tens==[])=false:=by simpa using h
   rw[this]; rfl
 rw[hT,hA];by_cases h1:1<t.length
 ·rw[decide_eq_true (show (t.length:Int)>1 by omega),cond_true];match t,h1 with
  |b::t,h1=>
   simp only[List.getElem?_cons_zero,Option.bind_some];by_cases h2:b.toNat=48
   ·have:(((b.toNat:Nat):Int)==48)=true:=by rw[beq_iff_eq]; omega
    rw[this,cond_true,if_pos (show 1<(b::t).length∧((b::t).headD 0).toNat=48 from ⟨h1,h2⟩)]
   ·have:(((b.toNat:Nat):Int)==48)=false:=by rw[beq_eq_false_iff_ne]; omega
    rw[this,cond_false,if_neg (show ¬ (1<(b::t).length∧((b::t).headD 0).toNat=48) from fun hh=>h2 hh.2)];exact rest
 ·rw[decide_eq_false (show ¬ (t.length:Int)>1 by omega),cond_false,if_neg (show ¬ (1<t.length∧(t.headD 0).toNat=48) from fun hh=>h1 hh.1)];simp only[Option.bind_some];exact rest
theorem zazk:qak=qak_f:=by rw[qak,zaaa]
noncomputable def words:List (List UInt8):=qak_f.getD []
theorem zaxn:qak=some words:=by rw[zazk]; rfl
theorem zaul:∀ (rs ds:List Int) (n:Nat),rs.all Sp.isRune=true→rs.length≤n→Lib.runeCountFrom ⟨(encs (ds++rs)).toArray⟩ n (encs ds).length=rs.length
 |[],ds,n,_,_=>by
  cases n with
  |zero=>rfl
  |succ n=>simp[Lib.runeCountFrom,ByteArray.size]
 |r::rs,ds,n,ha,hn=>by
  obtain ⟨n,rfl⟩:∃ q,n=q+1:=⟨n-1,by simp at hn; omega⟩;simp only[List.all_cons,Bool.and_eq_true] at ha;have hlt:=zahn ds rs r;have hd:Utf8.decode ⟨(encs (ds++r::rs)).toArray⟩ (encs ds).length=(r.toNat,(Sp.long r).toNat):=zamo _ _ r (encs rs) (by rw[zaf6,zaar]) ha.1;have ih:=zaul rs (ds++[r]) n ha.2 (by simp at hn; omega);simp only[List.append_assoc,List.singleton_append,zal5] at ih;simp only[Lib.runeCountFrom,hd];rw[if_pos (by simpa [ByteArray.size] using hlt),ih,List.length_cons];omega
theorem zayt (rs:List Int) (ha:rs.all Sp.isRune=true) (hl:(encs rs).length≤9000000):zaa7 (encs rs)=some (rs.length:Int):=by
 rw[zaa7,zaaa];unfold zaby Lib.runeCount;rw[decide_eq_true (by omega),cond_true];have:=zaul rs [] (encs rs).length ha (zaca rs);simp only[List.nil_append] at this;have hs:(⟨(encs rs).toArray⟩:ByteArray).size=(encs rs).length:=by simp[ByteArray.size]
 rw[hs,show (0:Nat)=(encs []).length from rfl,this]
theorem zayk (r:Int) (rs:List Int) (hr:Sp.isRune r=true):zaa3 (encs (r::rs))=some (r,Sp.long r):=by
 rw[zaa3,zaaa];unfold zabv Lib.decodeGo;have hp:=zadz r;have hs:¬ (⟨(encs (r::rs)).toArray⟩:ByteArray).size=0:=by
  have:=zahn [] rs r;simp only[List.nil_append] at this;simp[ByteArray.size];intro hh;rw[hh] at this;simp at this
 have hd:Utf8.decode ⟨(encs (r::rs)).toArray⟩ 0=(r.toNat,(Sp.long r).toNat):=zamo _ 0 r (encs rs) (by rw[List.drop_zero,zaar]) hr;have h0:=zae7 hr;rw[if_neg hs,hd];simp only;rw[show ((r.toNat:Nat):Int)=r by omega,show (((Sp.long r).toNat:Nat):Int)=Sp.long r by omega]
noncomputable def tokR (rs:List Int):Token×Int:=
  bif goesR (rs.headD 0) then
    (bif Sp.digit (rs.headD 0) then (bif (numS (encs (rs.takeWhile goesR))).2 then (⟨2,encs (rs.takeWhile goesR),(numS (encs (rs.takeWhile goesR))).1,0⟩,0) else (⟨1,encs (rs.takeWhile goesR),0,0⟩,22))
     else bif words.contains (encs (rs.takeWhile goesR)) then (⟨4,encs (rs.takeWhile goesR),0,0⟩,0)
     else bif decide (16<(rs.takeWhile goesR).length) then (⟨1,encs (rs.takeWhile goesR),0,0⟩,21) else (⟨1,encs (rs.takeWhile goesR),0,0⟩,0))
  else bif sgn (encs rs)==[] then (⟨0,[],0,0⟩,20) else (⟨3,sgn (encs rs),0,0⟩,0)
theorem zajn {p:Int→Bool} {rs:List Int} (ha:rs.all Sp.isRune=true):(rs.takeWhile p).all Sp.isRune=true:=by
 rw[List.all_eq_true] at ha ⊢;intro r hr;exact ha r ((List.takeWhile_sublist _).subset hr)
theorem zawh (p:Int→Bool) (rs:List Int):(encs (rs.takeWhile p)).length≤(encs rs).length:=by
 have:encs rs=encs (rs.takeWhile p)++encs (rs.dropWhile p):=by rw[← zaal,List.takeWhile_append_dropWhile]
 rw[this,List.length_append];omega
theorem zazc (rs:List Int) (hne:rs≠[]) (ha:rs.all Sp.isRune=true) (hl:(encs rs).length≤9000000):qap (encs rs)=some (tokR rs):=by
 match rs,hne with
 |r::rs,_=>
  have ha':=ha;simp only[List.all_cons,Bool.and_eq_true] at ha';have hr:=zae7 ha'.1;have hw:=word1 (r::rs) ha hl;have hwl:=zawh goesR (r::rs);rw[qap,zaaa];unfold qap_f tokR;rw[zayk r rs ha'.1,Option.bind_some];simp only;rw[goes1 r hr,Option.bind_some];simp only[List.headD_cons];cases hg:goesR r with
  |false=>
   obtain ⟨b,t,hbt⟩:∃ b t,encs (r::rs)=b::t:=by
    cases he:encs (r::rs) with
    |nil=>
     have:=zahn [] rs r;simp only[List.nil_append,he] at this;simp[encs] at this
    |cons b t=>exact ⟨b,t,rfl⟩
   have hs:=sign1 b t (by rw[← hbt]; exact hl);rw[← hbt] at hs;simp only[Bool.not_false,cond_true,cond_false,hs,Option.bind_some];cases (sgn (encs (r::rs))==[])<;>rfl
  |true=>
   simp only[Bool.not_true,cond_false,cond_true,hw,Option.bind_some];rw[i64_in r (by omega),zaug,Option.bind_some];cases hd:Sp.digit r with
   |true=>
    rw[cond_true,cond_true,zayr _ (by omega),Option.bind_some];cases (numS (encs ((r::rs).takeWhile goesR))).2<;>rfl
   |false=>
    rw[cond_false,cond_false,zaxn,Option.bind_some,zao2 _ _ (by decide),Option.bind_some];cases words.contains (encs ((r::rs).takeWhile goesR)) with
    |true=>rfl
    |false=>
     rw[cond_false,cond_false,zayt _ (zajn ha) (by omega),Option.bind_some];have:decide ((((r::rs).takeWhile goesR).length:Int)>16)=decide (16<((r::rs).takeWhile goesR).length):=by
      rw[Bool.eq_iff_iff,decide_eq_true_eq,decide_eq_true_eq]; omega
     rw[this];cases decide (16<((r::rs).takeWhile goesR).length)<;>rfl
noncomputable def restR (rs:List Int):List Int:=bif goesR (rs.headD 0) then rs.dropWhile goesR else rs.drop (sgn (encs rs)).length
theorem zadk {r:Int} {rs:List Int} {b:UInt8} {t:List UInt8} (hr:Sp.isRune r=true) (h:encs (r::rs)=b::t) (hb:b.toNat<128):encB r=[b]∧t=encs rs:=by
 rw[zaar] at h;simp only[Sp.isRune,decide_eq_true_eq] at hr;by_cases a1:r<128
 ·have e:encB r=[UInt8.ofNat r.toNat]:=by simp[encB,bytesOf,Sp.enc,a1]
  rw[e] at h ⊢;simp only[List.singleton_append,List.cons.injEq] at h;exact ⟨by rw[h.1],h.2.symm⟩
 ·exfalso;have hh:∀ x l,encB r=UInt8.ofNat x::l→128≤x→x<256→False:=by
   intro x l he h1 h2;rw[he,List.cons_append,List.cons.injEq] at h;have:=congrArg UInt8.toNat h.1;rw[zabx _ h2] at this;omega
  unfold encB Sp.enc bytesOf at hh;rw[if_neg a1] at hh;by_cases a2:r<2048
  ·rw[if_pos a2] at hh;exact hh _ _ rfl (by omega) (by omega)
  ·rw[if_neg a2] at hh;by_cases a3:r<65536
   ·rw[if_pos a3] at hh;exact hh _ _ rfl (by omega) (by omega)
   ·rw[if_neg a3] at hh;exact hh _ _ rfl (by omega) (by omega)
end Lift.A1P
namespace Lift.A1P
open Go Go.RowKit Lift Go.IntWalk Lift.Fn
theorem zabm:∀ (l:List Int) (c:Bool),∃ ds,l=ds++skip c l
 |[],c=>⟨[],by cases c<;>rfl⟩
 |r::l,true=>by
  obtain ⟨ds,h⟩:=zabm l (r != 10);exact ⟨r::ds,by simp only[skip,List.cons_append]; rw[← h]⟩
 |r::l,false=>by
  simp only[skip];split
  ·obtain ⟨ds,h⟩:=zabm l true;exact ⟨r::ds,by rw[List.cons_append,← h]⟩
  ·split
   ·obtain ⟨ds,h⟩:=zabm l false;exact ⟨r::ds,by rw[List.cons_append,← h]⟩
   ·exact ⟨[],rfl⟩
theorem zan7:∀ x∈twos,x.length=2∧x.all (fun b=>decide (b.toNat<128))=true:=by decide
theorem zan6:∀ b∈ones,b.toNat<128:=by decide
theorem zank (r:Int) (rs:List Int):∃ b t,encs (r::rs)=b::t:=by
 cases he:encs (r::rs) with
 |nil=>
  have:=zahn [] rs r;simp only[List.nil_append,he] at this;simp[encs] at this
 |cons b t=>exact ⟨b,t,rfl⟩
theorem zaki (r:Int) (rs:List Int) (ha:(r::rs).all Sp.isRune=true) (h:sgn (encs (r::rs))≠[]):encs ((r::rs).take (sgn (encs (r::rs))).length)=sgn (encs (r::rs))∧0<(sgn (encs (r::rs))).length:=by
 refine ⟨?_,List.length_pos_iff.2 h⟩;simp only[List.all_cons,Bool.and_eq_true] at ha;obtain ⟨b,t,hbt⟩:=zank r rs;rw[hbt] at h ⊢;unfold sgn at h ⊢;by_cases h1:1<(b::t).length∧twos.contains ((b::t).take 2)=true
 ·rw[if_pos h1];have hm:(b::t).take 2∈twos:=by simpa using h1.2
  obtain ⟨hl,hall⟩:=zan7 _ hm;match t,hl with
  |c::t,_=>
   simp only[List.take_succ_cons,List.take_zero,List.all_cons,List.all_nil,Bool.and_true,Bool.and_eq_true,decide_eq_true_eq] at hall;obtain ⟨e1,e2⟩:=zadk ha.1 hbt hall.1;match rs,ha.2,e2 with
   |[],_,e2=>simp[encs] at e2
   |r2::rs,ha2,e2=>
    simp only[List.all_cons,Bool.and_eq_true] at ha2;obtain ⟨e3,_⟩:=zadk ha2.1 e2.symm hall.2;show encs [r,r2]=[b,c];rw[zaar,zaar,e1,e3];rfl
 ·rw[if_neg h1] at h ⊢;by_cases h2:ones.contains ((b::t).headD 0)=true
  ·rw[if_pos h2];have hb:b∈ones:=by simpa using h2
   obtain ⟨e1,_⟩:=zadk ha.1 hbt (zan6 b hb);show encs [r]=[b];rw[zaar,e1];rfl
  ·rw[if_neg h2] at h;exact absurd rfl h
theorem zagq (r:Int) (rs:List Int) (ha:(r::rs).all Sp.isRune=true) (h0:(tokR (r::rs)).2=0):∃ ds,ds≠[]∧r::rs=ds++restR (r::rs)∧encs ds=(tokR (r::rs)).1.text:=by
 unfold tokR at h0 ⊢;unfold restR;simp only[List.headD_cons] at h0 ⊢;cases hg:goesR r with
 |true=>
  refine ⟨(r::rs).takeWhile goesR,by simp[hg],(List.takeWhile_append_dropWhile).symm,?_⟩;simp only[cond_true];cases Sp.digit r with
  |true=>
   cases (numS (encs ((r::rs).takeWhile goesR))).2<;>rfl
  |false=>
   cases words.contains (encs ((r::rs).takeWhile goesR)) with
   |true=>rfl
   |false=>cases decide (16<((r::rs).takeWhile goesR).length)<;>rfl
 |false=>
  rw[hg] at h0;simp only[cond_false] at h0 ⊢;cases hs:(sgn (encs (r::rs))==[]) with
  |true=>rw[hs] at h0; simp at h0
  |false=>
   have hne:sgn (encs (r::rs))≠[]:=by simpa using hs
   obtain ⟨h1,h2⟩:=zaki r rs ha hne;refine ⟨(r::rs).take (sgn (encs (r::rs))).length,?_,(List.take_append_drop _ _).symm,h1⟩;intro hh;have:=congrArg List.length hh;simp only[List.length_take,List.length_nil,List.length_cons] at this;omega
noncomputable def toks:Nat→Int→List Int→(Int×Int)⊕List Token
 |0,_,_=>.inr []
 |_+1,_,[]=>.inr []
 | n + 1, p, r :: rs => bif (tokR (r :: rs)).2 != 0 then .inl ((tokR (r :: rs)).2, p) else
   match toks n (p+(encs (r::rs)).length-(encs (skip false (restR (r::rs)))).length) (skip false (restR (r::rs))) with
   |.inl e=>.inl e
   |.inr l=>.inr (⟨(tokR (r::rs)).1.kind,(tokR (r::rs)).1.text,(tokR (r::rs)).1.num,p⟩::l)
theorem zacp {ds rs:List Int} (h:(ds++rs).all Sp.isRune=true):rs.all Sp.isRune=true:=by
 rw[List.all_append,Bool.and_eq_true] at h;exact h.2
theorem zax4 (a2 a3:Int) (a4:List UInt8):∀ (k n:Nat) (rs ds:List Int) (out:List Token),rs.length≤k→k<n→(ds++rs).all Sp.isRune=true→(encs (ds++rs)).length≤4000→out.length≤(encs ds).length →
  qaj_i6 n (encs (ds++rs)) ((encs ds).length:Int) a2 a3 a4 out=some (match toks k ((encs ds).length:Int) rs with|.inl e=>.inl (e.1,e.2,[])|.inr l=>.inr (encs (ds++rs),a2,a3,a4,out++l)):=by
 intro k;have fin:∀ (n k:Nat) (ds:List Int) (out:List Token),qaj_i6 (n+1) (encs (ds++[])) ((encs ds).length:Int) a2 a3 a4 out=some (match toks k ((encs ds).length:Int) [] with|.inl e=>.inl (e.1,e.2,[])|.inr l=>.inr (encs (ds++[]),a2,a3,a4,out++l)):=by
  intro n k ds out;have:toks k ((encs ds).length:Int) []=.inr []:=by cases k<;>rfl
  rw[this];simp only[List.append_nil,qaj_i6,qaj_t6];have:decide (((encs ds).length:Int)<((encs ds).length:Int))=false:=decide_eq_false (by omega);rw[this,cond_false]
 induction k with
 |zero=>
  intro n rs ds out hk hn ha hl ho;obtain ⟨n,rfl⟩:∃ q,n=q+1:=⟨n-1,by omega⟩;match rs,hk with
  |[],_=>exact fin n 0 ds out
 |succ k ih=>
  intro n rs ds out hk hn ha hl ho;obtain ⟨n,rfl⟩:∃ q,n=q+1:=⟨n-1,by omega⟩;match rs,hk,ha,hl with
  |[],_,_,_=>exact fin n (k+1) ds out
  |r::rs,hk,ha,hl=>
   have har:=zacp ha;have hlt:=zahn ds rs r;have hlen:(encs (ds++r::rs)).length=(encs ds).length+(encs (r::rs)).length:=by rw[zaal,List.length_append]
   simp only[qaj_i6,qaj_t6];have b0:decide (((encs ds).length:Int)<((encs (ds++r::rs)).length:Int))=true:=decide_eq_true (by omega);have b1:(decide ((0:Int)≤((encs ds).length:Int))&&(decide (((encs ds).length:Int)≤((encs (ds++r::rs)).length:Int))&&decide (((encs (ds++r::rs)).length:Int)≤((encs (ds++r::rs)).length:Int))))=true:=by
    simp only[Bool.and_eq_true,decide_eq_true_eq]; omega
   have hd:List.drop (Int.toNat ((encs ds).length:Int)) (List.take (Int.toNat ((encs (ds++r::rs)).length:Int)) (encs (ds++r::rs)))=encs (r::rs):=by
    rw[Int.toNat_natCast,Int.toNat_natCast,List.take_length,zaf6]
   rw[b0,cond_true,b1,cond_true,hd,zazc _ (List.cons_ne_nil _ _) har (by omega),Option.bind_some];simp only[toks];cases hc:((tokR (r::rs)).2 != 0) with
   |true=>rfl
   |false=>
    have h0:(tokR (r::rs)).2=0:=by simpa using hc
    obtain ⟨es,hes,hsp,htx⟩:=zagq r rs har h0;obtain ⟨fs,hfs⟩:=zabm (restR (r::rs)) false;have hall:((ds++es)++restR (r::rs)).all Sp.isRune=true:=by rw[List.append_assoc,← hsp]; exact ha
    have hres:=zacp hall;have l1:(encs (r::rs)).length=(encs es).length+(encs (restR (r::rs))).length:=by
     conv=>lhs; rw[hsp]
     rw[zaal,List.length_append]
    have l2:(encs (restR (r::rs))).length=(encs fs).length+(encs (skip false (restR (r::rs)))).length:=by
     conv=>lhs; rw[hfs]
     rw[zaal,List.length_append]
    have hes1:1≤(encs es).length:=by
     have:=zaca es;have:0<es.length:=List.length_pos_iff.2 hes;omega
    rw[← htx];simp only[cond_false];rw[decide_eq_true (show _∧_ by simp only[List.length_cons,List.length_nil]; omega),cond_true,i64_in (((encs ds).length:Int)+(encs es).length) (by omega)];have b2:(decide ((0:Int)≤((encs ds).length:Int)+(encs es).length)&&(decide (((encs ds).length:Int)+(encs es).length≤((encs (ds++r::rs)).length:Int))&&decide (((encs (ds++r::rs)).length:Int)≤((encs (ds++r::rs)).length:Int))))=true:=by
     simp only[Bool.and_eq_true,decide_eq_true_eq]; omega
    have hd2:List.drop (Int.toNat (((encs ds).length:Int)+(encs es).length)) (List.take (Int.toNat ((encs (ds++r::rs)).length:Int)) (encs (ds++r::rs)))=encs (restR (r::rs)):=by
     have e:ds++r::rs=(ds++es)++restR (r::rs):=by rw[List.append_assoc,← hsp]
     have e2:(((encs ds).length:Int)+(encs es).length).toNat=(encs (ds++es)).length:=by rw[zaal,List.length_append]; omega
     rw[Int.toNat_natCast,List.take_length,e2,e,zaf6]
    rw[b2,cond_true,hd2,zas1 _ hres (by omega),Option.bind_some];have hat:IntKind.wrap IntKind.i64 (((encs ds).length:Int)+(encs es).length+(((encs (restR (r::rs))).length:Int)-(encs (skip false (restR (r::rs)))).length))=((encs (ds++es++fs)).length:Int):=by
     rw[i64_in _ (by omega),zaal,zaal,List.length_append,List.length_append];omega
    have hp:((encs ds).length:Int)+(encs (r::rs)).length-(encs (skip false (restR (r::rs)))).length=((encs (ds++es++fs)).length:Int):=by
     rw[zaal,zaal,List.length_append,List.length_append];omega
    have hT:ds++r::rs=(ds++es++fs)++skip false (restR (r::rs)):=by
     rw[List.append_assoc,← hfs,List.append_assoc,← hsp]
    have hk':(skip false (restR (r::rs))).length≤k:=by
     have q1:=congrArg List.length hsp;have q2:=congrArg List.length hfs;have q3:0<es.length:=List.length_pos_iff.2 hes;simp only[List.length_append,List.length_cons] at q1 q2 hk;omega
    rw[hat,hp]
    have:=ih n (skip false (restR (r::rs))) (ds++es++fs) (out++[⟨(tokR (r::rs)).1.kind,encs es,(tokR (r::rs)).1.num,((encs ds).length:Int)⟩]) hk' (by omega) (by rw[← hT]; exact ha) (by rw[← hT]; exact hl) (by
     rw[zaal,zaal];simp only[List.length_append,List.length_cons,List.length_nil];omega)
    rw[← hT] at this;rw[this];cases toks k ((encs (ds++es++fs)).length:Int) (skip false (restR (r::rs))) with
    |inl e=>rfl
    |inr l=>simp only[List.append_assoc,List.singleton_append]
theorem toks_len:∀ (k:Nat) (p:Int) (rs:List Int),rs.all Sp.isRune=true→∀ l,toks k p rs=.inr l→l.length≤rs.length
 |0,p,rs,_,l,h=>by simp only[toks,Sum.inr.injEq] at h; subst h; simp
 |k+1,p,[],_,l,h=>by simp only[toks,Sum.inr.injEq] at h; subst h; simp
 |k+1,p,r::rs,ha,l,h=>by
  simp only[toks] at h;cases hc:((tokR (r::rs)).2 != 0) with
  |true=>rw[hc] at h; simp at h
  |false=>
   rw[hc] at h;have h0:(tokR (r::rs)).2=0:=by simpa using hc
   obtain ⟨es,hes,hsp,_⟩:=zagq r rs ha h0;obtain ⟨fs,hfs⟩:=zabm (restR (r::rs)) false;have q1:=congrArg List.length hsp;have q2:=congrArg List.length hfs;have q3:0<es.length:=List.length_pos_iff.2 hes;simp only[List.length_append,List.length_cons] at q1 q2;simp only[cond_false] at h;have hs:(skip false (restR (r::rs))).all Sp.isRune=true:=zacp (ds:=es++fs) (by rw[List.append_assoc,← hfs,← hsp]; exact ha);split at h
   ·cases h
   ·rename_i l' hl';simp only[Sum.inr.injEq] at h;subst h;have:=toks_len k _ _ hs l' hl';simp only[List.length_cons];omega
theorem zany (rs:List Int) (ha:rs.all Sp.isRune=true) (hl:(encs rs).length≤4000):qaj (encs rs)=some (match toks rs.length (((encs rs).length:Int)-(encs (skip false rs)).length) (skip false rs) with
  |.inl e=>([],⟨e.1,e.2,[]⟩)
  |.inr l=>(l++[⟨5,[],0,((encs rs).length:Int)⟩],⟨0,0,[]⟩)):=by
 obtain ⟨fs,hfs⟩:=zabm rs false;obtain ⟨q1,q2⟩:=zaqq rs ha hl;have hsk:((encs rs).length:Int)-(encs (skip false rs)).length=((encs fs).length:Int):=by
  have:(encs rs).length=(encs fs).length+(encs (skip false rs)).length:=by
   conv=>lhs; rw[hfs]
   rw[zaal,List.length_append]
  omega
 have hL:=zax4 0 0 [] rs.length fuel (skip false rs) fs [] (by have:=congrArg List.length hfs; rw[List.length_append] at this; omega) (by have:=zaca rs; unfold fuel; omega) (by rw[← hfs]; exact ha) (by rw[← hfs]; exact hl) (by simp);rw[← hfs] at hL;rw[qaj,zaaa];unfold qaj_f;rw[zasn,q1,q2,Option.bind_some];simp only[bne_self_eq_false,cond_false];rw[zas1 rs ha (by omega),Option.bind_some,hsk,qaj_l6,zaaa,hL,Option.bind_some];have hlen:=toks_len rs.length ((encs fs).length:Int) (skip false rs) (zacp (ds:=fs) (by rw[← hfs]; exact ha));cases ht:toks rs.length ((encs fs).length:Int) (skip false rs) with
 |inl e=>rfl
 |inr l=>
  have hl2:=hlen l ht;have h3:(skip false rs).length≤rs.length:=by
   have:=congrArg List.length hfs;rw[List.length_append] at this;omega
  have h4:=zaca rs;simp only[List.nil_append];rw[decide_eq_true (show _∧_ by simp only[List.length_cons,List.length_nil]; omega),cond_true]
end Lift.A1P
namespace Lift.A1P
open Go Go.RowKit Lift Go.IntWalk Lift.Fn
end Lift.A1P
namespace Lift.A1P
open Go Go.RowKit Lift Go.IntWalk Lift.Fn
def whole (w:List Int) (t:Token):Prop:=w≠[]∧w.all Sp.isRune=true∧tokR w=(t,0)∧t.text=encs w
theorem zajo {w:List Int} (h:goesR (w.headD 0)=true):(tokR w).1.text=encs (w.takeWhile goesR):=by
 unfold tokR;rw[h,cond_true];cases Sp.digit (w.headD 0) with
 |true=>cases (numS (encs (w.takeWhile goesR))).2<;>rfl
 |false=>
  cases words.contains (encs (w.takeWhile goesR)) with
  |true=>rfl
  |false=>cases decide (16<(w.takeWhile goesR).length)<;>rfl
theorem zam5 {a b:List Int} (h:encs (a++b)=encs a):b=[]:=by
 have h1:=congrArg List.length h;rw[zaal,List.length_append] at h1;have h2:=zaca b;have:b.length=0:=by omega
 exact List.eq_nil_of_length_eq_zero this
theorem zajj {w:List Int} {t:Token} (h:whole w t) (hg:goesR (w.headD 0)=true):w.takeWhile goesR=w:=by
 obtain ⟨_,_,h3,h4⟩:=h;have h5:=zajo hg;rw[h3] at h5;have h6:encs (w.takeWhile goesR++w.dropWhile goesR)=encs (w.takeWhile goesR):=by
  rw[List.takeWhile_append_dropWhile,← h5,← h4]
 have h7:=zam5 h6;have h8:=List.takeWhile_append_dropWhile (p:=goesR) (l:=w);rw[h7,List.append_nil] at h8;exact h8
theorem zaw7 {w:List Int} (h:w≠[]) (r:List Int):(w++r).headD 0=w.headD 0:=by
 cases w with
 |nil=>exact absurd rfl h
 |cons a w=>rfl
end Lift.A1P
namespace Lift.A1P
open Go Go.RowKit Lift Go.IntWalk Lift.Fn
end Lift.A1P
namespace Lift.A1P
open Go Go.RowKit Lift Go.IntWalk Lift.Fn
theorem zax1 (r:Int):Sp.long r≤4:=by unfold Sp.long; (repeat' split)<;>omega
theorem zasq:∀ rs:List Int,(encs rs).length≤4*rs.length
 |[]=>by simp[encs]
 |r::rs=>by
  have:=zasq rs;have h:=zax1 r;rw[zaar,List.length_append,zaci,List.length_cons];omega
end Lift.A1P
namespace Lift.A1P
open Go Go.RowKit Lift Go.IntWalk Lift.Fn
theorem zaxg (x:List UInt8):sgn (sgn x)=sgn x:=by
 by_cases k1:1<x.length∧twos.contains (x.take 2)=true
 ·have e:sgn x=x.take 2:=by unfold sgn; rw[if_pos k1]
  rw[e];have hl:(x.take 2).length=2:=by rw[List.length_take]; omega
  have ht:(x.take 2).take 2=x.take 2:=by rw[List.take_take]; rfl
  unfold sgn;rw[if_pos ⟨by omega,by rw[ht]; exact k1.2⟩,ht]
 ·by_cases k2:ones.contains (x.headD 0)=true
  ·have e:sgn x=x.take 1:=by unfold sgn; rw[if_neg k1,if_pos k2]
   rw[e];match x,k2 with
   |[],k2=>exact absurd k2 (by decide)
   |b::x,k2=>
    show sgn [b]=[b];unfold sgn;rw[if_neg (fun hh=>by have:=hh.1; simp at this)];exact if_pos k2
  ·have e:sgn x=[]:=by unfold sgn; rw[if_neg k1,if_neg k2]
   rw[e];decide
theorem alone (a:Int) (rs:List Int) (ha:(a::rs).all Sp.isRune=true) (h0:(tokR (a::rs)).2=0):∃ ds,whole ds (tokR (a::rs)).1∧a::rs=ds++restR (a::rs):=by
 cases hg:goesR a with
 |true=>
  have ht:=zajo (w:=a::rs) hg;have hd:((a::rs).takeWhile goesR).headD 0=a:=by rw[List.takeWhile_cons,if_pos hg]; rfl
  have htt:((a::rs).takeWhile goesR).takeWhile goesR=(a::rs).takeWhile goesR:=zapq List.all_takeWhile;refine ⟨(a::rs).takeWhile goesR,⟨by simp[hg],zajn ha,?_,ht⟩,?_⟩
  ·refine Prod.ext ?_ ?_
   ·show (tokR ((a::rs).takeWhile goesR)).1=_;unfold tokR;rw[hd,htt,List.headD_cons,hg];rfl
   ·show (tokR ((a::rs).takeWhile goesR)).2=0;rw[← h0];unfold tokR;rw[hd,htt,List.headD_cons,hg];rfl
  ·unfold restR;rw[List.headD_cons,hg];exact (List.takeWhile_append_dropWhile).symm
 |false=>
  have hc:(sgn (encs (a::rs))==[])=false:=by
   unfold tokR at h0;rw[List.headD_cons,hg,cond_false] at h0;cases hc:(sgn (encs (a::rs))==[]) with
   |true=>rw[hc] at h0; simp at h0
   |false=>rfl
  have hne:sgn (encs (a::rs))≠[]:=by simpa using hc
  obtain ⟨h1,h2⟩:=zaki a rs ha hne;have htok:tokR (a::rs)=(⟨3,sgn (encs (a::rs)),0,0⟩,0):=by
   unfold tokR;rw[List.headD_cons,hg,cond_false,hc,cond_false]
  obtain ⟨n,hn⟩:∃ n,(sgn (encs (a::rs))).length=n+1:=⟨(sgn (encs (a::rs))).length-1,by omega⟩;have htk:(a::rs).take (sgn (encs (a::rs))).length=a::rs.take n:=by rw[hn]; rfl
  refine ⟨(a::rs).take (sgn (encs (a::rs))).length,⟨by rw[htk]; exact List.cons_ne_nil _ _,?_,?_,?_⟩,?_⟩
  ·rw[List.all_eq_true] at ha ⊢;exact fun r hr=>ha r (List.mem_of_mem_take hr)
  ·rw[htok];rw[htk] at h1 ⊢;unfold tokR;rw[List.headD_cons,hg,cond_false,h1,zaxg,hc,cond_false]
  ·rw[htok,h1]
  ·unfold restR;rw[List.headD_cons,hg,cond_false,List.take_append_drop]
end Lift.A1P
namespace Lift.A1P
open Go Go.RowKit Lift Go.IntWalk Lift.Fn
theorem zags (t:List UInt8) (h:(Sp.runes2 t).code≠0):qaj t=some ([],⟨(Sp.runes2 t).code,(Sp.runes2 t).at_,(Sp.runes2 t).name⟩):=by
 rw[qaj,zaaa];unfold qaj_f;rw[zasn,Option.bind_some];have:((Sp.runes2 t).code != 0)=true:=by simp[h]
 simp only[this,cond_true]
end Lift.A1P
namespace Lift.A1P
open Go Go.RowKit Lift Go.IntWalk Lift.Fn
end Lift.A1P
namespace Lift.A1P
open Go Go.RowKit Lift Go.IntWalk Lift.Fn
def dig (c:UInt8):Bool:=decide (48≤c.toNat∧c.toNat≤57)
theorem tens_all:∀ i:Fin 256,tens.contains (UInt8.ofNat i.val)=dig (UInt8.ofNat i.val):=by decide +kernel
theorem tens_dig (c:UInt8):tens.contains c=dig c:=by
 have:=tens_all ⟨c.toNat,c.toNat_lt⟩;simpa using this
end Lift.A1P
namespace Lift.A1P
open Go Go.RowKit Lift Go.IntWalk Lift.Fn
theorem zakm:∀ (k k':Nat) (p:Int) (rs:List Int),rs.all Sp.isRune=true→rs.length≤k→rs.length≤k'→toks k p rs=toks k' p rs
 |k,k',p,[],_,_,_=>by
  have e:∀ k p,toks k p []=.inr []:=fun k p=>by cases k<;>rfl
  rw[e,e]
 |0,_,_,r::rs,_,hk,_=>by simp at hk
 |_+1,0,_,r::rs,_,_,hk=>by simp at hk
 |k+1,k'+1,p,r::rs,ha,hk,hk'=>by
  simp only[toks];cases hc:((tokR (r::rs)).2 != 0) with
  |true=>rfl
  |false=>
   have h0:(tokR (r::rs)).2=0:=by simpa using hc
   obtain ⟨w,hw,hsp⟩:=alone r rs ha h0;have hR:(restR (r::rs)).all Sp.isRune=true:=zacp (ds:=w) (by rw[← hsp]; exact ha);have hwl:0<w.length:=List.length_pos_iff.2 hw.1;have hl:=congrArg List.length hsp;rw[List.length_append,List.length_cons] at hl;obtain ⟨fs,hfs⟩:=zabm (restR (r::rs)) false;have hsl:(skip false (restR (r::rs))).length≤(restR (r::rs)).length:=by
    have:=congrArg List.length hfs;rw[List.length_append] at this;omega
   simp only[List.length_cons] at hk hk';have hS:(skip false (restR (r::rs))).all Sp.isRune=true:=zacp (ds:=fs) (by rw[← hfs]; exact hR);rw[zakm k k' _ _ hS (by omega) (by omega)]
end Lift.A1P
namespace Lift.A1P
open Go Go.RowKit Lift Go.IntWalk Lift.Fn
theorem tokens_any (t:List UInt8):∃ f l,qaj t=some (l,f)∧l.length≤4001:=by
 rcases zalt t with ⟨h1,h2⟩|⟨h0,rs,rest,_,_,_,_,h1,h2⟩|⟨h0,rs,rfl,ha,h1,h2⟩
 ·rw[zags t (by rw[h2]; decide)]; exact ⟨_,_,rfl,by simp⟩
 ·rw[zags t (by rw[h2]; show (11:Int)≠0; decide)]; exact ⟨_,_,rfl,by simp⟩
 ·rw[zany rs ha h0];have hlr:=zaca rs;have hS:(skip false rs).all Sp.isRune=true:=by
   obtain ⟨fs,hfs⟩:=zabm rs false;exact zacp (ds:=fs) (by rw[← hfs]; exact ha)
  have hsl:(skip false rs).length≤rs.length:=by
   obtain ⟨fs,hfs⟩:=zabm rs false;have:=congrArg List.length hfs;rw[List.length_append] at this;omega
  cases ht:toks rs.length (((encs rs).length:Int)-((encs (skip false rs)).length:Int)) (skip false rs) with
  |inl e=>exact ⟨_,_,rfl,by simp⟩
  |inr l=>
   have:=toks_len _ _ _ hS l ht;exact ⟨_,_,rfl,by rw[List.length_append,List.length_cons,List.length_nil]; omega⟩
end Lift.A1P
namespace Lift.A3
open Go Go.RowKit Lift Go.IntWalk Lift.Fn
set_option linter.unusedVariables false
set_option linter.unusedSimpArgs false
theorem zatj (t:List UInt8):∃ b,qbd t=some b:=by
 obtain ⟨f,l,e,hl⟩:=Lift.A1P.tokens_any t;rw[qbd,zaaa];unfold qbd_f;rw[e];cases decide (((t.length:Nat):Int)>64) with
 |true=>exact ⟨false,rfl⟩
 |false=>
 simp only[cond_false,Option.bind_some];cases f.code==0 with
 |false=>exact ⟨false,rfl⟩
 |true=>
 match l with
 |[]=>exact ⟨false,rfl⟩
 |[a]=>exact ⟨false,rfl⟩
 |a::b::c::l=>
  have:((((a::b::c::l:List Token).length:Nat):Int)==2)=false:=by
   rw[beq_eq_false_iff_ne]; simp only[List.length_cons]; omega
  rw[this];exact ⟨false,rfl⟩
 |[a,b]=>
  have:((([a,b]:List Token).length:Int)==2)=true:=rfl;simp only[this,cond_true,Option.bind_some];have h2:(decide ((0:Int)≤0)&&decide ((0:Int)<(([a,b]:List Token).length:Int)))=true:=rfl;simp only[h2,cond_true,List.getElem?_cons_zero,Option.bind_some];cases (a.kind==1) with
  |false=>exact ⟨false,rfl⟩
  |true=>exact ⟨a.text==t,rfl⟩
noncomputable def isNm (t:List UInt8):Bool:=(qbd t).getD false
theorem zafm (t:List UInt8):qbd t=some (isNm t):=by
 obtain ⟨b,e⟩:=zatj t;rw[isNm,e];rfl
end Lift.A3
namespace Lift.A3
open Go Go.RowKit Lift Go.IntWalk Lift.Fn
set_option linter.unusedVariables false
set_option linter.unusedSimpArgs false
theorem zadi {α:Type} (c:Bool) (a b:α):(bif c then some a else some b)=some (bif c then a else b):=by cases c<;>rfl
theorem cand (a b:Bool):(bif a then b else false)=(a&&b):=by cases a<;>rfl
theorem cor (a b:Bool):(bif a then true else b)=(a||b):=by cases a<;>rfl
noncomputable def xOk (x:TExpr):Bool:=
 bif x.kind==1 then ((decide (x.num≥0)&&decide (x.num≤2147483647))&&x.name==[])&&((x.args.length:Int)==0)
 else bif x.kind==2 then (isNm x.name&&x.num==0)&&((x.args.length:Int)==0)
 else bif (x.kind==3||x.kind==4) then (((decide (x.kind≥3)&&decide (x.kind≤17))&&((x.args.length:Int)==1))&&x.num==0)&&x.name==[]
 else (((decide (x.kind≥3)&&decide (x.kind≤17))&&((x.args.length:Int)==2))&&x.num==0)&&x.name==[]
theorem zax8 (x:TExpr):qa8 x=some (xOk x):=by
 rw[qa8,zaaa];unfold qa8_f xOk;simp only[zafm,zadi,Option.bind_some,cand,cor]
mutual
noncomputable def eF:TExpr→Bool
 |⟨k,n,m,l⟩=>xOk ⟨k,n,m,l⟩&&eFs l
noncomputable def eFs:List TExpr→Bool
 |[]=>true
 |x::l=>eF x&&eFs l
end
theorem zasx:∀ l,eFs l=l.all eF
 |[]=>by rw[eFs]; rfl
 |x::l=>by rw[eFs,List.all_cons,zasx l]
theorem eF_eq (x:TExpr):eF x=(xOk x&&x.args.all eF):=by cases x; rw[eF,zasx]
end Lift.A3
namespace Lift.A3
open Go Go.RowKit Lift Go.IntWalk Lift.Fn
set_option linter.unusedVariables false
set_option linter.unusedSimpArgs false
def shs:List (Int×Shape):=(zaag (11:Int) (Shape.mk false false false true true false) (zaag (10:Int) (Shape.mk false false true false true true) (zaag (9:Int) (Shape.mk false false true false false false) (zaag (8:Int) (Shape.mk false true false false false false) (zaag (7:Int) (Shape.mk false true false false false false) (zaag (6:Int) (Shape.mk false true false false false false) (zaag (5:Int) (Shape.mk false true false false false false) (zaag (4:Int) (Shape.mk true true true false false false) (zaag (3:Int) (Shape.mk false true true false false false) (zaag (2:Int) (Shape.mk true true false false false false) (zaag (1:Int) (Shape.mk true false true false false false) [])))))))))))
def shp (k:Int):Shape:=Option.getD (mapAt shs k) (Shape.mk false false false false false false)
def inR (k:Int):Bool:=!(decide (k<1)||decide (k>11))
theorem zayb:qbe=some shs:=by rw[qbe,zaaa]; rfl
theorem zawu (k:Int):Option.isSome (mapAt shs k)=inR k:=by
 by_cases h:1≤k∧k≤11
 ·obtain ⟨h1,h2⟩:=h;have:k=1∨k=2∨k=3∨k=4∨k=5∨k=6∨k=7∨k=8∨k=9∨k=10∨k=11:=by omega
  rcases this with rfl|rfl|rfl|rfl|rfl|rfl|rfl|rfl|rfl|rfl|rfl<;>decide
 ·have e:inR k=false:=by
   unfold inR;rw[Bool.not_eq_false',Bool.or_eq_true,decide_eq_true_eq,decide_eq_true_eq];omega
  rw[e];have hs:shs=[(1,Shape.mk true false true false false false),(2,Shape.mk true true false false false false),(3,Shape.mk false true true false false false),(4,Shape.mk true true true false false false),(5,Shape.mk false true false false false false),(6,Shape.mk false true false false false false),(7,Shape.mk false true false false false false),(8,Shape.mk false true false false false false),(9,Shape.mk false false true false false false),(10,Shape.mk false false true false true true),(11,Shape.mk false false false true true false)]:=by decide
  have n:∀ c:Int,1≤c→c≤11→(c==k)=false:=by
   intro c h1 h2;rw[beq_eq_false_iff_ne];omega
  rw[hs];unfold mapAt;simp[List.find?_cons,n]
def none_ (x:TExpr):Bool:=((x.kind==0&&x.num==0)&&x.name==[])&&((x.args.length:Int)==0)
noncomputable def isOpt (t:List UInt8) (b:Bool):Bool:=(b&&isNm t)||(!b&&t==[])
theorem is1 (t:List UInt8) (b:Bool):qbc t b=some (isOpt t b):=by
 rw[qbc,zaaa];unfold qbc_f isOpt;simp only[zafm,zadi,Option.bind_some,cand,cor]
noncomputable def sOk (y:TStmt):Bool:=
 ((((((inR y.kind&&isOpt y.reg (shp y.kind).reg)&&isOpt y.name (shp y.kind).name)&&(((shp y.kind).expr&&y.expr.kind != 0)||(!(shp y.kind).expr&&none_ y.expr))) &&
  (y.count==0||(((shp y.kind).count&&decide (y.count>0))&&decide (y.count≤1000))))&&((shp y.kind).then_||((y.then_.length:Int)==0)))&&((shp y.kind).other||((y.else_.length:Int)==0)))
theorem zayj (y:TStmt):qbf y=some (sOk y):=by
 rw[qbf,zaaa];unfold qbf_f sOk;simp only[zayb,is1,zadi,Option.bind_some,cand,cor,zawu];rfl
mutual
noncomputable def sF:TStmt→Bool
 |⟨k,r,m,x,c,t,o⟩=>sOk ⟨k,r,m,x,c,t,o⟩&&((if zaay x then eF x else true)&&(sFs t&&sFs o))
noncomputable def sFs:List TStmt→Bool
 |[]=>true
 |x::l=>sF x&&sFs l
end
theorem zasg:∀ l,sFs l=l.all sF
 |[]=>by rw[sFs]; rfl
 |x::l=>by rw[sFs,List.all_cons,zasg l]
theorem sF_eq (y:TStmt):sF y=(sOk y&&((if zaay y.expr then eF y.expr else true)&&(sFs y.then_&&sFs y.else_))):=by cases y; rw[sF]
noncomputable def evOk:Ev→Bool
 |.s x _=>sOk x
 |.e x _=>xOk x
mutual
theorem evOkE:∀ (x:TExpr) (d:Int),(evE x d).all evOk=eF x
 |⟨k,n,m,l⟩,d=>by rw[evE,List.all_cons,zav5 l (d+1),eF]; rfl
theorem zav5:∀ (l:List TExpr) (d:Int),(evEs l d).all evOk=eFs l
 |[],d=>by rw[evEs,eFs]; rfl
 |x::l,d=>by rw[evEs,List.all_append,evOkE x d,zav5 l d,eFs]
end
mutual
theorem evOkS:∀ (x:TStmt) (d:Int),(evS x d).all evOk=sF x
 |⟨k,r,m,x,c,t,o⟩,d=>by
  rw[evS,List.all_cons,List.all_append,List.all_append,zam3 t (d+1),zam3 o (d+1),sF];cases zaay x with
  |true=>rw[if_pos rfl,if_pos rfl,evOkE]; rfl
  |false=>rw[if_neg (by simp),if_neg (by simp)]; rfl
theorem zam3:∀ (l:List TStmt) (d:Int),(evSs l d).all evOk=sFs l
 |[],d=>by rw[evSs,sFs]; rfl
 |x::l,d=>by rw[evSs,List.all_append,evOkS x d,zam3 l d,sFs]
end
theorem zaod : ∀ (l : List Ev) (b : Bool), l.foldlM (atEv (fun (x : TStmt) (d : Int) (s : Bool) => qba x d s) (fun (x : TExpr) (d : Int) (s : Bool) => qbb x d s)) b = some (b && l.all evOk)
 |[],b=>by simp
 |e::l,b=>by
  have e1:atEv (fun (x:TStmt) (d:Int) (s:Bool)=>qba x d s) (fun (x:TExpr) (d:Int) (s:Bool)=>qbb x d s) b e=some (b&&evOk e):=by
   cases e with
   |s x d=>show qba x d b=_; rw[qba,zaaa]; unfold qba_f; simp only[zakt,zayj,zadi,Option.bind_some,cand]; rfl
   |e x d=>show qbb x d b=_; rw[qbb,zaaa]; unfold qbb_f; simp only[zaaq,zax8,zadi,Option.bind_some,cand]; rfl
  rw[List.foldlM_cons,e1];show List.foldlM _ (b&&evOk e) l=_;rw[zaod l _,List.all_cons,Bool.and_assoc]
noncomputable def cOk (c:TCell):Bool:=(isNm c.name&&decide (c.init≥-2147483647))&&decide (c.init≤2147483647)
noncomputable def pOk (p:TProg):Bool:=p.cells.all cOk&&(p.mutexes.all isNm&&p.threads.all fun t=>isNm t.name&&sFs t.body)
theorem zao4 {α : Type} (f g : α → Bool) : ∀ l : List α, (l.all fun t => f t && g t) = (l.all f && l.all g)
 |[]=>rfl
 |x::l=>by
  rw[List.all_cons,List.all_cons,List.all_cons,zao4 f g l];cases f x<;>cases g x<;>cases l.all f<;>rfl
theorem zaxp (p:TProg) (h:nT p.threads≤100000000) (h1:p.cells.length≤100000000) (h2:p.mutexes.length≤100000000):qa9 p=some (pOk p):=by
 rw[qa9,zaaa];unfold qa9_f;have hl:=zako p.threads
 have e1 := zan3 (σ := Bool) p.cells (fun _ _ => True) (fun r s => (p.cells, p.mutexes, p.threads, s && r.all cOk)) (fun m i s => qa9_i3 m p.cells p.cells.length i p.cells p.mutexes p.threads s)
  (fun m i s h0 h hI=>by simp only[qa9_i3,qa9_t3,decide_eq_false h,cond_false,List.all_nil,Bool.and_true])
  (fun m i s y r h0 h hy hm hI=>by
   refine Or.inl ⟨s&&cOk y,trivial,?_,by rw[List.all_cons,Bool.and_assoc]⟩;simp only[qa9_i3,qa9_t3,decide_eq_true h,decide_eq_true h0,hy,Option.bind_some,cond_true,zafm,zadi,cand];rw[i64_in (i+1) (by omega),cOk,Bool.and_assoc,Bool.and_assoc,Bool.and_assoc])
  fuel true (by unfold fuel; omega) trivial
 have e2 := fun s => zan3 (σ := Bool) p.mutexes (fun _ _ => True) (fun r s => (p.cells, p.mutexes, p.threads, s && r.all isNm)) (fun m i s => qa9_i8 m p.mutexes p.mutexes.length i p.cells p.mutexes p.threads s)
  (fun m i s h0 h hI=>by simp only[qa9_i8,qa9_t8,decide_eq_false h,cond_false,List.all_nil,Bool.and_true])
  (fun m i s y r h0 h hy hm hI=>by
   refine Or.inl ⟨s&&isNm y,trivial,?_,by rw[List.all_cons,Bool.and_assoc]⟩;simp only[qa9_i8,qa9_t8,decide_eq_true h,decide_eq_true h0,hy,Option.bind_some,cond_true,zafm,zadi,cand];rw[i64_in (i+1) (by omega)])
  fuel s (by unfold fuel; omega) trivial
 have e3 := fun s => zan3 (σ := Bool) p.threads (fun _ _ => True) (fun r s => (p.cells, p.mutexes, p.threads, s && r.all fun t => isNm t.name)) (fun m i s => qa9_i13 m p.threads p.threads.length i p.cells p.mutexes p.threads s)
  (fun m i s h0 h hI=>by simp only[qa9_i13,qa9_t13,decide_eq_false h,cond_false,List.all_nil,Bool.and_true])
  (fun m i s y r h0 h hy hm hI=>by
   refine Or.inl ⟨s&&isNm y.name,trivial,?_,by rw[List.all_cons,Bool.and_assoc]⟩;simp only[qa9_i13,qa9_t13,decide_eq_true h,decide_eq_true h0,hy,Option.bind_some,cond_true,zafm,zadi,cand];rw[i64_in (i+1) (by omega)])
  fuel s (by unfold fuel; omega) trivial
 rw[qa9_l3,zaaa,e1,Option.bind_some];simp only;rw[qa9_l8,zaaa,e2,Option.bind_some];simp only;rw[qa9_l13,zaaa,e3,Option.bind_some];simp only[zagx];rw[wP p _ (by omega),zaod];have ef:(evP p).all evOk=p.threads.all fun t=>sFs t.body:=by
  unfold evP;generalize p.threads=l;induction l with
  |nil=>rfl
  |cons t l ih=>rw[List.flatMap_cons,List.all_append,ih,List.all_cons,zam3]
 rw[ef,pOk,zao4];cases p.cells.all cOk<;>cases p.mutexes.all isNm<;>cases p.threads.all (fun t=>isNm t.name)<;>cases p.threads.all (fun t=>sFs t.body)<;>rfl
end Lift.A3
namespace Lift.A3
open Go Go.RowKit Lift Go.IntWalk Lift.Fn
set_option linter.unusedVariables false
set_option linter.unusedSimpArgs false
noncomputable def zaco (p:TProg):Int:=
 bif !pOk p then 30 else bif decide (maxEv (evP p) 0>16) then 31 else bif decide ((cT p.threads:Int)>500) then 32 else 0
theorem zavf (p:TProg) (h:nT p.threads≤100000000) (h1:p.cells.length≤100000000) (h2:p.mutexes.length≤100000000):qa7 p=some (zaco p):=by
 rw[qa7,zaaa];unfold qa7_f zaco;rw[zagx,zaxp p h h1 h2,zaqc p (by omega),zaow p (by omega)];simp only[Option.bind_some,zadi]
end Lift.A3
namespace Lift.A4
open Go Go.RowKit Lift Go.IntWalk Lift.Fn Lift.A1P Lift.A3
set_option linter.unusedVariables false
set_option linter.unusedSimpArgs false
theorem zax5 {α:Type} {l:List α} (h:l.length=2):∃ a b,l=[a,b]:=by
 match l,h with
 |[a,b],_=>exact ⟨a,b,rfl⟩
theorem zaft {x:TExpr} (h:eF x=true):(x.kind=1∧x.args=[]∧0≤x.num∧x.num≤2147483647∧x.name=[])∨(x.kind=2∧x.args=[]∧isNm x.name=true∧x.num=0) ∨
  ((x.kind=3∨x.kind=4)∧(∃ a,x.args=[a]∧eF a=true)∧x.num=0∧x.name=[])∨(5≤x.kind∧x.kind≤17∧(∃ a b,x.args=[a,b]∧eF a=true∧eF b=true)∧x.num=0∧x.name=[]):=by
 rw[eF_eq,Bool.and_eq_true] at h;obtain ⟨h,ha⟩:=h;unfold xOk at h;by_cases h1:x.kind=1
 ·have e:(x.kind==1)=true:=by simp[h1]
  rw[e,cond_true] at h;simp only[Bool.and_eq_true,decide_eq_true_eq,beq_iff_eq] at h;obtain ⟨⟨⟨a,b⟩,c⟩,d⟩:=h;exact .inl ⟨h1,List.eq_nil_of_length_eq_zero (by omega),a,b,c⟩
 have e1:(x.kind==1)=false:=by simp[h1]
 rw[e1,cond_false] at h;by_cases h2:x.kind=2
 ·have e:(x.kind==2)=true:=by simp[h2]
  rw[e,cond_true] at h;simp only[Bool.and_eq_true,decide_eq_true_eq,beq_iff_eq] at h;obtain ⟨⟨a,b⟩,d⟩:=h;exact .inr (.inl ⟨h2,List.eq_nil_of_length_eq_zero (by omega),a,b⟩)
 have e2:(x.kind==2)=false:=by simp[h2]
 rw[e2,cond_false] at h;by_cases h3:x.kind=3∨x.kind=4
 ·have e:((x.kind==3)||(x.kind==4))=true:=by rcases h3 with h|h<;>simp[h]
  rw[e,cond_true] at h;simp only[Bool.and_eq_true,decide_eq_true_eq,beq_iff_eq] at h;obtain ⟨⟨⟨_,hl⟩,b⟩,d⟩:=h;obtain ⟨a,hargs⟩:∃ a,x.args=[a]:=List.length_eq_one_iff.1 (by omega);rw[hargs] at ha;simp only[List.all_cons,List.all_nil,Bool.and_true] at ha;exact .inr (.inr (.inl ⟨h3,⟨a,hargs,ha⟩,b,d⟩))
 ·have e:((x.kind==3)||(x.kind==4))=false:=by
   simp only[not_or] at h3;simp[h3.1,h3.2]
  rw[e,cond_false] at h;simp only[Bool.and_eq_true,decide_eq_true_eq,beq_iff_eq] at h;obtain ⟨⟨⟨⟨q1,q2⟩,hl⟩,b⟩,d⟩:=h;obtain ⟨a,c,hargs⟩:∃ a b,x.args=[a,b]:=zax5 (by omega);rw[hargs] at ha;simp only[List.all_cons,List.all_nil,Bool.and_true,Bool.and_eq_true] at ha;exact .inr (.inr (.inr ⟨by omega,q2,⟨a,c,hargs,ha⟩,b,d⟩))
theorem zabc {t:List UInt8} (h:isNm t=true):t.length≤64:=by
 have h1:=zafm t;rw[h] at h1;rw[qbd,zaaa] at h1;unfold qbd_f at h1;by_cases hl:((List.length t:Nat):Int)>64
 ·rw[decide_eq_true hl,cond_true] at h1;cases h1
 ·omega
def lvO (k:Int):Int:=if k=17 then 1 else if k=16 then 2 else if 10≤k then 3 else if k≤6 then 4 else 5
def lfO (k:Int):Int:=if k=17 then 1 else if k=16 then 2 else if 10≤k then 4 else if k≤6 then 4 else 5
def rtO (k:Int):Int:=if k=17 then 2 else if k=16 then 3 else if 10≤k then 4 else if k≤6 then 5 else 6
def sgO (k:Int):List UInt8:=
 if k=17 then [124,124] else if k=16 then [38,38] else if k=10 then [61,61] else if k=11 then [33,61] else if k=12 then [60] else if k=13 then [60,61] else if k=14 then [62] else if k=15 then [62,61]
 else if k=5 then [43] else if k=6 then [45] else if k=7 then [42] else if k=8 then [47] else [37]
noncomputable def opsL:List (Int×Oper):=(qaQ.getD [])
theorem ops1:∃ l,qaQ=some l∧∀ k:Int,5≤k→k≤17→Option.getD (mapAt l k) (Oper.mk [] 0 0 0)=⟨sgO k,lvO k,lfO k,rtO k⟩:=by
 rw[qaQ,zaaa];unfold qaQ_f;rw[qaQ_l3,zaaa];refine ⟨_,rfl,fun k h5 h17=>?_⟩;have:k=5∨k=6∨k=7∨k=8∨k=9∨k=10∨k=11∨k=12∨k=13∨k=14∨k=15∨k=16∨k=17:=by omega
 rcases this with rfl|rfl|rfl|rfl|rfl|rfl|rfl|rfl|rfl|rfl|rfl|rfl|rfl<;>rfl
theorem opsE:qaQ=some opsL:=by
 obtain ⟨l,h,_⟩:=ops1;unfold opsL;rw[h];rfl
theorem opsAt {k:Int} (h5:5≤k) (h17:k≤17):Option.getD (mapAt opsL k) (Oper.mk [] 0 0 0)=⟨sgO k,lvO k,lfO k,rtO k⟩:=by
 obtain ⟨l,h,h2⟩:=ops1;have:opsL=l:=by unfold opsL; rw[h]; rfl
 rw[this];exact h2 k h5 h17
theorem zase (k:Int):(sgO k).length≤2:=by
 unfold sgO;repeat' split
 all_goals simp
def xT:TExpr→Int→List UInt8
 |⟨kd,m,s,[]⟩,_=>if kd=1 then Lib.itoa m else s
 |⟨kd,_,_,[a]⟩,_=>(if kd=3 then [45] else [33])++xT a 6
 |⟨kd,_,_,a::b::_⟩,q=>if lvO kd<q then [40]++xT a (lfO kd)++([32]++sgO kd++[32])++xT b (rtO kd)++[41] else xT a (lfO kd)++([32]++sgO kd++[32])++xT b (rtO kd)
termination_by x _=>sizeOf x
decreasing_by all_goals simp_wf<;>omega
theorem zamv {x:TExpr} (h1:x.kind=1) (h2:x.args=[]) (q:Int):xT x q=Lib.itoa x.num:=by
 obtain ⟨k,n,s,l⟩:=x;simp only at h1 h2;subst h1 h2;rw[xT,if_pos rfl]
theorem zahg {x:TExpr} (h1:x.kind=2) (h2:x.args=[]) (q:Int):xT x q=x.name:=by
 obtain ⟨k,n,s,l⟩:=x;simp only at h1 h2;subst h1 h2;rw[xT,if_neg (by decide)]
theorem zaj3 {x a:TExpr} (h2:x.args=[a]) (q:Int):xT x q=(if x.kind=3 then [45] else [33])++xT a 6:=by
 obtain ⟨k,n,s,l⟩:=x;simp only at h2;subst h2;rw[xT]
theorem zaiz {x a b:TExpr} (h2:x.args=[a,b]) (q:Int):xT x q=if lvO x.kind<q then [40]++xT a (lfO x.kind)++([32]++sgO x.kind++[32])++xT b (rtO x.kind)++[41] else xT a (lfO x.kind)++([32]++sgO x.kind++[32])++xT b (rtO x.kind):=by
 obtain ⟨k,n,s,l⟩:=x;simp only at h2;subst h2;rw[xT]
theorem zajm {x a:TExpr} (h:x.args=[a]):nE x=1+nE a:=by
 obtain ⟨k,n,s,l⟩:=x;simp only at h;subst h;simp[nE,nEs]
theorem zahf {x a b:TExpr} (h:x.args=[a,b]):nE x=1+nE a+nE b:=by
 obtain ⟨k,n,s,l⟩:=x;simp only at h;subst h;simp only[nE,nEs];omega
theorem zaqi {x:TExpr} (h:x.args=[]):nE x=1:=by
 obtain ⟨k,n,s,l⟩:=x;simp only at h;subst h;simp[nE,nEs]
theorem zakc:∀ (k:Nat) (x:TExpr) (q:Int),nE x≤k→eF x=true→(xT x q).length≤80*nE x:=by
 intro k;induction k with
 |zero=>intro x q h; have:=nE_eq x; omega
 |succ k ih=>
  intro x q hk h;rcases zaft h with ⟨h1,h2,h3,h4,_⟩|⟨h1,h2,h3,_⟩|⟨h1,⟨a,h2,h3⟩,_⟩|⟨h1,h2,⟨a,b,h3,h4,h5⟩,_⟩
  ·rw[zamv h1 h2,zaqi h2];have:=Lib.itoa_length_le x.num (by omega) (by omega);omega
  ·rw[zahg h1 h2,zaqi h2];have:=zabc h3;omega
  ·rw[zaj3 h2];rw[zajm h2] at hk ⊢;have:=ih a 6 (by omega) h3;rw[List.length_append];have:((if x.kind=3 then [45] else [33]:List UInt8)).length=1:=by split<;>rfl
   omega
  ·rw[zaiz h3];rw[zahf h3] at hk ⊢;have i1:=ih a (lfO x.kind) (by omega) h4;have i2:=ih b (rtO x.kind) (by omega) h5;have i3:=zase x.kind;split<;>(simp only[List.length_append,List.length_cons,List.length_nil]; omega)
theorem zab9 (a b:List UInt8):ofStr (a++b)=ofStr a++ofStr b:=by unfold ofStr; rw[List.map_append]
theorem zaas (a:List UInt8):(ofStr a).length=a.length:=by unfold ofStr; rw[List.length_map]
theorem zarp (a:List UInt8):bytesOf (ofStr a)=a:=by
 unfold bytesOf ofStr;rw[List.map_map];have:(fun n:Int=>UInt8.ofNat n.toNat)∘(fun b:UInt8=>((b.toNat:Nat):Int))=id:=by
  funext b;show UInt8.ofNat ((b.toNat:Nat):Int).toNat=b;rw[Int.toNat_natCast];simp
 rw[this,List.map_id]
theorem zawm (a:List UInt8):∀ n∈ofStr a,0≤n∧n<256:=by
 intro n hn;unfold ofStr at hn;obtain ⟨b,_,rfl⟩:=List.mem_map.1 hn;have:=b.toNat_lt;omega
theorem zal2 {v:Int} (h0:-9223372036854775808≤v) (h1:v≤9223372036854775807):zabl v=some (Lib.itoa v):=by
 rw[zabl,zaaa];unfold zaff;rw[decide_eq_true ⟨h0,h1⟩,cond_true]
theorem zadw {P:Prop} [Decidable P] (h:P) {α:Type} (x y:α):cond (decide P) x y=x:=by rw[decide_eq_true h]; rfl
theorem zafl (t:List UInt8) (o:List (Int×Oper)) (b:List Int) (h:b.length+t.length≤140000000000000):qa0 t o b=some (((t.length:Nat):Int),false,o,b++ofStr t):=by
 rw[qa0,zaaa];unfold qa0_f;exact zadw ⟨by omega,by omega⟩ _ _
theorem zawl (R:TExpr→Int→List (Int×Oper)→List Int→Option ((List (Int×Oper))×(List Int))) (c:Int) (o:List (Int×Oper)) (b:List Int) (h:b.length≤140000000000000):qaZ R c o b=some (false,o,b++[c]):=by
 rw[qaZ,zaaa];unfold qaZ_f;exact zadw (by simp only[List.length_cons,List.length_nil]; omega) _ _
theorem exprW:∀ (k n:Nat) (x:TExpr) (q:Int) (b:List Int),nE x≤k→k<n→eF x=true→b.length+80*nE x≤100000000000000 →
  qaS_i n x q opsL b=some (opsL,b++ofStr (xT x q)):=by
 intro k;induction k with
 |zero=>intro n x q b h; have:=nE_eq x; omega
 |succ k ih=>
  intro n x q b hk hn h hb;obtain ⟨n,rfl⟩:∃ m,n=m+1:=⟨n-1,by omega⟩;show qaS_f (qaS_i n) x q opsL b=_;unfold qaS_f;have hlen:=zakc (k+1) x q hk h;rcases zaft h with ⟨h1,h2,h3,h4,_⟩|⟨h1,h2,h3,_⟩|⟨h1,⟨a,h2,h3⟩,_⟩|⟨h1,h2,⟨a,c,h3,h4,h5⟩,_⟩
  ·have e:(x.kind==1)=true:=by simp[h1]
   rw[e,cond_true,zal2 (by omega) (by omega),Option.bind_some];rw[zamv h1 h2] at hlen ⊢;rw[zafl _ _ _ (by omega),Option.bind_some]
  ·have e1:(x.kind==1)=false:=by simp[h1]
   have e:(x.kind==2)=true:=by simp[h1]
   rw[zahg h1 h2] at hlen ⊢;rw[e1,cond_false,e,cond_true,zafl _ _ _ (by omega),Option.bind_some]
  ·have e1:(x.kind==1)=false:=by rcases h1 with h|h<;>simp[h]
   have e2:(x.kind==2)=false:=by rcases h1 with h|h<;>simp[h]
   rw[e1,cond_false,e2,cond_false];rw[zajm h2] at hk hb;have g0:(x.args)[(0:Nat)]? = some a:=by rw[h2]; rfl
   rw[zaj3 h2] at hlen ⊢;rcases h1 with h1|h1
   ·have e3:(x.kind==3)=true:=by simp[h1]
    have m1:Option.getD (mapAt (zaag (4:Int) [(33:UInt8)] (zaag (3:Int) [(45:UInt8)] [])) x.kind) []=[45]:=by rw[h1]; rfl
    have m2:Option.getD (mapAt (zaag (3:Int) [(45:UInt8)] (zaag (4:Int) [(33:UInt8)] [])) x.kind) []=[45]:=by rw[h1]; rfl
    rw[e3,cond_true,cond_true,m1,m2,zaos,zafl _ _ _ (by simp only[List.length_cons,List.length_nil]; omega),Option.bind_some,g0,Option.bind_some];dsimp only;rw[ih n a 6 _ (by omega) (by omega) h3 (by simp only[List.length_append,zaas,List.length_cons,List.length_nil]; omega),Option.bind_some,if_pos h1,zab9,List.append_assoc]
   ·have e3:(x.kind==3)=false:=by simp[h1]
    have e4:(x.kind==4)=true:=by simp[h1]
    have m1:Option.getD (mapAt (zaag (4:Int) [(33:UInt8)] (zaag (3:Int) [(45:UInt8)] [])) x.kind) []=[33]:=by rw[h1]; rfl
    have m2:Option.getD (mapAt (zaag (3:Int) [(45:UInt8)] (zaag (4:Int) [(33:UInt8)] [])) x.kind) []=[33]:=by rw[h1]; rfl
    have h13:¬ x.kind=3:=by omega
    rw[e3,cond_false,e4,cond_true,m1,m2,zaos,zafl _ _ _ (by simp only[List.length_cons,List.length_nil]; omega),Option.bind_some,g0,Option.bind_some];dsimp only;rw[ih n a 6 _ (by omega) (by omega) h3 (by simp only[List.length_append,zaas,List.length_cons,List.length_nil]; omega),Option.bind_some,if_neg h13,zab9,List.append_assoc]
  ·have e1:(x.kind==1)=false:=by simp; omega
   have e2:(x.kind==2)=false:=by simp; omega
   have e3:(x.kind==3)=false:=by simp; omega
   have e4:(x.kind==4)=false:=by simp; omega
   rw[e1,cond_false,e2,cond_false,e3,cond_false,e4,cond_false,opsAt h1 h2];rw[zahf h3] at hk hb;have g0:(x.args)[(0:Nat)]? = some a:=by rw[h3]; rfl
   have g1:(x.args)[(1:Nat)]? = some c:=by rw[h3]; rfl
   have ls:=zase x.kind;have la:=zakc (k+1) a (lfO x.kind) (by omega) h4;have lc:=zakc (k+1) c (rtO x.kind) (by omega) h5;dsimp only;rw[zaiz h3];by_cases hp:lvO x.kind<q
   ·rw[decide_eq_true hp,cond_true,if_pos hp,zawl _ _ _ _ (by omega),Option.bind_some,g0,Option.bind_some];dsimp only;rw[ih n a _ _ (by omega) (by omega) h4 (by simp only[List.length_append,List.length_cons,List.length_nil]; omega),Option.bind_some];dsimp only;refine (zadw (by omega) _ _).trans ?_;refine (zadw (by simp only[List.length_append,List.length_cons,List.length_nil]; omega) _ _).trans ?_;rw[zafl _ _ _ (by simp only[List.length_append,zaas,List.length_cons,List.length_nil]; omega),Option.bind_some,g1,Option.bind_some];dsimp only;rw[ih n c _ _ (by omega) (by omega) h5 (by simp only[List.length_append,zaas,List.length_cons,List.length_nil]; omega),Option.bind_some];dsimp only;refine (zadw (by simp only[List.length_append,zaas,List.length_cons,List.length_nil]; omega) _ _).trans ?_;simp only[zab9,List.append_assoc];rfl
   ·rw[decide_eq_false hp,cond_false,if_neg hp,g0,Option.bind_some];rw[ih n a _ _ (by omega) (by omega) h4 (by omega),Option.bind_some];dsimp only;refine (zadw (by omega) _ _).trans ?_;refine (zadw (by simp only[List.length_append,List.length_cons,List.length_nil]; omega) _ _).trans ?_;rw[zafl _ _ _ (by simp only[List.length_append,zaas,List.length_cons,List.length_nil]; omega),Option.bind_some,g1,Option.bind_some];dsimp only;rw[ih n c _ _ (by omega) (by omega) h5 (by simp only[List.length_append,zaas,List.length_cons,List.length_nil]; omega),Option.bind_some];simp only[zab9,List.append_assoc]
theorem zash (t:List UInt8):zabg (ofStr t)=some t:=by
 rw[zabg,zaaa];unfold zacu;have:(ofStr t).all (fun n=>decide (0≤n∧n<256))=true:=by
  rw[List.all_eq_true];intro n hn;simpa using zawm t n hn
 rw[this,cond_true,zarp]
theorem textW {x:TExpr} (h:eF x=true) (hs:nE x≤1000000000) (b:List Int):qaV x opsL b=some (xT x 1,opsL,b):=by
 rw[qaV,zaaa];unfold qaV_f;rw[zaaq,qaS,zaaa,exprW (nE x) fuel x 1 [] (Nat.le_refl _) (by unfold fuel; omega) h (by simp only[List.length_nil]; omega),Option.bind_some,List.nil_append];dsimp only;rw[zash,Option.bind_some]
end Lift.A4
namespace Lift.A1P
open Go Go.RowKit Lift Go.IntWalk Lift.Fn
end Lift.A1P
namespace Lift.A1P
open Go Go.RowKit Lift Go.IntWalk Lift.Fn
def core (t:Token):Int×List UInt8×Int:=(t.kind,t.text,t.num)
end Lift.A1P
namespace Lift.A4
open Go Go.RowKit Lift Go.IntWalk Lift.Fn Lift.A1P
set_option linter.unusedVariables false
abbrev Tk:=Int×List UInt8×Int
def Ends (l:List Token):Prop:=∃ u e,l=u++[e]∧e.kind=5
theorem zafw {l:List Token} (h:Ends l):∃ t r,l=t::r:=by
 obtain ⟨u,e,rfl,_⟩:=h;cases u with
 |nil=>exact ⟨e,[],rfl⟩
 |cons a u=>exact ⟨a,u++[e],rfl⟩
theorem zae5 {t:Token} {r:List Token} (h:Ends (t::r)) (hk:t.kind≠5):Ends r:=by
 obtain ⟨u,e,he,h5⟩:=h;cases u with
 |nil=>
  simp only[List.nil_append,List.cons.injEq] at he;exact absurd (he.1▸h5) hk
 |cons a u=>
  simp only[List.cons_append,List.cons.injEq] at he;exact ⟨u,e,he.2,h5⟩
variable {R S X Y:Type}
def GoodT (P:List Token→Option R) (ok:X→List Token→R) (bad:Wrong→R) (C:X→List Tk→Prop) (ts:List Token):Prop:=
  ∃ (u:List Token) (t:Token) (r:List Token),ts=u++t::r∧Ends (t::r) ∧
    ((∃ x,C x (u.map core)∧∀ u' t' r',List.map core u'=List.map core u→core t'=core t→P (u'++t'::r')=some (ok x (t'::r'))) ∨
     (∀ u' t' r',List.map core u'=List.map core u→core t'=core t→P (u'++t'::r')=some (bad ⟨t'.at_⟩)))
theorem zacd {P:List Token→Option R} {ok:X→List Token→R} {bad:Wrong→R} {C D:X→List Tk→Prop} {ts:List Token}
  (h:GoodT P ok bad C ts) (hc:∀ x n,n.length<ts.length→C x n→D x n):GoodT P ok bad D ts:=by
 obtain ⟨u,t,r,h1,h2,h3⟩:=h;refine ⟨u,t,r,h1,h2,?_⟩;rcases h3 with ⟨x,c,h⟩|h
 ·refine .inl ⟨x,hc x _ ?_ c,h⟩;rw[h1,List.length_append,List.length_cons,List.length_map];omega
 ·exact .inr h
theorem zaak (ok:X→List Token→R) (bad:Wrong→R) {C:X→List Tk→Prop} {ts:List Token} (x:X) (he:Ends ts) (hc:C x []) :
  GoodT (fun z=>some (ok x z)) ok bad C ts:=by
 obtain ⟨t,r,rfl⟩:=zafw he;refine ⟨[],t,r,rfl,he,.inl ⟨x,hc,fun u' t' r' hu ht=>?_⟩⟩
 have:u'=[]:=by cases u' with
  |nil=>rfl
  |cons a u'=>cases hu
 rw[this];rfl
theorem zaau {P:List Token→Option R} {ok:X→List Token→R} {bad:Wrong→R} {C:X→List Tk→Prop} {ts:List Token}
  {F:R→Option S} {ok':Y→List Token→S} {bad':Wrong→S} {D:Y→List Tk→Prop}
  (h:GoodT P ok bad C ts)
  (hk:∀ x n t1,C x n→Ends t1→n.length+t1.length=ts.length→GoodT (fun z=>F (ok x z)) ok' bad' (fun y m=>D y (n++m)) t1)
  (hb:∀ w,F (bad w)=some (bad' w)):GoodT (fun z=>Option.bind (P z) F) ok' bad' D ts:=by
 obtain ⟨u,t,r,rfl,h2,h3⟩:=h;rcases h3 with ⟨x,c,h⟩|h
 ·obtain ⟨u2,t2,r2,e,h5,h6⟩:=hk x (u.map core) (t::r) c h2 (by rw[List.length_append,List.length_map]);refine ⟨u++u2,t2,r2,by rw[e,List.append_assoc],h5,?_⟩;have key:∀ u' t' r',List.map core u'=List.map core (u++u2)→core t'=core t2→∃ v w,u'=v++w∧List.map core w=List.map core u2∧P (u'++t'::r')=some (ok x (w++t'::r')):=by
   intro u' t' r' hu ht;refine ⟨u'.take u.length,u'.drop u.length,(List.take_append_drop _ _).symm,?_,?_⟩
   ·rw[List.map_drop,hu,List.map_append,← List.length_map (f:=core),List.drop_left]
   ·have e1:List.map core (u'.take u.length)=List.map core u:=by
     rw[List.map_take,hu,List.map_append,← List.length_map (f:=core),List.take_left]
    have e2:List.map core (u'.drop u.length)=List.map core u2:=by
     rw[List.map_drop,hu,List.map_append,← List.length_map (f:=core),List.drop_left]
    rw[show u'++t'::r'=u'.take u.length++(u'.drop u.length++t'::r') by rw[← List.append_assoc,List.take_append_drop]];generalize u'.drop u.length=w at e2 ⊢;cases u2 with
    |nil=>
     have:w=[]:=by cases w with
      |nil=>rfl
      |cons a w=>cases e2
     rw[this];simp only[List.nil_append,List.cons.injEq] at e;exact h _ _ _ e1 (by rw[ht,e.1])
    |cons a u2=>
     cases w with
     |nil=>cases e2
     |cons b w=>
      simp only[List.map_cons,List.cons.injEq] at e2;simp only[List.cons_append,List.cons.injEq] at e;exact h _ _ _ e1 (by rw[e2.1,e.1])
  rcases h6 with ⟨y,d,h7⟩|h7
  ·refine .inl ⟨y,by rw[List.map_append]; exact d,fun u' t' r' hu ht=>?_⟩;obtain ⟨v,w,rfl,hw,hp⟩:=key u' t' r' hu ht;show Option.bind (P _) F=_;rw[hp,Option.bind_some];exact h7 w t' r' hw ht
  ·refine .inr fun u' t' r' hu ht=>?_
   obtain ⟨v,w,rfl,hw,hp⟩:=key u' t' r' hu ht;show Option.bind (P _) F=_;rw[hp,Option.bind_some];exact h7 w t' r' hw ht
 ·refine ⟨u,t,r,rfl,h2,.inr fun u' t' r' hu ht=>?_⟩;show Option.bind (P _) F=_;rw[h u' t' r' hu ht,Option.bind_some,hb]
theorem zaeb {P:List Token→Option R} {Q:List Token→Option R} {ok:X→List Token→R} {bad:Wrong→R} {C:X→List Tk→Prop} {t:Token} {r:List Token}
  (h:GoodT Q ok bad (fun x n=>C x (core t::n)) r) (hp:∀ t' z,core t'=core t→z≠[]→P (t'::z)=Q z):GoodT P ok bad C (t::r):=by
 obtain ⟨u,s,q,rfl,h2,h3⟩:=h;refine ⟨t::u,s,q,rfl,h2,?_⟩;have key:∀ u' t' r',List.map core u'=List.map core (t::u)→∃ v,List.map core v=List.map core u∧P (u'++t'::r')=Q (v++t'::r'):=by
  intro u' t' r' hu;cases u' with
  |nil=>cases hu
  |cons a v=>
   simp only[List.map_cons,List.cons.injEq] at hu;exact ⟨v,hu.2,hp a _ hu.1 (by simp)⟩
 rcases h3 with ⟨x,c,h⟩|h
 ·refine .inl ⟨x,c,fun u' t' r' hu ht=>?_⟩;obtain ⟨v,hv,e⟩:=key u' t' r' hu;rw[e,h v t' r' hv ht]
 ·refine .inr fun u' t' r' hu ht=>?_
  obtain ⟨v,hv,e⟩:=key u' t' r' hu;rw[e,h v t' r' hv ht]
theorem zam7 {P:List Token→Option R} {Q:List Token→Option R} {ok:X→List Token→R} {bad:Wrong→R} {C:X→List Tk→Prop} {t:Token} {r:List Token}
  (h:GoodT Q ok bad C (t::r)) (hp:∀ t' z,core t'=core t→P (t'::z)=Q (t'::z)):GoodT P ok bad C (t::r):=by
 obtain ⟨u,s,q,e,h2,h3⟩:=h;refine ⟨u,s,q,e,h2,?_⟩;have key:∀ u' t' r',List.map core u'=List.map core u→core t'=core s→P (u'++t'::r')=Q (u'++t'::r'):=by
  intro u' t' r' hu ht;cases u with
  |nil=>
   have:u'=[]:=by cases u' with
    |nil=>rfl
    |cons a v=>cases hu
   subst this;simp only[List.nil_append,List.cons.injEq] at e ⊢;exact hp t' r' (by rw[ht,e.1])
  |cons a u=>
   cases u' with
   |nil=>cases hu
   |cons b v=>
    simp only[List.map_cons,List.cons.injEq] at hu;simp only[List.cons_append,List.cons.injEq] at e ⊢;exact hp b _ (by rw[hu.1,e.1])
 rcases h3 with ⟨x,c,h⟩|h
 ·exact .inl ⟨x,c,fun u' t' r' hu ht=>by rw[key u' t' r' hu ht,h u' t' r' hu ht]⟩
 ·exact .inr fun u' t' r' hu ht=>by rw[key u' t' r' hu ht,h u' t' r' hu ht]
theorem zagg {P:List Token→Option R} {ok:X→List Token→R} {bad:Wrong→R} {C:X→List Tk→Prop} {t:Token} {r:List Token} (he:Ends (t::r))
  (hp:∀ t' z,core t'=core t→P (t'::z)=some (bad ⟨t'.at_⟩)):GoodT P ok bad C (t::r):=by
 refine ⟨[],t,r,rfl,he,.inr fun u' t' r' hu ht=>?_⟩
 have:u'=[]:=by cases u' with
  |nil=>rfl
  |cons a v=>cases hu
 subst this;exact hp t' r' ht
end Lift.A4
namespace Lift.A4
open Go Go.RowKit Lift Go.IntWalk Lift.Fn Lift.A1P
set_option linter.unusedVariables false
set_option linter.unusedSimpArgs false
theorem next1 (t:Token) (r:List Token):qax (t::r)=some (t,t::r):=by
 rw[qax,zaaa]; rfl
def hit (s:List UInt8) (t:Token):Bool:=(bif t.kind==4 then true else t.kind==3)&&t.text==s
theorem is1 (s:List UInt8) (t:Token) (r:List Token):qav s (t::r)=some (hit s t,t::r):=by
 rw[qav,zaaa];unfold qav_f hit;rw[next1,Option.bind_some];cases t.kind==4<;>cases t.kind==3<;>rfl
theorem take1 (t:Token) (r:List Token):qaD (t::r)=some (t,r):=by
 rw[qaD,zaaa];unfold qaD_f;rw[next1,Option.bind_some];dsimp only;have e:(decide ((0:Int)≤(1:Int))&&(decide ((1:Int)≤(↑(List.length (t::r)):Int))&&decide ((↑(List.length (t::r)):Int)≤(↑(List.length (t::r)):Int))))=true:=by
  simp only[Bool.and_eq_true,decide_eq_true_eq,List.length_cons];omega
 rw[e,cond_true];have:List.take (Int.toNat (↑(List.length (t::r)):Int)) (t::r)=t::r:=by
  rw[Int.toNat_natCast,List.take_length]
 rw[this];rfl
theorem took1 (s:List UInt8) (t:Token) (r:List Token):qaE s (t::r)=some (hit s t,bif hit s t then r else t::r):=by
 rw[qaE,zaaa];unfold qaE_f;rw[is1,Option.bind_some];dsimp only;cases h:hit s t with
 |false=>rfl
 |true=>rw[cond_true,take1]; rfl
theorem zan2 (t:Token) (r:List Token):qaB (t::r)=some ⟨t.at_⟩:=by
 rw[qaB,zaaa];unfold qaB_f;rw[next1];rfl
theorem of1 (k:Int) (t:Token) (r:List Token):qay k (t::r)=some (bif t.kind != k then .inr ⟨t.at_⟩ else .inl (t,r)):=by
 rw[qay,zaaa];unfold qay_f;rw[next1,Option.bind_some];dsimp only;cases t.kind != k with
 |true=>rw[cond_true,zan2]; rfl
 |false=>rw[cond_false,take1]; rfl
theorem name1 (t:Token) (r:List Token):qaw (t::r)=some (bif t.kind != 1 then .inr ⟨t.at_⟩ else .inl (t.text,r)):=by
 rw[qaw,zaaa];unfold qaw_f;rw[of1,Option.bind_some];cases t.kind != 1<;>rfl
theorem want1 (s:List UInt8) (t:Token) (r:List Token):qaG s (t::r)=some (bif hit s t then .inl r else .inr ⟨t.at_⟩):=by
 rw[qaG,zaaa];unfold qaG_f;rw[took1,Option.bind_some];cases hit s t with
 |true=>rfl
 |false=>
  simp only[Bool.not_false,cond_true,cond_false];rw[zan2];rfl
theorem zai5 {s:List UInt8} {t t':Token} (h:core t'=core t):hit s t'=hit s t:=by
 simp only[core,Prod.mk.injEq] at h;unfold hit;rw[h.1,h.2.1]
theorem zanz {s:List UInt8} {t:Token} (h:hit s t=true):t.kind≠5:=by
 intro h5;unfold hit at h;rw[h5] at h;cases h
variable {S X:Type} {ok:X→List Token→S} {bad:Wrong→S} {D:X→List Tk→Prop} {ts:List Token}
theorem zabe {s:List UInt8} {F:Bool×List Token→Option S} (he:Ends ts)
  (hy:∀ t r,hit s t=true→Ends r→r.length+1=ts.length→GoodT (fun z=>F (true,z)) ok bad (fun x n=>D x (core t::n)) r)
  (hn:(∀ t r,ts=t::r→hit s t=false)→GoodT (fun z=>F (false,z)) ok bad D ts):GoodT (fun z=>Option.bind (qaE s z) F) ok bad D ts:=by
 obtain ⟨t,r,rfl⟩:=zafw he;cases h:hit s t with
 |true=>
  refine zaeb (hy t r h (zae5 he (zanz h)) rfl) fun t' z ht _=>?_
  show Option.bind (qaE s (t'::z)) F=_;rw[took1,zai5 ht,h];rfl
 |false=>
  refine zam7 (hn (fun a b e=>by cases e; exact h)) fun t' z ht=>?_
  show Option.bind (qaE s (t'::z)) F=_;rw[took1,zai5 ht,h];rfl
theorem zabf {s:List UInt8} {F:(List Token)⊕Wrong→Option S} (he:Ends ts)
  (hy:∀ t r,hit s t=true→Ends r→r.length+1=ts.length→GoodT (fun z=>F (.inl z)) ok bad (fun x n=>D x (core t::n)) r)
  (hb:∀ w,F (.inr w)=some (bad w)):GoodT (fun z=>Option.bind (qaG s z) F) ok bad D ts:=by
 obtain ⟨t,r,rfl⟩:=zafw he;cases h:hit s t with
 |true=>
  refine zaeb (hy t r h (zae5 he (zanz h)) rfl) fun t' z ht _=>?_
  show Option.bind (qaG s (t'::z)) F=_;rw[want1,zai5 ht,h];rfl
 |false=>
  refine zagg he fun t' z ht=>?_
  show Option.bind (qaG s (t'::z)) F=_;rw[want1,zai5 ht,h,cond_false,Option.bind_some,hb]
theorem zac0 {F:((List UInt8)×List Token)⊕Wrong→Option S} (he:Ends ts)
  (hy:∀ t r,t.kind=1→Ends r→r.length+1=ts.length→GoodT (fun z=>F (.inl (t.text,z))) ok bad (fun x n=>D x (core t::n)) r)
  (hb:∀ w,F (.inr w)=some (bad w)):GoodT (fun z=>Option.bind (qaw z) F) ok bad D ts:=by
 obtain ⟨t,r,rfl⟩:=zafw he;by_cases h:t.kind=1
 ·refine zaeb (hy t r h (zae5 he (by rw[h]; decide)) rfl) fun t' z ht _=>?_
  show Option.bind (qaw (t'::z)) F=_;simp only[core,Prod.mk.injEq] at ht;have e:(t'.kind != 1)=false:=by rw[ht.1,h]; rfl
  rw[name1,e,cond_false,Option.bind_some,ht.2.1]
 ·refine zagg he fun t' z ht=>?_
  show Option.bind (qaw (t'::z)) F=_;simp only[core,Prod.mk.injEq] at ht;have e:(t'.kind != 1)=true:=by rw[ht.1]; simpa using h
  rw[name1,e,cond_true,Option.bind_some,hb]
theorem zaed {F:Token×List Token→Option S} (he:Ends ts)
  (hF:∀ c x n a b z,F (⟨c,x,n,a⟩,z)=F (⟨c,x,n,b⟩,z))
  (h:∀ t r,ts=t::r→GoodT (fun z=>F (t,z)) ok bad D (t::r)):GoodT (fun z=>Option.bind (qax z) F) ok bad D ts:=by
 obtain ⟨t,r,rfl⟩:=zafw he;refine zam7 (h t r rfl) fun t' z ht=>?_
 show Option.bind (qax (t'::z)) F=F (t,t'::z);rw[next1,Option.bind_some];simp only[core,Prod.mk.injEq] at ht;obtain ⟨c,x,n,a⟩:=t;obtain ⟨c',x',n',a'⟩:=t';obtain ⟨rfl,rfl,rfl⟩:=ht;exact hF _ _ _ _ _ _
theorem zanh {t:Token} {r:List Token} {F:Token×List Token→Option S} (he:Ends (t::r)) (hk:t.kind≠5)
  (hF:∀ c x n a b z,F (⟨c,x,n,a⟩,z)=F (⟨c,x,n,b⟩,z))
  (h:Ends r→GoodT (fun z=>F (t,z)) ok bad (fun x n=>D x (core t::n)) r):GoodT (fun z=>Option.bind (qaD z) F) ok bad D (t::r):=by
 refine zaeb (h (zae5 he hk)) fun t' z ht _=>?_
 show Option.bind (qaD (t'::z)) F=F (t,z);rw[take1,Option.bind_some];simp only[core,Prod.mk.injEq] at ht;obtain ⟨c,x,n,a⟩:=t;obtain ⟨c',x',n',a'⟩:=t';obtain ⟨rfl,rfl,rfl⟩:=ht;exact hF _ _ _ _ _ _
theorem zaq6 {F:Wrong→Option S} (he:Ends ts) (h:∀ w,F w=some (bad w)):GoodT (fun z=>Option.bind (qaB z) F) ok bad D ts:=by
 obtain ⟨t,r,rfl⟩:=zafw he;refine zagg he fun t' z ht=>?_
 show Option.bind (qaB (t'::z)) F=_;rw[zan2,Option.bind_some,h]
end Lift.A4
namespace Lift.A4
open Go Go.RowKit Lift Go.IntWalk Lift.Fn Lift.A1P Lift.A3
set_option linter.unusedVariables false
set_option linter.unusedSimpArgs false
abbrev RE:=(Int×Int×(List UInt8)×(List Token)×(List TExpr))⊕(Wrong)
abbrev R5:=((List Token)×Int×Int×(List UInt8)×Int×Int×(List UInt8)×(List TExpr))⊕(Wrong)
def okE (e:TExpr) (z:List Token):RE:=.inl (e.kind,e.num,e.name,z,e.args)
def ok5 (e:TExpr) (z:List Token):R5:=.inl (z,0,0,[],e.kind,e.num,e.name,e.args)
def hitc (s:List UInt8) (c:Tk):Bool:=(bif c.1==4 then true else c.1==3)&&c.2.1==s
theorem hit_c (s:List UInt8) (t:Token):hitc s (core t)=hit s t:=rfl
def LV:List (List ((List UInt8)×Int)):=
 [[([124,124],17)],[([38,38],16)],[([61,61],10),([33,61],11),([60],12),([60,61],13),([62],14),([62,61],15)],[([43],5),([45],6)],[([42],7),([47],8),([37],9)]]
theorem zanv:qas=some LV:=by
 rw[qas,zaaa];decide +kernel
def opAt (l:Nat) (c:Tk):Option Int:=if c.1=3 then (LV[l]?).bind (fun M=>mapAt M c.2.1) else none
inductive DE:Nat→TExpr→List Tk→Prop
 |up {l:Nat} {x:TExpr} {c:List Tk}:l<5→DE (l+1) x c→DE l x c
 |bin {l:Nat} {x y:TExpr} {c d:List Tk} {o:Tk} {k:Int}:l<5→l≠2→DE l x c→opAt l o=some k→DE (l+1) y d→DE l ⟨k,0,[],[x,y]⟩ (c++o::d)
 |cmp {x y:TExpr} {c d:List Tk} {o:Tk} {k:Int}:DE 3 x c→opAt 2 o=some k→DE 3 y d→DE 2 ⟨k,0,[],[x,y]⟩ (c++o::d)
 |neg {x:TExpr} {c:List Tk} {o:Tk}:hitc [45] o=true→DE 5 x c→DE 5 ⟨3,0,[],[x]⟩ (o::c)
 |not {x:TExpr} {c:List Tk} {o:Tk}:hitc [33] o=true→DE 5 x c→DE 5 ⟨4,0,[],[x]⟩ (o::c)
 |par {x:TExpr} {c:List Tk} {o q:Tk}:hitc [40] o=true→hitc [41] q=true→DE 0 x c→DE 5 x (o::(c++[q]))
 |num {o:Tk}:o.1=2→DE 5 ⟨1,o.2.2,[],[]⟩ [o]
 |reg {o:Tk}:o.1=1→DE 5 ⟨2,0,o.2.1,[]⟩ [o]
theorem zave (k n:Int) (s:List UInt8) (x:TExpr):nE (TExpr.mk k n s [x])=1+nE x:=by simp[nE,nEs]
theorem zavq (k n:Int) (s:List UInt8) (x y:TExpr):nE (TExpr.mk k n s [x,y])=1+nE x+nE y:=by simp only[nE,nEs]; omega
theorem zafq (k n:Int) (s:List UInt8):nE (TExpr.mk k n s [])=1:=by simp[nE,nEs]
theorem DE.size {l:Nat} {x:TExpr} {c:List Tk} (h:DE l x c):0<c.length∧nE x≤c.length:=by
 induction h with
 |up _ _ ih=>exact ih
 |bin _ _ _ _ _ ih1 ih2=>rw[zavq,List.length_append,List.length_cons]; omega
 |cmp _ _ _ ih1 ih2=>rw[zavq,List.length_append,List.length_cons]; omega
 |neg _ _ ih=>rw[zave,List.length_cons]; omega
 |not _ _ ih=>rw[zave,List.length_cons]; omega
 |par _ _ _ ih=>simp only[List.length_cons,List.length_append,List.length_nil]; omega
 |num _=>rw[zafq]; simp
 |reg _=>rw[zafq]; simp
theorem zay7 (E : Int → List Token → Option RE) (N : Nat) (hE : ∀ l, Ends l → l.length < N → GoodT (fun z => E 0 z) okE .inr (DE 0) l) :
  ∀ (f:Nat) (ts:List Token),Ends ts→ts.length<f→ts.length≤N→GoodT (fun z=>qaF_i E f z) okE .inr (DE 5) ts:=by
 intro f;induction f with
 |zero=>intro ts _ h; omega
 |succ f ih=>
  intro ts he hf hN;show GoodT (fun z=>qaF_f (qaF_i E f) E z) okE .inr (DE 5) ts;unfold qaF_f;refine zabe he (fun o r ho hr hl=>?_) (fun _=>?_)
  ·dsimp only[cond_true];refine zaau (ih r hr (by omega) (by omega)) (fun x n t1 c h1 h2=>?_) (fun w=>rfl);dsimp only[okE];refine zaak okE .inr (TExpr.mk 3 0 [] [TExpr.mk x.kind x.num x.name x.args]) h1 ?_;rw[zaaq,List.append_nil];exact .neg ho c
  dsimp only[cond_false];refine zabe he (fun o r ho hr hl=>?_) (fun _=>?_)
  ·dsimp only[cond_true];refine zaau (ih r hr (by omega) (by omega)) (fun x n t1 c h1 h2=>?_) (fun w=>rfl);dsimp only[okE];refine zaak okE .inr (TExpr.mk 4 0 [] [TExpr.mk x.kind x.num x.name x.args]) h1 ?_;rw[zaaq,List.append_nil];exact .not ho c
  dsimp only[cond_false];refine zabe he (fun o r ho hr hl=>?_) (fun _=>?_)
  ·dsimp only[cond_true];refine zaau (hE r hr (by omega)) (fun x n t1 c h1 h2=>?_) (fun w=>rfl);dsimp only[okE];refine zabf h1 (fun q r2 hq h3 h4=>?_) (fun w=>rfl);dsimp only;refine zaak okE .inr x h3 ?_;exact .par ho hq c
  dsimp only[cond_false];refine zaed he (fun _ _ _ _ _ _=>rfl) fun t r e=>?_
  subst e;dsimp only;by_cases hk:t.kind=2
  ·have e2:(t.kind==2)=true:=by simp[hk]
   simp only[e2,cond_true];refine zanh he (by rw[hk]; decide) (fun _ _ _ _ _ _=>rfl) fun hr=>?_
   dsimp only;refine zaak okE .inr (TExpr.mk 1 t.num [] []) hr ?_;exact DE.num (o:=core t) hk
  ·have e2:(t.kind==2)=false:=by simp[hk]
   simp only[e2,cond_false];refine zac0 he (fun x r2 hx h3 h4=>?_) (fun w=>rfl);dsimp only;refine zaak okE .inr (TExpr.mk 2 0 x.text []) h3 ?_;exact DE.reg (o:=core x) hx
def pre (l:Nat) (e:TExpr) (c:List Tk):Prop:=if l=2 then DE 3 e c else DE l e c
theorem zazj (E:Int→List Token→Option RE) (N:Nat) (lvl:Int) (h0:0≤lvl) (h5:lvl<5)
  (hE:∀ l,Ends l→l.length<N→GoodT (fun z=>E (lvl+1) z) okE .inr (DE (lvl.toNat+1)) l) :
  ∀ (f:Nat) (ts:List Token) (e:TExpr),Ends ts→ts.length<f→ts.length≤N →
   GoodT (fun z=>qau_i5 E f lvl z 0 0 [] e.kind e.num e.name LV e.args) ok5 .inr (fun x n=>∀ c,pre lvl.toNat e c→DE lvl.toNat x (c++n)) ts:=by
 intro f;induction f with
 |zero=>intro ts _ _ h; omega
 |succ f ih=>
  intro ts e he hf hN;show GoodT (fun z=>qau_t5 E (qau_i5 E f) lvl z 0 0 [] e.kind e.num e.name LV e.args) ok5 .inr (fun x n=>∀ c,pre lvl.toNat e c→DE lvl.toNat x (c++n)) ts;have stay:∀ c,pre lvl.toNat e c→DE lvl.toNat e (c++[]):=by
   intro c hc;rw[List.append_nil];unfold pre at hc;split at hc
   ·rename_i h2; rw[h2]; exact .up (by omega) hc
   ·exact hc
  unfold qau_t5;refine zaed he (fun _ _ _ _ _ _=>rfl) fun t r e1=>?_
  subst e1;dsimp only;by_cases hk:t.kind=3
  ·have e2:(t.kind==3)=true:=by simp[hk]
   have e3:(decide ((0:Int)≤lvl)&&decide (lvl<(↑(List.length LV):Int)))=true:=by simp only[Bool.and_eq_true,decide_eq_true_eq]; exact ⟨h0,h5⟩
   have hlt:lvl.toNat<LV.length:=by show lvl.toNat<5; omega
   have hop:∀ k,mapAt LV[lvl.toNat] t.text=some k→opAt lvl.toNat (core t)=some k:=by
    intro k hk2;unfold opAt;rw[if_pos (show (core t).1=3 from hk),List.getElem?_eq_getElem hlt,Option.bind_some];exact hk2
   simp only[e2,e3,cond_true];rw[List.getElem?_eq_getElem hlt];generalize LV[lvl.toNat]=M at hop;simp only[Option.bind_some];refine zaed he (fun _ _ _ _ _ _=>rfl) fun t2 r2 e1=>?_
   simp only[List.cons.injEq] at e1;obtain ⟨rfl,rfl⟩:=e1;dsimp only;cases hm:mapAt M t.text with
   |none=>
    simp only[Option.isSome_none,Bool.not_false,cond_true];exact zaak ok5 .inr e he stay
   |some op=>
    have hop:=hop op hm;simp only[Option.isSome_some,Bool.not_true,cond_false,Option.getD_some];refine zanh he (by rw[hk]; decide) (fun _ _ _ _ _ _=>rfl) fun hr=>?_
    dsimp only;have hw:IntKind.wrap IntKind.i64 (lvl+(1:Int))=lvl+1:=i64_in _ (by omega);rw[hw];simp only[List.length_cons] at hf hN;refine zaau (hE r hr (by omega)) (fun x n t1 c h1 h2=>?_) (fun w=>rfl);dsimp only[okE];by_cases h22:lvl=2
    ·have e4:(lvl==2)=true:=by simp[h22]
     simp only[e4,cond_true];refine zaak ok5 .inr (TExpr.mk op 0 [] [TExpr.mk e.kind e.num e.name e.args,TExpr.mk x.kind x.num x.name x.args]) h1 ?_;rw[zaaq,zaaq,List.append_nil];intro c0 hc0;subst h22;exact .cmp hc0 hop c
    ·have e4:(lvl==2)=false:=by simp[h22]
     simp only[e4,cond_false];refine zacd (ih t1 (TExpr.mk op 0 [] [TExpr.mk e.kind e.num e.name e.args,TExpr.mk x.kind x.num x.name x.args]) h1 (by omega) (by omega)) fun y m _ hy=>?_
     rw[zaaq,zaaq] at hy;intro c0 hc0;have hne:lvl.toNat≠2:=by omega
     have:=hy (c0++core t::n) (by
      unfold pre at hc0 ⊢;rw[if_neg hne] at hc0 ⊢;exact .bin (by omega) hne hc0 hop c)
     simpa using this
  ·have e2:(t.kind==3)=false:=by simp[hk]
   simp only[e2,cond_false];exact zaak ok5 .inr e he stay
theorem zay1:∀ (n:Nat) (lvl:Int) (ts:List Token),Ends ts→0≤lvl→lvl≤5→10*ts.length+(5-lvl).toNat<n→ts.length<1000000 →
  GoodT (fun z=>qau_i n lvl z) okE .inr (DE lvl.toNat) ts:=by
 intro n;induction n with
 |zero=>intro lvl ts _ _ _ h; omega
 |succ n ih=>
  intro lvl ts he h0 h5 hn hb;show GoodT (fun z=>qau_f (qau_i n) lvl z) okE .inr (DE lvl.toNat) ts;unfold qau_f;rw[zanv];simp only[Option.bind_some];by_cases h:lvl=5
  ·have e1:(lvl==(↑(List.length LV):Int))=true:=by rw[h]; rfl
   simp only[e1,cond_true];rw[qaF,zaaa];refine zaau (zay7 (qau_i n) ts.length (fun l h1 h2=>ih 0 l h1 (by omega) (by omega) (by simp only[h] at hn; omega) (by omega)) fuel ts he (by unfold fuel; omega) (Nat.le_refl _)) (fun x n t1 c h1 h2=>?_) (fun w=>rfl);dsimp only[okE];refine zaak okE .inr x h1 ?_;rw[List.append_nil,h];exact c
  ·have e1:(lvl==(↑(List.length LV):Int))=false:=by
    have:(↑(List.length LV):Int)=5:=rfl;rw[this]; simpa using h
   have hw:IntKind.wrap IntKind.i64 (lvl+(1:Int))=lvl+1:=i64_in _ (by omega);have hlt:(lvl+1).toNat=lvl.toNat+1:=by omega
   simp only[e1,cond_false];rw[hw];refine zaau (ih (lvl+1) ts he (by omega) (by omega) (by omega) hb) (fun x m t1 c h1 h2=>?_) (fun w=>rfl);dsimp only[okE];rw[hlt] at c;have hc:=c.size.1;rw[qau_l5,zaaa];refine zaau (zazj (qau_i n) (ts.length) lvl h0 (by omega) (fun l h1 h2=>by rw[← hlt]; exact ih (lvl+1) l h1 (by omega) (by omega) (by omega) (by omega)) fuel t1 x h1 (by unfold fuel; omega) (by omega)) (fun y k t2 c2 h3 h4=>?_) (fun w=>rfl);dsimp only[ok5];refine zaak okE .inr y h3 ?_;rw[List.append_nil];refine c2 m ?_;unfold pre;split
   ·rename_i h2; rw[h2] at c; exact c
   ·exact .up (by omega) c
theorem exprT (ts:List Token) (he:Ends ts) (hb:ts.length<1000000):GoodT (fun z=>qau 0 z) okE .inr (DE 0) ts:=by
 rw[qau,zaaa];exact zay1 fuel 0 ts he (by omega) (by omega) (by unfold fuel; omega) hb
end Lift.A4
namespace Lift.A4
open Go Go.RowKit Lift Go.IntWalk Lift.Fn Lift.A1P Lift.A3
set_option linter.unusedVariables false
set_option linter.unusedSimpArgs false
abbrev RS:=(TStmt×(List Token))⊕(Wrong)
abbrev RB:=((List TStmt)×(List Token))⊕(Wrong)
abbrev R4:=((List Token)×Int×(List UInt8)×(List UInt8)×Int×Int×(List UInt8)×(List TExpr)×Int×(List TStmt)×(List TStmt))
def okS (s:TStmt) (z:List Token):RS:=.inl (s,z)
def okB (b:List TStmt) (z:List Token):RB:=.inl (b,z)
abbrev four:List (List UInt8):=[[(108:UInt8),(111:UInt8),(99:UInt8),(107:UInt8)],[(117:UInt8),(110:UInt8),(108:UInt8),(111:UInt8),(99:UInt8),(107:UInt8)],[(115:UInt8),(116:UInt8),(97:UInt8),(114:UInt8),(116:UInt8)],[(106:UInt8),(111:UInt8),(105:UInt8),(110:UInt8)]]
abbrev zE:TExpr:=⟨0,0,[],[]⟩
abbrev wAdd:List UInt8:=[97,100,100]
abbrev zakr:List UInt8:=[97,115,115,101,114,116]
abbrev wIf:List UInt8:=[105,102]
abbrev wElse:List UInt8:=[101,108,115,101]
abbrev zai2:List UInt8:=[114,101,112,101,97,116]
mutual
inductive DS:TStmt→List Tk→Prop
 |set {a o q:Tk} {x:TExpr} {c:List Tk}:a.1=1→hitc [58,61] o=true→DE 0 x c→hitc [59] q=true→DS ⟨1,a.2.1,[],x,0,[],[]⟩ (a::o::(c++[q]))
 |write {a o q:Tk} {x:TExpr} {c:List Tk}:a.1=1→hitc [61] o=true→DE 0 x c→hitc [59] q=true→DS ⟨3,[],a.2.1,x,0,[],[]⟩ (a::o::(c++[q]))
 |add {a o w b q:Tk} {x:TExpr} {c:List Tk}:a.1=1→hitc [60,45] o=true→hitc wAdd w=true→b.1=1→DE 0 x c→hitc [59] q=true→DS ⟨4,a.2.1,b.2.1,x,0,[],[]⟩ (a::o::w::b::(c++[q]))
 |read {a o b q:Tk}:a.1=1→hitc [60,45] o=true→b.1=1→hitc [59] q=true→DS ⟨2,a.2.1,b.2.1,zE,0,[],[]⟩ [a,o,b,q]
 |about {i:Nat} {s:List UInt8} {w b q:Tk}:four[i]? = some s→hitc s w=true→b.1=1→hitc [59] q=true→DS ⟨5+(i:Int),[],b.2.1,zE,0,[],[]⟩ [w,b,q]
 |assert {w q:Tk} {x:TExpr} {c:List Tk}:hitc zakr w=true→DE 0 x c→hitc [59] q=true→DS ⟨9,[],[],x,0,[],[]⟩ (w::(c++[q]))
 |if_ {w o q:Tk} {x:TExpr} {c d:List Tk} {b:List TStmt}:hitc wIf w=true→DE 0 x c→hitc [123] o=true→DL b d→hitc [125] q=true→DS ⟨10,[],[],x,0,b,[]⟩ (w::(c++o::(d++[q])))
 |ife {w o q v o2 q2:Tk} {x:TExpr} {c d d2:List Tk} {b b2:List TStmt}:hitc wIf w=true→DE 0 x c→hitc [123] o=true→DL b d→hitc [125] q=true→hitc wElse v=true→hitc [123] o2=true→DL b2 d2→hitc [125] q2=true →
   DS ⟨10,[],[],x,0,b,b2⟩ (w::(c++o::(d++q::v::o2::(d2++[q2]))))
 |rep {w n o q:Tk} {d:List Tk} {b:List TStmt}:hitc zai2 w=true→n.1=2→n.2.2≤1000→hitc [123] o=true→DL b d→hitc [125] q=true→DS ⟨11,[],[],zE,n.2.2,b,[]⟩ (w::n::o::(d++[q]))
inductive DL:List TStmt→List Tk→Prop
 |nil:DL [] []
 |cons {s:TStmt} {b:List TStmt} {c d:List Tk}:DS s c→DL b d→DL (s::b) (c++d)
end
def DB (b:List TStmt) (c:List Tk):Prop:=∃ o d q,hitc [123] o=true∧DL b d∧hitc [125] q=true∧c=o::(d++[q])
theorem nS_mk (k:Int) (a b:List UInt8) (e:TExpr) (c:Int) (t o:List TStmt):nS (TStmt.mk k a b e c t o)=1+nE e+nSs t+nSs o:=by simp[nS]
theorem zab5:nSs []=0:=by simp[nSs]
theorem zaev (x:TStmt) (b:List TStmt):nSs (x::b)=nS x+nSs b:=by simp[nSs]
theorem zas2:∀ (a b:List TStmt),nSs (a++b)=nSs a+nSs b
 |[],b=>by simp[nSs]
 |x::a,b=>by simp only[List.cons_append,nSs,zas2 a b]; omega
mutual
theorem DS.size:∀ {s:TStmt} {c:List Tk},DS s c→0<c.length∧nS s≤2*c.length
 |_,_,.set _ _ hx _=>by have:=hx.size; rw[nS_mk,zab5]; simp only[List.length_cons,List.length_append,List.length_nil]; omega
 |_,_,.write _ _ hx _=>by have:=hx.size; rw[nS_mk,zab5]; simp only[List.length_cons,List.length_append,List.length_nil]; omega
 |_,_,.add _ _ _ _ hx _=>by have:=hx.size; rw[nS_mk,zab5]; simp only[List.length_cons,List.length_append,List.length_nil]; omega
 |_,_,.read _ _ _ _=>by rw[nS_mk,zab5,zafq]; simp only[List.length_cons,List.length_nil]; omega
 |_,_,.about _ _ _ _=>by rw[nS_mk,zab5,zafq]; simp only[List.length_cons,List.length_nil]; omega
 |_,_,.assert _ hx _=>by have:=hx.size; rw[nS_mk,zab5]; simp only[List.length_cons,List.length_append,List.length_nil]; omega
 |_,_,.if_ _ hx _ hb _=>by have:=hx.size; have:=hb.size; rw[nS_mk,zab5]; simp only[List.length_cons,List.length_append,List.length_nil]; omega
 |_,_,.ife _ hx _ hb _ _ _ hb2 _=>by have:=hx.size; have:=hb.size; have:=hb2.size; rw[nS_mk]; simp only[List.length_cons,List.length_append,List.length_nil]; omega
 |_,_,.rep _ _ _ _ hb _=>by have:=hb.size; rw[nS_mk,zab5,zafq]; simp only[List.length_cons,List.length_append,List.length_nil]; omega
theorem DL.size:∀ {b:List TStmt} {c:List Tk},DL b c→nSs b≤2*c.length
 |_,_,.nil=>by rw[zab5]; omega
 |_,_,.cons hs hb=>by have:=hs.size; have:=hb.size; rw[zaev,List.length_append]; omega
end
theorem zazd (ts:List Token) (he:Ends ts) (hb:ts.length<1000000):GoodT (fun z=>qaz z) okS .inr DS ts:=by
 rw[qaz,zaaa];unfold qaz_f;refine zac0 he (fun a r ha h1 h2=>?_) (fun w=>rfl);dsimp only;refine zabe h1 (fun o r2 ho h3 h4=>?_) (fun _=>?_)
 ·dsimp only[cond_true];refine zaau (exprT r2 h3 (by omega)) (fun x n t1 c h5 h6=>?_) (fun w=>rfl);dsimp only[okE];refine zabf h5 (fun q r3 hq h7 h8=>?_) (fun w=>rfl);dsimp only;refine zaak okS .inr _ h7 ?_;rw[zaaq];exact DS.set (a:=core a) (o:=core o) (q:=core q) ha ho c hq
 dsimp only[cond_false];refine zabe h1 (fun o r2 ho h3 h4=>?_) (fun _=>?_)
 ·dsimp only[cond_true];refine zaau (exprT r2 h3 (by omega)) (fun x n t1 c h5 h6=>?_) (fun w=>rfl);dsimp only[okE];refine zabf h5 (fun q r3 hq h7 h8=>?_) (fun w=>rfl);dsimp only;refine zaak okS .inr _ h7 ?_;rw[zaaq];exact DS.write (a:=core a) (o:=core o) (q:=core q) ha ho c hq
 dsimp only[cond_false];refine zabf h1 (fun o r2 ho h3 h4=>?_) (fun w=>rfl);dsimp only;refine zabe h3 (fun w r3 hw h5 h6=>?_) (fun _=>?_)
 ·dsimp only[cond_true];refine zac0 h5 (fun b r4 hb2 h7 h8=>?_) (fun w=>rfl);dsimp only;refine zaau (exprT r4 h7 (by omega)) (fun x n t1 c h9 h10=>?_) (fun w=>rfl);dsimp only[okE];refine zabf h9 (fun q r5 hq h11 h12=>?_) (fun w=>rfl);dsimp only;refine zaak okS .inr _ h11 ?_;rw[zaaq];exact DS.add (a:=core a) (o:=core o) (w:=core w) (b:=core b) (q:=core q) ha ho hw hb2 c hq
 dsimp only[cond_false];refine zac0 h3 (fun b r4 hb2 h7 h8=>?_) (fun w=>rfl);dsimp only;refine zabf h7 (fun q r5 hq h9 h10=>?_) (fun w=>rfl);dsimp only;refine zaak okS .inr _ h9 ?_;exact DS.read (a:=core a) (o:=core o) (b:=core b) (q:=core q) ha ho hb2 hq
def okO (s:Option (Int×List UInt8)) (z:List Token):R4⊕((Wrong)⊕((List Token)×Int×(List UInt8)×(List UInt8)×Int×Int×(List UInt8)×Int)):=
 match s with
 |some k=>.inl (z,k.1,[],k.2,0,0,[],[],0,[],[])
 |none=>.inr (.inr (z,0,[],[],0,0,[],0))
def badO (w:Wrong):R4⊕((Wrong)⊕((List Token)×Int×(List UInt8)×(List UInt8)×Int×Int×(List UInt8)×Int)):=.inr (.inl w)
def CO (s:Option (Int×List UInt8)) (n:List Tk):Prop:=match s with|some k=>DS ⟨k.1,[],k.2,zE,0,[],[]⟩ n|none=>n=[]
theorem fourT (B:List Token→Option RB):∀ (k f:Nat) (i:Nat) (ts:List Token),i+k=4→k<f→Ends ts →
  GoodT (fun z=>qaC_i4 B f 4 i z 0 [] [] 0 0 [] 0 four) okO badO CO ts:=by
 intro k;induction k with
 |zero=>
  intro f i ts hi hf he;obtain ⟨f,rfl⟩:∃ q,f=q+1:=⟨f-1,by omega⟩;show GoodT (fun z=>qaC_t4 B (qaC_i4 B f) 4 i z 0 [] [] 0 0 [] 0 four) okO badO CO ts;unfold qaC_t4;have e1:decide ((i:Int)<4)=false:=by simp only[decide_eq_false_iff_not]; omega
  simp only[e1,cond_false];exact zaak okO badO none he rfl
 |succ k ih=>
  intro f i ts hi hf he;obtain ⟨f,rfl⟩:∃ q,f=q+1:=⟨f-1,by omega⟩;show GoodT (fun z=>qaC_t4 B (qaC_i4 B f) 4 i z 0 [] [] 0 0 [] 0 four) okO badO CO ts;unfold qaC_t4;have e1:decide ((i:Int)<4)=true:=by simp only[decide_eq_true_eq]; omega
  have e2:(decide ((0:Int)≤(i:Int))&&decide ((i:Int)<(↑(List.length four):Int)))=true:=by
   simp only[Bool.and_eq_true,decide_eq_true_eq];exact ⟨by omega,by show (i:Int)<4; omega⟩
  have hlt:(i:Int).toNat<four.length:=by show (i:Int).toNat<4; omega
  have hgw:four[i]? = some (four[(i:Int).toNat]):=by
   rw[← List.getElem?_eq_getElem hlt,Int.toNat_natCast]
  simp only[e1,e2,cond_true];rw[List.getElem?_eq_getElem hlt];generalize four[(i:Int).toNat]=word at hgw;simp only[Option.bind_some];refine zabe he (fun w r hw h1 h2=>?_) (fun _=>?_)
  ·dsimp only[cond_true];refine zac0 h1 (fun a r2 ha h3 h4=>?_) (fun w=>rfl);dsimp only;refine zabf h3 (fun q r3 hq h5 h6=>?_) (fun w=>rfl);dsimp only;refine zaak okO badO (some (IntKind.wrap IntKind.i64 ((5:Int)+i),a.text)) h5 ?_;rw[i64_in ((5:Int)+i) (by omega)];exact DS.about (w:=core w) (b:=core a) (q:=core q) hgw hw ha hq
  ·dsimp only[cond_false];rw[i64_in ((i:Int)+1) (by omega)];exact ih f (i+1) ts (by omega) (by omega) he
end Lift.A4
namespace Lift.A4
open Go Go.RowKit Lift Go.IntWalk Lift.Fn Lift.A1P Lift.A3
set_option linter.unusedVariables false
set_option linter.unusedSimpArgs false
inductive SC:TStmt→Prop
 |set {r:List UInt8} {x:TExpr}:isNm r=true→eF x=true→SC ⟨1,r,[],x,0,[],[]⟩
 |read {r m:List UInt8}:isNm r=true→isNm m=true→SC ⟨2,r,m,zE,0,[],[]⟩
 |write {m:List UInt8} {x:TExpr}:isNm m=true→eF x=true→SC ⟨3,[],m,x,0,[],[]⟩
 |add {r m:List UInt8} {x:TExpr}:isNm r=true→isNm m=true→eF x=true→SC ⟨4,r,m,x,0,[],[]⟩
 |about {k:Int} {m:List UInt8}:5≤k→k≤8→isNm m=true→SC ⟨k,[],m,zE,0,[],[]⟩
 |assert {x:TExpr}:eF x=true→SC ⟨9,[],[],x,0,[],[]⟩
 |if_ {x:TExpr} {t o:List TStmt}:eF x=true→sFs t=true→sFs o=true→SC ⟨10,[],[],x,0,t,o⟩
 |rep {c:Int} {t:List TStmt}:0≤c→c≤1000→sFs t=true→SC ⟨11,[],[],zE,c,t,[]⟩
theorem zag0 {x:TExpr} (h:none_ x=true):x=zE:=by
 obtain ⟨k,n,s,l⟩:=x;unfold none_ at h;simp only[Bool.and_eq_true,beq_iff_eq] at h;obtain ⟨⟨⟨rfl,rfl⟩,rfl⟩,h⟩:=h;have:l=[]:=List.eq_nil_of_length_eq_zero (by omega);subst this;rfl
theorem zaha {x:TExpr} (h:x.kind≠0):zaay x=true:=by
 unfold zaay;simp[h]
theorem sF_sc {y:TStmt} (h:sF y=true):SC y:=by
 rw[sF_eq] at h;obtain ⟨k,r,m,x,c,t,o⟩:=y;simp only[Bool.and_eq_true] at h;obtain ⟨h,hx,ht,ho⟩:=h;unfold sOk at h;simp only[Bool.and_eq_true] at h;obtain ⟨⟨⟨⟨⟨⟨h1,h2⟩,h3⟩,h4⟩,h5⟩,h6⟩,h7⟩:=h;have hk:1≤k∧k≤11:=by
  unfold inR at h1;simp only[Bool.not_eq_true',Bool.or_eq_false_iff,decide_eq_false_iff_not] at h1;omega
 have:k=1∨k=2∨k=3∨k=4∨k=5∨k=6∨k=7∨k=8∨k=9∨k=10∨k=11:=by omega
 rcases this with rfl|rfl|rfl|rfl|rfl|rfl|rfl|rfl|rfl|rfl|rfl
 all_goals
  simp only[isOpt,show shp 1=Shape.mk true false true false false false from rfl,show shp 2=Shape.mk true true false false false false from rfl,show shp 3=Shape.mk false true true false false false from rfl,
   show shp 4=Shape.mk true true true false false false from rfl,show shp 5=Shape.mk false true false false false false from rfl,show shp 6=Shape.mk false true false false false false from rfl,show shp 7=Shape.mk false true false false false false from rfl,
   show shp 8=Shape.mk false true false false false false from rfl,show shp 9=Shape.mk false false true false false false from rfl,show shp 10=Shape.mk false false true false true true from rfl,show shp 11=Shape.mk false false false true true false from rfl,
   Bool.true_and,Bool.false_and,Bool.not_true,Bool.not_false,Bool.or_false,Bool.false_or,Bool.true_or,Bool.or_true,beq_iff_eq,bne_iff_ne,ne_eq,Bool.and_eq_true,Bool.or_eq_true,decide_eq_true_eq] at h2 h3 h4 h5 h6 h7
 ·rw[if_pos (zaha h4)] at hx;have:=List.eq_nil_of_length_eq_zero (show t.length=0 by omega);have:=List.eq_nil_of_length_eq_zero (show o.length=0 by omega);subst_vars
  exact .set h2 hx
 ·have:=zag0 h4;have:=List.eq_nil_of_length_eq_zero (show t.length=0 by omega);have:=List.eq_nil_of_length_eq_zero (show o.length=0 by omega);subst_vars
  exact .read h2 h3
 ·rw[if_pos (zaha h4)] at hx;have:=List.eq_nil_of_length_eq_zero (show t.length=0 by omega);have:=List.eq_nil_of_length_eq_zero (show o.length=0 by omega);subst_vars
  exact .write h3 hx
 ·rw[if_pos (zaha h4)] at hx;have:=List.eq_nil_of_length_eq_zero (show t.length=0 by omega);have:=List.eq_nil_of_length_eq_zero (show o.length=0 by omega);subst_vars
  exact .add h2 h3 hx
 ·have:=zag0 h4;have:=List.eq_nil_of_length_eq_zero (show t.length=0 by omega);have:=List.eq_nil_of_length_eq_zero (show o.length=0 by omega);subst_vars
  exact .about (by omega) (by omega) h3
 ·have:=zag0 h4;have:=List.eq_nil_of_length_eq_zero (show t.length=0 by omega);have:=List.eq_nil_of_length_eq_zero (show o.length=0 by omega);subst_vars
  exact .about (by omega) (by omega) h3
 ·have:=zag0 h4;have:=List.eq_nil_of_length_eq_zero (show t.length=0 by omega);have:=List.eq_nil_of_length_eq_zero (show o.length=0 by omega);subst_vars
  exact .about (by omega) (by omega) h3
 ·have:=zag0 h4;have:=List.eq_nil_of_length_eq_zero (show t.length=0 by omega);have:=List.eq_nil_of_length_eq_zero (show o.length=0 by omega);subst_vars
  exact .about (by omega) (by omega) h3
 ·rw[if_pos (zaha h4)] at hx;have:=List.eq_nil_of_length_eq_zero (show t.length=0 by omega);have:=List.eq_nil_of_length_eq_zero (show o.length=0 by omega);subst_vars
  exact .assert hx
 ·rw[if_pos (zaha h4)] at hx;subst_vars
  exact .if_ hx ht ho
 ·have:=zag0 h4;have:=List.eq_nil_of_length_eq_zero (show o.length=0 by omega);subst_vars
  exact .rep (by omega) (by omega) ht
def ln (d:Nat) (t:List UInt8):List UInt8:=Lib.repeatL [32,32] d++t++[10]
abbrev fourB:List (List UInt8):=[[(108:UInt8),(111:UInt8),(99:UInt8),(107:UInt8),(32:UInt8)],[(117:UInt8),(110:UInt8),(108:UInt8),(111:UInt8),(99:UInt8),(107:UInt8),(32:UInt8)],[(115:UInt8),(116:UInt8),(97:UInt8),(114:UInt8),(116:UInt8),(32:UInt8)],[(106:UInt8),(111:UInt8),(105:UInt8),(110:UInt8),(32:UInt8)]]
mutual
def sT:TStmt→Nat→List UInt8
 |⟨k,r,m,x,c,t,o⟩,d=>
  if k=1 then ln d [r,[32,58,61,32],xT x 1,[59]].flatten
  else if k=2 then ln d [r,[32,60,45,32],m,[59]].flatten
  else if k=3 then ln d [m,[32,61,32],xT x 1,[59]].flatten
  else if k=4 then ln d [r,[32,60,45,32,97,100,100,32],m,[32],xT x 1,[59]].flatten
  else if k=9 then ln d [[97,115,115,101,114,116,32],xT x 1,[59]].flatten
  else if k=10 then ln d [[105,102,32],xT x 1,[32,123]].flatten++(sTs t (d+1)++((if o.length=0 then [] else ln d [[125,32,101,108,115,101,32,123]].flatten++sTs o (d+1))++ln d [[125]].flatten))
  else if k=11 then ln d [[114,101,112,101,97,116,32],Lib.itoa c,[32,123]].flatten++(sTs t (d+1)++ln d [[125]].flatten)
  else ln d [fourB.getD (k-5).toNat [],m,[59]].flatten
def sTs:List TStmt→Nat→List UInt8
 |[],_=>[]
 |x::l,d=>sT x d++sTs l d
end
def cellT (c:TCell):List UInt8:=ln 0 [[99,101,108,108,32],c.name,[32,61,32],Lib.itoa c.init,[59]].flatten
def mutT (m:List UInt8):List UInt8:=ln 0 [[109,117,116,101,120,32],m,[59]].flatten
def thrT (t:TThread):List UInt8:=ln 0 [[116,104,114,101,97,100,32],t.name,[32,123]].flatten++(sTs t.body 1++ln 0 [[125]].flatten)
def progT (p:TProg):List UInt8:=p.cells.flatMap cellT++(p.mutexes.flatMap mutT++p.threads.flatMap thrT)
theorem zacs (d:Nat) (t:List UInt8):(ln d t).length=2*d+t.length+1:=by
 unfold ln;simp only[List.length_append,Lib.repeatL_length,List.length_cons,List.length_nil];omega
theorem zaot (i:Nat):(fourB.getD i []).length≤7:=by
 match i with
 |0=>decide
 |1=>decide
 |2=>decide
 |3=>decide
 |i+4=>simp[fourB]
mutual
theorem zav8 (D M:Nat) (hM:6*D+600≤M):∀ (y:TStmt) (d:Nat),sF y=true→d+nS y≤D→(sT y d).length≤nS y*M
 |⟨k,r,m,x,c,t,o⟩,d,h,hd=>by
  have hsc:=sF_sc h;have hx:=zakc (nE x) x 1 (Nat.le_refl _);rw[nS_mk] at hd ⊢;have hMx:nE x*600≤nE x*M:=Nat.mul_le_mul_left _ (by omega);simp only[Nat.add_mul,Nat.one_mul];have ht:=zafy D M hM t (d+1);have ho:=zafy D M hM o (d+1);rw[sT];cases hsc with
  |set h1 h2=>
   have:=zabc h1;have:=hx h2;rw[if_pos rfl,zacs];simp only[List.length_flatten,List.map_cons,List.map_nil,List.sum_cons,List.sum_nil,List.length_cons,List.length_nil];omega
  |read h1 h2=>
   have:=zabc h1;have:=zabc h2;rw[if_neg (by decide),if_pos rfl,zacs];simp only[List.length_flatten,List.map_cons,List.map_nil,List.sum_cons,List.sum_nil,List.length_cons,List.length_nil];omega
  |write h1 h2=>
   have:=zabc h1;have:=hx h2;rw[if_neg (by decide),if_neg (by decide),if_pos rfl,zacs];simp only[List.length_flatten,List.map_cons,List.map_nil,List.sum_cons,List.sum_nil,List.length_cons,List.length_nil];omega
  |add h1 h2 h3=>
   have:=zabc h1;have:=zabc h2;have:=hx h3;rw[if_neg (by decide),if_neg (by decide),if_neg (by decide),if_pos rfl,zacs];simp only[List.length_flatten,List.map_cons,List.map_nil,List.sum_cons,List.sum_nil,List.length_cons,List.length_nil];omega
  |about h1 h2 h3=>
   have:=zabc h3;have:=zaot (k-5).toNat;rw[if_neg (by omega),if_neg (by omega),if_neg (by omega),if_neg (by omega),if_neg (by omega),if_neg (by omega),if_neg (by omega),zacs];simp only[List.length_flatten,List.map_cons,List.map_nil,List.sum_cons,List.sum_nil,List.length_cons,List.length_nil];omega
  |assert h1=>
   have:=hx h1;rw[if_neg (by decide),if_neg (by decide),if_neg (by decide),if_neg (by decide),if_pos rfl,zacs];simp only[List.length_flatten,List.map_cons,List.map_nil,List.sum_cons,List.sum_nil,List.length_cons,List.length_nil];omega
  |if_ h1 h2 h3=>
   have:=hx h1;have:=ht h2 (by omega);have:=ho h3 (by omega);rw[if_neg (by decide),if_neg (by decide),if_neg (by decide),if_neg (by decide),if_neg (by decide),if_pos rfl];split
   all_goals
    simp only[List.length_append,zacs,List.length_flatten,List.map_cons,List.map_nil,List.sum_cons,List.sum_nil,List.length_cons,List.length_nil];omega
  |rep h1 h2 h3=>
   have:=Lib.itoa_length_le c (Int.le_trans (by decide) h1) (Int.le_trans h2 (by decide));have:=ht h3 (by omega);rw[if_neg (by decide),if_neg (by decide),if_neg (by decide),if_neg (by decide),if_neg (by decide),if_neg (by decide),if_pos rfl];simp only[List.length_append,zacs,List.length_flatten,List.map_cons,List.map_nil,List.sum_cons,List.sum_nil,List.length_cons,List.length_nil];omega
theorem zafy (D M:Nat) (hM:6*D+600≤M):∀ (l:List TStmt) (d:Nat),sFs l=true→d+nSs l≤D→(sTs l d).length≤nSs l*M
 |[],d,_,_=>by simp[sTs]
 |x::l,d,h,hd=>by
  rw[sFs,Bool.and_eq_true] at h;rw[zaev] at hd ⊢;have h1:=zav8 D M hM x d h.1 (by omega);have h2:=zafy D M hM l d h.2 (by omega);rw[sTs,List.length_append,Nat.add_mul];omega
end
theorem zav9:∀ l:List (List UInt8),Lib.join l []=l.flatten
 |[]=>rfl
 |x::l=>by
  rw[Lib.join_cons];have:Lib.joinTail [] l=l.flatten:=by
   unfold Lib.joinTail;have:l.map (([]:List UInt8)++·)=l:=by simp
   rw[this]
  rw[this];rfl
theorem lineW (d:Nat) (l:List (List UInt8)) (b:List Int) (hd:d≤1000000000) (hl:l.length≤1000000) (ht:l.flatten.length≤1000000000000) (hb:b.length+(2*d+l.flatten.length+1)≤100000000000000) :
  qaT (d:Int) l opsL b=some (opsL,b++ofStr (ln d l.flatten)):=by
 rw[qaT,zaaa];unfold qaT_f;have e1:strings_Repeat [(32:UInt8),(32:UInt8)] (d:Int)=some (Lib.repeatL [32,32] d):=by
  rw[strings_Repeat,zaaa];unfold zaex;have:(decide ((0:Int)≤(d:Int)∧(d:Int)≤9223372036854775807)&&decide (([(32:UInt8),(32:UInt8)]:List UInt8).length*(d:Int).toNat≤140737488355328))=true:=by
   simp only[Bool.and_eq_true,decide_eq_true_eq,List.length_cons,List.length_nil,Int.toNat_natCast];omega
  rw[this,cond_true,Int.toNat_natCast]
 have e2:strings_Join l []=some l.flatten:=by
  rw[strings_Join,zaaa];unfold zafv;rw[zav9];exact zadw (by omega) _ _
 have hr:(Lib.repeatL [32,32] d).length=2*d:=by rw[Lib.repeatL_length]; simp only[List.length_cons,List.length_nil]; omega
 rw[e1,Option.bind_some,e2,Option.bind_some];refine (zadw (by omega) _ _).trans ?_;refine (zadw (by rw[List.length_append]; omega) _ _).trans ?_;rw[zafl _ _ _ (by simp only[List.length_append,List.length_cons,List.length_nil]; omega),Option.bind_some];rfl
end Lift.A4
namespace Lift.A4
open Go Go.RowKit Lift Go.IntWalk Lift.Fn Lift.A1P Lift.A3
set_option linter.unusedVariables false
set_option linter.unusedSimpArgs false
abbrev WR:=List TStmt→Int→List (Int×Oper)→List Int→Option ((List (Int×Oper))×(List Int))
def BlkOk (R:WR) (N W:Nat):Prop:=∀ (l:List TStmt) (d:Nat) (b:List Int),nSs l<N→sFs l=true→d+nSs l≤1000000→b.length+nSs l*W≤90000000000000→R l (d:Int) opsL b=some (opsL,b++ofStr (sTs l d))
theorem zacn (d:Nat) (l:List (List UInt8)) (b:List Int) (hd:d≤1000000) (hl:l.length≤10) (ht:l.flatten.length≤100000000000) (hb:b.length≤92000000000000) :
  qaT (d:Int) l opsL b=some (opsL,b++ofStr (ln d l.flatten)):=lineW d l b (by omega) (by omega) (by omega) (by omega)
theorem nE_zE:nE zE=1:=zafq _ _ _
theorem stmtW {R:WR} {N W:Nat} (hW:6*1000001+600≤W) (hR:BlkOk R N W) (y:TStmt) (d:Nat) (b:List Int) (hy:nS y≤N) (h:sF y=true) (hd:d+nS y≤1000000) (hb:b.length+nS y*W≤90000000000000) :
  qaU R y (d:Int) opsL b=some (opsL,b++ofStr (sT y d)):=by
 obtain ⟨k,r,m,x,c,t,o⟩:=y;have hsc:=sF_sc h;have hx:=zakc (nE x) x 1 (Nat.le_refl _);rw[nS_mk] at hy hd hb;simp only[Nat.add_mul,Nat.one_mul] at hb;have hsx:nE x≤1000000000:=by omega
 have hMx:nE x*80≤nE x*W:=Nat.mul_le_mul_left _ (by omega);rw[qaU,zaaa];unfold qaU_f;dsimp only;rw[zaaq,sT];have e0:∀ (q:List (Int×Oper)×List Int),(q.1,q.2)=q:=fun _=>rfl
 cases hsc with
 |set h1 h2=>
  simp only[zab5,nE_zE,Nat.zero_mul,Nat.add_zero] at hy hd hb hsx hMx;have:=zabc h1;have:=hx h2;simp only[Int.reduceBEq,cond_true,cond_false,Int.reduceEq,if_true,if_false];rw[textW h2 hsx,Option.bind_some];dsimp only;generalize xT x 1=T at *;generalize nE x=ex at *;rw[zacn d _ _ (by omega) (by simp) (by simp only[List.length_flatten,List.map_cons,List.map_nil,List.sum_cons,List.sum_nil,List.length_cons,List.length_nil]; omega) (by omega),Option.bind_some]
 |read h1 h2=>
  simp only[zab5,nE_zE,Nat.zero_mul,Nat.add_zero] at hy hd hb hsx hMx;have:=zabc h1;have:=zabc h2;simp only[Int.reduceBEq,cond_true,cond_false,Int.reduceEq,if_true,if_false];rw[zacn d _ _ (by omega) (by simp) (by simp only[List.length_flatten,List.map_cons,List.map_nil,List.sum_cons,List.sum_nil,List.length_cons,List.length_nil]; omega) (by omega),Option.bind_some]
 |write h1 h2=>
  simp only[zab5,nE_zE,Nat.zero_mul,Nat.add_zero] at hy hd hb hsx hMx;have:=zabc h1;have:=hx h2;simp only[Int.reduceBEq,cond_true,cond_false,Int.reduceEq,if_true,if_false];rw[textW h2 hsx,Option.bind_some];dsimp only;generalize xT x 1=T at *;generalize nE x=ex at *;rw[zacn d _ _ (by omega) (by simp) (by simp only[List.length_flatten,List.map_cons,List.map_nil,List.sum_cons,List.sum_nil,List.length_cons,List.length_nil]; omega) (by omega),Option.bind_some]
 |add h1 h2 h3=>
  simp only[zab5,nE_zE,Nat.zero_mul,Nat.add_zero] at hy hd hb hsx hMx;have:=zabc h1;have:=zabc h2;have:=hx h3;simp only[Int.reduceBEq,cond_true,cond_false,Int.reduceEq,if_true,if_false];rw[textW h3 hsx,Option.bind_some];dsimp only;generalize xT x 1=T at *;generalize nE x=ex at *;rw[zacn d _ _ (by omega) (by simp) (by simp only[List.length_flatten,List.map_cons,List.map_nil,List.sum_cons,List.sum_nil,List.length_cons,List.length_nil]; omega) (by omega),Option.bind_some]
 |about h1 h2 h3=>
  simp only[zab5,nE_zE,Nat.zero_mul,Nat.add_zero] at hy hd hb hsx hMx;have:=zabc h3;have hkk:k=5∨k=6∨k=7∨k=8:=by omega
  rw[if_neg (by omega),if_neg (by omega),if_neg (by omega),if_neg (by omega),if_neg (by omega),if_neg (by omega),if_neg (by omega)];have l4:=zaot (k-5).toNat;rcases hkk with rfl|rfl|rfl|rfl
  all_goals
   simp only[Int.reduceBEq,cond_true,cond_false];refine (congrArg (fun b=>cond b _ _) (show _=true from rfl)).trans ?_;dsimp only[cond_true];refine (congrArg (fun z=>Option.bind z _) (show _=some _ from rfl)).trans ?_;rw[Option.bind_some];refine (congrArg (fun z=>Option.bind z _) (zacn d _ _ (by omega) (by simp) (by simp only[List.length_flatten,List.map_cons,List.map_nil,List.sum_cons,List.sum_nil,List.length_cons,List.length_nil]; omega) (by omega))).trans ?_;rfl
 |assert h1=>
  simp only[zab5,nE_zE,Nat.zero_mul,Nat.add_zero] at hy hd hb hsx hMx;have:=hx h1;simp only[Int.reduceBEq,cond_true,cond_false,Int.reduceEq,if_true,if_false];rw[textW h1 hsx,Option.bind_some];dsimp only;generalize xT x 1=T at *;generalize nE x=ex at *;rw[zacn d _ _ (by omega) (by simp) (by simp only[List.length_flatten,List.map_cons,List.map_nil,List.sum_cons,List.sum_nil,List.length_cons,List.length_nil]; omega) (by omega),Option.bind_some]
 |if_ h1 h2 h3=>
  have g1:d+1+nSs t≤1000001:=by omega
  have g2:d+1+nSs o≤1000001:=by omega
  have lt:=zafy 1000001 W hW t (d+1) h2 g1;have lo:=zafy 1000001 W hW o (d+1) h3 g2;have hw:IntKind.wrap IntKind.i64 ((d:Int)+(1:Int))=((d+1:Nat):Int):=by rw[i64_in _ (by omega)]; omega
  have:=hx h1;simp only[Int.reduceBEq,cond_true,cond_false,Int.reduceEq,if_true,if_false];rw[textW h1 hsx,Option.bind_some];dsimp only;generalize xT x 1=T at *;generalize nE x=ex at *;rw[zacn d _ _ (by omega) (by simp) (by simp only[List.length_flatten,List.map_cons,List.map_nil,List.sum_cons,List.sum_nil,List.length_cons,List.length_nil]; omega) (by omega),Option.bind_some];dsimp only;have l1:(ln d [[105,102,32],T,[32,123]].flatten).length≤2*d+6+80*ex:=by
   rw[zacs];simp only[List.length_flatten,List.map_cons,List.map_nil,List.sum_cons,List.sum_nil,List.length_cons,List.length_nil];omega
  rw[hw,hR t (d+1) _ (by omega) h2 (by omega) (by simp only[List.length_append,zaas]; omega),Option.bind_some];dsimp only;by_cases hz:o.length=0
  ·have e:decide ((↑(List.length o):Int)>(0:Int))=false:=by simp only[decide_eq_false_iff_not]; omega
   rw[e,cond_false,if_pos hz,zacn d _ _ (by omega) (by simp) (by simp) (by simp only[List.length_append,zaas]; omega),Option.bind_some];simp only[zab9,List.append_assoc,List.nil_append]
  ·have e:decide ((↑(List.length o):Int)>(0:Int))=true:=by simp only[decide_eq_true_eq]; omega
   rw[e,cond_true,if_neg hz,zacn d _ _ (by omega) (by simp) (by simp) (by simp only[List.length_append,zaas]; omega),Option.bind_some];dsimp only;have l2:(ln d [[125,32,101,108,115,101,32,123]].flatten).length=2*d+9:=by
    rw[zacs];simp only[List.length_flatten,List.map_cons,List.map_nil,List.sum_cons,List.sum_nil,List.length_cons,List.length_nil];omega
   rw[hR o (d+1) _ (by omega) h3 (by omega) (by simp only[List.length_append,zaas]; omega),Option.bind_some];dsimp only;rw[zacn d _ _ (by omega) (by simp) (by simp) (by simp only[List.length_append,zaas]; omega),Option.bind_some];simp only[zab9,List.append_assoc]
 |rep h1 h2 h3=>
  simp only[zab5,nE_zE,Nat.zero_mul,Nat.add_zero] at hy hd hb hsx hMx;have hi0:=Int.le_trans (show (-9223372036854775808:Int)≤0 by decide) h1;have hi1:=Int.le_trans h2 (show (1000:Int)≤9223372036854775807 by decide);have li:=Lib.itoa_length_le c hi0 hi1;have g1:d+1+nSs t≤1000001:=by omega
  have lt:=zafy 1000001 W hW t (d+1) h3 g1;have hw:IntKind.wrap IntKind.i64 ((d:Int)+(1:Int))=((d+1:Nat):Int):=by rw[i64_in _ (by omega)]; omega
  simp only[Int.reduceBEq,cond_true,cond_false,Int.reduceEq,if_true,if_false];rw[zal2 hi0 hi1,Option.bind_some];generalize Lib.itoa c=T at *;rw[zacn d _ _ (by omega) (by simp) (by simp only[List.length_flatten,List.map_cons,List.map_nil,List.sum_cons,List.sum_nil,List.length_cons,List.length_nil]; omega) (by omega),Option.bind_some];dsimp only;have l1:(ln d [[114,101,112,101,97,116,32],T,[32,123]].flatten).length≤2*d+40:=by
   rw[zacs];simp only[List.length_flatten,List.map_cons,List.map_nil,List.sum_cons,List.sum_nil,List.length_cons,List.length_nil];omega
  rw[hw,hR t (d+1) _ (by omega) h3 (by omega) (by simp only[List.length_append,zaas]; omega),Option.bind_some];dsimp only;rw[zacn d _ _ (by omega) (by simp) (by simp) (by simp only[List.length_append,zaas]; omega),Option.bind_some];simp only[zab9,List.append_assoc]
end Lift.A4
namespace Lift.A4
open Go Go.RowKit Lift Go.IntWalk Lift.Fn Lift.A1P Lift.A3
set_option linter.unusedVariables false
set_option linter.unusedSimpArgs false
theorem DB.size {b:List TStmt} {c:List Tk} (h:DB b c):0<c.length∧nSs b≤2*c.length:=by
 obtain ⟨o,d,q,_,h,_,rfl⟩:=h;have:=h.size;simp only[List.length_cons,List.length_append,List.length_nil];omega
theorem stmtT (B : List Token → Option RB) (N : Nat) (hB : ∀ l, Ends l → l.length < N → GoodT (fun z => B z) okB .inr DB l) (ts : List Token) (he : Ends ts) (hN : ts.length ≤ N) (hb : ts.length < 1000000) :
  GoodT (fun z=>qaC B z) okS .inr DS ts:=by
 rw[qaC,zaaa];unfold qaC_f;refine zaed he (fun _ _ _ _ _ _=>rfl) fun t r e=>?_
 subst e;dsimp only;by_cases hk:t.kind=1
 ·have e2:(t.kind==1)=true:=by simp[hk]
  simp only[e2,cond_true];refine zaau (zazd (t::r) he hb) (fun x n t1 c h1 h2=>?_) (fun w=>rfl);dsimp only[okS];refine zaak okS .inr _ h1 ?_;rw[zakt,List.append_nil];exact c
 have e2:(t.kind==1)=false:=by simp[hk]
 simp only[e2,cond_false];rw[qaC_l4,zaaa];refine zaau (fourT B 4 fuel 0 (t::r) rfl (by unfold fuel; omega) he) (fun o n t1 c h1 h2=>?_) (fun w=>rfl);cases o with
 |some p=>
  dsimp only[okO];refine zaak okS .inr _ h1 ?_;rw[List.append_nil];exact c
 |none=>
  have hn:n=[]:=c;subst hn;simp only[List.length_nil] at h2;dsimp only[okO];refine zabe h1 (fun w r2 hw h3 h4=>?_) (fun _=>?_)
  ·dsimp only[cond_true];refine zaau (exprT r2 h3 (by omega)) (fun x m t2 c2 h5 h6=>?_) (fun w=>rfl);dsimp only[okE];refine zabf h5 (fun q r3 hq h7 h8=>?_) (fun w=>rfl);dsimp only;refine zaak okS .inr _ h7 ?_;rw[zaaq];exact DS.assert (w:=core w) (q:=core q) hw c2 hq
  dsimp only[cond_false];refine zabe h1 (fun w r2 hw h3 h4=>?_) (fun _=>?_)
  ·dsimp only[cond_true];refine zaau (exprT r2 h3 (by omega)) (fun x m t2 c2 h5 h6=>?_) (fun w=>rfl);dsimp only[okE];refine zaau (hB t2 h5 (by omega)) (fun b m2 t3 c3 h7 h8=>?_) (fun w=>rfl);dsimp only[okB];obtain ⟨o1,d1,q1,g1,g2,g3,rfl⟩:=c3;refine zabe h7 (fun v r4 hv h9 h10=>?_) (fun _=>?_)
   ·dsimp only[cond_true];refine zaau (hB r4 h9 (by simp only[List.length_cons] at h6 h8; omega)) (fun b2 m3 t4 c4 h11 h12=>?_) (fun w=>rfl);dsimp only[okB];refine zaak okS .inr _ h11 ?_;rw[zaaq];obtain ⟨o2,d2,q2,k1,k2,k3,rfl⟩:=c4;simpa using DS.ife (w:=core w) (v:=core v) hw c2 g1 g2 g3 hv k1 k2 k3
   ·dsimp only[cond_false];refine zaak okS .inr _ h7 ?_;rw[zaaq];simpa using DS.if_ (w:=core w) hw c2 g1 g2 g3
  dsimp only[cond_false];refine zabf h1 (fun w r2 hw h3 h4=>?_) (fun w=>rfl);dsimp only;refine zaed h3 (fun _ _ _ _ _ _=>rfl) fun t5 r5 e=>?_
  subst e;dsimp only;have tail:¬ (t5.kind=2∧t5.num>1000)→GoodT (fun z=>Option.bind (qay 2 z) fun y24=>
         match y24 with
         |.inl y25=>
          Option.bind (B (Prod.snd y25)) fun y26=>
          match y26 with
          |.inl y27=>
           some (.inl ((TStmt.mk (11:Int) [] [] (TExpr.mk 0 0 [] []) (Token.num (Prod.fst y25)) (Prod.fst y27) []),(Prod.snd y27)))
          |.inr y27=>
           some (.inr (y27))
         |.inr y25=>
          some (.inr (y25))) okS .inr (fun x n=>DS x ([]++core w::n)) (t5::r5):=by
   intro hno;obtain ⟨t5',r5',e5⟩:∃ a b,t5::r5=a::b:=⟨_,_,rfl⟩;by_cases h6:t5.kind=2
   ·have hle:t5.num≤1000:=by
     have:¬ t5.num>1000:=fun h=>hno ⟨h6,h⟩
     omega
    refine zaeb (Q:=fun z=>Option.bind (B z) fun y26=>
          match y26 with
          |.inl y27=>
           some (.inl ((TStmt.mk (11:Int) [] [] (TExpr.mk 0 0 [] []) t5.num (Prod.fst y27) []),(Prod.snd y27)))
          |.inr y27=>
           some (.inr (y27))) ?_ (fun t' z ht _=>?_)
    ·refine zaau (hB r5 (zae5 h3 (by rw[h6]; decide)) (by simp only[List.length_cons] at h4; omega)) (fun b m2 t3 c3 h9 h10=>?_) (fun w=>rfl);dsimp only[okB];refine zaak okS .inr _ h9 ?_;obtain ⟨o1,d1,q1,g1,g2,g3,rfl⟩:=c3;have h9:=DS.rep (w:=core w) (n:=core t5) hw h6 hle g1 g2 g3;simp only[List.nil_append,List.append_nil];exact h9
    ·show Option.bind (qay 2 (t'::z)) _=_;simp only[core,Prod.mk.injEq] at ht;have e:(t'.kind != 2)=false:=by rw[ht.1,h6]; rfl
     rw[of1,e,cond_false,Option.bind_some];dsimp only;rw[ht.2.2]
   ·refine zagg h3 fun t' z ht=>?_
    show Option.bind (qay 2 (t'::z)) _=_;simp only[core,Prod.mk.injEq] at ht;have e:(t'.kind != 2)=true:=by rw[ht.1]; simpa using h6
    rw[of1,e,cond_true,Option.bind_some]
  by_cases h6:t5.kind=2
  ·have e6:(t5.kind==2)=true:=by simp[h6]
   simp only[e6,cond_true,Option.bind_some];by_cases h7:t5.num>(1000:Int)
   ·simp only[decide_eq_true h7,cond_true];exact zaq6 h3 (fun w=>rfl)
   ·simp only[decide_eq_false h7,cond_false];exact tail (fun hh=>h7 hh.2)
  ·have e6:(t5.kind==2)=false:=by simp[h6]
   simp only[e6,cond_false,Option.bind_some];exact tail (fun hh=>h6 hh.1)
abbrev R3:=(Wrong)⊕((List Token)×(List TStmt))
def ok3 (b:List TStmt) (z:List Token):R3:=.inr (z,b)
theorem zax0 (B : List Token → Option RB) (N : Nat) (hB : ∀ l, Ends l → l.length < N → GoodT (fun z => B z) okB .inr DB l) (hN : N < 1000000) :
  ∀ (f:Nat) (ts:List Token) (b:List TStmt),Ends ts→ts.length<f→ts.length≤N→b.length+ts.length<1000000 →
   GoodT (fun z=>qat_i3 B f z b) ok3 .inl (fun x n=>∃ d m q,hitc [125] q=true∧DL d m∧x=b++d∧n=m++[q]) ts:=by
 intro f;induction f with
 |zero=>intro ts _ _ h; omega
 |succ f ih=>
  intro ts b he hf hl hb;show GoodT (fun z=>qat_t3 B (qat_i3 B f) z b) ok3 .inl (fun x n=>∃ d m q,hitc [125] q=true∧DL d m∧x=b++d∧n=m++[q]) ts;unfold qat_t3;refine zabe he (fun q r hq h1 h2=>?_) (fun _=>?_)
  ·simp only[Bool.not_true,cond_false];exact zaak ok3 .inl b h1 ⟨[],[],core q,hq,.nil,(List.append_nil _).symm,rfl⟩
  ·simp only[Bool.not_false,cond_true];refine zaau (stmtT B N hB ts he hl (by omega)) (fun s n t1 c h1 h2=>?_) (fun w=>rfl);dsimp only[okS];have hc:=c.size.1;have e1:decide ((List.length b+List.length [s])*(152:Nat)≤(140737488355328:Nat)∧List.length b+List.length [s]≤(9223372036854775807:Nat))=true:=by
    simp only[decide_eq_true_eq,List.length_cons,List.length_nil];omega
   simp only[e1,cond_true];refine zacd (ih t1 (b++[s]) h1 (by omega) (by omega) (by rw[List.length_append,List.length_cons,List.length_nil]; omega)) fun y m _ hy=>?_
   obtain ⟨d,m',q,g1,g2,rfl,rfl⟩:=hy;exact ⟨s::d,n++m',q,g1,.cons c g2,by simp,by simp⟩
theorem zaxr:∀ (n:Nat) (ts:List Token),Ends ts→ts.length<n→ts.length<1000000→GoodT (fun z=>qat_i n z) okB .inr DB ts:=by
 intro n;induction n with
 |zero=>intro ts _ h; omega
 |succ n ih=>
  intro ts he hn hb;show GoodT (fun z=>qat_f (qat_i n) z) okB .inr DB ts;unfold qat_f;refine zabf he (fun o r ho h1 h2=>?_) (fun w=>rfl);dsimp only;rw[qat_l3,zaaa];refine zaau (zax0 (qat_i n) r.length (fun l h3 h4=>ih l h3 (by omega) (by omega)) (by omega) fuel r [] h1 (by unfold fuel; omega) (Nat.le_refl _) (by simp only[List.length_nil]; omega)) (fun x m t1 c h3 h4=>?_) (fun w=>rfl);dsimp only[ok3];refine zaak okB .inr x h3 ?_;obtain ⟨d,m',q,g1,g2,rfl,rfl⟩:=c;exact ⟨core o,m',q,ho,g2,g1,by simp⟩
theorem zay4 (ts:List Token) (he:Ends ts) (hb:ts.length<1000000):GoodT (fun z=>qat z) okB .inr DB ts:=by
 rw[qat,zaaa];exact zaxr fuel ts he (by unfold fuel; omega) hb
end Lift.A4
namespace Lift.A4
open Go Go.RowKit Lift Go.IntWalk Lift.Fn Lift.A1P Lift.A3
set_option linter.unusedVariables false
set_option linter.unusedSimpArgs false
abbrev R2:=(Wrong)⊕((List Token)×(List TCell)×(List (List UInt8))×(List TThread))
abbrev RP:=((List Token)×(List TCell)×(List (List UInt8))×(List TThread))⊕(Wrong)
def ok2 (p:TProg) (z:List Token):R2:=.inr (z,p.cells,p.mutexes,p.threads)
def okP (p:TProg) (z:List Token):RP:=.inl (z,p.cells,p.mutexes,p.threads)
abbrev wCell:List UInt8:=[99,101,108,108]
abbrev zahh:List UInt8:=[109,117,116,101,120]
abbrev zae3:List UInt8:=[116,104,114,101,97,100]
inductive DC:TCell→List Tk→Prop
 |bare {w a q:Tk}:hitc wCell w=true→a.1=1→hitc [59] q=true→DC ⟨a.2.1,0⟩ [w,a,q]
 |pos {w a o n q:Tk}:hitc wCell w=true→a.1=1→hitc [61] o=true→hitc [45] n=false→n.1=2→hitc [59] q=true→DC ⟨a.2.1,n.2.2⟩ [w,a,o,n,q]
 |ngt {w a o m n q:Tk}:hitc wCell w=true→a.1=1→hitc [61] o=true→hitc [45] m=true→n.1=2→hitc [59] q=true→DC ⟨a.2.1,IntKind.wrap .i64 (0-n.2.2)⟩ [w,a,o,m,n,q]
inductive DP:TProg→List Tk→Prop
 |nil:DP ⟨[],[],[]⟩ []
 |cell {p:TProg} {c d:List Tk} {x:TCell}:DP p c→DC x d→DP ⟨p.cells++[x],p.mutexes,p.threads⟩ (c++d)
 |mutex {p:TProg} {c:List Tk} {w a q:Tk}:DP p c→hitc zahh w=true→a.1=1→hitc [59] q=true→DP ⟨p.cells,p.mutexes++[a.2.1],p.threads⟩ (c++[w,a,q])
 |thread {p:TProg} {c d:List Tk} {w a:Tk} {b:List TStmt}:DP p c→hitc zae3 w=true→a.1=1→DB b d→DP ⟨p.cells,p.mutexes,p.threads++[⟨a.2.1,b⟩]⟩ (c++w::a::d)
theorem zaq1:∀ (a b:List TThread),nT (a++b)=nT a+nT b
 |[],b=>by simp[nT]
 |x::a,b=>by simp only[List.cons_append,nT,zaq1 a b]; omega
theorem zayy (x:TThread):nT [x]=1+nSs x.body:=by simp[nT]
theorem DC.len {x:TCell} {c:List Tk} (h:DC x c):3≤c.length:=by cases h<;>simp
theorem DP.size {p:TProg} {c:List Tk} (h:DP p c):p.cells.length≤c.length∧p.mutexes.length≤c.length∧p.threads.length≤c.length∧nT p.threads≤2*c.length:=by
 induction h with
 |nil=>simp[nT]
 |cell _ hd ih=>have:=hd.len; simp only[List.length_append,List.length_cons,List.length_nil]; omega
 |mutex _ _ _ _ ih=>simp only[List.length_append,List.length_cons,List.length_nil]; omega
 |thread _ _ _ hb ih=>have:=hb.size; simp only[List.length_append,List.length_cons,List.length_nil,zaq1,zayy]; omega
theorem zavg:∀ (f:Nat) (ts:List Token) (q:TProg),Ends ts→ts.length<f→ts.length+q.cells.length<1000000→ts.length+q.mutexes.length<1000000→ts.length+q.threads.length<1000000 →
  GoodT (fun z=>qaA_i2 f z q.cells q.mutexes q.threads) ok2 .inl (fun x n=>∀ c,DP q c→DP x (c++n)) ts:=by
 intro f;induction f with
 |zero=>intro ts q _ h; omega
 |succ f ih=>
  intro ts q he hf hc hm ht;show GoodT (fun z=>qaA_t2 (qaA_i2 f) z q.cells q.mutexes q.threads) ok2 .inl (fun x n=>∀ c,DP q c→DP x (c++n)) ts;unfold qaA_t2;have g1:∀ c:TCell,decide ((List.length q.cells+List.length [c])*(24:Nat)≤(140737488355328:Nat)∧List.length q.cells+List.length [c]≤(9223372036854775807:Nat))=true:=by
   intro c;simp only[decide_eq_true_eq,List.length_cons,List.length_nil];omega
  have g2:∀ a:List UInt8,decide ((List.length q.mutexes+List.length [a])*(16:Nat)≤(140737488355328:Nat)∧List.length q.mutexes+List.length [a]≤(9223372036854775807:Nat))=true:=by
   intro c;simp only[decide_eq_true_eq,List.length_cons,List.length_nil];omega
  have g3:∀ x:TThread,decide ((List.length q.threads+List.length [x])*(40:Nat)≤(140737488355328:Nat)∧List.length q.threads+List.length [x]≤(9223372036854775807:Nat))=true:=by
   intro c;simp only[decide_eq_true_eq,List.length_cons,List.length_nil];omega
  simp only[g1,g2,g3,cond_true]
  have cell:∀ (r:List Token) (c:TCell) (k:List Tk),Ends r→r.length+k.length=ts.length→DC c k →
    GoodT (fun z=>qaA_i2 f z (q.cells++[c]) q.mutexes q.threads) ok2 .inl (fun x n=>∀ c0,DP q c0→DP x (c0++(k++n))) r:=by
   intro r c k h1 h2 h3;have hk:=h3.len;refine zacd (ih r ⟨q.cells++[c],q.mutexes,q.threads⟩ h1 (by omega) (by simp only[List.length_append,List.length_cons,List.length_nil]; omega) (by show _+q.mutexes.length<_; omega) (by show _+q.threads.length<_; omega)) fun y m _ hy=>?_
   intro c0 hc0;have:=hy (c0++k) (.cell hc0 h3);simpa using this
  refine zaed he (fun _ _ _ _ _ _=>rfl) fun t r e=>?_
  subst e;dsimp only;by_cases hk:t.kind=5
  ·have e2:(t.kind != 5)=false:=by simp[hk]
   simp only[e2,cond_false];exact zaak ok2 .inl q he (fun c hc=>by rw[List.append_nil]; exact hc)
  have e2:(t.kind != 5)=true:=by simp[hk]
  simp only[e2,cond_true];refine zabe he (fun w r1 hw h1 h2=>?_) (fun _=>?_)
  ·dsimp only[cond_true];refine zac0 h1 (fun a r2 ha h3 h4=>?_) (fun w=>rfl);dsimp only;refine zabe h3 (fun o r3 ho h5 h6=>?_) (fun _=>?_)
   ·dsimp only[cond_true];have num:∀ (ngt:Bool) (r4:List Token) (k:List Tk),Ends r4→r4.length+k.length=(t::r).length→(∀ n z:Token,n.kind=2→hit [59] z=true→(∀ y,r4=n::y→DC ⟨a.text,bif ngt then IntKind.wrap IntKind.i64 ((0:Int)-n.num) else n.num⟩ (k++[core n,core z])))→GoodT (fun z=>Option.bind (qay 2 z) fun y6=>
      match y6 with
      |.inl y7=>
       bif ngt then
        Option.bind (qaG [(59:UInt8)] (Prod.snd y7)) fun y8=>
        match y8 with
        |.inl y9=>
         qaA_i2 f y9 (q.cells++[TCell.mk a.text (IntKind.wrap IntKind.i64 ((0:Int)-Token.num (Prod.fst y7)))]) q.mutexes q.threads
        |.inr y9=>
         some (.inl (y9))
       else
        Option.bind (qaG [(59:UInt8)] (Prod.snd y7)) fun y10=>
        match y10 with
        |.inl y11=>
         qaA_i2 f y11 (q.cells++[TCell.mk a.text (Token.num (Prod.fst y7))]) q.mutexes q.threads
        |.inr y11=>
         some (.inl (y11))
      |.inr y7=>
       some (.inl (y7))) ok2 .inl (fun x n=>∀ c,DP q c→DP x (c++(k++n))) r4:=by
     intro ngt r4 k h7 h8 h9;obtain ⟨n,y,rfl⟩:=zafw h7;by_cases hn:n.kind=2
     ·refine zaeb (Q := fun z => bif ngt then
        Option.bind (qaG [(59:UInt8)] z) fun y8=>
        match y8 with
        |.inl y9=>
         qaA_i2 f y9 (q.cells++[TCell.mk a.text (IntKind.wrap IntKind.i64 ((0:Int)-n.num))]) q.mutexes q.threads
        |.inr y9=>
         some (.inl (y9))
       else
        Option.bind (qaG [(59:UInt8)] z) fun y10=>
        match y10 with
        |.inl y11=>
         qaA_i2 f y11 (q.cells++[TCell.mk a.text n.num]) q.mutexes q.threads
        |.inr y11=>
         some (.inl (y11))) ?_ (fun t' z ht _=>?_)
      ·have h10:=zae5 h7 (by rw[hn]; decide);cases ngt with
       |true=>
        dsimp only[cond_true];refine zabf h10 (fun q7 r7 hq h12 h13=>?_) (fun w=>rfl);dsimp only;have hd:=h9 n q7 hn hq y rfl;refine zacd (cell r7 _ _ h12 (by simp only[List.length_append,List.length_cons,List.length_nil] at h8 ⊢; omega) hd) fun y m _ hy=>?_
        intro c hc;have:=hy c hc;simpa using this
       |false=>
        dsimp only[cond_false];refine zabf h10 (fun q7 r7 hq h12 h13=>?_) (fun w=>rfl);dsimp only;have hd:=h9 n q7 hn hq y rfl;refine zacd (cell r7 _ _ h12 (by simp only[List.length_append,List.length_cons,List.length_nil] at h8 ⊢; omega) hd) fun y m _ hy=>?_
        intro c hc;have:=hy c hc;simpa using this
      ·show Option.bind (qay 2 (t'::z)) _=_;simp only[core,Prod.mk.injEq] at ht;have e:(t'.kind != 2)=false:=by rw[ht.1,hn]; rfl
       rw[of1,e,cond_false,Option.bind_some];dsimp only;rw[ht.2.2]
     ·refine zagg h7 fun t' z ht=>?_
      show Option.bind (qay 2 (t'::z)) _=_;simp only[core,Prod.mk.injEq] at ht;have e:(t'.kind != 2)=true:=by rw[ht.1]; simpa using hn
      rw[of1,e,cond_true,Option.bind_some]
    refine zabe h5 (fun m r4 hm2 h7 h8=>?_) (fun hno=>?_)
    ·have:=num true r4 [core w,core a,core o,core m] h7 (by simp only[List.length_cons,List.length_nil] at h2 ⊢; omega) (fun n z hn hz y _=>DC.ngt (w:=core w) (a:=core a) (o:=core o) (m:=core m) (n:=core n) (q:=core z) hw ha ho hm2 hn hz);exact zacd this fun y m _ hy=>by intro c hc; have:=hy c hc; simpa using this
    ·have:=num false r3 [core w,core a,core o] h5 (by simp only[List.length_cons,List.length_nil] at h2 ⊢; omega) (fun n z hn hz y hy=>DC.pos (w:=core w) (a:=core a) (o:=core o) (n:=core n) (q:=core z) hw ha ho (hno n y hy) hn hz);exact zacd this fun y m _ hy=>by intro c hc; have:=hy c hc; simpa using this
   ·dsimp only[cond_false];refine zabf h3 (fun z r3 hz h5 h6=>?_) (fun w=>rfl);dsimp only;exact zacd (cell r3 _ _ h5 (by simp only[List.length_cons,List.length_nil] at h2 ⊢; omega) (DC.bare (w:=core w) (a:=core a) (q:=core z) hw ha hz)) fun y m _ hy=>by intro c hc; have:=hy c hc; simpa using this
  dsimp only[cond_false];refine zabe he (fun w r1 hw h1 h2=>?_) (fun _=>?_)
  ·dsimp only[cond_true];refine zac0 h1 (fun a r2 ha h3 h4=>?_) (fun w=>rfl);dsimp only;refine zabf h3 (fun z r3 hz h5 h6=>?_) (fun w=>rfl);dsimp only;refine zacd (ih r3 ⟨q.cells,q.mutexes++[a.text],q.threads⟩ h5 (by omega) (by show _+q.cells.length<_; omega) (by simp only[List.length_append,List.length_cons,List.length_nil]; omega) (by show _+q.threads.length<_; omega)) fun y m _ hy=>?_
   intro c hc;have:=hy _ (DP.mutex (w:=core w) (a:=core a) (q:=core z) hc hw ha hz);simpa using this
  dsimp only[cond_false];refine zabf he (fun w r1 hw h1 h2=>?_) (fun w=>rfl);dsimp only;refine zac0 h1 (fun a r2 ha h3 h4=>?_) (fun w=>rfl);dsimp only;refine zaau (zay4 r2 h3 (by omega)) (fun b n t1 c h5 h6=>?_) (fun w=>rfl);dsimp only[okB];refine zacd (ih t1 ⟨q.cells,q.mutexes,q.threads++[TThread.mk a.text b]⟩ h5 (by omega) (by show _+q.cells.length<_; omega) (by show _+q.mutexes.length<_; omega) (by simp only[List.length_append,List.length_cons,List.length_nil]; omega)) fun y m _ hy=>?_
  intro c0 hc0;have:=hy _ (DP.thread (w:=core w) (a:=core a) hc0 hw ha c);simpa using this
theorem zaqn (ts:List Token) (he:Ends ts) (hb:ts.length<1000000):GoodT (fun z=>qaA z) okP .inr DP ts:=by
 rw[qaA,zaaa];unfold qaA_f;rw[qaA_l2,zaaa];refine zaau (zavg fuel ts ⟨[],[],[]⟩ he (by unfold fuel; omega) (by simp only[List.length_nil]; omega) (by simp only[List.length_nil]; omega) (by simp only[List.length_nil]; omega)) (fun x n t1 c h1 h2=>?_) (fun w=>rfl);dsimp only[ok2];refine zaak okP .inr x h1 ?_;have:=c [] .nil;simpa using this
end Lift.A4
namespace Lift.A4
open Go Go.RowKit Lift Go.IntWalk Lift.Fn Lift.A1P Lift.A3
set_option linter.unusedVariables false
set_option linter.unusedSimpArgs false
theorem zax2 {l:List TStmt} (h:sFs l=true) {y:TStmt} (hy:y∈l):sF y=true:=by
 rw[zasg] at h;exact List.all_eq_true.1 h y hy
theorem zaxv {R:WR} {N W:Nat} (hW:6*1000001+600≤W) (hR:BlkOk R N W) (d:Nat) (l:List TStmt) (hl:sFs l=true) (hN:nSs l≤N) (hd:d+nSs l≤1000000):∀ (k n i:Nat) (b:List Int),i+k=l.length→k<n→b.length+nSs (l.drop i)*W≤90000000000000 →
  qaR_i1 R n (d:Int) l (l.length:Int) (i:Int) opsL b=some (opsL,b++ofStr (sTs (l.drop i) d)):=by
 intro k;induction k with
 |zero=>
  intro n i b hi hn hb;obtain ⟨n,rfl⟩:∃ q,n=q+1:=⟨n-1,by omega⟩;show qaR_t1 R (qaR_i1 R n) d l l.length i opsL b=_;unfold qaR_t1;have e:decide ((i:Int)<(l.length:Int))=false:=by simp only[decide_eq_false_iff_not]; omega
  have hz:l.drop i=[]:=List.drop_eq_nil_of_le (by omega);rw[e,cond_false,hz,sTs];simp[ofStr]
 |succ k ih=>
  intro n i b hi hn hb;obtain ⟨n,rfl⟩:∃ q,n=q+1:=⟨n-1,by omega⟩;show qaR_t1 R (qaR_i1 R n) d l l.length i opsL b=_;unfold qaR_t1;have hlt:i<l.length:=by omega
  have e:decide ((i:Int)<(l.length:Int))=true:=by simp only[decide_eq_true_eq]; omega
  have e0:decide ((0:Int)≤(i:Int))=true:=by simp only[decide_eq_true_eq]; omega
  rw[e,cond_true,e0,cond_true,Int.toNat_natCast,List.getElem?_eq_getElem hlt,Option.bind_some,zakt];have hdr:l.drop i=l[i]::l.drop (i+1):=List.drop_eq_getElem_cons hlt;have hy:=zax2 hl (List.getElem_mem hlt);have hsum:nSs l=nSs (l.take i)+nSs (l.drop i):=by rw[← zas2,List.take_append_drop]
  rw[hdr] at hb hsum ⊢;rw[zaev] at hb hsum;rw[Nat.add_mul] at hb;have hlen:=zav8 1000001 W hW l[i] d hy (by omega);have hll:l.length≤nSs l:=by
   clear hb hsum hdr hy hlen hlt e e0 ih hl hN hd hi;induction l with
   |nil=>simp
   |cons x l ih2=>
    rw[zaev,List.length_cons];have:1≤nS x:=by obtain ⟨a,b,c,d,e,f,g⟩:=x; rw[nS_mk]; omega
    omega
  rw[stmtW hW hR l[i] d b (by omega) hy (by omega) (by omega),Option.bind_some];dsimp only;rw[i64_in ((i:Int)+1) (by omega)];have e2:(i:Int)+1=((i+1:Nat):Int):=by omega
  rw[e2,ih n (i+1) _ (by omega) (by omega) (by rw[List.length_append,zaas]; omega),sTs,zab9,List.append_assoc]
theorem zayi {W:Nat} (hW:6*1000001+600≤W):∀ n N,N≤n→BlkOk (qaR_i n) N W:=by
 intro n;induction n with
 |zero=>intro N hN l d b h; omega
 |succ n ih=>
  intro N hN l d b hl hf hd hb;show qaR_f (qaR_i n) l d opsL b=_;unfold qaR_f;have hll:l.length≤nSs l:=by
   clear hb hd hf hl hN ih;induction l with
   |nil=>simp
   |cons x l ih2=>
    rw[zaev,List.length_cons];have:1≤nS x:=by obtain ⟨a,b,c,d,e,f,g⟩:=x; rw[nS_mk]; omega
    omega
  have:=zaxv hW (ih (nSs l) (by omega)) d l hf (Nat.le_refl _) hd l.length fuel 0 b (by omega) (by unfold fuel; omega) (by rw[List.drop_zero]; exact hb);rw[List.drop_zero] at this;rw[qaR_l1,zaaa];have h0:((0:Nat):Int)=0:=rfl;rw[h0] at this;rw[this,Option.bind_some]
theorem zayw {W:Nat} (hW:6*1000001+600≤W) (l:List TStmt) (d:Nat) (b:List Int) (hf:sFs l=true) (hd:d+nSs l≤1000000) (hb:b.length+nSs l*W≤90000000000000):qaR l (d:Int) opsL b=some (opsL,b++ofStr (sTs l d)):=by
 rw[qaR,zaaa];exact zayi hW fuel 1000001 (by unfold fuel; omega) l d b (by omega) hf hd hb
theorem zakj (c:TCell) (h:cOk c=true):(cellT c).length≤200∧isNm c.name=true∧-2147483647≤c.init∧c.init≤2147483647:=by
 unfold cOk at h;simp only[Bool.and_eq_true,decide_eq_true_eq] at h;obtain ⟨⟨h1,h2⟩,h3⟩:=h;have:=zabc h1;have:=Lib.itoa_length_le c.init (by omega) (by omega);refine ⟨?_,h1,h2,h3⟩;unfold cellT;rw[zacs];simp only[List.length_flatten,List.map_cons,List.map_nil,List.sum_cons,List.sum_nil,List.length_cons,List.length_nil];omega
theorem flat_len {α:Type} (f:α→List UInt8) (K:Nat):∀ (l:List α),(∀ x∈l,(f x).length≤K)→(l.flatMap f).length≤l.length*K
 |[],_=>by simp
 |x::l,h=>by
  have h1:=h x (by simp);have h2:=flat_len f K l (fun y hy=>h y (by simp[hy]));rw[List.flatMap_cons,List.length_append,List.length_cons,Nat.add_mul];omega
theorem zazm (l:List TCell) (C:List TCell) (M:List (List UInt8)) (T:List TThread) (hl:l.all cOk=true) (hn:l.length≤4000):∀ (k n i:Nat) (b:List Int),i+k=l.length→k<n→b.length+k*200≤90000000000 →
  qaP_i8 n l (l.length:Int) (i:Int) C M T opsL b=some (C,M,T,opsL,b++ofStr ((l.drop i).flatMap cellT)):=by
 intro k;induction k with
 |zero=>
  intro n i b hi hk hb;obtain ⟨n,rfl⟩:∃ q,n=q+1:=⟨n-1,by omega⟩;show qaP_t8 (qaP_i8 n) l l.length i C M T opsL b=_;unfold qaP_t8;have e:decide ((i:Int)<(l.length:Int))=false:=by simp only[decide_eq_false_iff_not]; omega
  have hz:l.drop i=[]:=List.drop_eq_nil_of_le (by omega);rw[e,cond_false,hz];simp[ofStr]
 |succ k ih=>
  intro n i b hi hk hb;obtain ⟨n,rfl⟩:∃ q,n=q+1:=⟨n-1,by omega⟩;show qaP_t8 (qaP_i8 n) l l.length i C M T opsL b=_;unfold qaP_t8;have hlt:i<l.length:=by omega
  have e:decide ((i:Int)<(l.length:Int))=true:=by simp only[decide_eq_true_eq]; omega
  have e0:decide ((0:Int)≤(i:Int))=true:=by simp only[decide_eq_true_eq]; omega
  rw[e,cond_true,e0,cond_true,Int.toNat_natCast,List.getElem?_eq_getElem hlt,Option.bind_some];have hdr:l.drop i=l[i]::l.drop (i+1):=List.drop_eq_getElem_cons hlt;obtain ⟨c1,c2,c3,c4⟩:=zakj l[i] (List.all_eq_true.1 hl _ (List.getElem_mem hlt));have cn:=zabc c2;rw[hdr,List.flatMap_cons];generalize l[i]=c at *;have ci:=Lib.itoa_length_le c.init (by omega) (by omega);rw[zal2 (by omega) (by omega),Option.bind_some]
  have hln:=zacn 0 [[(99:UInt8),(101:UInt8),(108:UInt8),(108:UInt8),(32:UInt8)],c.name,[(32:UInt8),(61:UInt8),(32:UInt8)],Lib.itoa c.init,[(59:UInt8)]] b (by omega) (by simp) (by
   simp only[List.length_flatten,List.map_cons,List.map_nil,List.sum_cons,List.sum_nil,List.length_cons,List.length_nil];omega) (by omega)
  have h0:((0:Nat):Int)=0:=rfl;rw[h0] at hln;rw[hln,Option.bind_some];dsimp only;rw[i64_in ((i:Int)+1) (by omega)];have e2:(i:Int)+1=((i+1:Nat):Int):=by omega
  rw[e2,ih n (i+1) _ (by omega) (by omega) (by
   rw[List.length_append,zaas];have:(ln 0 [[(99:UInt8),(101:UInt8),(108:UInt8),(108:UInt8),(32:UInt8)],c.name,[(32:UInt8),(61:UInt8),(32:UInt8)],Lib.itoa c.init,[(59:UInt8)]].flatten).length≤200:=c1;omega),zab9,List.append_assoc]
  rfl
theorem mutsW (l:List (List UInt8)) (C:List TCell) (M:List (List UInt8)) (T:List TThread) (hl:l.all isNm=true) (hn:l.length≤4000):∀ (k n i:Nat) (b:List Int),i+k=l.length→k<n→b.length+k*200≤90000000000 →
  qaP_i13 n l (l.length:Int) (i:Int) C M T opsL b=some (C,M,T,opsL,b++ofStr ((l.drop i).flatMap mutT)):=by
 intro k;induction k with
 |zero=>
  intro n i b hi hk hb;obtain ⟨n,rfl⟩:∃ q,n=q+1:=⟨n-1,by omega⟩;show qaP_t13 (qaP_i13 n) l l.length i C M T opsL b=_;unfold qaP_t13;have e:decide ((i:Int)<(l.length:Int))=false:=by simp only[decide_eq_false_iff_not]; omega
  have hz:l.drop i=[]:=List.drop_eq_nil_of_le (by omega);rw[e,cond_false,hz];simp[ofStr]
 |succ k ih=>
  intro n i b hi hk hb;obtain ⟨n,rfl⟩:∃ q,n=q+1:=⟨n-1,by omega⟩;show qaP_t13 (qaP_i13 n) l l.length i C M T opsL b=_;unfold qaP_t13;have hlt:i<l.length:=by omega
  have e:decide ((i:Int)<(l.length:Int))=true:=by simp only[decide_eq_true_eq]; omega
  have e0:decide ((0:Int)≤(i:Int))=true:=by simp only[decide_eq_true_eq]; omega
  rw[e,cond_true,e0,cond_true,Int.toNat_natCast,List.getElem?_eq_getElem hlt,Option.bind_some];have hdr:l.drop i=l[i]::l.drop (i+1):=List.drop_eq_getElem_cons hlt;have cn:=zabc (List.all_eq_true.1 hl _ (List.getElem_mem hlt));rw[hdr,List.flatMap_cons];generalize l[i]=c at *
  have hln:=zacn 0 [[(109:UInt8),(117:UInt8),(116:UInt8),(101:UInt8),(120:UInt8),(32:UInt8)],c,[(59:UInt8)]] b (by omega) (by simp) (by
   simp only[List.length_flatten,List.map_cons,List.map_nil,List.sum_cons,List.sum_nil,List.length_cons,List.length_nil];omega) (by omega)
  have h0:((0:Nat):Int)=0:=rfl;rw[h0] at hln;rw[hln,Option.bind_some];dsimp only;rw[i64_in ((i:Int)+1) (by omega)];have e2:(i:Int)+1=((i+1:Nat):Int):=by omega
  rw[e2,ih n (i+1) _ (by omega) (by omega) (by
   rw[List.length_append,zaas,zacs];simp only[List.length_flatten,List.map_cons,List.map_nil,List.sum_cons,List.sum_nil,List.length_cons,List.length_nil];omega),zab9,List.append_assoc]
  rfl
theorem thrsW {W : Nat} (hW : 6 * 1000001 + 600 ≤ W) (l : List TThread) (hl : (l.all fun t => isNm t.name && sFs t.body) = true) (hn : l.length ≤ 4000) (hs : nT l ≤ 100000) : ∀ (k n i : Nat) (b : List Int), i + k = l.length → k < n → b.length + nT (l.drop i) * W ≤ 80000000000000 →
  qaP_i18 n l (l.length:Int) (i:Int) opsL b=some (opsL,b++ofStr ((l.drop i).flatMap thrT)):=by
 intro k;induction k with
 |zero=>
  intro n i b hi hk hb;obtain ⟨n,rfl⟩:∃ q,n=q+1:=⟨n-1,by omega⟩;show qaP_t18 (qaP_i18 n) l l.length i opsL b=_;unfold qaP_t18;have e:decide ((i:Int)<(l.length:Int))=false:=by simp only[decide_eq_false_iff_not]; omega
  have hz:l.drop i=[]:=List.drop_eq_nil_of_le (by omega);rw[e,cond_false,hz];simp[ofStr]
 |succ k ih=>
  intro n i b hi hk hb;obtain ⟨n,rfl⟩:∃ q,n=q+1:=⟨n-1,by omega⟩;show qaP_t18 (qaP_i18 n) l l.length i opsL b=_;unfold qaP_t18;have hlt:i<l.length:=by omega
  have e:decide ((i:Int)<(l.length:Int))=true:=by simp only[decide_eq_true_eq]; omega
  have e0:decide ((0:Int)≤(i:Int))=true:=by simp only[decide_eq_true_eq]; omega
  rw[e,cond_true,e0,cond_true,Int.toNat_natCast,List.getElem?_eq_getElem hlt,Option.bind_some];have hdr:l.drop i=l[i]::l.drop (i+1):=List.drop_eq_getElem_cons hlt;have hok:=List.all_eq_true.1 hl _ (List.getElem_mem hlt);rw[Bool.and_eq_true] at hok;have cn:=zabc hok.1;have hsum:nT l=nT (l.take i)+nT (l.drop i):=by rw[← zaq1,List.take_append_drop]
  rw[hdr] at hb hsum;have hcons:∀ (x:TThread) (r:List TThread),nT (x::r)=1+nSs x.body+nT r:=fun x r=>by simp[nT]
  rw[hcons] at hb hsum;simp only[Nat.add_mul,Nat.one_mul] at hb;rw[hdr,List.flatMap_cons];generalize l[i]=c at *;have hbl:=zafy 1000001 W hW c.body 1 hok.2 (by omega)
  have hln:=zacn 0 [[(116:UInt8),(104:UInt8),(114:UInt8),(101:UInt8),(97:UInt8),(100:UInt8),(32:UInt8)],c.name,[(32:UInt8),(123:UInt8)]] b (by omega) (by simp) (by
   simp only[List.length_flatten,List.map_cons,List.map_nil,List.sum_cons,List.sum_nil,List.length_cons,List.length_nil];omega) (by omega)
  have h0:((0:Nat):Int)=0:=rfl;rw[h0] at hln;rw[hln,Option.bind_some];dsimp only;have hl1:(ln 0 [[(116:UInt8),(104:UInt8),(114:UInt8),(101:UInt8),(97:UInt8),(100:UInt8),(32:UInt8)],c.name,[(32:UInt8),(123:UInt8)]].flatten).length≤100:=by
   rw[zacs];simp only[List.length_flatten,List.map_cons,List.map_nil,List.sum_cons,List.sum_nil,List.length_cons,List.length_nil];omega
  have hl2:(ln 0 [[(125:UInt8)]].flatten).length=2:=by decide
  have hbw:=zayw hW c.body 1 (b++ofStr (ln 0 [[(116:UInt8),(104:UInt8),(114:UInt8),(101:UInt8),(97:UInt8),(100:UInt8),(32:UInt8)],c.name,[(32:UInt8),(123:UInt8)]].flatten)) hok.2 (by omega) (by
   rw[List.length_append,zaas];omega)
  have h1:((1:Nat):Int)=1:=rfl;rw[h1] at hbw;rw[hbw,Option.bind_some];dsimp only
  have hln2:=zacn 0 [[(125:UInt8)]] (b++ofStr (ln 0 [[(116:UInt8),(104:UInt8),(114:UInt8),(101:UInt8),(97:UInt8),(100:UInt8),(32:UInt8)],c.name,[(32:UInt8),(123:UInt8)]].flatten)++ofStr (sTs c.body 1)) (by omega) (by simp) (by simp) (by
   simp only[List.length_append,zaas];omega)
  rw[h0] at hln2;rw[hln2,Option.bind_some];dsimp only;rw[i64_in ((i:Int)+1) (by omega)];have e2:(i:Int)+1=((i+1:Nat):Int):=by omega
  rw[e2,ih n (i+1) _ (by omega) (by omega) (by
   simp only[List.length_append,zaas,hl2];omega)]
  unfold thrT;simp only[zab9,List.append_assoc]
noncomputable def showV (p:TProg):List UInt8×Int:=
 if zaco p≠0 then ([],zaco p) else if p.cells.length+p.mutexes.length+p.threads.length>4000 then ([],10) else if (progT p).length>4000 then ([],10) else (progT p,0)
theorem zam9 {p:TProg} (h:zaco p=0):pOk p=true∧maxEv (evP p) 0≤16∧(cT p.threads:Int)≤500:=by
 unfold zaco at h;cases h1:pOk p with
 |false=>rw[h1] at h; cases h
 |true=>
  rw[h1] at h;simp only[Bool.not_true,cond_false] at h;by_cases h2:maxEv (evP p) 0>16
  ·rw[decide_eq_true h2,cond_true] at h; cases h
  ·rw[decide_eq_false h2,cond_false] at h;by_cases h3:(cT p.threads:Int)>500
   ·rw[decide_eq_true h3,cond_true] at h; cases h
   ·exact ⟨rfl,by omega,by omega⟩
mutual
theorem nS_cS:∀ x:TStmt,nS x≤2*cS x
 |⟨k,r,m,x,c,t,o⟩=>by
  rw[nS_mk,cS];have h1:=zaku t;have h2:=zaku o;by_cases hx:zaay x=true
  ·rw[if_pos hx]; omega
  ·rw[if_neg hx];have:nE x=1:=by
    obtain ⟨k,n,s,l⟩:=x;unfold zaay at hx;simp at hx;have:l=[]:=by
     cases l with
     |nil=>rfl
     |cons a l=>simp at hx
    subst this;exact zafq _ _ _
   omega
theorem zaku:∀ l:List TStmt,nSs l≤2*cSs l
 |[]=>by simp[nSs]
 |x::l=>by rw[zaev,cSs]; have:=nS_cS x; have:=zaku l; omega
end
theorem nT_cT:∀ l:List TThread,nT l≤l.length+2*cT l
 |[]=>by simp[nT]
 |x::l=>by
  have h1:=zaku x.body;have h2:=nT_cT l;have:nT (x::l)=1+nSs x.body+nT l:=by simp[nT]
  rw[this,cT,List.length_cons];omega
theorem showW (p:TProg) (h:nT p.threads≤100000000) (h1:p.cells.length≤100000000) (h2:p.mutexes.length≤100000000) (h3:p.threads.length≤100000000):qaP p=some (showV p):=by
 rw[qaP,zaaa];unfold qaP_f showV;rw[zagx,zavf p h h1 h2,Option.bind_some];by_cases hr:zaco p=0
 ·have e:(zaco p != 0)=false:=by simp[hr]
  obtain ⟨r1,r2,r3⟩:=zam9 hr;have w1:IntKind.wrap IntKind.i64 (IntKind.wrap IntKind.i64 ((↑(List.length p.cells):Int)+(↑(List.length p.mutexes):Int))+(↑(List.length p.threads):Int))=((p.cells.length+p.mutexes.length+p.threads.length:Nat):Int):=by
   rw[i64_in ((↑(List.length p.cells):Int)+(↑(List.length p.mutexes):Int)) (by omega),i64_in _ (by omega)];omega
  rw[e,cond_false,if_neg (by simp[hr]),w1];by_cases hm:p.cells.length+p.mutexes.length+p.threads.length>4000
  ·rw[if_pos hm,decide_eq_true (by omega),cond_true]
  ·rw[if_neg hm,decide_eq_false (by omega),cond_false,opsE,Option.bind_some];unfold pOk at r1;rw[Bool.and_eq_true,Bool.and_eq_true] at r1;obtain ⟨q1,q2,q3⟩:=r1;have hnt:=nT_cT p.threads;obtain ⟨W,hWd⟩:∃ W,W=10000000:=⟨_,rfl⟩;have hW:6*1000001+600≤W:=by omega
   have hfl1:=flat_len cellT 200 p.cells (fun x hx=>(zakj x (List.all_eq_true.1 q1 x hx)).1);have hfl2:=flat_len mutT 200 p.mutexes (fun x hx=>by
    have:=zabc (List.all_eq_true.1 q2 x hx);unfold mutT;rw[zacs];simp only[List.length_flatten,List.map_cons,List.map_nil,List.sum_cons,List.sum_nil,List.length_cons,List.length_nil];omega)
   have c1:=zazm p.cells p.cells p.mutexes p.threads q1 (by omega) p.cells.length fuel 0 [] (by omega) (by unfold fuel; omega) (by simp only[List.length_nil]; omega);rw[List.drop_zero,List.nil_append] at c1;have h0:((0:Nat):Int)=0:=rfl;rw[h0] at c1;rw[qaP_l8,zaaa,c1,Option.bind_some];dsimp only;have c2:=mutsW p.mutexes p.cells p.mutexes p.threads q2 (by omega) p.mutexes.length fuel 0 (ofStr (p.cells.flatMap cellT)) (by omega) (by unfold fuel; omega) (by rw[zaas]; omega);rw[List.drop_zero,h0] at c2;rw[qaP_l13,zaaa,c2,Option.bind_some];dsimp only;have hprod:nT p.threads*W≤10000*W:=Nat.mul_le_mul_right _ (by omega);have c3:=thrsW hW p.threads q3 (by omega) (by omega) p.threads.length fuel 0 (ofStr (p.cells.flatMap cellT)++ofStr (p.mutexes.flatMap mutT)) (by omega) (by unfold fuel; omega) (by rw[List.drop_zero,List.length_append,zaas,zaas]; omega);rw[List.drop_zero,h0] at c3;rw[qaP_l18,zaaa,c3,Option.bind_some];dsimp only;have hpt:ofStr (p.cells.flatMap cellT)++ofStr (p.mutexes.flatMap mutT)++ofStr (p.threads.flatMap thrT)=ofStr (progT p):=by
    unfold progT;simp only[zab9,List.append_assoc]
   rw[hpt,qaY,zaaa];unfold qaY_f;rw[Option.bind_some];dsimp only;rw[zaas];by_cases hl:(progT p).length>4000
   ·rw[if_pos hl,decide_eq_true (by omega),cond_true]
   ·rw[if_neg hl,decide_eq_false (by omega),cond_false,zash,Option.bind_some]
 ·have e:(zaco p != 0)=true:=by simpa using hr
  rw[e,cond_true,if_pos hr]
end Lift.A4
namespace Lift.A4
open Go Go.RowKit Lift Go.IntWalk Lift.Fn Lift.A1P Lift.A3
set_option linter.unusedVariables false
set_option linter.unusedSimpArgs false
theorem zaoj {α β:Type} [BEq α] [LawfulBEq α] {l:List (α×β)} {x:α} {v:β} (h:mapAt l x=some v):(x,v)∈l:=by
 unfold mapAt at h;cases hf:l.find? (fun y=>y.1==x) with
 |none=>rw[hf] at h; cases h
 |some y=>
  rw[hf] at h;simp only[Option.map_some,Option.some.injEq] at h;have h1:=List.find?_some hf;have h2:=List.mem_of_find?_eq_some hf;simp only[beq_iff_eq] at h1;obtain ⟨a,b⟩:=y;simp only at h1 h;rw[← h1,← h];exact h2
theorem LV_41:∀ j,j<5→(LV[j]?).bind (fun M=>mapAt M [41])=none:=by decide +kernel
theorem zay2:∀ i,i<5→∀ j,j<5→i≠j→∀ y∈(LV[i]?).getD [],mapAt ((LV[j]?).getD []) y.1=none:=by decide +kernel
theorem zays {i j:Nat} {o:Tk} {k:Int} (h:opAt i o=some k) (hi:i<5) (hj:j<5) (hne:i≠j):opAt j o=none:=by
 unfold opAt at h ⊢;split at h
 ·rename_i h3;rw[if_pos h3];have h5:LV.length=5:=rfl;rw[List.getElem?_eq_getElem (by omega),Option.bind_some] at h ⊢;have:=zay2 i hi j hj hne (o.2.1,k) (by rw[List.getElem?_eq_getElem (by omega)]; exact zaoj h);rw[List.getElem?_eq_getElem (by omega)] at this;exact this
 ·cases h
def stopE (l:Nat) (o:Tk):Prop:=∀ j,l≤j→j<5→opAt j o=none
theorem stopE.mono {l m:Nat} {o:Tk} (h:stopE l o) (hl:l≤m):stopE m o:=fun j h1 h2=>h j (by omega) h2
theorem zas5 {l:Nat} {o:Tk} {k:Int} (h:opAt l o=some k) (hl:l<5):stopE (l+1) o:=fun j h1 h2=>zays h hl h2 (by omega)
theorem zahm {u:List Token} {c d:List Tk} {o:Tk} (h:u.map core=c++o::d):∃ u1 t u2,u=u1++t::u2∧u1.map core=c∧core t=o∧u2.map core=d:=by
 obtain ⟨u1,u',rfl,h1,h2⟩:=List.map_eq_append_iff.1 h;obtain ⟨t,u2,rfl,h3,h4⟩:=List.map_eq_cons_iff.1 h2;exact ⟨u1,t,u2,rfl,h1,h3,h4⟩
def finE:R5→Option RE:=fun y5=>match y5 with
 |.inl y6=>some (.inl ((Prod.fst (Prod.snd (Prod.snd (Prod.snd (Prod.snd y6))))),(Prod.fst (Prod.snd (Prod.snd (Prod.snd (Prod.snd (Prod.snd y6)))))),(Prod.fst (Prod.snd (Prod.snd (Prod.snd (Prod.snd (Prod.snd (Prod.snd y6))))))),(Prod.fst y6),(Prod.snd (Prod.snd (Prod.snd (Prod.snd (Prod.snd (Prod.snd (Prod.snd y6)))))))))
 |.inr y6=>some (.inr (y6))
noncomputable abbrev loopE (E:Int→List Token→Option RE) (f:Nat) (l:Nat) (z:List Token) (x:TExpr):Option R5:=qau_i5 E f (l:Int) z 0 0 [] x.kind x.num x.name LV x.args
theorem zauy {E:Int→List Token→Option RE} {f l:Nat} {t:Token} {r:List Token} {x:TExpr} (h:opAt l (core t)=none) (hl:l<5):loopE E (f+1) l (t::r) x=some (ok5 x (t::r)):=by
 show qau_t5 E (qau_i5 E f) (l:Int) (t::r) 0 0 [] x.kind x.num x.name LV x.args=_;unfold qau_t5;rw[next1,Option.bind_some];dsimp only;by_cases hk:t.kind=3
 ·have e2:(t.kind==3)=true:=by simp[hk]
  have e3:(decide ((0:Int)≤(l:Int))&&decide ((l:Int)<(↑(List.length LV):Int)))=true:=by
   simp only[Bool.and_eq_true,decide_eq_true_eq];exact ⟨by omega,by show (l:Int)<5; omega⟩
  have hlt:(l:Int).toNat<LV.length:=by show (l:Int).toNat<5; omega
  have hm:mapAt LV[(l:Int).toNat] t.text=none:=by
   unfold opAt at h;rw[if_pos (show (core t).1=3 from hk)] at h;have:LV[l]? = some LV[(l:Int).toNat]:=by rw[← List.getElem?_eq_getElem hlt,Int.toNat_natCast]
   rw[this,Option.bind_some] at h;exact h
  simp only[e2,e3,cond_true];rw[List.getElem?_eq_getElem hlt,Option.bind_some,next1,Option.bind_some];dsimp only;rw[hm];rfl
 ·have e2:(t.kind==3)=false:=by simp[hk]
  simp only[e2,cond_false];rfl
theorem zasf {E:Int→List Token→Option RE} {f l:Nat} {t:Token} {r z:List Token} {x y:TExpr} {k:Int} (h:opAt l (core t)=some k) (hl:l<5) (hE:E ((l+1:Nat):Int) r=some (okE y z)) :
  loopE E (f+1) l (t::r) x=if l=2 then some (ok5 ⟨k,0,[],[x,y]⟩ z) else loopE E f l z ⟨k,0,[],[x,y]⟩:=by
 show qau_t5 E (qau_i5 E f) (l:Int) (t::r) 0 0 [] x.kind x.num x.name LV x.args=_;unfold qau_t5;rw[next1,Option.bind_some];dsimp only;have hk:t.kind=3:=by
  unfold opAt at h;split at h
  ·assumption
  ·cases h
 have e2:(t.kind==3)=true:=by simp[hk]
 have e3:(decide ((0:Int)≤(l:Int))&&decide ((l:Int)<(↑(List.length LV):Int)))=true:=by
  simp only[Bool.and_eq_true,decide_eq_true_eq];exact ⟨by omega,by show (l:Int)<5; omega⟩
 have hlt:(l:Int).toNat<LV.length:=by show (l:Int).toNat<5; omega
 have hm:mapAt LV[(l:Int).toNat] t.text=some k:=by
  unfold opAt at h;rw[if_pos (show (core t).1=3 from hk)] at h;have:LV[l]? = some LV[(l:Int).toNat]:=by rw[← List.getElem?_eq_getElem hlt,Int.toNat_natCast]
  rw[this,Option.bind_some] at h;exact h
 have hw:IntKind.wrap IntKind.i64 ((l:Int)+(1:Int))=((l+1:Nat):Int):=by rw[i64_in _ (by omega)]; omega
 simp only[e2,e3,cond_true];rw[List.getElem?_eq_getElem hlt,Option.bind_some,next1,Option.bind_some];dsimp only;rw[hm];simp only[Option.isSome_some,Bool.not_true,cond_false,Option.getD_some];rw[take1,Option.bind_some];dsimp only;rw[hw,hE,Option.bind_some];dsimp only[okE];rw[zaaq,zaaq];by_cases h2:l=2
 ·subst h2;rfl
 ·have e4:((l:Int)==2)=false:=by simp; omega
  rw[if_neg h2,e4,cond_false]
theorem zapn {n l:Nat} {ts z:List Token} {x:TExpr} (hl:l<5) (h:qau_i n ((l+1:Nat):Int) ts=some (okE x z)) :
  qau_i (n+1) (l:Int) ts=Option.bind (loopE (qau_i n) fuel l z x) finE:=by
 show qau_f (qau_i n) (l:Int) ts=_;unfold qau_f;rw[zanv];simp only[Option.bind_some];have e1:((l:Int)==(↑(List.length LV):Int))=false:=by
  have:(↑(List.length LV):Int)=5:=rfl;rw[this]; simp; omega
 have hw:IntKind.wrap IntKind.i64 ((l:Int)+(1:Int))=((l+1:Nat):Int):=by rw[i64_in _ (by omega)]; omega
 rw[e1,cond_false,hw,h,Option.bind_some];dsimp only[okE];rw[qau_l5,zaaa];rfl
theorem zavc {n:Nat} {ts z:List Token} {x:TExpr} (h:qaF_i (qau_i n) fuel ts=some (okE x z)) :
  qau_i (n+1) ((5:Nat):Int) ts=some (okE x z):=by
 show qau_f (qau_i n) ((5:Nat):Int) ts=_;unfold qau_f;rw[zanv];simp only[Option.bind_some];have e1:(((5:Nat):Int)==(↑(List.length LV):Int))=true:=by rfl
 rw[e1,cond_true,qaF,zaaa,h,Option.bind_some];rfl
theorem zauk (x:TExpr) (z:List Token):finE (ok5 x z)=some (okE x z):=rfl
theorem zaat {s s':List UInt8} {t:Token} (h:hit s t=true) (hne:s≠s'):hit s' t=false:=by
 unfold hit at h ⊢;simp only[Bool.and_eq_true,beq_iff_eq] at h;rw[h.2];have:(s==s')=false:=by simpa using hne
 rw[this,Bool.and_false]
theorem zalx {s:List UInt8} {t:Token} (h:t.kind≠3) (h':t.kind≠4):hit s t=false:=by
 unfold hit;have e1:(t.kind==4)=false:=by simpa using h'
 have e2:(t.kind==3)=false:=by simpa using h
 rw[e1,e2];rfl
structure Comp (l:Nat) (x:TExpr) (c:List Tk):Prop where
 lv:l≤5
 op:l<5→l≠2→∀ u t r n,u.map core=c→10*(u++t::r).length+(5-l)≤n→(u++t::r).length<1000000→stopE (l+1) (core t)→∃ i,i≤u.length∧qau_i (n+1) (l:Int) (u++t::r)=Option.bind (loopE (qau_i n) (fuel-i) l (t::r) x) finE
 un:l=5→∀ u t r n f,u.map core=c→10*(u++t::r).length≤n→(u++t::r).length<1000000→u.length≤f→qaF_i (qau_i n) f (u++t::r)=some (okE x (t::r))
 all:∀ u t r n,u.map core=c→10*(u++t::r).length+(5-l)<n→(u++t::r).length<1000000→stopE l (core t)→qau_i n (l:Int) (u++t::r)=some (okE x (t::r))
theorem zao1 {l:Nat} {x:TExpr} {c:List Tk} (hl:l<5) (op:∀ u t r n,u.map core=c→10*(u++t::r).length+(5-l)≤n→(u++t::r).length<1000000→stopE (l+1) (core t)→∃ i,i≤u.length∧qau_i (n+1) (l:Int) (u++t::r)=Option.bind (loopE (qau_i n) (fuel-i) l (t::r) x) finE) :
  ∀ u t r n,u.map core=c→10*(u++t::r).length+(5-l)<n→(u++t::r).length<1000000→stopE l (core t)→qau_i n (l:Int) (u++t::r)=some (okE x (t::r)):=by
 intro u t r n hu hn hb hs;obtain ⟨n,rfl⟩:∃ q,n=q+1:=⟨n-1,by omega⟩;obtain ⟨i,hi,h⟩:=op u t r n hu (by omega) hb (hs.mono (by omega));rw[h];have hlen:u.length<1000000:=by simp only[List.length_append] at hb; omega
 obtain ⟨f,hf⟩:∃ f,fuel-i=f+1:=⟨fuel-i-1,by unfold fuel; omega⟩;rw[hf,zauy (hs l (Nat.le_refl _) hl) hl,Option.bind_some,zauk]
theorem zaf7 {x:TExpr} {c:List Tk} (un:∀ u t r n f,u.map core=c→10*(u++t::r).length≤n→(u++t::r).length<1000000→u.length≤f→qaF_i (qau_i n) f (u++t::r)=some (okE x (t::r))) :
  ∀ u t r n,u.map core=c→10*(u++t::r).length+(5-5)<n→(u++t::r).length<1000000→stopE 5 (core t)→qau_i n ((5:Nat):Int) (u++t::r)=some (okE x (t::r)):=by
 intro u t r n hu hn hb hs;obtain ⟨n,rfl⟩:∃ q,n=q+1:=⟨n-1,by omega⟩;have hlen:u.length<1000000:=by simp only[List.length_append] at hb; omega
 exact zavc (un u t r n fuel hu (by omega) hb (by unfold fuel; omega))
theorem DE.comp {l:Nat} {x:TExpr} {c:List Tk} (h:DE l x c):Comp l x c:=by
 induction h with
 |@up l x c hl hd ih=>
  have op:∀ u t r n,u.map core=c→10*(u++t::r).length+(5-l)≤n→(u++t::r).length<1000000→stopE (l+1) (core t)→∃ i,i≤u.length∧qau_i (n+1) (l:Int) (u++t::r)=Option.bind (loopE (qau_i n) (fuel-i) l (t::r) x) finE:=by
   intro u t r n hu hn hb hs;exact ⟨0,Nat.zero_le _,zapn hl (ih.all u t r n hu (by omega) hb hs)⟩
  exact ⟨by omega,fun _ _=>op,fun h=>by omega,zao1 hl op⟩
 |@bin l x y c d o k hl h2 hx ho hy ihx ihy=>
  have op:∀ u t r n,u.map core=c++o::d→10*(u++t::r).length+(5-l)≤n→(u++t::r).length<1000000→stopE (l+1) (core t)→∃ i,i≤u.length∧qau_i (n+1) (l:Int) (u++t::r)=Option.bind (loopE (qau_i n) (fuel-i) l (t::r) ⟨k,0,[],[x,y]⟩) finE:=by
   intro u t r n hu hn hb hs;obtain ⟨u1,t1,u2,rfl,e1,rfl,e3⟩:=zahm hu;have hlen:(u1++t1::u2++t::r)=u1++t1::(u2++t::r):=by simp
   rw[hlen] at hn hb ⊢;obtain ⟨i,hi,h⟩:=ihx.op hl h2 u1 t1 (u2++t::r) n e1 hn hb (zas5 ho hl);have hsub:(u2++t::r).length<(u1++t1::(u2++t::r)).length:=by simp only[List.length_append,List.length_cons]; omega
   have hb2:u1.length<1000000:=by simp only[List.length_append] at hb; omega
   have hy2:=ihy.all u2 t r n e3 (by omega) (by omega) hs;refine ⟨i+1,by simp only[List.length_append,List.length_cons]; omega,?_⟩;rw[h];obtain ⟨f,hf⟩:∃ f,fuel-i=f+1:=⟨fuel-i-1,by unfold fuel; omega⟩;rw[hf,zasf ho hl hy2,if_neg h2];have:fuel-(i+1)=f:=by omega
   rw[this]
  exact ⟨by omega,fun _ _=>op,fun h=>by omega,zao1 hl op⟩
 |@cmp x y c d o k hx ho hy ihx ihy=>
  refine ⟨by omega,fun _ h=>absurd rfl h,fun h=>by omega,?_⟩;intro u t r n hu hn hb hs;obtain ⟨n,rfl⟩:∃ q,n=q+1:=⟨n-1,by omega⟩;obtain ⟨u1,t1,u2,rfl,e1,rfl,e3⟩:=zahm hu;have hlen:(u1++t1::u2++t::r)=u1++t1::(u2++t::r):=by simp
  rw[hlen] at hn hb ⊢;have hsub:(u2++t::r).length<(u1++t1::(u2++t::r)).length:=by simp only[List.length_append,List.length_cons]; omega
  rw[zapn (by omega) (ihx.all u1 t1 (u2++t::r) n e1 (by omega) hb (zas5 ho (by omega)))];have hy2:=ihy.all u2 t r n e3 (by omega) (by omega) (hs.mono (by omega));have hf:fuel=(fuel-1)+1:=rfl;rw[hf,zasf ho (by omega) hy2,if_pos rfl,Option.bind_some,zauk]
 |@neg x c o ho hd ih=>
  have un:∀ u t r n f,u.map core=o::c→10*(u++t::r).length≤n→(u++t::r).length<1000000→u.length≤f→qaF_i (qau_i n) f (u++t::r)=some (okE ⟨3,0,[],[x]⟩ (t::r)):=by
   intro u t r n f hu hn hb hf;obtain ⟨t1,u1,rfl,rfl,e2⟩:=List.map_eq_cons_iff.1 hu;simp only[List.cons_append,List.length_cons] at hn hb hf ⊢;obtain ⟨f,rfl⟩:∃ q,f=q+1:=⟨f-1,by omega⟩;have h1:=ih.un rfl u1 t r n f e2 (by omega) (by omega) (by omega);show qaF_f (qaF_i (qau_i n) f) (qau_i n) (t1::(u1++t::r))=_;unfold qaF_f;rw[hit_c] at ho;rw[took1,ho,Option.bind_some];dsimp only[cond_true];rw[h1,Option.bind_some];dsimp only[okE];rw[zaaq]
  exact ⟨by omega,fun h=>by omega,fun _=>un,zaf7 un⟩
 |@not x c o ho hd ih=>
  have un:∀ u t r n f,u.map core=o::c→10*(u++t::r).length≤n→(u++t::r).length<1000000→u.length≤f→qaF_i (qau_i n) f (u++t::r)=some (okE ⟨4,0,[],[x]⟩ (t::r)):=by
   intro u t r n f hu hn hb hf;obtain ⟨t1,u1,rfl,rfl,e2⟩:=List.map_eq_cons_iff.1 hu;simp only[List.cons_append,List.length_cons] at hn hb hf ⊢;obtain ⟨f,rfl⟩:∃ q,f=q+1:=⟨f-1,by omega⟩;have h1:=ih.un rfl u1 t r n f e2 (by omega) (by omega) (by omega);show qaF_f (qaF_i (qau_i n) f) (qau_i n) (t1::(u1++t::r))=_;unfold qaF_f;rw[hit_c] at ho;rw[took1,zaat ho (by decide),Option.bind_some];dsimp only[cond_false];rw[took1,ho,Option.bind_some];dsimp only[cond_true];rw[h1,Option.bind_some];dsimp only[okE];rw[zaaq]
  exact ⟨by omega,fun h=>by omega,fun _=>un,zaf7 un⟩
 |@par x c o q ho hq hd ih=>
  have un:∀ u t r n f,u.map core=o::(c++[q])→10*(u++t::r).length≤n→(u++t::r).length<1000000→u.length≤f→qaF_i (qau_i n) f (u++t::r)=some (okE x (t::r)):=by
   intro u t r n f hu hn hb hf;obtain ⟨t1,u1,rfl,rfl,e2⟩:=List.map_eq_cons_iff.1 hu;obtain ⟨u2,t2,u3,rfl,e3,rfl,e4⟩:=zahm e2;have:u3=[]:=by simpa using e4
   subst this;simp only[List.cons_append,List.length_cons,List.append_assoc,List.nil_append,List.length_append] at hn hb hf ⊢;obtain ⟨f,rfl⟩:∃ q,f=q+1:=⟨f-1,by omega⟩;have hst:stopE 0 (core t2):=by
    intro j _ hj;rw[hit_c] at hq;unfold opAt;split
    ·have ht:t2.text=[41]:=by
      unfold hit at hq;simp only[Bool.and_eq_true,beq_iff_eq] at hq;exact hq.2
     show (LV[j]?).bind (fun M=>mapAt M t2.text)=none;rw[ht];exact LV_41 j hj
    ·rfl
   have h1:=ih.all u2 t2 (t::r) n e3 (by simp only[List.length_append,List.length_cons]; omega) (by simp only[List.length_append,List.length_cons]; omega) hst;show qaF_f (qaF_i (qau_i n) f) (qau_i n) (t1::(u2++t2::t::r))=_;unfold qaF_f;rw[hit_c] at ho hq;rw[took1,zaat ho (by decide),Option.bind_some];dsimp only[cond_false];rw[took1,zaat ho (by decide),Option.bind_some];dsimp only[cond_false];rw[took1,ho,Option.bind_some];dsimp only[cond_true];have h1':qau_i n 0 (u2++t2::t::r)=some (okE x (t2::t::r)):=h1;rw[h1',Option.bind_some];dsimp only[okE];rw[want1,hq,Option.bind_some];rfl
  exact ⟨by omega,fun h=>by omega,fun _=>un,zaf7 un⟩
 |@num o hk=>
  have un:∀ u t r n f,u.map core=[o]→10*(u++t::r).length≤n→(u++t::r).length<1000000→u.length≤f→qaF_i (qau_i n) f (u++t::r)=some (okE ⟨1,o.2.2,[],[]⟩ (t::r)):=by
   intro u t r n f hu hn hb hf;obtain ⟨t1,u1,rfl,rfl,e2⟩:=List.map_eq_cons_iff.1 hu;have:u1=[]:=by simpa using e2
   subst this;simp only[List.length_cons] at hf;obtain ⟨f,rfl⟩:∃ q,f=q+1:=⟨f-1,by omega⟩;have hk':t1.kind=2:=hk;have hh:∀ s,hit s t1=false:=fun s=>zalx (by rw[hk']; decide) (by rw[hk']; decide)
   show qaF_f (qaF_i (qau_i n) f) (qau_i n) (t1::t::r)=_;unfold qaF_f;rw[took1,hh,Option.bind_some];dsimp only[cond_false];rw[took1,hh,Option.bind_some];dsimp only[cond_false];rw[took1,hh,Option.bind_some];dsimp only[cond_false];rw[next1,Option.bind_some];dsimp only;have e:(t1.kind==2)=true:=by simp[hk']
   rw[e,cond_true,take1,Option.bind_some];rfl
  exact ⟨by omega,fun h=>by omega,fun _=>un,zaf7 un⟩
 |@reg o hk=>
  have un:∀ u t r n f,u.map core=[o]→10*(u++t::r).length≤n→(u++t::r).length<1000000→u.length≤f→qaF_i (qau_i n) f (u++t::r)=some (okE ⟨2,0,o.2.1,[]⟩ (t::r)):=by
   intro u t r n f hu hn hb hf;obtain ⟨t1,u1,rfl,rfl,e2⟩:=List.map_eq_cons_iff.1 hu;have:u1=[]:=by simpa using e2
   subst this;simp only[List.length_cons] at hf;obtain ⟨f,rfl⟩:∃ q,f=q+1:=⟨f-1,by omega⟩;have hk':t1.kind=1:=hk;have hh:∀ s,hit s t1=false:=fun s=>zalx (by rw[hk']; decide) (by rw[hk']; decide)
   show qaF_f (qaF_i (qau_i n) f) (qau_i n) (t1::t::r)=_;unfold qaF_f;rw[took1,hh,Option.bind_some];dsimp only[cond_false];rw[took1,hh,Option.bind_some];dsimp only[cond_false];rw[took1,hh,Option.bind_some];dsimp only[cond_false];rw[next1,Option.bind_some];dsimp only;have e:(t1.kind==2)=false:=by simp[hk']
   have e':(t1.kind != 1)=false:=by simp[hk']
   rw[e,cond_false,name1,e',Option.bind_some];rfl
  exact ⟨by omega,fun h=>by omega,fun _=>un,zaf7 un⟩
theorem exprC {x:TExpr} {c:List Tk} (h:DE 0 x c) {u:List Token} (hu:u.map core=c) (t:Token) (r:List Token) (hs:stopE 0 (core t)) (hb:(u++t::r).length<1000000) :
  qau 0 (u++t::r)=some (okE x (t::r)):=by
 rw[qau,zaaa];exact h.comp.all u t r fuel hu (by unfold fuel; omega) hb hs
end Lift.A4
namespace Lift.A4
open Go Go.RowKit Lift Go.IntWalk Lift.Fn Lift.A1P Lift.A3
set_option linter.unusedVariables false
set_option linter.unusedSimpArgs false
theorem snoc1 {u:List Token} {c:List Tk} {q:Tk} (h:u.map core=c++[q]):∃ u1 t,u=u1++[t]∧u1.map core=c∧core t=q:=by
 obtain ⟨u1,t,u2,rfl,h1,h2,h3⟩:=zahm h;have:u2=[]:=by simpa using h3
 subst this;exact ⟨u1,t,rfl,h1,h2⟩
theorem zafo {s:List UInt8} (hs:∀ j,j<5→(LV[j]?).bind (fun M=>mapAt M s)=none) {t:Token} (h:hit s t=true):stopE 0 (core t):=by
 intro j _ hj;unfold opAt;split
 ·have ht:t.text=s:=by
   unfold hit at h;simp only[Bool.and_eq_true,beq_iff_eq] at h;exact h.2
  show (LV[j]?).bind (fun M=>mapAt M t.text)=none;rw[ht];exact hs j hj
 ·rfl
theorem LV_59:∀ j,j<5→(LV[j]?).bind (fun M=>mapAt M [59])=none:=by decide +kernel
theorem zav7:∀ j,j<5→(LV[j]?).bind (fun M=>mapAt M [123])=none:=by decide +kernel
theorem zait {t:Token} (h:t.kind=1) (s:List UInt8):hit s t=false:=zalx (by rw[h]; decide) (by rw[h]; decide)
theorem DS.head {s:TStmt} {c:List Tk} (h:DS s c):∃ o d,c=o::d∧(o.1=1∨∃ w,hitc w o=true∧w≠wElse∧w≠[125]∧w.length≤6):=by
 cases h with
 |set h _ _ _=>exact ⟨_,_,rfl,.inl h⟩
 |write h _ _ _=>exact ⟨_,_,rfl,.inl h⟩
 |add h _ _ _ _ _=>exact ⟨_,_,rfl,.inl h⟩
 |read h _ _ _=>exact ⟨_,_,rfl,.inl h⟩
 |@about i s w b q h1 h2 _ _=>
  refine ⟨_,_,rfl,.inr ⟨s,h2,?_⟩⟩;have hm:=List.mem_of_getElem? h1;revert s;intro s h1 h2 hm;simp only[four,List.mem_cons,List.not_mem_nil,or_false] at hm;rcases hm with rfl|rfl|rfl|rfl<;>decide
 |assert h _ _=>exact ⟨_,_,rfl,.inr ⟨_,h,by decide⟩⟩
 |if_ h _ _ _ _=>exact ⟨_,_,rfl,.inr ⟨_,h,by decide⟩⟩
 |ife h _ _ _ _ _ _ _ _=>exact ⟨_,_,rfl,.inr ⟨_,h,by decide⟩⟩
 |rep h _ _ _ _ _=>exact ⟨_,_,rfl,.inr ⟨_,h,by decide⟩⟩
theorem zass {s:TStmt} {c:List Tk} (h:DS s c) {u:List Token} (hu:u.map core=c):∃ t r,u=t::r∧hit wElse t=false∧hit [125] t=false:=by
 obtain ⟨o,d,rfl,h1⟩:=h.head;obtain ⟨t,r,rfl,rfl,h3⟩:=List.map_eq_cons_iff.1 hu;refine ⟨t,r,rfl,?_⟩;rcases h1 with h1|⟨w,h1,h2,h4,_⟩
 ·exact ⟨zait h1 _,zait h1 _⟩
 ·exact ⟨zaat h1 h2,zaat h1 h4⟩
theorem zawk {B:List Token→Option RB} {t:Token} {r:List Token} {s:List UInt8} {a q:Token} (hs:hit s t=true) (ha:a.kind=1) (hq:hit [59] q=true):∀ (k f i n:Nat),n+k=i→k<f→four[i]? = some s →
  qaC_i4 B f 4 n (t::a::q::r) 0 [] [] 0 0 [] 0 four=some (okO (some (5+(i:Int),a.text)) r):=by
 intro k;induction k with
 |zero=>
  intro f i n hi hf h4;obtain ⟨f,rfl⟩:∃ q,f=q+1:=⟨f-1,by omega⟩;have hn:n=i:=by omega
  subst hn;have hlt:n<4:=by
   have:=(List.getElem?_eq_some_iff.1 h4).1;exact this
  show qaC_t4 B (qaC_i4 B f) 4 n (t::a::q::r) 0 [] [] 0 0 [] 0 four=_;unfold qaC_t4;have e1:decide ((n:Int)<4)=true:=by simp only[decide_eq_true_eq]; omega
  have e2:(decide ((0:Int)≤(n:Int))&&decide ((n:Int)<(↑(List.length four):Int)))=true:=by
   simp only[Bool.and_eq_true,decide_eq_true_eq];exact ⟨by omega,by show (n:Int)<4; omega⟩
  simp only[e1,e2,cond_true];rw[Int.toNat_natCast,h4,Option.bind_some,took1,hs,Option.bind_some];dsimp only[cond_true];have e3:(a.kind != 1)=false:=by simp[ha]
  rw[name1,e3,Option.bind_some];dsimp only[cond_false];rw[want1,hq,Option.bind_some];dsimp only[cond_true];rw[i64_in ((5:Int)+n) (by omega)];rfl
 |succ k ih=>
  intro f i n hi hf h4;obtain ⟨f,rfl⟩:∃ q,f=q+1:=⟨f-1,by omega⟩;have hlt4:=(List.getElem?_eq_some_iff.1 h4).1;have hlt:i<4:=hlt4;have hnl:n<four.length:=by show n<4; omega
  show qaC_t4 B (qaC_i4 B f) 4 n (t::a::q::r) 0 [] [] 0 0 [] 0 four=_;unfold qaC_t4;have e1:decide ((n:Int)<4)=true:=by simp only[decide_eq_true_eq]; omega
  have e2:(decide ((0:Int)≤(n:Int))&&decide ((n:Int)<(↑(List.length four):Int)))=true:=by
   simp only[Bool.and_eq_true,decide_eq_true_eq];exact ⟨by omega,by show (n:Int)<4; omega⟩
  simp only[e1,e2,cond_true];have hne:s≠four[n]:=by
   intro e;have h5:four[i]=four[n]:=by rw[← e]; exact (List.getElem?_eq_some_iff.1 h4).2
   have:∀ (x y:Fin 4),four[x.1]=four[y.1]→x=y:=by decide
   have:=this ⟨i,hlt⟩ ⟨n,hnl⟩ h5;simp only[Fin.mk.injEq] at this;omega
  rw[Int.toNat_natCast,List.getElem?_eq_getElem hnl,Option.bind_some,took1,zaat hs hne,Option.bind_some];dsimp only[cond_false];rw[i64_in ((n:Int)+1) (by omega)];exact ih f i (n+1) (by omega) (by omega) h4
theorem zahy {B:List Token→Option RB} {t:Token} {r:List Token} (hs:∀ s∈four,hit s t=false):∀ (k f n:Nat),n+k=4→k<f →
  qaC_i4 B f 4 n (t::r) 0 [] [] 0 0 [] 0 four=some (okO none (t::r)):=by
 intro k;induction k with
 |zero=>
  intro f n hi hf;obtain ⟨f,rfl⟩:∃ q,f=q+1:=⟨f-1,by omega⟩;show qaC_t4 B (qaC_i4 B f) 4 n (t::r) 0 [] [] 0 0 [] 0 four=_;unfold qaC_t4;have e1:decide ((n:Int)<4)=false:=by simp only[decide_eq_false_iff_not]; omega
  simp only[e1,cond_false];rfl
 |succ k ih=>
  intro f n hi hf;obtain ⟨f,rfl⟩:∃ q,f=q+1:=⟨f-1,by omega⟩;have hnl:n<four.length:=by show n<4; omega
  show qaC_t4 B (qaC_i4 B f) 4 n (t::r) 0 [] [] 0 0 [] 0 four=_;unfold qaC_t4;have e1:decide ((n:Int)<4)=true:=by simp only[decide_eq_true_eq]; omega
  have e2:(decide ((0:Int)≤(n:Int))&&decide ((n:Int)<(↑(List.length four):Int)))=true:=by
   simp only[Bool.and_eq_true,decide_eq_true_eq];exact ⟨by omega,by show (n:Int)<4; omega⟩
  simp only[e1,e2,cond_true];rw[Int.toNat_natCast,List.getElem?_eq_getElem hnl,Option.bind_some,took1,hs _ (List.getElem_mem hnl),Option.bind_some];dsimp only[cond_false];rw[i64_in ((n:Int)+1) (by omega)];exact ih f (n+1) (by omega) (by omega)
theorem zazb {s:TStmt} {c:List Tk} (h:DS s c) {u:List Token} (hu:u.map core=c) (h1:∃ t u',u=t::u'∧t.kind=1) (t:Token) (r:List Token) (hb:(u++t::r).length<1000000) :
  qaz (u++t::r)=some (okS s (t::r)):=by
 obtain ⟨ta,u',rfl,hk⟩:=h1;have hno:∀ s,hitc s (core ta)=false:=fun s=>by rw[hit_c]; exact zait hk s
 have e1:(ta.kind != 1)=false:=by simp[hk]
 simp only[List.map_cons] at hu;cases h with
 |set ha ho hx hq=>
  simp only[List.cons.injEq] at hu;obtain ⟨rfl,hu⟩:=hu;obtain ⟨tq0,u2,rfl,rfl,e2⟩:=List.map_eq_cons_iff.1 hu;obtain ⟨u3,tq,rfl,e3,rfl⟩:=snoc1 e2;rw[hit_c] at ho hq;simp only[List.cons_append,List.append_assoc,List.nil_append] at hb ⊢;rw[qaz,zaaa];unfold qaz_f;rw[name1,e1,Option.bind_some];dsimp only[cond_false];rw[took1,ho,Option.bind_some];dsimp only[cond_true];rw[exprC hx e3 tq (t::r) (zafo LV_59 hq) (by simp only[List.length_append,List.length_cons] at hb ⊢; omega),Option.bind_some];dsimp only[okE];rw[want1,hq,Option.bind_some];dsimp only[cond_true];rw[zaaq];rfl
 |write ha ho hx hq=>
  simp only[List.cons.injEq] at hu;obtain ⟨rfl,hu⟩:=hu;obtain ⟨tq0,u2,rfl,rfl,e2⟩:=List.map_eq_cons_iff.1 hu;obtain ⟨u3,tq,rfl,e3,rfl⟩:=snoc1 e2;rw[hit_c] at ho hq;simp only[List.cons_append,List.append_assoc,List.nil_append] at hb ⊢;rw[qaz,zaaa];unfold qaz_f;rw[name1,e1,Option.bind_some];dsimp only[cond_false];rw[took1,zaat ho (by decide),Option.bind_some];dsimp only[cond_false];rw[took1,ho,Option.bind_some];dsimp only[cond_true];rw[exprC hx e3 tq (t::r) (zafo LV_59 hq) (by simp only[List.length_append,List.length_cons] at hb ⊢; omega),Option.bind_some];dsimp only[okE];rw[want1,hq,Option.bind_some];dsimp only[cond_true];rw[zaaq];rfl
 |add ha ho hw hb2 hx hq=>
  simp only[List.cons.injEq] at hu;obtain ⟨rfl,hu⟩:=hu;obtain ⟨tq0,u2,rfl,rfl,e2⟩:=List.map_eq_cons_iff.1 hu;obtain ⟨tw,u3,rfl,rfl,e3⟩:=List.map_eq_cons_iff.1 e2;obtain ⟨tb,u4,rfl,rfl,e4⟩:=List.map_eq_cons_iff.1 e3;obtain ⟨u5,tq,rfl,e5,rfl⟩:=snoc1 e4;rw[hit_c] at ho hq hw;have e6:(tb.kind != 1)=false:=by simp[show tb.kind=1 from hb2]
  simp only[List.cons_append,List.append_assoc,List.nil_append] at hb ⊢;rw[qaz,zaaa];unfold qaz_f;rw[name1,e1,Option.bind_some];dsimp only[cond_false];rw[took1,zaat ho (by decide),Option.bind_some];dsimp only[cond_false];rw[took1,zaat ho (by decide),Option.bind_some];dsimp only[cond_false];rw[want1,ho,Option.bind_some];dsimp only[cond_true];rw[took1,hw,Option.bind_some];dsimp only[cond_true];rw[name1,e6,Option.bind_some];dsimp only[cond_false];rw[exprC hx e5 tq (t::r) (zafo LV_59 hq) (by simp only[List.length_append,List.length_cons] at hb ⊢; omega),Option.bind_some];dsimp only[okE];rw[want1,hq,Option.bind_some];dsimp only[cond_true];rw[zaaq];rfl
 |read ha ho hb2 hq=>
  simp only[List.cons.injEq] at hu;obtain ⟨rfl,hu⟩:=hu;obtain ⟨tq0,u2,rfl,rfl,e2⟩:=List.map_eq_cons_iff.1 hu;obtain ⟨tb,u3,rfl,rfl,e3⟩:=List.map_eq_cons_iff.1 e2;obtain ⟨tq,u4,rfl,rfl,e4⟩:=List.map_eq_cons_iff.1 e3;have:u4=[]:=by simpa using e4
  subst this;rw[hit_c] at ho hq;have e6:(tb.kind != 1)=false:=by simp[show tb.kind=1 from hb2]
  simp only[List.cons_append,List.append_assoc,List.nil_append] at hb ⊢;rw[qaz,zaaa];unfold qaz_f;rw[name1,e1,Option.bind_some];dsimp only[cond_false];rw[took1,zaat ho (by decide),Option.bind_some];dsimp only[cond_false];rw[took1,zaat ho (by decide),Option.bind_some];dsimp only[cond_false];rw[want1,ho,Option.bind_some];dsimp only[cond_true];rw[took1,zait hb2,Option.bind_some];dsimp only[cond_false];rw[name1,e6,Option.bind_some];dsimp only[cond_false];rw[want1,hq,Option.bind_some];rfl
 |about h4 hw _ _=>
  simp only[List.cons.injEq] at hu;obtain ⟨rfl,hu⟩:=hu;rw[hno] at hw;cases hw
 |assert hw _ _=>
  simp only[List.cons.injEq] at hu;obtain ⟨rfl,hu⟩:=hu;rw[hno] at hw;cases hw
 |if_ hw _ _ _ _=>
  simp only[List.cons.injEq] at hu;obtain ⟨rfl,hu⟩:=hu;rw[hno] at hw;cases hw
 |ife hw _ _ _ _ _ _ _ _=>
  simp only[List.cons.injEq] at hu;obtain ⟨rfl,hu⟩:=hu;rw[hno] at hw;cases hw
 |rep hw _ _ _ _ _=>
  simp only[List.cons.injEq] at hu;obtain ⟨rfl,hu⟩:=hu;rw[hno] at hw;cases hw
def zalw (B:List Token→Option RB) (N:Nat):Prop:=∀ b d,DB b d→d.length<N→∀ u t r,u.map core=d→(u++t::r).length<1000000→B (u++t::r)=some (okB b (t::r))
theorem zayn {s:List UInt8} {t:Token} (h:hit s t=true):t.kind≠1:=by
 intro hk;rw[zait hk] at h;cases h
theorem stmtC {s:TStmt} {c:List Tk} (h:DS s c) {B:List Token→Option RB} (hB:zalw B c.length) {u:List Token} (hu:u.map core=c) (t:Token) (r:List Token) (hels:hit wElse t=false) (hb:(u++t::r).length<1000000) :
  qaC B (u++t::r)=some (okS s (t::r)):=by
 rw[qaC,zaaa];unfold qaC_f;by_cases hk:∃ ta u',u=ta::u'∧ta.kind=1
 ·have hp:=zazb h hu hk t r hb;obtain ⟨ta,u',rfl,hk⟩:=hk;rw[List.cons_append] at hp ⊢;rw[next1,Option.bind_some];dsimp only;have e:(ta.kind==1)=true:=by simp[hk]
  rw[e,cond_true,hp,Option.bind_some];dsimp only[okS];rw[zakt]
 ·
  have word:∀ {w:List UInt8} {o:Tk} {d:List Tk},u.map core=o::d→hitc w o=true→∃ tw u',u=tw::u'∧core tw=o∧u'.map core=d∧hit w tw=true∧(tw.kind==1)=false:=by
   intro w o d hu ho;obtain ⟨tw,u',rfl,rfl,e⟩:=List.map_eq_cons_iff.1 hu;exact ⟨tw,u',rfl,rfl,e,ho,by simpa using zayn (s:=w) (t:=tw) ho⟩
  cases h with
  |set ha _ _ _=>
   obtain ⟨ta,u',rfl,rfl,_⟩:=List.map_eq_cons_iff.1 hu;exact absurd ⟨ta,u',rfl,ha⟩ hk
  |write ha _ _ _=>
   obtain ⟨ta,u',rfl,rfl,_⟩:=List.map_eq_cons_iff.1 hu;exact absurd ⟨ta,u',rfl,ha⟩ hk
  |add ha _ _ _ _ _=>
   obtain ⟨ta,u',rfl,rfl,_⟩:=List.map_eq_cons_iff.1 hu;exact absurd ⟨ta,u',rfl,ha⟩ hk
  |read ha _ _ _=>
   obtain ⟨ta,u',rfl,rfl,_⟩:=List.map_eq_cons_iff.1 hu;exact absurd ⟨ta,u',rfl,ha⟩ hk
  |about h4 hw ha hq=>
   obtain ⟨tw,u',rfl,rfl,e1,hw,e2⟩:=word hu hw;obtain ⟨ta,u2,rfl,rfl,e3⟩:=List.map_eq_cons_iff.1 e1;obtain ⟨tq,u3,rfl,rfl,e4⟩:=List.map_eq_cons_iff.1 e3;have:u3=[]:=by simpa using e4
   subst this;rw[hit_c] at hq;simp only[List.cons_append,List.nil_append];rw[next1,Option.bind_some];dsimp only;have h9:=zawk (B:=B) (r:=t::r) hw ha hq _ fuel _ 0 (Nat.zero_add _) (by unfold fuel; have:=(List.getElem?_eq_some_iff.1 h4).1; have:four.length=4:=rfl; omega) h4;rw[e2,cond_false,qaC_l4,zaaa];have h9':qaC_i4 B fuel (↑(4:Nat):Int) (0:Int) (tw::ta::tq::t::r) 0 [] [] 0 0 [] 0 four=_:=h9;rw[h9',Option.bind_some];rfl
  |assert hw hx hq=>
   obtain ⟨tw,u',rfl,rfl,e1,hw,e2⟩:=word hu hw;obtain ⟨u2,tq,rfl,e3,rfl⟩:=snoc1 e1;rw[hit_c] at hq;simp only[List.cons_append,List.append_assoc,List.nil_append] at hb ⊢;rw[next1,Option.bind_some];dsimp only;have h9:=zahy (B:=B) (t:=tw) (r:=u2++tq::t::r) (fun s hs=>zaat hw (by revert s; decide)) 4 fuel 0 rfl (by unfold fuel; omega);have h9':qaC_i4 B fuel (↑(4:Nat):Int) (0:Int) (tw::(u2++tq::t::r)) 0 [] [] 0 0 [] 0 four=_:=h9;rw[e2,cond_false,qaC_l4,zaaa,h9',Option.bind_some];dsimp only[okO];rw[took1,hw,Option.bind_some];dsimp only[cond_true];rw[exprC hx e3 tq (t::r) (zafo LV_59 hq) (by simp only[List.length_append,List.length_cons] at hb ⊢; omega),Option.bind_some];dsimp only[okE];rw[want1,hq,Option.bind_some];dsimp only[cond_true];rw[zaaq];rfl
  |@if_ w o q x c d b hw hx ho hd hq=>
   obtain ⟨tw,u',rfl,rfl,e1,hw,e2⟩:=word hu hw;obtain ⟨u2,tq0,u3,rfl,e3,rfl,e4⟩:=zahm e1;obtain ⟨u4,tq,rfl,e5,rfl⟩:=snoc1 e4;have hblk:=hB b (core tq0::(d++[core tq])) ⟨_,_,_,ho,hd,hq,rfl⟩ (by simp only[List.length_cons,List.length_append]; omega) (tq0::(u4++[tq])) t r (by simp[e5]);rw[hit_c] at ho hq;simp only[List.cons_append,List.append_assoc,List.nil_append] at hb hblk ⊢;rw[next1,Option.bind_some];dsimp only;have h9:=zahy (B:=B) (t:=tw) (r:=u2++tq0::(u4++tq::t::r)) (fun s hs=>zaat hw (by revert s; decide)) 4 fuel 0 rfl (by unfold fuel; omega);have h9':qaC_i4 B fuel (↑(4:Nat):Int) (0:Int) (tw::(u2++tq0::(u4++tq::t::r))) 0 [] [] 0 0 [] 0 four=_:=h9;rw[e2,cond_false,qaC_l4,zaaa,h9',Option.bind_some];dsimp only[okO];rw[took1,zaat hw (by decide),Option.bind_some];dsimp only[cond_false];rw[took1,hw,Option.bind_some];dsimp only[cond_true];rw[exprC hx e3 tq0 _ (zafo zav7 ho) (by simp only[List.length_append,List.length_cons] at hb ⊢; omega),Option.bind_some];dsimp only[okE];rw[hblk (by simp only[List.length_append,List.length_cons] at hb ⊢; omega),Option.bind_some];dsimp only[okB];rw[took1,hels,Option.bind_some];dsimp only[cond_false];rw[zaaq];rfl
  |@ife w o q v o2 q2 x c d d2 b b2 hw hx ho hd hq hv ho2 hd2 hq2=>
   obtain ⟨tw,u',rfl,rfl,e1,hw,e2⟩:=word hu hw;obtain ⟨u2,tq0,u3,rfl,e3,rfl,e4⟩:=zahm e1;obtain ⟨u4,tq,u5,rfl,e5,rfl,e6⟩:=zahm e4;obtain ⟨tv,u6,rfl,rfl,e7⟩:=List.map_eq_cons_iff.1 e6;obtain ⟨to2,u7,rfl,rfl,e8⟩:=List.map_eq_cons_iff.1 e7;obtain ⟨u8,tq2,rfl,e9,rfl⟩:=snoc1 e8;have hblk:=hB b (core tq0::(d++[core tq])) ⟨_,_,_,ho,hd,hq,rfl⟩ (by simp only[List.length_cons,List.length_append]; omega) (tq0::(u4++[tq])) tv (to2::(u8++tq2::t::r)) (by simp[e5]);have hblk2:=hB b2 (core to2::(d2++[core tq2])) ⟨_,_,_,ho2,hd2,hq2,rfl⟩ (by simp only[List.length_cons,List.length_append]; omega) (to2::(u8++[tq2])) t r (by simp[e9]);rw[hit_c] at ho hq hv ho2 hq2;simp only[List.cons_append,List.append_assoc,List.nil_append] at hb hblk hblk2 ⊢;rw[next1,Option.bind_some];dsimp only;have h9:=zahy (B:=B) (t:=tw) (r:=u2++tq0::(u4++tq::tv::to2::(u8++tq2::t::r))) (fun s hs=>zaat hw (by revert s; decide)) 4 fuel 0 rfl (by unfold fuel; omega);have h9':qaC_i4 B fuel (↑(4:Nat):Int) (0:Int) (tw::(u2++tq0::(u4++tq::tv::to2::(u8++tq2::t::r)))) 0 [] [] 0 0 [] 0 four=_:=h9;rw[e2,cond_false,qaC_l4,zaaa,h9',Option.bind_some];dsimp only[okO];rw[took1,zaat hw (by decide),Option.bind_some];dsimp only[cond_false];rw[took1,hw,Option.bind_some];dsimp only[cond_true];rw[exprC hx e3 tq0 _ (zafo zav7 ho) (by simp only[List.length_append,List.length_cons] at hb ⊢; omega),Option.bind_some];dsimp only[okE];rw[hblk (by simp only[List.length_append,List.length_cons] at hb ⊢; omega),Option.bind_some];dsimp only[okB];rw[took1,hv,Option.bind_some];dsimp only[cond_true];rw[hblk2 (by simp only[List.length_append,List.length_cons] at hb ⊢; omega),Option.bind_some];dsimp only[okB];rw[zaaq];rfl
  |@rep w n o q d b hw hn hn2 ho hd hq=>
   obtain ⟨tw,u',rfl,rfl,e1,hw,e2⟩:=word hu hw;obtain ⟨tn,u2,rfl,rfl,e3⟩:=List.map_eq_cons_iff.1 e1;obtain ⟨tq0,u3,rfl,rfl,e4⟩:=List.map_eq_cons_iff.1 e3;obtain ⟨u4,tq,rfl,e5,rfl⟩:=snoc1 e4;have hblk:=hB b (core tq0::(d++[core tq])) ⟨_,_,_,ho,hd,hq,rfl⟩ (by simp only[List.length_cons,List.length_append]; omega) (tq0::(u4++[tq])) t r (by simp[e5]);rw[hit_c] at ho hq;simp only[List.cons_append,List.append_assoc,List.nil_append] at hb hblk ⊢;rw[next1,Option.bind_some];dsimp only;have h9:=zahy (B:=B) (t:=tw) (r:=tn::tq0::(u4++tq::t::r)) (fun s hs=>zaat hw (by revert s; decide)) 4 fuel 0 rfl (by unfold fuel; omega);have h9':qaC_i4 B fuel (↑(4:Nat):Int) (0:Int) (tw::tn::tq0::(u4++tq::t::r)) 0 [] [] 0 0 [] 0 four=_:=h9;rw[e2,cond_false,qaC_l4,zaaa,h9',Option.bind_some];dsimp only[okO];rw[took1,zaat hw (by decide),Option.bind_some];dsimp only[cond_false];rw[took1,zaat hw (by decide),Option.bind_some];dsimp only[cond_false];rw[want1,hw,Option.bind_some];dsimp only[cond_true];rw[next1,Option.bind_some];dsimp only;have f1:(tn.kind==2)=true:=by simp[show tn.kind=2 from hn]
   have f2:decide (tn.num>(1000:Int))=false:=by simp only[decide_eq_false_iff_not]; have:tn.num≤1000:=hn2; omega
   have f3:(tn.kind != 2)=false:=by simp[show tn.kind=2 from hn]
   rw[f1,cond_true,f2,Option.bind_some,cond_false,of1,f3,Option.bind_some];dsimp only[cond_false];rw[hblk (by simp only[List.length_append,List.length_cons] at hb ⊢; omega),Option.bind_some];rfl
theorem zaym {B:List Token→Option RB} {N:Nat} (hB:zalw B N):∀ (b:List TStmt) (d:List Tk),DL b d→d.length≤N→∀ (f:Nat) (a:List TStmt) (u:List Token) (q t:Token) (r:List Token),u.map core=d→hit [125] q=true→u.length<f→a.length+(u++q::t::r).length<1000000 →
  qat_i3 B f (u++q::t::r) a=some (ok3 (a++b) (t::r)):=by
 intro b;induction b with
 |nil=>
  intro d hd hN f a u q t r hu hq hf hb;cases hd;have:u=[]:=by simpa using hu
  subst this;obtain ⟨f,rfl⟩:∃ q,f=q+1:=⟨f-1,by omega⟩;show qat_t3 B (qat_i3 B f) (q::t::r) a=_;unfold qat_t3;rw[took1,hq,Option.bind_some,List.append_nil];rfl
 |cons s b ih=>
  intro d hd hN f a u q t r hu hq hf hb;cases hd with
  |cons hs hl=>
  rename_i c d;obtain ⟨u1,u2,rfl,e1,e2⟩:=List.map_eq_append_iff.1 hu;have hsz:=hs.size.1;have hl1:u1.length=c.length:=by rw[← e1,List.length_map]
  obtain ⟨t1,r1,hu1,_,hno⟩:=zass hs e1;obtain ⟨f,rfl⟩:∃ q,f=q+1:=⟨f-1,by omega⟩
  -- the token behind
  obtain ⟨t2,r2,ht2,hels⟩:∃ t2 r2,u2++q::t::r=t2::r2∧hit wElse t2=false:=by
   cases hl with
   |nil=>
    have:u2=[]:=by simpa using e2
    subst this;exact ⟨q,t::r,rfl,zaat hq (by decide)⟩
   |cons hs2 _=>
    obtain ⟨u3,u4,rfl,e3,e4⟩:=List.map_eq_append_iff.1 e2;obtain ⟨t2,r2,rfl,h,_⟩:=zass hs2 e3;exact ⟨t2,_,rfl,h⟩
  have hst:=stmtC hs (B:=B) (fun b' d' h1 h2=>hB b' d' h1 (by simp only[List.length_append] at hN; omega)) e1 t2 r2 hels (by rw[← ht2]; simp only[List.length_append,List.length_cons] at hb ⊢; omega);rw[← ht2] at hst;show qat_t3 B (qat_i3 B f) (u1++u2++q::t::r) a=_;rw[List.append_assoc];unfold qat_t3;have htk:qaE [125] (u1++(u2++q::t::r))=some (false,u1++(u2++q::t::r)):=by
   rw[hu1,List.cons_append,took1,hno];rfl
  rw[htk,Option.bind_some];simp only[Bool.not_false,cond_true];rw[hst,Option.bind_some];dsimp only[okS];have e9:decide ((List.length a+List.length [s])*(152:Nat)≤(140737488355328:Nat)∧List.length a+List.length [s]≤(9223372036854775807:Nat))=true:=by
   simp only[decide_eq_true_eq,List.length_cons,List.length_nil];omega
  rw[e9,cond_true];simp only[List.length_append,List.length_cons] at hN hf hb;rw[ih d hl (by omega) f (a++[s]) u2 q t r e2 hq (by omega) (by simp only[List.length_append,List.length_cons,List.length_nil]; omega)];simp
theorem zax3:∀ n N,N≤n→zalw (qat_i n) N:=by
 intro n;induction n with
 |zero=>intro N h b d hd hl; omega
 |succ n ih=>
  intro N hN b d hd hl u t r hu hb;obtain ⟨o,d',q,ho,hd,hq,rfl⟩:=hd;obtain ⟨tq0,u2,rfl,rfl,e1⟩:=List.map_eq_cons_iff.1 hu;obtain ⟨u3,tq,rfl,e2,rfl⟩:=snoc1 e1;simp only[List.length_cons,List.length_append,List.length_nil] at hl;rw[hit_c] at ho hq;simp only[List.cons_append,List.append_assoc,List.nil_append] at hb ⊢;show qat_f (qat_i n) (tq0::(u3++tq::t::r))=_;unfold qat_f;rw[want1,ho,Option.bind_some];dsimp only[cond_true];have hl3:u3.length=d'.length:=by rw[← e2,List.length_map]
  rw[qat_l3,zaaa,zaym (ih (d'.length) (by omega)) b d' hd (Nat.le_refl _) fuel [] u3 tq t r e2 hq (by simp only[List.length_append,List.length_cons] at hb; unfold fuel; omega) (by simp only[List.length_append,List.length_cons,List.length_nil] at hb ⊢; omega),Option.bind_some];rfl
theorem zazh {b:List TStmt} {d:List Tk} (h:DB b d) {u:List Token} (hu:u.map core=d) (t:Token) (r:List Token) (hb:(u++t::r).length<1000000):qat (u++t::r)=some (okB b (t::r)):=by
 have hl:u.length=d.length:=by rw[← hu,List.length_map]
 rw[qat,zaaa];exact zax3 fuel 1000000 (by unfold fuel; omega) b d h (by simp only[List.length_append] at hb; omega) u t r hu hb
end Lift.A4
