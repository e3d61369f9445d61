/-
  DERIVED. The Lean functions answer as the laws say. Conditions: as each theorem says.
-/
import Derived.Test.YtnjaffjkdeelhaaGreatDoorWalk
import Derived.IntWalk
set_option linter.unusedVariables false
set_option linter.unusedSimpArgs false
set_option linter.unusedSectionVars false
namespace Lift.A3
open Go Go.RowKit Lift Go.IntWalk Lift.Fn
set_option linter.unusedVariables false
set_option linter.unusedSimpArgs false
theorem zacr {α σ:Type} (l:List α) (body:α→σ→Option σ) (L:Nat→Int→σ→Option σ)
  (h0:∀ n i s,0≤i→¬ i<(l.length:Int)→L (n+1) i s=some s)
  (h1:∀ n i s (x:α),0≤i→i<(l.length:Int)→l[i.toNat]? = some x→L (n+1) i s=(body x s).bind fun s'=>L n (i+1) s') :
  ∀ (k n:Nat) (i:Int) (s:σ),0≤i→l.length-i.toNat≤k→k<n→L n i s=(l.drop i.toNat).foldlM (fun s x=>body x s) s:=by
 intro k;induction k with
 |zero=>
  intro n i s hi hk hn;obtain ⟨n,rfl⟩:∃ q,n=q+1:=⟨n-1,by omega⟩;rw[h0 n i s hi (by omega),List.drop_eq_nil_of_le (by omega)];rfl
 |succ k ih=>
  intro n i s hi hk hn;obtain ⟨n,rfl⟩:∃ q,n=q+1:=⟨n-1,by omega⟩;by_cases c:i<(l.length:Int)
  ·have hlt:i.toNat<l.length:=by omega
   rw[h1 n i s l[i.toNat] hi c (List.getElem?_eq_getElem hlt),List.drop_eq_getElem_cons hlt,List.foldlM_cons];congr 1;funext s';rw[ih n (i+1) s' (by omega) (by omega) (by omega)];congr 2;omega
  ·rw[h0 n i s hi c,List.drop_eq_nil_of_le (by omega)];rfl
inductive Ev where
 |s (x:TStmt) (d:Int)
 |e (x:TExpr) (d:Int)
mutual
def evE:TExpr→Int→List Ev
 |⟨k,n,m,l⟩,d=>.e ⟨k,n,m,l⟩ d::evEs l (d+1)
def evEs:List TExpr→Int→List Ev
 |[],_=>[]
 |x::l,d=>evE x d++evEs l d
end
def zaaq (x:TExpr):Bool:=(x.kind != 0)||decide (0<x.args.length)
mutual
def evS:TStmt→Int→List Ev
 |⟨k,r,m,x,c,t,o⟩,d=>.s ⟨k,r,m,x,c,t,o⟩ d::((if zaaq x then evE x 1 else [])++(evSs t (d+1)++evSs o (d+1)))
def evSs:List TStmt→Int→List Ev
 |[],_=>[]
 |x::l,d=>evS x d++evSs l d
end
def evP (p:TProg):List Ev:=p.threads.flatMap fun t=>evSs t.body 1
mutual
def nE:TExpr→Nat
 |⟨_,_,_,l⟩=>1+nEs l
def nEs:List TExpr→Nat
 |[]=>0
 |x::l=>nE x+nEs l
end
mutual
def nS:TStmt→Nat
 |⟨_,_,_,x,_,t,o⟩=>1+nE x+nSs t+nSs o
def nSs:List TStmt→Nat
 |[]=>0
 |x::l=>nS x+nSs l
end
def nT:List TThread→Nat
 |[]=>0
 |t::l=>1+nSs t.body+nT l
theorem nE_eq (x:TExpr):nE x=1+nEs x.args:=by cases x; simp[nE]
theorem nS_eq (x:TStmt):nS x=1+nE x.expr+nSs x.then_+nSs x.else_:=by cases x; simp[nS]
theorem evE_eq (x:TExpr) (d:Int):evE x d=.e x d::evEs x.args (d+1):=by cases x; simp[evE]
theorem evS_eq (x:TStmt) (d:Int):evS x d=.s x d::((if zaaq x.expr then evE x.expr 1 else [])++(evSs x.then_ (d+1)++evSs x.else_ (d+1))):=by cases x; simp[evS]
theorem zahj:∀ l:List TExpr,l.length≤nEs l
 |[]=>by simp[nEs]
 |x::l=>by have:=zahj l; have:=nE_eq x; simp only[nEs,List.length_cons]; omega
theorem zae2:∀ l:List TStmt,l.length≤nSs l
 |[]=>by simp[nSs]
 |x::l=>by have:=zae2 l; have:=nS_eq x; simp only[nSs,List.length_cons]; omega
theorem zafg:∀ l:List TThread,l.length≤nT l
 |[]=>by simp[nT]
 |x::l=>by have:=zafg l; simp only[nT,List.length_cons]; omega
theorem zahw:∀ {l:List TExpr} {x:TExpr},x∈l→nE x≤nEs l
 |y::l,x,h=>by
  simp only[nEs];cases h with
  |head=>omega
  |tail _ h=>have:=zahw h; omega
theorem zajt:∀ {l:List TStmt} {x:TStmt},x∈l→nS x≤nSs l
 |y::l,x,h=>by
  simp only[nSs];cases h with
  |head=>omega
  |tail _ h=>have:=zajt h; omega
theorem zahq:∀ {l:List TThread} {x:TThread},x∈l→nSs x.body<nT l
 |y::l,x,h=>by
  simp only[nT];cases h with
  |head=>omega
  |tail _ h=>have:=zahq h; omega
theorem zane : ∀ (l : List TExpr) (d : Int), evEs l d = l.flatMap fun x => evE x d
 |[],d=>by simp[evEs]
 |x::l,d=>by simp[evEs,zane l d]
theorem zano : ∀ (l : List TStmt) (d : Int), evSs l d = l.flatMap fun x => evS x d
 |[],d=>by simp[evSs]
 |x::l,d=>by simp[evSs,zano l d]
theorem zadb {α β σ : Type} (f : α → List β) (g : σ → β → Option σ) : ∀ (l : List α) (s : σ), (l.flatMap f).foldlM g s = l.foldlM (fun s x => (f x).foldlM g s) s
 |[],s=>rfl
 |x::l,s=>by
  rw[List.flatMap_cons,List.foldlM_append,List.foldlM_cons];congr 1;funext s';exact zadb f g l s'
theorem zacl {α β:Type} (o:Option (α×β)):(o.bind fun y=>some (y.1,y.2))=o:=by cases o<;>rfl
theorem zabd (x:TExpr):TExpr.mk x.kind x.num x.name x.args=x:=by cases x; rfl
theorem zawd (x:TStmt):TStmt.mk x.kind x.reg x.name (TExpr.mk x.expr.kind x.expr.num x.expr.name x.expr.args) x.count x.then_ x.else_=x:=by
 obtain ⟨k,r,n,⟨_,_,_,_⟩,c,t,o⟩:=x;rfl
theorem zak6 (x:TStmt):TStmt.mk x.kind x.reg x.name x.expr x.count x.then_ x.else_=x:=by cases x; rfl
theorem zadw (x:TProg):TProg.mk x.cells x.mutexes x.threads=x:=by cases x; rfl
def atEv {σ:Type} (g:TStmt→Int→σ→Option σ) (h:TExpr→Int→σ→Option σ) (s:σ):Ev→Option σ
 |.s x d=>g x d s
 |.e x d=>h x d s
structure WalksE {σ:Type} (h:TExpr→Int→σ→Option σ) (F:Nat→TExpr→Int→σ→Option σ):Prop where
 step:∀ n x d s,(d:Int)+1≤4611686018427387904→-4611686018427387904≤d→x.args.length≤4611686018427387904→F (n+1) x d s=(h x d s).bind fun s'=>x.args.foldlM (fun s y=>F n y (d+1) s) s'
theorem zaop {σ:Type} {g:TStmt→Int→σ→Option σ} {h:TExpr→Int→σ→Option σ} {F:Nat→TExpr→Int→σ→Option σ} (hW:WalksE h F) :
  ∀ (k n:Nat) (x:TExpr) (d:Int) (s:σ),nE x≤k→k<n→0≤d→d+k≤1000000000000000000→F n x d s=(evE x d).foldlM (atEv g h) s:=by
 intro k;induction k with
 |zero=>intro n x d s hk; have:=nE_eq x; omega
 |succ k ih=>
  intro n x d s hk hn h0 hd;obtain ⟨n,rfl⟩:∃ q,n=q+1:=⟨n-1,by omega⟩;have hx:=nE_eq x;have hl:=zahj x.args;rw[hW.step n x d s (by omega) (by omega) (by omega),evE_eq,List.foldlM_cons];show _=(h x d s).bind _;congr 1;funext s';rw[zane,zadb];have:∀ (l:List TExpr) (s:σ),(∀ y∈l,nE y≤k)→l.foldlM (fun s y=>F n y (d+1) s) s=l.foldlM (fun s y=>(evE y (d+1)).foldlM (atEv g h) s) s:=by
   intro l;induction l with
   |nil=>intro s _; rfl
   |cons y l ihl=>
    intro s hy;rw[List.foldlM_cons,List.foldlM_cons,ih n y (d+1) s (hy y (by simp)) (by omega) (by omega) (by omega)];congr 1;funext s';exact ihl s' (fun z hz=>hy z (by simp[hz]))
  exact this _ _ (fun y hy=>by have:=zahw hy; omega)
structure WalksS {σ:Type} (g:TStmt→Int→σ→Option σ) (E:TExpr→Int→σ→Option σ) (F:Nat→List TStmt→Int→σ→Option σ):Prop where
 step:∀ n l d s,(d:Int)+1≤4611686018427387904→-4611686018427387904≤d→l.length≤4611686018427387904→F (n+1) l d s=l.foldlM (fun s x=>(g x d s).bind fun s1=>(if zaaq x.expr then E x.expr 1 s1 else some s1).bind fun s2=>(F n x.then_ (d+1) s2).bind fun s3=>F n x.else_ (d+1) s3) s
theorem zaol {σ:Type} {g:TStmt→Int→σ→Option σ} {h:TExpr→Int→σ→Option σ} {E:TExpr→Int→σ→Option σ} {F:Nat→List TStmt→Int→σ→Option σ}
  (hE:∀ x s,nE x≤100000000000000000→E x 1 s=(evE x 1).foldlM (atEv g h) s) (hW:WalksS g E F) :
  ∀ (k n:Nat) (l:List TStmt) (d:Int) (s:σ),nSs l≤k→k<n→0≤d→d+k≤100000000000000000→F n l d s=(evSs l d).foldlM (atEv g h) s:=by
 intro k;induction k with
 |zero=>
  intro n l d s hk hn h0 hd;obtain ⟨n,rfl⟩:∃ q,n=q+1:=⟨n-1,by omega⟩;have hl:=zae2 l;obtain rfl:l=[]:=List.eq_nil_of_length_eq_zero (by omega);rw[hW.step n [] d s (by omega) (by omega) (by simp)];simp[evSs]
 |succ k ih=>
  intro n l d s hk hn h0 hd;obtain ⟨n,rfl⟩:∃ q,n=q+1:=⟨n-1,by omega⟩;have hl:=zae2 l;rw[hW.step n l d s (by omega) (by omega) (by omega),zano,zadb]
  have : ∀ (l : List TStmt) (s : σ), (∀ y ∈ l, nS y ≤ k + 1) → l.foldlM (fun s x => (g x d s).bind fun s1 => (if zaaq x.expr then E x.expr 1 s1 else some s1).bind fun s2 => (F n x.then_ (d + 1) s2).bind fun s3 => F n x.else_ (d + 1) s3) s =
    l.foldlM (fun s y=>(evS y d).foldlM (atEv g h) s) s:=by
   intro l;induction l with
   |nil=>intro s _; rfl
   |cons y l ihl=>
    intro s hy;have hy1:=hy y (by simp);have hy2:=nS_eq y;rw[List.foldlM_cons,List.foldlM_cons];have e:∀ s,((g y d s).bind fun s1=>(if zaaq y.expr then E y.expr 1 s1 else some s1).bind fun s2=>(F n y.then_ (d+1) s2).bind fun s3=>F n y.else_ (d+1) s3)=(evS y d).foldlM (atEv g h) s:=by
     intro s;rw[evS_eq,List.foldlM_cons];show _=(g y d s).bind _;congr 1;funext s1;rw[List.foldlM_append];have e1:(if zaaq y.expr then E y.expr 1 s1 else some s1)=(if zaaq y.expr then evE y.expr 1 else []).foldlM (atEv g h) s1:=by
      split
      ·exact hE _ _ (by omega)
      ·rfl
     rw[e1];congr 1;funext s2;rw[List.foldlM_append];rw[ih n y.then_ (d+1) s2 (by omega) (by omega) (by omega) (by omega)];congr 1;funext s3;exact ih n y.else_ (d+1) s3 (by omega) (by omega) (by omega) (by omega)
    rw[e];congr 1;funext s';exact ihl s' (fun z hz=>hy z (by simp[hz]))
  exact this _ _ (fun y hy=>by have:=zajt hy; omega)
end Lift.A3
namespace Lift.A3
open Go Go.RowKit Lift Go.IntWalk Lift.Fn
set_option linter.unusedVariables false
set_option linter.unusedSimpArgs false
theorem wE : WalksE (fun (x : TExpr) (d : Int) (s : Bool) => qa5 x d s) (fun (n : Nat) (x : TExpr) (d : Int) (s : Bool) => qac_i n x d s) where
 step:=by
  intro n x d s hd1 hd2 hl;show qac_f (qac_i n) x d s=_;unfold qac_f;rw[zabd];congr 1;funext y0
  have hL := zacr (σ := Bool) x.args (fun y s => qac_i n y (d + 1) s) (fun m i s => qac_i3 (qac_i n) m d x.args (x.args.length : Int) i s)
   (fun m i s h0 h=>by simp only[qac_i3,qac_t3,decide_eq_false h,cond_false])
   (fun m i s y h0 h hy=>by
    simp only[qac_i3,qac_t3,decide_eq_true h,decide_eq_true h0,cond_true,hy,Option.bind_some,zabd];rw[i64_in (i+1) (by omega),i64_in (d+1) (by omega)])
   x.args.length fuel 0 y0 (by omega) (by omega) (by unfold fuel; omega)
  try simp only at hL
  rw[qac_l3,zaaa,hL];simp[zacl]
theorem wEx (x:TExpr) (s:Bool) (hx:nE x≤100000000000000000):qac x 1 s=(evE x 1).foldlM (atEv (fun (x:TStmt) (d:Int) (s:Bool)=>qa4 x d s) (fun (x:TExpr) (d:Int) (s:Bool)=>qa5 x d s)) s:=by
 rw[qac,zaaa];exact zaop (g:=(fun (x:TStmt) (d:Int) (s:Bool)=>qa4 x d s)) wE (nE x) fuel x 1 s (Nat.le_refl _) (by unfold fuel; omega) (by omega) (by omega)
theorem wS : WalksS (fun (x : TStmt) (d : Int) (s : Bool) => qa4 x d s) (fun (x : TExpr) (d : Int) (s : Bool) => qac x d s) (fun (n : Nat) (l : List TStmt) (d : Int) (s : Bool) => qai_i n l d s) where
 step:=by
  intro n l d s hd1 hd2 hl;show qai_f (qai_i n) l d s=_;unfold qai_f
  have hL := zacr (σ := Bool) l (fun x s => (qa4 x d s).bind fun s1 => (if zaaq x.expr then qac x.expr 1 s1 else some s1).bind fun s2 => (qai_i n x.then_ (d + 1) s2).bind fun s3 => qai_i n x.else_ (d + 1) s3)
   (fun m i s=>qai_i2 (qai_i n) m d l (l.length:Int) i s)
   (fun m i s h0 h=>by simp only[qai_i2,qai_t2,decide_eq_false h,cond_false])
   (fun m i s y h0 h hy=>by
    have e:(bif TExpr.kind (TStmt.expr y) != (0:Int) then some true else some (decide ((↑(List.length (TExpr.args (TStmt.expr y))):Int)>(0:Int))))=some (zaaq y.expr):=by
     unfold zaaq;cases (y.expr.kind != 0)
     ·simp
     ·rfl
    simp only[qai_i2,qai_t2,decide_eq_true h,decide_eq_true h0,cond_true,hy,Option.bind_some,zabd,zak6,e];rw[i64_in (i+1) (by omega),i64_in (d+1) (by omega)];cases zaaq y.expr<;>simp[Option.bind_assoc])
   l.length fuel 0 s (by omega) (by omega) (by unfold fuel; omega)
  try simp only at hL
  rw[qai_l2,zaaa,hL];simp[zacl]
theorem wSt (l:List TStmt) (s:Bool) (hl:nSs l≤10000000000000000):qai l 1 s=(evSs l 1).foldlM (atEv (fun (x:TStmt) (d:Int) (s:Bool)=>qa4 x d s) (fun (x:TExpr) (d:Int) (s:Bool)=>qa5 x d s)) s:=by
 rw[qai,zaaa];exact zaol (g:=(fun (x:TStmt) (d:Int) (s:Bool)=>qa4 x d s)) (h:=(fun (x:TExpr) (d:Int) (s:Bool)=>qa5 x d s)) (fun x s hx=>wEx x s hx) wS (nSs l) fuel l 1 s (Nat.le_refl _) (by unfold fuel; omega) (by omega) (by omega)
theorem wP (p:TProg) (s:Bool) (hl:nT p.threads≤10000000000000000):qaf p s=(evP p).foldlM (atEv (fun (x:TStmt) (d:Int) (s:Bool)=>qa4 x d s) (fun (x:TExpr) (d:Int) (s:Bool)=>qa5 x d s)) s:=by
 rw[qaf,zaaa];unfold qaf_f;have hn:=zafg p.threads
 have hL := zacr (σ := Bool) p.threads (fun t s => qai t.body 1 s) (fun m i s => qaf_i2 m p.threads (p.threads.length : Int) i s)
  (fun m i s h0 h=>by simp only[qaf_i2,qaf_t2,decide_eq_false h,cond_false])
  (fun m i s y h0 h hy=>by
   simp only[qaf_i2,qaf_t2,decide_eq_true h,decide_eq_true h0,cond_true,hy,Option.bind_some];rw[i64_in (i+1) (by omega)])
  p.threads.length fuel 0 s (by omega) (by omega) (by unfold fuel; omega)
 try simp only at hL
 rw[qaf_l2,zaaa,hL];unfold evP;rw[zadb];have:∀ (l:List TThread) (s:Bool),(∀ t∈l,nSs t.body≤10000000000000000)→l.foldlM (fun s t=>qai t.body 1 s) s=l.foldlM (fun s t=>(evSs t.body 1).foldlM (atEv (fun (x:TStmt) (d:Int) (s:Bool)=>qa4 x d s) (fun (x:TExpr) (d:Int) (s:Bool)=>qa5 x d s)) s) s:=by
  intro l;induction l with
  |nil=>intro s _; rfl
  |cons t l ih=>
   intro s ht;rw[List.foldlM_cons,List.foldlM_cons,wSt t.body s (ht t (by simp))];congr 1;funext s';exact ih s' (fun z hz=>ht z (by simp[hz]))
 rw[Int.toNat_zero,List.drop_zero,this _ _ (fun t ht=>by have:=zahq ht; omega)];simp[zacl]
theorem wE_1 : WalksE (fun (x : TExpr) (d : Int) (s : Int) => qa0 x d s) (fun (n : Nat) (x : TExpr) (d : Int) (s : Int) => qad_i n x d s) where
 step:=by
  intro n x d s hd1 hd2 hl;show qad_f (qad_i n) x d s=_;unfold qad_f;rw[zabd];congr 1;funext y0
  have hL := zacr (σ := Int) x.args (fun y s => qad_i n y (d + 1) s) (fun m i s => qad_i3 (qad_i n) m d x.args (x.args.length : Int) i s)
   (fun m i s h0 h=>by simp only[qad_i3,qad_t3,decide_eq_false h,cond_false])
   (fun m i s y h0 h hy=>by
    simp only[qad_i3,qad_t3,decide_eq_true h,decide_eq_true h0,cond_true,hy,Option.bind_some,zabd];rw[i64_in (i+1) (by omega),i64_in (d+1) (by omega)])
   x.args.length fuel 0 y0 (by omega) (by omega) (by unfold fuel; omega)
  try simp only at hL
  rw[qad_l3,zaaa,hL];simp[zacl]
theorem wEx_1 (x:TExpr) (s:Int) (hx:nE x≤100000000000000000):qad x 1 s=(evE x 1).foldlM (atEv (fun (x:TStmt) (d:Int) (s:Int)=>qaZ x d s) (fun (x:TExpr) (d:Int) (s:Int)=>qa0 x d s)) s:=by
 rw[qad,zaaa];exact zaop (g:=(fun (x:TStmt) (d:Int) (s:Int)=>qaZ x d s)) wE_1 (nE x) fuel x 1 s (Nat.le_refl _) (by unfold fuel; omega) (by omega) (by omega)
theorem wS_1 : WalksS (fun (x : TStmt) (d : Int) (s : Int) => qaZ x d s) (fun (x : TExpr) (d : Int) (s : Int) => qad x d s) (fun (n : Nat) (l : List TStmt) (d : Int) (s : Int) => qaj_i n l d s) where
 step:=by
  intro n l d s hd1 hd2 hl;show qaj_f (qaj_i n) l d s=_;unfold qaj_f
  have hL := zacr (σ := Int) l (fun x s => (qaZ x d s).bind fun s1 => (if zaaq x.expr then qad x.expr 1 s1 else some s1).bind fun s2 => (qaj_i n x.then_ (d + 1) s2).bind fun s3 => qaj_i n x.else_ (d + 1) s3)
   (fun m i s=>qaj_i2 (qaj_i n) m d l (l.length:Int) i s)
   (fun m i s h0 h=>by simp only[qaj_i2,qaj_t2,decide_eq_false h,cond_false])
   (fun m i s y h0 h hy=>by
    have e:(bif TExpr.kind (TStmt.expr y) != (0:Int) then some true else some (decide ((↑(List.length (TExpr.args (TStmt.expr y))):Int)>(0:Int))))=some (zaaq y.expr):=by
     unfold zaaq;cases (y.expr.kind != 0)
     ·simp
     ·rfl
    simp only[qaj_i2,qaj_t2,decide_eq_true h,decide_eq_true h0,cond_true,hy,Option.bind_some,zabd,zak6,e];rw[i64_in (i+1) (by omega),i64_in (d+1) (by omega)];cases zaaq y.expr<;>simp[Option.bind_assoc])
   l.length fuel 0 s (by omega) (by omega) (by unfold fuel; omega)
  try simp only at hL
  rw[qaj_l2,zaaa,hL];simp[zacl]
theorem wSt_1 (l:List TStmt) (s:Int) (hl:nSs l≤10000000000000000):qaj l 1 s=(evSs l 1).foldlM (atEv (fun (x:TStmt) (d:Int) (s:Int)=>qaZ x d s) (fun (x:TExpr) (d:Int) (s:Int)=>qa0 x d s)) s:=by
 rw[qaj,zaaa];exact zaol (g:=(fun (x:TStmt) (d:Int) (s:Int)=>qaZ x d s)) (h:=(fun (x:TExpr) (d:Int) (s:Int)=>qa0 x d s)) (fun x s hx=>wEx_1 x s hx) wS_1 (nSs l) fuel l 1 s (Nat.le_refl _) (by unfold fuel; omega) (by omega) (by omega)
theorem wP_1 (p:TProg) (s:Int) (hl:nT p.threads≤10000000000000000):qag p s=(evP p).foldlM (atEv (fun (x:TStmt) (d:Int) (s:Int)=>qaZ x d s) (fun (x:TExpr) (d:Int) (s:Int)=>qa0 x d s)) s:=by
 rw[qag,zaaa];unfold qag_f;have hn:=zafg p.threads
 have hL := zacr (σ := Int) p.threads (fun t s => qaj t.body 1 s) (fun m i s => qag_i2 m p.threads (p.threads.length : Int) i s)
  (fun m i s h0 h=>by simp only[qag_i2,qag_t2,decide_eq_false h,cond_false])
  (fun m i s y h0 h hy=>by
   simp only[qag_i2,qag_t2,decide_eq_true h,decide_eq_true h0,cond_true,hy,Option.bind_some];rw[i64_in (i+1) (by omega)])
  p.threads.length fuel 0 s (by omega) (by omega) (by unfold fuel; omega)
 try simp only at hL
 rw[qag_l2,zaaa,hL];unfold evP;rw[zadb];have:∀ (l:List TThread) (s:Int),(∀ t∈l,nSs t.body≤10000000000000000)→l.foldlM (fun s t=>qaj t.body 1 s) s=l.foldlM (fun s t=>(evSs t.body 1).foldlM (atEv (fun (x:TStmt) (d:Int) (s:Int)=>qaZ x d s) (fun (x:TExpr) (d:Int) (s:Int)=>qa0 x d s)) s) s:=by
  intro l;induction l with
  |nil=>intro s _; rfl
  |cons t l ih=>
   intro s ht;rw[List.foldlM_cons,List.foldlM_cons,wSt_1 t.body s (ht t (by simp))];congr 1;funext s';exact ih s' (fun z hz=>ht z (by simp[hz]))
 rw[Int.toNat_zero,List.drop_zero,this _ _ (fun t ht=>by have:=zahq ht; omega)];simp[zacl]
theorem wE_2 : WalksE (fun (x : TExpr) (d : Int) (s : Int) => qaX x d s) (fun (n : Nat) (x : TExpr) (d : Int) (s : Int) => qae_i n x d s) where
 step:=by
  intro n x d s hd1 hd2 hl;show qae_f (qae_i n) x d s=_;unfold qae_f;rw[zabd];congr 1;funext y0
  have hL := zacr (σ := Int) x.args (fun y s => qae_i n y (d + 1) s) (fun m i s => qae_i3 (qae_i n) m d x.args (x.args.length : Int) i s)
   (fun m i s h0 h=>by simp only[qae_i3,qae_t3,decide_eq_false h,cond_false])
   (fun m i s y h0 h hy=>by
    simp only[qae_i3,qae_t3,decide_eq_true h,decide_eq_true h0,cond_true,hy,Option.bind_some,zabd];rw[i64_in (i+1) (by omega),i64_in (d+1) (by omega)])
   x.args.length fuel 0 y0 (by omega) (by omega) (by unfold fuel; omega)
  try simp only at hL
  rw[qae_l3,zaaa,hL];simp[zacl]
theorem wEx_2 (x:TExpr) (s:Int) (hx:nE x≤100000000000000000):qae x 1 s=(evE x 1).foldlM (atEv (fun (x:TStmt) (d:Int) (s:Int)=>qaW x d s) (fun (x:TExpr) (d:Int) (s:Int)=>qaX x d s)) s:=by
 rw[qae,zaaa];exact zaop (g:=(fun (x:TStmt) (d:Int) (s:Int)=>qaW x d s)) wE_2 (nE x) fuel x 1 s (Nat.le_refl _) (by unfold fuel; omega) (by omega) (by omega)
theorem wS_2 : WalksS (fun (x : TStmt) (d : Int) (s : Int) => qaW x d s) (fun (x : TExpr) (d : Int) (s : Int) => qae x d s) (fun (n : Nat) (l : List TStmt) (d : Int) (s : Int) => qak_i n l d s) where
 step:=by
  intro n l d s hd1 hd2 hl;show qak_f (qak_i n) l d s=_;unfold qak_f
  have hL := zacr (σ := Int) l (fun x s => (qaW x d s).bind fun s1 => (if zaaq x.expr then qae x.expr 1 s1 else some s1).bind fun s2 => (qak_i n x.then_ (d + 1) s2).bind fun s3 => qak_i n x.else_ (d + 1) s3)
   (fun m i s=>qak_i2 (qak_i n) m d l (l.length:Int) i s)
   (fun m i s h0 h=>by simp only[qak_i2,qak_t2,decide_eq_false h,cond_false])
   (fun m i s y h0 h hy=>by
    have e:(bif TExpr.kind (TStmt.expr y) != (0:Int) then some true else some (decide ((↑(List.length (TExpr.args (TStmt.expr y))):Int)>(0:Int))))=some (zaaq y.expr):=by
     unfold zaaq;cases (y.expr.kind != 0)
     ·simp
     ·rfl
    simp only[qak_i2,qak_t2,decide_eq_true h,decide_eq_true h0,cond_true,hy,Option.bind_some,zabd,zak6,e];rw[i64_in (i+1) (by omega),i64_in (d+1) (by omega)];cases zaaq y.expr<;>simp[Option.bind_assoc])
   l.length fuel 0 s (by omega) (by omega) (by unfold fuel; omega)
  try simp only at hL
  rw[qak_l2,zaaa,hL];simp[zacl]
theorem wSt_2 (l:List TStmt) (s:Int) (hl:nSs l≤10000000000000000):qak l 1 s=(evSs l 1).foldlM (atEv (fun (x:TStmt) (d:Int) (s:Int)=>qaW x d s) (fun (x:TExpr) (d:Int) (s:Int)=>qaX x d s)) s:=by
 rw[qak,zaaa];exact zaol (g:=(fun (x:TStmt) (d:Int) (s:Int)=>qaW x d s)) (h:=(fun (x:TExpr) (d:Int) (s:Int)=>qaX x d s)) (fun x s hx=>wEx_2 x s hx) wS_2 (nSs l) fuel l 1 s (Nat.le_refl _) (by unfold fuel; omega) (by omega) (by omega)
theorem wP_2 (p:TProg) (s:Int) (hl:nT p.threads≤10000000000000000):qah p s=(evP p).foldlM (atEv (fun (x:TStmt) (d:Int) (s:Int)=>qaW x d s) (fun (x:TExpr) (d:Int) (s:Int)=>qaX x d s)) s:=by
 rw[qah,zaaa];unfold qah_f;have hn:=zafg p.threads
 have hL := zacr (σ := Int) p.threads (fun t s => qak t.body 1 s) (fun m i s => qah_i2 m p.threads (p.threads.length : Int) i s)
  (fun m i s h0 h=>by simp only[qah_i2,qah_t2,decide_eq_false h,cond_false])
  (fun m i s y h0 h hy=>by
   simp only[qah_i2,qah_t2,decide_eq_true h,decide_eq_true h0,cond_true,hy,Option.bind_some];rw[i64_in (i+1) (by omega)])
  p.threads.length fuel 0 s (by omega) (by omega) (by unfold fuel; omega)
 try simp only at hL
 rw[qah_l2,zaaa,hL];unfold evP;rw[zadb];have:∀ (l:List TThread) (s:Int),(∀ t∈l,nSs t.body≤10000000000000000)→l.foldlM (fun s t=>qak t.body 1 s) s=l.foldlM (fun s t=>(evSs t.body 1).foldlM (atEv (fun (x:TStmt) (d:Int) (s:Int)=>qaW x d s) (fun (x:TExpr) (d:Int) (s:Int)=>qaX x d s)) s) s:=by
  intro l;induction l with
  |nil=>intro s _; rfl
  |cons t l ih=>
   intro s ht;rw[List.foldlM_cons,List.foldlM_cons,wSt_2 t.body s (ht t (by simp))];congr 1;funext s';exact ih s' (fun z hz=>ht z (by simp[hz]))
 rw[Int.toNat_zero,List.drop_zero,this _ _ (fun t ht=>by have:=zahq ht; omega)];simp[zacl]
end Lift.A3
namespace Lift.A3
open Go Go.RowKit Lift Go.IntWalk Lift.Fn
set_option linter.unusedVariables false
set_option linter.unusedSimpArgs false
theorem zaw4 {α σ ρ:Type} (l:List α) (I:List α→σ→Prop) (P:List α→σ→ρ) (L:Nat→Int→σ→Option ρ)
  (h0:∀ n i s,0≤i→¬ i<(l.length:Int)→I [] s→L (n+1) i s=some (P [] s))
  (h1:∀ n i s x r,0≤i→i<(l.length:Int)→l[i.toNat]? = some x→x∈l→I (x::r) s→(∃ s',I r s'∧L (n+1) i s=L n (i+1) s'∧P (x::r) s=P r s')∨L (n+1) i s=some (P (x::r) s)) :
  ∀ (k n:Nat) (i:Int) (s:σ),0≤i→l.length-i.toNat≤k→k<n→I (l.drop i.toNat) s→L n i s=some (P (l.drop i.toNat) s):=by
 intro k;induction k with
 |zero=>
  intro n i s hi hk hn hI;obtain ⟨n,rfl⟩:∃ q,n=q+1:=⟨n-1,by omega⟩;rw[List.drop_eq_nil_of_le (by omega)] at hI ⊢;exact h0 n i s hi (by omega) hI
 |succ k ih=>
  intro n i s hi hk hn hI;obtain ⟨n,rfl⟩:∃ q,n=q+1:=⟨n-1,by omega⟩;by_cases c:i<(l.length:Int)
  ·have hlt:i.toNat<l.length:=by omega
   rw[List.drop_eq_getElem_cons hlt] at hI ⊢;rcases h1 n i s l[i.toNat] _ hi c (List.getElem?_eq_getElem hlt) (List.getElem_mem hlt) hI with ⟨s',i1,e1,e2⟩|e
   ·have e:(i+1).toNat=i.toNat+1:=by omega
    rw[e1,ih n (i+1) s' (by omega) (by omega) (by omega) (by rw[e]; exact i1),e2,e]
   ·exact e
  ·rw[List.drop_eq_nil_of_le (by omega)] at hI ⊢;exact h0 n i s hi c hI
theorem zacj {α σ ρ:Type} (l:List α) (I:List α→σ→Prop) (P:List α→σ→ρ) (L:Nat→Int→σ→Option ρ)
  (h0:∀ n i s,0≤i→¬ i<(l.length:Int)→I [] s→L (n+1) i s=some (P [] s))
  (h1:∀ n i s x r,0≤i→i<(l.length:Int)→l[i.toNat]? = some x→x∈l→I (x::r) s→(∃ s',I r s'∧L (n+1) i s=L n (i+1) s'∧P (x::r) s=P r s')∨L (n+1) i s=some (P (x::r) s))
  (n:Nat) (s:σ) (hn:l.length<n) (hI:I l s):L n 0 s=some (P l s):=by
 have:=zaw4 l I P L h0 h1 l.length n 0 s (by omega) (by omega) hn;rw[Int.toNat_zero,List.drop_zero] at this;exact this hI
mutual
theorem lenE:∀ (x:TExpr) (d:Int),(evE x d).length=nE x
 |⟨k,n,m,l⟩,d=>by simp[evE,nE,lenEs l (d+1)]; omega
theorem lenEs:∀ (l:List TExpr) (d:Int),(evEs l d).length=nEs l
 |[],d=>by simp[evEs,nEs]
 |x::l,d=>by simp[evEs,nEs,lenE x d,lenEs l d]
end
mutual
def cS:TStmt→Nat
 |⟨_,_,_,x,_,t,o⟩=>1+(if zaaq x then nE x else 0)+cSs t+cSs o
def cSs:List TStmt→Nat
 |[]=>0
 |x::l=>cS x+cSs l
end
def cT:List TThread→Nat
 |[]=>0
 |t::l=>cSs t.body+cT l
mutual
theorem lenS:∀ (x:TStmt) (d:Int),(evS x d).length=cS x
 |⟨k,r,m,x,c,t,o⟩,d=>by
  have h1:=lenSs t (d+1);have h2:=lenSs o (d+1);have h3:=lenE x 1;simp only[evS,cS,List.length_cons,List.length_append,h1,h2];split<;>simp[h3]<;>omega
theorem lenSs:∀ (l:List TStmt) (d:Int),(evSs l d).length=cSs l
 |[],d=>by simp[evSs,cSs]
 |x::l,d=>by simp[evSs,cSs,lenS x d,lenSs l d]
end
mutual
theorem cS_le:∀ x:TStmt,cS x≤nS x
 |⟨k,r,m,x,c,t,o⟩=>by
  have h1:=zal5 t;have h2:=zal5 o;simp only[cS,nS];split<;>omega
theorem zal5:∀ l:List TStmt,cSs l≤nSs l
 |[]=>by simp[cSs]
 |x::l=>by have:=cS_le x; have:=zal5 l; simp only[cSs,nSs]; omega
end
theorem cT_le:∀ l:List TThread,cT l≤nT l
 |[]=>by simp[cT]
 |x::l=>by have:=zal5 x.body; have:=cT_le l; simp only[cT,nT]; omega
theorem lenP : ∀ (l : List TThread), (l.flatMap fun t => evSs t.body 1).length = cT l
 |[]=>rfl
 |t::l=>by simp only[List.flatMap_cons,List.length_append,lenSs,lenP l,cT]
theorem zali:∀ (l:List Ev) (s:Int),0≤s→s+l.length≤1000000000000000000 →
  l.foldlM (atEv (fun (x:TStmt) (d:Int) (s:Int)=>qaW x d s) (fun (x:TExpr) (d:Int) (s:Int)=>qaX x d s)) s=some (s+l.length)
 |[],s,_,_=>by simp
 |e::l,s,h0,h=>by
  simp only[List.length_cons] at h;have e1:atEv (fun (x:TStmt) (d:Int) (s:Int)=>qaW x d s) (fun (x:TExpr) (d:Int) (s:Int)=>qaX x d s) s e=some (s+1):=by
   cases e with
   |s x d=>show qaW x d s=_; rw[qaW,zaaa]; unfold qaW_f; rw[i64_in (s+1) (by omega)]
   |e x d=>show qaX x d s=_; rw[qaX,zaaa]; unfold qaX_f; rw[i64_in (s+1) (by omega)]
  rw[List.foldlM_cons,e1];show List.foldlM _ (s+1) l=_;rw[zali l (s+1) (by omega) (by omega),List.length_cons];congr 1;omega
theorem zaup (p:TProg) (h:nT p.threads≤10000000000000000):qaV p=some (cT p.threads:Int):=by
 rw[qaV,zaaa];unfold qaV_f;have hc:=cT_le p.threads;have hl:=lenP p.threads;rw[zadw,wP_2 p 0 h,zali _ 0 (by omega) (by unfold evP; rw[hl]; omega),Option.bind_some];unfold evP;rw[hl];simp
def evD:Ev→Int
 |.s _ d=>d
 |.e _ d=>d
def maxEv (l:List Ev) (s:Int):Int:=l.foldl (fun s e=>max s (evD e)) s
theorem zarn (a b:Int):(if a>b then a else b)=max b a:=by
 rw[Int.max_def];split<;>split<;>omega
theorem zap8:∀ (a:List Ev) (s:Int),s≤maxEv a s
 |[],s=>Int.le_refl _
 |e::a,s=>by
  have:=zap8 a (max s (evD e));show s≤maxEv a (max s (evD e));omega
theorem zanr : ∀ (l : List Ev) (s : Int), l.foldlM (atEv (fun (x : TStmt) (d : Int) (s : Int) => qaZ x d s) (fun (x : TExpr) (d : Int) (s : Int) => qa0 x d s)) s = some (maxEv l s)
 |[],s=>rfl
 |e::l,s=>by
  have e1:atEv (fun (x:TStmt) (d:Int) (s:Int)=>qaZ x d s) (fun (x:TExpr) (d:Int) (s:Int)=>qa0 x d s) s e=some (max s (evD e)):=by
   cases e with
   |s x d=>show qaZ x d s=_; rw[qaZ,zaaa]; unfold qaZ_f; rw[zarn]; rfl
   |e x d=>show qa0 x d s=_; rw[qa0,zaaa]; unfold qa0_f; rw[zarn]; rfl
  rw[List.foldlM_cons,e1];exact zanr l _
theorem zavz (p:TProg) (h:nT p.threads≤10000000000000000):qaY p=some (maxEv (evP p) 0):=by
 rw[qaY,zaaa];unfold qaY_f;rw[zadw,wP_1 p 0 h,zanr];rfl
end Lift.A3
namespace Lift.A3
open Go Go.RowKit Lift Go.IntWalk Lift.Fn
set_option linter.unusedVariables false
set_option linter.unusedSimpArgs false
end Lift.A3
namespace Lift.A3
open Go Go.RowKit Lift Go.IntWalk Lift.Fn
set_option linter.unusedVariables false
set_option linter.unusedSimpArgs false
def two {α:Type} (f:α→α→Bool):List α→List α→Bool
 |[],[]=>true
 |x::l,y::r=>f x y&&two f l r
 |_,_=>false
theorem zaf6 {α:Type} (f:α→α→Bool):∀ (l r:List α),l.length≠r.length→two f l r=false
 |[],[],h=>absurd rfl h
 |[],_::_,_=>rfl
 |_::_,[],_=>rfl
 |x::l,y::r,h=>by
  rw[two,zaf6 f l r (by simpa using h),Bool.and_false]
theorem zaq6 {α : Type} (f : α → α → Bool) : ∀ (l r : List α), l.length = r.length → two f l r = (l.zip r).all fun p => f p.1 p.2
 |[],[],h=>rfl
 |x::l,y::r,h=>by
  rw[two,zaq6 f l r (by simpa using h),List.zip_cons_cons,List.all_cons]
theorem zagl {α:Type} (f:α→α→Bool):∀ (l:List α),(∀ x∈l,f x x=true)→two f l l=true
 |[],h=>rfl
 |x::l,h=>by
  rw[two,h x (by simp),zagl f l (fun y hy=>h y (by simp[hy]))];rfl
theorem zagg {α τ:Type} (f:α→α→Bool) (l r:List α) (e:τ) (L:Nat→Int→Option (Bool⊕τ)) (hlen:l.length=r.length)
  (h0:∀ n i,0≤i→¬ i<(l.length:Int)→L (n+1) i=some (.inr e))
  (h1:∀ n i x y,0≤i→i<(l.length:Int)→l[i.toNat]? = some x→r[i.toNat]? = some y→x∈l→y∈r→L (n+1) i=bif f x y then L n (i+1) else some (.inl false))
  (n:Nat) (hn:l.length<n):L n 0=some (bif two f l r then .inr e else .inl false):=by
 have hz:(l.zip r).length=l.length:=by rw[List.length_zip]; omega
 have := zacj (σ := Unit) (l.zip r) (fun _ _ => True) (fun q _ => (bif q.all fun p => f p.1 p.2 then .inr e else .inl false : Bool ⊕ τ)) (fun m i _ => L m i)
  (fun m i s h h' _=>h0 m i h (by rw[← hz]; exact h'))
  (fun m i s p q h h' hp hm _=>by
   obtain ⟨x,y⟩:=p;obtain ⟨e1,e2⟩:=List.getElem?_zip_eq_some.1 hp;have:=h1 m i x y h (by rw[← hz]; exact h') e1 e2 (List.mem_of_getElem? e1) (List.mem_of_getElem? e2);cases hf:f x y with
   |true=>
    rw[hf,cond_true] at this;exact Or.inl ⟨(),trivial,this,by rw[List.all_cons,hf,Bool.true_and]⟩
   |false=>
    rw[hf,cond_false] at this;refine Or.inr ?_;rw[List.all_cons,hf,Bool.false_and];exact this)
  n () (by omega) trivial
 rw[zaq6 f l r hlen];exact this
mutual
def sE:TExpr→TExpr→Bool
 |⟨k,n,m,l⟩,⟨k',n',m',l'⟩=>k==k'&&(n==n'&&(m==m'&&sEs l l'))
def sEs:List TExpr→List TExpr→Bool
 |[],[]=>true
 |x::l,y::r=>sE x y&&sEs l r
 |_,_=>false
end
theorem zarz:∀ l r,sEs l r=two sE l r
 |[],[]=>by simp[sEs,two]
 |[],_::_=>by simp[sEs,two]
 |_::_,[]=>by simp[sEs,two]
 |x::l,y::r=>by rw[sEs,two,zarz l r]
theorem sE_eq (x y:TExpr):sE x y=(x.kind==y.kind&&(x.num==y.num&&(x.name==y.name&&two sE x.args y.args))):=by
 cases x; cases y; rw[sE,zarz]
mutual
def sS:TStmt→TStmt→Bool
 |⟨k,r,m,x,c,t,o⟩,⟨k',r',m',x',c',t',o'⟩=>k==k'&&(r==r'&&(m==m'&&(c==c'&&(sE x x'&&(sSs t t'&&sSs o o')))))
def sSs:List TStmt→List TStmt→Bool
 |[],[]=>true
 |x::l,y::r=>sS x y&&sSs l r
 |_,_=>false
end
theorem zamu:∀ l r,sSs l r=two sS l r
 |[],[]=>by simp[sSs,two]
 |[],_::_=>by simp[sSs,two]
 |_::_,[]=>by simp[sSs,two]
 |x::l,y::r=>by rw[sSs,two,zamu l r]
theorem sS_eq (x y:TStmt):sS x y=(x.kind==y.kind&&(x.reg==y.reg&&(x.name==y.name&&(x.count==y.count&&(sE x.expr y.expr&&(two sS x.then_ y.then_&&two sS x.else_ y.else_)))))):=by
 cases x; cases y; rw[sS,zamu,zamu]
def sT (x y:TThread):Bool:=x.name==y.name&&two sS x.body y.body
def sP (p q:TProg):Bool:=two (fun x y=>decide (x=y)) p.cells q.cells&&(two (fun x y=>x==y) p.mutexes q.mutexes&&two sT p.threads q.threads)
mutual
theorem zarr:∀ x,sE x x=true
 |⟨k,n,m,l⟩=>by rw[sE,zap7 l]; simp
theorem zap7:∀ l,sEs l l=true
 |[]=>by rw[sEs]
 |x::l=>by rw[sEs,zarr x,zap7 l]; rfl
end
mutual
theorem zart:∀ x,sS x x=true
 |⟨k,r,m,x,c,t,o⟩=>by rw[sS,zakx t,zakx o,zarr x]; simp
theorem zakx:∀ l,sSs l l=true
 |[]=>by rw[sSs]
 |x::l=>by rw[sSs,zart x,zakx l]; rfl
end
theorem zawl (x:TThread):sT x x=true:=by
 rw[sT,zagl sS _ (fun y _=>zart y)];simp
theorem zawq (p:TProg):sP p p=true:=by
 rw[sP,zagl sT _ (fun y _=>zawl y),zagl _ _ (fun y _=>by simp),zagl _ _ (fun y _=>by simp)];rfl
theorem zavd:∀ (k n:Nat) (x y:TExpr),nE x≤k→k<n→k≤100000000→qaJ_i n x y=some (sE x y):=by
 intro k;induction k with
 |zero=>intro n x y h; have:=nE_eq x; omega
 |succ k ih=>
  intro n x y h hn hb;obtain ⟨n,rfl⟩:∃ q,n=q+1:=⟨n-1,by omega⟩;have hx:=nE_eq x;have hl:=zahj x.args;show qaJ_f (qaJ_i n) x y=_;unfold qaJ_f;rw[sE_eq];cases h1:x.kind==y.kind with
  |false=>simp[bne,h1]
  |true=>
  cases h2:x.num==y.num with
  |false=>simp[bne,h1,h2]
  |true=>
  cases h3:x.name==y.name with
  |false=>simp[bne,h1,h2,h3]
  |true=>
  by_cases h4:x.args.length=y.args.length
  ·have h4':((x.args.length:Int)==(y.args.length:Int))=true:=by rw[h4]; simp
   simp only[bne,h1,h2,h3,h4',Bool.not_true,cond_false,Option.bind_some,Bool.true_and]
   have hL := zagg sE x.args y.args () (fun m i => qaJ_i4 (qaJ_i n) m i x.kind x.num x.name x.args y.kind y.num y.name y.args) h4
    (fun m i h0 h=>by
     simp only[qaJ_i4,qaJ_t4,decide_eq_false h,cond_false])
    (fun m i a b h0 h ha hb' ma mb=>by
     have:=zahw ma;simp only[qaJ_i4,qaJ_t4,decide_eq_true h,decide_eq_true h0,cond_true,ha,hb',Option.bind_some];rw[ih n a b (by omega) (by omega) (by omega),Option.bind_some,i64_in (i+1) (by omega)];cases sE a b<;>rfl)
    fuel (by unfold fuel; omega)
   rw[qaJ_l4,zaaa,hL];cases two sE x.args y.args<;>rfl
  ·have h4':((x.args.length:Int)==(y.args.length:Int))=false:=by
    rw[beq_eq_false_iff_ne]; omega
   simp only[bne,h1,h2,h3,h4',Bool.not_true,Bool.not_false,cond_false,cond_true,Option.bind_some,Bool.true_and];rw[zaf6 sE _ _ h4]
theorem zaqg (x y:TExpr) (h:nE x≤100000000):qaJ x y=some (sE x y):=by
 rw[qaJ,zaaa,zavd (nE x) fuel x y (Nat.le_refl _) (by unfold fuel; omega) (by omega)]
theorem zau0:∀ (k n:Nat) (l r:List TStmt),nSs l≤k→k<n→k≤100000000→qaK_i n l r=some (two sS l r):=by
 intro k;induction k with
 |zero=>
  intro n l r h hn hb;obtain ⟨n,rfl⟩:∃ q,n=q+1:=⟨n-1,by omega⟩;have hl:=zae2 l;obtain rfl:l=[]:=List.eq_nil_of_length_eq_zero (by omega);show qaK_f (qaK_i n) [] r=_;unfold qaK_f;cases r with
  |nil=>
   rw[qaK_l4,zaaa];rfl
  |cons y r=>
   have h4':((([]:List TStmt).length:Int)==((y::r).length:Int))=false:=by
    rw[beq_eq_false_iff_ne]; simp only[List.length_cons,List.length_nil]; omega
   simp only[bne,h4',Bool.not_false,cond_true,two]
 |succ k ih=>
  intro n l r h hn hb;obtain ⟨n,rfl⟩:∃ q,n=q+1:=⟨n-1,by omega⟩;have hl:=zae2 l;show qaK_f (qaK_i n) l r=_;unfold qaK_f;by_cases h4:l.length=r.length
  ·have h4':((l.length:Int)==(r.length:Int))=true:=by rw[h4]; simp
   simp only[bne,h4',Bool.not_true,cond_false]
   have hL := zagg sS l r () (fun m i => qaK_i4 (qaK_i n) m l r i) h4
    (fun m i h0 h=>by
     simp only[qaK_i4,qaK_t4,decide_eq_false h,cond_false])
    (fun m i a b h0 h ha hb' ma mb=>by
     have h5:=zajt ma;have h6:=nS_eq a;simp only[qaK_i4,qaK_t4,decide_eq_true h,decide_eq_true h0,cond_true,ha,hb',Option.bind_some,zabd];rw[ih n a.then_ b.then_ (by omega) (by omega) (by omega),ih n a.else_ b.else_ (by omega) (by omega) (by omega),zaqg a.expr b.expr (by omega),i64_in (i+1) (by omega),sS_eq];simp only[Option.bind_some,bne];cases (a.kind==b.kind) with
     |false=>rfl
     |true=>
     cases (a.reg==b.reg) with
     |false=>rfl
     |true=>
     cases (a.name==b.name) with
     |false=>rfl
     |true=>
     cases (a.count==b.count) with
     |false=>rfl
     |true=>
     cases sE a.expr b.expr with
     |false=>rfl
     |true=>
     cases two sS a.then_ b.then_ with
     |false=>rfl
     |true=>
     cases two sS a.else_ b.else_<;>rfl)
    fuel (by unfold fuel; omega)
   rw[qaK_l4,zaaa,hL];cases two sS l r<;>rfl
  ·have h4':((l.length:Int)==(r.length:Int))=false:=by
    rw[beq_eq_false_iff_ne]; omega
   simp only[bne,h4',Bool.not_false,cond_true];rw[zaf6 sS _ _ h4]
theorem zawv (p q:TProg) (h:nT p.threads≤100000000) (h1:p.cells.length≤100000000) (h2:p.mutexes.length≤100000000) :
  qaI p q=some (sP p q):=by
 rw[qaI,zaaa];unfold qaI_f;have hl:=zafg p.threads;rw[sP];by_cases l1:p.cells.length=q.cells.length
 ·have l1':((p.cells.length:Int)==(q.cells.length:Int))=true:=by rw[l1]; simp
  by_cases l2:p.mutexes.length=q.mutexes.length
  ·have l2':((p.mutexes.length:Int)==(q.mutexes.length:Int))=true:=by rw[l2]; simp
   by_cases l3:p.threads.length=q.threads.length
   ·have l3':((p.threads.length:Int)==(q.threads.length:Int))=true:=by rw[l3]; simp
    simp only[bne,l1',l2',l3',Bool.not_true,cond_false,Option.bind_some]
    have hL1 := zagg (fun x y => decide (x = y)) p.cells q.cells (p.cells, p.mutexes, p.threads, q.cells, q.mutexes, q.threads) (fun m i => qaI_i4 m i p.cells p.mutexes p.threads q.cells q.mutexes q.threads) l1
     (fun m i h0 h=>by
      simp only[qaI_i4,qaI_t4,decide_eq_false h,cond_false])
     (fun m i a b h0 h ha hb' ma mb=>by
      simp only[qaI_i4,qaI_t4,decide_eq_true h,decide_eq_true h0,cond_true,ha,hb',Option.bind_some];rw[i64_in (i+1) (by omega)];cases decide (a=b)<;>rfl)
     fuel (by unfold fuel; omega)
    have hL2 := zagg (fun x y => x == y) p.mutexes q.mutexes (p.cells, p.mutexes, p.threads, q.cells, q.mutexes, q.threads) (fun m i => qaI_i9 m i p.cells p.mutexes p.threads q.cells q.mutexes q.threads) l2
     (fun m i h0 h=>by
      simp only[qaI_i9,qaI_t9,decide_eq_false h,cond_false])
     (fun m i a b h0 h ha hb' ma mb=>by
      simp only[qaI_i9,qaI_t9,decide_eq_true h,decide_eq_true h0,cond_true,ha,hb',Option.bind_some];rw[i64_in (i+1) (by omega)];cases (a==b)<;>rfl)
     fuel (by unfold fuel; omega)
    have hL3 := zagg sT p.threads q.threads () (fun m i => qaI_i14 m i p.cells p.mutexes p.threads q.cells q.mutexes q.threads) l3
     (fun m i h0 h=>by
      simp only[qaI_i14,qaI_t14,decide_eq_false h,cond_false])
     (fun m i a b h0 h ha hb' ma mb=>by
      have h5:=zahq ma;simp only[qaI_i14,qaI_t14,decide_eq_true h,decide_eq_true h0,cond_true,ha,hb',Option.bind_some];rw[qaK,zaaa,zau0 (nSs a.body) fuel a.body b.body (Nat.le_refl _) (by unfold fuel; omega) (by omega),i64_in (i+1) (by omega),sT,Option.bind_some];cases (a.name==b.name) with
      |false=>rfl
      |true=>cases two sS a.body b.body<;>rfl)
     fuel (by unfold fuel; omega)
    rw[qaI_l4,zaaa,hL1];cases two (fun x y=>decide (x=y)) p.cells q.cells with
    |false=>rfl
    |true=>
    simp only[cond_true,Option.bind_some];rw[qaI_l9,zaaa,hL2];cases two (fun x y=>x==y) p.mutexes q.mutexes with
    |false=>rfl
    |true=>
    simp only[cond_true,Option.bind_some];rw[qaI_l14,zaaa,hL3];cases two sT p.threads q.threads<;>rfl
   ·have l3':((p.threads.length:Int)==(q.threads.length:Int))=false:=by
     rw[beq_eq_false_iff_ne]; omega
    simp only[bne,l1',l2',l3',Bool.not_true,Bool.not_false,cond_false,cond_true,Option.bind_some];rw[zaf6 sT _ _ l3,Bool.and_false,Bool.and_false]
  ·have l2':((p.mutexes.length:Int)==(q.mutexes.length:Int))=false:=by
    rw[beq_eq_false_iff_ne]; omega
   simp only[bne,l1',l2',Bool.not_true,Bool.not_false,cond_false,cond_true,Option.bind_some];rw[zaf6 (fun x y=>x==y) _ _ l2,Bool.false_and,Bool.and_false]
 ·have l1':((p.cells.length:Int)==(q.cells.length:Int))=false:=by
   rw[beq_eq_false_iff_ne]; omega
  simp only[bne,l1',Bool.not_false,cond_true,Option.bind_some];rw[zaf6 (fun x y=>decide (x=y)) _ _ l1,Bool.false_and]
end Lift.A3
namespace Lift.A3
open Go Go.RowKit Lift Go.IntWalk Lift.Fn
set_option linter.unusedVariables false
set_option linter.unusedSimpArgs false
end Lift.A3
namespace Lift.A3
open Go Go.RowKit Lift Go.IntWalk Lift.Fn
set_option linter.unusedVariables false
set_option linter.unusedSimpArgs false
end Lift.A3
namespace Lift.A1P
open Go Go.RowKit Lift Go.IntWalk
namespace Sp
def isRune (r:Int):Bool:=decide (0≤r∧r≤1114111∧(r<55296∨r>57343))
def letter (r:Int):Bool:=isRune r&&decide ((65≤r∧r≤90)∨r=95∨(97≤r∧r≤122)∨192≤r)
def digit (r:Int):Bool:=decide (48≤r∧r≤57)
def blank (r:Int):Bool:=decide (r=9∨r=10∨r=13∨r=32)
def long (r:Int):Int:=if r<128 then 1 else if r<2048 then 2 else if r<65536 then 3 else 4
def enc (r:Int):List Int:=
 if r<128 then [r] else if r<2048 then [192+r / 64,128+r % 64] else if r<65536 then [224+r / 4096,128+r / 64 % 64,128+r % 64]
 else [240+r / 262144,128+r / 4096 % 64,128+r / 64 % 64,128+r % 64]
def dc (t:List UInt8) (p:Nat):Nat×Nat:=Utf8.decode ⟨t.toArray⟩ p
def bad (t:List UInt8) (p:Nat):Bool:=decide ((dc t p).1=65533)&&!(((t.take (min t.length (p+3))).drop p)==[239,191,189])
def at1 (t:List UInt8) (p:Int):Int:=if bad t p.toNat then 0 else ((dc t p.toNat).1:Int)
def at2 (t:List UInt8) (p:Int):Int:=if bad t p.toNat then 0 else ((dc t p.toNat).2:Int)
def on (s:Spot) (r n:Int):Spot:=if r=10 then ⟨s.rune,s.at_+n,s.line+1,1⟩ else ⟨s.rune,s.at_+n,s.line,s.col+1⟩
def spotsFrom (t:List UInt8):Nat→List Spot→Spot→List Spot×Spot
 |0,acc,s=>(acc,s)
 | n + 1, acc, s => if s.at_ < t.length then (if bad t s.at_.toNat then (acc, s) else
   spotsFrom t n (acc++[⟨at1 t s.at_,s.at_,s.line,s.col⟩]) (on ⟨at1 t s.at_,s.at_,s.line,s.col⟩ (at1 t s.at_) (at2 t s.at_))) else (acc,s)
def ended (s:Spot):Spot:=⟨-1,s.at_,s.line,s.col⟩
def spots1 (t:List UInt8):List Spot:=(spotsFrom t t.length [] ⟨0,0,1,1⟩).1
def spots2 (t:List UInt8):Spot:=ended (spotsFrom t t.length [] ⟨0,0,1,1⟩).2
def runes1 (t:List UInt8):List Spot:=if 4000<t.length then [] else if (spots2 t).at_<t.length then [] else spots1 t
def runes2 (t:List UInt8):Fault:=if 4000<t.length then ⟨10,4000,[]⟩ else if (spots2 t).at_<t.length then ⟨11,(spots2 t).at_,[]⟩ else ⟨0,0,[]⟩
def same (a b:List Spot):Bool:=decide (a=b)
end Sp
namespace Sp
def by_ (l:List UInt8) (k:Nat):Nat:=(l.getD k 0).toNat
def ct (l:List UInt8) (k:Nat):Bool:=decide (k<l.length)&&(by_ l k / 64==2)
def dl (l:List UInt8):Nat×Nat:=
 if by_ l 0<0x80 then (by_ l 0,1)
 else if by_ l 0 / 32 == 6 && ct l 1 then
  if (by_ l 0 % 32)*64+by_ l 1 % 64≥0x80 then ((by_ l 0 % 32)*64+by_ l 1 % 64,2) else (65533,1)
 else if by_ l 0 / 16 == 14 && ct l 1 && ct l 2 then
  if (by_ l 0 % 16)*4096+(by_ l 1 % 64)*64+by_ l 2 % 64≥0x800&&Utf8.valid (((by_ l 0 % 16)*4096+(by_ l 1 % 64)*64+by_ l 2 % 64:Nat):Int) then ((by_ l 0 % 16)*4096+(by_ l 1 % 64)*64+by_ l 2 % 64,3) else (65533,1)
 else if by_ l 0 / 8 == 30 && ct l 1 && ct l 2 && ct l 3 then
  if (by_ l 0 % 8)*262144+(by_ l 1 % 64)*4096+(by_ l 2 % 64)*64+by_ l 3 % 64≥0x10000&&Utf8.valid (((by_ l 0 % 8)*262144+(by_ l 1 % 64)*4096+(by_ l 2 % 64)*64+by_ l 3 % 64:Nat):Int) then ((by_ l 0 % 8)*262144+(by_ l 1 % 64)*4096+(by_ l 2 % 64)*64+by_ l 3 % 64,4) else (65533,1)
 else (65533,1)
def badl (l:List UInt8):Bool:=decide ((dl l).1=65533)&&!(l.take 3==[239,191,189])
theorem zawp (t:List UInt8) (q k:Nat):by_ (t.drop q) k=(t.getD (q+k) 0).toNat:=by
 simp[by_,List.getD_eq_getElem?_getD]
theorem dc_eq (t:List UInt8) (q:Nat):dc t q=dl (t.drop q):=by
 have hb:∀ k,((⟨t.toArray⟩:ByteArray).get! (q+k)).toNat=by_ (t.drop q) k:=by
  intro k;rw[zawp];simp[ByteArray.get!,List.getD_eq_getElem?_getD,getElem!_def];cases t[q+k]?<;>rfl
 have hs:(⟨t.toArray⟩:ByteArray).size=t.length:=by simp[ByteArray.size]
 have hc:∀ k,(decide (q+k<t.length)&&((by_ (t.drop q) k) / 64==2))=ct (t.drop q) k:=by
  intro k;unfold ct;have:(q+k<t.length)↔(k<(t.drop q).length):=by simp; omega
  simp only[this]
 unfold dc Utf8.decode;simp only[hb,hs,hc];unfold dl;rfl
theorem bad_eq (t:List UInt8) (q:Nat):bad t q=badl (t.drop q):=by
 unfold bad badl;rw[dc_eq];congr 2;have:(t.take (min t.length (q+3))).drop q=(t.drop q).take 3:=by
  have h1:t.take (min t.length (q+3))=t.take (q+3):=by
   rcases Nat.le_total t.length (q+3) with h|h
   ·rw[Nat.min_eq_left h,List.take_of_length_le h,List.take_of_length_le (Nat.le_refl _)]
   ·rw[Nat.min_eq_right h]
  rw[h1,List.drop_take];simp
 rw[this]
end Sp
namespace Sp
theorem take3 (l:List UInt8):(l.take 3==[239,191,189])=decide (3≤l.length∧by_ l 0=239∧by_ l 1=191∧by_ l 2=189):=by
 have e:∀ (a b:UInt8),(a==b)=decide (a.toNat=b.toNat):=fun a b=>by
  rw[Bool.eq_iff_iff]; simp[UInt8.toNat_inj]
 match l with
 |[]=>simp[by_]
 |[a]=>simp[by_]
 |[a,b]=>simp[by_]
 |a::b::c::r=>
  have:List.take 3 (a::b::c::r)=[a,b,c]:=rfl;rw[this];rw[Bool.eq_iff_iff];simp[by_,← UInt8.toNat_inj]
end Sp
def ansA (n b0 b1 b2 b3:Nat):Int×Int:=
 let ok (r:Int) (k:Int):Int×Int:=if (0≤r∧r≤1114111∧(r<55296∨r>57343))∧Sp.long r=k then (r,k) else (0,0)
 if 240≤b0 then (if n<4 then (0,0) else if b1<128∨191<b1 then (0,0) else if b2<128∨191<b2 then (0,0) else if b3<128∨191<b3 then (0,0) else ok (64*(64*(64*(b0-240)+b1-128)+b2-128)+b3-128) 4)
 else if 224≤b0 then (if n<3 then (0,0) else if b1<128∨191<b1 then (0,0) else if b2<128∨191<b2 then (0,0) else ok (64*(64*(b0-224)+b1-128)+b2-128) 3)
 else if 192≤b0 then (if n<2 then (0,0) else if b1<128∨191<b1 then (0,0) else ok (64*(b0-192)+b1-128) 2)
 else if 128≤b0 then (0,0) else (b0,1)
theorem zagx (r:Int):Utf8.valid r=true↔(0≤r∧r<55296)∨(57344≤r∧r≤1114111):=by
 unfold Utf8.valid;simp only[Bool.or_eq_true,Bool.and_eq_true,decide_eq_true_eq]
theorem zauh (l:List UInt8) (hl:0<l.length):ansA l.length (Sp.by_ l 0) (Sp.by_ l 1) (Sp.by_ l 2) (Sp.by_ l 3)=if Sp.badl l then (0,0) else (((Sp.dl l).1:Int),((Sp.dl l).2:Int)):=by
 have hb:∀ k,Sp.by_ l k<256:=fun k=>(l.getD k 0).toNat_lt
 have h0:=hb 0;have h1:=hb 1;have h2:=hb 2;have h3:=hb 3;unfold Sp.badl;rw[Sp.take3];obtain ⟨D,hD⟩:∃ D,D=Sp.dl l:=⟨_,rfl⟩;rw[← hD];unfold Sp.dl Sp.ct at hD;generalize Sp.by_ l 0=b0 at *;generalize Sp.by_ l 1=b1 at *;generalize Sp.by_ l 2=b2 at *;generalize Sp.by_ l 3=b3 at *;generalize l.length=n at *;clear hb;have small:∀ r:Int,r<128→Sp.long r=1:=fun r h=>by unfold Sp.long; rw[if_pos h]
 have two:∀ r:Int,128≤r→r<2048→Sp.long r=2:=fun r h h'=>by unfold Sp.long; rw[if_neg (by omega),if_pos h']
 have three:∀ r:Int,2048≤r→r<65536→Sp.long r=3:=fun r h h'=>by unfold Sp.long; rw[if_neg (by omega),if_neg (by omega),if_pos h']
 have four:∀ r:Int,65536≤r→Sp.long r=4:=fun r h=>by unfold Sp.long; rw[if_neg (by omega),if_neg (by omega),if_neg (by omega)]
 simp only[Bool.and_eq_true,decide_eq_true_eq,beq_iff_eq,zagx,ge_iff_le] at hD;simp only[Bool.and_eq_true,decide_eq_true_eq,Bool.not_eq_true',decide_eq_false_iff_not];have good:∀ (r k:Nat),D=(r,k)→¬ (r=65533∧¬ (3≤n∧b0=239∧b1=191∧b2=189))→(if D.1=65533∧¬ (3≤n∧b0=239∧b1=191∧b2=189) then ((0:Int),(0:Int)) else (↑D.1,↑D.2))=((r:Int),(k:Int)):=by
  intro r k h1 h2;rw[h1];exact if_neg h2
 have badd:D=(65533,1)→¬ (3≤n∧b0=239∧b1=191∧b2=189)→(if D.1=65533∧¬ (3≤n∧b0=239∧b1=191∧b2=189) then ((0:Int),(0:Int)) else (↑D.1,↑D.2))=(0,0):=by
  intro h1 h2;rw[h1];exact if_pos ⟨rfl,h2⟩
 unfold ansA;by_cases k0:b0<128
 ·rw[if_neg (by omega),if_neg (by omega),if_neg (by omega),if_neg (by omega)];rw[if_pos k0] at hD;rw[good _ _ hD (by omega)];rfl
 rw[if_neg k0] at hD;by_cases k1:b0<192
 ·rw[if_neg (by omega),if_neg (by omega),if_neg (by omega),if_pos (by omega)];rw[if_neg (by omega),if_neg (by omega),if_neg (by omega)] at hD;rw[badd hD (by omega)]
 by_cases k2:b0<224
 ·rw[if_neg (by omega),if_neg (by omega),if_pos (by omega)];by_cases c1:n<2
  ·rw[if_neg (by omega),if_neg (by omega),if_neg (by omega)] at hD;rw[if_pos c1,badd hD (by omega)]
  rw[if_neg c1];by_cases c2:b1<128∨191<b1
  ·rw[if_neg (by omega),if_neg (by omega),if_neg (by omega)] at hD;rw[if_pos c2,badd hD (by omega)]
  rw[if_neg c2];rw[if_pos (by omega)] at hD;by_cases c3:128≤b0 % 32*64+b1 % 64
  ·rw[if_pos c3] at hD;rw[good _ _ hD (by omega)];have:=two (64*((b0:Int)-192)+b1-128) (by omega) (by omega);show (if _ then _ else _)=_;rw[if_pos ⟨by omega,this⟩];simp only[Prod.mk.injEq];omega
  ·rw[if_neg c3] at hD;rw[badd hD (by omega)];show (if _ then _ else _)=_;rw[if_neg];intro hh;have:=small (64*((b0:Int)-192)+b1-128) (by omega);omega
 by_cases k3:b0<240
 ·rw[if_neg (by omega),if_pos (by omega)];by_cases c1:n<3
  ·rw[if_neg (by omega),if_neg (by omega),if_neg (by omega)] at hD;rw[if_pos c1,badd hD (by omega)]
  rw[if_neg c1];by_cases c2:b1<128∨191<b1
  ·rw[if_neg (by omega),if_neg (by omega),if_neg (by omega)] at hD;rw[if_pos c2,badd hD (by omega)]
  rw[if_neg c2];by_cases c3:b2<128∨191<b2
  ·rw[if_neg (by omega),if_neg (by omega),if_neg (by omega)] at hD;rw[if_pos c3,badd hD (by omega)]
  rw[if_neg c3];rw[if_neg (by omega),if_pos (by omega)] at hD;have hv:(64*(64*((b0:Int)-224)+b1-128)+b2-128)=((b0 % 16*4096+b1 % 64*64+b2 % 64:Nat):Int):=by omega
  show (if _ then _ else _)=_;rw[hv];obtain ⟨N,hN⟩:∃ N,N=b0 % 16*4096+b1 % 64*64+b2 % 64:=⟨_,rfl⟩;rw[← hN] at hD ⊢;by_cases c4:2048≤N∧(0≤(N:Int)∧(N:Int)<55296∨57344≤(N:Int)∧(N:Int)≤1114111)
  ·rw[if_pos c4] at hD;have h5:=three (N:Int) (by omega) (by omega);rw[good N 3 hD (by omega),if_pos (And.intro (by omega) h5)];exact Prod.ext rfl rfl
  ·rw[if_neg c4] at hD;rw[badd hD (by omega),if_neg];intro hh;by_cases c5:N<128
   ·have:=small (N:Int) (by omega); omega
   by_cases c6:N<2048
   ·have:=two (N:Int) (by omega) (by omega); omega
   ·omega
 ·rw[if_pos (by omega)];by_cases c1:n<4
  ·rw[if_neg (by omega),if_neg (by omega),if_neg (by omega)] at hD;rw[if_pos c1,badd hD (by omega)]
  rw[if_neg c1];by_cases c2:b1<128∨191<b1
  ·rw[if_neg (by omega),if_neg (by omega),if_neg (by omega)] at hD;rw[if_pos c2,badd hD (by omega)]
  rw[if_neg c2];by_cases c3:b2<128∨191<b2
  ·rw[if_neg (by omega),if_neg (by omega),if_neg (by omega)] at hD;rw[if_pos c3,badd hD (by omega)]
  rw[if_neg c3];by_cases c3':b3<128∨191<b3
  ·rw[if_neg (by omega),if_neg (by omega),if_neg (by omega)] at hD;rw[if_pos c3',badd hD (by omega)]
  rw[if_neg c3'];rw[if_neg (by omega),if_neg (by omega)] at hD;have hv:(64*(64*(64*((b0:Int)-240)+b1-128)+b2-128)+b3-128)=(((b0-240)*262144+(b1-128)*4096+(b2-128)*64+(b3-128):Nat):Int):=by omega
  show (if _ then _ else _)=_;rw[hv];by_cases k4:b0<248
  ·rw[if_pos (by omega)] at hD;have hm:b0 % 8*262144+b1 % 64*4096+b2 % 64*64+b3 % 64=(b0-240)*262144+(b1-128)*4096+(b2-128)*64+(b3-128):=by omega
   rw[hm] at hD;obtain ⟨N,hN⟩:∃ N,N=(b0-240)*262144+(b1-128)*4096+(b2-128)*64+(b3-128):=⟨_,rfl⟩;rw[← hN] at hD ⊢;by_cases c4:65536≤N∧(0≤(N:Int)∧(N:Int)<55296∨57344≤(N:Int)∧(N:Int)≤1114111)
   ·rw[if_pos c4] at hD;have h5:=four (N:Int) (by omega);rw[good N 4 hD (by omega),if_pos (And.intro (by omega) h5)];exact Prod.ext rfl rfl
   ·rw[if_neg c4] at hD;rw[badd hD (by omega),if_neg];intro hh;by_cases c5:N<128
    ·have:=small (N:Int) (by omega); omega
    by_cases c6:N<2048
    ·have:=two (N:Int) (by omega) (by omega); omega
    by_cases c7:N<65536
    ·have:=three (N:Int) (by omega) (by omega); omega
    ·omega
  ·rw[if_neg (by omega)] at hD;rw[badd hD (by omega),if_neg];intro hh;omega
def zaga (t:List UInt8) (s:Spot):Prop:=t.length≤4000∧0≤s.at_∧s.at_≤t.length∧1≤s.line∧s.line≤s.at_+1∧1≤s.col∧s.col≤s.at_+1
noncomputable def zaax (t:List UInt8) (l:List Spot) (s:Spot):List Spot×Spot:=Sp.spotsFrom t (t.length-s.at_.toNat) l s
namespace Sp
theorem dl_pos (l:List UInt8) (h:0<l.length):1≤(dl l).2∧(dl l).2≤4∧(dl l).2≤l.length:=by
 unfold dl ct;simp only[Bool.and_eq_true,decide_eq_true_eq];repeat' split
 all_goals simp only
 all_goals omega
theorem ansA_ok (n b0 b1 b2 b3:Nat) (h:b0<256):ansA n b0 b1 b2 b3=(0,0)∨(isRune (ansA n b0 b1 b2 b3).1=true∧long (ansA n b0 b1 b2 b3).1=(ansA n b0 b1 b2 b3).2):=by
 unfold ansA;simp only;by_cases a1:240≤b0
 ·rw[if_pos a1];repeat' split
  all_goals first|exact .inl rfl|(rename_i hc; exact .inr ⟨by simpa only[isRune,decide_eq_true_eq] using hc.1,hc.2⟩)
 rw[if_neg a1];by_cases a2:224≤b0
 ·rw[if_pos a2];repeat' split
  all_goals first|exact .inl rfl|(rename_i hc; exact .inr ⟨by simpa only[isRune,decide_eq_true_eq] using hc.1,hc.2⟩)
 rw[if_neg a2];by_cases a3:192≤b0
 ·rw[if_pos a3];repeat' split
  all_goals first|exact .inl rfl|(rename_i hc; exact .inr ⟨by simpa only[isRune,decide_eq_true_eq] using hc.1,hc.2⟩)
 rw[if_neg a3];by_cases a4:128≤b0
 ·rw[if_pos a4]; exact .inl rfl
 rw[if_neg a4];exact .inr ⟨by simp only[isRune,decide_eq_true_eq]; omega,by unfold long; rw[if_pos (by omega)]⟩
theorem good_at {t:List UInt8} {p:Int} (hp:0≤p) (h:p<t.length) (hb:bad t p.toNat=false):isRune (at1 t p)=true∧long (at1 t p)=at2 t p∧1≤at2 t p∧at2 t p≤4∧p+at2 t p≤t.length ∧
  at1 t p=(dc t p.toNat).1∧at2 t p=(dc t p.toNat).2:=by
 have hl:0<(t.drop p.toNat).length:=by simp; omega
 obtain ⟨h1,h2,h3⟩:=dl_pos _ hl;have h4:=zauh _ hl;rw[← bad_eq,hb,← dc_eq] at h4;rw[← dc_eq] at h1 h2 h3;have hlen:((t.drop p.toNat).length:Int)=t.length-p:=by simp; omega
 unfold at1 at2;rw[hb];simp only[Bool.false_eq_true,if_false] at h4 ⊢;rcases ansA_ok (t.drop p.toNat).length (by_ (t.drop p.toNat) 0) (by_ (t.drop p.toNat) 1) (by_ (t.drop p.toNat) 2) (by_ (t.drop p.toNat) 3) ((t.drop p.toNat).getD 0 0).toNat_lt with h5|⟨h5,h6⟩
 ·rw[h4] at h5;simp only[Prod.mk.injEq] at h5;omega
 ·rw[h4] at h5 h6;exact ⟨h5,h6,by omega,by omega,by omega,by simp⟩
theorem fuel (t:List UInt8):∀ (n m:Nat) (l:List Spot) (s:Spot),0≤s.at_→t.length-s.at_.toNat≤n→t.length-s.at_.toNat≤m→spotsFrom t n l s=spotsFrom t m l s:=by
 intro n;induction n with
 |zero=>
  intro m l s h0 h1 h2;have hc:¬ s.at_<t.length:=by omega
  cases m with
  |zero=>rfl
  |succ m=>simp only[spotsFrom,if_neg hc]
 |succ n ih=>
  intro m l s h0 h1 h2;by_cases hc:s.at_<t.length
  ·cases m with
   |zero=>omega
   |succ m=>
    simp only[spotsFrom,if_pos hc];cases hb:bad t s.at_.toNat with
    |true=>rfl
    |false=>
     simp only[Bool.false_eq_true,if_false];obtain ⟨g1,g2,g3,g4,g5,_⟩:=good_at h0 hc hb;have ha:∀ x:Spot,(on x (at1 t s.at_) (at2 t s.at_)).at_=x.at_+at2 t s.at_:=fun x=>by unfold on; split<;>rfl
     refine ih m _ _ ?_ ?_ ?_<;>rw[ha]<;>simp only<;>omega
  ·cases m with
   |zero=>simp only[spotsFrom,if_neg hc]
   |succ m=>simp only[spotsFrom,if_neg hc]
end Sp
theorem zamb {t:List UInt8} {l:List Spot} {s:Spot} (h:¬ s.at_<t.length):zaax t l s=(l,s):=by
 unfold zaax;cases t.length-s.at_.toNat with
 |zero=>rfl
 |succ n=>simp only[Sp.spotsFrom,if_neg h]
theorem zas0 {t:List UInt8} {l:List Spot} {s:Spot} (hb:Sp.bad t s.at_.toNat=true):zaax t l s=(l,s):=by
 unfold zaax;cases t.length-s.at_.toNat with
 |zero=>rfl
 |succ n=>simp only[Sp.spotsFrom,hb,if_true]; split<;>rfl
def here (t:List UInt8) (s:Spot):Spot:=⟨Sp.at1 t s.at_,s.at_,s.line,s.col⟩
def after (t:List UInt8) (s:Spot):Spot:=Sp.on (here t s) (Sp.at1 t s.at_) (Sp.at2 t s.at_)
theorem zao9 (t:List UInt8) (s:Spot):(after t s).at_=s.at_+Sp.at2 t s.at_:=by
 unfold after Sp.on here;split<;>rfl
theorem zaqs {t:List UInt8} {l:List Spot} {s:Spot} (h0:0≤s.at_) (h:s.at_<t.length) (hb:Sp.bad t s.at_.toNat=false):zaax t l s=zaax t (l++[here t s]) (after t s):=by
 unfold zaax;obtain ⟨n,hn⟩:∃ n,t.length-s.at_.toNat=n+1:=⟨t.length-s.at_.toNat-1,by omega⟩;obtain ⟨g1,g2,g3,g4,g5,_⟩:=Sp.good_at h0 h hb;rw[hn];simp only[Sp.spotsFrom,if_pos h,hb,Bool.false_eq_true,if_false];have ha:=zao9 t s;exact Sp.fuel t _ _ _ _ (by unfold after here at ha; omega) (by unfold after here at ha; omega) (Nat.le_refl _)
theorem zap6 {t:List UInt8} {s:Spot} (h:zaga t s) (hlt:s.at_<t.length) (hb:Sp.bad t s.at_.toNat=false):zaga t (after t s):=by
 obtain ⟨h1,h2,h3,h4,h5,h6,h7⟩:=h;obtain ⟨g1,g2,g3,g4,g5,_⟩:=Sp.good_at h2 hlt hb;unfold zaga after Sp.on here;split<;>simp only<;>omega
theorem zauk (t:List UInt8):∀ (n:Nat) (l:List Spot) (s s':Spot),Sp.ended s=Sp.ended s'→(Sp.spotsFrom t n l s).1=(Sp.spotsFrom t n l s').1∧Sp.ended (Sp.spotsFrom t n l s).2=Sp.ended (Sp.spotsFrom t n l s').2:=by
 intro n l s s' h;obtain ⟨r,a,b,c⟩:=s;obtain ⟨r',a',b',c'⟩:=s';simp only[Sp.ended,Spot.mk.injEq,true_and] at h;obtain ⟨rfl,rfl,rfl⟩:=h;cases n with
 |zero=>exact ⟨rfl,rfl⟩
 |succ n=>
  simp only[Sp.spotsFrom];split
  ·split
   ·exact ⟨rfl,rfl⟩
   ·exact ⟨rfl,rfl⟩
  ·exact ⟨rfl,rfl⟩
theorem zanp (t:List UInt8) (l:List Spot) (r r' a b c:Int):(zaax t l ⟨r,a,b,c⟩).1=(zaax t l ⟨r',a,b,c⟩).1∧(zaax t l ⟨r,a,b,c⟩).2.at_=(zaax t l ⟨r',a,b,c⟩).2.at_ ∧
  (zaax t l ⟨r,a,b,c⟩).2.line=(zaax t l ⟨r',a,b,c⟩).2.line∧(zaax t l ⟨r,a,b,c⟩).2.col=(zaax t l ⟨r',a,b,c⟩).2.col:=by
 have:=zauk t (t.length-a.toNat) l ⟨r,a,b,c⟩ ⟨r',a,b,c⟩ rfl;unfold zaax;obtain ⟨h1,h2⟩:=this;simp only[Sp.ended,Spot.mk.injEq,true_and] at h2;exact ⟨h1,h2.1,h2.2.1,h2.2.2⟩
end Lift.A1P
namespace Lift.A1P
open Go Go.RowKit Lift Go.IntWalk Lift.Fn
theorem zajk {a b:Bool} (h:a=true↔b=true):some a=some b:=by rw[Bool.eq_iff_iff.2 h]
theorem zas9 (r:Int):qaM r=some (Sp.digit r):=by
 rw[qaM,zaaa];unfold qaM_f;simp only[cond_eq_ite];split;all_goals refine zajk ?_
 all_goals simp only[Sp.digit,decide_eq_true_eq,decide_eq_false_iff_not,Bool.false_eq_true,false_iff,Bool.not_eq_true] at *
 all_goals omega
theorem zaxt (r:Int):qaL r=some (Sp.blank r):=by
 rw[qaL,zaaa];unfold qaL_f;simp only[cond_eq_ite];repeat' split
 all_goals refine zajk ?_
 all_goals simp only[Sp.blank,beq_iff_eq,decide_eq_true_eq,decide_eq_false_iff_not,Bool.false_eq_true,false_iff,true_iff,Bool.not_eq_true] at *
 all_goals omega
theorem zaw5 (r:Int):qbb r=some (Sp.isRune r):=by
 rw[qbb,zaaa];unfold qbb_f;simp only[cond_eq_ite];repeat' split
 all_goals refine zajk ?_
 all_goals simp only[Sp.isRune,beq_iff_eq,decide_eq_true_eq,decide_eq_false_iff_not,Bool.false_eq_true,false_iff,true_iff,Bool.not_eq_true] at *
 all_goals omega
theorem zaxf (r:Int):qaQ r=some (Sp.isRune r):=by
 rw[qaQ,zaaa];unfold qaQ_f;simp only[cond_eq_ite];repeat' split
 ·simp only[decide_eq_true_eq] at *;rw[zaw5,i32_in r (by omega)];rfl
 all_goals refine zajk ?_
 all_goals simp only[Sp.isRune,beq_iff_eq,decide_eq_true_eq,decide_eq_false_iff_not,Bool.false_eq_true,false_iff,true_iff,Bool.not_eq_true] at *
 all_goals omega
theorem zawg (r:Int):qaN r=some (Sp.letter r):=by
 rw[qaN,zaaa];unfold qaN_f;simp only[cond_eq_ite,zaxf,Option.bind_some];repeat' split
 all_goals refine zajk ?_
 all_goals simp only[Sp.letter,Sp.isRune,beq_iff_eq,Bool.and_eq_true,decide_eq_true_eq,decide_eq_false_iff_not,Bool.false_eq_true,false_iff,true_iff,Bool.not_eq_true] at *
 all_goals omega
theorem len1 (r:Int) (h:Sp.isRune r=true):qba r=some (Sp.long r):=by
 simp only[Sp.isRune,decide_eq_true_eq] at h;rw[qba,zaaa];unfold qba_f Sp.long;simp only[cond_eq_ite,decide_eq_true_eq];repeat' split
 all_goals first|rfl|omega
theorem zam2 {t:List UInt8} {s:Spot} (h:zaga t s):0≤s.at_∧s.at_≤t.length∧t.length≤4000∧1≤s.line∧s.line≤s.at_+1∧1≤s.col∧s.col≤s.at_+1:=
 ⟨h.2.1,h.2.2.1,h.1,h.2.2.2.1,h.2.2.2.2.1,h.2.2.2.2.2.1,h.2.2.2.2.2.2⟩
theorem goneL (s:List UInt8) (a1 a2 a3 a4:Int):∀ (k n:Nat) (c2 c3 c4:Int) (pos:Nat) (l:List Spot),s.length-c2.toNat≤k→k<n→zaga s ⟨-1,c2,c3,c4⟩→(l.length:Int)≤c2→(pos:Int)=c2 →
  qaP_i4 n s a1 a2 a3 a4 (-1) c2 c3 c4 s pos l=some (if (zaax s l ⟨-1,c2,c3,c4⟩).2.at_<s.length then
   .inl (-1,(zaax s l ⟨-1,c2,c3,c4⟩).2.at_,(zaax s l ⟨-1,c2,c3,c4⟩).2.line,(zaax s l ⟨-1,c2,c3,c4⟩).2.col,(zaax s l ⟨-1,c2,c3,c4⟩).1)
   else .inr (a1,a2,a3,a4,-1,(zaax s l ⟨-1,c2,c3,c4⟩).2.at_,(zaax s l ⟨-1,c2,c3,c4⟩).2.line,(zaax s l ⟨-1,c2,c3,c4⟩).2.col,(zaax s l ⟨-1,c2,c3,c4⟩).1)):=by
 intro k;induction k with
 |zero=>
  intro n c2 c3 c4 pos l hk hn hok hl hp;obtain ⟨n,rfl⟩:∃ q,n=q+1:=⟨n-1,by omega⟩;have:=zam2 hok;simp only at this;have c:¬ c2<s.length:=by omega
  have c':¬ pos<s.length:=by omega
  rw[zamb (s:=⟨-1,c2,c3,c4⟩) c,if_neg c];simp only[qaP_i4,qaP_t4,c',decide_false,cond_false]
 |succ k ih=>
  intro n c2 c3 c4 pos l hk hn hok hl hp;obtain ⟨n,rfl⟩:∃ q,n=q+1:=⟨n-1,by omega⟩;obtain ⟨h2,h3,h1,h4,h5,h6,h7⟩:=zam2 hok;simp only at h2 h3 h4 h5 h6 h7;have hq:pos=c2.toNat:=by omega
  simp only[qaP_i4,qaP_t4];by_cases c:c2<s.length
  ·have hlt:pos<s.length:=by omega
   have hdc:Utf8.decode ⟨s.toArray⟩ pos=Sp.dc s c2.toNat:=by rw[hq]; rfl
   rw[hdc];rw[i64_in ((pos:Int)+3) (by omega)];have hmin:(if (pos:Int)+3<(s.length:Int) then (pos:Int)+3 else (s.length:Int))=(min s.length (c2.toNat+3):Nat):=by
    split<;>omega
   rw[hmin];have hslice:List.drop (Int.toNat (pos:Int)) (List.take (Int.toNat ((min s.length (c2.toNat+3):Nat):Int)) s)=(s.take (min s.length (c2.toNat+3))).drop c2.toNat:=by
    rw[Int.toNat_natCast,Int.toNat_natCast,hq]
   rw[hslice];have hbnd:(decide ((0:Int)≤(pos:Int))&&(decide ((pos:Int)≤(min s.length (c2.toNat+3):Nat))&&decide (((min s.length (c2.toNat+3):Nat):Int)≤(s.length:Int))))=true:=by
    simp only[Bool.and_eq_true,decide_eq_true_eq]; omega
   rw[hbnd];have hbad:Sp.bad s c2.toNat=(decide ((Sp.dc s c2.toNat).1=65533)&&!(((s.take (min s.length (c2.toNat+3))).drop c2.toNat)==[239,191,189])):=rfl;simp only[hlt,decide_true,cond_true];cases hb:Sp.bad s c2.toNat with
   |true=>
    rw[hb] at hbad;have hbad:=hbad.symm;simp only[Bool.and_eq_true,decide_eq_true_eq] at hbad;have e1:(((Sp.dc s c2.toNat).1:Int)==65533)=true:=by rw[beq_iff_eq]; omega
    rw[e1,hbad.2];simp only[cond_true];rw[zas0 (s:=⟨-1,c2,c3,c4⟩) hb,if_pos c]
   |false=>
    obtain ⟨g1,g2,g3,g4,g5,g6,g7⟩:=Sp.good_at h2 c hb;rw[zaqs (s:=⟨-1,c2,c3,c4⟩) h2 c hb];generalize hR:(some (ite ((zaax s (l++[here s ⟨-1,c2,c3,c4⟩]) (after s ⟨-1,c2,c3,c4⟩)).2.at_<(s.length:Int)) _ _):Option _)=R;have hk':=zap6 hok c hb;have haf:=zao9 s ⟨-1,c2,c3,c4⟩;simp only at haf;have hrune:Sp.isRune ((Sp.dc s c2.toNat).1:Int)=true:=by rw[← g6]; exact g1
    have hlong:Sp.long ((Sp.dc s c2.toNat).1:Int)=Sp.at2 s c2:=by rw[← g6]; exact g2
    have hr:(0:Int)≤(Sp.dc s c2.toNat).1∧((Sp.dc s c2.toNat).1:Int)≤1114111:=by
     simp only[Sp.isRune,decide_eq_true_eq] at hrune; omega
    rw[len1 _ hrune,hlong,Option.bind_some];rw[i64_in ((Sp.dc s c2.toNat).1:Int) (by omega),i64_in (c2+Sp.at2 s c2) (by omega),i64_in (c3+1) (by omega),i64_in (c4+1) (by omega)];have hhere:here s ⟨-1,c2,c3,c4⟩=⟨((Sp.dc s c2.toNat).1:Int),c2,c3,c4⟩:=by unfold here; rw[g6]
    have go:∀ (b3 b4:Int),(after s ⟨-1,c2,c3,c4⟩).line=b3→(after s ⟨-1,c2,c3,c4⟩).col=b4 →
      qaP_i4 n s a1 a2 a3 a4 (-1) (c2+Sp.at2 s c2) b3 b4 s (pos+(Sp.dc s c2.toNat).2) (l++[⟨((Sp.dc s c2.toNat).1:Int),c2,c3,c4⟩]) =
       R:=by
     intro b3 b4 e3 e4;rw[← hR];have hk2:zaga s ⟨-1,c2+Sp.at2 s c2,b3,b4⟩:=by
      obtain ⟨q1,q2,q3,q4,q5,q6,q7⟩:=hk';rw[haf] at q2 q3 q5 q7;rw[e3] at q4 q5;rw[e4] at q6 q7;exact ⟨q1,q2,q3,q4,q5,q6,q7⟩
     have heta:after s ⟨-1,c2,c3,c4⟩=⟨(after s ⟨-1,c2,c3,c4⟩).rune,c2+Sp.at2 s c2,b3,b4⟩:=by
      rw[← haf,← e3,← e4]
     rw[ih n _ _ _ _ _ (by omega) (by omega) hk2 (by simp only[List.length_append,List.length_cons,List.length_nil]; omega) (by omega)];rw[hhere,heta];obtain ⟨y1,y2,y3,y4⟩:=zanp s (l++[⟨((Sp.dc s c2.toNat).1:Int),c2,c3,c4⟩]) (-1) (after s ⟨-1,c2,c3,c4⟩).rune (c2+Sp.at2 s c2) b3 b4;rw[y1,y2,y3,y4]
    have main:(bif decide ((List.length l+List.length [Spot.mk ((Sp.dc s c2.toNat).1:Int) c2 c3 c4])*(32:Nat)≤(140737488355328:Nat)∧List.length l+List.length [Spot.mk ((Sp.dc s c2.toNat).1:Int) c2 c3 c4]≤(9223372036854775807:Nat)) then
       bif ((Sp.dc s c2.toNat).1:Int)==(10:Int) then
        qaP_i4 n s a1 a2 a3 a4 (-1) (c2+Sp.at2 s c2) (c3+1) 1 s (pos+(Sp.dc s c2.toNat).2) (l++[⟨((Sp.dc s c2.toNat).1:Int),c2,c3,c4⟩])
       else
        qaP_i4 n s a1 a2 a3 a4 (-1) (c2+Sp.at2 s c2) c3 (c4+1) s (pos+(Sp.dc s c2.toNat).2) (l++[⟨((Sp.dc s c2.toNat).1:Int),c2,c3,c4⟩])
      else none)=R:=by
     have hlen1:((List.length l+List.length [Spot.mk ((Sp.dc s c2.toNat).1:Int) c2 c3 c4])*(32:Nat)≤(140737488355328:Nat)∧List.length l+List.length [Spot.mk ((Sp.dc s c2.toNat).1:Int) c2 c3 c4]≤(9223372036854775807:Nat)):=by
      simp only[List.length_cons,List.length_nil]; omega
     rw[decide_eq_true hlen1,cond_true];cases e10:(((Sp.dc s c2.toNat).1:Int)==10) with
     |true=>
      have:Sp.at1 s c2=10:=by rw[g6]; exact beq_iff_eq.1 e10
      exact go _ _ (by simp[after,here,Sp.on,this]) (by simp[after,here,Sp.on,this])
     |false=>
      have:¬ Sp.at1 s c2=10:=by rw[g6]; exact beq_eq_false_iff_ne.1 e10
      exact go _ _ (by simp[after,here,Sp.on,this]) (by simp[after,here,Sp.on,this])
    cases e1:(((Sp.dc s c2.toNat).1:Int)==65533) with
    |true=>
     rw[hb] at hbad;have e2:decide ((Sp.dc s c2.toNat).1=65533)=true:=by
      have:=beq_iff_eq.1 e1;rw[decide_eq_true_eq]; omega
     rw[e2,Bool.true_and] at hbad;rw[← hbad];simp only[cond_true,cond_false];exact main
    |false=>
     simp only[cond_false];exact main
  ·have hlt:¬ pos<s.length:=by omega
   simp only[hlt,decide_false,cond_false];rw[zamb (s:=⟨-1,c2,c3,c4⟩) c,if_neg c]
theorem gone1 (t:List UInt8) (h:t.length≤4000):qaP t=some (Sp.spots2 t,Sp.spots1 t):=by
 have g:zaax t [] ⟨0,0,1,1⟩=Sp.spotsFrom t t.length [] ⟨0,0,1,1⟩:=rfl;obtain ⟨y1,y2,y3,y4⟩:=zanp t [] (-1) 0 0 1 1;rw[g] at y1 y2 y3 y4;have e2:(⟨-1,(zaax t [] ⟨-1,0,1,1⟩).2.at_,(zaax t [] ⟨-1,0,1,1⟩).2.line,(zaax t [] ⟨-1,0,1,1⟩).2.col⟩:Spot)=Sp.spots2 t:=by
  rw[y2,y3,y4]; rfl
 have e1:(zaax t [] ⟨-1,0,1,1⟩).1=Sp.spots1 t:=y1;rw[qaP,zaaa];unfold qaP_f;rw[qaP_l4,zaaa,goneL t _ _ _ _ t.length fuel 0 1 1 0 [] (by simp) (by unfold fuel; omega) (by unfold zaga; simp only; omega) (by simp) (by simp),Option.bind_some];split
 ·rename_i y heq;split at heq
  ·cases heq;simp only[e1,e2]
  ·cases heq
 ·rename_i y heq;split at heq
  ·cases heq
  ·cases heq;simp only[e1,e2]
theorem zaq4 (t:List UInt8):qaO t=some (Sp.runes2 t,Sp.runes1 t):=by
 rw[qaO,zaaa];unfold qaO_f Sp.runes1 Sp.runes2;simp only[cond_eq_ite,decide_eq_true_eq];by_cases h:4000<t.length
 ·rw[if_pos (show (t.length:Int)>4000 by omega),if_pos h,if_pos h]
 ·rw[if_neg (show ¬ (t.length:Int)>4000 by omega),if_neg h,if_neg h,gone1 t (by omega),Option.bind_some];by_cases h2:(Sp.spots2 t).at_<t.length
  ·rw[if_pos h2,if_pos h2,if_pos h2]
  ·rw[if_neg h2,if_neg h2,if_neg h2]
end Lift.A1P
namespace Lift.A1P
open Go Go.RowKit Lift Go.IntWalk Lift.Fn
theorem zaui (l:List Int):(bytesOf l).length=l.length:=by simp[bytesOf]
def encB (r:Int):List UInt8:=bytesOf (Sp.enc r)
def encs (rs:List Int):List UInt8:=rs.flatMap encB
theorem zabi (r:Int) (rs:List Int):encs (r::rs)=encB r++encs rs:=rfl
theorem zaaw (a b:List Int):encs (a++b)=encs a++encs b:=by simp[encs]
theorem zabr (n:Nat) (h:n<256):(UInt8.ofNat n).toNat=n:=by
 simp[UInt8.toNat_ofNat'];omega
theorem zaev (r:Int):(encB r).length=(Sp.long r).toNat:=by
 unfold encB Sp.enc Sp.long;rw[zaui];repeat' split
 all_goals rfl
theorem by0 (a:UInt8) (l:List UInt8):Sp.by_ (a::l) 0=a.toNat:=rfl
theorem by1 (a b:UInt8) (l:List UInt8):Sp.by_ (a::b::l) 1=b.toNat:=rfl
theorem by2 (a b c:UInt8) (l:List UInt8):Sp.by_ (a::b::c::l) 2=c.toNat:=rfl
theorem by3 (a b c d:UInt8) (l:List UInt8):Sp.by_ (a::b::c::d::l) 3=d.toNat:=rfl
theorem zajy {l:List UInt8} {r k:Nat} (h:Sp.dl l=(r,k)) (h2:r≠65533∨(3≤l.length∧Sp.by_ l 0=239∧Sp.by_ l 1=191∧Sp.by_ l 2=189)):Sp.badl l=false:=by
 unfold Sp.badl;rw[h,Sp.take3];rcases h2 with h2|h2
 ·simp[h2]
 ·simp[h2]
theorem zaut (r:Int) (rest:List UInt8) (h:Sp.isRune r=true):Sp.dl (encB r++rest)=(r.toNat,(Sp.long r).toNat)∧Sp.badl (encB r++rest)=false:=by
 simp only[Sp.isRune,decide_eq_true_eq] at h;by_cases a1:r<128
 ·have e:encB r++rest=UInt8.ofNat r.toNat::rest:=by simp[encB,bytesOf,Sp.enc,a1]
  have hl:(Sp.long r).toNat=1:=by unfold Sp.long; rw[if_pos a1]; rfl
  rw[e,hl];have hd:Sp.dl (UInt8.ofNat r.toNat::rest)=(r.toNat,1):=by
   unfold Sp.dl;rw[by0,zabr _ (by omega),if_pos (by omega)]
  exact ⟨hd,zajy hd (.inl (by omega))⟩
 by_cases a2:r<2048
 ·have e:encB r++rest=UInt8.ofNat (192+r.toNat / 64)::UInt8.ofNat (128+r.toNat % 64)::rest:=by
   unfold encB Sp.enc bytesOf;rw[if_neg a1,if_pos a2];simp only[List.map_cons,List.map_nil,List.cons_append,List.nil_append];rw[show (192+r / 64).toNat=192+r.toNat / 64 by omega,show (128+r % 64).toNat=128+r.toNat % 64 by omega]
  have hl:(Sp.long r).toNat=2:=by unfold Sp.long; rw[if_neg a1,if_pos a2]; rfl
  rw[e,hl];have hd:Sp.dl (UInt8.ofNat (192+r.toNat / 64)::UInt8.ofNat (128+r.toNat % 64)::rest)=(r.toNat,2):=by
   unfold Sp.dl Sp.ct;rw[by0,by1,zabr _ (by omega),zabr _ (by omega)];simp only[List.length_cons,Bool.and_eq_true,decide_eq_true_eq,beq_iff_eq];rw[if_neg (by omega),if_pos (by omega),if_pos (by omega)];rw[show (192+r.toNat / 64) % 32*64+(128+r.toNat % 64) % 64=r.toNat by omega]
  exact ⟨hd,zajy hd (.inl (by omega))⟩
 by_cases a3:r<65536
 ·have e:encB r++rest=UInt8.ofNat (224+r.toNat / 4096)::UInt8.ofNat (128+r.toNat / 64 % 64)::UInt8.ofNat (128+r.toNat % 64)::rest:=by
   unfold encB Sp.enc bytesOf;rw[if_neg a1,if_neg a2,if_pos a3];simp only[List.map_cons,List.map_nil,List.cons_append,List.nil_append];rw[show (224+r / 4096).toNat=224+r.toNat / 4096 by omega,show (128+r / 64 % 64).toNat=128+r.toNat / 64 % 64 by omega,show (128+r % 64).toNat=128+r.toNat % 64 by omega]
  have hl:(Sp.long r).toNat=3:=by unfold Sp.long; rw[if_neg a1,if_neg a2,if_pos a3]; rfl
  rw[e,hl];have hd:Sp.dl (UInt8.ofNat (224+r.toNat / 4096)::UInt8.ofNat (128+r.toNat / 64 % 64)::UInt8.ofNat (128+r.toNat % 64)::rest)=(r.toNat,3):=by
   unfold Sp.dl Sp.ct;rw[by0,by1,by2,zabr _ (by omega),zabr _ (by omega),zabr _ (by omega)];simp only[List.length_cons,Bool.and_eq_true,decide_eq_true_eq,beq_iff_eq,zagx,ge_iff_le];have hv:(224+r.toNat / 4096) % 16*4096+(128+r.toNat / 64 % 64) % 64*64+(128+r.toNat % 64) % 64=r.toNat:=by omega
   rw[hv,if_neg (by omega),if_neg (by omega),if_pos (by omega),if_pos (by omega)]
  refine ⟨hd,zajy hd ?_⟩;simp only[List.length_cons,by0,by1,by2];rw[zabr _ (by omega),zabr _ (by omega),zabr _ (by omega)];omega
 ·have e:encB r++rest=UInt8.ofNat (240+r.toNat / 262144)::UInt8.ofNat (128+r.toNat / 4096 % 64)::UInt8.ofNat (128+r.toNat / 64 % 64)::UInt8.ofNat (128+r.toNat % 64)::rest:=by
   unfold encB Sp.enc bytesOf;rw[if_neg a1,if_neg a2,if_neg a3];simp only[List.map_cons,List.map_nil,List.cons_append,List.nil_append];rw[show (240+r / 262144).toNat=240+r.toNat / 262144 by omega,show (128+r / 4096 % 64).toNat=128+r.toNat / 4096 % 64 by omega,show (128+r / 64 % 64).toNat=128+r.toNat / 64 % 64 by omega,show (128+r % 64).toNat=128+r.toNat % 64 by omega]
  have hl:(Sp.long r).toNat=4:=by unfold Sp.long; rw[if_neg a1,if_neg a2,if_neg a3]; rfl
  rw[e,hl];have hd:Sp.dl (UInt8.ofNat (240+r.toNat / 262144)::UInt8.ofNat (128+r.toNat / 4096 % 64)::UInt8.ofNat (128+r.toNat / 64 % 64)::UInt8.ofNat (128+r.toNat % 64)::rest)=(r.toNat,4):=by
   unfold Sp.dl Sp.ct;rw[by0,by1,by2,by3,zabr _ (by omega),zabr _ (by omega),zabr _ (by omega),zabr _ (by omega)];simp only[List.length_cons,Bool.and_eq_true,decide_eq_true_eq,beq_iff_eq,zagx,ge_iff_le];have hv:(240+r.toNat / 262144) % 8*262144+(128+r.toNat / 4096 % 64) % 64*4096+(128+r.toNat / 64 % 64) % 64*64+(128+r.toNat % 64) % 64=r.toNat:=by omega
   rw[hv,if_neg (by omega),if_neg (by omega),if_neg (by omega),if_pos (by omega),if_pos (by omega)]
  exact ⟨hd,zajy hd (.inl (by omega))⟩
theorem zack {n:Int} {a:UInt8} (h:n.toNat=a.toNat):UInt8.ofNat n.toNat=a:=by
 rw[h]; simp
theorem zaw0 {l:List UInt8} (h:1<l.length):∃ a b r,l=a::b::r:=by
 match l,h with
 |a::b::r,_=>exact ⟨a,b,r,rfl⟩
theorem zavt {l:List UInt8} (h:2<l.length):∃ a b c r,l=a::b::c::r:=by
 match l,h with
 |a::b::c::r,_=>exact ⟨a,b,c,r,rfl⟩
theorem zawx {l:List UInt8} (h:3<l.length):∃ a b c d r,l=a::b::c::d::r:=by
 match l,h with
 |a::b::c::d::r,_=>exact ⟨a,b,c,d,r,rfl⟩
theorem zavy (l:List UInt8) (hl:l≠[]) (hb:Sp.badl l=false):Sp.isRune ((Sp.dl l).1:Int)=true∧∃ rest,l=encB ((Sp.dl l).1:Int)++rest:=by
 have hlen:0<l.length:=by cases l with|nil=>exact absurd rfl hl|cons _ _=>simp
 have hr:Sp.isRune ((Sp.dl l).1:Int)=true:=by
  have h4:=zauh _ hlen;obtain ⟨h1,h2,h3⟩:=Sp.dl_pos _ hlen;rw[hb] at h4;simp only[Bool.false_eq_true,if_false] at h4;rcases Sp.ansA_ok l.length (Sp.by_ l 0) (Sp.by_ l 1) (Sp.by_ l 2) (Sp.by_ l 3) (l.getD 0 0).toNat_lt with h5|⟨h5,h6⟩
  ·rw[h4] at h5;simp only[Prod.mk.injEq] at h5;omega
  ·rw[h4] at h5;exact h5
 refine ⟨hr,?_⟩;have hg:¬ ((Sp.dl l).1=65533∧¬ (3≤l.length∧Sp.by_ l 0=239∧Sp.by_ l 1=191∧Sp.by_ l 2=189)):=by
  unfold Sp.badl at hb;rw[Sp.take3] at hb;intro hh;simp[hh.1] at hb;exact hh.2 hb
 obtain ⟨D,hD⟩:∃ D,D=Sp.dl l:=⟨_,rfl⟩;rw[← hD] at hg ⊢;unfold Sp.dl Sp.ct at hD;simp only[Bool.and_eq_true,decide_eq_true_eq,beq_iff_eq,zagx,ge_iff_le] at hD;have hb0:Sp.by_ l 0<256:=(l.getD 0 0).toNat_lt;have hb1:Sp.by_ l 1<256:=(l.getD 1 0).toNat_lt;have hb2:Sp.by_ l 2<256:=(l.getD 2 0).toNat_lt;have hb3:Sp.by_ l 3<256:=(l.getD 3 0).toNat_lt;by_cases k0:Sp.by_ l 0<128
 ·rw[if_pos k0] at hD;rw[hD];match l,hlen with
  |a::l,_=>
   rw[by0] at *;refine ⟨l,?_⟩;unfold encB Sp.enc bytesOf;rw[if_pos (by simp only; omega)];simp
 rw[if_neg k0] at hD;by_cases k1:Sp.by_ l 0 / 32=6∧1<l.length∧Sp.by_ l 1 / 64=2
 ·rw[if_pos k1] at hD;by_cases k2:128≤Sp.by_ l 0 % 32*64+Sp.by_ l 1 % 64
  ·rw[if_pos k2] at hD;rw[hD];obtain ⟨a,b,l,rfl⟩:=zaw0 k1.2.1
   next=>
    rw[by0,by1] at *;refine ⟨l,?_⟩;unfold encB Sp.enc bytesOf;rw[if_neg (by simp only; omega),if_pos (by simp only; omega)];simp only[List.map_cons,List.map_nil,List.cons_append,List.nil_append];rw[zack (a:=a) (by omega),zack (a:=b) (by omega)]
  ·rw[if_neg k2] at hD;rw[hD] at hg;have hg':=Classical.byContradiction fun hh=>hg ⟨rfl,hh⟩
   omega
 rw[if_neg k1] at hD;by_cases k2:(Sp.by_ l 0 / 16=14∧1<l.length∧Sp.by_ l 1 / 64=2)∧2<l.length∧Sp.by_ l 2 / 64=2
 ·rw[if_pos k2] at hD;by_cases k3:2048≤Sp.by_ l 0 % 16*4096+Sp.by_ l 1 % 64*64+Sp.by_ l 2 % 64∧(0≤((Sp.by_ l 0 % 16*4096+Sp.by_ l 1 % 64*64+Sp.by_ l 2 % 64:Nat):Int)∧((Sp.by_ l 0 % 16*4096+Sp.by_ l 1 % 64*64+Sp.by_ l 2 % 64:Nat):Int)<55296∨57344≤((Sp.by_ l 0 % 16*4096+Sp.by_ l 1 % 64*64+Sp.by_ l 2 % 64:Nat):Int)∧((Sp.by_ l 0 % 16*4096+Sp.by_ l 1 % 64*64+Sp.by_ l 2 % 64:Nat):Int)≤1114111)
  ·rw[if_pos k3] at hD;rw[hD];obtain ⟨a,b,c,l,rfl⟩:=zavt k2.2.1
   next=>
    rw[by0,by1,by2] at *;refine ⟨l,?_⟩;unfold encB Sp.enc bytesOf;rw[if_neg (by simp only; omega),if_neg (by simp only; omega),if_pos (by simp only; omega)];simp only[List.map_cons,List.map_nil,List.cons_append,List.nil_append];rw[zack (a:=a) (by omega),zack (a:=b) (by omega),zack (a:=c) (by omega)]
  ·rw[if_neg k3] at hD;rw[hD] at hg;have hg':=Classical.byContradiction fun hh=>hg ⟨rfl,hh⟩
   omega
 rw[if_neg k2] at hD;by_cases k3:((Sp.by_ l 0 / 8=30∧1<l.length∧Sp.by_ l 1 / 64=2)∧2<l.length∧Sp.by_ l 2 / 64=2)∧3<l.length∧Sp.by_ l 3 / 64=2
 ·rw[if_pos k3] at hD;by_cases k4:65536≤Sp.by_ l 0 % 8*262144+Sp.by_ l 1 % 64*4096+Sp.by_ l 2 % 64*64+Sp.by_ l 3 % 64∧(0≤((Sp.by_ l 0 % 8*262144+Sp.by_ l 1 % 64*4096+Sp.by_ l 2 % 64*64+Sp.by_ l 3 % 64:Nat):Int)∧((Sp.by_ l 0 % 8*262144+Sp.by_ l 1 % 64*4096+Sp.by_ l 2 % 64*64+Sp.by_ l 3 % 64:Nat):Int)<55296∨57344≤((Sp.by_ l 0 % 8*262144+Sp.by_ l 1 % 64*4096+Sp.by_ l 2 % 64*64+Sp.by_ l 3 % 64:Nat):Int)∧((Sp.by_ l 0 % 8*262144+Sp.by_ l 1 % 64*4096+Sp.by_ l 2 % 64*64+Sp.by_ l 3 % 64:Nat):Int)≤1114111)
  ·rw[if_pos k4] at hD;rw[hD];obtain ⟨a,b,c,d,l,rfl⟩:=zawx k3.2.1
   next=>
    rw[by0,by1,by2,by3] at *;refine ⟨l,?_⟩;unfold encB Sp.enc bytesOf;rw[if_neg (by simp only; omega),if_neg (by simp only; omega),if_neg (by simp only; omega)];simp only[List.map_cons,List.map_nil,List.cons_append,List.nil_append];rw[zack (a:=a) (by omega),zack (a:=b) (by omega),zack (a:=c) (by omega),zack (a:=d) (by omega)]
  ·rw[if_neg k4] at hD;rw[hD] at hg;have hg':=Classical.byContradiction fun hh=>hg ⟨rfl,hh⟩
   omega
 ·rw[if_neg k3] at hD;rw[hD] at hg;have hg':=Classical.byContradiction fun hh=>hg ⟨rfl,hh⟩
  omega
def put:List Int→Spot→List Spot×Spot
 |[],s=>([],s)
 |r::rs,s=>(⟨r,s.at_,s.line,s.col⟩::(put rs (Sp.on ⟨r,s.at_,s.line,s.col⟩ r (Sp.long r))).1,(put rs (Sp.on ⟨r,s.at_,s.line,s.col⟩ r (Sp.long r))).2)
theorem on_at (s:Spot) (r n:Int):(Sp.on s r n).at_=s.at_+n:=by unfold Sp.on; split<;>rfl
theorem zae0 (r:Int):1≤Sp.long r:=by unfold Sp.long; (repeat' split)<;>omega
theorem zaoy:∀ (rs:List Int) (s:Spot),(put rs s).2.at_=s.at_+(encs rs).length
 |[],s=>by simp[put,encs]
 |r::rs,s=>by
  simp only[put];rw[zaoy rs,on_at,zabi,List.length_append,zaev];have:=zae0 r;simp only;omega
theorem zaov (t:List UInt8):∀ (rs:List Int) (n:Nat) (acc:List Spot) (s:Spot) (rest:List UInt8),rs.all Sp.isRune=true→0≤s.at_→t.drop s.at_.toNat=encs rs++rest→(rest=[]∨Sp.badl rest=true) →
  t.length-s.at_.toNat≤n→Sp.spotsFrom t n acc s=(acc++(put rs s).1,(put rs s).2)
 |[],n,acc,s,rest=>by
  intro _ h0 hd hr hn;simp only[encs,List.flatMap_nil,List.nil_append] at hd;simp only[put,List.append_nil];cases n with
  |zero=>rfl
  |succ n=>
   simp only[Sp.spotsFrom];by_cases hc:s.at_<t.length
   ·rw[if_pos hc];have hne:t.drop s.at_.toNat≠[]:=by
     intro hh;have:=congrArg List.length hh;simp at this;omega
    rcases hr with rfl|hr
    ·exact absurd hd hne
    ·rw[if_pos];rw[Sp.bad_eq,hd];exact hr
   ·rw[if_neg hc]
 |r::rs,n,acc,s,rest=>by
  intro ha h0 hd hr hn;simp only[List.all_cons,Bool.and_eq_true] at ha;rw[zabi,List.append_assoc] at hd;obtain ⟨h1,h2⟩:=zaut r (encs rs++rest) ha.1;have hlen:=congrArg List.length hd;have hl:=zae0 r;have hel:=zaev r;simp only[List.length_drop,List.length_append] at hlen;have hc:s.at_<t.length:=by omega
  have hb:Sp.bad t s.at_.toNat=false:=by rw[Sp.bad_eq,hd]; exact h2
  have hr':0≤r:=by
   have:=ha.1;simp only[Sp.isRune,decide_eq_true_eq] at this;exact this.1
  have e1:Sp.at1 t s.at_=r:=by
   unfold Sp.at1;rw[hb,Sp.dc_eq,hd,h1];simp;omega
  have e2:Sp.at2 t s.at_=Sp.long r:=by
   unfold Sp.at2;rw[hb,Sp.dc_eq,hd,h1];simp;omega
  obtain ⟨n,rfl⟩:∃ m,n=m+1:=⟨n-1,by omega⟩;simp only[Sp.spotsFrom,if_pos hc,hb,Bool.false_eq_true,if_false];rw[e1,e2];have hat:=on_at ⟨r,s.at_,s.line,s.col⟩ r (Sp.long r);simp only at hat;rw[zaov t rs n _ _ rest ha.2 (by rw[hat]; omega) ?_ hr (by rw[hat]; omega)]
  ·simp only[put,List.append_assoc,List.cons_append,List.nil_append]
  ·rw[hat,show (s.at_+Sp.long r).toNat=s.at_.toNat+(encB r).length by omega,← List.drop_drop,hd,List.drop_left]
def s0:Spot:=⟨0,0,1,1⟩
theorem zang (rs:List Int) (rest:List UInt8) (ha:rs.all Sp.isRune=true) (hr:rest=[]∨Sp.badl rest=true):Sp.spots1 (encs rs++rest)=(put rs s0).1∧Sp.spots2 (encs rs++rest)=Sp.ended (put rs s0).2:=by
 have:=zaov (encs rs++rest) rs (encs rs++rest).length [] s0 rest ha (by simp[s0]) (by simp[s0]) hr (by omega);unfold Sp.spots1 Sp.spots2;unfold s0 at this ⊢;rw[this];simp
theorem zalj:∀ (n:Nat) (t:List UInt8),t.length≤n→∃ rs rest,t=encs rs++rest∧rs.all Sp.isRune=true∧(rest=[]∨Sp.badl rest=true)
 |0,t,h=>⟨[],[],by cases t<;>simp_all[encs],rfl,.inl rfl⟩
 |n+1,t,h=>by
  by_cases h0:t=[]
  ·exact ⟨[],[],by simp[h0,encs],rfl,.inl rfl⟩
  cases hb:Sp.badl t with
  |true=>exact ⟨[],t,by simp[encs],rfl,.inr hb⟩
  |false=>
   obtain ⟨h1,rest,h2⟩:=zavy t h0 hb;have hl:=zaev ((Sp.dl t).1:Int);have hp:=zae0 ((Sp.dl t).1:Int);have hlen:rest.length≤n:=by
    have:=congrArg List.length h2;rw[List.length_append] at this;omega
   obtain ⟨rs,r2,h3,h4,h5⟩:=zalj n rest hlen;refine ⟨((Sp.dl t).1:Int)::rs,r2,?_,?_,h5⟩
   ·rw[zabi,List.append_assoc,← h3]; exact h2
   ·simp[h1,h4]
theorem zaoz (s:Spot):(Sp.ended s).at_=s.at_:=rfl
theorem zao0 (rs:List Int) (ha:rs.all Sp.isRune=true) (hl:(encs rs).length≤4000):Sp.runes1 (encs rs)=(put rs s0).1∧Sp.runes2 (encs rs)=⟨0,0,[]⟩:=by
 obtain ⟨h1,h2⟩:=zang rs [] ha (.inl rfl);rw[List.append_nil] at h1 h2;have h3:=zaoy rs s0;unfold Sp.runes1 Sp.runes2;rw[h1,h2,zaoz,h3];have h5:¬ (s0.at_+((encs rs).length:Int)<(encs rs).length):=by simp[s0]
 have h4:¬ 4000<(encs rs).length:=by omega
 simp only[if_neg h4,if_neg h5,and_self]
theorem zas8 (rs:List Int) (rest:List UInt8) (ha:rs.all Sp.isRune=true) (hne:rest≠[]) (hb:Sp.badl rest=true) (hl:(encs rs++rest).length≤4000):Sp.runes1 (encs rs++rest)=[]∧Sp.runes2 (encs rs++rest)=⟨11,(encs rs).length,[]⟩:=by
 obtain ⟨h1,h2⟩:=zang rs rest ha (.inr hb);have h3:=zaoy rs s0;have hpos:0<rest.length:=by cases rest with|nil=>exact absurd rfl hne|cons _ _=>simp
 unfold Sp.runes1 Sp.runes2;rw[h2,zaoz,h3];have h5:(s0.at_+((encs rs).length:Int)<(encs rs++rest).length):=by simp[s0]; omega
 have h4:¬ 4000<(encs rs++rest).length:=by omega
 simp only[if_neg h4,if_pos h5];simp[s0]
theorem zaqi (t:List UInt8):(Sp.runes1 t=[]∧Sp.runes2 t=⟨10,4000,[]⟩) ∨
  (t.length≤4000∧∃ rs rest,t=encs rs++rest∧rs.all Sp.isRune=true∧rest≠[]∧Sp.badl rest=true∧Sp.runes1 t=[]∧Sp.runes2 t=⟨11,(encs rs).length,[]⟩) ∨
  (t.length≤4000∧∃ rs,t=encs rs∧rs.all Sp.isRune=true∧Sp.runes1 t=(put rs s0).1∧Sp.runes2 t=⟨0,0,[]⟩):=by
 by_cases h:4000<t.length
 ·left;unfold Sp.runes1 Sp.runes2;rw[if_pos h,if_pos h];exact ⟨rfl,rfl⟩
 right;obtain ⟨rs,rest,h1,h2,h3⟩:=zalj t.length t (Nat.le_refl _);by_cases h0:rest=[]
 ·right;subst h0;rw[List.append_nil] at h1;subst h1;obtain ⟨q1,q2⟩:=zao0 rs h2 (by omega);exact ⟨by omega,rs,rfl,h2,q1,q2⟩
 ·left;have hb:Sp.badl rest=true:=by rcases h3 with h3|h3; exact absurd h3 h0; exact h3
  subst h1;obtain ⟨q1,q2⟩:=zas8 rs rest h2 h0 hb (by omega);exact ⟨by omega,rs,rest,rfl,h2,h0,hb,q1,q2⟩
end Lift.A1P
namespace Lift.A1P
open Go Go.RowKit Lift Go.IntWalk Lift.Fn
def goesR (r:Int):Bool:=Sp.letter r||Sp.digit r
theorem goes1 (r:Int) (h:0≤r∧r≤1114111):qaA r=some (goesR r):=by
 rw[qaA,zaaa];unfold qaA_f goesR;rw[i64_in r (by omega),zawg,zas9,Option.bind_some,Option.bind_some];cases Sp.letter r<;>rfl
theorem zaft {r:Int} (h:Sp.isRune r=true):0≤r∧r≤1114111:=by
 simp only[Sp.isRune,decide_eq_true_eq] at h;omega
theorem zal7 (t:List UInt8) (p:Nat) (r:Int) (l:List UInt8) (hd:t.drop p=encB r++l) (hr:Sp.isRune r=true):Utf8.decode ⟨t.toArray⟩ p=(r.toNat,(Sp.long r).toNat):=by
 have h1:=Sp.dc_eq t p;unfold Sp.dc at h1;rw[h1,hd];exact (zaut r l hr).1
theorem zafi (ds rs:List Int):(encs (ds++rs)).drop (encs ds).length=encs rs:=by
 rw[zaaw,List.drop_left]
theorem zagf (ds rs:List Int) (r:Int):(encs ds).length<(encs (ds++r::rs)).length:=by
 rw[zaaw,zabi,List.length_append,List.length_append,zaev];have:=zae0 r;omega
theorem zak8 (ds:List Int) (r:Int):(encs (ds++[r])).length=(encs ds).length+(Sp.long r).toNat:=by
 rw[zaaw,zabi,List.length_append,List.length_append,zaev];simp[encs]
theorem wordL:∀ (rs ds:List Int) (n:Nat),rs.all Sp.isRune=true→rs.length<n→(encs (ds++rs)).length≤9000000 →
  qaF_i2 n (encs (ds++rs)) (encs (ds++rs)) (encs ds).length=some (if rs.all goesR then .inr (encs (ds++rs)) else .inl (encs (ds++rs.takeWhile goesR)))
 |[],ds,n,_,hn,hl=>by
  obtain ⟨n,rfl⟩:∃ q,n=q+1:=⟨n-1,by simp at hn; omega⟩;simp only[List.append_nil,qaF_i2,qaF_t2];simp
 |r::rs,ds,n,ha,hn,hl=>by
  obtain ⟨n,rfl⟩:∃ q,n=q+1:=⟨n-1,by simp at hn; omega⟩;simp only[List.all_cons,Bool.and_eq_true] at ha;have hlt:=zagf ds rs r;have hd:Utf8.decode ⟨(encs (ds++r::rs)).toArray⟩ (encs ds).length=(r.toNat,(Sp.long r).toNat):=zal7 _ _ r (encs rs) (by rw[zafi,zabi]) ha.1;have hr:=zaft ha.1;simp only[qaF_i2,qaF_t2,hd,hlt,decide_true,cond_true];rw[show ((r.toNat:Nat):Int)=r by omega,goes1 r hr,Option.bind_some];cases hg:goesR r with
  |false=>
   have hb:(decide ((0:Int)≤0)&&(decide ((0:Int)≤((encs ds).length:Int))&&decide (((encs ds).length:Int)≤((encs (ds++r::rs)).length:Int))))=true:=by
    simp only[Bool.and_eq_true,decide_eq_true_eq]; omega
   simp only[Bool.not_false,cond_true,hb,List.all_cons,hg,Bool.false_and,Bool.false_eq_true,if_false,List.takeWhile_cons,List.append_nil,List.drop_zero,Int.toNat_natCast];rw[zaaw,List.take_left]
  |true=>
   have ih:=wordL rs (ds++[r]) n ha.2 (by simp at hn; omega) (by simpa using hl);rw[List.append_assoc,List.singleton_append,zak8] at ih;simp only[Bool.not_true,cond_false,ih,List.all_cons,hg,Bool.true_and,List.takeWhile_cons,if_true,List.append_assoc,List.singleton_append]
theorem zavg {p:Int→Bool} {l:List Int} (h:l.all p=true):l.takeWhile p=l:=by
 induction l with
 |nil=>rfl
 |cons a l ih=>
  simp only[List.all_cons,Bool.and_eq_true] at h;rw[List.takeWhile_cons,if_pos h.1,ih h.2]
theorem zadm (rs:List Int):rs.length≤(encs rs).length:=by
 induction rs with
 |nil=>simp
 |cons r l ih=>
  rw[zabi,List.length_append,zaev,List.length_cons];have:=zae0 r;omega
theorem word1 (rs:List Int) (ha:rs.all Sp.isRune=true) (hl:(encs rs).length≤9000000):qaF (encs rs)=some (encs (rs.takeWhile goesR)):=by
 rw[qaF,zaaa];unfold qaF_f;have:=wordL rs [] fuel ha (by have:=zadm rs; unfold fuel; omega) (by simpa using hl);simp only[List.nil_append] at this;rw[qaF_l2,zaaa,show (0:Nat)=(encs []).length from rfl,this];cases hg:rs.all goesR with
 |true=>simp only[if_true,Option.bind_some,zavg hg]
 |false=>simp
def skip:Bool→List Int→List Int
 |_,[]=>[]
 |true,r::rs=>skip (r != 10) rs
 |false,r::rs=>if r=35 then skip true rs else if Sp.blank r then skip false rs else r::rs
theorem zars:∀ (rs ds:List Int) (c:Bool) (n:Nat),rs.all Sp.isRune=true→rs.length<n →
  qaC_i3 n (encs (ds++rs)) c (encs (ds++rs)) (encs ds).length=some (if skip c rs=[] then .inr (encs (ds++rs)) else .inl (((encs (ds++rs)).length:Int)-(encs (skip c rs)).length))
 |[],ds,c,n,_,hn=>by
  obtain ⟨n,rfl⟩:∃ q,n=q+1:=⟨n-1,by simp at hn; omega⟩;simp only[List.append_nil,qaC_i3,qaC_t3];cases c<;>simp[skip]
 |r::rs,ds,c,n,ha,hn=>by
  obtain ⟨n,rfl⟩:∃ q,n=q+1:=⟨n-1,by simp at hn; omega⟩;simp only[List.all_cons,Bool.and_eq_true] at ha;have hlt:=zagf ds rs r;have hd:Utf8.decode ⟨(encs (ds++r::rs)).toArray⟩ (encs ds).length=(r.toNat,(Sp.long r).toNat):=zal7 _ _ r (encs rs) (by rw[zafi,zabi]) ha.1;have hr:=zaft ha.1;have ih:=fun c=>zars rs (ds++[r]) c n ha.2 (by simp at hn; omega)
  simp only[List.append_assoc,List.singleton_append,zak8] at ih;simp only[qaC_i3,qaC_t3,hd,hlt,decide_true,cond_true];rw[show ((r.toNat:Nat):Int)=r by omega];cases c with
  |true=>
   rw[cond_true,ih];rfl
  |false=>
   rw[cond_false];by_cases h35:r=35
   ·have:(r==35)=true:=by simp[h35]
    rw[this,cond_true,ih];simp only[skip,h35,if_true]
   ·have:(r==35)=false:=by simp[h35]
    rw[this,cond_false,i64_in r (by omega),zaxt,Option.bind_some];cases hb:Sp.blank r with
    |true=>
     simp only[Bool.not_true,cond_false,ih,skip,h35,if_false,hb,if_true]
    |false=>
     have hne:skip false (r::rs)=r::rs:=by simp[skip,h35,hb]
     rw[hne];simp only[Bool.not_false,cond_true,if_neg (List.cons_ne_nil r rs)];congr 2;rw[zaaw,List.length_append];omega
theorem zara (rs:List Int) (ha:rs.all Sp.isRune=true) (hl:(encs rs).length≤9000000):qaC (encs rs)=some (((encs rs).length:Int)-(encs (skip false rs)).length):=by
 rw[qaC,zaaa];unfold qaC_f;have:=zars rs [] false fuel ha (by have:=zadm rs; unfold fuel; omega);simp only[List.nil_append] at this;rw[qaC_l3,zaaa,show (0:Nat)=(encs []).length from rfl,this];by_cases hs:skip false rs=[]
 ·rw[if_pos hs,hs]; simp[encs]
 ·rw[if_neg hs]; simp
theorem zaxl (l:List (List UInt8)) (x:List UInt8) (hl:l.length≤4000):∀ (k n:Nat) (i:Int),0≤i→l.length-i.toNat≤k→k<n →
  ∃ r,qaU_i2 n l x l.length i=some r∧((l.drop i.toNat).contains x=match r with|.inl j=>decide (0≤j)|.inr _=>false):=by
 intro k;have fin:∀ (n:Nat) (i:Int),0≤i→¬ i<l.length→∃ r,qaU_i2 (n+1) l x l.length i=some r∧((l.drop i.toNat).contains x=match r with|.inl j=>decide (0≤j)|.inr _=>false):=by
  intro n i h0 c;refine ⟨.inr (),?_,?_⟩
  ·simp only[qaU_i2,qaU_t2,c,decide_false,cond_false]
  ·rw[List.drop_eq_nil_of_le (by omega)]; rfl
 induction k with
 |zero=>
  intro n i h0 hk hn;obtain ⟨n,rfl⟩:∃ q,n=q+1:=⟨n-1,by omega⟩;exact fin n i h0 (by omega)
 |succ k ih=>
  intro n i h0 hk hn;obtain ⟨n,rfl⟩:∃ q,n=q+1:=⟨n-1,by omega⟩;by_cases c:i<l.length
  ·have ha:i.toNat<l.length:=by omega
   rw[List.drop_eq_getElem_cons ha];simp only[qaU_i2,qaU_t2,c,h0,decide_true,cond_true,List.getElem?_eq_getElem ha,Option.bind_some,List.contains_cons];cases hx:(x==l[i.toNat]) with
   |true=>exact ⟨.inl i,rfl,by simp[h0]⟩
   |false=>
    rw[i64_in (i+1) (by omega)];obtain ⟨r,h1,h2⟩:=ih n (i+1) (by omega) (by omega) (by omega);refine ⟨r,h1,?_⟩;rw[show (i+1).toNat=i.toNat+1 by omega] at h2;rw[Bool.false_or,h2]
  ·exact fin n i h0 c
theorem zam8 (l:List (List UInt8)) (x:List UInt8) (hl:l.length≤4000):qaT l x=some (l.contains x):=by
 obtain ⟨r,h1,h2⟩:=zaxl l x hl l.length fuel 0 (by omega) (by omega) (by unfold fuel; omega);simp only[Int.toNat_zero,List.drop_zero] at h2;rw[qaT,zaaa];unfold qaT_f;rw[qaU,zaaa];unfold qaU_f;rw[qaU_l2,zaaa,h1,h2];cases r with
 |inl j=>simp
 |inr u=>simp
def ones:List UInt8:=[61,60,62,33,43,45,42,47,37,59,123,125,40,41]
def twos:List (List UInt8):=[[58,61],[60,45],[61,61],[33,61],[60,61],[62,61],[38,38],[124,124]]
def sgn (t:List UInt8):List UInt8:=if 1<t.length∧twos.contains (t.take 2)=true then t.take 2 else if ones.contains (t.headD 0)=true then t.take 1 else []
theorem zavo:∀ i:Fin 256,Lib.contains ones [UInt8.ofNat i.val]=ones.contains (UInt8.ofNat i.val):=by decide +kernel
theorem zavq (b:UInt8):Lib.contains ones [b]=ones.contains b:=by
 have:=zavo ⟨b.toNat,b.toNat_lt⟩;simpa using this
theorem sign1 (b:UInt8) (t:List UInt8) (hl:(b::t).length≤9000000):qaD (b::t)=some (sgn (b::t)):=by
 rw[qaD,zaaa];unfold qaD_f;have ht:List.take 1 (b::t)=[b]:=rfl;have hc:strings_Contains ones [b]=some (ones.contains b):=by
  rw[strings_Contains,zaaa];unfold zadk;rw[decide_eq_true (by decide),cond_true,zavq]
 have hc':strings_Contains [61,60,62,33,43,45,42,47,37,59,123,125,40,41] [b]=some (ones.contains b):=hc;have b1:(decide ((0:Int)≤0)&&(decide ((0:Int)≤1)&&decide ((1:Int)≤((b::t).length:Int))))=true:=by
  simp only[Bool.and_eq_true,decide_eq_true_eq,List.length_cons]; omega
 simp only[List.drop_zero,ht,b1,cond_true,hc',Option.bind_some];unfold sgn;by_cases h1:1<(b::t).length
 ·have h1':decide (((b::t).length:Int)>1)=true:=decide_eq_true (by omega);have b2:(decide ((0:Int)≤0)&&(decide ((0:Int)≤2)&&decide ((2:Int)≤((b::t).length:Int))))=true:=by
   simp only[Bool.and_eq_true,decide_eq_true_eq]; omega
  have hc2:=zam8 twos ((b::t).take 2) (by decide);have hc2':qaT [[58,61],[60,45],[61,61],[33,61],[60,61],[62,61],[38,38],[124,124]] ((b::t).take 2)=some (twos.contains ((b::t).take 2)):=hc2;rw[h1',cond_true,b2,cond_true,hc2',Option.bind_some];cases h2:twos.contains ((b::t).take 2) with
  |true=>rw[if_pos ⟨h1,rfl⟩]; rfl
  |false=>
   rw[if_neg (fun hh=>by cases hh.2)];cases h3:ones.contains b with
   |true=>simp only[List.headD_cons,h3,if_true]; rfl
   |false=>simp only[List.headD_cons,h3,Bool.false_eq_true,if_false]; rfl
 ·have h1':decide (((b::t).length:Int)>1)=false:=decide_eq_false (by omega);rw[h1',cond_false,if_neg (fun hh=>h1 hh.1)];cases h3:ones.contains b with
  |true=>simp only[List.headD_cons,h3,if_true]; rfl
  |false=>simp only[List.headD_cons,h3,Bool.false_eq_true,if_false]; rfl
end Lift.A1P
namespace Lift.A1P
open Go Go.RowKit Lift Go.IntWalk Lift.Fn
def tens:List UInt8:=[48,49,50,51,52,53,54,55,56,57]
def numS (t:List UInt8):Int×Bool:=
 if 1<t.length∧(t.headD 0).toNat=48 then (0,false) else if Lib.trimS t tens≠[] then (0,false) else if (zabz t).2=true then ((zabz t).1,false) else ((zabz t).1,decide ((zabz t).1≤2147483647))
theorem zawh (t:List UInt8) (hl:t.length≤9000000):qaB t=some (numS t):=by
 rw[qaB,zaaa];unfold qaB_f numS;have hT:zacx t [48,49,50,51,52,53,54,55,56,57]=some (Lib.trimS t tens):=by
  rw[zacx,zaaa];unfold zae3;rw[decide_eq_true (show _∧_ by constructor; omega; decide)];rfl
 have hA:zacv t=some (zabz t):=by
  rw[zacv,zaaa];unfold zaeu;rw[decide_eq_true (by omega)];rfl
 have rest:(bif !Lib.trimS t tens==[] then some ((0:Int),false) else bif !(zabz t).2 then some ((zabz t).1,decide ((zabz t).1≤2147483647)) else some ((zabz t).1,false)) =
   some (if Lib.trimS t tens≠[] then (0,false) else if (zabz t).2=true then ((zabz t).1,false) else ((zabz t).1,decide ((zabz t).1≤2147483647))):=by
  by_cases h:Lib.trimS t tens=[]
  ·rw[if_neg (fun hh=>hh h),h];cases (zabz t).2<;>rfl
  ·rw[if_pos h];have:(Lib.trimS t tens==[])=false:=by simpa using h
   rw[this]; rfl
 rw[hT,hA];by_cases h1:1<t.length
 ·rw[decide_eq_true (show (t.length:Int)>1 by omega),cond_true];match t,h1 with
  |b::t,h1=>
   simp only[List.getElem?_cons_zero,Option.bind_some];by_cases h2:b.toNat=48
   ·have:(((b.toNat:Nat):Int)==48)=true:=by rw[beq_iff_eq]; omega
    rw[this,cond_true,if_pos (show 1<(b::t).length∧((b::t).headD 0).toNat=48 from ⟨h1,h2⟩)]
   ·have:(((b.toNat:Nat):Int)==48)=false:=by rw[beq_eq_false_iff_ne]; omega
    rw[this,cond_false,if_neg (show ¬ (1<(b::t).length∧((b::t).headD 0).toNat=48) from fun hh=>h2 hh.2)];exact rest
 ·rw[decide_eq_false (show ¬ (t.length:Int)>1 by omega),cond_false,if_neg (show ¬ (1<t.length∧(t.headD 0).toNat=48) from fun hh=>h1 hh.1)];simp only[Option.bind_some];exact rest
theorem zaw1:qaz=qaz_f:=by rw[qaz,zaaa]
noncomputable def words:List (List UInt8):=qaz_f.getD []
theorem zavk:qaz=some words:=by rw[zaw1]; rfl
theorem zat8:∀ (rs ds:List Int) (n:Nat),rs.all Sp.isRune=true→rs.length≤n→Lib.runeCountFrom ⟨(encs (ds++rs)).toArray⟩ n (encs ds).length=rs.length
 |[],ds,n,_,_=>by
  cases n with
  |zero=>rfl
  |succ n=>simp[Lib.runeCountFrom,ByteArray.size]
 |r::rs,ds,n,ha,hn=>by
  obtain ⟨n,rfl⟩:∃ q,n=q+1:=⟨n-1,by simp at hn; omega⟩;simp only[List.all_cons,Bool.and_eq_true] at ha;have hlt:=zagf ds rs r;have hd:Utf8.decode ⟨(encs (ds++r::rs)).toArray⟩ (encs ds).length=(r.toNat,(Sp.long r).toNat):=zal7 _ _ r (encs rs) (by rw[zafi,zabi]) ha.1;have ih:=zat8 rs (ds++[r]) n ha.2 (by simp at hn; omega);simp only[List.append_assoc,List.singleton_append,zak8] at ih;simp only[Lib.runeCountFrom,hd];rw[if_pos (by simpa [ByteArray.size] using hlt),ih,List.length_cons];omega
theorem zaw3 (rs:List Int) (ha:rs.all Sp.isRune=true) (hl:(encs rs).length≤9000000):zaa2 (encs rs)=some (rs.length:Int):=by
 rw[zaa2,zaaa];unfold zabo Lib.runeCount;rw[decide_eq_true (by omega),cond_true];have:=zat8 rs [] (encs rs).length ha (zadm rs);simp only[List.nil_append] at this;have hs:(⟨(encs rs).toArray⟩:ByteArray).size=(encs rs).length:=by simp[ByteArray.size]
 rw[hs,show (0:Nat)=(encs []).length from rfl,this]
theorem zawk (r:Int) (rs:List Int) (hr:Sp.isRune r=true):zaa0 (encs (r::rs))=some (r,Sp.long r):=by
 rw[zaa0,zaaa];unfold zabm Lib.decodeGo;have hp:=zae0 r;have hs:¬ (⟨(encs (r::rs)).toArray⟩:ByteArray).size=0:=by
  have:=zagf [] rs r;simp only[List.nil_append] at this;simp[ByteArray.size];intro hh;rw[hh] at this;simp at this
 have hd:Utf8.decode ⟨(encs (r::rs)).toArray⟩ 0=(r.toNat,(Sp.long r).toNat):=zal7 _ 0 r (encs rs) (by rw[List.drop_zero,zabi]) hr;have h0:=zaft hr;rw[if_neg hs,hd];simp only;rw[show ((r.toNat:Nat):Int)=r by omega,show (((Sp.long r).toNat:Nat):Int)=Sp.long r by omega]
noncomputable def tokR (rs:List Int):Token×Int:=
  bif goesR (rs.headD 0) then
    (bif Sp.digit (rs.headD 0) then (bif (numS (encs (rs.takeWhile goesR))).2 then (⟨2,encs (rs.takeWhile goesR),(numS (encs (rs.takeWhile goesR))).1,0⟩,0) else (⟨1,encs (rs.takeWhile goesR),0,0⟩,22))
     else bif words.contains (encs (rs.takeWhile goesR)) then (⟨4,encs (rs.takeWhile goesR),0,0⟩,0)
     else bif decide (16<(rs.takeWhile goesR).length) then (⟨1,encs (rs.takeWhile goesR),0,0⟩,21) else (⟨1,encs (rs.takeWhile goesR),0,0⟩,0))
  else bif sgn (encs rs)==[] then (⟨0,[],0,0⟩,20) else (⟨3,sgn (encs rs),0,0⟩,0)
theorem zaob {p:Int→Bool} {rs:List Int} (ha:rs.all Sp.isRune=true):(rs.takeWhile p).all Sp.isRune=true:=by
 rw[List.all_eq_true] at ha ⊢;intro r hr;exact ha r ((List.takeWhile_sublist _).subset hr)
theorem zavu (p:Int→Bool) (rs:List Int):(encs (rs.takeWhile p)).length≤(encs rs).length:=by
 have:encs rs=encs (rs.takeWhile p)++encs (rs.dropWhile p):=by rw[← zaaw,List.takeWhile_append_dropWhile]
 rw[this,List.length_append];omega
theorem zaw8 (rs:List Int) (hne:rs≠[]) (ha:rs.all Sp.isRune=true) (hl:(encs rs).length≤9000000):qaE (encs rs)=some (tokR rs):=by
 match rs,hne with
 |r::rs,_=>
  have ha':=ha;simp only[List.all_cons,Bool.and_eq_true] at ha';have hr:=zaft ha'.1;have hw:=word1 (r::rs) ha hl;have hwl:=zavu goesR (r::rs);rw[qaE,zaaa];unfold qaE_f tokR;rw[zawk r rs ha'.1,Option.bind_some];simp only;rw[goes1 r hr,Option.bind_some];simp only[List.headD_cons];cases hg:goesR r with
  |false=>
   obtain ⟨b,t,hbt⟩:∃ b t,encs (r::rs)=b::t:=by
    cases he:encs (r::rs) with
    |nil=>
     have:=zagf [] rs r;simp only[List.nil_append,he] at this;simp[encs] at this
    |cons b t=>exact ⟨b,t,rfl⟩
   have hs:=sign1 b t (by rw[← hbt]; exact hl);rw[← hbt] at hs;simp only[Bool.not_false,cond_true,cond_false,hs,Option.bind_some];cases (sgn (encs (r::rs))==[])<;>rfl
  |true=>
   simp only[Bool.not_true,cond_false,cond_true,hw,Option.bind_some];rw[i64_in r (by omega),zas9,Option.bind_some];cases hd:Sp.digit r with
   |true=>
    rw[cond_true,cond_true,zawh _ (by omega),Option.bind_some];cases (numS (encs ((r::rs).takeWhile goesR))).2<;>rfl
   |false=>
    rw[cond_false,cond_false,zavk,Option.bind_some,zam8 _ _ (by decide),Option.bind_some];cases words.contains (encs ((r::rs).takeWhile goesR)) with
    |true=>rfl
    |false=>
     rw[cond_false,cond_false,zaw3 _ (zaob ha) (by omega),Option.bind_some];have:decide ((((r::rs).takeWhile goesR).length:Int)>16)=decide (16<((r::rs).takeWhile goesR).length):=by
      rw[Bool.eq_iff_iff,decide_eq_true_eq,decide_eq_true_eq]; omega
     rw[this];cases decide (16<((r::rs).takeWhile goesR).length)<;>rfl
noncomputable def restR (rs:List Int):List Int:=bif goesR (rs.headD 0) then rs.dropWhile goesR else rs.drop (sgn (encs rs)).length
theorem zaid {r:Int} {rs:List Int} {b:UInt8} {t:List UInt8} (hr:Sp.isRune r=true) (h:encs (r::rs)=b::t) (hb:b.toNat<128):encB r=[b]∧t=encs rs:=by
 rw[zabi] at h;simp only[Sp.isRune,decide_eq_true_eq] at hr;by_cases a1:r<128
 ·have e:encB r=[UInt8.ofNat r.toNat]:=by simp[encB,bytesOf,Sp.enc,a1]
  rw[e] at h ⊢;simp only[List.singleton_append,List.cons.injEq] at h;exact ⟨by rw[h.1],h.2.symm⟩
 ·exfalso;have hh:∀ x l,encB r=UInt8.ofNat x::l→128≤x→x<256→False:=by
   intro x l he h1 h2;rw[he,List.cons_append,List.cons.injEq] at h;have:=congrArg UInt8.toNat h.1;rw[zabr _ h2] at this;omega
  unfold encB Sp.enc bytesOf at hh;rw[if_neg a1] at hh;by_cases a2:r<2048
  ·rw[if_pos a2] at hh;exact hh _ _ rfl (by omega) (by omega)
  ·rw[if_neg a2] at hh;by_cases a3:r<65536
   ·rw[if_pos a3] at hh;exact hh _ _ rfl (by omega) (by omega)
   ·rw[if_neg a3] at hh;exact hh _ _ rfl (by omega) (by omega)
end Lift.A1P
namespace Lift.A1P
open Go Go.RowKit Lift Go.IntWalk Lift.Fn
theorem zacm:∀ (l:List Int) (c:Bool),∃ ds,l=ds++skip c l
 |[],c=>⟨[],by cases c<;>rfl⟩
 |r::l,true=>by
  obtain ⟨ds,h⟩:=zacm l (r != 10);exact ⟨r::ds,by simp only[skip,List.cons_append]; rw[← h]⟩
 |r::l,false=>by
  simp only[skip];split
  ·obtain ⟨ds,h⟩:=zacm l true;exact ⟨r::ds,by rw[List.cons_append,← h]⟩
  ·split
   ·obtain ⟨ds,h⟩:=zacm l false;exact ⟨r::ds,by rw[List.cons_append,← h]⟩
   ·exact ⟨[],rfl⟩
theorem zav8:∀ x∈twos,x.length=2∧x.all (fun b=>decide (b.toNat<128))=true:=by decide
theorem zawr:∀ b∈ones,b.toNat<128:=by decide
theorem zaxh (r:Int) (rs:List Int):∃ b t,encs (r::rs)=b::t:=by
 cases he:encs (r::rs) with
 |nil=>
  have:=zagf [] rs r;simp only[List.nil_append,he] at this;simp[encs] at this
 |cons b t=>exact ⟨b,t,rfl⟩
theorem zas4 (r:Int) (rs:List Int) (ha:(r::rs).all Sp.isRune=true) (h:sgn (encs (r::rs))≠[]):encs ((r::rs).take (sgn (encs (r::rs))).length)=sgn (encs (r::rs))∧0<(sgn (encs (r::rs))).length:=by
 refine ⟨?_,List.length_pos_iff.2 h⟩;simp only[List.all_cons,Bool.and_eq_true] at ha;obtain ⟨b,t,hbt⟩:=zaxh r rs;rw[hbt] at h ⊢;unfold sgn at h ⊢;by_cases h1:1<(b::t).length∧twos.contains ((b::t).take 2)=true
 ·rw[if_pos h1];have hm:(b::t).take 2∈twos:=by simpa using h1.2
  obtain ⟨hl,hall⟩:=zav8 _ hm;match t,hl with
  |c::t,_=>
   simp only[List.take_succ_cons,List.take_zero,List.all_cons,List.all_nil,Bool.and_true,Bool.and_eq_true,decide_eq_true_eq] at hall;obtain ⟨e1,e2⟩:=zaid ha.1 hbt hall.1;match rs,ha.2,e2 with
   |[],_,e2=>simp[encs] at e2
   |r2::rs,ha2,e2=>
    simp only[List.all_cons,Bool.and_eq_true] at ha2;obtain ⟨e3,_⟩:=zaid ha2.1 e2.symm hall.2;show encs [r,r2]=[b,c];rw[zabi,zabi,e1,e3];rfl
 ·rw[if_neg h1] at h ⊢;by_cases h2:ones.contains ((b::t).headD 0)=true
  ·rw[if_pos h2];have hb:b∈ones:=by simpa using h2
   obtain ⟨e1,_⟩:=zaid ha.1 hbt (zawr b hb);show encs [r]=[b];rw[zabi,e1];rfl
  ·rw[if_neg h2] at h;exact absurd rfl h
theorem zala (r:Int) (rs:List Int) (ha:(r::rs).all Sp.isRune=true) (h0:(tokR (r::rs)).2=0):∃ ds,ds≠[]∧r::rs=ds++restR (r::rs)∧encs ds=(tokR (r::rs)).1.text:=by
 unfold tokR at h0 ⊢;unfold restR;simp only[List.headD_cons] at h0 ⊢;cases hg:goesR r with
 |true=>
  refine ⟨(r::rs).takeWhile goesR,by simp[hg],(List.takeWhile_append_dropWhile).symm,?_⟩;simp only[cond_true];cases Sp.digit r with
  |true=>
   cases (numS (encs ((r::rs).takeWhile goesR))).2<;>rfl
  |false=>
   cases words.contains (encs ((r::rs).takeWhile goesR)) with
   |true=>rfl
   |false=>cases decide (16<((r::rs).takeWhile goesR).length)<;>rfl
 |false=>
  rw[hg] at h0;simp only[cond_false] at h0 ⊢;cases hs:(sgn (encs (r::rs))==[]) with
  |true=>rw[hs] at h0; simp at h0
  |false=>
   have hne:sgn (encs (r::rs))≠[]:=by simpa using hs
   obtain ⟨h1,h2⟩:=zas4 r rs ha hne;refine ⟨(r::rs).take (sgn (encs (r::rs))).length,?_,(List.take_append_drop _ _).symm,h1⟩;intro hh;have:=congrArg List.length hh;simp only[List.length_take,List.length_nil,List.length_cons] at this;omega
noncomputable def toks:Nat→Int→List Int→(Int×Int)⊕List Token
 |0,_,_=>.inr []
 |_+1,_,[]=>.inr []
 | n + 1, p, r :: rs => bif (tokR (r :: rs)).2 != 0 then .inl ((tokR (r :: rs)).2, p) else
   match toks n (p+(encs (r::rs)).length-(encs (skip false (restR (r::rs)))).length) (skip false (restR (r::rs))) with
   |.inl e=>.inl e
   |.inr l=>.inr (⟨(tokR (r::rs)).1.kind,(tokR (r::rs)).1.text,(tokR (r::rs)).1.num,p⟩::l)
theorem zaei {ds rs:List Int} (h:(ds++rs).all Sp.isRune=true):rs.all Sp.isRune=true:=by
 rw[List.all_append,Bool.and_eq_true] at h;exact h.2
theorem zawm (a2 a3:Int) (a4:List UInt8):∀ (k n:Nat) (rs ds:List Int) (out:List Token),rs.length≤k→k<n→(ds++rs).all Sp.isRune=true→(encs (ds++rs)).length≤4000→out.length≤(encs ds).length →
  qay_i6 n (encs (ds++rs)) ((encs ds).length:Int) a2 a3 a4 out=some (match toks k ((encs ds).length:Int) rs with|.inl e=>.inl (e.1,e.2,[])|.inr l=>.inr (encs (ds++rs),a2,a3,a4,out++l)):=by
 intro k;have fin:∀ (n k:Nat) (ds:List Int) (out:List Token),qay_i6 (n+1) (encs (ds++[])) ((encs ds).length:Int) a2 a3 a4 out=some (match toks k ((encs ds).length:Int) [] with|.inl e=>.inl (e.1,e.2,[])|.inr l=>.inr (encs (ds++[]),a2,a3,a4,out++l)):=by
  intro n k ds out;have:toks k ((encs ds).length:Int) []=.inr []:=by cases k<;>rfl
  rw[this];simp only[List.append_nil,qay_i6,qay_t6];have:decide (((encs ds).length:Int)<((encs ds).length:Int))=false:=decide_eq_false (by omega);rw[this,cond_false]
 induction k with
 |zero=>
  intro n rs ds out hk hn ha hl ho;obtain ⟨n,rfl⟩:∃ q,n=q+1:=⟨n-1,by omega⟩;match rs,hk with
  |[],_=>exact fin n 0 ds out
 |succ k ih=>
  intro n rs ds out hk hn ha hl ho;obtain ⟨n,rfl⟩:∃ q,n=q+1:=⟨n-1,by omega⟩;match rs,hk,ha,hl with
  |[],_,_,_=>exact fin n (k+1) ds out
  |r::rs,hk,ha,hl=>
   have har:=zaei ha;have hlt:=zagf ds rs r;have hlen:(encs (ds++r::rs)).length=(encs ds).length+(encs (r::rs)).length:=by rw[zaaw,List.length_append]
   simp only[qay_i6,qay_t6];have b0:decide (((encs ds).length:Int)<((encs (ds++r::rs)).length:Int))=true:=decide_eq_true (by omega);have b1:(decide ((0:Int)≤((encs ds).length:Int))&&(decide (((encs ds).length:Int)≤((encs (ds++r::rs)).length:Int))&&decide (((encs (ds++r::rs)).length:Int)≤((encs (ds++r::rs)).length:Int))))=true:=by
    simp only[Bool.and_eq_true,decide_eq_true_eq]; omega
   have hd:List.drop (Int.toNat ((encs ds).length:Int)) (List.take (Int.toNat ((encs (ds++r::rs)).length:Int)) (encs (ds++r::rs)))=encs (r::rs):=by
    rw[Int.toNat_natCast,Int.toNat_natCast,List.take_length,zafi]
   rw[b0,cond_true,b1,cond_true,hd,zaw8 _ (List.cons_ne_nil _ _) har (by omega),Option.bind_some];simp only[toks];cases hc:((tokR (r::rs)).2 != 0) with
   |true=>rfl
   |false=>
    have h0:(tokR (r::rs)).2=0:=by simpa using hc
    obtain ⟨es,hes,hsp,htx⟩:=zala r rs har h0;obtain ⟨fs,hfs⟩:=zacm (restR (r::rs)) false;have hall:((ds++es)++restR (r::rs)).all Sp.isRune=true:=by rw[List.append_assoc,← hsp]; exact ha
    have hres:=zaei hall;have l1:(encs (r::rs)).length=(encs es).length+(encs (restR (r::rs))).length:=by
     conv=>lhs; rw[hsp]
     rw[zaaw,List.length_append]
    have l2:(encs (restR (r::rs))).length=(encs fs).length+(encs (skip false (restR (r::rs)))).length:=by
     conv=>lhs; rw[hfs]
     rw[zaaw,List.length_append]
    have hes1:1≤(encs es).length:=by
     have:=zadm es;have:0<es.length:=List.length_pos_iff.2 hes;omega
    rw[← htx];simp only[cond_false];rw[decide_eq_true (show _∧_ by simp only[List.length_cons,List.length_nil]; omega),cond_true,i64_in (((encs ds).length:Int)+(encs es).length) (by omega)];have b2:(decide ((0:Int)≤((encs ds).length:Int)+(encs es).length)&&(decide (((encs ds).length:Int)+(encs es).length≤((encs (ds++r::rs)).length:Int))&&decide (((encs (ds++r::rs)).length:Int)≤((encs (ds++r::rs)).length:Int))))=true:=by
     simp only[Bool.and_eq_true,decide_eq_true_eq]; omega
    have hd2:List.drop (Int.toNat (((encs ds).length:Int)+(encs es).length)) (List.take (Int.toNat ((encs (ds++r::rs)).length:Int)) (encs (ds++r::rs)))=encs (restR (r::rs)):=by
     have e:ds++r::rs=(ds++es)++restR (r::rs):=by rw[List.append_assoc,← hsp]
     have e2:(((encs ds).length:Int)+(encs es).length).toNat=(encs (ds++es)).length:=by rw[zaaw,List.length_append]; omega
     rw[Int.toNat_natCast,List.take_length,e2,e,zafi]
    rw[b2,cond_true,hd2,zara _ hres (by omega),Option.bind_some];have hat:IntKind.wrap IntKind.i64 (((encs ds).length:Int)+(encs es).length+(((encs (restR (r::rs))).length:Int)-(encs (skip false (restR (r::rs)))).length))=((encs (ds++es++fs)).length:Int):=by
     rw[i64_in _ (by omega),zaaw,zaaw,List.length_append,List.length_append];omega
    have hp:((encs ds).length:Int)+(encs (r::rs)).length-(encs (skip false (restR (r::rs)))).length=((encs (ds++es++fs)).length:Int):=by
     rw[zaaw,zaaw,List.length_append,List.length_append];omega
    have hT:ds++r::rs=(ds++es++fs)++skip false (restR (r::rs)):=by
     rw[List.append_assoc,← hfs,List.append_assoc,← hsp]
    have hk':(skip false (restR (r::rs))).length≤k:=by
     have q1:=congrArg List.length hsp;have q2:=congrArg List.length hfs;have q3:0<es.length:=List.length_pos_iff.2 hes;simp only[List.length_append,List.length_cons] at q1 q2 hk;omega
    rw[hat,hp]
    have:=ih n (skip false (restR (r::rs))) (ds++es++fs) (out++[⟨(tokR (r::rs)).1.kind,encs es,(tokR (r::rs)).1.num,((encs ds).length:Int)⟩]) hk' (by omega) (by rw[← hT]; exact ha) (by rw[← hT]; exact hl) (by
     rw[zaaw,zaaw];simp only[List.length_append,List.length_cons,List.length_nil];omega)
    rw[← hT] at this;rw[this];cases toks k ((encs (ds++es++fs)).length:Int) (skip false (restR (r::rs))) with
    |inl e=>rfl
    |inr l=>simp only[List.append_assoc,List.singleton_append]
theorem zak1:∀ (k:Nat) (p:Int) (rs:List Int),rs.all Sp.isRune=true→∀ l,toks k p rs=.inr l→l.length≤rs.length
 |0,p,rs,_,l,h=>by simp only[toks,Sum.inr.injEq] at h; subst h; simp
 |k+1,p,[],_,l,h=>by simp only[toks,Sum.inr.injEq] at h; subst h; simp
 |k+1,p,r::rs,ha,l,h=>by
  simp only[toks] at h;cases hc:((tokR (r::rs)).2 != 0) with
  |true=>rw[hc] at h; simp at h
  |false=>
   rw[hc] at h;have h0:(tokR (r::rs)).2=0:=by simpa using hc
   obtain ⟨es,hes,hsp,_⟩:=zala r rs ha h0;obtain ⟨fs,hfs⟩:=zacm (restR (r::rs)) false;have q1:=congrArg List.length hsp;have q2:=congrArg List.length hfs;have q3:0<es.length:=List.length_pos_iff.2 hes;simp only[List.length_append,List.length_cons] at q1 q2;simp only[cond_false] at h;have hs:(skip false (restR (r::rs))).all Sp.isRune=true:=zaei (ds:=es++fs) (by rw[List.append_assoc,← hfs,← hsp]; exact ha);split at h
   ·cases h
   ·rename_i l' hl';simp only[Sum.inr.injEq] at h;subst h;have:=zak1 k _ _ hs l' hl';simp only[List.length_cons];omega
theorem zark (rs:List Int) (ha:rs.all Sp.isRune=true) (hl:(encs rs).length≤4000):qay (encs rs)=some (match toks rs.length (((encs rs).length:Int)-(encs (skip false rs)).length) (skip false rs) with
  |.inl e=>(⟨e.1,e.2,[]⟩,[])
  |.inr l=>(⟨0,0,[]⟩,l++[⟨5,[],0,((encs rs).length:Int)⟩])):=by
 obtain ⟨fs,hfs⟩:=zacm rs false;obtain ⟨q1,q2⟩:=zao0 rs ha hl;have hsk:((encs rs).length:Int)-(encs (skip false rs)).length=((encs fs).length:Int):=by
  have:(encs rs).length=(encs fs).length+(encs (skip false rs)).length:=by
   conv=>lhs; rw[hfs]
   rw[zaaw,List.length_append]
  omega
 have hL:=zawm 0 0 [] rs.length fuel (skip false rs) fs [] (by have:=congrArg List.length hfs; rw[List.length_append] at this; omega) (by have:=zadm rs; unfold fuel; omega) (by rw[← hfs]; exact ha) (by rw[← hfs]; exact hl) (by simp);rw[← hfs] at hL;rw[qay,zaaa];unfold qay_f;rw[zaq4,q1,q2,Option.bind_some];simp only[bne_self_eq_false,cond_false];rw[zara rs ha (by omega),Option.bind_some,hsk,qay_l6,zaaa,hL,Option.bind_some];have hlen:=zak1 rs.length ((encs fs).length:Int) (skip false rs) (zaei (ds:=fs) (by rw[← hfs]; exact ha));cases ht:toks rs.length ((encs fs).length:Int) (skip false rs) with
 |inl e=>rfl
 |inr l=>
  have hl2:=hlen l ht;have h3:(skip false rs).length≤rs.length:=by
   have:=congrArg List.length hfs;rw[List.length_append] at this;omega
  have h4:=zadm rs;simp only[List.nil_append];rw[decide_eq_true (show _∧_ by simp only[List.length_cons,List.length_nil]; omega),cond_true]
end Lift.A1P
namespace Lift.A1P
open Go Go.RowKit Lift Go.IntWalk Lift.Fn
end Lift.A1P
namespace Lift.A1P
open Go Go.RowKit Lift Go.IntWalk Lift.Fn
def whole (w:List Int) (t:Token):Prop:=w≠[]∧w.all Sp.isRune=true∧tokR w=(t,0)∧t.text=encs w
end Lift.A1P
namespace Lift.A1P
open Go Go.RowKit Lift Go.IntWalk Lift.Fn
end Lift.A1P
namespace Lift.A1P
open Go Go.RowKit Lift Go.IntWalk Lift.Fn
end Lift.A1P
namespace Lift.A1P
open Go Go.RowKit Lift Go.IntWalk Lift.Fn
end Lift.A1P
namespace Lift.A1P
open Go Go.RowKit Lift Go.IntWalk Lift.Fn
theorem zals (t:List UInt8) (h:(Sp.runes2 t).code≠0):qay t=some (⟨(Sp.runes2 t).code,(Sp.runes2 t).at_,(Sp.runes2 t).name⟩,[]):=by
 rw[qay,zaaa];unfold qay_f;rw[zaq4,Option.bind_some];have:((Sp.runes2 t).code != 0)=true:=by simp[h]
 simp only[this,cond_true]
end Lift.A1P
namespace Lift.A1P
open Go Go.RowKit Lift Go.IntWalk Lift.Fn
end Lift.A1P
namespace Lift.A1P
open Go Go.RowKit Lift Go.IntWalk Lift.Fn
end Lift.A1P
namespace Lift.A1P
open Go Go.RowKit Lift Go.IntWalk Lift.Fn
end Lift.A1P
namespace Lift.A1P
open Go Go.RowKit Lift Go.IntWalk Lift.Fn
theorem tokens_any (t:List UInt8):∃ f l,qay t=some (f,l)∧l.length≤4001:=by
 rcases zaqi t with ⟨h1,h2⟩|⟨h0,rs,rest,_,_,_,_,h1,h2⟩|⟨h0,rs,rfl,ha,h1,h2⟩
 ·rw[zals t (by rw[h2]; decide)]; exact ⟨_,_,rfl,by simp⟩
 ·rw[zals t (by rw[h2]; show (11:Int)≠0; decide)]; exact ⟨_,_,rfl,by simp⟩
 ·rw[zark rs ha h0];have hlr:=zadm rs;have hS:(skip false rs).all Sp.isRune=true:=by
   obtain ⟨fs,hfs⟩:=zacm rs false;exact zaei (ds:=fs) (by rw[← hfs]; exact ha)
  have hsl:(skip false rs).length≤rs.length:=by
   obtain ⟨fs,hfs⟩:=zacm rs false;have:=congrArg List.length hfs;rw[List.length_append] at this;omega
  cases ht:toks rs.length (((encs rs).length:Int)-((encs (skip false rs)).length:Int)) (skip false rs) with
  |inl e=>exact ⟨_,_,rfl,by simp⟩
  |inr l=>
   have:=zak1 _ _ _ hS l ht;exact ⟨_,_,rfl,by rw[List.length_append,List.length_cons,List.length_nil]; omega⟩
end Lift.A1P
namespace Lift.A3
open Go Go.RowKit Lift Go.IntWalk Lift.Fn
set_option linter.unusedVariables false
set_option linter.unusedSimpArgs false
theorem zasc (t:List UInt8):∃ b,qa7 t=some b:=by
 obtain ⟨f,l,e,hl⟩:=Lift.A1P.tokens_any t;rw[qa7,zaaa];unfold qa7_f;rw[e];cases decide (((t.length:Nat):Int)>64) with
 |true=>exact ⟨false,rfl⟩
 |false=>
 simp only[cond_false,Option.bind_some];cases f.code==0 with
 |false=>exact ⟨false,rfl⟩
 |true=>
 match l with
 |[]=>exact ⟨false,rfl⟩
 |[a]=>exact ⟨false,rfl⟩
 |a::b::c::l=>
  have:((((a::b::c::l:List Token).length:Nat):Int)==2)=false:=by
   rw[beq_eq_false_iff_ne]; simp only[List.length_cons]; omega
  rw[this];exact ⟨false,rfl⟩
 |[a,b]=>
  have:((([a,b]:List Token).length:Int)==2)=true:=rfl;simp only[this,cond_true,Option.bind_some];have h2:(decide ((0:Int)≤0)&&decide ((0:Int)<(([a,b]:List Token).length:Int)))=true:=rfl;simp only[h2,cond_true,List.getElem?_cons_zero,Option.bind_some];cases (a.kind==1) with
  |false=>exact ⟨false,rfl⟩
  |true=>exact ⟨a.text==t,rfl⟩
noncomputable def isNm (t:List UInt8):Bool:=(qa7 t).getD false
theorem zahk (t:List UInt8):qa7 t=some (isNm t):=by
 obtain ⟨b,e⟩:=zasc t;rw[isNm,e];rfl
end Lift.A3
namespace Lift.A3
open Go Go.RowKit Lift Go.IntWalk Lift.Fn
set_option linter.unusedVariables false
set_option linter.unusedSimpArgs false
theorem zab8 {α:Type} (c:Bool) (a b:α):(bif c then some a else some b)=some (bif c then a else b):=by cases c<;>rfl
theorem cand (a b:Bool):(bif a then b else false)=(a&&b):=by cases a<;>rfl
theorem cor (a b:Bool):(bif a then true else b)=(a||b):=by cases a<;>rfl
noncomputable def xOk (x:TExpr):Bool:=
 bif x.kind==1 then ((decide (x.num≥0)&&decide (x.num≤2147483647))&&x.name==[])&&((x.args.length:Int)==0)
 else bif x.kind==2 then (isNm x.name&&x.num==0)&&((x.args.length:Int)==0)
 else bif (x.kind==3||x.kind==4) then (((decide (x.kind≥3)&&decide (x.kind≤17))&&((x.args.length:Int)==1))&&x.num==0)&&x.name==[]
 else (((decide (x.kind≥3)&&decide (x.kind≤17))&&((x.args.length:Int)==2))&&x.num==0)&&x.name==[]
theorem zav7 (x:TExpr):qa2 x=some (xOk x):=by
 rw[qa2,zaaa];unfold qa2_f xOk;simp only[zahk,zab8,Option.bind_some,cand,cor]
mutual
noncomputable def eF:TExpr→Bool
 |⟨k,n,m,l⟩=>xOk ⟨k,n,m,l⟩&&eFs l
noncomputable def eFs:List TExpr→Bool
 |[]=>true
 |x::l=>eF x&&eFs l
end
theorem zaq9:∀ l,eFs l=l.all eF
 |[]=>by rw[eFs]; rfl
 |x::l=>by rw[eFs,List.all_cons,zaq9 l]
theorem eF_eq (x:TExpr):eF x=(xOk x&&x.args.all eF):=by cases x; rw[eF,zaq9]
end Lift.A3
namespace Lift.A3
open Go Go.RowKit Lift Go.IntWalk Lift.Fn
set_option linter.unusedVariables false
set_option linter.unusedSimpArgs false
def shs:List (Int×Shape):=(zaap (11:Int) (Shape.mk false false false true true false) (zaap (10:Int) (Shape.mk false false true false true true) (zaap (9:Int) (Shape.mk false false true false false false) (zaap (8:Int) (Shape.mk false true false false false false) (zaap (7:Int) (Shape.mk false true false false false false) (zaap (6:Int) (Shape.mk false true false false false false) (zaap (5:Int) (Shape.mk false true false false false false) (zaap (4:Int) (Shape.mk true true true false false false) (zaap (3:Int) (Shape.mk false true true false false false) (zaap (2:Int) (Shape.mk true true false false false false) (zaap (1:Int) (Shape.mk true false true false false false) [])))))))))))
def shp (k:Int):Shape:=Option.getD (mapAt shs k) (Shape.mk false false false false false false)
def inR (k:Int):Bool:=!(decide (k<1)||decide (k>11))
theorem zav4:qa8=some shs:=by rw[qa8,zaaa]; rfl
theorem zau5 (k:Int):Option.isSome (mapAt shs k)=inR k:=by
 by_cases h:1≤k∧k≤11
 ·obtain ⟨h1,h2⟩:=h;have:k=1∨k=2∨k=3∨k=4∨k=5∨k=6∨k=7∨k=8∨k=9∨k=10∨k=11:=by omega
  rcases this with rfl|rfl|rfl|rfl|rfl|rfl|rfl|rfl|rfl|rfl|rfl<;>decide
 ·have e:inR k=false:=by
   unfold inR;rw[Bool.not_eq_false',Bool.or_eq_true,decide_eq_true_eq,decide_eq_true_eq];omega
  rw[e];have hs:shs=[(1,Shape.mk true false true false false false),(2,Shape.mk true true false false false false),(3,Shape.mk false true true false false false),(4,Shape.mk true true true false false false),(5,Shape.mk false true false false false false),(6,Shape.mk false true false false false false),(7,Shape.mk false true false false false false),(8,Shape.mk false true false false false false),(9,Shape.mk false false true false false false),(10,Shape.mk false false true false true true),(11,Shape.mk false false false true true false)]:=by decide
  have n:∀ c:Int,1≤c→c≤11→(c==k)=false:=by
   intro c h1 h2;rw[beq_eq_false_iff_ne];omega
  rw[hs];unfold mapAt;simp[List.find?_cons,n]
def none_ (x:TExpr):Bool:=((x.kind==0&&x.num==0)&&x.name==[])&&((x.args.length:Int)==0)
noncomputable def isOpt (t:List UInt8) (b:Bool):Bool:=(b&&isNm t)||(!b&&t==[])
theorem is1 (t:List UInt8) (b:Bool):qa6 t b=some (isOpt t b):=by
 rw[qa6,zaaa];unfold qa6_f isOpt;simp only[zahk,zab8,Option.bind_some,cand,cor]
noncomputable def sOk (y:TStmt):Bool:=
 ((((((inR y.kind&&isOpt y.reg (shp y.kind).reg)&&isOpt y.name (shp y.kind).name)&&(((shp y.kind).expr&&y.expr.kind != 0)||(!(shp y.kind).expr&&none_ y.expr))) &&
  (y.count==0||(((shp y.kind).count&&decide (y.count>0))&&decide (y.count≤1000))))&&((shp y.kind).then_||((y.then_.length:Int)==0)))&&((shp y.kind).other||((y.else_.length:Int)==0)))
theorem zawu (y:TStmt):qa9 y=some (sOk y):=by
 rw[qa9,zaaa];unfold qa9_f sOk;simp only[zav4,is1,zab8,Option.bind_some,cand,cor,zau5];rfl
mutual
noncomputable def sF:TStmt→Bool
 |⟨k,r,m,x,c,t,o⟩=>sOk ⟨k,r,m,x,c,t,o⟩&&((if zaaq x then eF x else true)&&(sFs t&&sFs o))
noncomputable def sFs:List TStmt→Bool
 |[]=>true
 |x::l=>sF x&&sFs l
end
theorem sF_eq (y:TStmt):sF y=(sOk y&&((if zaaq y.expr then eF y.expr else true)&&(sFs y.then_&&sFs y.else_))):=by cases y; rw[sF]
noncomputable def evOk:Ev→Bool
 |.s x _=>sOk x
 |.e x _=>xOk x
mutual
theorem evOkE:∀ (x:TExpr) (d:Int),(evE x d).all evOk=eF x
 |⟨k,n,m,l⟩,d=>by rw[evE,List.all_cons,zatz l (d+1),eF]; rfl
theorem zatz:∀ (l:List TExpr) (d:Int),(evEs l d).all evOk=eFs l
 |[],d=>by rw[evEs,eFs]; rfl
 |x::l,d=>by rw[evEs,List.all_append,evOkE x d,zatz l d,eFs]
end
mutual
theorem evOkS:∀ (x:TStmt) (d:Int),(evS x d).all evOk=sF x
 |⟨k,r,m,x,c,t,o⟩,d=>by
  rw[evS,List.all_cons,List.all_append,List.all_append,zalt t (d+1),zalt o (d+1),sF];cases zaaq x with
  |true=>rw[if_pos rfl,if_pos rfl,evOkE]; rfl
  |false=>rw[if_neg (by simp),if_neg (by simp)]; rfl
theorem zalt:∀ (l:List TStmt) (d:Int),(evSs l d).all evOk=sFs l
 |[],d=>by rw[evSs,sFs]; rfl
 |x::l,d=>by rw[evSs,List.all_append,evOkS x d,zalt l d,sFs]
end
theorem zana : ∀ (l : List Ev) (b : Bool), l.foldlM (atEv (fun (x : TStmt) (d : Int) (s : Bool) => qa4 x d s) (fun (x : TExpr) (d : Int) (s : Bool) => qa5 x d s)) b = some (b && l.all evOk)
 |[],b=>by simp
 |e::l,b=>by
  have e1:atEv (fun (x:TStmt) (d:Int) (s:Bool)=>qa4 x d s) (fun (x:TExpr) (d:Int) (s:Bool)=>qa5 x d s) b e=some (b&&evOk e):=by
   cases e with
   |s x d=>show qa4 x d b=_; rw[qa4,zaaa]; unfold qa4_f; simp only[zawd,zawu,zab8,Option.bind_some,cand]; rfl
   |e x d=>show qa5 x d b=_; rw[qa5,zaaa]; unfold qa5_f; simp only[zabd,zav7,zab8,Option.bind_some,cand]; rfl
  rw[List.foldlM_cons,e1];show List.foldlM _ (b&&evOk e) l=_;rw[zana l _,List.all_cons,Bool.and_assoc]
noncomputable def cOk (c:TCell):Bool:=(isNm c.name&&decide (c.init≥-2147483647))&&decide (c.init≤2147483647)
noncomputable def pOk (p:TProg):Bool:=p.cells.all cOk&&(p.mutexes.all isNm&&p.threads.all fun t=>isNm t.name&&sFs t.body)
theorem zanu {α : Type} (f g : α → Bool) : ∀ l : List α, (l.all fun t => f t && g t) = (l.all f && l.all g)
 |[]=>rfl
 |x::l=>by
  rw[List.all_cons,List.all_cons,List.all_cons,zanu f g l];cases f x<;>cases g x<;>cases l.all f<;>rfl
theorem zau1 (p:TProg) (h:nT p.threads≤100000000) (h1:p.cells.length≤100000000) (h2:p.mutexes.length≤100000000):qa3 p=some (pOk p):=by
 rw[qa3,zaaa];unfold qa3_f;have hl:=zafg p.threads
 have e1 := zacj (σ := Bool) p.cells (fun _ _ => True) (fun r s => (p.cells, p.mutexes, p.threads, s && r.all cOk)) (fun m i s => qa3_i3 m p.cells p.cells.length i p.cells p.mutexes p.threads s)
  (fun m i s h0 h hI=>by simp only[qa3_i3,qa3_t3,decide_eq_false h,cond_false,List.all_nil,Bool.and_true])
  (fun m i s y r h0 h hy hm hI=>by
   refine Or.inl ⟨s&&cOk y,trivial,?_,by rw[List.all_cons,Bool.and_assoc]⟩;simp only[qa3_i3,qa3_t3,decide_eq_true h,decide_eq_true h0,hy,Option.bind_some,cond_true,zahk,zab8,cand];rw[i64_in (i+1) (by omega),cOk,Bool.and_assoc,Bool.and_assoc,Bool.and_assoc])
  fuel true (by unfold fuel; omega) trivial
 have e2 := fun s => zacj (σ := Bool) p.mutexes (fun _ _ => True) (fun r s => (p.cells, p.mutexes, p.threads, s && r.all isNm)) (fun m i s => qa3_i8 m p.mutexes p.mutexes.length i p.cells p.mutexes p.threads s)
  (fun m i s h0 h hI=>by simp only[qa3_i8,qa3_t8,decide_eq_false h,cond_false,List.all_nil,Bool.and_true])
  (fun m i s y r h0 h hy hm hI=>by
   refine Or.inl ⟨s&&isNm y,trivial,?_,by rw[List.all_cons,Bool.and_assoc]⟩;simp only[qa3_i8,qa3_t8,decide_eq_true h,decide_eq_true h0,hy,Option.bind_some,cond_true,zahk,zab8,cand];rw[i64_in (i+1) (by omega)])
  fuel s (by unfold fuel; omega) trivial
 have e3 := fun s => zacj (σ := Bool) p.threads (fun _ _ => True) (fun r s => (p.cells, p.mutexes, p.threads, s && r.all fun t => isNm t.name)) (fun m i s => qa3_i13 m p.threads p.threads.length i p.cells p.mutexes p.threads s)
  (fun m i s h0 h hI=>by simp only[qa3_i13,qa3_t13,decide_eq_false h,cond_false,List.all_nil,Bool.and_true])
  (fun m i s y r h0 h hy hm hI=>by
   refine Or.inl ⟨s&&isNm y.name,trivial,?_,by rw[List.all_cons,Bool.and_assoc]⟩;simp only[qa3_i13,qa3_t13,decide_eq_true h,decide_eq_true h0,hy,Option.bind_some,cond_true,zahk,zab8,cand];rw[i64_in (i+1) (by omega)])
  fuel s (by unfold fuel; omega) trivial
 rw[qa3_l3,zaaa,e1,Option.bind_some];simp only;rw[qa3_l8,zaaa,e2,Option.bind_some];simp only;rw[qa3_l13,zaaa,e3,Option.bind_some];simp only[zadw];rw[wP p _ (by omega),zana];have ef:(evP p).all evOk=p.threads.all fun t=>sFs t.body:=by
  unfold evP;generalize p.threads=l;induction l with
  |nil=>rfl
  |cons t l ih=>rw[List.flatMap_cons,List.all_append,ih,List.all_cons,zalt]
 rw[ef,pOk,zanu];cases p.cells.all cOk<;>cases p.mutexes.all isNm<;>cases p.threads.all (fun t=>isNm t.name)<;>cases p.threads.all (fun t=>sFs t.body)<;>rfl
end Lift.A3
namespace Lift.A3
open Go Go.RowKit Lift Go.IntWalk Lift.Fn
set_option linter.unusedVariables false
set_option linter.unusedSimpArgs false
noncomputable def zabh (p:TProg):Int:=
 bif !pOk p then 30 else bif decide (maxEv (evP p) 0>16) then 31 else bif decide ((cT p.threads:Int)>500) then 32 else 0
theorem zaja (p:TProg) (h:nT p.threads≤100000000) (h1:p.cells.length≤100000000) (h2:p.mutexes.length≤100000000):qa1 p=some (zabh p):=by
 rw[qa1,zaaa];unfold qa1_f zabh;rw[zadw,zau1 p h h1 h2,zavz p (by omega),zaup p (by omega)];simp only[Option.bind_some,zab8]
end Lift.A3
namespace Lift.A3
open Go Go.RowKit Lift Go.IntWalk Lift.Fn
set_option linter.unusedVariables false
set_option linter.unusedSimpArgs false
abbrev Nm:=List UInt8
end Lift.A3
namespace Lift.A3
open Go Go.RowKit Lift Go.IntWalk Lift.Fn Lift.A1P
set_option linter.unusedVariables false
set_option linter.unusedSimpArgs false
theorem lexOf (rs:List Int) (t:List UInt8) (l:List Token) (ha:rs.all Sp.isRune=true) (hl:(encs rs).length≤4000) (ht:encs rs=t)
  (hT:toks rs.length (((encs rs).length:Int)-(encs (skip false rs)).length) (skip false rs)=.inr l):qay t=some (⟨0,0,[]⟩,l++[⟨5,[],0,((encs rs).length:Int)⟩]):=by
 have hk:=zark rs ha hl;rw[hT,ht] at hk;rw[hk,ht]
theorem nm_of (rs:List Int) (t:List UInt8) (a:Token) (ha:rs.all Sp.isRune=true) (hl:(encs rs).length≤64) (ht:encs rs=t)
  (hT:toks rs.length (((encs rs).length:Int)-(encs (skip false rs)).length) (skip false rs)=.inr [a]):isNm t=(a.kind==1&&a.text==t):=by
 unfold isNm;rw[qa7,zaaa];unfold qa7_f;rw[decide_eq_false (by rw[← ht]; omega),cond_false,lexOf rs t [a] ha (by omega) ht hT];simp only[Option.bind_some,List.singleton_append];have h2:((([a,⟨5,[],0,((encs rs).length:Int)⟩]:List Token).length:Int)==2)=true:=rfl;have h3:(decide ((0:Int)≤0)&&decide ((0:Int)<(([a,⟨5,[],0,((encs rs).length:Int)⟩]:List Token).length:Int)))=true:=rfl;rw[h2,h3];cases h:(a.kind==1)
 ·simp[h]
 ·simp[h]
theorem nm_x:isNm [120]=true:=(nm_of [120] [120] ⟨1,[120],0,0⟩ (by decide) (by decide +kernel) (by decide +kernel) (by decide +kernel)).trans (by decide)
theorem nm_t:isNm [116]=true:=(nm_of [116] [116] ⟨1,[116],0,0⟩ (by decide) (by decide +kernel) (by decide +kernel) (by decide +kernel)).trans (by decide)
end Lift.A3
namespace Lift.A3
open Go Go.RowKit Lift Go.IntWalk Lift.Fn
set_option linter.unusedVariables false
set_option linter.unusedSimpArgs false
def sy0:TStmt:=TStmt.mk (4:Int) [(114:UInt8)] [(120:UInt8)] (TExpr.mk (5:Int) (0:Int) [] [TExpr.mk (2:Int) (0:Int) [(114:UInt8)] [],TExpr.mk (2:Int) (0:Int) [(113:UInt8)] []]) (0:Int) [] []
def p0 (c:List UInt8):TProg:=TProg.mk [TCell.mk c (0:Int)] [] [TThread.mk [(116:UInt8)] [sy0]]
end Lift.A3
namespace Lift.A9
open Go Go.RowKit Lift Go.IntWalk Lift.Fn Lift.A3
set_option linter.unusedVariables false
set_option linter.unusedSimpArgs false
theorem zagd {α β ρ:Type} (l:List α) (g:α→β) (fin:List β→ρ) (L:Nat→Int→List β→Option ρ)
  (h0:∀ n i s,0≤i→¬ i<(l.length:Int)→L (n+1) i s=some (fin s))
  (h1:∀ n i s x,0≤i→i<(l.length:Int)→l[i.toNat]? = some x→x∈l→s.length<l.length→L (n+1) i s=L n (i+1) (s++[g x]))
  (n:Nat) (hn:l.length<n):L n 0 []=some (fin (l.map g)):=by
 have := zacj (σ := List β) l (fun r s => s.length + r.length = l.length) (fun r s => fin (s ++ r.map g)) L
  (fun m i s h h' _=>by rw[h0 m i s h h',List.map_nil,List.append_nil])
  (fun m i s x r h h' hx hm hI=>by
   have hI':s.length+(x::r).length=l.length:=hI;simp only[List.length_cons] at hI';refine Or.inl ⟨s++[g x],(by show (s++[g x]).length+r.length=l.length; simp only[List.length_append,List.length_cons,List.length_nil]; omega),?_,by simp⟩;exact h1 m i s x h h' hx hm (by omega))
  n [] hn (by simp)
 rw[this];rfl
mutual
def nA:TAct→Nat
 |⟨_,_,_,x,_,t,o⟩=>1+nE x+nAs t+nAs o
def nAs:List TAct→Nat
 |[]=>0
 |x::l=>nA x+nAs l
end
theorem nA_eq (x:TAct):nA x=1+nE x.expr+nAs x.then_+nAs x.else_:=by cases x; simp[nA]
theorem zamn:∀ l:List TAct,l.length≤nAs l
 |[]=>by simp[nAs]
 |x::l=>by have:=zamn l; have:=nA_eq x; simp only[nAs,List.length_cons]; omega
theorem zarp:∀ {l:List TAct} {x:TAct},x∈l→nA x≤nAs l
 |y::l,x,h=>by
  simp only[nAs];cases h with
  |head=>omega
  |tail _ h=>have:=zarp h; omega
def nB:List TBody→Nat
 |[]=>0
 |t::l=>1+nAs t.acts+nB l
theorem zalw:∀ l:List TBody,l.length≤nB l
 |[]=>by simp[nB]
 |x::l=>by have:=zalw l; simp only[nB,List.length_cons]; omega
theorem zatd:∀ {l:List TBody} {x:TBody},x∈l→nAs x.acts<nB l
 |y::l,x,h=>by
  simp only[nB];cases h with
  |head=>omega
  |tail _ h=>have:=zatd h; omega
def atL (l:List (List UInt8)) (i:Int):List UInt8:=bif decide (0≤i)&&decide (i<l.length) then (l[i.toNat]?).getD [] else []
theorem zaur (l:List (List UInt8)) (i:Int):qao l i=some (atL l i):=by
 rw[qao,zaaa];unfold qao_f atL;by_cases h:i<0
 ·have h':¬ (0≤i):=by omega
  simp[h,h']
 ·have h1:0≤i:=by omega
  by_cases h2:i≥(l.length:Int)
  ·have h3:¬ (i<(l.length:Int)):=by omega
   simp only[decide_eq_false h,cond_false,Option.bind_some,decide_eq_true h2,cond_true,decide_eq_true h1,decide_eq_false h3,Bool.true_and]
  ·have h3:i<(l.length:Int):=by omega
   have h4:i.toNat<l.length:=by omega
   simp only[decide_eq_false h,cond_false,Option.bind_some,decide_eq_false h2,cond_true,decide_eq_true h1,decide_eq_true h3,Bool.true_and,List.getElem?_eq_getElem h4,Option.getD_some]
mutual
def nX (n:Namer):TExpr→TExpr
 |⟨k,m,s,l⟩=>bif k==2 then (bif s==[] then ⟨k,0,atL n.regs m,nXs n l⟩ else ⟨k,0,[],nXs n l⟩) else ⟨k,m,s,nXs n l⟩
def nXs (n:Namer):List TExpr→List TExpr
 |[]=>[]
 |x::l=>nX n x::nXs n l
end
theorem zarv (n:Namer):∀ l,nXs n l=l.map (nX n)
 |[]=>by rw[nXs]; rfl
 |x::l=>by rw[nXs,zarv n l]; rfl
theorem nX_eq (n:Namer) (x:TExpr):nX n x=bif x.kind==2 then (bif x.name==[] then ⟨x.kind,0,atL n.regs x.num,x.args.map (nX n)⟩ else ⟨x.kind,0,[],x.args.map (nX n)⟩) else ⟨x.kind,x.num,x.name,x.args.map (nX n)⟩:=by
 cases x; rw[nX,zarv]
def un4 (x:TExpr):Int×Int×List UInt8×List TExpr:=(x.kind,x.num,x.name,x.args)
theorem zat0 (x:TExpr):TExpr.mk (un4 x).1 (un4 x).2.1 (un4 x).2.2.1 (un4 x).2.2.2=x:=by cases x; rfl
theorem zaxo:∀ (k n:Nat) (nm:Namer) (x:TExpr),nE x≤k→k<n→k≤100000000→qaa_i n nm x=some (un4 (nX nm x)):=by
 intro k;induction k with
 |zero=>intro n nm x h; have:=nE_eq x; omega
 |succ k ih=>
  intro n nm x h hn hb;obtain ⟨n,rfl⟩:∃ q,n=q+1:=⟨n-1,by omega⟩;have hx:=nE_eq x;have hl:=zahj x.args
  have e8:∀ (a7 a8:Int) (a9:List UInt8) (a10 a11:Int) (a12:List UInt8),qaa_l8 (qaa_i n) x.args x.args.length 0 nm.cells nm.mutexes nm.threads nm.regs a7 a8 a9 a10 a11 a12 [] =
    some (a7,a8,a9,a10,a11,a12,x.args.map (nX nm)):=by
   intro a7 a8 a9 a10 a11 a12;rw[qaa_l8,zaaa]
   exact zagd x.args (nX nm) (fun s => (a7, a8, a9, a10, a11, a12, s)) (fun m i s => qaa_i8 (qaa_i n) m x.args x.args.length i nm.cells nm.mutexes nm.threads nm.regs a7 a8 a9 a10 a11 a12 s)
    (fun m i s h0 h=>by
     simp only[qaa_i8,qaa_t8,decide_eq_false h,cond_false])
    (fun m i s y h0 h hy hm hs=>by
     have hy1:=zahw hm;simp only[qaa_i8,qaa_t8,decide_eq_true h,decide_eq_true h0,cond_true,hy,Option.bind_some,zabd];rw[show Namer.mk nm.cells nm.mutexes nm.threads nm.regs=nm from rfl,ih n nm y (by omega) (by omega) (by omega),Option.bind_some,i64_in (i+1) (by omega)];simp only[List.length_cons,List.length_nil,zat0];rw[decide_eq_true (by omega),cond_true])
    fuel (by unfold fuel; omega)
  show qaa_f (qaa_i n) nm x=_;unfold qaa_f;simp only[e8,zaur,Option.bind_some];rw[nX_eq];cases h2:x.kind==2 with
  |true=>
   cases h3:x.name==[] with
   |true=>rfl
   |false=>rfl
  |false=>rfl
theorem zaw9 (nm:Namer) (x:TExpr) (h:nE x≤100000000):qaa nm x=some (un4 (nX nm x)):=by
 rw[qaa,zaaa,zaxo (nE x) fuel nm x (Nat.le_refl _) (by unfold fuel; omega) (by omega)]
def hasR (k:Int):Bool:=k==1||k==2||k==4
def needK (k:Int):Int:=bif k==2||k==3||k==4 then 1 else bif k==5||k==6 then 2 else bif k==7||k==8 then 3 else 0
theorem zawa (R:Namer→List TAct→Option (List TStmt)) (k:Int):qau R k=some (hasR k):=by
 rw[qau,zaaa];unfold qau_f hasR;cases k==1<;>cases k==2<;>cases k==4<;>rfl
theorem zauf (k:Int):qav k=some (needK k):=by
 rw[qav,zaaa];unfold qav_f needK;cases k==2<;>cases k==3<;>cases k==4<;>cases k==5<;>cases k==6<;>cases k==7<;>cases k==8<;>rfl
def stK (x:TAct):Int:=bif (!hasR x.kind&&x.reg != 0)||(needK x.kind==0&&x.obj != 0) then 0 else x.kind
def stR (n:Namer) (x:TAct):List UInt8:=bif hasR x.kind then atL n.regs x.reg else []
def stN (n:Namer) (x:TAct):List UInt8:=bif needK x.kind==1 then atL n.cells x.obj else bif needK x.kind==2 then atL n.mutexes x.obj else bif needK x.kind==3 then atL n.threads x.obj else []
mutual
def nSt (n:Namer):TAct→TStmt
 |⟨k,r,o,x,c,t,e⟩=>⟨stK ⟨k,r,o,x,c,t,e⟩,stR n ⟨k,r,o,x,c,t,e⟩,stN n ⟨k,r,o,x,c,t,e⟩,nX n x,c,nSts n t,nSts n e⟩
def nSts (n:Namer):List TAct→List TStmt
 |[]=>[]
 |x::l=>nSt n x::nSts n l
end
theorem zak9 (n:Namer):∀ l,nSts n l=l.map (nSt n)
 |[]=>by rw[nSts]; rfl
 |x::l=>by rw[nSts,zak9 n l]; rfl
theorem zalg (n:Namer) (x:TAct):nSt n x=⟨stK x,stR n x,stN n x,nX n x.expr,x.count,nSts n x.then_,nSts n x.else_⟩:=by
 cases x; rw[nSt]
theorem zaxg:∀ (k n:Nat) (nm:Namer) (l:List TAct),nAs l≤k→k<n→k≤100000000→qab_i n nm l=some (nSts nm l):=by
 intro k;induction k with
 |zero=>
  intro n nm l h hn _;obtain ⟨n,rfl⟩:∃ q,n=q+1:=⟨n-1,by omega⟩;have hl:=zamn l;obtain rfl:l=[]:=List.eq_nil_of_length_eq_zero (by omega);show qab_f (qab_i n) nm []=_;unfold qab_f;rw[qab_l3,zaaa,nSts];rfl
 |succ k ih=>
  intro n nm l h hn hb;obtain ⟨n,rfl⟩:∃ q,n=q+1:=⟨n-1,by omega⟩;have hl:=zamn l;show qab_f (qab_i n) nm l=_;unfold qab_f;rw[qab_l3,zaaa,zak9]
  rw [zagd l (nSt nm) (fun s => s) (fun m i s => qab_i3 (qab_i n) m l l.length i nm.cells nm.mutexes nm.threads nm.regs s)
   (fun m i s h0 h=>by
    simp only[qab_i3,qab_t3,decide_eq_false h,cond_false])
   (fun m i s y h0 h hy hm hs=>by
    have hy1:=zarp hm;have hy2:=nA_eq y;have hsz:∀ st:TStmt,decide ((s.length+[st].length)*152≤140737488355328∧s.length+[st].length≤9223372036854775807)=true:=by
     intro st;rw[List.length_cons,List.length_nil];exact decide_eq_true (by omega)
    simp only[qab_i3,qab_t3,decide_eq_true h,decide_eq_true h0,cond_true,hy,Option.bind_some,zabd];rw[show Namer.mk nm.cells nm.mutexes nm.threads nm.regs=nm from rfl,zaw9 nm y.expr (by omega),ih n nm y.then_ (by omega) (by omega) (by omega),ih n nm y.else_ (by omega) (by omega) (by omega),i64_in (i+1) (by omega)];simp only[Option.bind_some,zawa,zauf,zaur,hsz,cond_true,zat0];rw[zalg,stK,stR,stN];cases hr:hasR y.kind with
    |true=>
     simp only[cond_true,Bool.not_true,Bool.false_and,Bool.false_or];cases e1:needK y.kind==1 with
     |true=>
      have:needK y.kind=1:=by simpa using e1
      simp[this]
     |false=>
     cases e2:needK y.kind==2 with
     |true=>
      have:needK y.kind=2:=by simpa using e2
      simp[this]
     |false=>
     cases e3:needK y.kind==3 with
     |true=>
      have:needK y.kind=3:=by simpa using e3
      simp[this]
     |false=>
      have:needK y.kind=0:=by
       revert e1 e2 e3;unfold needK;cases (y.kind==2||y.kind==3||y.kind==4)<;>cases (y.kind==5||y.kind==6)<;>cases (y.kind==7||y.kind==8)<;>simp
      simp only[this,cond_false];cases y.obj != 0<;>rfl
    |false=>
     simp only[cond_false,Bool.not_false,Bool.true_and];cases hg:y.reg != 0 with
     |true=>
      simp only[cond_true,Bool.true_or];cases e1:needK y.kind==1 with
      |true=>
       have:needK y.kind=1:=by simpa using e1
       simp[this]
      |false=>
      cases e2:needK y.kind==2 with
      |true=>
       have:needK y.kind=2:=by simpa using e2
       simp[this]
      |false=>
      cases e3:needK y.kind==3 with
      |true=>
       have:needK y.kind=3:=by simpa using e3
       simp[this]
      |false=>
       simp only[cond_false];cases y.obj != 0<;>rfl
     |false=>
      simp only[cond_false,Bool.false_or];cases e1:needK y.kind==1 with
      |true=>
       have:needK y.kind=1:=by simpa using e1
       simp[this]
      |false=>
      cases e2:needK y.kind==2 with
      |true=>
       have:needK y.kind=2:=by simpa using e2
       simp[this]
      |false=>
      cases e3:needK y.kind==3 with
      |true=>
       have:needK y.kind=3:=by simpa using e3
       simp[this]
      |false=>
       have:needK y.kind=0:=by
        revert e1 e2 e3;unfold needK;cases (y.kind==2||y.kind==3||y.kind==4)<;>cases (y.kind==5||y.kind==6)<;>cases (y.kind==7||y.kind==8)<;>simp
       simp only[this,cond_false];cases y.obj != 0<;>rfl)
   fuel (by unfold fuel; omega)]
  rfl
theorem zawo (nm:Namer) (l:List TAct) (h:nAs l≤100000000):qab nm l=some (nSts nm l):=by
 rw[qab,zaaa,zaxg (nAs l) fuel nm l (Nat.le_refl _) (by unfold fuel; omega) (by omega)]
end Lift.A9
namespace Lift.A9
open Go Go.RowKit Lift Go.IntWalk Lift.Fn Lift.A3
set_option linter.unusedVariables false
set_option linter.unusedSimpArgs false
theorem zamx:isNm []=false:=by
 unfold isNm;rw[qa7,zaaa];unfold qa7_f;have h:=lexOf [] [] [] (by decide) (by decide +kernel) (by decide +kernel) (by decide +kernel);rw[h];rfl
def xs (n:Nat):List (List UInt8):=List.replicate n [120]
theorem zaus (n i:Nat) (h:i<n):(xs n)[i]? = some [120]:=by
 unfold xs;rw[List.getElem?_replicate,if_pos h]
theorem nm_at (n:Nat) (i:Int):isNm (atL (xs n) i)=(decide (0≤i)&&decide (i<n)):=by
 unfold atL;have hl:(xs n).length=n:=by simp[xs]
 rw[hl];cases h:(decide (0≤i)&&decide (i<(n:Int))) with
 |false=>rw[cond_false,zamx]
 |true=>
  simp only[Bool.and_eq_true,decide_eq_true_eq] at h;rw[cond_true,zaus n i.toNat (by omega),Option.getD_some,nm_x]
def nmU (u:TUnit) (r:Int):Namer:=⟨xs u.cells.length,xs u.mutexes.toNat,xs u.threads.length,xs r.toNat⟩
theorem zahi (n:Namer) (x:TExpr):(nX n x).kind=x.kind:=by
 rw[nX_eq];cases x.kind==2<;>cases x.name==[]<;>rfl
theorem zaju (n:Namer) (x:TExpr):(nX n x).args=x.args.map (nX n):=by
 rw[nX_eq];cases x.kind==2<;>cases x.name==[]<;>rfl
theorem zawn (n:Namer) (x:TExpr):none_ (nX n x)=none_ x:=by
 unfold none_;cases h:x.kind==2 with
 |true=>
  have e:x.kind=2:=eq_of_beq h;rw[zahi,e];rfl
 |false=>
  rw[nX_eq,h,cond_false];simp only[List.length_map]
theorem zavb (n:Namer) (x:TExpr):zaaq (nX n x)=zaaq x:=by
 unfold zaaq;rw[zahi,zaju,List.length_map]
theorem zauj (u:TUnit) (r:Int) (x:TExpr):xOk (nX (nmU u r) x) =
  bif x.kind==1 then ((decide (x.num≥0)&&decide (x.num≤2147483647))&&x.name==[])&&((x.args.length:Int)==0)
  else bif x.kind==2 then ((decide (x.num≥0)&&decide (x.num<r))&&x.name==[])&&((x.args.length:Int)==0)
  else xOk x:=by
 cases h2:x.kind==2 with
 |true=>
  have e:x.kind=2:=eq_of_beq h2;have h1:(x.kind==1)=false:=by rw[e]; rfl
  have h3:(TExpr.kind (nX (nmU u r) x)==1)=false:=by rw[zahi]; exact h1
  have h4:(TExpr.kind (nX (nmU u r) x)==2)=true:=by rw[zahi]; exact h2
  unfold xOk;rw[h3,h4,h1,cond_false,cond_true,cond_false,cond_true,zaju,List.length_map,nX_eq,h2,cond_true];cases hn:x.name==[] with
  |true=>
   rw[cond_true];show ((isNm (atL (xs r.toNat) x.num)&&(0:Int)==0)&&_)=_;rw[nm_at];have:(decide (0≤x.num)&&decide (x.num<((r.toNat:Nat):Int)))=(decide (x.num≥0)&&decide (x.num<r)):=by
    rw[Bool.eq_iff_iff];simp only[Bool.and_eq_true,decide_eq_true_eq];omega
   rw[this];rfl
  |false=>
   rw[cond_false];show ((isNm []&&(0:Int)==0)&&_)=_;rw[zamx];simp
 |false=>
  rw[nX_eq,h2,cond_false,cond_false];unfold xOk;simp only[List.length_map,h2,cond_false];cases x.kind==1<;>rfl
def thN (u:TUnit) (k:Int):Int:=bif k==2||k==3||k==4 then (u.cells.length:Int) else bif k==5||k==6 then u.mutexes else (u.threads.length:Int)
theorem zans {k:Int} (h:inR k=true):k=1∨k=2∨k=3∨k=4∨k=5∨k=6∨k=7∨k=8∨k=9∨k=10∨k=11:=by
 unfold inR at h;simp only[Bool.not_eq_true',Bool.or_eq_false_iff,decide_eq_false_iff_not] at h;omega
theorem zamt {k:Int} (h:inR k=true):(shp k).reg=hasR k:=by
 rcases zans h with rfl|rfl|rfl|rfl|rfl|rfl|rfl|rfl|rfl|rfl|rfl<;>decide
theorem zaoe {k:Int} (h:inR k=true):(shp k).name=(needK k != 0):=by
 rcases zans h with rfl|rfl|rfl|rfl|rfl|rfl|rfl|rfl|rfl|rfl|rfl<;>decide
theorem zaxc (u:TUnit) (r:Int) (x:TAct) (h:(!hasR x.kind&&x.reg != 0)=false) (hk:inR x.kind=true) :
  isOpt (stR (nmU u r) x) (shp x.kind).reg=(((shp x.kind).reg&&!(decide (x.reg<0)||decide (x.reg≥r)))||(!(shp x.kind).reg&&x.reg==0)):=by
 rw[zamt hk];unfold isOpt stR;cases hr:hasR x.kind with
 |true=>
  simp only[cond_true,Bool.true_and,Bool.not_true,Bool.false_and,Bool.or_false];show isNm (atL (xs r.toNat) x.reg)=_;rw[nm_at,Bool.eq_iff_iff];simp only[Bool.and_eq_true,decide_eq_true_eq,Bool.not_eq_true',Bool.or_eq_false_iff,decide_eq_false_iff_not];omega
 |false=>
  rw[hr] at h;simp only[Bool.not_false,Bool.true_and,bne,Bool.not_eq_false'] at h;simp[h]
theorem zaxm (u:TUnit) (r:Int) (x:TAct) (h:(needK x.kind==0&&x.obj != 0)=false) (hk:inR x.kind=true) :
  isOpt (stN (nmU u r) x) (shp x.kind).name=(((shp x.kind).name&&!(decide (x.obj<0)||decide (x.obj≥thN u x.kind)))||(!(shp x.kind).name&&x.obj==0)):=by
 rw[zaoe hk];have key:∀ (n:Nat) (m:Int),(∀ i:Int,0≤i→(i<(n:Int)↔i<m))→isNm (atL (xs n) x.obj)=!(decide (x.obj<0)||decide (x.obj≥m)):=by
  intro n m hm;rw[nm_at,Bool.eq_iff_iff];simp only[Bool.and_eq_true,decide_eq_true_eq,Bool.not_eq_true',Bool.or_eq_false_iff,decide_eq_false_iff_not];constructor
  ·rintro ⟨a,b⟩; have:=(hm x.obj a).1 b; omega
  ·rintro ⟨a,b⟩; have h0:0≤x.obj:=by omega
   exact ⟨h0,(hm x.obj h0).2 (by omega)⟩
 unfold isOpt stN thN;cases e1:(x.kind==2||x.kind==3||x.kind==4) with
 |true=>
  have en:needK x.kind=1:=by unfold needK; rw[e1]; rfl
  rw[en];simp only[cond_true];show (true&&isNm (atL (xs u.cells.length) x.obj)||_)=_;rw[key _ (u.cells.length:Int) (fun i _=>Iff.rfl)];simp
 |false=>
 cases e2:(x.kind==5||x.kind==6) with
 |true=>
  have en:needK x.kind=2:=by unfold needK; rw[e1,e2]; rfl
  rw[en];simp only[cond_true,cond_false];show (true&&isNm (atL (xs u.mutexes.toNat) x.obj)||_)=_;rw[key _ u.mutexes (fun i _=>by omega)];simp
 |false=>
 cases e3:(x.kind==7||x.kind==8) with
 |true=>
  have en:needK x.kind=3:=by unfold needK; rw[e1,e2,e3]; rfl
  rw[en];simp only[cond_true,cond_false];show (true&&isNm (atL (xs u.threads.length) x.obj)||_)=_;rw[key _ (u.threads.length:Int) (fun i _=>Iff.rfl)];simp
 |false=>
  have en:needK x.kind=0:=by unfold needK; rw[e1,e2,e3]; rfl
  rw[en] at h ⊢;simp only[bne,beq_self_eq_true,Bool.true_and,Bool.not_eq_false'] at h;simp[h]
end Lift.A9
namespace Lift.A9
open Go Go.RowKit Lift Go.IntWalk Lift.Fn Lift.A3
set_option linter.unusedVariables false
set_option linter.unusedSimpArgs false
mutual
def plA:TAct→TStmt
 |⟨k,_,_,x,_,t,o⟩=>⟨k,[],[],x,0,plAs t,plAs o⟩
def plAs:List TAct→List TStmt
 |[]=>[]
 |x::l=>plA x::plAs l
end
mutual
theorem nE_nX (n:Namer):∀ x,nE (nX n x)=nE x
 |⟨k,m,s,l⟩=>by
  have h:=zat5 n l;rw[nX];cases k==2<;>cases s==[]<;>simp[nE,h]
theorem zat5 (n:Namer):∀ l,nEs (nXs n l)=nEs l
 |[]=>by rw[nXs]
 |x::l=>by rw[nXs,nEs,nEs,nE_nX n x,zat5 n l]
end
mutual
theorem zat2 (n:Namer):∀ (x:TExpr) (d:Int),(evE (nX n x) d).map evD=(evE x d).map evD
 |⟨k,m,s,l⟩,d=>by
  have h:=zaq5 n l (d+1);rw[nX];cases k==2<;>cases s==[]<;>simp[evE,h,evD]
theorem zaq5 (n:Namer):∀ (l:List TExpr) (d:Int),(evEs (nXs n l) d).map evD=(evEs l d).map evD
 |[],d=>by rw[nXs]
 |x::l,d=>by rw[nXs,evEs,evEs,List.map_append,List.map_append,zat2 n x d,zaq5 n l d]
end
mutual
theorem zaxn (n:Namer):∀ x,nS (nSt n x)=nA x
 |⟨k,r,o,x,c,t,e⟩=>by rw[nSt,nS,nA,nE_nX,zaig n t,zaig n e]
theorem zaig (n:Namer):∀ l,nSs (nSts n l)=nAs l
 |[]=>by rw[nSts,nSs,nAs]
 |x::l=>by rw[nSts,nSs,nAs,zaxn n x,zaig n l]
end
mutual
theorem zawy (n:Namer):∀ (x:TAct) (d:Int),(evS (nSt n x) d).map evD=(evS (plA x) d).map evD
 |⟨k,r,o,x,c,t,e⟩,d=>by
  have h1:=zah4 n t (d+1);have h2:=zah4 n e (d+1);rw[nSt,plA,evS,evS,zavb];have h3:=zat2 n x 1;cases zaaq x<;>simp[h1,h2,h3,evD]
theorem zah4 (n:Namer):∀ (l:List TAct) (d:Int),(evSs (nSts n l) d).map evD=(evSs (plAs l) d).map evD
 |[],d=>by rw[nSts,plAs]
 |x::l,d=>by rw[nSts,plAs,evSs,evSs,List.map_append,List.map_append,zawy n x d,zah4 n l d]
end
theorem zam3 (l:List Ev) (s:Int):maxEv l s=(l.map evD).foldl (fun s d=>max s d) s:=by
 unfold maxEv;rw[List.foldl_map]
theorem zatf {a b:List Ev} (h:a.map evD=b.map evD) (s:Int):maxEv a s=maxEv b s:=by
 rw[zam3,zam3,h]
theorem zaws {a b:List Ev} (h:a.map evD=b.map evD):a.length=b.length:=by
 have:=congrArg List.length h;simpa using this
theorem zarg (l:List (List UInt8)) (h:l.length≤100000000):qaS l=some l:=by
 rw[qaS,zaaa];unfold qaS_f;rw[decide_eq_true (by omega),cond_true,List.nil_append];cases l with
 |nil=>simp[zats]
 |cons a l=>rfl
theorem zapt (l:List (List UInt8)):qaR l=some l:=by
 rw[qaR,zaaa];unfold qaR_f;simp
def zaar (u:TUnit) (n:Names):TProg:=
 ⟨(u.cells.zip n.cells).map fun z=>⟨z.2,z.1⟩,n.mutexes,(u.threads.zip (n.threads.zip n.regs)).map fun z=>⟨z.2.1,nSts ⟨n.cells,n.mutexes,n.threads,z.2.2⟩ z.1.acts⟩⟩
theorem zad9 {α β:Type} {l:List α} {m:List β} {i:Nat} {z:α×β} (h:(l.zip m)[i]? = some z):l[i]? = some z.1∧m[i]? = some z.2:=by
 rw[List.getElem?_zip_eq_some] at h;exact h
theorem zaor (u:TUnit) (n:Names) (h:nB u.threads≤100000000) (hc0:u.cells.length≤100000000) (hm:n.mutexes.length≤100000000) (hc:n.cells.length=u.cells.length) (ht:n.threads.length=u.threads.length) (hr:n.regs.length=u.threads.length) :
  qaw u n=some ((zaar u n).cells,(zaar u n).mutexes,(zaar u n).threads):=by
 rw[qaw,zaaa];unfold qaw_f;have hl:=zalw u.threads;have hz:(u.cells.zip n.cells).length=u.cells.length:=by simp[hc]
 have hz2:(u.threads.zip (n.threads.zip n.regs)).length=u.threads.length:=by simp[ht,hr]
 have e3 := zagd (u.cells.zip n.cells) (fun z => TCell.mk z.2 z.1) (fun s => (u.cells, u.mutexes, u.threads, n.cells, n.mutexes, n.threads, n.regs, s)) (fun m i s => qaw_i3 m u.cells u.cells.length i u.cells u.mutexes u.threads n.cells n.mutexes n.threads n.regs s)
  (fun m i s h0 h=>by
   rw[hz] at h;simp only[qaw_i3,qaw_t3,decide_eq_false h,cond_false])
  (fun m i s z h0 h hy hmz hs=>by
   rw[hz] at h hs;obtain ⟨g1,g2⟩:=zad9 hy;simp only[qaw_i3,qaw_t3,decide_eq_true h,decide_eq_true h0,cond_true,g1,g2,Option.bind_some,List.length_cons,List.length_nil];rw[decide_eq_true (by omega),cond_true,i64_in (i+1) (by omega)])
  fuel (by rw[hz]; unfold fuel; omega)
 have e9 := zagd (u.threads.zip (n.threads.zip n.regs)) (fun z => TThread.mk z.2.1 (nSts ⟨n.cells, n.mutexes, n.threads, z.2.2⟩ z.1.acts)) (fun s => ((zaar u n).cells, n.mutexes, s)) (fun m i s => qaw_i9 m u.threads u.threads.length i n.cells n.mutexes n.threads n.regs (zaar u n).cells n.mutexes s)
  (fun m i s h0 h=>by
   rw[hz2] at h;simp only[qaw_i9,qaw_t9,decide_eq_false h,cond_false])
  (fun m i s z h0 h hy hmz hs=>by
   rw[hz2] at h hs;obtain ⟨g1,g2⟩:=zad9 hy;obtain ⟨g3,g4⟩:=zad9 g2;have hb:=zatd (List.mem_of_getElem? g1);simp only[qaw_i9,qaw_t9,decide_eq_true h,decide_eq_true h0,cond_true,g1,g3,g4,Option.bind_some];rw[zawo _ z.1.acts (by omega),Option.bind_some];simp only[List.length_cons,List.length_nil];rw[decide_eq_true (by omega),cond_true,i64_in (i+1) (by omega)])
  fuel (by rw[hz2]; unfold fuel; omega)
 rw[qaw_l3,zaaa,e3,Option.bind_some];simp only;rw[zarg n.mutexes hm,Option.bind_some,zapt,Option.bind_some,qaw_l9,zaaa];show Option.bind (qaw_i9 fuel u.threads u.threads.length 0 n.cells n.mutexes n.threads n.regs (zaar u n).cells n.mutexes []) _=_;rw[e9];rfl
theorem some1 (n:Int) (h:n≤100000000):qax n=some (xs n.toNat):=by
 rw[qax,zaaa];unfold qax_f
 have e := zagd (List.range n.toNat) (fun _ => ([120] : List UInt8)) (fun s => s) (fun m i s => qax_i3 m n i s)
  (fun m i s h0 h=>by
   have:¬ i<n:=by simp only[List.length_range] at h; omega
   simp only[qax_i3,qax_t3,decide_eq_false this,cond_false])
  (fun m i s z h0 h hy hmz hs=>by
   simp only[List.length_range] at h hs;have:i<n:=by omega
   simp only[qax_i3,qax_t3,decide_eq_true this,cond_true];rw[decide_eq_true (by omega),cond_true,i64_in (i+1) (by omega)])
  fuel (by simp only[List.length_range]; unfold fuel; omega)
 rw[qax_l3,zaaa,e,Option.bind_some,xs,List.map_const',List.length_range]
theorem zatg {α β τ:Type} (l:List α) (ok:α→Bool) (g:α→β) (fin:List β→τ) (L:Nat→Int→List β→Option (Bool⊕τ))
  (h0:∀ n i s,0≤i→¬ i<(l.length:Int)→L (n+1) i s=some (.inr (fin s)))
  (h1:∀ n i s x,0≤i→i<(l.length:Int)→l[i.toNat]? = some x→x∈l→s.length<l.length→L (n+1) i s=bif ok x then L n (i+1) (s++[g x]) else some (.inl false))
  (n:Nat) (hn:l.length<n):L n 0 []=some (bif l.all ok then .inr (fin (l.map g)) else .inl false):=by
 have := zacj (σ := List β) l (fun r s => s.length + r.length = l.length) (fun r s => (bif r.all ok then .inr (fin (s ++ r.map g)) else .inl false : Bool ⊕ τ)) L
  (fun m i s h h' _=>by rw[h0 m i s h h',List.map_nil,List.append_nil]; rfl)
  (fun m i s x r h h' hx hm hI=>by
   have hI':s.length+(x::r).length=l.length:=hI;simp only[List.length_cons] at hI';have h2:=h1 m i s x h h' hx hm (by omega);cases hk:ok x with
   |true=>
    rw[hk,cond_true] at h2;exact Or.inl ⟨s++[g x],(by show (s++[g x]).length+r.length=l.length; simp only[List.length_append,List.length_cons,List.length_nil]; omega),h2,by simp[hk]⟩
   |false=>
    rw[hk,cond_false] at h2;exact Or.inr (by rw[h2,List.all_cons,hk]; rfl))
  n [] hn (by simp)
 rw[this];rfl
def zadd (t:TBody):Bool:=decide (t.regs<0)||decide (t.regs>8)
def zaef (u:TUnit):Bool:=((decide ((u.threads.length:Int)<1)||decide ((u.threads.length:Int)>8))||decide ((u.cells.length:Int)>8))||decide (u.mutexes<0)||decide (u.mutexes>8)
def nmsU (u:TUnit):Names:=⟨xs u.cells.length,xs u.mutexes.toNat,xs u.threads.length,u.threads.map fun t=>xs t.regs.toNat⟩
noncomputable def zadq (u:TUnit):Bool:=bif zaef u then false else bif u.threads.all (fun t=>!zadd t) then zabh (zaar u (nmsU u))==0 else false
theorem zaq7:∀ (u:TUnit) (n:Names),n.threads.length=u.threads.length→n.regs.length=u.threads.length→nT (zaar u n).threads=nB u.threads:=by
 intro u n h1 h2;show nT ((u.threads.zip (n.threads.zip n.regs)).map fun z=>TThread.mk z.2.1 (nSts ⟨n.cells,n.mutexes,n.threads,z.2.2⟩ z.1.acts))=_;have key:∀ (l:List TBody) (m:List ((List UInt8)×List (List UInt8))),m.length=l.length→nT ((l.zip m).map fun z=>TThread.mk z.2.1 (nSts ⟨n.cells,n.mutexes,n.threads,z.2.2⟩ z.1.acts))=nB l:=by
  intro l;induction l with
  |nil=>intro m _; rfl
  |cons a l ih=>
   intro m hm;cases m with
   |nil=>cases hm
   |cons b m=>
    simp only[List.zip_cons_cons,List.map_cons,nT,nB,zaig];rw[ih m (by simpa using hm)]
 exact key _ _ (by simp[h1,h2])
theorem zaie (u:TUnit) (h:nB u.threads≤100000000) (hc:u.cells.length≤100000000):qan u=some (zadq u):=by
 rw[qan,zaaa];unfold qan_f zadq;have hl:=zalw u.threads;simp only[zab8,Option.bind_some,cor];have hbad:(((decide ((u.threads.length:Int)<1)||decide ((u.threads.length:Int)>8))||decide ((u.cells.length:Int)>8))||decide (u.mutexes<0)||decide (u.mutexes>8))=zaef u:=rfl;rw[hbad];cases hu:zaef u with
 |true=>rfl
 |false=>
  simp only[cond_false];unfold zaef at hu;simp only[Bool.or_eq_false_iff,decide_eq_false_iff_not] at hu;obtain ⟨⟨⟨⟨u1,u2⟩,u3⟩,u4⟩,u5⟩:=hu;rw[some1 _ (by omega),some1 _ (by omega),some1 _ (by omega)];simp only[Option.bind_some,Int.toNat_natCast]
  have e5 := zatg u.threads (fun t => !zadd t) (fun t => xs t.regs.toNat) (fun s => (u.cells, u.mutexes, u.threads, xs u.cells.length, xs u.mutexes.toNat, xs u.threads.length, s)) (fun m i s => qan_i5 m u.threads u.threads.length i u.cells u.mutexes u.threads (xs u.cells.length) (xs u.mutexes.toNat) (xs u.threads.length) s)
   (fun m i s h0 h=>by
    simp only[qan_i5,qan_t5,decide_eq_false h,cond_false])
   (fun m i s y h0 h hy hm hs=>by
    simp only[qan_i5,qan_t5,decide_eq_true h,decide_eq_true h0,cond_true,hy,Option.bind_some,zab8,cor];have:(decide (y.regs<0)||decide (y.regs>8))=zadd y:=rfl;rw[this];cases hb:zadd y with
    |true=>rfl
    |false=>
     unfold zadd at hb;simp only[Bool.or_eq_false_iff,decide_eq_false_iff_not] at hb;simp only[cond_false,Bool.not_false,cond_true];rw[some1 _ (by omega),Option.bind_some];simp only[List.length_cons,List.length_nil];rw[decide_eq_true (by omega),cond_true,i64_in (i+1) (by omega)])
   fuel (by unfold fuel; omega)
  rw[qan_l5,zaaa,e5];cases ha:u.threads.all (fun t=>!zadd t) with
  |false=>rfl
  |true=>
   simp only[cond_true,Option.bind_some];have hx:∀ n,(xs n).length=n:=by intro n; simp[xs]
   rw[show TUnit.mk u.cells u.mutexes u.threads=u from rfl,zaor u _ h hc (by simp only[hx]; omega) (by simp only[hx]) (by simp only[hx]) (by simp)];simp only[Option.bind_some];have ht:=zaq7 u (nmsU u) (by simp[nmsU,hx]) (by simp[nmsU]);rw[zadw,zaja _ (by show nT (zaar u (nmsU u)).threads≤_; rw[ht]; exact h) (by simp[zaar,hx]; omega) (by show (xs u.mutexes.toNat).length≤_; rw[hx]; omega)];rfl
end Lift.A9
namespace Lift.A9
open Go Go.RowKit Lift Go.IntWalk Lift.Fn Lift.A3
set_option linter.unusedVariables false
set_option linter.unusedSimpArgs false
abbrev Nm:=List UInt8
def plc (l:List Nm) (s:Nm):Int:=match l.findIdx? (·==s) with
 |some i=>(i:Int)
 |none=>-1
def regM (th:Nm→Bool) (rs:List Nm) (s:Nm):(Int×List Nm)⊕(Int×Nm):=
 bif th s then .inr (65,s) else bif decide (plc rs s<0) then (bif decide (8≤rs.length) then .inr (66,s) else .inl (rs.length,rs++[s])) else .inl (plc rs s,rs)
mutual
def exM (th:Nm→Bool):TExpr→List Nm→(TExpr×List Nm)⊕(Int×Nm)
 |⟨k,n,s,l⟩,rs=>bif k==2 then (match regM th rs s with
   |.inr e=>.inr e
   |.inl y=>match exMs th l y.2 with
    |.inr e=>.inr e
    |.inl z=>.inl (⟨k,y.1,[],z.1⟩,z.2))
  else match exMs th l rs with
   |.inr e=>.inr e
   |.inl z=>.inl (⟨k,n,[],z.1⟩,z.2)
def exMs (th:Nm→Bool):List TExpr→List Nm→(List TExpr×List Nm)⊕(Int×Nm)
 |[],rs=>.inl ([],rs)
 |x::l,rs=>match exM th x rs with
  |.inr e=>.inr e
  |.inl y=>match exMs th l y.2 with
   |.inr e=>.inr e
   |.inl z=>.inl (y.1::z.1,z.2)
end
theorem zamv (s:Nm):plc [] s=-1:=rfl
theorem zatw {l:List Nm} {s:Nm} (L:Nat→Int→Option (Int⊕Unit))
  (h0:∀ n i,0≤i→¬ i<(l.length:Int)→L (n+1) i=some (.inr ()))
  (h1:∀ n i x,0≤i→i<(l.length:Int)→l[i.toNat]? = some x→L (n+1) i=bif x==s then some (.inl i) else L n (i+1)) :
  ∀ (k n:Nat) (i:Nat),l.length-i≤k→k<n→L n (i:Int)=some (match (l.drop i).findIdx? (·==s) with|some j=>.inl ((i+j:Nat):Int)|none=>.inr ()):=by
 intro k;induction k with
 |zero=>
  intro n i hk hn;obtain ⟨n,rfl⟩:∃ q,n=q+1:=⟨n-1,by omega⟩;rw[h0 n i (by omega) (by omega),List.drop_eq_nil_of_le (by omega)];rfl
 |succ k ih=>
  intro n i hk hn;obtain ⟨n,rfl⟩:∃ q,n=q+1:=⟨n-1,by omega⟩;by_cases c:i<l.length
  ·rw[h1 n i l[i] (by omega) (by omega) (by rw[Int.toNat_natCast]; exact List.getElem?_eq_getElem c),List.drop_eq_getElem_cons c,List.findIdx?_cons];cases hx:l[i]==s with
   |true=>rfl
   |false=>
    have:=ih n (i+1) (by omega) (by omega);rw[cond_false,show (i:Int)+1=((i+1:Nat):Int) by omega,this];simp only[Bool.false_eq_true,if_false];cases (l.drop (i+1)).findIdx? (·==s) with
    |none=>rfl
    |some j=>simp only[Option.map_some]; congr 3; omega
  ·rw[h0 n i (by omega) (by omega),List.drop_eq_nil_of_le (by omega)];rfl
theorem zaxe (l:List Nm) (s:Nm) (h:l.length≤1000000000000):qaU l s=some (plc l s):=by
 rw[qaU,zaaa];unfold qaU_f
 have e := zatw (l := l) (s := s) (fun n i => qaU_i2 n l s l.length i)
  (fun n i h0 h=>by simp only[qaU_i2,qaU_t2,decide_eq_false h,cond_false])
  (fun n i x h0 h hx=>by
   simp only[qaU_i2,qaU_t2,decide_eq_true h,decide_eq_true h0,cond_true,hx,Option.bind_some];rw[i64_in (i+1) (by omega)];try (rw[Bool.beq_comm]))
  l.length fuel 0 (by omega) (by unfold fuel; omega)
 rw[qaU_l2,zaaa,show (0:Int)=((0:Nat):Int) from rfl,e];unfold plc;rw[List.drop_zero];cases l.findIdx? (·==s) with
 |none=>rfl
 |some j=>simp
end Lift.A9
namespace Lift.A9
open Go Go.RowKit Lift Go.IntWalk Lift.Fn Lift.A3
set_option linter.unusedVariables false
set_option linter.unusedSimpArgs false
def thB (th:List (Nm×Thing)) (s:Nm):Bool:=Option.isSome (mapAt th s)
theorem reg1 (th:List (Nm×Thing)) (rs:List Nm) (s:Nm) (h:rs.length≤8) :
  qat s th rs=some (match regM (thB th) rs s with|.inl y=>.inl (y.1,th,y.2)|.inr e=>.inr (Refused.mk e.1 e.2)):=by
 rw[qat,zaaa];unfold qat_f regM;show (bif thB th s then _ else _)=_;cases thB th s with
 |true=>rfl
 |false=>
  rw[cond_false,zaxe rs s (by omega)];simp only[Option.bind_some,cond_false];cases decide (plc rs s<0) with
  |false=>rfl
  |true=>
   simp only[cond_true];by_cases h8:8≤rs.length
   ·have e:rs.length=8:=by omega
    rw[e];rfl
   ·have e:((rs.length:Int)==8)=false:=by simp; omega
    rw[e,decide_eq_false h8,cond_false,decide_eq_true (by simp only[List.length_cons,List.length_nil]; omega)];rfl
theorem zah8 {th:Nm→Bool} {rs:List Nm} {s:Nm} {y:Int×List Nm} (h:rs.length≤8) (e:regM th rs s=.inl y):y.2.length≤8:=by
 unfold regM at e;cases ht:th s with
 |true=>rw[ht] at e; cases e
 |false=>
  rw[ht,cond_false] at e;cases hd:decide (plc rs s<0) with
  |false=>rw[hd] at e; cases e; exact h
  |true=>
   rw[hd,cond_true] at e;by_cases h8:8≤rs.length
   ·rw[decide_eq_true h8] at e; cases e
   ·rw[decide_eq_false h8] at e;cases e;simp;omega
end Lift.A9
namespace Lift.A9
open Go Go.RowKit Lift Go.IntWalk Lift.Fn Lift.A3
set_option linter.unusedVariables false
set_option linter.unusedSimpArgs false
def exOut (th:List (Nm×Thing)):(TExpr×List Nm)⊕(Int×Nm)→(Int×Int×List UInt8×List (Nm×Thing)×List TExpr×List Nm)⊕Refused
 |.inl y=>.inl (y.1.kind,y.1.num,y.1.name,th,y.1.args,y.2)
 |.inr e=>.inr ⟨e.1,e.2⟩
theorem zaxr (th:Nm→Bool) (x:TExpr) (rs:List Nm):exM th x rs=bif x.kind==2 then (match regM th rs x.name with
   |.inr e=>.inr e
   |.inl y=>match exMs th x.args y.2 with
    |.inr e=>.inr e
    |.inl z=>.inl (⟨x.kind,y.1,[],z.1⟩,z.2))
  else match exMs th x.args rs with
   |.inr e=>.inr e
   |.inl z=>.inl (⟨x.kind,x.num,[],z.1⟩,z.2):=by cases x; rw[exM]; try rfl
def okL (r:(TExpr×List Nm)⊕(Int×Nm)):Prop:=∀ y,r=.inl y→y.2.length≤8
def okLs (r:(List TExpr×List Nm)⊕(Int×Nm)):Prop:=∀ y,r=.inl y→y.2.length≤8
mutual
theorem zagi (th:Nm→Bool):∀ (x:TExpr) (rs:List Nm),rs.length≤8→okL (exM th x rs)
 |⟨k,n,s,l⟩,rs,h=>by
  intro y hy;rw[exM] at hy;cases hk:k==2 with
  |true=>
   rw[hk,cond_true] at hy;cases hr:regM th rs s with
   |inr e=>rw[hr] at hy; cases hy
   |inl r=>
    rw[hr] at hy;have h1:=zah8 h hr;have h2:=zamw th l r.2 h1;simp only at hy;cases hz:exMs th l r.2 with
    |inr e=>rw[hz] at hy; cases hy
    |inl z=>rw[hz] at hy; cases hy; exact h2 z hz
  |false=>
   rw[hk,cond_false] at hy;have h2:=zamw th l rs h;cases hz:exMs th l rs with
   |inr e=>rw[hz] at hy; cases hy
   |inl z=>rw[hz] at hy; cases hy; exact h2 z hz
theorem zamw (th:Nm→Bool):∀ (l:List TExpr) (rs:List Nm),rs.length≤8→okLs (exMs th l rs)
 |[],rs,h=>by intro y hy; rw[exMs] at hy; cases hy; exact h
 |x::l,rs,h=>by
  intro y hy;rw[exMs] at hy;have h1:=zagi th x rs h;cases hx:exM th x rs with
  |inr e=>rw[hx] at hy; cases hy
  |inl z=>
   rw[hx] at hy;have h2:=zamw th l z.2 (h1 z hx);simp only at hy;cases hz:exMs th l z.2 with
   |inr e=>rw[hz] at hy; cases hy
   |inl q=>rw[hz] at hy; cases hy; exact h2 q hz
end
end Lift.A9
namespace Lift.A9
open Go Go.RowKit Lift Go.IntWalk Lift.Fn Lift.A3
set_option linter.unusedVariables false
set_option linter.unusedSimpArgs false
theorem ex1 (th:List (Nm×Thing)):∀ (k n:Nat) (x:TExpr) (rs:List Nm),nE x≤k→k<n→k≤100000000→rs.length≤8→qaq_i n x th rs=some (exOut th (exM (thB th) x rs)):=by
 intro k;induction k with
 |zero=>intro n x rs h; have:=nE_eq x; omega
 |succ k ih=>
  intro n x rs h hn hb hrs;obtain ⟨n,rfl⟩:∃ q,n=q+1:=⟨n-1,by omega⟩;have hx:=nE_eq x;have hl:=zahj x.args
  have e5:∀ (rs:List Nm) (a4 a5:Int) (a6:List UInt8) (a7 a8:Int) (a9:List UInt8),rs.length≤8→qaq_l5 (qaq_i n) x.args x.args.length 0 th a4 a5 a6 a7 a8 a9 rs [] =
    some (match exMs (thB th) x.args rs with|.inl z=>.inr (th,a4,a5,a6,a7,a8,a9,z.2,z.1)|.inr e=>.inl ⟨e.1,e.2⟩):=by
   intro rs a4 a5 a6 a7 a8 a9 hrs;rw[qaq_l5,zaaa]
   have := zacj (σ := List Nm × List TExpr) x.args (fun r s => s.1.length ≤ 8 ∧ s.2.length + r.length = x.args.length)
    (fun r s=>(match exMs (thB th) r s.1 with|.inl z=>.inr (th,a4,a5,a6,a7,a8,a9,z.2,s.2++z.1)|.inr e=>.inl ⟨e.1,e.2⟩:Refused⊕(List (Nm×Thing)×Int×Int×List UInt8×Int×Int×List UInt8×List Nm×List TExpr)))
    (fun m i s=>qaq_i5 (qaq_i n) m x.args x.args.length i th a4 a5 a6 a7 a8 a9 s.1 s.2)
    (fun m i s h0 h _=>by
     simp only[qaq_i5,qaq_t5,decide_eq_false h,cond_false,exMs,List.append_nil])
    (fun m i s y r h0 h hy hm hI=>by
     have hy1:=zahw hm;obtain ⟨i1,i2⟩:=hI;simp only[List.length_cons] at i2;have hok:=zagi (thB th) y s.1 i1;simp only[qaq_i5,qaq_t5,decide_eq_true h,decide_eq_true h0,cond_true,hy,Option.bind_some,zabd];rw[ih n y s.1 (by omega) (by omega) (by omega) i1,Option.bind_some];rw[exMs];cases hx:exM (thB th) y s.1 with
     |inr e=>exact Or.inr rfl
     |inl z=>
      refine Or.inl ⟨(z.2,s.2++[z.1]),⟨hok z hx,by simp; omega⟩,?_,?_⟩
      ·simp only[exOut,List.length_cons,List.length_nil];rw[decide_eq_true (by omega),cond_true,i64_in (i+1) (by omega),zabd]
      ·simp only;cases exMs (thB th) r z.2 with
       |inr e=>rfl
       |inl q=>simp)
    fuel (rs,[]) (by unfold fuel; omega) ⟨hrs,by simp⟩
   simp only[List.nil_append] at this;exact this
  show qaq_f (qaq_i n) x th rs=_;unfold qaq_f;rw[zaxr];cases hk:x.kind==2 with
  |true=>
   simp only[cond_true];rw[reg1 th rs x.name hrs];cases hr:regM (thB th) rs x.name with
   |inr e=>rfl
   |inl r=>
    have h1:=zah8 hrs hr;simp only[Option.bind_some];rw[e5 r.2 _ _ _ _ _ _ h1];cases exMs (thB th) x.args r.2<;>rfl
  |false=>
   simp only[cond_false];rw[e5 rs _ _ _ _ _ _ hrs];cases exMs (thB th) x.args rs<;>rfl
theorem exX (th:List (Nm×Thing)) (x:TExpr) (rs:List Nm) (h:nE x≤100000000) (hr:rs.length≤8):qaq x th rs=some (exOut th (exM (thB th) x rs)):=by
 rw[qaq,zaaa,ex1 th (nE x) fuel x rs (Nat.le_refl _) (by unfold fuel; omega) h hr]
end Lift.A9
namespace Lift.A9
open Go Go.RowKit Lift Go.IntWalk Lift.Fn Lift.A3
set_option linter.unusedVariables false
set_option linter.unusedSimpArgs false
def objM (th:List (Nm×Thing)) (k:Int) (nm:Nm):Int⊕(Int×Nm):=
 bif needK k==0 then .inl 0 else bif thB th nm then (bif (Option.getD (mapAt th nm) (Thing.mk 0 0)).kind==needK k then .inl (Option.getD (mapAt th nm) (Thing.mk 0 0)).number else .inr (65,nm)) else .inr (64,nm)
def regO (th:Nm→Bool) (rs:List Nm) (s:Nm):(Int×List Nm)⊕(Int×Nm):=bif s==[] then .inl (0,rs) else regM th rs s
def exO (th:Nm→Bool) (x:TExpr) (rs:List Nm):(TExpr×List Nm)⊕(Int×Nm):=bif x.kind==0 then .inl (⟨0,0,[],[]⟩,rs) else exM th x rs
mutual
def acN (tf:Nm→Bool) (ob:Int→Nm→Int⊕(Int×Nm)):TStmt→List Nm→(TAct×List Nm)⊕(Int×Nm)
 |⟨k,r,nm,x,c,t,o⟩,rs=>match regO tf rs r with
  |.inr e=>.inr e
  |.inl a=>match ob k nm with
   |.inr e=>.inr e
   |.inl b=>match exO tf x a.2 with
    |.inr e=>.inr e
    |.inl y=>match acNs tf ob t y.2 with
     |.inr e=>.inr e
     |.inl z=>match acNs tf ob o z.2 with
      |.inr e=>.inr e
      |.inl q=>.inl (⟨k,a.1,b,y.1,c,z.1,q.1⟩,q.2)
def acNs (tf:Nm→Bool) (ob:Int→Nm→Int⊕(Int×Nm)):List TStmt→List Nm→(List TAct×List Nm)⊕(Int×Nm)
 |[],rs=>.inl ([],rs)
 |x::l,rs=>match acN tf ob x rs with
  |.inr e=>.inr e
  |.inl y=>match acNs tf ob l y.2 with
   |.inr e=>.inr e
   |.inl z=>.inl (y.1::z.1,z.2)
end
theorem zaxp (tf:Nm→Bool) (ob:Int→Nm→Int⊕(Int×Nm)) (x:TStmt) (rs:List Nm):acN tf ob x rs=match regO tf rs x.reg with
  |.inr e=>.inr e
  |.inl a=>match ob x.kind x.name with
   |.inr e=>.inr e
   |.inl b=>match exO tf x.expr a.2 with
    |.inr e=>.inr e
    |.inl y=>match acNs tf ob x.then_ y.2 with
     |.inr e=>.inr e
     |.inl z=>match acNs tf ob x.else_ z.2 with
      |.inr e=>.inr e
      |.inl q=>.inl (⟨x.kind,a.1,b,y.1,x.count,z.1,q.1⟩,q.2):=by cases x; rw[acN]
theorem zavv {th:Nm→Bool} {rs:List Nm} {s:Nm} {y:Int×List Nm} (h:rs.length≤8) (e:regO th rs s=.inl y):y.2.length≤8:=by
 unfold regO at e;cases hs:s==[] with
 |true=>rw[hs] at e; cases e; exact h
 |false=>rw[hs] at e; exact zah8 h e
theorem zav6 {th:Nm→Bool} {rs:List Nm} {x:TExpr} {y:TExpr×List Nm} (h:rs.length≤8) (e:exO th x rs=.inl y):y.2.length≤8:=by
 unfold exO at e;cases hs:x.kind==0 with
 |true=>rw[hs] at e; cases e; exact h
 |false=>rw[hs] at e; exact zagi th x rs h y e
mutual
theorem zarq (tf:Nm→Bool) (ob:Int→Nm→Int⊕(Int×Nm)):∀ (x:TStmt) (rs:List Nm) (y:TAct×List Nm),rs.length≤8→acN tf ob x rs=.inl y→y.2.length≤8
 |⟨k,r,nm,x,c,t,o⟩,rs,y,h,hy=>by
  rw[acN] at hy;cases h1:regO tf rs r with
  |inr e=>rw[h1] at hy; cases hy
  |inl a=>
   rw[h1] at hy;simp only at hy;cases h2:ob k nm with
   |inr e=>rw[h2] at hy; cases hy
   |inl b=>
    rw[h2] at hy;simp only at hy;cases h3:exO tf x a.2 with
    |inr e=>rw[h3] at hy; cases hy
    |inl z=>
     rw[h3] at hy;simp only at hy;have l1:=zav6 (zavv h h1) h3;cases h4:acNs tf ob t z.2 with
     |inr e=>rw[h4] at hy; cases hy
     |inl p=>
      rw[h4] at hy;simp only at hy;have l2:=zacb tf ob t z.2 p l1 h4;cases h5:acNs tf ob o p.2 with
      |inr e=>rw[h5] at hy; cases hy
      |inl q=>
       rw[h5] at hy;cases hy;exact zacb tf ob o p.2 q l2 h5
theorem zacb (tf:Nm→Bool) (ob:Int→Nm→Int⊕(Int×Nm)):∀ (l:List TStmt) (rs:List Nm) (y:List TAct×List Nm),rs.length≤8→acNs tf ob l rs=.inl y→y.2.length≤8
 |[],rs,y,h,hy=>by rw[acNs] at hy; cases hy; exact h
 |x::l,rs,y,h,hy=>by
  rw[acNs] at hy;cases h1:acN tf ob x rs with
  |inr e=>rw[h1] at hy; cases hy
  |inl a=>
   rw[h1] at hy;simp only at hy;have l1:=zarq tf ob x rs a h h1;cases h2:acNs tf ob l a.2 with
   |inr e=>rw[h2] at hy; cases hy
   |inl b=>rw[h2] at hy; cases hy; exact zacb tf ob l a.2 b l1 h2
end
theorem zagb (tf:Nm→Bool) (ob:Int→Nm→Int⊕(Int×Nm)) (rs:List Nm):acNs tf ob [] rs=.inl ([],rs):=by rw[acNs]
theorem zagw (tf:Nm→Bool) (ob:Int→Nm→Int⊕(Int×Nm)) (x:TStmt) (l:List TStmt) (rs:List Nm):acNs tf ob (x::l) rs=match acN tf ob x rs with
  |.inr e=>.inr e
  |.inl y=>match acNs tf ob l y.2 with
   |.inr e=>.inr e
   |.inl z=>.inl (y.1::z.1,z.2):=by rw[acNs]
end Lift.A9
namespace Lift.A9
open Go Go.RowKit Lift Go.IntWalk Lift.Fn Lift.A3
set_option linter.unusedVariables false
set_option linter.unusedSimpArgs false
def acOut (th:List (Nm×Thing)):(List TAct×List Nm)⊕(Int×Nm)→((List (Nm×Thing))×(List TAct)×(List Nm))⊕Refused
 |.inl y=>.inl (th,y.1,y.2)
 |.inr e=>.inr ⟨e.1,e.2⟩
theorem zapf (th:List (Nm×Thing)) (k:Int) (nm:Nm):objM th k nm=(bif needK k==0 then .inl 0 else bif thB th nm then (bif (Option.getD (mapAt th nm) (Thing.mk 0 0)).kind==needK k then .inl (Option.getD (mapAt th nm) (Thing.mk 0 0)).number else .inr (65,nm)) else .inr (64,nm)):=rfl
abbrev AcF:=List TStmt→List (Nm×Thing)→List Nm→Option ((List (Nm×Thing)×List TAct×List Nm)⊕Refused)
theorem zaw2 (th:List (Nm×Thing)) (R:AcF) (rec:List TStmt→Int→Int→List ((List UInt8)×(Thing))→List (List UInt8)→List TAct→Option ((Refused)⊕((List ((List UInt8)×(Thing)))×(List TAct)×(List (List UInt8)))))
  (a0:List TStmt) (a1 i:Int) (rs:List Nm) (acc:List TAct) (y:TStmt) (h:i<a1) (h0:0≤i) (hy:a0[i.toNat]? = some y) (hE:nE y.expr≤100000000) (ha:acc.length≤100000000) (hi:i≤100000000) (hrs:rs.length≤8)
  (ht:∀ rs,rs.length≤8→R y.then_ th rs=some (acOut th (acNs (thB th) (objM th) y.then_ rs))) (ho:∀ rs,rs.length≤8→R y.else_ th rs=some (acOut th (acNs (thB th) (objM th) y.else_ rs))) :
  qap_t3 R rec a0 a1 i th rs acc=match acN (thB th) (objM th) y rs with
   |.inr e=>some (.inl ⟨e.1,e.2⟩)
   |.inl z=>rec a0 a1 (i+1) th z.2 (acc++[z.1]):=by
 have hsz:∀ st:TAct,decide ((acc.length+[st].length)*136≤140737488355328∧acc.length+[st].length≤9223372036854775807)=true:=by
  intro st;rw[List.length_cons,List.length_nil];exact decide_eq_true (by omega)
 unfold qap_t3;show _=match acN (thB th) (objM th) y rs with|.inr e=>_|.inl z=>_
 rw[zaxp];simp only[decide_eq_true h,decide_eq_true h0,cond_true,hy,Option.bind_some,zabd,zauf,bne,reg1 th rs y.reg hrs,i64_in (i+1) (by omega)]
 -- what stands behind the name
 unfold regO;cases hr:(y.reg==[]) with
 |true=>
  simp only[Bool.not_true,cond_false,cond_true];rw[zapf];cases hk:(needK y.kind==0) with
  |true=>
   simp only[Bool.not_true,cond_false,cond_true];unfold exO;cases hx:(y.expr.kind==0) with
   |true=>
    simp only[Bool.not_true,cond_false,cond_true];rw[ht rs hrs];cases h4:acNs (thB th) (objM th) y.then_ rs with
    |inr e=>rfl
    |inl p=>
     simp only[acOut,Option.bind_some];rw[ho p.2 (zacb (thB th) (objM th) _ _ p hrs h4)];cases h5:acNs (thB th) (objM th) y.else_ p.2 with
     |inr e=>rfl
     |inl q=>simp only[acOut,Option.bind_some,hsz,cond_true]
   |false=>
    simp only[Bool.not_false,cond_false,cond_true];rw[exX th y.expr rs hE hrs];cases h3:exM (thB th) y.expr rs with
    |inr e=>rfl
    |inl z=>
     have l1:=zagi (thB th) y.expr rs hrs z h3;simp only[exOut,Option.bind_some];rw[ht z.2 l1];cases h4:acNs (thB th) (objM th) y.then_ z.2 with
     |inr e=>rfl
     |inl p=>
      simp only[acOut,Option.bind_some];rw[ho p.2 (zacb (thB th) (objM th) _ _ p l1 h4)];cases h5:acNs (thB th) (objM th) y.else_ p.2 with
      |inr e=>rfl
      |inl q=>simp only[acOut,Option.bind_some,hsz,cond_true,zabd]
  |false=>
   simp only[Bool.not_false,cond_false,cond_true];have eb:thB th y.name=Option.isSome (mapAt th y.name):=rfl;rw[eb];cases hs:Option.isSome (mapAt th y.name) with
   |false=>rfl
   |true=>
    simp only[Bool.not_true,cond_false,cond_true];cases hq:((Option.getD (mapAt th y.name) (Thing.mk 0 0)).kind==needK y.kind) with
    |false=>rfl
    |true=>
     simp only[Bool.not_true,cond_false,cond_true];unfold exO;cases hx:(y.expr.kind==0) with
     |true=>
      simp only[Bool.not_true,cond_false,cond_true];rw[ht rs hrs];cases h4:acNs (thB th) (objM th) y.then_ rs with
      |inr e=>rfl
      |inl p=>
       simp only[acOut,Option.bind_some];rw[ho p.2 (zacb (thB th) (objM th) _ _ p hrs h4)];cases h5:acNs (thB th) (objM th) y.else_ p.2 with
       |inr e=>rfl
       |inl q=>simp only[acOut,Option.bind_some,hsz,cond_true]
     |false=>
      simp only[Bool.not_false,cond_false,cond_true];rw[exX th y.expr rs hE hrs];cases h3:exM (thB th) y.expr rs with
      |inr e=>rfl
      |inl z=>
       have l1:=zagi (thB th) y.expr rs hrs z h3;simp only[exOut,Option.bind_some];rw[ht z.2 l1];cases h4:acNs (thB th) (objM th) y.then_ z.2 with
       |inr e=>rfl
       |inl p=>
        simp only[acOut,Option.bind_some];rw[ho p.2 (zacb (thB th) (objM th) _ _ p l1 h4)];cases h5:acNs (thB th) (objM th) y.else_ p.2 with
        |inr e=>rfl
        |inl q=>simp only[acOut,Option.bind_some,hsz,cond_true,zabd]
 |false=>
  simp only[Bool.not_false,cond_false,cond_true];cases hm:regM (thB th) rs y.reg with
  |inr e=>rfl
  |inl a=>
   have l0:=zah8 hrs hm;simp only[Option.bind_some];rw[zapf];cases hk:(needK y.kind==0) with
   |true=>
    simp only[Bool.not_true,cond_false,cond_true];unfold exO;cases hx:(y.expr.kind==0) with
    |true=>
     simp only[Bool.not_true,cond_false,cond_true];rw[ht a.2 l0];cases h4:acNs (thB th) (objM th) y.then_ a.2 with
     |inr e=>rfl
     |inl p=>
      simp only[acOut,Option.bind_some];rw[ho p.2 (zacb (thB th) (objM th) _ _ p l0 h4)];cases h5:acNs (thB th) (objM th) y.else_ p.2 with
      |inr e=>rfl
      |inl q=>simp only[acOut,Option.bind_some,hsz,cond_true]
    |false=>
     simp only[Bool.not_false,cond_false,cond_true];rw[exX th y.expr a.2 hE l0];cases h3:exM (thB th) y.expr a.2 with
     |inr e=>rfl
     |inl z=>
      have l1:=zagi (thB th) y.expr a.2 l0 z h3;simp only[exOut,Option.bind_some];rw[ht z.2 l1];cases h4:acNs (thB th) (objM th) y.then_ z.2 with
      |inr e=>rfl
      |inl p=>
       simp only[acOut,Option.bind_some];rw[ho p.2 (zacb (thB th) (objM th) _ _ p l1 h4)];cases h5:acNs (thB th) (objM th) y.else_ p.2 with
       |inr e=>rfl
       |inl q=>simp only[acOut,Option.bind_some,hsz,cond_true,zabd]
   |false=>
    simp only[Bool.not_false,cond_false,cond_true];have eb:thB th y.name=Option.isSome (mapAt th y.name):=rfl;rw[eb];cases hs:Option.isSome (mapAt th y.name) with
    |false=>rfl
    |true=>
     simp only[Bool.not_true,cond_false,cond_true];cases hq:((Option.getD (mapAt th y.name) (Thing.mk 0 0)).kind==needK y.kind) with
     |false=>rfl
     |true=>
      simp only[Bool.not_true,cond_false,cond_true];unfold exO;cases hx:(y.expr.kind==0) with
      |true=>
       simp only[Bool.not_true,cond_false,cond_true];rw[ht a.2 l0];cases h4:acNs (thB th) (objM th) y.then_ a.2 with
       |inr e=>rfl
       |inl p=>
        simp only[acOut,Option.bind_some];rw[ho p.2 (zacb (thB th) (objM th) _ _ p l0 h4)];cases h5:acNs (thB th) (objM th) y.else_ p.2 with
        |inr e=>rfl
        |inl q=>simp only[acOut,Option.bind_some,hsz,cond_true]
      |false=>
       simp only[Bool.not_false,cond_false,cond_true];rw[exX th y.expr a.2 hE l0];cases h3:exM (thB th) y.expr a.2 with
       |inr e=>rfl
       |inl z=>
        have l1:=zagi (thB th) y.expr a.2 l0 z h3;simp only[exOut,Option.bind_some];rw[ht z.2 l1];cases h4:acNs (thB th) (objM th) y.then_ z.2 with
        |inr e=>rfl
        |inl p=>
         simp only[acOut,Option.bind_some];rw[ho p.2 (zacb (thB th) (objM th) _ _ p l1 h4)];cases h5:acNs (thB th) (objM th) y.else_ p.2 with
         |inr e=>rfl
         |inl q=>simp only[acOut,Option.bind_some,hsz,cond_true,zabd]
theorem ac1 (th:List (Nm×Thing)):∀ (k n:Nat) (l:List TStmt) (rs:List Nm),nSs l≤k→k<n→k≤100000000→rs.length≤8→qap_i n l th rs=some (acOut th (acNs (thB th) (objM th) l rs)):=by
 intro k;induction k with
 |zero=>
  intro n l rs h hn _ _;obtain ⟨n,rfl⟩:∃ q,n=q+1:=⟨n-1,by omega⟩;have hl:=zae2 l;obtain rfl:l=[]:=List.eq_nil_of_length_eq_zero (by omega);show qap_f (qap_i n) [] th rs=_;unfold qap_f;rw[qap_l3,zaaa,zagb];rfl
 |succ k ih=>
  intro n l rs h hn hb hrs;obtain ⟨n,rfl⟩:∃ q,n=q+1:=⟨n-1,by omega⟩;have hl:=zae2 l;show qap_f (qap_i n) l th rs=_;unfold qap_f;rw[qap_l3,zaaa]
  have := zacj (σ := List Nm × List TAct) l (fun r s => s.1.length ≤ 8 ∧ s.2.length + r.length = l.length)
   (fun r s=>(match acNs (thB th) (objM th) r s.1 with|.inl z=>.inr (th,s.2++z.1,z.2)|.inr e=>.inl ⟨e.1,e.2⟩:Refused⊕(List (Nm×Thing)×List TAct×List Nm)))
   (fun m i s=>qap_i3 (qap_i n) m l l.length i th s.1 s.2)
   (fun m i s h0 h _=>by
    simp only[qap_i3,qap_t3,decide_eq_false h,cond_false,zagb,List.append_nil])
   (fun m i s y r h0 h hy hm hI=>by
    have hy1:=zajt hm;have hy2:=nS_eq y;obtain ⟨i1,i2⟩:=hI;simp only[List.length_cons] at i2
    have st := zaw2 th (qap_i n) (qap_i3 (qap_i n) m) l l.length i s.1 s.2 y h h0 hy (by omega) (by omega) (by omega) i1
     (fun rs hrs=>ih n y.then_ rs (by omega) (by omega) (by omega) hrs) (fun rs hrs=>ih n y.else_ rs (by omega) (by omega) (by omega) hrs)
    have e1:qap_i3 (qap_i n) (m+1) l l.length i th s.1 s.2=qap_t3 (qap_i n) (qap_i3 (qap_i n) m) l l.length i th s.1 s.2:=rfl;rw[e1,st,zagw];cases hz:acN (thB th) (objM th) y s.1 with
    |inr e=>exact Or.inr rfl
    |inl z=>
     refine Or.inl ⟨(z.2,s.2++[z.1]),⟨zarq (thB th) (objM th) y s.1 z i1 hz,by simp; omega⟩,rfl,?_⟩;simp only;cases acNs (thB th) (objM th) r z.2 with
     |inr e=>rfl
     |inl q=>simp)
   fuel (rs,[]) (by unfold fuel; omega) ⟨hrs,by simp⟩
  simp only[List.nil_append] at this;rw[this];cases acNs (thB th) (objM th) l rs<;>rfl
theorem acX (th:List (Nm×Thing)) (l:List TStmt) (h:nSs l≤100000000):qap l th []=some (acOut th (acNs (thB th) (objM th) l [])):=by
 rw[qap,zaaa,ac1 th (nSs l) fuel l [] (Nat.le_refl _) (by unfold fuel; omega) h (by simp)]
end Lift.A9
namespace Lift.A9
open Go Go.RowKit Lift Go.IntWalk Lift.Fn Lift.A3
set_option linter.unusedVariables false
set_option linter.unusedSimpArgs false
theorem zarm {α σ ρ:Type} (l:List α) (I:Nat→List α→σ→Prop) (P:Nat→List α→σ→ρ) (L:Nat→Int→σ→Option ρ)
  (h0:∀ n i s,¬ i<l.length→I i [] s→L (n+1) (i:Int) s=some (P i [] s))
  (h1:∀ n i s x r,i<l.length→l[i]? = some x→x∈l→I i (x::r) s→(∃ s',I (i+1) r s'∧L (n+1) (i:Int) s=L n ((i+1:Nat):Int) s'∧P i (x::r) s=P (i+1) r s')∨L (n+1) (i:Int) s=some (P i (x::r) s)) :
  ∀ (k n:Nat) (i:Nat) (s:σ),l.length-i≤k→k<n→I i (l.drop i) s→L n (i:Int) s=some (P i (l.drop i) s):=by
 intro k;induction k with
 |zero=>
  intro n i s hk hn hI;obtain ⟨n,rfl⟩:∃ q,n=q+1:=⟨n-1,by omega⟩;rw[List.drop_eq_nil_of_le (by omega)] at hI ⊢;exact h0 n i s (by omega) hI
 |succ k ih=>
  intro n i s hk hn hI;obtain ⟨n,rfl⟩:∃ q,n=q+1:=⟨n-1,by omega⟩;by_cases c:i<l.length
  ·rw[List.drop_eq_getElem_cons c] at hI ⊢;rcases h1 n i s l[i] _ c (List.getElem?_eq_getElem c) (List.getElem_mem c) hI with ⟨s',i1,e1,e2⟩|e
   ·rw[e1,ih n (i+1) s' (by omega) (by omega) i1,e2]
   ·exact e
  ·rw[List.drop_eq_nil_of_le (by omega)] at hI ⊢;exact h0 n i s c hI
def addM (c:Int):Nat→List Nm→List (Nm×Thing)→List (Nm×Thing)⊕Nm
 |_,[],th=>.inl th
 |k,s::l,th=>bif thB th s then .inr s else addM c (k+1) l (zaap s ⟨c,k⟩ th)
def addLs:Nat→List (List Nm)→List (Nm×Thing)→List (Nm×Thing)⊕Nm
 |_,[],th=>.inl th
 |k,l::r,th=>match addM (1+k) 0 l th with
  |.inr s=>.inr s
  |.inl t=>addLs (k+1) r t
theorem zav3 (c:Nat) (a1 a2:Int) (l:List Nm) (th:List (Nm×Thing)) (x:List (List Nm)) (rs:List Nm) (hc:c≤100) (h:l.length≤100000000) :
  qar_l11 c a1 a2 l l.length 0 th x rs=some (match addM (1+c) 0 l th with|.inl t=>.inr (a1,a2,t,x,rs)|.inr s=>.inl ⟨63,s⟩):=by
 rw[qar_l11,zaaa]
 have := zarm l (fun _ _ _ => True) (fun i r t => (match addM (1 + c) i r t with | .inl t => .inr (a1, a2, t, x, rs) | .inr s => .inl ⟨63, s⟩ : Refused ⊕ (Int × Int × List (Nm × Thing) × List (List Nm) × List Nm)))
  (fun m i t=>qar_i11 m c a1 a2 l l.length i t x rs)
  (fun m i t h _=>by
   have h':¬ ((i:Int)<(l.length:Int)):=by omega
   simp only[qar_i11,qar_t11,decide_eq_false h',cond_false,addM])
  (fun m i t y r h hy hm _=>by
   have h':((i:Int)<(l.length:Int)):=by omega
   simp only[qar_i11,qar_t11,decide_eq_true h',cond_true,decide_eq_true (Int.natCast_nonneg i),Int.toNat_natCast,hy,Option.bind_some,addM,thB];cases hs:Option.isSome (mapAt t y) with
   |true=>exact Or.inr rfl
   |false=>
    refine Or.inl ⟨zaap y ⟨1+c,i⟩ t,trivial,?_,rfl⟩;rw[cond_false,i64_in ((i:Int)+1) (by omega),i64_in ((1:Int)+c) (by omega)];rfl)
  l.length fuel 0 th (by omega) (by unfold fuel; omega) trivial
 rw[List.drop_zero] at this;exact this
theorem zavr (ls:List (List Nm)) (th:List (Nm×Thing)) (rs:List Nm) (h:ls.length≤100) (hl:∀ l∈ls,l.length≤100000000) :
  qar_l8 ls.length 0 th ls rs=some (match addLs 0 ls th with|.inl t=>.inr (t,rs)|.inr s=>.inl ⟨63,s⟩):=by
 rw[qar_l8,zaaa]
 have := zarm ls (fun _ _ _ => True) (fun i r t => (match addLs i r t with | .inl t => .inr (t, rs) | .inr s => .inl ⟨63, s⟩ : Refused ⊕ (List (Nm × Thing) × List Nm)))
  (fun m i t=>qar_i8 m ls.length i t ls rs)
  (fun m i t h _=>by
   have h':¬ ((i:Int)<(ls.length:Int)):=by omega
   simp only[qar_i8,qar_t8,decide_eq_false h',cond_false,addLs])
  (fun m i t y r h hy hm _=>by
   have h':((i:Int)<(ls.length:Int)):=by omega
   simp only[qar_i8,qar_t8,decide_eq_true h',cond_true,decide_eq_true (Int.natCast_nonneg i),Int.toNat_natCast,hy,Option.bind_some,addLs,Bool.true_and];rw[zav3 i _ _ y t ls rs (by omega) (hl y hm)];cases hs:addM (1+(i:Int)) 0 y t with
   |inr s=>exact Or.inr rfl
   |inl t'=>
    refine Or.inl ⟨t',trivial,?_,rfl⟩;simp only[Option.bind_some];rw[i64_in ((i:Int)+1) (by omega)];rfl)
  ls.length fuel 0 th (by omega) (by unfold fuel; omega) trivial
 rw[List.drop_zero] at this;exact this
def zaa9 (l:List Nm):Bool:=decide (8<l.length)
def zah0 (n:Names):List (Nm×Thing)⊕(Int×Nm):=
 bif n.threads.length==0 then .inr (60,[]) else bif zaa9 n.threads then .inr (60,(n.threads[8]?).getD []) else bif zaa9 n.cells then .inr (61,(n.cells[8]?).getD [])
 else bif zaa9 n.mutexes then .inr (62,(n.mutexes[8]?).getD []) else match addLs 0 [n.cells,n.mutexes,n.threads] [] with|.inl t=>.inl t|.inr s=>.inr (63,s)
theorem many1 (l:List Nm) (e:Int):qas l 8 e=some (bif zaa9 l then .inr ⟨e,(l[8]?).getD []⟩ else .inl ()):=by
 rw[qas,zaaa];unfold qas_f zaa9;by_cases h:8<l.length
 ·rw[decide_eq_true (by omega:(l.length:Int)>8),decide_eq_true h];simp only[cond_true,Int.reduceToNat];rw[List.getElem?_eq_getElem h];rfl
 ·rw[decide_eq_false (by omega:¬ (l.length:Int)>8),decide_eq_false h];rfl
theorem zaxd (n:Names) (hc:n.cells.length≤100000000) (hm:n.mutexes.length≤100000000) (ht:n.threads.length≤100000000) :
  qar n [] []=some (match zah0 n with|.inl th=>.inl (th,[])|.inr e=>.inr ⟨e.1,e.2⟩):=by
 rw[qar,zaaa];unfold qar_f zah0;have e0:((n.threads.length:Int)==0)=(n.threads.length==0):=by
  rw[Bool.eq_iff_iff]; simp only[beq_iff_eq]; omega
 rw[e0];cases n.threads.length==0 with
 |true=>rfl
 |false=>
  simp only[cond_false,many1,Option.bind_some];cases zaa9 n.threads with
  |true=>rfl
  |false=>
  cases zaa9 n.cells with
  |true=>rfl
  |false=>
  cases zaa9 n.mutexes with
  |true=>rfl
  |false=>
   simp only[cond_false];have:=zavr [n.cells,n.mutexes,n.threads] [] [] (by simp) (by simp; omega);rw[this];cases addLs 0 [n.cells,n.mutexes,n.threads] []<;>rfl
def thrM (th:List (Nm×Thing)):List TThread→List (List TAct×List Nm)⊕(Int×Nm)
 |[]=>.inl []
 |t::l=>match acNs (thB th) (objM th) t.body [] with
  |.inr e=>.inr e
  |.inl y=>match thrM th l with
   |.inr e=>.inr e
   |.inl z=>.inl (y::z)
def thrW (th:List (Nm×Thing)):List TThread→List TBody×List (List Nm)→((Int×Nm)×List TBody×List (List Nm))⊕(List TBody×List (List Nm))
 |[],s=>.inr s
 |t::l,s=>match acNs (thB th) (objM th) t.body [] with
  |.inr e=>.inl (e,s)
  |.inl y=>thrW th l (s.1++[⟨y.2.length,y.1⟩],s.2++[y.2])
theorem zarh (th : List (Nm × Thing)) : ∀ (l : List TThread) (s : List TBody × List (List Nm)), (∀ z, thrM th l = .inl z → thrW th l s = .inr (s.1 ++ z.map (fun y => ⟨y.2.length, y.1⟩), s.2 ++ z.map (·.2))) ∧ (∀ e, thrM th l = .inr e → ∃ q, thrW th l s = .inl (e, q))
 |[],s=>⟨fun z h=>by rw[thrM] at h; cases h; rw[thrW]; simp,fun e h=>by rw[thrM] at h; cases h⟩
 |t::l,s=>by
  rw[thrM,thrW];cases acNs (thB th) (objM th) t.body [] with
  |inr e=>exact ⟨fun z h=>(by cases h),fun e' h=>(by cases h; exact ⟨s,rfl⟩)⟩
  |inl y=>
   obtain ⟨h1,h2⟩:=zarh th l (s.1++[⟨y.2.length,y.1⟩],s.2++[y.2]);cases hz:thrM th l with
   |inr e=>exact ⟨fun z h=>(by cases h),fun e' h=>(by cases h; exact h2 e hz)⟩
   |inl z=>exact ⟨fun z' h=>(by cases h; simp only; rw[h1 z hz]; simp),fun e' h=>(by cases h)⟩
def zaa1 (p:TProg):Names:=⟨p.cells.map (·.name),p.mutexes,p.threads.map (·.name),[]⟩
def unit0:TUnit:=⟨[],0,[]⟩
def zah3:Names:=⟨[],[],[],[]⟩
def zage (p:TProg):(TUnit×Names)⊕(Int×Nm):=match zah0 (zaa1 p) with
 |.inr e=>.inr e
 |.inl th=>match thrM th p.threads with
  |.inr e=>.inr e
  |.inl z=>.inl (⟨p.cells.map (·.init),p.mutexes.length,z.map fun y=>⟨y.2.length,y.1⟩⟩,⟨p.cells.map (·.name),p.mutexes,p.threads.map (·.name),z.map (·.2)⟩)
def outC:(TUnit×Names)⊕(Int×Nm)→TUnit×Names×Int×Nm
 |.inl y=>(y.1,y.2,0,[])
 |.inr e=>(unit0,zah3,e.1,e.2)
noncomputable def zacc (p:TProg):TUnit×Names×Int×Nm:=bif zabh p != 0 then (unit0,zah3,zabh p,[]) else outC (zage p)
theorem zap5 (p:TProg) (h:nT p.threads≤100000000) (h1:p.cells.length≤100000000) (h2:p.mutexes.length≤100000000):qam p=some (zacc p):=by
 rw[qam,zaaa];unfold qam_f zacc;have hl:=zafg p.threads;rw[zadw,zaja p h h1 h2,Option.bind_some];cases zabh p != 0 with
 |true=>rfl
 |false=>
  simp only[cond_false]
  have e6 := zacj (σ := List Int × List Nm) p.cells (fun r s => s.1.length + r.length = p.cells.length ∧ s.2.length + r.length = p.cells.length) (fun r s => (p.cells, p.mutexes, p.threads, (0 : Int), (0 : Int), ([] : List UInt8), s.1 ++ r.map (·.init), s.2 ++ r.map (·.name)))
   (fun m i s=>qam_i6 m p.cells p.cells.length i p.cells p.mutexes p.threads 0 0 [] s.1 s.2)
   (fun m i s h0 h _=>by simp only[qam_i6,qam_t6,decide_eq_false h,cond_false,List.map_nil,List.append_nil])
   (fun m i s y r h0 h hy hm hI=>by
    simp only[List.length_cons] at hI;refine Or.inl ⟨(s.1++[y.init],s.2++[y.name]),by simp; omega,?_,by simp⟩;simp only[qam_i6,qam_t6,decide_eq_true h,decide_eq_true h0,cond_true,hy,Option.bind_some,List.length_cons,List.length_nil];rw[decide_eq_true (by omega),cond_true,decide_eq_true (by omega),cond_true,i64_in (i+1) (by omega)])
   fuel ([],[]) (by unfold fuel; omega) (by simp)
  simp only[List.nil_append] at e6;rw[qam_l6,zaaa,e6];simp only[Option.bind_some];rw[zarg p.mutexes h2];simp only[Option.bind_some];rw[zapt];simp only[Option.bind_some]
  have e14 := zacj (σ := List Nm) p.threads (fun r s => s.length + r.length = p.threads.length) (fun r s => (p.cells, p.mutexes, p.threads, (p.mutexes.length : Int), (0 : Int), ([] : List UInt8), p.cells.map (·.init), p.cells.map (·.name), p.mutexes, s ++ r.map (·.name)))
   (fun m i s=>qam_i14 m p.threads p.threads.length i p.cells p.mutexes p.threads p.mutexes.length 0 [] (p.cells.map (·.init)) (p.cells.map (·.name)) p.mutexes s)
   (fun m i s h0 h _=>by simp only[qam_i14,qam_t14,decide_eq_false h,cond_false,List.map_nil,List.append_nil])
   (fun m i s y r h0 h hy hm hI=>by
    simp only[List.length_cons] at hI;refine Or.inl ⟨s++[y.name],by simp; omega,?_,by simp⟩;simp only[qam_i14,qam_t14,decide_eq_true h,decide_eq_true h0,cond_true,hy,Option.bind_some,List.length_cons,List.length_nil];rw[decide_eq_true (by omega),cond_true,i64_in (i+1) (by omega)])
   fuel [] (by unfold fuel; omega) (by simp)
  simp only[List.nil_append] at e14;rw[qam_l14,zaaa,e14];simp only[Option.bind_some];have eh:=zaxd (zaa1 p) (by simp[zaa1]; omega) h2 (by simp[zaa1]; omega);unfold zaa1 at eh;rw[eh];unfold zage zaa1;cases zah0 ⟨p.cells.map (·.name),p.mutexes,p.threads.map (·.name),[]⟩ with
  |inr e=>rfl
  |inl th=>
   simp only[Option.bind_some]
   have e21 := zacj (σ := List TBody × List (List Nm)) p.threads (fun r s => s.1.length + r.length = p.threads.length ∧ s.2.length + r.length = p.threads.length)
    (fun r s => (match thrW th r s with | .inl e => .inl (⟨e.1.1, e.1.2⟩, (p.mutexes.length : Int), p.cells.map (·.name), p.mutexes, p.threads.map (·.name), (0 : Int), ([] : List UInt8), p.cells.map (·.init), e.2.1, e.2.2) | .inr z => .inr ((p.mutexes.length : Int), p.cells.map (·.name), p.mutexes, p.threads.map (·.name), (0 : Int), ([] : List UInt8), p.cells.map (·.init), z.1, z.2) :
     (Refused×Int×List Nm×List Nm×List Nm×Int×List UInt8×List Int×List TBody×List (List Nm))⊕(Int×List Nm×List Nm×List Nm×Int×List UInt8×List Int×List TBody×List (List Nm))))
    (fun m i s=>qam_i21 m p.threads p.threads.length i p.mutexes.length (p.cells.map (·.name)) p.mutexes (p.threads.map (·.name)) 0 [] th (p.cells.map (·.init)) s.1 s.2)
    (fun m i s h0 h _=>by simp only[qam_i21,qam_t21,decide_eq_false h,cond_false,thrW])
    (fun m i s y r h0 h hy hm hI=>by
     simp only[List.length_cons] at hI;have hb:=zahq hm;simp only[qam_i21,qam_t21,decide_eq_true h,decide_eq_true h0,cond_true,hy,Option.bind_some,thrW];rw[acX th y.body (by omega)];cases ha:acNs (thB th) (objM th) y.body [] with
     |inr e=>exact Or.inr rfl
     |inl a=>
      refine Or.inl ⟨(s.1++[⟨a.2.length,a.1⟩],s.2++[a.2]),by simp; omega,?_,rfl⟩;simp only[acOut,Option.bind_some,List.length_cons,List.length_nil,zapt];rw[decide_eq_true (by omega),cond_true,decide_eq_true (by omega),cond_true,i64_in (i+1) (by omega)])
    fuel ([],[]) (by unfold fuel; omega) (by simp)
   rw[qam_l21,zaaa,e21];obtain ⟨h1,h2⟩:=zarh th p.threads ([],[]);cases hz:thrM th p.threads with
   |inr e=>
    obtain ⟨q,hq⟩:=h2 e hz;rw[hq];rfl
   |inl z=>
    rw[h1 z hz];rfl
end Lift.A9
namespace Lift.A9
open Go Go.RowKit Lift Go.IntWalk Lift.Fn Lift.A3
set_option linter.unusedVariables false
set_option linter.unusedSimpArgs false
theorem zah7 (x:Nm) (l:List Nm) (s:Nm):plc (x::l) s=bif x==s then 0 else bif decide (plc l s<0) then -1 else plc l s+1:=by
 unfold plc;rw[List.findIdx?_cons];cases hx:x==s with
 |true=>rfl
 |false=>
  simp only[Bool.false_eq_true,if_false];cases l.findIdx? (·==s) with
  |none=>rfl
  |some i=>
   simp only[Option.map_some,cond_false];rw[decide_eq_false (by omega),cond_false];omega
theorem zajf (l:List Nm) (s:Nm):-1≤plc l s∧plc l s<(l.length:Int):=by
 induction l with
 |nil=>rw[zamv]; simp
 |cons x l ih=>
  rw[zah7];cases x==s with
  |true=>simp only[cond_true,List.length_cons]; omega
  |false=>
   rw[cond_false];cases h:decide (plc l s<0) with
   |true=>simp only[cond_true,List.length_cons]; omega
   |false=>
    rw[decide_eq_false_iff_not] at h;simp only[cond_false,List.length_cons];omega
theorem zajs (l:List Nm) (s:Nm):(0≤plc l s)↔s∈l:=by
 induction l with
 |nil=>rw[zamv]; simp
 |cons x l ih=>
  rw[zah7,List.mem_cons];cases hx:x==s with
  |true=>
   have:x=s:=eq_of_beq hx;simp[this]
  |false=>
   have hne:¬ s=x:=by intro h; rw[h,beq_self_eq_true] at hx; cases hx
   rw[cond_false];cases h:decide (plc l s<0) with
   |true=>
    rw[decide_eq_true_eq] at h;have:¬ s∈l:=fun hm=>by have:=ih.2 hm; omega
    simp only[cond_true];constructor
    ·intro h; omega
    ·rintro (h|h)
     ·exact absurd h hne
     ·exact absurd h this
   |false=>
    rw[decide_eq_false_iff_not] at h;simp only[cond_false];constructor
    ·intro _; exact Or.inr (ih.1 (by omega))
    ·intro _; omega
def ent (c:Int):Nat→List Nm→List (Nm×Thing)
 |_,[]=>[]
 |k,s::l=>(s,⟨c,k⟩)::ent c (k+1) l
theorem zae1 (c : Int) : ∀ (l : List Nm) (k : Nat), (ent c k l).map (·.1) = l
 |[],k=>rfl
 |s::l,k=>by rw[ent,List.map_cons,zae1 c l (k+1)]
def dupM:List Nm→List Nm→Option Nm
 |_,[]=>none
 |seen,s::l=>bif seen.any (·==s) then some s else dupM (seen++[s]) l
theorem zak4 : ∀ (l r seen : List Nm), dupM seen (l ++ r) = match dupM seen l with | some s => some s | none => dupM (seen ++ l) r
 |[],r,seen=>by rw[dupM,List.nil_append,List.append_nil]
 |s::l,r,seen=>by
  rw[List.cons_append,dupM,dupM];cases seen.any (·==s) with
  |true=>rfl
  |false=>rw[cond_false,cond_false,zak4 l r,List.append_assoc]; rfl
theorem zam9 (th th':List (Nm×Thing)) (s:Nm):mapAt (th++th') s=match mapAt th s with|some v=>some v|none=>mapAt th' s:=by
 unfold mapAt;rw[List.find?_append];cases th.find? (fun y=>y.1==s)<;>rfl
theorem zahz (th:List (Nm×Thing)) (s:Nm):thB th s=(th.map (·.1)).any (·==s):=by
 unfold thB mapAt;rw[List.any_map];induction th with
 |nil=>rfl
 |cons x th ih=>
  rw[List.find?_cons,List.any_cons];cases hx:x.1==s with
  |true=>simp[hx]
  |false=>simp only[Function.comp,hx,Bool.false_or]; exact ih
theorem zal1 (s:Nm) (v:Thing):∀ th:List (Nm×Thing),thB th s=false→zaap s v th=th++[(s,v)]
 |[],_=>rfl
 |x::th,h=>by
  rw[zahz,List.map_cons,List.any_cons,Bool.or_eq_false_iff] at h;rw[zaap,h.1,cond_false,zal1 s v th (by rw[zahz]; exact h.2)];rfl
theorem zajx (c : Int) : ∀ (l : List Nm) (k : Nat) (th : List (Nm × Thing)), addM c k l th = match dupM (th.map (·.1)) l with | some s => .inr s | none => .inl (th ++ ent c k l)
 |[],k,th=>by rw[addM,dupM,ent,List.append_nil]
 |s::l,k,th=>by
  rw[addM,dupM,zahz];cases h:(th.map (·.1)).any (·==s) with
  |true=>rfl
  |false=>
   rw[cond_false,cond_false,zal1 s _ th (by rw[zahz]; exact h),zajx c l (k+1),List.map_append,ent];show (match dupM (th.map (·.1)++[s]) l with|some s=>_|none=>_)=_;cases dupM (th.map (·.1)++[s]) l with
   |some s=>rfl
   |none=>simp only[List.append_assoc]; rfl
def entP (n:Names):List (Nm×Thing):=ent 1 0 n.cells++(ent 2 0 n.mutexes++ent 3 0 n.threads)
def allP (n:Names):List Nm:=n.cells++(n.mutexes++n.threads)
theorem zav1 (n:Names):addLs 0 [n.cells,n.mutexes,n.threads] []=match dupM [] (allP n) with|some s=>.inr s|none=>.inl (entP n):=by
 unfold allP entP;rw[zak4,zak4];rw[addLs,zajx,List.map_nil];cases dupM [] n.cells with
 |some s=>rfl
 |none=>
  simp only[List.nil_append];rw[addLs,zajx,zae1];cases dupM n.cells n.mutexes with
  |some s=>rfl
  |none=>
   simp only;rw[addLs,zajx,List.map_append,zae1,zae1];cases dupM (n.cells++n.mutexes) n.threads with
   |some s=>rfl
   |none=>simp only[List.append_assoc,addLs]; rfl
theorem zam6:∀ (l seen:List Nm),dupM seen l=none→(∀ s∈l,s∉seen)∧l.Nodup
 |[],seen,_=>⟨by simp,List.nodup_nil⟩
 |s::l,seen,h=>by
  rw[dupM] at h;cases hs:seen.any (·==s) with
  |true=>rw[hs] at h; cases h
  |false=>
   rw[hs,cond_false] at h;obtain ⟨h1,h2⟩:=zam6 l _ h;have hn:s∉seen:=by
    intro hm;rw[List.any_eq_false] at hs;exact hs s hm (beq_self_eq_true s)
   refine ⟨?_,?_⟩
   ·intro t ht;rcases List.mem_cons.1 ht with rfl|ht
    ·exact hn
    ·intro hm;exact h1 t ht (List.mem_append.2 (Or.inl hm))
   ·refine List.nodup_cons.2 ⟨?_,h2⟩;intro hm;exact h1 s hm (by simp)
theorem zag2 (c:Int) (s:Nm):∀ (l:List Nm) (k:Nat),mapAt (ent c k l) s=bif decide (plc l s<0) then none else some ⟨c,k+plc l s⟩
 |[],k=>rfl
 |x::l,k=>by
  rw[zah7,ent];have e:mapAt ((x,(⟨c,k⟩:Thing))::ent c (k+1) l) s=bif x==s then some ⟨c,k⟩ else mapAt (ent c (k+1) l) s:=by
   unfold mapAt;rw[List.find?_cons];show Option.map _ (match x==s with|true=>_|false=>_)=_;cases x==s<;>rfl
  rw[e,zag2 c s l (k+1)];cases x==s with
  |true=>
   show some (⟨c,k⟩:Thing)=some ⟨c,(k:Int)+0⟩;rw[Int.add_zero]
  |false=>
   rw[cond_false,cond_false];cases h:decide (plc l s<0) with
   |true=>rfl
   |false=>
    rw[decide_eq_false_iff_not] at h;rw[cond_false,cond_false,decide_eq_false (by omega),cond_false];congr 2;omega
def thing (n:Names) (s:Nm):Bool:=(decide (0≤plc n.cells s)||decide (0≤plc n.mutexes s))||decide (0≤plc n.threads s)
def plK (n:Names) (k:Int) (s:Nm):Int:=bif needK k==1 then plc n.cells s else bif needK k==2 then plc n.mutexes s else plc n.threads s
def objN (n:Names) (k:Int) (s:Nm):Int⊕(Int×Nm):=bif needK k==0 then .inl 0 else bif thing n s then (bif decide (plK n k s<0) then .inr (65,s) else .inl (plK n k s)) else .inr (64,s)
theorem zatn (n:Names) (s:Nm):thing n s=(allP n).any (·==s):=by
 have key:∀ l:List Nm,decide (0≤plc l s)=l.any (·==s):=by
  intro l;rw[Bool.eq_iff_iff,decide_eq_true_eq,zajs,List.any_eq_true];constructor
  ·intro h; exact ⟨s,h,beq_self_eq_true s⟩
  ·rintro ⟨x,hx,e⟩; have:=eq_of_beq e; rw[← this]; exact hx
 unfold thing allP;rw[key,key,key,List.any_append,List.any_append,Bool.or_assoc]
theorem zare (n:Names):thB (entP n)=thing n:=by
 funext s;rw[zahz,zatn];unfold entP allP;rw[List.map_append,List.map_append,zae1,zae1,zae1]
theorem zafa (k:Int):needK k=0∨needK k=1∨needK k=2∨needK k=3:=by
 unfold needK;cases (k==2||k==3||k==4)<;>cases (k==5||k==6)<;>cases (k==7||k==8)<;>simp
theorem zavj (n:Names) (hd:dupM [] (allP n)=none):objM (entP n)=objN n:=by
 obtain ⟨_,hn⟩:=zam6 _ _ hd;unfold allP at hn;rw[List.nodup_append,List.nodup_append] at hn;obtain ⟨_,⟨_,_,hbc⟩,habc⟩:=hn;funext k s;unfold objM objN;rw[zare];cases hk:needK k==0 with
 |true=>rfl
 |false=>
  rw[cond_false,cond_false];cases ht:thing n s with
  |false=>rfl
  |true=>
   rw[cond_true,cond_true];unfold entP;rw[zam9,zam9,zag2,zag2,zag2];simp only[Int.natCast_zero,Int.zero_add];have hk0:needK k≠0:=by intro h; rw[h] at hk; cases hk
   have hA:=zajs n.cells s;have hB:=zajs n.mutexes s;have hC:=zajs n.threads s;unfold plK;cases ca:decide (plc n.cells s<0) with
   |false=>
    rw[decide_eq_false_iff_not] at ca;have ma:=hA.1 (by omega);have nb:¬ s∈n.mutexes:=fun h=>habc s ma s (List.mem_append.2 (Or.inl h)) rfl
    have nc:¬ s∈n.threads:=fun h=>habc s ma s (List.mem_append.2 (Or.inr h)) rfl
    have ib:plc n.mutexes s<0:=by by_cases h:0≤plc n.mutexes s; exact absurd (hB.1 h) nb; omega
    have ic:plc n.threads s<0:=by by_cases h:0≤plc n.threads s; exact absurd (hC.1 h) nc; omega
    rcases zafa k with h|h|h|h
    ·exact absurd h hk0
    ·rw[h]; simp[ca]
    ·rw[h]; simp[ib]
    ·rw[h]; simp[ic]
   |true=>
    rw[decide_eq_true_eq] at ca;cases cb:decide (plc n.mutexes s<0) with
    |false=>
     rw[decide_eq_false_iff_not] at cb;have mb:=hB.1 (by omega);have nc:¬ s∈n.threads:=fun h=>hbc s mb s h rfl
     have ic:plc n.threads s<0:=by by_cases h:0≤plc n.threads s; exact absurd (hC.1 h) nc; omega
     rcases zafa k with h|h|h|h
     ·exact absurd h hk0
     ·rw[h]; simp[ca]
     ·rw[h]; simp[cb]
     ·rw[h]; simp[ic]
    |true=>
     rw[decide_eq_true_eq] at cb;have ic:¬ plc n.threads s<0:=by
      unfold thing at ht;simp only[Bool.or_eq_true,decide_eq_true_eq] at ht;omega
     rcases zafa k with h|h|h|h
     ·exact absurd h hk0
     ·rw[h]; simp[ca,ic]
     ·rw[h]; simp[cb,ic]
     ·rw[h]; simp[ic]
def headN (n:Names):Option (Int×Nm):=
 bif n.threads.length==0 then some (60,[]) else bif zaa9 n.threads then some (60,(n.threads[8]?).getD []) else bif zaa9 n.cells then some (61,(n.cells[8]?).getD [])
 else bif zaa9 n.mutexes then some (62,(n.mutexes[8]?).getD []) else match dupM [] (allP n) with|some s=>some (63,s)|none=>none
theorem zat1 (n:Names):zah0 n=match headN n with|some e=>.inr e|none=>.inl (entP n):=by
 unfold zah0 headN;rw[zav1];cases n.threads.length==0<;>cases zaa9 n.threads<;>cases zaa9 n.cells<;>cases zaa9 n.mutexes<;>try rfl
 simp only[cond_false];cases dupM [] (allP n)<;>rfl
theorem zat6 {n:Names} (h:headN n=none):dupM [] (allP n)=none:=by
 unfold headN at h;revert h;cases n.threads.length==0<;>cases zaa9 n.threads<;>cases zaa9 n.cells<;>cases zaa9 n.mutexes<;>simp only[cond_true,cond_false]<;>try (intro h; cases h)
 cases dupM [] (allP n) with
 |none=>intro _; rfl
 |some s=>intro h; cases h
def thrN (n:Names):List TThread→List (List TAct×List Nm)⊕(Int×Nm)
 |[]=>.inl []
 |t::l=>match acNs (thing n) (objN n) t.body [] with
  |.inr e=>.inr e
  |.inl y=>match thrN n l with
   |.inr e=>.inr e
   |.inl z=>.inl (y::z)
theorem zarj (n:Names) (h:dupM [] (allP n)=none):∀ l,thrM (entP n) l=thrN n l
 |[]=>rfl
 |t::l=>by
  rw[thrM,thrN,zarj n h l];show (match acNs (thB (entP n)) (objM (entP n)) t.body [] with|.inr e=>_|.inl y=>_)=_;rw[zare,zavj n h]
  all_goals
   cases acNs (thing n) (objN n) t.body [] with
   |inr e=>rfl
   |inl y=>simp only; cases thrN n l<;>rfl
theorem zanh (p:TProg):zage p=match headN (zaa1 p) with
 |some e=>.inr e
 |none=>match thrN (zaa1 p) p.threads with
  |.inr e=>.inr e
  |.inl z=>.inl (⟨p.cells.map (·.init),p.mutexes.length,z.map fun y=>⟨y.2.length,y.1⟩⟩,⟨p.cells.map (·.name),p.mutexes,p.threads.map (·.name),z.map (·.2)⟩):=by
 unfold zage;rw[zat1];cases h:headN (zaa1 p) with
 |some e=>rfl
 |none=>
  simp only;rw[zarj _ (zat6 h)];all_goals cases thrN (zaa1 p) p.threads<;>rfl
end Lift.A9
namespace Lift.A9
open Go Go.RowKit Lift Go.IntWalk Lift.Fn Lift.A3
set_option linter.unusedVariables false
set_option linter.unusedSimpArgs false
theorem nm_a:isNm [97]=true:=(nm_of [97] [97] ⟨1,[97],0,0⟩ (by decide) (by decide +kernel) (by decide +kernel) (by decide +kernel)).trans (by decide)
theorem nm_b:isNm [98]=true:=(nm_of [98] [98] ⟨1,[98],0,0⟩ (by decide) (by decide +kernel) (by decide +kernel) (by decide +kernel)).trans (by decide)
theorem nm_c:isNm [99]=true:=(nm_of [99] [99] ⟨1,[99],0,0⟩ (by decide) (by decide +kernel) (by decide +kernel) (by decide +kernel)).trans (by decide)
def noX:TExpr:=⟨0,0,[],[]⟩
def s1 (a x:Nm):TStmt:=⟨2,a,x,noX,0,[],[]⟩
def s2 (a b c:Nm):TStmt:=⟨1,b,[],⟨5,0,[],[⟨2,0,a,[]⟩,⟨2,0,c,[]⟩]⟩,0,[],[]⟩
def pS (x t a b c:Nm):TProg:=⟨[⟨x,3⟩],[],[⟨t,[s1 a x,s2 a b c]⟩]⟩
def pT:TProg:=⟨[⟨[116],0⟩],[],[⟨[116],[]⟩]⟩
theorem rS {x t a b c:Nm} (hx:isNm x=true) (ht:isNm t=true) (ha:isNm a=true) (hb:isNm b=true) (hc:isNm c=true):zabh (pS x t a b c)=0:=by
 have e1:sF (s1 a x)=true:=by
  have h2:shp 2=⟨true,true,false,false,false,false⟩:=by decide
  have hi:inR 2=true:=by decide
  simp[sF,s1,noX,sOk,h2,hi,isOpt,hx,ha,zaaq,none_,sFs]
 have e2:sF (s2 a b c)=true:=by
  have h1:shp 1=⟨true,false,true,false,false,false⟩:=by decide
  have hi:inR 1=true:=by decide
  simp[sF,s2,sOk,h1,hi,isOpt,ha,hb,hc,zaaq,eF,eFs,xOk,sFs]
 have ok:pOk (pS x t a b c)=true:=by
  simp[pOk,pS,cOk,hx,ht,sFs,e1,e2]
 unfold zabh;rw[ok];have h1:maxEv (evP (pS x t a b c)) 0=2:=by simp[evP,pS,s1,s2,noX,evSs,evS,zaaq,evE,evEs,maxEv,evD]; rfl
 have h2:cT (pS x t a b c).threads=5:=by simp[pS,s1,s2,noX,cT,cSs,cS,zaaq,nE,nEs]
 rw[h1,h2];rfl
theorem rT:zabh pT=0:=by
 have ok:pOk pT=true:=by simp[pOk,pT,cOk,nm_t,sFs]
 unfold zabh;rw[ok];have h1:maxEv (evP pT) 0=0:=by simp[evP,pT,evSs,maxEv]
 have h2:cT pT.threads=0:=by simp[pT,cT,cSs]
 rw[h1,h2];rfl
def uS:TUnit:=⟨[3],0,[⟨3,[⟨2,0,0,noX,0,[],[]⟩,⟨1,1,0,⟨5,0,[],[⟨2,0,[],[]⟩,⟨2,2,[],[]⟩]⟩,0,[],[]⟩]⟩]⟩
def nS0:Names:=⟨[[120]],[],[[116]],[[[97],[98],[99]]]⟩
theorem chS:zage (pS [120] [116] [97] [98] [99])=.inl (uS,nS0):=by kernel_rfl
theorem cT0:zage pT=.inr (63,[116]):=by kernel_rfl
theorem rUS:zadq uS=true:=by
 unfold zadq;have:zaar uS (nmsU uS)=pS [120] [120] [120] [120] [120]:=by kernel_rfl
 rw[this,rS nm_x nm_x nm_x nm_x nm_x];rfl
theorem zaxj:qaH=some true:=by
 rw[qaH,zaaa];unfold qaH_f;have e1:=zap5 (pS [120] [116] [97] [98] [99]) (by decide) (by decide) (by decide);have e2:=zap5 pT (by decide) (by decide) (by decide);have e3:=zaie uS (by decide) (by decide);rw[zacc,rS nm_x nm_t nm_a nm_b nm_c,chS] at e1;rw[zacc,rT,cT0] at e2;rw[rUS] at e3;show Option.bind (qam (pS [120] [116] [97] [98] [99])) _=_;rw[e1,Option.bind_some];show Option.bind (qam pT) _=_;rw[e2,Option.bind_some];show Option.bind (qan uS) _=_;rw[e3];rfl
end Lift.A9
namespace Lift.A9
open Go Go.RowKit Lift Go.IntWalk Lift.Fn Lift.A3
set_option linter.unusedVariables false
set_option linter.unusedSimpArgs false
structure St where
 e:Int
 nm:Nm
 rs:List Nm
def regD (n:Names) (s:Nm) (t:St):Int×St:=
 bif t.e != 0 then (0,t) else bif thing n s then (0,⟨65,s,t.rs⟩) else bif decide (plc t.rs s<0) then (bif decide ((t.rs.length:Int)≥8) then (0,⟨66,s,t.rs⟩) else (t.rs.length,⟨t.e,t.nm,t.rs++[s]⟩)) else (plc t.rs s,t)
def objD (n:Names) (k:Int) (s:Nm) (t:St):Int×St:=
 bif t.e != 0 then (0,t) else bif !thing n s then (0,⟨64,s,t.rs⟩) else bif decide (plK n k s<0) then (0,⟨65,s,t.rs⟩) else (plK n k s,t)
mutual
def exD (n:Names):TExpr→St→TExpr×St
 |⟨k,m,s,l⟩,t=>bif k==2 then (let i:=regD n s t; let a:=exDs n l i.2; (⟨k,i.1,[],a.1⟩,a.2)) else (let a:=exDs n l t; (⟨k,m,[],a.1⟩,a.2))
def exDs (n:Names):List TExpr→St→List TExpr×St
 |[],t=>([],t)
 |x::l,t=>let a:=exD n x t; let b:=exDs n l a.2; (a.1::b.1,b.2)
end
def regDO (n:Names) (b:Bool) (s:Nm) (t:St):Int×St:=bif b then regD n s t else (0,t)
def objDO (n:Names) (b:Bool) (k:Int) (s:Nm) (t:St):Int×St:=bif b then objD n k s t else (0,t)
def exDO (n:Names) (b:Bool) (x:TExpr) (t:St):TExpr×St:=bif b then exD n x t else (⟨0,0,[],[]⟩,t)
mutual
def acD (n:Names):TStmt→St→TAct×St
 |⟨k,r,nm,x,c,th,el⟩,t=>
  let a:=regDO n (shp k).reg r t
  let b:=objDO n (shp k).name k nm a.2
  let y:=exDO n (shp k).expr x b.2
  let z:=acDs n th y.2
  let q:=acDs n el z.2
  (⟨k,a.1,b.1,y.1,c,z.1,q.1⟩,q.2)
def acDs (n:Names):List TStmt→St→List TAct×St
 |[],t=>([],t)
 |x::l,t=>bif t.e==0 then (let a:=acD n x t; let b:=acDs n l a.2; (a.1::b.1,b.2)) else ([],t)
end
structure Nok (n:Names):Prop where
 c:n.cells.length≤100000000
 m:n.mutexes.length≤100000000
 t:n.threads.length≤100000000
end Lift.A9
namespace Lift.A9
open Go Go.RowKit Lift Go.IntWalk Lift.Fn Lift.A3
set_option linter.unusedVariables false
set_option linter.unusedSimpArgs false
theorem zap0 (n:Names) (t:St):acDs n [] t=([],t):=by rw[acDs]
theorem zam7 (n:Names) (x:TStmt) (l:List TStmt) (t:St):acDs n (x::l) t=bif t.e==0 then ((acD n x t).1::(acDs n l (acD n x t).2).1,(acDs n l (acD n x t).2).2) else ([],t):=by rw[acDs]
end Lift.A9
namespace Lift.A9
open Go Go.RowKit Lift Go.IntWalk Lift.Fn Lift.A3
set_option linter.unusedVariables false
set_option linter.unusedSimpArgs false
theorem zat9 (n:Names) (s:Nm) (t:St) (h:t.e≠0):(regD n s t).2=t:=by
 unfold regD;have:(t.e != 0)=true:=by simpa [bne] using h
 rw[this];rfl
theorem zaue (n:Names) (k:Int) (s:Nm) (t:St) (h:t.e≠0):(objD n k s t).2=t:=by
 unfold objD;have:(t.e != 0)=true:=by simpa [bne] using h
 rw[this];rfl
mutual
theorem zapo (n:Names):∀ (x:TExpr) (t:St),t.e≠0→(exD n x t).2=t
 |⟨k,m,s,l⟩,t,h=>by
  rw[exD];cases k==2 with
  |true=>
   show (exDs n l (regD n s t).2).2=t;rw[zat9 n s t h];exact zafn n l t h
  |false=>exact zafn n l t h
theorem zafn (n:Names):∀ (l:List TExpr) (t:St),t.e≠0→(exDs n l t).2=t
 |[],t,h=>by rw[exDs]
 |x::l,t,h=>by
  rw[exDs];show (exDs n l (exD n x t).2).2=t;rw[zapo n x t h];exact zafn n l t h
end
theorem zatt (n:Names) (l:List TStmt) (t:St) (h:t.e≠0):acDs n l t=([],t):=by
 cases l with
 |nil=>rw[zap0]
 |cons x l=>
  have:(t.e==0)=false:=by rw[beq_eq_false_iff_ne]; exact h
  rw[zam7,this];rfl
def Ag {α:Type} (nm:Nm) (r:(α×List Nm)⊕(Int×Nm)) (q:α×St):Prop:=match r with
 |.inl y=>q=(y.1,⟨0,nm,y.2⟩)
 |.inr e=>q.2.e=e.1∧q.2.nm=e.2∧e.1≠0
theorem regAg (n:Names) (s:Nm) (nm:Nm) (rs:List Nm):Ag nm (regM (thing n) rs s) (regD n s ⟨0,nm,rs⟩):=by
 unfold regM regD;have e:((⟨0,nm,rs⟩:St).e != 0)=false:=rfl;rw[e];cases thing n s with
 |true=>
  show (65:Int)=65∧s=s∧(65:Int)≠0;exact ⟨rfl,rfl,by decide⟩
 |false=>
  simp only[cond_false];cases decide (plc rs s<0) with
  |false=>rfl
  |true=>
   simp only[cond_true];by_cases h:8≤rs.length
   ·rw[decide_eq_true h,decide_eq_true (by omega)];show (66:Int)=66∧s=s∧(66:Int)≠0;exact ⟨rfl,rfl,by decide⟩
   ·rw[decide_eq_false h,decide_eq_false (by omega)];rfl
theorem objAg (n:Names) (k:Int) (s:Nm) (nm:Nm) (rs:List Nm) (h:needK k≠0):match objN n k s with
  |.inl i=>objD n k s ⟨0,nm,rs⟩=(i,⟨0,nm,rs⟩)
  |.inr e=>(objD n k s ⟨0,nm,rs⟩).2.e=e.1∧(objD n k s ⟨0,nm,rs⟩).2.nm=e.2∧e.1≠0:=by
 unfold objN objD;have hk:(needK k==0)=false:=by rw[beq_eq_false_iff_ne]; exact h
 rw[hk];simp only[cond_false];cases thing n s with
 |false=>
  show (64:Int)=64∧s=s∧(64:Int)≠0;exact ⟨rfl,rfl,by decide⟩
 |true=>
  cases decide (plK n k s<0) with
  |true=>
   show (65:Int)=65∧s=s∧(65:Int)≠0;exact ⟨rfl,rfl,by decide⟩
  |false=>rfl
mutual
theorem exAg (n:Names):∀ (x:TExpr) (nm:Nm) (rs:List Nm),Ag nm (exM (thing n) x rs) (exD n x ⟨0,nm,rs⟩)
 |⟨k,m,s,l⟩,nm,rs=>by
  rw[exM,exD];cases k==2 with
  |true=>
   simp only[cond_true];have h1:=regAg n s nm rs;revert h1;cases regM (thing n) rs s with
   |inr e=>
    rintro ⟨a,b,c⟩
    have hd:(exDs n l (regD n s ⟨0,nm,rs⟩).2).2=(regD n s ⟨0,nm,rs⟩).2:=zafn n l _ (by rw[a]; exact c);show (exDs n l (regD n s ⟨0,nm,rs⟩).2).2.e=e.1∧_;exact ⟨by rw[hd]; exact a,by show (exDs n l (regD n s ⟨0,nm,rs⟩).2).2.nm=e.2; rw[hd]; exact b,c⟩
   |inl y=>
    intro h1;have h1:regD n s ⟨0,nm,rs⟩=(y.1,⟨0,nm,y.2⟩):=h1;rw[h1];have h2:=exsAg n l nm y.2;revert h2;simp only;cases exMs (thing n) l y.2 with
    |inr e=>exact fun h=>h
    |inl z=>
     intro h2;have h2:exDs n l ⟨0,nm,y.2⟩=(z.1,⟨0,nm,z.2⟩):=h2;show (_,_)=_;rw[h2]
  |false=>
   simp only[cond_false];have h2:=exsAg n l nm rs;revert h2;cases exMs (thing n) l rs with
   |inr e=>exact fun h=>h
   |inl z=>
    intro h2;have h2:exDs n l ⟨0,nm,rs⟩=(z.1,⟨0,nm,z.2⟩):=h2;show (_,_)=_;rw[h2]
theorem exsAg (n:Names):∀ (l:List TExpr) (nm:Nm) (rs:List Nm),Ag nm (exMs (thing n) l rs) (exDs n l ⟨0,nm,rs⟩)
 |[],nm,rs=>by rw[exMs,exDs]; rfl
 |x::l,nm,rs=>by
  rw[exMs,exDs];have h1:=exAg n x nm rs;revert h1;cases exM (thing n) x rs with
  |inr e=>
   rintro ⟨a,b,c⟩
   have hd:(exDs n l (exD n x ⟨0,nm,rs⟩).2).2=(exD n x ⟨0,nm,rs⟩).2:=zafn n l _ (by rw[a]; exact c);show (exDs n l (exD n x ⟨0,nm,rs⟩).2).2.e=e.1∧_;exact ⟨by rw[hd]; exact a,by show (exDs n l (exD n x ⟨0,nm,rs⟩).2).2.nm=e.2; rw[hd]; exact b,c⟩
  |inl y=>
   intro h1;have h1:exD n x ⟨0,nm,rs⟩=(y.1,⟨0,nm,y.2⟩):=h1;rw[h1];have h2:=exsAg n l nm y.2;revert h2;simp only;cases exMs (thing n) l y.2 with
   |inr e=>exact fun h=>h
   |inl z=>
    intro h2;have h2:exDs n l ⟨0,nm,y.2⟩=(z.1,⟨0,nm,z.2⟩):=h2;show (_,_)=_;rw[h2]
end
end Lift.A9
namespace Lift.A9
open Go Go.RowKit Lift Go.IntWalk Lift.Fn Lift.A3
set_option linter.unusedVariables false
set_option linter.unusedSimpArgs false
theorem zasq (n:Names) (b:Bool) (k:Int) (s:Nm) (t:St) (h:t.e≠0):(objDO n b k s t).2=t:=by
 cases b with
 |true=>exact zaue n k s t h
 |false=>rfl
theorem zam1 (n:Names) (b:Bool) (x:TExpr) (t:St) (h:t.e≠0):(exDO n b x t).2=t:=by
 cases b with
 |true=>exact zapo n x t h
 |false=>rfl
theorem zaco (n:Names) (l:List TStmt) (t:St) (h:t.e≠0):(acDs n l t).2=t:=by rw[zatt n l t h]
theorem zaog {x:TStmt} (h:sOk x=true):inR x.kind=true∧(shp x.kind).reg=!(x.reg==[])∧(shp x.kind).name=!(needK x.kind==0)∧(shp x.kind).expr=!(x.expr.kind==0):=by
 unfold sOk at h;simp only[Bool.and_eq_true] at h;obtain ⟨⟨⟨⟨⟨⟨h1,h2⟩,_⟩,h4⟩,_⟩,_⟩,_⟩:=h;refine ⟨h1,?_,zaoe h1,?_⟩
 ·unfold isOpt at h2;cases hb:(shp x.kind).reg with
  |true=>
   rw[hb] at h2;simp only[Bool.true_and,Bool.not_true,Bool.false_and,Bool.or_false] at h2;cases he:x.reg==[] with
   |false=>rfl
   |true=>
    have:=eq_of_beq he;rw[this,zamx] at h2;cases h2
  |false=>
   rw[hb] at h2;simp only[Bool.false_and,Bool.not_false,Bool.true_and,Bool.false_or] at h2;rw[h2];rfl
 ·cases hb:(shp x.kind).expr with
  |true=>
   rw[hb] at h4;simp only[Bool.true_and,Bool.not_true,Bool.false_and,Bool.or_false,bne] at h4;exact h4.symm
  |false=>
   rw[hb] at h4;simp only[Bool.false_and,Bool.not_false,Bool.true_and,Bool.false_or,none_,Bool.and_eq_true] at h4;rw[h4.1.1.1];rfl
theorem zaxi (n:Names) (s:Nm) (nm:Nm) (rs:List Nm):Ag nm (regO (thing n) rs s) (regDO n (!(s==[])) s ⟨0,nm,rs⟩):=by
 unfold regO;cases s==[] with
 |true=>rfl
 |false=>exact regAg n s nm rs
theorem exOAg (n:Names) (x:TExpr) (nm:Nm) (rs:List Nm):Ag nm (exO (thing n) x rs) (exDO n (!(x.kind==0)) x ⟨0,nm,rs⟩):=by
 unfold exO;cases x.kind==0 with
 |true=>rfl
 |false=>exact exAg n x nm rs
theorem zaw7 (n:Names) (k:Int) (s:Nm) (nm:Nm) (rs:List Nm):match objN n k s with
  |.inl i=>objDO n (!(needK k==0)) k s ⟨0,nm,rs⟩=(i,⟨0,nm,rs⟩)
  |.inr e=>(objDO n (!(needK k==0)) k s ⟨0,nm,rs⟩).2.e=e.1∧(objDO n (!(needK k==0)) k s ⟨0,nm,rs⟩).2.nm=e.2∧e.1≠0:=by
 cases hk:needK k==0 with
 |true=>
  unfold objN;rw[hk];rfl
 |false=>exact objAg n k s nm rs (by simpa using hk)
mutual
theorem acAg (n:Names):∀ (x:TStmt) (nm:Nm) (rs:List Nm),sF x=true→Ag nm (acN (thing n) (objN n) x rs) (acD n x ⟨0,nm,rs⟩)
 |⟨k,r,s,x,c,th,el⟩,nm,rs,h=>by
  rw[sF_eq] at h;simp only[Bool.and_eq_true] at h;obtain ⟨h1,_,h3,h4⟩:=h;obtain ⟨_,f1,f2,f3⟩:=zaog h1;simp only at f1 f2 f3;rw[acN,acD,f1,f2,f3];have hA:=zaxi n r nm rs;revert hA;cases regO (thing n) rs r with
  |inr e=>
   rintro ⟨a,b,c0⟩
   generalize regDO n (!(r==[])) r ⟨0,nm,rs⟩=qa at a b ⊢;have c':qa.2.e≠0:=by rw[a]; exact c0
   have d:(acDs n el (acDs n th (exDO n (!(x.kind==0)) x (objDO n (!(needK k==0)) k s qa.2).2).2).2).2=qa.2:=by
    rw[zasq n _ k s qa.2 c',zam1 n _ x qa.2 c',zaco n th qa.2 c',zaco n el qa.2 c']
   show (acDs n el (acDs n th (exDO n (!(x.kind==0)) x (objDO n (!(needK k==0)) k s qa.2).2).2).2).2.e=e.1∧(acDs n el (acDs n th (exDO n (!(x.kind==0)) x (objDO n (!(needK k==0)) k s qa.2).2).2).2).2.nm=e.2∧e.1≠0;rw[d];exact ⟨a,b,c0⟩
  |inl y=>
   intro hA;have hA:regDO n (!(r==[])) r ⟨0,nm,rs⟩=(y.1,⟨0,nm,y.2⟩):=hA;rw[hA];have hB:=zaw7 n k s nm y.2;revert hB;simp only;cases objN n k s with
   |inr e=>
    simp only;rintro ⟨a,b,c0⟩
    generalize objDO n (!(needK k==0)) k s ⟨0,nm,y.2⟩=qa at a b ⊢;have c':qa.2.e≠0:=by rw[a]; exact c0
    have d:(acDs n el (acDs n th (exDO n (!(x.kind==0)) x qa.2).2).2).2=qa.2:=by
     rw[zam1 n _ x qa.2 c',zaco n th qa.2 c',zaco n el qa.2 c']
    show (acDs n el (acDs n th (exDO n (!(x.kind==0)) x qa.2).2).2).2.e=e.1∧(acDs n el (acDs n th (exDO n (!(x.kind==0)) x qa.2).2).2).2.nm=e.2∧e.1≠0;rw[d];exact ⟨a,b,c0⟩
   |inl i=>
    simp only;intro hB;rw[hB];have hC:=exOAg n x nm y.2;revert hC;simp only;cases exO (thing n) x y.2 with
    |inr e=>
     rintro ⟨a,b,c0⟩
     generalize exDO n (!(x.kind==0)) x ⟨0,nm,y.2⟩=qa at a b ⊢;have c':qa.2.e≠0:=by rw[a]; exact c0
     have d:(acDs n el (acDs n th qa.2).2).2=qa.2:=by
      rw[zaco n th qa.2 c',zaco n el qa.2 c']
     show (acDs n el (acDs n th qa.2).2).2.e=e.1∧(acDs n el (acDs n th qa.2).2).2.nm=e.2∧e.1≠0;rw[d];exact ⟨a,b,c0⟩
    |inl z=>
     intro hC;have hC:exDO n (!(x.kind==0)) x ⟨0,nm,y.2⟩=(z.1,⟨0,nm,z.2⟩):=hC;rw[hC];have hD:=acsAg n th nm z.2 h3;revert hD;simp only;cases acNs (thing n) (objN n) th z.2 with
     |inr e=>
      rintro ⟨a,b,c0⟩
      generalize acDs n th ⟨0,nm,z.2⟩=qa at a b ⊢;have c':qa.2.e≠0:=by rw[a]; exact c0
      have d:(acDs n el qa.2).2=qa.2:=zaco n el qa.2 c';show (acDs n el qa.2).2.e=e.1∧(acDs n el qa.2).2.nm=e.2∧e.1≠0;rw[d];exact ⟨a,b,c0⟩
     |inl p=>
      intro hD;have hD:acDs n th ⟨0,nm,z.2⟩=(p.1,⟨0,nm,p.2⟩):=hD;rw[hD];have hE:=acsAg n el nm p.2 h4;revert hE;simp only;cases acNs (thing n) (objN n) el p.2 with
      |inr e=>exact fun h=>h
      |inl q=>
       intro hE;have hE:acDs n el ⟨0,nm,p.2⟩=(q.1,⟨0,nm,q.2⟩):=hE;show (_,_)=_;rw[hE]
theorem acsAg (n:Names):∀ (l:List TStmt) (nm:Nm) (rs:List Nm),sFs l=true→Ag nm (acNs (thing n) (objN n) l rs) (acDs n l ⟨0,nm,rs⟩)
 |[],nm,rs,_=>by rw[zagb,zap0]; rfl
 |x::l,nm,rs,h=>by
  rw[sFs,Bool.and_eq_true] at h;rw[zagw,zam7];have e0:((⟨0,nm,rs⟩:St).e==0)=true:=rfl;rw[e0,cond_true];have h1:=acAg n x nm rs h.1;revert h1;cases acN (thing n) (objN n) x rs with
  |inr e=>
   rintro ⟨a,b,c0⟩
   generalize acD n x ⟨0,nm,rs⟩=qa at a b ⊢;have c':qa.2.e≠0:=by rw[a]; exact c0
   have d:(acDs n l qa.2).2=qa.2:=zaco n l qa.2 c';show (acDs n l qa.2).2.e=e.1∧(acDs n l qa.2).2.nm=e.2∧e.1≠0;rw[d];exact ⟨a,b,c0⟩
  |inl y=>
   intro h1;have h1:acD n x ⟨0,nm,rs⟩=(y.1,⟨0,nm,y.2⟩):=h1;rw[h1];have h2:=acsAg n l nm y.2 h.2;revert h2;simp only;cases acNs (thing n) (objN n) l y.2 with
   |inr e=>exact fun h=>h
   |inl z=>
    intro h2;have h2:acDs n l ⟨0,nm,y.2⟩=(z.1,⟨0,nm,z.2⟩):=h2;show (_,_)=_;rw[h2]
end
end Lift.A9
namespace Lift.A9
open Go Go.RowKit Lift Go.IntWalk Lift.Fn Lift.A3
set_option linter.unusedVariables false
set_option linter.unusedSimpArgs false
end Lift.A9
namespace Lift.A9
open Go Go.RowKit Lift Go.IntWalk Lift.Fn Lift.A3
set_option linter.unusedVariables false
set_option linter.unusedSimpArgs false
structure SC where
 e:Int
 nm:Nm
 R:List (List Nm)
 B:List TBody
theorem zavl {n:Names} {e:Int×Nm} (h:headN n=some e):e.1≠0:=by
 unfold headN at h;revert h;cases n.threads.length==0<;>cases zaa9 n.threads<;>cases zaa9 n.cells<;>cases zaa9 n.mutexes<;>simp only[cond_true,cond_false]<;>try (intro h; cases h; simp)
 cases dupM [] (allP n) with
 |none=>intro h; cases h
 |some s=>intro h; cases h; simp
theorem zanl {p:TProg} (h:zabh p=0):pOk p=true:=by
 unfold zabh at h;cases hp:pOk p with
 |true=>rfl
 |false=>rw[hp] at h; simp at h
theorem zaou {p:TProg} (h:pOk p=true):∀ t∈p.threads,isNm t.name=true∧sFs t.body=true:=by
 unfold pOk at h;simp only[Bool.and_eq_true,List.all_eq_true] at h;exact h.2.2
end Lift.A9
namespace Lift.A9
open Go Go.RowKit Lift Go.IntWalk Lift.Fn Lift.A3
set_option linter.unusedVariables false
set_option linter.unusedSimpArgs false
mutual
theorem exM_n (th:Nm→Bool):∀ (x:TExpr) (rs:List Nm) (y:TExpr×List Nm),exM th x rs=.inl y→nE y.1=nE x
 |⟨k,n,s,l⟩,rs,y,h=>by
  rw[exM] at h;cases hk:k==2 with
  |true=>
   rw[hk,cond_true] at h;cases hr:regM th rs s with
   |inr e=>rw[hr] at h; cases h
   |inl r=>
    rw[hr] at h;simp only at h;cases hz:exMs th l r.2 with
    |inr e=>rw[hz] at h; cases h
    |inl z=>rw[hz] at h; cases h; simp only[nE,zapj th l r.2 z hz]
  |false=>
   rw[hk,cond_false] at h;cases hz:exMs th l rs with
   |inr e=>rw[hz] at h; cases h
   |inl z=>rw[hz] at h; cases h; simp only[nE,zapj th l rs z hz]
theorem zapj (th:Nm→Bool):∀ (l:List TExpr) (rs:List Nm) (y:List TExpr×List Nm),exMs th l rs=.inl y→nEs y.1=nEs l
 |[],rs,y,h=>by rw[exMs] at h; cases h; rfl
 |x::l,rs,y,h=>by
  rw[exMs] at h;cases hx:exM th x rs with
  |inr e=>rw[hx] at h; cases h
  |inl z=>
   rw[hx] at h;simp only at h;cases hz:exMs th l z.2 with
   |inr e=>rw[hz] at h; cases h
   |inl q=>rw[hz] at h; cases h; simp only[nEs,exM_n th x rs z hx,zapj th l z.2 q hz]
end
theorem exO_n {th:Nm→Bool} {x:TExpr} {rs:List Nm} {y:TExpr×List Nm} (h:exO th x rs=.inl y):nE y.1≤nE x:=by
 unfold exO at h;cases hk:x.kind==0 with
 |true=>
  rw[hk] at h;cases h;have:=nE_eq x;simp only[nE,nEs];omega
 |false=>rw[hk] at h; exact Nat.le_of_eq (exM_n th x rs y h)
mutual
theorem acN_n (tf:Nm→Bool) (ob:Int→Nm→Int⊕(Int×Nm)):∀ (x:TStmt) (rs:List Nm) (y:TAct×List Nm),acN tf ob x rs=.inl y→nA y.1≤nS x
 |⟨k,r,nm,x,c,t,o⟩,rs,y,h=>by
  rw[acN] at h;cases h1:regO tf rs r with
  |inr e=>rw[h1] at h; cases h
  |inl a=>
   rw[h1] at h;simp only at h;cases h2:ob k nm with
   |inr e=>rw[h2] at h; cases h
   |inl b=>
    rw[h2] at h;simp only at h;cases h3:exO tf x a.2 with
    |inr e=>rw[h3] at h; cases h
    |inl z=>
     rw[h3] at h;simp only at h;cases h4:acNs tf ob t z.2 with
     |inr e=>rw[h4] at h; cases h
     |inl p=>
      rw[h4] at h;simp only at h;cases h5:acNs tf ob o p.2 with
      |inr e=>rw[h5] at h; cases h
      |inl q=>
       rw[h5] at h;cases h;have e1:=exO_n h3;have e2:=zamg tf ob t z.2 p h4;have e3:=zamg tf ob o p.2 q h5;simp only[nA,nS];omega
theorem zamg (tf:Nm→Bool) (ob:Int→Nm→Int⊕(Int×Nm)):∀ (l:List TStmt) (rs:List Nm) (y:List TAct×List Nm),acNs tf ob l rs=.inl y→nAs y.1≤nSs l
 |[],rs,y,h=>by rw[zagb] at h; cases h; simp[nAs]
 |x::l,rs,y,h=>by
  rw[zagw] at h;cases h1:acN tf ob x rs with
  |inr e=>rw[h1] at h; cases h
  |inl a=>
   rw[h1] at h;simp only at h;cases h2:acNs tf ob l a.2 with
   |inr e=>rw[h2] at h; cases h
   |inl b=>
    rw[h2] at h;cases h;have e1:=acN_n tf ob x rs a h1;have e2:=zamg tf ob l a.2 b h2;simp only[nAs,nSs];omega
end
theorem zao2 (n : Names) : ∀ (l : List TThread) (z : List (List TAct × List Nm)), thrN n l = .inl z → nB (z.map fun y => ⟨y.2.length, y.1⟩) ≤ nT l ∧ z.length = l.length ∧ ∀ y ∈ z, y.2.length ≤ 8
 |[],z,h=>by rw[thrN] at h; cases h; simp[nB,nT]
 |t::l,z,h=>by
  rw[thrN] at h;cases h1:acNs (thing n) (objN n) t.body [] with
  |inr e=>rw[h1] at h; cases h
  |inl a=>
   rw[h1] at h;simp only at h;cases h2:thrN n l with
   |inr e=>rw[h2] at h; cases h
   |inl b=>
    rw[h2] at h;cases h;have e1:=zamg _ _ t.body [] a h1;obtain ⟨e2,e3,e4⟩:=zao2 n l b h2;have e5:=zacb (thing n) (objN n) t.body [] a (by simp) h1;refine ⟨by simp only[List.map_cons,nB,nT]; omega,by simp[e3],?_⟩;intro y hy;rcases List.mem_cons.1 hy with rfl|hy
    ·exact e5
    ·exact e4 y hy
theorem zau2 (p:TProg) (h:nT p.threads≤100000000) (h1:p.cells.length≤10000000) (h2:p.mutexes.length≤10000000) :
  nB (zacc p).1.threads≤100000000∧(zacc p).1.cells.length≤100000000∧(zacc p).2.1.cells.length≤100000000∧(zacc p).2.1.mutexes.length≤100000000∧(zacc p).2.1.threads.length≤100000000∧(zacc p).2.1.regs.length≤100000000∧∀ l∈(zacc p).2.1.regs,l.length≤100000000:=by
 have hl:=zafg p.threads;unfold zacc;cases zabh p != 0 with
 |true=>simp[unit0,zah3,nB]
 |false=>
  rw[cond_false,zanh];cases headN (zaa1 p) with
  |some e=>simp[outC,unit0,zah3,nB]
  |none=>
   cases hz:thrN (zaa1 p) p.threads with
   |inr e=>simp[outC,unit0,zah3,nB]
   |inl z=>
    obtain ⟨e1,e2,e3⟩:=zao2 _ _ z hz;simp only[outC];refine ⟨by omega,by simp; omega,by simp; omega,by omega,by simp; omega,by simp; omega,?_⟩;intro l hm;rw[List.mem_map] at hm;obtain ⟨y,hy,rfl⟩:=hm;have:=e3 y hy;omega
end Lift.A9
namespace Lift.A9
open Go Go.RowKit Lift Go.IntWalk Lift.Fn Lift.A3
set_option linter.unusedVariables false
set_option linter.unusedSimpArgs false
def usesS (op:Int):Bool×Bool×Bool:=
 bif op==1||op==19||op==20||op==21||op==28 then (true,false,false)
 else bif op==2||op==3||op==4 then (true,true,false)
 else bif op==22 then (false,true,false)
 else bif op==23 then (true,false,true)
 else (decide (5≤op)&&decide (op≤17),decide (5≤op)&&decide (op≤17),decide (5≤op)&&decide (op≤17))
def um (i:Instr) (m:Int):Int:=
 let m1:=bif (usesS i.op).1 then max m (i.a+1) else m
 let m2:=bif (usesS i.op).2.1 then max m1 (i.b+1) else m1
 bif (usesS i.op).2.2 then max m2 (i.c+1) else m2
end Lift.A9
namespace Lift.A9
open Go Go.RowKit Lift Go.IntWalk Lift.Fn Lift.A3
set_option linter.unusedVariables false
set_option linter.unusedSimpArgs false
end Lift.A9
namespace Lift.A9
open Go Go.RowKit Lift Go.IntWalk Lift.Fn Lift.A3
set_option linter.unusedVariables false
set_option linter.unusedSimpArgs false
end Lift.A9
namespace Lift.A9
open Go Go.RowKit Lift Go.IntWalk Lift.Fn Lift.A3
set_option linter.unusedVariables false
set_option linter.unusedSimpArgs false
theorem evE_eq (x:TExpr) (d:Int):evE x d=.e x d::evEs x.args (d+1):=by cases x; rw[evE]
theorem evS_eq (y:TStmt) (d:Int):evS y d=.s y d::((if zaaq y.expr then evE y.expr 1 else [])++(evSs y.then_ (d+1)++evSs y.else_ (d+1))):=by cases y; rw[evS]
def sh (l:List Ev):Prop:=∀ e∈l,evD e≤16
theorem zaoh:∀ (l:List Ev) (s:Int),maxEv l s≤16→sh l
 |[],_,_=>fun e h=>by cases h
 |e::l,s,h=>by
  have h1:maxEv l (max s (evD e))≤16:=h;have h2:=zap8 l (max s (evD e));intro x hx;cases hx with
  |head=>omega
  |tail _ hx=>exact zaoh l _ h1 x hx
end Lift.A9
namespace Lift.A9
open Go Go.RowKit Lift Go.IntWalk Lift.Fn Lift.A3
set_option linter.unusedVariables false
set_option linter.unusedSimpArgs false
theorem zau3 (u:TUnit) (h:zadq u=true):u.cells.length≤8∧0≤u.mutexes∧u.mutexes≤8∧u.threads.length≤8 ∧
  ∀ t∈u.threads,0≤t.regs∧t.regs≤8∧sFs (nSts (nmU u t.regs) t.acts)=true∧sh (evSs (nSts (nmU u t.regs) t.acts) 1):=by
 unfold zadq at h;cases hu:zaef u with
 |true=>rw[hu] at h; cases h
 |false=>
  rw[hu,cond_false] at h;unfold zaef at hu;simp only[Bool.or_eq_false_iff,decide_eq_false_iff_not] at hu;obtain ⟨⟨⟨⟨u1,u2⟩,u3⟩,u4⟩,u5⟩:=hu;cases ha:u.threads.all (fun t=>!zadd t) with
  |false=>rw[ha] at h; cases h
  |true=>
   rw[ha,cond_true] at h;have h:=eq_of_beq h;unfold zabh at h;cases hp:pOk (zaar u (nmsU u)) with
   |false=>rw[hp] at h; simp at h
   |true=>
    rw[hp,Bool.not_true,cond_false] at h;by_cases hm:maxEv (evP (zaar u (nmsU u))) 0>16
    ·rw[decide_eq_true hm,cond_true] at h; cases h
    ·have hsh:=zaoh _ _ (by omega:maxEv (evP (zaar u (nmsU u))) 0≤16);refine ⟨by omega,by omega,by omega,by omega,fun t ht=>?_⟩;have hb:=List.all_eq_true.1 ha t ht;rw[Bool.not_eq_true'] at hb;unfold zadd at hb;simp only[Bool.or_eq_false_iff,decide_eq_false_iff_not] at hb
     -- its thread in the program
     have hx:∀ n,(xs n).length=n:=by intro n; simp[xs]
     obtain ⟨i,hi,rfl⟩:=List.mem_iff_getElem.1 ht;have hmem:∃ nm,TThread.mk nm (nSts (nmU u u.threads[i].regs) u.threads[i].acts)∈(zaar u (nmsU u)).threads:=by
      refine ⟨[120],?_⟩;show _∈(u.threads.zip ((xs u.threads.length).zip (u.threads.map fun t=>xs t.regs.toNat))).map fun z=>TThread.mk z.2.1 (nSts ⟨xs u.cells.length,xs u.mutexes.toNat,xs u.threads.length,z.2.2⟩ z.1.acts)
      rw[List.mem_map];refine ⟨(u.threads[i],([120],xs u.threads[i].regs.toNat)),?_,rfl⟩;apply List.mem_of_getElem? (i:=i);rw[List.getElem?_zip_eq_some];refine ⟨by simp[hi],?_⟩;rw[List.getElem?_zip_eq_some];exact ⟨zaus _ _ hi,by simp[hi]⟩
     obtain ⟨nm,hmem⟩:=hmem;refine ⟨by omega,by omega,?_,?_⟩
     ·unfold pOk at hp;simp only[Bool.and_eq_true,List.all_eq_true] at hp;exact (hp.2.2 _ hmem).2
     ·intro e he;refine hsh e ?_;unfold evP;rw[List.mem_flatMap];exact ⟨_,hmem,he⟩
end Lift.A9
namespace Lift.A9
open Go Go.RowKit Lift Go.IntWalk Lift.Fn Lift.A3
set_option linter.unusedVariables false
set_option linter.unusedSimpArgs false
theorem zal0 {l:List Nm} {i:Int} (h0:0≤i) (h:i<(l.length:Int)):l[i.toNat]? = some (atL l i):=by
 have h4:i.toNat<l.length:=by omega
 unfold atL;rw[decide_eq_true h0,decide_eq_true h,List.getElem?_eq_getElem h4];rfl
def nmB (n:Names) (regs:List Nm):Namer:=⟨n.cells,n.mutexes,n.threads,regs⟩
structure Fit (u:TUnit) (n:Names):Prop where
 c:n.cells.length=u.cells.length
 m:(n.mutexes.length:Int)=u.mutexes
 t:n.threads.length=u.threads.length
end Lift.A9
namespace Lift.A9
open Go Go.RowKit Lift Go.IntWalk Lift.Fn Lift.A3
set_option linter.unusedVariables false
set_option linter.unusedSimpArgs false
end Lift.A9
namespace Lift.A9
open Go Go.RowKit Lift Go.IntWalk Lift.Fn Lift.A3
set_option linter.unusedVariables false
set_option linter.unusedSimpArgs false
def unfit (u:TUnit) (n:Names):Bool:=((((n.cells.length:Int) != u.cells.length)||((n.mutexes.length:Int) != u.mutexes))||((n.threads.length:Int) != u.threads.length))||((n.regs.length:Int) != u.threads.length)
theorem zaxb {u:TUnit} {n:Names} (h:unfit u n=false):Fit u n∧n.regs.length=u.threads.length:=by
 unfold unfit at h;simp only[Bool.or_eq_false_iff,bne,Bool.not_eq_false',beq_iff_eq] at h;obtain ⟨⟨⟨a,b⟩,c⟩,d⟩:=h;exact ⟨⟨by omega,b,by omega⟩,by omega⟩
def zaf5 (z:TBody×List Nm):Bool:=(z.2.length:Int)==z.1.regs
noncomputable def backV (u:TUnit) (n:Names):Int×List TCell×List Nm×List TThread:=
 bif !zadq u||unfit u n then (1,[],[],[]) else bif (u.threads.zip n.regs).all zaf5 then (bif zabh (zaar u n) != 0 then (zabh (zaar u n),[],[],[]) else (0,(zaar u n).cells,(zaar u n).mutexes,(zaar u n).threads)) else (1,[],[],[])
theorem zau6 (u:TUnit) (n:Names) (R:Bool) {T:Type} (a b:Option T) :
    (Option.bind (α:=Bool) (bif !R then some true else some ((n.cells.length:Int) != (u.cells.length:Int))) fun y1=>
     Option.bind (α:=Bool) (bif y1 then some true else some ((n.mutexes.length:Int) != u.mutexes)) fun y2=>
     Option.bind (α:=Bool) (bif y2 then some true else some ((n.threads.length:Int) != (u.threads.length:Int))) fun y3=>
     Option.bind (α:=Bool) (bif y3 then some true else some ((n.regs.length:Int) != (u.threads.length:Int))) fun y4=>
     bif y4 then a else b)=bif !R||unfit u n then a else b:=by
  unfold unfit;simp only[zab8,Option.bind_some,cor];simp only[Bool.or_assoc]
theorem zash (u:TUnit) (n:Names) (h:nB u.threads≤100000000) (hc:u.cells.length≤100000000):qal u n=some (backV u n):=by
 rw[qal,zaaa];unfold qal_f backV;have hl:=zalw u.threads;rw[show TUnit.mk u.cells u.mutexes u.threads=u from rfl,zaie u h hc,Option.bind_some,zau6];cases hbad:(!zadq u||unfit u n) with
 |true=>rfl
 |false=>
  rw[Bool.or_eq_false_iff] at hbad;have hR:zadq u=true:=by simpa using hbad.1
  obtain ⟨r1,r2,r3,r4,r5⟩:=zau3 u hR;obtain ⟨hfit,hrl⟩:=zaxb hbad.2;simp only[cond_false];have hz:(u.threads.zip n.regs).length=u.threads.length:=by simp[hrl]
  have e4 := zacj (σ := Unit) (u.threads.zip n.regs) (fun _ _ => True) (fun r _ => (bif r.all zaf5 then .inr (u.cells, u.mutexes, u.threads, n.cells, n.mutexes, n.threads, n.regs) else .inl 1 : Int ⊕ (List Int × Int × List TBody × List Nm × List Nm × List Nm × List (List Nm))))
   (fun m i _=>qal_i4 m u.threads u.threads.length i u.cells u.mutexes u.threads n.cells n.mutexes n.threads n.regs)
   (fun m i s h0 h _=>by
    rw[hz] at h;simp only[qal_i4,qal_t4,decide_eq_false h,cond_false];rfl)
   (fun m i s z r h0 h hy hm hI=>by
    rw[hz] at h;obtain ⟨g1,g2⟩:=zad9 hy;simp only[qal_i4,qal_t4,decide_eq_true h,decide_eq_true h0,cond_true,g1,g2,Option.bind_some,List.all_cons,zaf5,bne];cases ((z.2.length:Int)==z.1.regs) with
    |false=>exact Or.inr rfl
    |true=>
     refine Or.inl ⟨(),trivial,?_,rfl⟩;rw[Bool.not_true,cond_false,i64_in (i+1) (by omega)])
   fuel () (by rw[hz]; unfold fuel; omega) trivial
  rw[qal_l4,zaaa,e4];cases (u.threads.zip n.regs).all zaf5 with
  |false=>rfl
  |true=>
   simp only[cond_true,Option.bind_some];rw[show TUnit.mk u.cells u.mutexes u.threads=u from rfl,show Names.mk n.cells n.mutexes n.threads n.regs=n from rfl,zaor u n h hc (by have:=hfit.m; omega) hfit.c hfit.t hrl];simp only[Option.bind_some,zadw];have hnT:=zaq7 u n hfit.t hrl;have hcl:(zaar u n).cells.length≤100000000:=by
    show ((u.cells.zip n.cells).map _).length≤_;simp;omega
   rw[zaja (zaar u n) (by rw[hnT]; exact h) hcl (by show n.mutexes.length≤_; have:=hfit.m; omega),Option.bind_some];cases zabh (zaar u n) != 0<;>rfl
end Lift.A9
namespace Lift.A9
open Go Go.RowKit Lift Go.IntWalk Lift.Fn Lift.A3
set_option linter.unusedVariables false
set_option linter.unusedSimpArgs false
theorem zard:∀ (l:List Nm) (s:Nm),0≤plc l s→atL l (plc l s)=s:=by
 intro l s h;have hr:=(zajf l s).2;have g:=zal0 h hr;have key:∀ (l:List Nm),0≤plc l s→l[(plc l s).toNat]? = some s:=by
  intro l;induction l with
  |nil=>intro h; rw[zamv] at h; omega
  |cons x l ih=>
   rw[zah7];cases hx:x==s with
   |true=>
    intro _;have:=eq_of_beq hx;rw[this];rfl
   |false=>
    rw[cond_false];cases hd:decide (plc l s<0) with
    |true=>rw[cond_true]; intro h; omega
    |false=>
     rw[decide_eq_false_iff_not] at hd;rw[cond_false];intro _;have e:(plc l s+1).toNat=(plc l s).toNat+1:=by omega
     rw[e,List.getElem?_cons_succ];exact ih (by omega)
 rw[key l h] at g;exact (Option.some.inj g).symm
theorem zaru {l:List Nm} {i:Int} {RS:List Nm} (h:l <+: RS) (h0:0≤i) (hl:i<(l.length:Int)):atL RS i=atL l i:=by
 obtain ⟨t,rfl⟩:=h;have e1:=zal0 h0 hl;have e2:i<((l++t).length:Int):=by rw[List.length_append]; omega
 have e3:=zal0 h0 e2;rw[List.getElem?_append_left (by omega),e1] at e3;exact (Option.some.inj e3).symm
theorem zanf {tf:Nm→Bool} {rs:List Nm} {s:Nm} {y:Int×List Nm} (h:regM tf rs s=.inl y) :
  rs <+: y.2∧0≤y.1∧y.1<(y.2.length:Int)∧∀ RS,y.2 <+: RS→atL RS y.1=s:=by
 unfold regM at h;cases ht:tf s with
 |true=>rw[ht] at h; cases h
 |false=>
  rw[ht,cond_false] at h;cases hd:decide (plc rs s<0) with
  |false=>
   rw[hd] at h;cases h;rw[decide_eq_false_iff_not] at hd;have hr:=(zajf rs s).2;refine ⟨List.prefix_refl _,by show 0≤plc rs s; omega,hr,fun RS hp=>?_⟩;show atL RS (plc rs s)=s;rw[zaru hp (by omega) hr,zard rs s (by omega)]
  |true=>
   rw[hd,cond_true] at h;by_cases h8:8≤rs.length
   ·rw[decide_eq_true h8] at h; cases h
   ·rw[decide_eq_false h8] at h;cases h;refine ⟨⟨[s],rfl⟩,by show (0:Int)≤(rs.length:Int); omega,by show (rs.length:Int)<_; simp; omega,fun RS hp=>?_⟩;have hl:((rs.length:Nat):Int)<((rs++[s]).length:Int):=by simp; omega
    show atL RS (rs.length:Int)=s;rw[zaru hp (by omega) hl];have g:=zal0 (l:=rs++[s]) (i:=(rs.length:Int)) (by omega) hl;rw[Int.toNat_natCast,List.getElem?_append_right (Nat.le_refl _),Nat.sub_self] at g;exact (Option.some.inj g).symm
theorem zaum {x:TExpr} (h:xOk x=true):(x.kind=2→x.num=0)∧(x.kind≠2→x.name=[]):=by
 unfold xOk at h;constructor
 ·intro hk;have h1:(x.kind==1)=false:=by rw[hk]; rfl
  have h2:(x.kind==2)=true:=by rw[hk]; rfl
  rw[h1,h2,cond_false,cond_true] at h;simp only[Bool.and_eq_true,beq_iff_eq] at h;exact h.1.2
 ·intro hk;have h2:(x.kind==2)=false:=by rw[beq_eq_false_iff_ne]; exact hk
  rw[h2] at h;revert h;simp only[cond_false];cases x.kind==1 with
  |true=>simp only[cond_true,Bool.and_eq_true]; intro h; exact eq_of_beq h.1.2
  |false=>
   simp only[cond_false];cases (x.kind==3||x.kind==4) with
   |true=>simp only[cond_true,Bool.and_eq_true]; intro h; exact eq_of_beq h.2
   |false=>simp only[cond_false,Bool.and_eq_true]; intro h; exact eq_of_beq h.2
structure XB (u:TUnit) (n:Names) (x:TExpr) (rs:List Nm) (y:TExpr×List Nm):Prop where
 p:rs <+: y.2
 k:y.1.kind=x.kind
 b:∀ RS,y.2 <+: RS→nX (nmB n RS) y.1=x
 r:∀ R:Int,(y.2.length:Int)≤R→eF (nX (nmU u R) y.1)=true
mutual
theorem zapz (tf:Nm→Bool) (u:TUnit) (n:Names):∀ (x:TExpr) (rs:List Nm) (y:TExpr×List Nm),eF x=true→exM tf x rs=.inl y→XB u n x rs y
 |⟨k,m,s,l⟩,rs,y,hx,h=>by
  rw[eF,Bool.and_eq_true] at hx;obtain ⟨hx1,hx2⟩:=hx;obtain ⟨p1,p2⟩:=zaum hx1;rw[exM] at h;cases hk:k==2 with
  |true=>
   have hk2:k=2:=eq_of_beq hk;subst hk2;have hm:m=0:=p1 rfl;subst hm;have hl0:l=[]:=by
    unfold xOk at hx1;have q1:((2:Int)==1)=false:=rfl;have q2:((2:Int)==2)=true:=rfl;simp only[q1,q2,cond_false,cond_true,Bool.and_eq_true,beq_iff_eq] at hx1;exact List.eq_nil_of_length_eq_zero (by have:=hx1.2; omega)
   subst hl0;simp only[hk,cond_true] at h;cases hr:regM tf rs s with
   |inr e=>rw[hr] at h; cases h
   |inl q=>
    rw[hr] at h;have hz:exMs tf [] q.2=.inl ([],q.2):=by rw[exMs]
    simp only[hz] at h;cases h;obtain ⟨b1,b2,b3,b4⟩:=zanf hr;refine ⟨b1,rfl,fun RS hp=>?_,fun R hR=>?_⟩
    ·rw[nX_eq];have:=b4 RS hp;show (⟨2,0,atL RS q.1,[]⟩:TExpr)=_;rw[this]
    ·rw[eF_eq,zauj,zaju];have q1:((2:Int)==1)=false:=rfl;have q2:((2:Int)==2)=true:=rfl;have hR:(q.2.length:Int)≤R:=hR;simp only[q1,q2,cond_false,cond_true];rw[decide_eq_true (by omega:q.1≥0),decide_eq_true (by omega:q.1<R)];rfl
  |false=>
   have hk2:k≠2:=by simpa using hk
   have hs:s=[]:=p2 hk2;subst hs;simp only[hk,cond_false] at h;cases hz:exMs tf l rs with
   |inr e=>rw[hz] at h; cases h
   |inl z=>
    rw[hz] at h;cases h;obtain ⟨b1,b2,b3,b4⟩:=zam5 tf u n l rs z hx2 hz;refine ⟨b1,rfl,fun RS hp=>?_,fun R hR=>?_⟩
    ·rw[nX_eq];simp only[hk,cond_false];have:=b3 RS hp;rw[this]
    ·rw[eF_eq,zauj,zaju];simp only[hk,cond_false];have e1:xOk ⟨k,m,[],z.1⟩=xOk ⟨k,m,[],l⟩:=by unfold xOk; simp only[b2]
     have:=b4 R hR;rw[this,e1];unfold xOk at hx1 ⊢;simp only[hk,cond_false] at hx1 ⊢;simp only[b2];revert hx1;cases k==1 with
     |true=>exact fun h=>by rw[Bool.and_true]; exact h
     |false=>exact fun h=>by rw[Bool.and_true]; exact h
theorem zam5 (tf:Nm→Bool) (u:TUnit) (n:Names):∀ (l:List TExpr) (rs:List Nm) (y:List TExpr×List Nm),eFs l=true→exMs tf l rs=.inl y →
  rs <+: y.2∧y.1.length=l.length∧(∀ RS,y.2 <+: RS→y.1.map (nX (nmB n RS))=l)∧∀ R:Int,(y.2.length:Int)≤R→(y.1.map (nX (nmU u R))).all eF=true
 |[],rs,y,_,h=>by
  rw[exMs] at h;cases h;exact ⟨List.prefix_refl _,rfl,fun _ _=>rfl,fun _ _=>rfl⟩
 |x::l,rs,y,hx,h=>by
  rw[eFs,Bool.and_eq_true] at hx;rw[exMs] at h;cases h1:exM tf x rs with
  |inr e=>rw[h1] at h; cases h
  |inl a=>
   rw[h1] at h;simp only at h;cases h2:exMs tf l a.2 with
   |inr e=>rw[h2] at h; cases h
   |inl b=>
    rw[h2] at h;cases h;obtain ⟨a1,a2,a3,a4⟩:=zapz tf u n x rs a hx.1 h1;obtain ⟨b1,b2,b3,b4⟩:=zam5 tf u n l a.2 b hx.2 h2;refine ⟨a1.trans b1,by simp[b2],fun RS hp=>?_,fun R hR=>?_⟩
    ·simp only[List.map_cons];rw[a3 RS (b1.trans hp),b3 RS hp]
    ·have hR:(b.2.length:Int)≤R:=hR;have:=b1.length_le;simp only[List.map_cons,List.all_cons];rw[a4 R (by omega),b4 R hR];rfl
end
end Lift.A9
namespace Lift.A9
open Go Go.RowKit Lift Go.IntWalk Lift.Fn Lift.A3
set_option linter.unusedVariables false
set_option linter.unusedSimpArgs false
structure SB (u:TUnit) (n:Names) (x:TStmt) (rs:List Nm) (y:TAct×List Nm):Prop where
 p:rs <+: y.2
 b:∀ RS,y.2 <+: RS→nSt (nmB n RS) y.1=x
 r:∀ R:Int,(y.2.length:Int)≤R→sF (nSt (nmU u R) y.1)=true
structure LB (u:TUnit) (n:Names) (l:List TStmt) (rs:List Nm) (y:List TAct×List Nm):Prop where
 p:rs <+: y.2
 k:y.1.length=l.length
 b:∀ RS,y.2 <+: RS→nSts (nmB n RS) y.1=l
 r:∀ R:Int,(y.2.length:Int)≤R→sFs (nSts (nmU u R) y.1)=true
theorem zaqb (n:Namer) (l:List TAct):(nSts n l).length=l.length:=by rw[zak9,List.length_map]
theorem zat3 {tf:Nm→Bool} {rs:List Nm} {s:Nm} {y:Int×List Nm} (h:regO tf rs s=.inl y) :
  rs <+: y.2∧(s≠[]→0≤y.1∧y.1<(y.2.length:Int)∧∀ RS,y.2 <+: RS→atL RS y.1=s)∧(s=[]→y.1=0):=by
 unfold regO at h;cases hs:s==[] with
 |true=>
  rw[hs] at h;cases h;exact ⟨List.prefix_refl _,fun q=>absurd (eq_of_beq hs) q,fun _=>rfl⟩
 |false=>
  rw[hs] at h;obtain ⟨a,b,c,d⟩:=zanf h;exact ⟨a,fun _=>⟨b,c,d⟩,fun q=>by rw[q] at hs; cases hs⟩
def lsK (n:Names) (k:Int):List Nm:=bif needK k==1 then n.cells else bif needK k==2 then n.mutexes else n.threads
theorem zav9 {u:TUnit} {n:Names} (hf:Fit u n) {k:Int} (h:needK k≠0):((lsK n k).length:Int)=thN u k:=by
 unfold lsK thN needK at *;revert h;cases (k==2||k==3||k==4) with
 |true=>intro _; show (n.cells.length:Int)=(u.cells.length:Int); rw[hf.c]
 |false=>
  cases (k==5||k==6) with
  |true=>intro _; exact hf.m
  |false=>
   cases (k==7||k==8) with
   |true=>intro _; show (n.threads.length:Int)=(u.threads.length:Int); rw[hf.t]
   |false=>intro h; exact absurd rfl h
theorem zaw6 (m:Namer) (x:TAct) (n:Names) (h1:m.cells=n.cells) (h2:m.mutexes=n.mutexes) (h3:m.threads=n.threads) (h:needK x.kind≠0):stN m x=atL (lsK n x.kind) x.obj:=by
 unfold stN lsK;rw[h1,h2,h3];rcases zafa x.kind with q|q|q|q
 ·exact absurd q h
 ·rw[q]; rfl
 ·rw[q]; rfl
 ·rw[q]; rfl
theorem zat7 {n:Names} {k:Int} {s:Nm} {i:Int} (h:objN n k s=.inl i):(needK k≠0→0≤i∧i<((lsK n k).length:Int)∧atL (lsK n k) i=s)∧(needK k=0→i=0):=by
 unfold objN at h;cases hk:needK k==0 with
 |true=>
  rw[hk] at h;cases h;exact ⟨fun q=>absurd (eq_of_beq hk) q,fun _=>rfl⟩
 |false=>
  have hk0:needK k≠0:=by simpa using hk
  rw[hk,cond_false] at h;cases ht:thing n s with
  |false=>rw[ht] at h; cases h
  |true=>
   rw[ht,cond_true] at h;have e:plK n k s=plc (lsK n k) s:=by
    unfold plK lsK;cases needK k==1<;>cases needK k==2<;>rfl
   cases hd:decide (plK n k s<0) with
   |true=>rw[hd] at h; cases h
   |false=>
    rw[hd] at h;cases h;rw[decide_eq_false_iff_not,e] at hd;refine ⟨fun _=>?_,fun q=>absurd q hk0⟩;rw[e];exact ⟨by omega,(zajf _ _).2,zard _ _ (by omega)⟩
theorem zato {x:TExpr} (h:none_ x=true):x=⟨0,0,[],[]⟩:=by
 obtain ⟨k,m,s,l⟩:=x;unfold none_ at h;simp only[Bool.and_eq_true,beq_iff_eq] at h;obtain ⟨⟨⟨rfl,rfl⟩,rfl⟩,h4⟩:=h;have:l=[]:=List.eq_nil_of_length_eq_zero (by omega);subst this;rfl
structure OB (u:TUnit) (n:Names) (x:TExpr) (rs:List Nm) (y:TExpr×List Nm):Prop where
 p:rs <+: y.2
 k:y.1.kind=x.kind
 z:x.kind=0→none_ y.1=true
 b:∀ RS,y.2 <+: RS→nX (nmB n RS) y.1=x
 r:∀ R:Int,(y.2.length:Int)≤R→(if zaaq (nX (nmU u R) y.1) then eF (nX (nmU u R) y.1) else true)=true
theorem zavn {tf:Nm→Bool} {u:TUnit} {n:Names} {x:TExpr} {rs:List Nm} {y:TExpr×List Nm} (h0:x.kind=0→none_ x=true) (h1:x.kind≠0→eF x=true) (h:exO tf x rs=.inl y):OB u n x rs y:=by
 unfold exO at h;cases hk:x.kind==0 with
 |true=>
  rw[hk] at h;cases h;have hk0:x.kind=0:=eq_of_beq hk;have hz:=zato (h0 hk0);refine ⟨List.prefix_refl _,hk0.symm,fun _=>rfl,fun RS _=>?_,fun R _=>?_⟩
  ·show nX (nmB n RS) ⟨0,0,[],[]⟩=x;rw[hz,nX_eq];rfl
  ·show (if zaaq (nX (nmU u R) ⟨0,0,[],[]⟩) then _ else true)=true;rw[nX_eq];rfl
 |false=>
  rw[hk] at h;have hk0:x.kind≠0:=by simpa using hk
  obtain ⟨a,b,c,d⟩:=zapz tf u n x rs y (h1 hk0) h;refine ⟨a,b,fun q=>absurd q hk0,c,fun R hR=>?_⟩;rw[d R hR];simp
mutual
theorem zav2 (u:TUnit) (n:Names) (hf:Fit u n):∀ (x:TStmt) (rs:List Nm) (y:TAct×List Nm),sF x=true→acN (thing n) (objN n) x rs=.inl y→SB u n x rs y
 |⟨k,rg,nm,e,c,t,o⟩,rs,y,hx,h=>by
  rw[sF_eq] at hx;simp only[Bool.and_eq_true] at hx;obtain ⟨h1,h2,h3,h4⟩:=hx;obtain ⟨hin,f1,f2,f3⟩:=zaog h1;simp only at f1 f2 f3 hin;have hh:=h1;unfold sOk at hh;simp only[Bool.and_eq_true] at hh;obtain ⟨⟨⟨⟨⟨⟨_,_⟩,g3⟩,g4⟩,g5⟩,g6⟩,g7⟩:=hh;rw[acN] at h;cases e1:regO (thing n) rs rg with
  |inr q=>rw[e1] at h; cases h
  |inl a=>
   rw[e1] at h;simp only at h;cases e2:objN n k nm with
   |inr q=>rw[e2] at h; cases h
   |inl b=>
    rw[e2] at h;simp only at h;cases e3:exO (thing n) e a.2 with
    |inr q=>rw[e3] at h; cases h
    |inl z=>
     rw[e3] at h;simp only at h;cases e4:acNs (thing n) (objN n) t z.2 with
     |inr q=>rw[e4] at h; cases h
     |inl p=>
      rw[e4] at h;simp only at h;cases e5:acNs (thing n) (objN n) o p.2 with
      |inr q=>rw[e5] at h; cases h
      |inl q=>
       rw[e5] at h;cases h;obtain ⟨r1,r2,r3⟩:=zat3 e1;obtain ⟨o1,o2⟩:=zat7 e2;have hz:e.kind=0→none_ e=true:=by
        intro q0;have:(shp k).expr=false:=by rw[f3,q0]; rfl
        rw[this] at g4;simpa using g4
       have he:e.kind≠0→eF e=true:=by
        intro q0;have:zaaq e=true:=by
         unfold zaaq;have:(e.kind != 0)=true:=by simpa [bne] using q0
         rw[this];rfl
        rw[if_pos this] at h2;exact h2
       have X:=zavn (u:=u) (n:=n) hz he e3;have T:=zaff u n hf t z.2 p h3 e4;have O:=zaff u n hf o p.2 q h4 e5;have hregs:hasR k=!(rg==[]):=by rw[← zamt hin]; exact f1
       have reg0:hasR k=false→a.1=0∧rg=[]:=by
        intro w;have:rg=[]:=by rw[hregs] at w; simpa using w
        exact ⟨r3 this,this⟩
       have reg1:hasR k=true→0≤a.1∧a.1<(a.2.length:Int)∧∀ RS,a.2 <+: RS→atL RS a.1=rg:=by
        intro w;exact r2 (by rw[hregs] at w; simpa using w)
       have nm0:needK k=0→nm=[]:=by
        intro w;have:(shp k).name=false:=by rw[f2,w]; rfl
        rw[this] at g3;unfold isOpt at g3;simpa using g3
       have bad1:(!hasR k&&a.1 != 0)=false:=by
        cases w:hasR k with
        |true=>rfl
        |false=>rw[(reg0 w).1]; rfl
       have bad2:(needK k==0&&b != 0)=false:=by
        cases w:needK k==0 with
        |false=>rfl
        |true=>rw[o2 (eq_of_beq w)]; rfl
       have hst:stK ⟨k,a.1,b,z.1,c,p.1,q.1⟩=k:=by
        unfold stK;simp only[bad1,bad2,Bool.or_self,cond_false]
       have pa:a.2 <+: q.2:=X.p.trans (T.p.trans O.p);have pz:z.2 <+: q.2:=T.p.trans O.p;refine ⟨r1.trans pa,fun RS hp=>?_,fun R hR=>?_⟩
       ·rw[zalg,hst];simp only;rw[X.b RS (pz.trans hp),T.b RS (O.p.trans hp),O.b RS hp];have s1:stR (nmB n RS) ⟨k,a.1,b,z.1,c,p.1,q.1⟩=rg:=by
         unfold stR;cases w:hasR k with
         |true=>exact (reg1 w).2.2 RS (pa.trans hp)
         |false=>exact (reg0 w).2.symm
        have s2:stN (nmB n RS) ⟨k,a.1,b,z.1,c,p.1,q.1⟩=nm:=by
         by_cases w:needK k=0
         ·unfold stN;simp only[w];exact (nm0 w).symm
         ·rw[zaw6 _ _ n rfl rfl rfl w];exact (o1 w).2.2
        rw[s1,s2]
       ·have hR:(q.2.length:Int)≤R:=hR;have l1:=pa.length_le;have l2:=pz.length_le;have l3:=O.p.length_le;rw[sF_eq];have ok:sOk (nSt (nmU u R) ⟨k,a.1,b,z.1,c,p.1,q.1⟩)=true:=by
         have s1:=zaxc u R ⟨k,a.1,b,z.1,c,p.1,q.1⟩ bad1 hin;have s2:=zaxm u R ⟨k,a.1,b,z.1,c,p.1,q.1⟩ bad2 hin;simp only at s1 s2;rw[zalg];unfold sOk;simp only[hst];rw[s1,s2,hin,zahi,zawn,zaqb,zaqb,T.k,O.k,X.k];have c1:(((shp k).reg&&!(decide (a.1<0)||decide (a.1≥R)))||(!(shp k).reg&&a.1==0))=true:=by
          rw[zamt hin];cases w:hasR k with
          |true=>
           have:=reg1 w;rw[decide_eq_false (by omega:¬ a.1<0),decide_eq_false (by omega:¬ a.1≥R)];rfl
          |false=>rw[(reg0 w).1]; rfl
         have c2:(((shp k).name&&!(decide (b<0)||decide (b≥thN u k)))||(!(shp k).name&&b==0))=true:=by
          rw[f2];cases w:needK k==0 with
          |true=>rw[o2 (eq_of_beq w)]; rfl
          |false=>
           have w':needK k≠0:=by simpa using w
           have:=o1 w';have hl:=zav9 hf w';rw[decide_eq_false (by omega:¬ b<0),decide_eq_false (by omega:¬ b≥thN u k)];rfl
         have c3:(((shp k).expr&&e.kind != 0)||(!(shp k).expr&&none_ z.1))=true:=by
          rw[f3];cases w:e.kind==0 with
          |true=>rw[X.z (eq_of_beq w)]; simp
          |false=>simp[bne,w]
         rw[c1,c2,c3,g5,g6,g7];rfl
        rw[ok,zalg];simp only;rw[X.r R (by omega),T.r R (by omega),O.r R hR];rfl
theorem zaff (u:TUnit) (n:Names) (hf:Fit u n):∀ (l:List TStmt) (rs:List Nm) (y:List TAct×List Nm),sFs l=true→acNs (thing n) (objN n) l rs=.inl y→LB u n l rs y
 |[],rs,y,_,h=>by
  rw[zagb] at h;cases h;exact ⟨List.prefix_refl _,rfl,fun _ _=>by rw[nSts],fun _ _=>by rw[nSts,sFs]⟩
 |x::l,rs,y,hx,h=>by
  rw[sFs,Bool.and_eq_true] at hx;rw[zagw] at h;cases e1:acN (thing n) (objN n) x rs with
  |inr q=>rw[e1] at h; cases h
  |inl a=>
   rw[e1] at h;simp only at h;cases e2:acNs (thing n) (objN n) l a.2 with
   |inr q=>rw[e2] at h; cases h
   |inl b=>
    rw[e2] at h;cases h;have A:=zav2 u n hf x rs a hx.1 e1;have B:=zaff u n hf l a.2 b hx.2 e2;refine ⟨A.p.trans B.p,by simp[B.k],fun RS hp=>?_,fun R hR=>?_⟩
    ·rw[nSts,A.b RS (B.p.trans hp),B.b RS hp]
    ·have hR:(b.2.length:Int)≤R:=hR;have:=B.p.length_le;rw[nSts,sFs,A.r R (by omega),B.r R hR];rfl
end
end Lift.A9
